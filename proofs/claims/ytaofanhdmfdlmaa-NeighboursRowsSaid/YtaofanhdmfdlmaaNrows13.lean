import Derived.Test.YtaofanhdmfdlmaaNrows0
import Derived.Test.YtaofanhdmfdlmaaNrows12
import Derived.Test.YtaofanhdmfdlmaaNrows6
-- PRINTED by print.py (a twelfth state) out of the translation. Not trusted: Lean checks it.
namespace Go.Proofs.Ytaofanhdmfdlmaa.Print
open Go.RowKit Go.Proofs.YtaofanhdmfdlmaaW.PrintWords Go.Proofs.YtaofanhdmfdlmaaW.PrintLast Go.Proofs.YtaofanhdmfdlmaaW.PrintMore
attribute [local go_sem] max2_int min2_int max_two min_two max_three min_three max_four min_four   -- for this text's walks alone
set_option linter.unusedVariables false
set_option linter.unusedSimpArgs false

/-! ### neighbours_Places: function 53 -/
def neighbours_Places.f (k : Nat) (a0 : Int) (a1 : Int) : Option (List Int × Int) := (neighbours_of.f a0).bind fun bt733 => (if bt733.2.2 = 0 then ((neighbours_code_places.f k bt733.1 bt733.2.1 a1).bind fun t739 => (some (t739, 0))) else (some (([] : List Int), bt733.2.2)))
set_option maxHeartbeats 8000000 in
set_option maxRecDepth 100000 in
theorem neighbours_Places.calls (k : Nat) (a0 : Int) (a1 : Int) (r1 : List Int) (r2 : Int) (w : World) (h : neighbours_Places.f k a0 a1 = some (r1, r2)) :
    Calls Try.prog 53 #[.int .i64 a0, .int .u64 a1] w fun e w' => ∃ v0_ : Value, e = .returned (.tuple #[v0_, .int .i64 r2]) ∧ Kd.R (Kd.int .i64) 3 w' w.heap.size (fun _ => True) v0_ r1 ∧ Below w.heap.size w w' := by
  have hu146 := Try.underlying146
  have HB := Aside0.mk (Below.refl w.heap.size w)
  have H : ((neighbours_of.f a0).bind fun bt733 => (if bt733.2.2 = 0 then ((neighbours_code_places.f k bt733.1 bt733.2.1 a1).bind fun t739 => (some (t739, 0))) else (some (([] : List Int), bt733.2.2)))) = some (r1, r2) := h
  clear h
  replace H := Option.bind_eq_some_iff.mp H
  obtain ⟨⟨t733, t734, t737⟩, A30, H⟩ := H
  replace H : (if t737 = 0 then ((neighbours_code_places.f k t733 t734 a1).bind fun t739 => (some (t739, 0))) else (some (([] : List Int), t737))) = some (r1, r2) := H
  have A3 := Aside0.mk A30
  clear A30
  by_cases c4 : t737 = 0
  · rw [if_pos c4] at H
    have c4b0 : (t737 == 0) = true := beq_iff_eq.mpr c4
    have c4b1 : (t737 != 0) = false := bne_eq_false_iff_eq.mpr c4
    clear c4
    replace H := Option.bind_eq_some_iff.mp H
    obtain ⟨t739, A50, H⟩ := H
    replace H : (some (t739, 0)) = some (r1, r2) := H
    have A5 := Aside0.mk A50
    clear A50
    simp only [Option.some.injEq, Prod.mk.injEq] at H
    obtain ⟨rfl, rfl⟩ := H
    go_enter Try.func53, Try.ntmps53
    go_wp2_with (first | ((with_reducible refine gate_callee (f := 105) rfl ?_); refine goesL_ (some 10) rfl rfl Try.func105 (by kernel_rfl) rfl #[.int .i64 a0] rfl (by (try simp only [List.map_toArray, List.map_cons, List.map_nil]); first | done | rfl | (simp only [List.length_drop, List.length_take]; rfl)) ?_; (with_reducible refine (neighbours_of.calls a0 t733 t734 t737 _ A3.out).mono ?_); rintro e w6 ⟨v735, rfl, ho0, hb⟩; refine ⟨_, rfl, ?_⟩; have n0_ := Aside0.mk (Kd.R_lower ho0 (below_size (by repeat (first | (with_reducible first | exact HB.out | apply below_alloc | apply pw_below_drewN | apply below_drew1) | exact HB.out)))); have n1_ := Aside0.mk (below_step (by repeat (first | (with_reducible first | exact HB.out | apply below_alloc | apply pw_below_drewN | apply below_drew1) | exact HB.out)) hb); clear HB; have HO736 := n0_; have HB := n1_; clear n0_ n1_; (try clear hb); (try clear hb2); (try clear hk); (try clear hi); (try clear ho0)) | ((with_reducible refine gate_dst (N := 6) rfl ?_); refine box_event ?hg (N := 6) ?hd (cs := #[.int .i64 0, .slice none 0 0]) (t := 146) ?hr ?_; (case hd => rfl); (case hg => rfl); (case hr => first | (go_simp; done) | (go_simp; rfl)); intro gb738 hg w7 hbox hb; have n0_ := Aside0.mk (Kd.R_below (by (with_reducible repeat (first | apply Kd.R_alloc | apply Kd.R_drewN | apply Kd.R_drew)); exact HO736.out) hb); have n1_ := Aside0.mk (below_step (by repeat (first | (with_reducible first | exact HB.out | apply below_alloc | apply pw_below_drewN | apply below_drew1) | exact HB.out)) hb); have n2_ := Aside0.mk (hbox); have n3_ := Aside0.mk ((by rw [hg]; exact (below_size (by repeat (first | (with_reducible first | exact HB.out | apply below_alloc | apply pw_below_drewN | apply below_drew1) | exact HB.out))) : w.heap.size ≤ gb738)); have n4_ := Aside0.mk ((by rw [hg]; exact (below_size (by repeat (first | (with_reducible first | exact HB.out | apply below_alloc | apply pw_below_drewN | apply below_drew1) | exact HB.out))) : w.heap.size ≤ gb738)); clear HO736; clear HB; have HO736 := n0_; have HB := n1_; have BK738 := n2_; have GW738 := n3_; have GE738 := n4_; clear n0_ n1_ n2_ n3_ n4_; clear hb hbox hg; have hcz8_0 : w7.cell? ⟨gb738, 0, none⟩ = some (.int .i64 0) := (blk_cell BK738.out 0).trans rfl; have hcz8_1 : w7.cell? ⟨gb738, 1, none⟩ = some (.slice none 0 0) := (blk_cell BK738.out 1).trans rfl; have hfz8_0 := blk_frozen BK738.out 0; have hfz8_1 := blk_frozen BK738.out 1; obtain ⟨Ao9, co9, eo9⟩ := Kd.R_slice HO736.out; subst eo9) | ((with_reducible refine gate_callee (f := 106) rfl ?_); refine goesL_ (some 18) rfl rfl Try.func106 (by kernel_rfl) rfl #[.agg #[.int .i64 t733, .slice Ao9 t734.length co9], .int .u64 a1] rfl (by (try simp only [List.map_toArray, List.map_cons, List.map_nil]); first | done | rfl | (simp only [List.length_drop, List.length_take]; rfl)) ?_; (with_reducible refine (neighbours_code_places.calls k t733 _ _ t734 a1 t739 _ ?side1 ?side2 A5.out).mono ?_); (case side1 => refine (Kd.R_reads' (e := 25) (base := w.heap.size) (ok := fun k_ => True) (n := t734.length) (c := co9) ?_).2.2; exact (by (with_reducible repeat (first | apply Kd.R_alloc | apply Kd.R_drewN | apply Kd.R_drew)); exact (Kd.R_mono (Kd.R_far (p := ⟨gb738, 1, none⟩) (Kd.R_far (p := ⟨gb738, 0, none⟩) (Kd.R_types HO736.out BK738.out (by decide)) (fun _ hk => hk.2) (.int .i64 t733)) (fun _ hk => hk.2) (.slice Ao9 t734.length co9)) (fun _ h_ => h_.1)))); (case side2 => exact (Kd.R_reads' HO736.out).2.1); rintro e w10 ⟨v740, rfl, ho0, hb⟩; refine ⟨_, rfl, ?_⟩; have n0_ := Aside0.mk (Kd.R_below (by (with_reducible repeat (first | apply Kd.R_alloc | apply Kd.R_drewN | apply Kd.R_drew)); exact (Kd.R_mono (Kd.R_far (p := ⟨gb738, 1, none⟩) (Kd.R_far (p := ⟨gb738, 0, none⟩) (Kd.R_types HO736.out BK738.out (by decide)) (fun _ hk => hk.2) (.int .i64 t733)) (fun _ hk => hk.2) (.slice Ao9 t734.length co9)) (fun _ h_ => h_.1))) hb); have n1_ := Aside0.mk (Kd.R_lower ho0 (below_size (by repeat (first | (with_reducible first | exact HB.out | apply below_alloc | apply pw_below_drewN | apply below_drew1 | refine below_set ?_ GE738.out) | exact HB.out)))); have n2_ := Aside0.mk (blk_below (g := gb738) (o := .cells #[.int .i64 t733, .slice Ao9 t734.length co9] 146 (0, 0)) (by (with_reducible repeat (first | refine blk_drewN ?_ _ | refine blk_drew ?_ | refine blk_alloc ?_ _)); refine blk_put (cs := #[.int .i64 t733, .slice none 0 0]) ?_ 1 _ rfl; (with_reducible repeat (first | refine blk_drewN ?_ _ | refine blk_drew ?_ | refine blk_alloc ?_ _)); refine blk_put (cs := #[.int .i64 0, .slice none 0 0]) ?_ 0 _ rfl; (with_reducible repeat (first | refine blk_drewN ?_ _ | refine blk_drew ?_ | refine blk_alloc ?_ _)); exact BK738.out) hb); have n3_ := Aside0.mk (below_step (by repeat (first | (with_reducible first | exact HB.out | apply below_alloc | apply pw_below_drewN | apply below_drew1 | refine below_set ?_ GE738.out) | exact HB.out)) hb); clear HO736; clear BK738; clear HB; have HO736 := n0_; have HO741 := n1_; have BK738 := n2_; have HB := n3_; clear n0_ n1_ n2_ n3_; (try clear hb); (try clear hb2); (try clear hk); (try clear hi); (try clear ho0)))
    go_ret2
    exact ⟨_, by first | rfl | (simp [errW_none, errW_some] <;> rfl) | (simp [*, errW_none, errW_some] <;> rfl), by (with_reducible repeat (first | apply Kd.R_alloc | apply Kd.R_drewN | apply Kd.R_drew)); exact HO741.out, by repeat (first | (with_reducible first | exact HB.out | apply below_alloc | apply pw_below_drewN | apply below_drew1 | refine below_set ?_ GE738.out) | exact HB.out)⟩
  · rw [if_neg c4] at H
    have c4b0 : (t737 == 0) = false := beq_eq_false_iff_ne.mpr c4
    have c4b1 : (t737 != 0) = true := bne_iff_ne.mpr c4
    simp only [Option.some.injEq, Prod.mk.injEq] at H
    obtain ⟨rfl, rfl⟩ := H
    go_enter Try.func53, Try.ntmps53
    go_wp2_with (first | ((with_reducible refine gate_callee (f := 105) rfl ?_); refine goesL_ (some 10) rfl rfl Try.func105 (by kernel_rfl) rfl #[.int .i64 a0] rfl (by (try simp only [List.map_toArray, List.map_cons, List.map_nil]); first | done | rfl | (simp only [List.length_drop, List.length_take]; rfl)) ?_; (with_reducible refine (neighbours_of.calls a0 t733 t734 t737 _ A3.out).mono ?_); rintro e w11 ⟨v735, rfl, ho0, hb⟩; refine ⟨_, rfl, ?_⟩; have n0_ := Aside0.mk (Kd.R_lower ho0 (below_size (by repeat (first | (with_reducible first | exact HB.out | apply below_alloc | apply pw_below_drewN | apply below_drew1) | exact HB.out)))); have n1_ := Aside0.mk (below_step (by repeat (first | (with_reducible first | exact HB.out | apply below_alloc | apply pw_below_drewN | apply below_drew1) | exact HB.out)) hb); clear HB; have HO736 := n0_; have HB := n1_; clear n0_ n1_; (try clear hb); (try clear hb2); (try clear hk); (try clear hi); (try clear ho0)) | ((with_reducible refine gate_dst (N := 6) rfl ?_); refine box_event ?hg (N := 6) ?hd (cs := #[.int .i64 0, .slice none 0 0]) (t := 146) ?hr ?_; (case hd => rfl); (case hg => rfl); (case hr => first | (go_simp; done) | (go_simp; rfl)); intro gb738 hg w12 hbox hb; have n0_ := Aside0.mk (Kd.R_below (by (with_reducible repeat (first | apply Kd.R_alloc | apply Kd.R_drewN | apply Kd.R_drew)); exact HO736.out) hb); have n1_ := Aside0.mk (below_step (by repeat (first | (with_reducible first | exact HB.out | apply below_alloc | apply pw_below_drewN | apply below_drew1) | exact HB.out)) hb); have n2_ := Aside0.mk (hbox); have n3_ := Aside0.mk ((by rw [hg]; exact (below_size (by repeat (first | (with_reducible first | exact HB.out | apply below_alloc | apply pw_below_drewN | apply below_drew1) | exact HB.out))) : w.heap.size ≤ gb738)); have n4_ := Aside0.mk ((by rw [hg]; exact (below_size (by repeat (first | (with_reducible first | exact HB.out | apply below_alloc | apply pw_below_drewN | apply below_drew1) | exact HB.out))) : w.heap.size ≤ gb738)); clear HO736; clear HB; have HO736 := n0_; have HB := n1_; have BK738 := n2_; have GW738 := n3_; have GE738 := n4_; clear n0_ n1_ n2_ n3_ n4_; clear hb hbox hg; have hcz13_0 : w12.cell? ⟨gb738, 0, none⟩ = some (.int .i64 0) := (blk_cell BK738.out 0).trans rfl; have hcz13_1 : w12.cell? ⟨gb738, 1, none⟩ = some (.slice none 0 0) := (blk_cell BK738.out 1).trans rfl; have hfz13_0 := blk_frozen BK738.out 0; have hfz13_1 := blk_frozen BK738.out 1; obtain ⟨Ao14, co14, eo14⟩ := Kd.R_slice HO736.out; subst eo14))
    go_ret2
    exact ⟨_, by first | rfl | (simp [errW_none, errW_some] <;> rfl) | (simp [*, errW_none, errW_some] <;> rfl), by first | exact Kd.R_nil _ _ _ _ _ | exact Kd.N_nil _ _ _ _ _ | exact Kd.V_nil _ _ _ _ _ | exact Kd.Q_nil _ _ _ _ _ | exact Kd.S_nil _ _ _ _ _, by repeat (first | (with_reducible first | exact HB.out | apply below_alloc | apply pw_below_drewN | apply below_drew1 | refine below_set ?_ GE738.out) | exact HB.out)⟩

/-! ### neighbours_Row: function 54 -/
/-! ### downpourlaw08_alive: function 55 -/
def downpourlaw08_alive.f (k : Nat)  : Option (Bool) := (neighbours_Places.f k 1 7).bind fun bt778 => (if bt778.2 = 0 then (if (bt778.1.length : Int) = 1 then (if 0 < (bt778.1.length : Int) then (some ((rd bt778.1 0) == 0)) else (none)) else (some false)) else (some false))
set_option maxHeartbeats 8000000 in
set_option maxRecDepth 100000 in
theorem downpourlaw08_alive.calls (k : Nat)  (r : Bool) (w : World) (h : downpourlaw08_alive.f k  = some r) :
    Calls Try.prog 55 #[] w fun e w' => e = .returned (.bool r) ∧ Below w.heap.size w w' := by
  have HB := Aside0.mk (Below.refl w.heap.size w)
  have H : ((neighbours_Places.f k 1 7).bind fun bt778 => (if bt778.2 = 0 then (if (bt778.1.length : Int) = 1 then (if 0 < (bt778.1.length : Int) then (some ((rd bt778.1 0) == 0)) else (none)) else (some false)) else (some false))) = some r := h
  clear h
  replace H := Option.bind_eq_some_iff.mp H
  obtain ⟨⟨t778, t779⟩, A10, H⟩ := H
  replace H : (if t779 = 0 then (if (t778.length : Int) = 1 then (if 0 < (t778.length : Int) then (some ((rd t778 0) == 0)) else (none)) else (some false)) else (some false)) = some r := H
  have A1 := Aside0.mk A10
  clear A10
  by_cases c2 : t779 = 0
  · rw [if_pos c2] at H
    have c2b0 : (t779 == 0) = true := beq_iff_eq.mpr c2
    have c2b1 : (t779 != 0) = false := bne_eq_false_iff_eq.mpr c2
    clear c2
    by_cases c3 : (t778.length : Int) = 1
    · rw [if_pos c3] at H
      have c3b0 : ((t778.length : Int) == 1) = true := beq_iff_eq.mpr c3
      have c3b1 : ((t778.length : Int) != 1) = false := bne_eq_false_iff_eq.mpr c3
      clear c3
      by_cases c4 : 0 < (t778.length : Int)
      · rw [if_pos c4] at H
        have c4b0 : decide (0 < (t778.length : Int)) = true := decide_eq_true c4
        have c4b1 : decide (0 < t778.length) = true := decide_eq_true (by omega)
        clear c4
        obtain rfl := Option.some.inj H
        go_enter Try.func55, Try.ntmps55
        go_wp2_with (first | ((with_reducible refine gate_callee (f := 53) rfl ?_); refine goesL_ (some 4) rfl rfl Try.func53 (by kernel_rfl) rfl #[.int .i64 1, .int .u64 7] rfl (by (try simp only [List.map_toArray, List.map_cons, List.map_nil]); first | done | rfl | (simp only [List.length_drop, List.length_take]; rfl)) ?_; (with_reducible refine (neighbours_Places.calls k 1 7 t778 t779 _ A1.out).mono ?_); rintro e w5 ⟨v780, rfl, ho0, hb⟩; refine ⟨_, rfl, ?_⟩; have n0_ := Aside0.mk (Kd.R_lower ho0 (below_size (by repeat (first | (with_reducible first | exact HB.out | apply below_alloc | apply pw_below_drewN | apply below_drew1) | exact HB.out)))); have n1_ := Aside0.mk (below_step (by repeat (first | (with_reducible first | exact HB.out | apply below_alloc | apply pw_below_drewN | apply below_drew1) | exact HB.out)) hb); clear HB; have HO781 := n0_; have HB := n1_; clear n0_ n1_; (try clear hb); (try clear hb2); (try clear hk); (try clear hi); (try clear ho0); obtain ⟨Ao6, co6, eo6⟩ := Kd.R_slice HO781.out; subst eo6; have p782 : 0 ≤ (0 : Int) := (by omega); have q782 : 0 < (t778.length : Int) := of_decide_eq_true (by first | (with_reducible assumption) | assumption); obtain ⟨ad782, e782, hx782_0⟩ := Kd.at_int (Kd.R_reads' HO781.out).2.2 0 p782 q782; cases e782; have qi782 : (0 < t778.length) = True := eq_true (by omega); (try rw [show ((0 : Int)).toNat = 0 from rfl] at hx782_0); (try rw [Addr.add_zero'] at hx782_0); replace p782 := eq_true p782; replace q782 := eq_true q782))
        go_ret
        exact ⟨by first | rfl | (simp [errW_none, errW_some] <;> rfl) | (simp [*, errW_none, errW_some] <;> rfl), by repeat (first | (with_reducible first | exact HB.out | apply below_alloc | apply pw_below_drewN | apply below_drew1) | exact HB.out)⟩
      · rw [if_neg c4] at H
        exact absurd H (by simp)
    · rw [if_neg c3] at H
      have c3b0 : ((t778.length : Int) == 1) = false := beq_eq_false_iff_ne.mpr c3
      have c3b1 : ((t778.length : Int) != 1) = true := bne_iff_ne.mpr c3
      obtain rfl := Option.some.inj H
      go_enter Try.func55, Try.ntmps55
      go_wp2_with (first | ((with_reducible refine gate_callee (f := 53) rfl ?_); refine goesL_ (some 4) rfl rfl Try.func53 (by kernel_rfl) rfl #[.int .i64 1, .int .u64 7] rfl (by (try simp only [List.map_toArray, List.map_cons, List.map_nil]); first | done | rfl | (simp only [List.length_drop, List.length_take]; rfl)) ?_; (with_reducible refine (neighbours_Places.calls k 1 7 t778 t779 _ A1.out).mono ?_); rintro e w7 ⟨v780, rfl, ho0, hb⟩; refine ⟨_, rfl, ?_⟩; have n0_ := Aside0.mk (Kd.R_lower ho0 (below_size (by repeat (first | (with_reducible first | exact HB.out | apply below_alloc | apply pw_below_drewN | apply below_drew1) | exact HB.out)))); have n1_ := Aside0.mk (below_step (by repeat (first | (with_reducible first | exact HB.out | apply below_alloc | apply pw_below_drewN | apply below_drew1) | exact HB.out)) hb); clear HB; have HO781 := n0_; have HB := n1_; clear n0_ n1_; (try clear hb); (try clear hb2); (try clear hk); (try clear hi); (try clear ho0); obtain ⟨Ao8, co8, eo8⟩ := Kd.R_slice HO781.out; subst eo8))
      go_ret
      exact ⟨by first | rfl | (simp [errW_none, errW_some] <;> rfl) | (simp [*, errW_none, errW_some] <;> rfl), by repeat (first | (with_reducible first | exact HB.out | apply below_alloc | apply pw_below_drewN | apply below_drew1) | exact HB.out)⟩
  · rw [if_neg c2] at H
    have c2b0 : (t779 == 0) = false := beq_eq_false_iff_ne.mpr c2
    have c2b1 : (t779 != 0) = true := bne_iff_ne.mpr c2
    obtain rfl := Option.some.inj H
    go_enter Try.func55, Try.ntmps55
    go_wp2_with (first | ((with_reducible refine gate_callee (f := 53) rfl ?_); refine goesL_ (some 4) rfl rfl Try.func53 (by kernel_rfl) rfl #[.int .i64 1, .int .u64 7] rfl (by (try simp only [List.map_toArray, List.map_cons, List.map_nil]); first | done | rfl | (simp only [List.length_drop, List.length_take]; rfl)) ?_; (with_reducible refine (neighbours_Places.calls k 1 7 t778 t779 _ A1.out).mono ?_); rintro e w9 ⟨v780, rfl, ho0, hb⟩; refine ⟨_, rfl, ?_⟩; have n0_ := Aside0.mk (Kd.R_lower ho0 (below_size (by repeat (first | (with_reducible first | exact HB.out | apply below_alloc | apply pw_below_drewN | apply below_drew1) | exact HB.out)))); have n1_ := Aside0.mk (below_step (by repeat (first | (with_reducible first | exact HB.out | apply below_alloc | apply pw_below_drewN | apply below_drew1) | exact HB.out)) hb); clear HB; have HO781 := n0_; have HB := n1_; clear n0_ n1_; (try clear hb); (try clear hb2); (try clear hk); (try clear hi); (try clear ho0)))
    go_ret
    exact ⟨by first | rfl | (simp [errW_none, errW_some] <;> rfl) | (simp [*, errW_none, errW_some] <;> rfl), by repeat (first | (with_reducible first | exact HB.out | apply below_alloc | apply pw_below_drewN | apply below_drew1) | exact HB.out)⟩

end Go.Proofs.Ytaofanhdmfdlmaa.Print

