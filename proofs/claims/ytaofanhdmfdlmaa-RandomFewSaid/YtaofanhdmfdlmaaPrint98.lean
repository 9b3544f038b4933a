-- PRINTED by print.py (a twelfth state) out of the translation. Not trusted: Lean checks it.
import Derived.Test.YtaofanhdmfdlmaaPrint0
import Derived.Test.YtaofanhdmfdlmaaPrint37
import Derived.Test.YtaofanhdmfdlmaaPrint38
import Derived.Test.YtaofanhdmfdlmaaPrint40
import Derived.Test.YtaofanhdmfdlmaaPrint95
import Derived.Test.YtaofanhdmfdlmaaPrint96
import Derived.Test.YtaofanhdmfdlmaaSome
namespace Go.Proofs.Ytaofanhdmfdlmaa.Print
open Go.RowKit Go.Proofs.YtaofanhdmfdlmaaW.PrintWords Go.Proofs.YtaofanhdmfdlmaaW.PrintLast Go.Proofs.YtaofanhdmfdlmaaW.PrintMore
attribute [local go_sem] max2_int min2_int max_two min_two max_three min_three max_four min_four   -- for this text's walks alone
set_option linter.unusedVariables false
set_option linter.unusedSimpArgs false

/-! ### downpourlaw06_RandomOrders: function 4 -/
mutual
def downpourlaw06_RandomOrders.j0 : Nat → Int → Int → Int → Int → List Int → Int → Int → List Int → Int → Bool → Option (Bool)
  | 0, _, _, _, _, _, _, _, _, _, _ => none
  | k + 1, x0, x1, x2, x7, x8, x9, x10, x11, x12, x35 => if x35 = true then ((downpourlaw06_alive.f k).bind fun t471 => (if t471 = true then (if x9 = 2 then (if x12 = 2 then (if x7 = 0 then (if x10 = 0 then (some ((wrap64 ((x8.length : Int) + (x11.length : Int))) == 0)) else (some false)) else (some false)) else (some false)) else (some false)) else (some false))) else ((downpourref06_Shuffle.f k x0 x1).bind fun bt472 => (if x9 = 0 then (if x7 = bt472.1 then ((downpourref01_Numbers.f k x8 bt472.2).bind fun t477 => (if t477 = true then ((downpourlaw06_alive.f k).bind fun t478 => (downpourlaw06_RandomOrders.j1 k x0 x1 x2 x10 x11 x12 (!t478))) else (downpourlaw06_RandomOrders.j1 k x0 x1 x2 x10 x11 x12 true))) else (downpourlaw06_RandomOrders.j1 k x0 x1 x2 x10 x11 x12 true)) else (downpourlaw06_RandomOrders.j1 k x0 x1 x2 x10 x11 x12 true)))
def downpourlaw06_RandomOrders.j1 : Nat → Int → Int → Int → Int → List Int → Int → Bool → Option (Bool)
  | 0, _, _, _, _, _, _, _ => none
  | k + 1, x0, x1, x2, x10, x11, x12, x82 => if x82 = true then (some false) else (if x2 < 0 then (downpourlaw06_RandomOrders.j2 k x0 x1 x2 x10 x11 x12 true) else (downpourlaw06_RandomOrders.j2 k x0 x1 x2 x10 x11 x12 (decide (x2 > x1))))
def downpourlaw06_RandomOrders.j2 : Nat → Int → Int → Int → Int → List Int → Int → Bool → Option (Bool)
  | 0, _, _, _, _, _, _, _ => none
  | k + 1, x0, x1, x2, x10, x11, x12, x89 => if x89 = true then (if x12 = 2 then (if x10 = 0 then (some ((x11.length : Int) == 0)) else (some false)) else (some false)) else ((downpourref06_Some.f k x0 x1 x2).bind fun bt479 => (if x12 = 0 then (if x10 = bt479.1 then ((downpourref01_Numbers.f k x11 bt479.2).bind fun t484 => (some t484)) else (some false)) else (some false)))
end
def downpourlaw06_RandomOrders.f (k : Nat) (a0 : Int) (a1 : Int) (a2 : Int) : Option (Bool) := (random_Shuffle.f k a0 a1).bind fun bt461 => ((random_Some.f k a0 a1 a2).bind fun bt466 => (if a1 < 1 then (downpourlaw06_RandomOrders.j0 k a0 a1 a2 bt461.1 bt461.2.1 bt461.2.2 bt466.1 bt466.2.1 bt466.2.2 true) else (downpourlaw06_RandomOrders.j0 k a0 a1 a2 bt461.1 bt461.2.1 bt461.2.2 bt466.1 bt466.2.1 bt466.2.2 (decide (a1 > 512)))))
theorem downpourlaw06_RandomOrders.mono_l : ∀ k, (∀ y0 y1 y2 y3 y4 y5 y6 y7 y8 y9, LeO (downpourlaw06_RandomOrders.j0 k y0 y1 y2 y3 y4 y5 y6 y7 y8 y9) (downpourlaw06_RandomOrders.j0 (k + 1) y0 y1 y2 y3 y4 y5 y6 y7 y8 y9)) ∧ (∀ y0 y1 y2 y3 y4 y5 y6, LeO (downpourlaw06_RandomOrders.j1 k y0 y1 y2 y3 y4 y5 y6) (downpourlaw06_RandomOrders.j1 (k + 1) y0 y1 y2 y3 y4 y5 y6)) ∧ (∀ y0 y1 y2 y3 y4 y5 y6, LeO (downpourlaw06_RandomOrders.j2 k y0 y1 y2 y3 y4 y5 y6) (downpourlaw06_RandomOrders.j2 (k + 1) y0 y1 y2 y3 y4 y5 y6))
  | 0 => ⟨fun _ _ _ _ _ _ _ _ _ _ r h => by simp [downpourlaw06_RandomOrders.j0] at h, fun _ _ _ _ _ _ _ r h => by simp [downpourlaw06_RandomOrders.j1] at h, fun _ _ _ _ _ _ _ r h => by simp [downpourlaw06_RandomOrders.j2] at h⟩
  | k + 1 => by
    obtain ⟨ih0, ih1, ih2⟩ := downpourlaw06_RandomOrders.mono_l k
    refine ⟨?_, ?_, ?_⟩
    · intro y0 y1 y2 y3 y4 y5 y6 y7 y8 y9
      unfold downpourlaw06_RandomOrders.j0
      repeat' first
      | (with_reducible exact ih0 _ _ _ _ _ _ _ _ _ _)
      | (with_reducible exact ih1 _ _ _ _ _ _ _)
      | (with_reducible exact ih2 _ _ _ _ _ _ _)
      | (with_reducible exact downpourlaw06_alive.mono _)
      | (with_reducible exact downpourref01_Numbers.mono _ _ _)
      | (with_reducible exact downpourref06_Shuffle.mono _ _ _)
      | (with_reducible exact downpourref06_Some.mono _ _ _ _)
      | (with_reducible exact random_Shuffle.mono _ _ _)
      | (with_reducible exact random_Some.mono _ _ _ _)
      | (with_reducible exact LeO.refl _)
      | (with_reducible exact LeO.none _)
      | (with_reducible refine LeO.ite ?_ ?_)
      | (with_reducible refine LeO.bind ?_ (fun _ => ?_))
      | exact ih0 _ _ _ _ _ _ _ _ _ _
      | exact ih1 _ _ _ _ _ _ _
      | exact ih2 _ _ _ _ _ _ _
      | exact downpourlaw06_alive.mono _
      | exact downpourref01_Numbers.mono _ _ _
      | exact downpourref06_Shuffle.mono _ _ _
      | exact downpourref06_Some.mono _ _ _ _
      | exact random_Shuffle.mono _ _ _
      | exact random_Some.mono _ _ _ _
      | exact LeO.none _
      | refine LeO.ite ?_ ?_
      | refine LeO.bind ?_ (fun _ => ?_)
    · intro y0 y1 y2 y3 y4 y5 y6
      unfold downpourlaw06_RandomOrders.j1
      repeat' first
      | (with_reducible exact ih0 _ _ _ _ _ _ _ _ _ _)
      | (with_reducible exact ih1 _ _ _ _ _ _ _)
      | (with_reducible exact ih2 _ _ _ _ _ _ _)
      | (with_reducible exact downpourlaw06_alive.mono _)
      | (with_reducible exact downpourref01_Numbers.mono _ _ _)
      | (with_reducible exact downpourref06_Shuffle.mono _ _ _)
      | (with_reducible exact downpourref06_Some.mono _ _ _ _)
      | (with_reducible exact random_Shuffle.mono _ _ _)
      | (with_reducible exact random_Some.mono _ _ _ _)
      | (with_reducible exact LeO.refl _)
      | (with_reducible exact LeO.none _)
      | (with_reducible refine LeO.ite ?_ ?_)
      | (with_reducible refine LeO.bind ?_ (fun _ => ?_))
      | exact ih0 _ _ _ _ _ _ _ _ _ _
      | exact ih1 _ _ _ _ _ _ _
      | exact ih2 _ _ _ _ _ _ _
      | exact downpourlaw06_alive.mono _
      | exact downpourref01_Numbers.mono _ _ _
      | exact downpourref06_Shuffle.mono _ _ _
      | exact downpourref06_Some.mono _ _ _ _
      | exact random_Shuffle.mono _ _ _
      | exact random_Some.mono _ _ _ _
      | exact LeO.none _
      | refine LeO.ite ?_ ?_
      | refine LeO.bind ?_ (fun _ => ?_)
    · intro y0 y1 y2 y3 y4 y5 y6
      unfold downpourlaw06_RandomOrders.j2
      repeat' first
      | (with_reducible exact ih0 _ _ _ _ _ _ _ _ _ _)
      | (with_reducible exact ih1 _ _ _ _ _ _ _)
      | (with_reducible exact ih2 _ _ _ _ _ _ _)
      | (with_reducible exact downpourlaw06_alive.mono _)
      | (with_reducible exact downpourref01_Numbers.mono _ _ _)
      | (with_reducible exact downpourref06_Shuffle.mono _ _ _)
      | (with_reducible exact downpourref06_Some.mono _ _ _ _)
      | (with_reducible exact random_Shuffle.mono _ _ _)
      | (with_reducible exact random_Some.mono _ _ _ _)
      | (with_reducible exact LeO.refl _)
      | (with_reducible exact LeO.none _)
      | (with_reducible refine LeO.ite ?_ ?_)
      | (with_reducible refine LeO.bind ?_ (fun _ => ?_))
      | exact ih0 _ _ _ _ _ _ _ _ _ _
      | exact ih1 _ _ _ _ _ _ _
      | exact ih2 _ _ _ _ _ _ _
      | exact downpourlaw06_alive.mono _
      | exact downpourref01_Numbers.mono _ _ _
      | exact downpourref06_Shuffle.mono _ _ _
      | exact downpourref06_Some.mono _ _ _ _
      | exact random_Shuffle.mono _ _ _
      | exact random_Some.mono _ _ _ _
      | exact LeO.none _
      | refine LeO.ite ?_ ?_
      | refine LeO.bind ?_ (fun _ => ?_)
theorem downpourlaw06_RandomOrders.mono : ∀ a0 a1 a2 k, LeO (downpourlaw06_RandomOrders.f k a0 a1 a2) (downpourlaw06_RandomOrders.f (k + 1) a0 a1 a2) := by
  intro a0 a1 a2 k
  obtain ⟨ih0, ih1, ih2⟩ := downpourlaw06_RandomOrders.mono_l k
  unfold downpourlaw06_RandomOrders.f
  repeat' first
      | (with_reducible exact ih0 _ _ _ _ _ _ _ _ _ _)
      | (with_reducible exact ih1 _ _ _ _ _ _ _)
      | (with_reducible exact ih2 _ _ _ _ _ _ _)
      | (with_reducible exact downpourlaw06_alive.mono _)
      | (with_reducible exact downpourref01_Numbers.mono _ _ _)
      | (with_reducible exact downpourref06_Shuffle.mono _ _ _)
      | (with_reducible exact downpourref06_Some.mono _ _ _ _)
      | (with_reducible exact random_Shuffle.mono _ _ _)
      | (with_reducible exact random_Some.mono _ _ _ _)
      | (with_reducible exact LeO.refl _)
      | (with_reducible exact LeO.none _)
      | (with_reducible refine LeO.ite ?_ ?_)
      | (with_reducible refine LeO.bind ?_ (fun _ => ?_))
      | exact ih0 _ _ _ _ _ _ _ _ _ _
      | exact ih1 _ _ _ _ _ _ _
      | exact ih2 _ _ _ _ _ _ _
      | exact downpourlaw06_alive.mono _
      | exact downpourref01_Numbers.mono _ _ _
      | exact downpourref06_Shuffle.mono _ _ _
      | exact downpourref06_Some.mono _ _ _ _
      | exact random_Shuffle.mono _ _ _
      | exact random_Some.mono _ _ _ _
      | exact LeO.none _
      | refine LeO.ite ?_ ?_
      | refine LeO.bind ?_ (fun _ => ?_)
set_option maxHeartbeats 8000000 in
set_option maxRecDepth 100000 in
theorem downpourlaw06_RandomOrders.calls (k : Nat) (a0 : Int) (a1 : Int) (a2 : Int) (r : Bool) (w : World) (h : downpourlaw06_RandomOrders.f k a0 a1 a2 = some r) :
    Calls Try.prog 4 #[.int .u64 a0, .int .i64 a1, .int .i64 a2] w fun e w' => e = .returned (.bool r) ∧ Below w.heap.size w w' := by
  have hu45 := Try.underlying45
  have HB := Aside0.mk (Below.refl w.heap.size w)
  have H : ((random_Shuffle.f k a0 a1).bind fun bt461 => ((random_Some.f k a0 a1 a2).bind fun bt466 => (if a1 < 1 then (downpourlaw06_RandomOrders.j0 k a0 a1 a2 bt461.1 bt461.2.1 bt461.2.2 bt466.1 bt466.2.1 bt466.2.2 true) else (downpourlaw06_RandomOrders.j0 k a0 a1 a2 bt461.1 bt461.2.1 bt461.2.2 bt466.1 bt466.2.1 bt466.2.2 (decide (a1 > 512)))))) = some r := h
  clear h
  replace H := Option.bind_eq_some_iff.mp H
  obtain ⟨⟨t461, t462, t463⟩, A40, H⟩ := H
  replace H : ((random_Some.f k a0 a1 a2).bind fun bt466 => (if a1 < 1 then (downpourlaw06_RandomOrders.j0 k a0 a1 a2 t461 t462 t463 bt466.1 bt466.2.1 bt466.2.2 true) else (downpourlaw06_RandomOrders.j0 k a0 a1 a2 t461 t462 t463 bt466.1 bt466.2.1 bt466.2.2 (decide (a1 > 512))))) = some r := H
  have A4 := Aside0.mk A40
  clear A40
  replace H := Option.bind_eq_some_iff.mp H
  obtain ⟨⟨t466, t467, t468⟩, A50, H⟩ := H
  replace H : (if a1 < 1 then (downpourlaw06_RandomOrders.j0 k a0 a1 a2 t461 t462 t463 t466 t467 t468 true) else (downpourlaw06_RandomOrders.j0 k a0 a1 a2 t461 t462 t463 t466 t467 t468 (decide (a1 > 512)))) = some r := H
  have A5 := Aside0.mk A50
  clear A50
  have HC6 := Aside0.mk H
  clear H
  go_enter Try.func4, Try.ntmps4
  go_upto_region 3 with (first | ((with_reducible refine gate_callee (f := 23) rfl ?_); refine goesL_ (some 18) rfl rfl Try.func23 (by kernel_rfl) rfl #[.int .u64 a0, .int .i64 a1] rfl (by (try simp only [List.map_toArray, List.map_cons, List.map_nil]); first | done | rfl | (simp only [List.length_drop, List.length_take]; rfl)) ?_; (with_reducible refine (random_Shuffle.calls k a0 a1 t461 t462 t463 _ A4.out).mono ?_); rintro e w7 ⟨v464, rfl, ho0, hb⟩; refine ⟨_, rfl, ?_⟩; have n0_ := Aside0.mk (Kd.R_lower ho0 (below_size (by repeat (first | (with_reducible first | exact HB.out | apply below_alloc | apply pw_below_drewN | apply below_drew1) | exact HB.out)))); have n1_ := Aside0.mk (below_step (by repeat (first | (with_reducible first | exact HB.out | apply below_alloc | apply pw_below_drewN | apply below_drew1) | exact HB.out)) hb); clear HB; have HO465 := n0_; have HB := n1_; clear n0_ n1_; (try clear hb); (try clear hb2); (try clear hk); (try clear hi); (try clear ho0)) | ((with_reducible refine gate_callee (f := 24) rfl ?_); refine goesL_ (some 26) rfl rfl Try.func24 (by kernel_rfl) rfl #[.int .u64 a0, .int .i64 a1, .int .i64 a2] rfl (by (try simp only [List.map_toArray, List.map_cons, List.map_nil]); first | done | rfl | (simp only [List.length_drop, List.length_take]; rfl)) ?_; (with_reducible refine (random_Some.calls k a0 a1 a2 t466 t467 t468 _ A5.out).mono ?_); rintro e w8 ⟨v469, rfl, ho0, hb⟩; refine ⟨_, rfl, ?_⟩; have n0_ := Aside0.mk (Kd.R_elder' (by (with_reducible repeat (first | apply Kd.R_alloc | apply Kd.R_drewN | apply Kd.R_drew)); exact HO465.out) (Kd.R_base ho0) hb); have n1_ := Aside0.mk (Kd.R_lower (Kd.R_new' ho0 (Kd.R_lt (by (with_reducible repeat (first | apply Kd.R_alloc | apply Kd.R_drewN | apply Kd.R_drew)); exact HO465.out))) (below_size (by repeat (first | (with_reducible first | exact HB.out | apply below_alloc | apply pw_below_drewN | apply below_drew1) | exact HB.out)))); have n2_ := Aside0.mk (below_step (by repeat (first | (with_reducible first | exact HB.out | apply below_alloc | apply pw_below_drewN | apply below_drew1) | exact HB.out)) hb); clear HO465; clear HB; have HO465 := n0_; have HO470 := n1_; have HB := n2_; clear n0_ n1_ n2_; (try clear hb); (try clear hb2); (try clear hk); (try clear hi); (try clear ho0)))
  (try simp only [Act.put, List.setIfInBounds_toArray, List.set_cons_zero, List.set_cons_succ])
  go_cut [35] (fun v35 wc => ∃ (kq : Nat) (x35_5 : Bool), v35 = .bool x35_5 ∧ Aside0 (downpourlaw06_RandomOrders.j0 kq a0 a1 a2 t461 t462 t463 t466 t467 t468 x35_5 = some r) ∧ Aside0 (kq ≤ k) ∧ Aside0 (Kd.R (Kd.int .i64) 3 wc w.heap.size (fun k_ => some k_ ≠ (v469 : Value).ownBlock) v464 t462) ∧ Aside0 (Kd.R (Kd.int .i64) 3 wc w.heap.size (fun k_ => some k_ ≠ (v464 : Value).ownBlock) v469 t467) ∧ Aside0 (Below w.heap.size w wc))
  case first =>
    have H := HC6.out
    clear HC6
    by_cases c9 : a1 < 1
    · rw [if_pos c9] at H
      have c9b0 : decide (a1 < 1) = true := decide_eq_true c9
      clear c9
      (first | rw [c9b0] | (simp only [i64_w, i32_w]; rw [c9b0]) | skip)
      have H' := Aside0.mk H
      clear H
      go_wp2
      go_meet
      case rel => exact ⟨_, (true), (by first | rfl | (simp; done) | (simp [*]; done)), H', ⟨by first | omega | exact Nat.le_refl _⟩, ⟨by (with_reducible repeat (first | apply Kd.R_alloc | apply Kd.R_drewN | apply Kd.R_drew)); exact Kd.R_mono HO465.out (fun _ hk => hk.2)⟩, ⟨by (with_reducible repeat (first | apply Kd.R_alloc | apply Kd.R_drewN | apply Kd.R_drew)); exact Kd.R_mono HO470.out (fun _ hk => hk.2)⟩, ⟨by repeat (first | (with_reducible first | exact HB.out | apply below_alloc | apply pw_below_drewN | apply below_drew1) | exact HB.out)⟩⟩
    · rw [if_neg c9] at H
      have c9b0 : decide (a1 < 1) = false := decide_eq_false c9
      clear c9
      (first | rw [c9b0] | (simp only [i64_w, i32_w]; rw [c9b0]) | skip)
      have H' := Aside0.mk H
      clear H
      go_wp2
      go_meet
      case rel => exact ⟨_, (decide (a1 > 512)), (by first | rfl | (simp; done) | (simp [*]; done)), H', ⟨by first | omega | exact Nat.le_refl _⟩, ⟨by (with_reducible repeat (first | apply Kd.R_alloc | apply Kd.R_drewN | apply Kd.R_drew)); exact Kd.R_mono HO465.out (fun _ hk => hk.2)⟩, ⟨by (with_reducible repeat (first | apply Kd.R_alloc | apply Kd.R_drewN | apply Kd.R_drew)); exact Kd.R_mono HO470.out (fun _ hk => hk.2)⟩, ⟨by repeat (first | (with_reducible first | exact HB.out | apply below_alloc | apply pw_below_drewN | apply below_drew1) | exact HB.out)⟩⟩
  case rest =>
    clear HC6
    try clear c2
    try clear p2
    try clear c4
    try clear c9
    try clear c9b0
    obtain ⟨kq, x35_5, rfl, HA, HJ5, HO_8, HO_11, HB⟩ := hcut
    cases kq with
    | zero => exact absurd HA.out (by simp [downpourlaw06_RandomOrders.j0])
    | succ kj5 =>
      have H := HA.out
      clear HA
      simp only [downpourlaw06_RandomOrders.j0] at H
      by_cases c10 : x35_5 = true
      · subst c10
        have H1 : ((downpourlaw06_alive.f kj5).bind fun t471 => (if t471 = true then (if t463 = 2 then (if t468 = 2 then (if t461 = 0 then (if t466 = 0 then (some ((wrap64 ((t462.length : Int) + (t467.length : Int))) == 0)) else (some false)) else (some false)) else (some false)) else (some false)) else (some false))) = some r := by rw [if_pos rfl] at H; exact H
        clear H
        have H := H1
        clear H1
        replace H := Option.bind_eq_some_iff.mp H
        obtain ⟨t471, A110, H⟩ := H
        replace H : (if t471 = true then (if t463 = 2 then (if t468 = 2 then (if t461 = 0 then (if t466 = 0 then (some ((wrap64 ((t462.length : Int) + (t467.length : Int))) == 0)) else (some false)) else (some false)) else (some false)) else (some false)) else (some false)) = some r := H
        have A11 := Aside0.mk A110
        clear A110
        by_cases c12 : t471 = true
        · subst c12
          have H1 : (if t463 = 2 then (if t468 = 2 then (if t461 = 0 then (if t466 = 0 then (some ((wrap64 ((t462.length : Int) + (t467.length : Int))) == 0)) else (some false)) else (some false)) else (some false)) else (some false)) = some r := by rw [if_pos rfl] at H; exact H
          clear H
          have H := H1
          clear H1
          by_cases c13 : t463 = 2
          · rw [if_pos c13] at H
            have c13b0 : (t463 == 2) = true := beq_iff_eq.mpr c13
            have c13b1 : (t463 != 2) = false := bne_eq_false_iff_eq.mpr c13
            clear c13
            by_cases c14 : t468 = 2
            · rw [if_pos c14] at H
              have c14b0 : (t468 == 2) = true := beq_iff_eq.mpr c14
              have c14b1 : (t468 != 2) = false := bne_eq_false_iff_eq.mpr c14
              clear c14
              by_cases c15 : t461 = 0
              · rw [if_pos c15] at H
                have c15b0 : (t461 == 0) = true := beq_iff_eq.mpr c15
                have c15b1 : (t461 != 0) = false := bne_eq_false_iff_eq.mpr c15
                clear c15
                by_cases c16 : t466 = 0
                · rw [if_pos c16] at H
                  have c16b0 : (t466 == 0) = true := beq_iff_eq.mpr c16
                  have c16b1 : (t466 != 0) = false := bne_eq_false_iff_eq.mpr c16
                  clear c16
                  obtain rfl := Option.some.inj H
                  go_wp2_with (first | ((with_reducible refine gate_callee (f := 25) rfl ?_); refine goesL_ (some 36) rfl rfl Try.func25 (by kernel_rfl) rfl #[] rfl (by (try simp only [List.map_toArray, List.map_cons, List.map_nil]); first | done | rfl | (simp only [List.length_drop, List.length_take]; rfl)) ?_; (with_reducible refine (downpourlaw06_alive.calls kj5  true _ A11.out).mono ?_); rintro e w17 ⟨rfl, hb⟩; refine ⟨_, rfl, ?_⟩; have n0_ := Aside0.mk (Kd.R_below (by (with_reducible repeat (first | apply Kd.R_alloc | apply Kd.R_drewN | apply Kd.R_drew)); exact HO_8.out) hb); have n1_ := Aside0.mk (Kd.R_below (by (with_reducible repeat (first | apply Kd.R_alloc | apply Kd.R_drewN | apply Kd.R_drew)); exact HO_11.out) hb); have n2_ := Aside0.mk (below_step (by repeat (first | (with_reducible first | exact HB.out | apply below_alloc | apply pw_below_drewN | apply below_drew1) | exact HB.out)) hb); clear HO_8; clear HO_11; clear HB; have HO_8 := n0_; have HO_11 := n1_; have HB := n2_; clear n0_ n1_ n2_; (try clear hb); (try clear hb2); (try clear hk); (try clear hi); obtain ⟨Ao18, co18, eo18⟩ := Kd.R_slice HO_8.out; subst eo18; obtain ⟨Ao19, co19, eo19⟩ := Kd.R_slice HO_11.out; subst eo19))
                  go_ret
                  exact ⟨by first | rfl | (simp [errW_none, errW_some] <;> rfl) | (simp [*, errW_none, errW_some] <;> rfl), by repeat (first | (with_reducible first | exact HB.out | apply below_alloc | apply pw_below_drewN | apply below_drew1) | exact HB.out)⟩
                · rw [if_neg c16] at H
                  have c16b0 : (t466 == 0) = false := beq_eq_false_iff_ne.mpr c16
                  have c16b1 : (t466 != 0) = true := bne_iff_ne.mpr c16
                  obtain rfl := Option.some.inj H
                  go_wp2_with (first | ((with_reducible refine gate_callee (f := 25) rfl ?_); refine goesL_ (some 36) rfl rfl Try.func25 (by kernel_rfl) rfl #[] rfl (by (try simp only [List.map_toArray, List.map_cons, List.map_nil]); first | done | rfl | (simp only [List.length_drop, List.length_take]; rfl)) ?_; (with_reducible refine (downpourlaw06_alive.calls kj5  true _ A11.out).mono ?_); rintro e w20 ⟨rfl, hb⟩; refine ⟨_, rfl, ?_⟩; have n0_ := Aside0.mk (Kd.R_below (by (with_reducible repeat (first | apply Kd.R_alloc | apply Kd.R_drewN | apply Kd.R_drew)); exact HO_8.out) hb); have n1_ := Aside0.mk (Kd.R_below (by (with_reducible repeat (first | apply Kd.R_alloc | apply Kd.R_drewN | apply Kd.R_drew)); exact HO_11.out) hb); have n2_ := Aside0.mk (below_step (by repeat (first | (with_reducible first | exact HB.out | apply below_alloc | apply pw_below_drewN | apply below_drew1) | exact HB.out)) hb); clear HO_8; clear HO_11; clear HB; have HO_8 := n0_; have HO_11 := n1_; have HB := n2_; clear n0_ n1_ n2_; (try clear hb); (try clear hb2); (try clear hk); (try clear hi)))
                  go_ret
                  exact ⟨by first | rfl | (simp [errW_none, errW_some] <;> rfl) | (simp [*, errW_none, errW_some] <;> rfl), by repeat (first | (with_reducible first | exact HB.out | apply below_alloc | apply pw_below_drewN | apply below_drew1) | exact HB.out)⟩
              · rw [if_neg c15] at H
                have c15b0 : (t461 == 0) = false := beq_eq_false_iff_ne.mpr c15
                have c15b1 : (t461 != 0) = true := bne_iff_ne.mpr c15
                obtain rfl := Option.some.inj H
                go_wp2_with (first | ((with_reducible refine gate_callee (f := 25) rfl ?_); refine goesL_ (some 36) rfl rfl Try.func25 (by kernel_rfl) rfl #[] rfl (by (try simp only [List.map_toArray, List.map_cons, List.map_nil]); first | done | rfl | (simp only [List.length_drop, List.length_take]; rfl)) ?_; (with_reducible refine (downpourlaw06_alive.calls kj5  true _ A11.out).mono ?_); rintro e w21 ⟨rfl, hb⟩; refine ⟨_, rfl, ?_⟩; have n0_ := Aside0.mk (Kd.R_below (by (with_reducible repeat (first | apply Kd.R_alloc | apply Kd.R_drewN | apply Kd.R_drew)); exact HO_8.out) hb); have n1_ := Aside0.mk (Kd.R_below (by (with_reducible repeat (first | apply Kd.R_alloc | apply Kd.R_drewN | apply Kd.R_drew)); exact HO_11.out) hb); have n2_ := Aside0.mk (below_step (by repeat (first | (with_reducible first | exact HB.out | apply below_alloc | apply pw_below_drewN | apply below_drew1) | exact HB.out)) hb); clear HO_8; clear HO_11; clear HB; have HO_8 := n0_; have HO_11 := n1_; have HB := n2_; clear n0_ n1_ n2_; (try clear hb); (try clear hb2); (try clear hk); (try clear hi)))
                go_ret
                exact ⟨by first | rfl | (simp [errW_none, errW_some] <;> rfl) | (simp [*, errW_none, errW_some] <;> rfl), by repeat (first | (with_reducible first | exact HB.out | apply below_alloc | apply pw_below_drewN | apply below_drew1) | exact HB.out)⟩
            · rw [if_neg c14] at H
              have c14b0 : (t468 == 2) = false := beq_eq_false_iff_ne.mpr c14
              have c14b1 : (t468 != 2) = true := bne_iff_ne.mpr c14
              obtain rfl := Option.some.inj H
              go_wp2_with (first | ((with_reducible refine gate_callee (f := 25) rfl ?_); refine goesL_ (some 36) rfl rfl Try.func25 (by kernel_rfl) rfl #[] rfl (by (try simp only [List.map_toArray, List.map_cons, List.map_nil]); first | done | rfl | (simp only [List.length_drop, List.length_take]; rfl)) ?_; (with_reducible refine (downpourlaw06_alive.calls kj5  true _ A11.out).mono ?_); rintro e w22 ⟨rfl, hb⟩; refine ⟨_, rfl, ?_⟩; have n0_ := Aside0.mk (Kd.R_below (by (with_reducible repeat (first | apply Kd.R_alloc | apply Kd.R_drewN | apply Kd.R_drew)); exact HO_8.out) hb); have n1_ := Aside0.mk (Kd.R_below (by (with_reducible repeat (first | apply Kd.R_alloc | apply Kd.R_drewN | apply Kd.R_drew)); exact HO_11.out) hb); have n2_ := Aside0.mk (below_step (by repeat (first | (with_reducible first | exact HB.out | apply below_alloc | apply pw_below_drewN | apply below_drew1) | exact HB.out)) hb); clear HO_8; clear HO_11; clear HB; have HO_8 := n0_; have HO_11 := n1_; have HB := n2_; clear n0_ n1_ n2_; (try clear hb); (try clear hb2); (try clear hk); (try clear hi)))
              go_ret
              exact ⟨by first | rfl | (simp [errW_none, errW_some] <;> rfl) | (simp [*, errW_none, errW_some] <;> rfl), by repeat (first | (with_reducible first | exact HB.out | apply below_alloc | apply pw_below_drewN | apply below_drew1) | exact HB.out)⟩
          · rw [if_neg c13] at H
            have c13b0 : (t463 == 2) = false := beq_eq_false_iff_ne.mpr c13
            have c13b1 : (t463 != 2) = true := bne_iff_ne.mpr c13
            obtain rfl := Option.some.inj H
            go_wp2_with (first | ((with_reducible refine gate_callee (f := 25) rfl ?_); refine goesL_ (some 36) rfl rfl Try.func25 (by kernel_rfl) rfl #[] rfl (by (try simp only [List.map_toArray, List.map_cons, List.map_nil]); first | done | rfl | (simp only [List.length_drop, List.length_take]; rfl)) ?_; (with_reducible refine (downpourlaw06_alive.calls kj5  true _ A11.out).mono ?_); rintro e w23 ⟨rfl, hb⟩; refine ⟨_, rfl, ?_⟩; have n0_ := Aside0.mk (Kd.R_below (by (with_reducible repeat (first | apply Kd.R_alloc | apply Kd.R_drewN | apply Kd.R_drew)); exact HO_8.out) hb); have n1_ := Aside0.mk (Kd.R_below (by (with_reducible repeat (first | apply Kd.R_alloc | apply Kd.R_drewN | apply Kd.R_drew)); exact HO_11.out) hb); have n2_ := Aside0.mk (below_step (by repeat (first | (with_reducible first | exact HB.out | apply below_alloc | apply pw_below_drewN | apply below_drew1) | exact HB.out)) hb); clear HO_8; clear HO_11; clear HB; have HO_8 := n0_; have HO_11 := n1_; have HB := n2_; clear n0_ n1_ n2_; (try clear hb); (try clear hb2); (try clear hk); (try clear hi)))
            go_ret
            exact ⟨by first | rfl | (simp [errW_none, errW_some] <;> rfl) | (simp [*, errW_none, errW_some] <;> rfl), by repeat (first | (with_reducible first | exact HB.out | apply below_alloc | apply pw_below_drewN | apply below_drew1) | exact HB.out)⟩
        · replace c12 := Bool.eq_false_iff.mpr c12
          subst c12
          have H1 : (some false) = some r := by rw [if_neg (show ¬ (false = true) by decide)] at H; exact H
          clear H
          have H := H1
          clear H1
          obtain rfl := Option.some.inj H
          go_wp2_with (first | ((with_reducible refine gate_callee (f := 25) rfl ?_); refine goesL_ (some 36) rfl rfl Try.func25 (by kernel_rfl) rfl #[] rfl (by (try simp only [List.map_toArray, List.map_cons, List.map_nil]); first | done | rfl | (simp only [List.length_drop, List.length_take]; rfl)) ?_; (with_reducible refine (downpourlaw06_alive.calls kj5  false _ A11.out).mono ?_); rintro e w24 ⟨rfl, hb⟩; refine ⟨_, rfl, ?_⟩; have n0_ := Aside0.mk (Kd.R_below (by (with_reducible repeat (first | apply Kd.R_alloc | apply Kd.R_drewN | apply Kd.R_drew)); exact HO_8.out) hb); have n1_ := Aside0.mk (Kd.R_below (by (with_reducible repeat (first | apply Kd.R_alloc | apply Kd.R_drewN | apply Kd.R_drew)); exact HO_11.out) hb); have n2_ := Aside0.mk (below_step (by repeat (first | (with_reducible first | exact HB.out | apply below_alloc | apply pw_below_drewN | apply below_drew1) | exact HB.out)) hb); clear HO_8; clear HO_11; clear HB; have HO_8 := n0_; have HO_11 := n1_; have HB := n2_; clear n0_ n1_ n2_; (try clear hb); (try clear hb2); (try clear hk); (try clear hi)))
          go_ret
          exact ⟨by first | rfl | (simp [errW_none, errW_some] <;> rfl) | (simp [*, errW_none, errW_some] <;> rfl), by repeat (first | (with_reducible first | exact HB.out | apply below_alloc | apply pw_below_drewN | apply below_drew1) | exact HB.out)⟩
      · replace c10 := Bool.eq_false_iff.mpr c10
        subst c10
        have H1 : ((downpourref06_Shuffle.f kj5 a0 a1).bind fun bt472 => (if t463 = 0 then (if t461 = bt472.1 then ((downpourref01_Numbers.f kj5 t462 bt472.2).bind fun t477 => (if t477 = true then ((downpourlaw06_alive.f kj5).bind fun t478 => (downpourlaw06_RandomOrders.j1 kj5 a0 a1 a2 t466 t467 t468 (!t478))) else (downpourlaw06_RandomOrders.j1 kj5 a0 a1 a2 t466 t467 t468 true))) else (downpourlaw06_RandomOrders.j1 kj5 a0 a1 a2 t466 t467 t468 true)) else (downpourlaw06_RandomOrders.j1 kj5 a0 a1 a2 t466 t467 t468 true))) = some r := by rw [if_neg (show ¬ (false = true) by decide)] at H; exact H
        clear H
        have H := H1
        clear H1
        replace H := Option.bind_eq_some_iff.mp H
        obtain ⟨⟨t472, t473⟩, A250, H⟩ := H
        replace H : (if t463 = 0 then (if t461 = t472 then ((downpourref01_Numbers.f kj5 t462 t473).bind fun t477 => (if t477 = true then ((downpourlaw06_alive.f kj5).bind fun t478 => (downpourlaw06_RandomOrders.j1 kj5 a0 a1 a2 t466 t467 t468 (!t478))) else (downpourlaw06_RandomOrders.j1 kj5 a0 a1 a2 t466 t467 t468 true))) else (downpourlaw06_RandomOrders.j1 kj5 a0 a1 a2 t466 t467 t468 true)) else (downpourlaw06_RandomOrders.j1 kj5 a0 a1 a2 t466 t467 t468 true)) = some r := H
        have A25 := Aside0.mk A250
        clear A250
        have HC26 := Aside0.mk H
        clear H
        go_upto_region 6 with (first | ((with_reducible refine gate_callee (f := 26) rfl ?_); refine goesL_ (some 63) rfl rfl Try.func26 (by kernel_rfl) rfl #[.int .u64 a0, .int .i64 a1] rfl (by (try simp only [List.map_toArray, List.map_cons, List.map_nil]); first | done | rfl | (simp only [List.length_drop, List.length_take]; rfl)) ?_; (with_reducible refine (downpourref06_Shuffle.calls kj5 a0 a1 t472 t473 _ A25.out).mono ?_); rintro e w27 ⟨v474, rfl, ho0, hb⟩; refine ⟨_, rfl, ?_⟩; have n0_ := Aside0.mk (Kd.R_elder' (by (with_reducible repeat (first | apply Kd.R_alloc | apply Kd.R_drewN | apply Kd.R_drew)); exact HO_8.out) (Kd.R_base ho0) hb); have n1_ := Aside0.mk (Kd.R_elder' (by (with_reducible repeat (first | apply Kd.R_alloc | apply Kd.R_drewN | apply Kd.R_drew)); exact HO_11.out) (Kd.R_base ho0) hb); have n2_ := Aside0.mk (Kd.R_lower (Kd.R_new' (Kd.R_new' ho0 (Kd.R_lt (by (with_reducible repeat (first | apply Kd.R_alloc | apply Kd.R_drewN | apply Kd.R_drew)); exact HO_8.out))) (Kd.R_lt (by (with_reducible repeat (first | apply Kd.R_alloc | apply Kd.R_drewN | apply Kd.R_drew)); exact HO_11.out))) (below_size (by repeat (first | (with_reducible first | exact HB.out | apply below_alloc | apply pw_below_drewN | apply below_drew1) | exact HB.out)))); have n3_ := Aside0.mk (below_step (by repeat (first | (with_reducible first | exact HB.out | apply below_alloc | apply pw_below_drewN | apply below_drew1) | exact HB.out)) hb); clear HO_8; clear HO_11; clear HB; have HO_8 := n0_; have HO_11 := n1_; have HO475 := n2_; have HB := n3_; clear n0_ n1_ n2_ n3_; (try clear hb); (try clear hb2); (try clear hk); (try clear hi); (try clear ho0)) | ((with_reducible refine gate_dst (N := 13) rfl ?_); (try (refine gate_guard (by rfl) ?_; dsimp only)); refine box_event ?hg (N := 13) ?hd (cs := #[.int .u64 0, .slice none 0 0]) (t := 45) ?hr ?_; (case hd => rfl); (case hg => rfl); (case hr => first | (go_simp; done) | (go_simp; rfl)); intro gb476 hg w28 hbox hb; have n0_ := Aside0.mk (Kd.R_below (by (with_reducible repeat (first | apply Kd.R_alloc | apply Kd.R_drewN | apply Kd.R_drew)); exact HO_8.out) hb); have n1_ := Aside0.mk (Kd.R_below (by (with_reducible repeat (first | apply Kd.R_alloc | apply Kd.R_drewN | apply Kd.R_drew)); exact HO_11.out) hb); have n2_ := Aside0.mk (Kd.R_below (by (with_reducible repeat (first | apply Kd.R_alloc | apply Kd.R_drewN | apply Kd.R_drew)); exact HO475.out) hb); have n3_ := Aside0.mk (below_step (by repeat (first | (with_reducible first | exact HB.out | apply below_alloc | apply pw_below_drewN | apply below_drew1) | exact HB.out)) hb); have n4_ := Aside0.mk (hbox); have n5_ := Aside0.mk ((by rw [hg]; exact (below_size (by repeat (first | (with_reducible first | exact HB.out | apply below_alloc | apply pw_below_drewN | apply below_drew1) | exact HB.out))) : w.heap.size ≤ gb476)); have n6_ := Aside0.mk ((by rw [hg]; exact (below_size (by repeat (first | (with_reducible first | exact HB.out | apply below_alloc | apply pw_below_drewN | apply below_drew1) | exact HB.out))) : w.heap.size ≤ gb476)); clear HO_8; clear HO_11; clear HO475; clear HB; have HO_8 := n0_; have HO_11 := n1_; have HO475 := n2_; have HB := n3_; have BK476 := n4_; have GW476 := n5_; have GE476 := n6_; clear n0_ n1_ n2_ n3_ n4_ n5_ n6_; clear hb hbox hg; have hcz29_0 : w28.cell? ⟨gb476, 0, none⟩ = some (.int .u64 0) := (blk_cell BK476.out 0).trans rfl; have hcz29_1 : w28.cell? ⟨gb476, 1, none⟩ = some (.slice none 0 0) := (blk_cell BK476.out 1).trans rfl; have hfz29_0 := blk_frozen BK476.out 0; have hfz29_1 := blk_frozen BK476.out 1; obtain ⟨Ao30, co30, eo30⟩ := Kd.R_slice HO475.out; subst eo30))
        (try simp only [Act.put, List.setIfInBounds_toArray, List.set_cons_zero, List.set_cons_succ])
        go_cut [82] (fun v82 wc => ∃ (kq : Nat) (x82_25 : Bool), v82 = .bool x82_25 ∧ Aside0 (downpourlaw06_RandomOrders.j1 kq a0 a1 a2 t466 t467 t468 x82_25 = some r) ∧ Aside0 (kq ≤ kj5) ∧ Aside0 (Kd.R (Kd.int .i64) 3 wc w.heap.size (fun k_ => some k_ ≠ ((.slice Ao30 t473.length co30) : Value).ownBlock) v469 t467) ∧ Aside0 (Kd.R (Kd.int .i64) 3 wc w.heap.size (fun k_ => some k_ ≠ (v469 : Value).ownBlock) (.slice Ao30 t473.length co30) t473) ∧ Aside0 (wc.heap[gb476]? = some (.cells #[.int .u64 t472, (.slice Ao30 t473.length co30)] 45 (0, 0))) ∧ Aside0 (Below w.heap.size w wc))
        case first =>
          have H := HC26.out
          clear HC26
          by_cases c31 : t463 = 0
          · rw [if_pos c31] at H
            have c31b0 : (t463 == 0) = true := beq_iff_eq.mpr c31
            have c31b1 : (t463 != 0) = false := bne_eq_false_iff_eq.mpr c31
            clear c31
            (first | rw [c31b0] | (simp only [i64_w, i32_w]; rw [c31b0]) | skip)
            by_cases c32 : t461 = t472
            · rw [if_pos c32] at H
              have c32b0 : (t461 == t472) = true := beq_iff_eq.mpr c32
              have c32b1 : (t461 != t472) = false := bne_eq_false_iff_eq.mpr c32
              clear c32
              replace H := Option.bind_eq_some_iff.mp H
              obtain ⟨t477, A330, H⟩ := H
              replace H : (if t477 = true then ((downpourlaw06_alive.f kj5).bind fun t478 => (downpourlaw06_RandomOrders.j1 kj5 a0 a1 a2 t466 t467 t468 (!t478))) else (downpourlaw06_RandomOrders.j1 kj5 a0 a1 a2 t466 t467 t468 true)) = some r := H
              have A33 := Aside0.mk A330
              clear A330
              by_cases c34 : t477 = true
              · subst c34
                have H1 : ((downpourlaw06_alive.f kj5).bind fun t478 => (downpourlaw06_RandomOrders.j1 kj5 a0 a1 a2 t466 t467 t468 (!t478))) = some r := by rw [if_pos rfl] at H; exact H
                clear H
                have H := H1
                clear H1
                replace H := Option.bind_eq_some_iff.mp H
                obtain ⟨t478, A350, H⟩ := H
                replace H : (downpourlaw06_RandomOrders.j1 kj5 a0 a1 a2 t466 t467 t468 (!t478)) = some r := H
                have A35 := Aside0.mk A350
                clear A350
                have H' := Aside0.mk H
                clear H
                have hcz36_0 : w28.cell? ⟨gb476, 0, none⟩ = some (.int .u64 0) := (blk_cell BK476.out 0).trans rfl
                have hcz36_1 : w28.cell? ⟨gb476, 1, none⟩ = some (.slice none 0 0) := (blk_cell BK476.out 1).trans rfl
                have hfz36_0 := blk_frozen BK476.out 0
                have hfz36_1 := blk_frozen BK476.out 1
                obtain ⟨Ao37, co37, eo37⟩ := Kd.R_slice HO_8.out
                subst eo37
                go_wp2_with (first | (go_at_call 27; (with_reducible refine (downpourref01_Numbers.calls kj5 _ _ t462 _ _ t473 true _ ?side1 ?side2 ?side3 ?side4 A33.out).mono ?_); (case side1 => refine (Kd.R_reads' (e := 3) (base := w.heap.size) (ok := fun k_ => (some k_ ≠ (v469 : Value).ownBlock ∧ some k_ ≠ (.slice Ao30 t473.length co30 : Value).ownBlock)) (n := t462.length) (c := co37) ?_).2.2; exact (by (with_reducible repeat (first | apply Kd.R_alloc | apply Kd.R_drewN | apply Kd.R_drew)); exact (Kd.R_mono (Kd.R_far (p := ⟨gb476, 1, none⟩) (Kd.R_far (p := ⟨gb476, 0, none⟩) (Kd.R_types HO_8.out BK476.out (by decide)) (fun _ hk => hk.2) (.int .u64 t472)) (fun _ hk => hk.2) (.slice Ao30 t473.length co30)) (fun _ h_ => h_.1)))); (case side2 => exact (Kd.R_reads' HO_8.out).2.1); (case side3 => refine (Kd.R_reads' (e := 3) (base := w.heap.size) (ok := fun k_ => ((True ∧ some k_ ≠ (.slice Ao37 t462.length co37 : Value).ownBlock) ∧ some k_ ≠ (v469 : Value).ownBlock)) (n := t473.length) (c := co30) ?_).2.2; exact (by (with_reducible repeat (first | apply Kd.R_alloc | apply Kd.R_drewN | apply Kd.R_drew)); exact (Kd.R_mono (Kd.R_far (p := ⟨gb476, 1, none⟩) (Kd.R_far (p := ⟨gb476, 0, none⟩) (Kd.R_types HO475.out BK476.out (by decide)) (fun _ hk => hk.2) (.int .u64 t472)) (fun _ hk => hk.2) (.slice Ao30 t473.length co30)) (fun _ h_ => h_.1)))); (case side4 => exact (Kd.R_reads' HO475.out).2.1); rintro e w' ⟨rfl, ⟨nd, rfl⟩⟩) | (go_at_call 25; (with_reducible refine (downpourlaw06_alive.calls kj5  t478 _ A35.out).mono ?_); rintro e w38 ⟨rfl, hb⟩; have n0_ := Aside0.mk (Kd.R_below (by (with_reducible repeat (first | apply Kd.R_alloc | apply Kd.R_drewN | apply Kd.R_drew)); exact (Kd.R_mono (Kd.R_far (p := ⟨gb476, 1, none⟩) (Kd.R_far (p := ⟨gb476, 0, none⟩) (Kd.R_types HO_8.out BK476.out (by decide)) (fun _ hk => hk.2) (.int .u64 t472)) (fun _ hk => hk.2) (.slice Ao30 t473.length co30)) (fun _ h_ => h_.1))) hb); have n1_ := Aside0.mk (Kd.R_below (by (with_reducible repeat (first | apply Kd.R_alloc | apply Kd.R_drewN | apply Kd.R_drew)); exact (Kd.R_mono (Kd.R_far (p := ⟨gb476, 1, none⟩) (Kd.R_far (p := ⟨gb476, 0, none⟩) (Kd.R_types HO_11.out BK476.out (by decide)) (fun _ hk => hk.2) (.int .u64 t472)) (fun _ hk => hk.2) (.slice Ao30 t473.length co30)) (fun _ h_ => h_.1))) hb); have n2_ := Aside0.mk (Kd.R_below (by (with_reducible repeat (first | apply Kd.R_alloc | apply Kd.R_drewN | apply Kd.R_drew)); exact (Kd.R_mono (Kd.R_far (p := ⟨gb476, 1, none⟩) (Kd.R_far (p := ⟨gb476, 0, none⟩) (Kd.R_types HO475.out BK476.out (by decide)) (fun _ hk => hk.2) (.int .u64 t472)) (fun _ hk => hk.2) (.slice Ao30 t473.length co30)) (fun _ h_ => h_.1))) hb); have n3_ := Aside0.mk (blk_below (g := gb476) (o := .cells #[.int .u64 t472, .slice Ao30 t473.length co30] 45 (0, 0)) (by (with_reducible repeat (first | refine blk_drewN ?_ _ | refine blk_drew ?_ | refine blk_alloc ?_ _)); refine blk_put (cs := #[.int .u64 t472, .slice none 0 0]) ?_ 1 _ rfl; (with_reducible repeat (first | refine blk_drewN ?_ _ | refine blk_drew ?_ | refine blk_alloc ?_ _)); refine blk_put (cs := #[.int .u64 0, .slice none 0 0]) ?_ 0 _ rfl; (with_reducible repeat (first | refine blk_drewN ?_ _ | refine blk_drew ?_ | refine blk_alloc ?_ _)); exact BK476.out) hb); have n4_ := Aside0.mk (below_step (by repeat (first | (with_reducible first | exact HB.out | apply below_alloc | apply pw_below_drewN | apply below_drew1 | refine below_set ?_ GE476.out) | exact HB.out)) hb); clear HO_8; clear HO_11; clear HO475; clear BK476; clear HB; have HO_8 := n0_; have HO_11 := n1_; have HO475 := n2_; have BK476 := n3_; have HB := n4_; clear n0_ n1_ n2_ n3_ n4_; (try clear hb); (try clear hb2); (try clear hk); (try clear hi)))
                go_meet
                case rel => exact ⟨_, (!t478), (by first | rfl | (simp; done) | (simp [*]; done)), H', ⟨by have := HJ5.out; first | omega | exact Nat.le_refl _⟩, ⟨by (with_reducible repeat (first | apply Kd.R_alloc | apply Kd.R_drewN | apply Kd.R_drew)); exact Kd.R_mono HO_11.out (fun _ hk => hk.2)⟩, ⟨by (with_reducible repeat (first | apply Kd.R_alloc | apply Kd.R_drewN | apply Kd.R_drew)); exact Kd.R_mono HO475.out (fun _ hk => hk.2)⟩, ⟨by (with_reducible repeat (first | refine blk_drewN ?_ _ | refine blk_drew ?_ | refine blk_alloc ?_ _)); exact BK476.out⟩, ⟨by repeat (first | (with_reducible first | exact HB.out | apply below_alloc | apply pw_below_drewN | apply below_drew1 | refine below_set ?_ GE476.out) | exact HB.out)⟩⟩
              · replace c34 := Bool.eq_false_iff.mpr c34
                subst c34
                have H1 : (downpourlaw06_RandomOrders.j1 kj5 a0 a1 a2 t466 t467 t468 true) = some r := by rw [if_neg (show ¬ (false = true) by decide)] at H; exact H
                clear H
                have H := H1
                clear H1
                have H' := Aside0.mk H
                clear H
                have hcz39_0 : w28.cell? ⟨gb476, 0, none⟩ = some (.int .u64 0) := (blk_cell BK476.out 0).trans rfl
                have hcz39_1 : w28.cell? ⟨gb476, 1, none⟩ = some (.slice none 0 0) := (blk_cell BK476.out 1).trans rfl
                have hfz39_0 := blk_frozen BK476.out 0
                have hfz39_1 := blk_frozen BK476.out 1
                obtain ⟨Ao40, co40, eo40⟩ := Kd.R_slice HO_8.out
                subst eo40
                go_wp2_with (first | (go_at_call 27; (with_reducible refine (downpourref01_Numbers.calls kj5 _ _ t462 _ _ t473 false _ ?side1 ?side2 ?side3 ?side4 A33.out).mono ?_); (case side1 => refine (Kd.R_reads' (e := 3) (base := w.heap.size) (ok := fun k_ => (some k_ ≠ (v469 : Value).ownBlock ∧ some k_ ≠ (.slice Ao30 t473.length co30 : Value).ownBlock)) (n := t462.length) (c := co40) ?_).2.2; exact (by (with_reducible repeat (first | apply Kd.R_alloc | apply Kd.R_drewN | apply Kd.R_drew)); exact (Kd.R_mono (Kd.R_far (p := ⟨gb476, 1, none⟩) (Kd.R_far (p := ⟨gb476, 0, none⟩) (Kd.R_types HO_8.out BK476.out (by decide)) (fun _ hk => hk.2) (.int .u64 t472)) (fun _ hk => hk.2) (.slice Ao30 t473.length co30)) (fun _ h_ => h_.1)))); (case side2 => exact (Kd.R_reads' HO_8.out).2.1); (case side3 => refine (Kd.R_reads' (e := 3) (base := w.heap.size) (ok := fun k_ => ((True ∧ some k_ ≠ (.slice Ao40 t462.length co40 : Value).ownBlock) ∧ some k_ ≠ (v469 : Value).ownBlock)) (n := t473.length) (c := co30) ?_).2.2; exact (by (with_reducible repeat (first | apply Kd.R_alloc | apply Kd.R_drewN | apply Kd.R_drew)); exact (Kd.R_mono (Kd.R_far (p := ⟨gb476, 1, none⟩) (Kd.R_far (p := ⟨gb476, 0, none⟩) (Kd.R_types HO475.out BK476.out (by decide)) (fun _ hk => hk.2) (.int .u64 t472)) (fun _ hk => hk.2) (.slice Ao30 t473.length co30)) (fun _ h_ => h_.1)))); (case side4 => exact (Kd.R_reads' HO475.out).2.1); rintro e w' ⟨rfl, ⟨nd, rfl⟩⟩))
                go_meet
                case rel => exact ⟨_, (true), (by first | rfl | (simp; done) | (simp [*]; done)), H', ⟨by have := HJ5.out; first | omega | exact Nat.le_refl _⟩, ⟨by (with_reducible repeat (first | apply Kd.R_alloc | apply Kd.R_drewN | apply Kd.R_drew)); exact Kd.R_mono (Kd.R_far (p := ⟨gb476, 1, none⟩) (Kd.R_far (p := ⟨gb476, 0, none⟩) (Kd.R_types HO_11.out BK476.out (by decide)) (fun _ hk => hk.2) (.int .u64 t472)) (fun _ hk => hk.2) (.slice Ao30 t473.length co30)) (fun _ hk => hk.1.2)⟩, ⟨by (with_reducible repeat (first | apply Kd.R_alloc | apply Kd.R_drewN | apply Kd.R_drew)); exact Kd.R_mono (Kd.R_far (p := ⟨gb476, 1, none⟩) (Kd.R_far (p := ⟨gb476, 0, none⟩) (Kd.R_types HO475.out BK476.out (by decide)) (fun _ hk => hk.2) (.int .u64 t472)) (fun _ hk => hk.2) (.slice Ao30 t473.length co30)) (fun _ hk => hk.1.2)⟩, ⟨by (with_reducible repeat (first | refine blk_drewN ?_ _ | refine blk_drew ?_ | refine blk_alloc ?_ _)); refine blk_put (cs := #[.int .u64 t472, .slice none 0 0]) ?_ 1 _ rfl; (with_reducible repeat (first | refine blk_drewN ?_ _ | refine blk_drew ?_ | refine blk_alloc ?_ _)); refine blk_put (cs := #[.int .u64 0, .slice none 0 0]) ?_ 0 _ rfl; (with_reducible repeat (first | refine blk_drewN ?_ _ | refine blk_drew ?_ | refine blk_alloc ?_ _)); exact BK476.out⟩, ⟨by repeat (first | (with_reducible first | exact HB.out | apply below_alloc | apply pw_below_drewN | apply below_drew1 | refine below_set ?_ GE476.out) | exact HB.out)⟩⟩
            · rw [if_neg c32] at H
              have c32b0 : (t461 == t472) = false := beq_eq_false_iff_ne.mpr c32
              have c32b1 : (t461 != t472) = true := bne_iff_ne.mpr c32
              have H' := Aside0.mk H
              clear H
              have hcz41_0 : w28.cell? ⟨gb476, 0, none⟩ = some (.int .u64 0) := (blk_cell BK476.out 0).trans rfl
              have hcz41_1 : w28.cell? ⟨gb476, 1, none⟩ = some (.slice none 0 0) := (blk_cell BK476.out 1).trans rfl
              have hfz41_0 := blk_frozen BK476.out 0
              have hfz41_1 := blk_frozen BK476.out 1
              go_wp2
              go_meet
              case rel => exact ⟨_, (true), (by first | rfl | (simp; done) | (simp [*]; done)), H', ⟨by have := HJ5.out; first | omega | exact Nat.le_refl _⟩, ⟨by (with_reducible repeat (first | apply Kd.R_alloc | apply Kd.R_drewN | apply Kd.R_drew)); exact Kd.R_mono (Kd.R_far (p := ⟨gb476, 1, none⟩) (Kd.R_far (p := ⟨gb476, 0, none⟩) (Kd.R_types HO_11.out BK476.out (by decide)) (fun _ hk => hk.2) (.int .u64 t472)) (fun _ hk => hk.2) (.slice Ao30 t473.length co30)) (fun _ hk => hk.1.2)⟩, ⟨by (with_reducible repeat (first | apply Kd.R_alloc | apply Kd.R_drewN | apply Kd.R_drew)); exact Kd.R_mono (Kd.R_far (p := ⟨gb476, 1, none⟩) (Kd.R_far (p := ⟨gb476, 0, none⟩) (Kd.R_types HO475.out BK476.out (by decide)) (fun _ hk => hk.2) (.int .u64 t472)) (fun _ hk => hk.2) (.slice Ao30 t473.length co30)) (fun _ hk => hk.1.2)⟩, ⟨by (with_reducible repeat (first | refine blk_drewN ?_ _ | refine blk_drew ?_ | refine blk_alloc ?_ _)); refine blk_put (cs := #[.int .u64 t472, .slice none 0 0]) ?_ 1 _ rfl; (with_reducible repeat (first | refine blk_drewN ?_ _ | refine blk_drew ?_ | refine blk_alloc ?_ _)); refine blk_put (cs := #[.int .u64 0, .slice none 0 0]) ?_ 0 _ rfl; (with_reducible repeat (first | refine blk_drewN ?_ _ | refine blk_drew ?_ | refine blk_alloc ?_ _)); exact BK476.out⟩, ⟨by repeat (first | (with_reducible first | exact HB.out | apply below_alloc | apply pw_below_drewN | apply below_drew1 | refine below_set ?_ GE476.out) | exact HB.out)⟩⟩
          · rw [if_neg c31] at H
            have c31b0 : (t463 == 0) = false := beq_eq_false_iff_ne.mpr c31
            have c31b1 : (t463 != 0) = true := bne_iff_ne.mpr c31
            (first | rw [c31b0] | (simp only [i64_w, i32_w]; rw [c31b0]) | skip)
            have H' := Aside0.mk H
            clear H
            go_wp2
            go_meet
            case rel => exact ⟨_, (true), (by first | rfl | (simp; done) | (simp [*]; done)), H', ⟨by have := HJ5.out; first | omega | exact Nat.le_refl _⟩, ⟨by (with_reducible repeat (first | apply Kd.R_alloc | apply Kd.R_drewN | apply Kd.R_drew)); exact Kd.R_mono (Kd.R_far (p := ⟨gb476, 1, none⟩) (Kd.R_far (p := ⟨gb476, 0, none⟩) (Kd.R_types HO_11.out BK476.out (by decide)) (fun _ hk => hk.2) (.int .u64 t472)) (fun _ hk => hk.2) (.slice Ao30 t473.length co30)) (fun _ hk => hk.1.2)⟩, ⟨by (with_reducible repeat (first | apply Kd.R_alloc | apply Kd.R_drewN | apply Kd.R_drew)); exact Kd.R_mono (Kd.R_far (p := ⟨gb476, 1, none⟩) (Kd.R_far (p := ⟨gb476, 0, none⟩) (Kd.R_types HO475.out BK476.out (by decide)) (fun _ hk => hk.2) (.int .u64 t472)) (fun _ hk => hk.2) (.slice Ao30 t473.length co30)) (fun _ hk => hk.1.2)⟩, ⟨by (with_reducible repeat (first | refine blk_drewN ?_ _ | refine blk_drew ?_ | refine blk_alloc ?_ _)); refine blk_put (cs := #[.int .u64 t472, .slice none 0 0]) ?_ 1 _ rfl; (with_reducible repeat (first | refine blk_drewN ?_ _ | refine blk_drew ?_ | refine blk_alloc ?_ _)); refine blk_put (cs := #[.int .u64 0, .slice none 0 0]) ?_ 0 _ rfl; (with_reducible repeat (first | refine blk_drewN ?_ _ | refine blk_drew ?_ | refine blk_alloc ?_ _)); exact BK476.out⟩, ⟨by repeat (first | (with_reducible first | exact HB.out | apply below_alloc | apply pw_below_drewN | apply below_drew1 | refine below_set ?_ GE476.out) | exact HB.out)⟩⟩
        case rest =>
          clear HC26
          try clear c1
          try clear c2
          try clear p2
          try clear c3
          try clear c4
          try clear p6
          try clear c9
          try clear c9b0
          try clear c10
          try clear c12
          try clear c13
          try clear c13b0
          try clear c13b1
          try clear c14
          try clear c14b0
          try clear c14b1
          try clear c15
          try clear c15b0
          try clear c15b1
          try clear c16
          try clear c16b0
          try clear c16b1
          try clear c23
          try clear c24
          try clear c25
          try clear c26
          try clear c31
          try clear c31b0
          try clear c31b1
          try clear c32
          try clear c32b0
          try clear c32b1
          try clear c34
          try clear hcz29_0
          try clear hcz29_1
          try clear hcz36_0
          try clear hcz36_1
          try clear hcz39_0
          try clear hcz39_1
          try clear hcz41_0
          try clear hcz41_1
          try clear hfz29_0
          try clear hfz29_1
          try clear hfz36_0
          try clear hfz36_1
          try clear hfz39_0
          try clear hfz39_1
          try clear hfz41_0
          try clear hfz41_1
          try clear p2
          obtain ⟨kq, x82_25, rfl, HA, HJ25, HO_11, HO_477001, BK476, HB⟩ := hcut
          cases kq with
          | zero => exact absurd HA.out (by simp [downpourlaw06_RandomOrders.j1])
          | succ kj25 =>
            have H := HA.out
            clear HA
            simp only [downpourlaw06_RandomOrders.j1] at H
            by_cases c42 : x82_25 = true
            · subst c42
              have H1 : (some false) = some r := by rw [if_pos rfl] at H; exact H
              clear H
              have H := H1
              clear H1
              obtain rfl := Option.some.inj H
              go_wp2
              go_ret
              exact ⟨by first | rfl | (simp [errW_none, errW_some] <;> rfl) | (simp [*, errW_none, errW_some] <;> rfl), by repeat (first | (with_reducible first | exact HB.out | apply below_alloc | apply pw_below_drewN | apply below_drew1 | refine below_set ?_ GE476.out) | exact HB.out)⟩
            · replace c42 := Bool.eq_false_iff.mpr c42
              subst c42
              have H1 : (if a2 < 0 then (downpourlaw06_RandomOrders.j2 kj25 a0 a1 a2 t466 t467 t468 true) else (downpourlaw06_RandomOrders.j2 kj25 a0 a1 a2 t466 t467 t468 (decide (a2 > a1)))) = some r := by rw [if_neg (show ¬ (false = true) by decide)] at H; exact H
              clear H
              have H := H1
              clear H1
              have HC43 := Aside0.mk H
              clear H
              go_upto_region 8 with (fail)
              go_cut [89] (fun v89 wc => ∃ (kq : Nat) (x89_42 : Bool), v89 = .bool x89_42 ∧ Aside0 (downpourlaw06_RandomOrders.j2 kq a0 a1 a2 t466 t467 t468 x89_42 = some r) ∧ Aside0 (kq ≤ kj25) ∧ Aside0 (Kd.R (Kd.int .i64) 3 wc w.heap.size (fun k_ => some k_ ≠ ((.slice Ao30 t473.length co30) : Value).ownBlock) v469 t467) ∧ Aside0 (Kd.R (Kd.int .i64) 3 wc w.heap.size (fun k_ => some k_ ≠ (v469 : Value).ownBlock) (.slice Ao30 t473.length co30) t473) ∧ Aside0 (wc.heap[gb476]? = some (.cells #[.int .u64 t472, (.slice Ao30 t473.length co30)] 45 (0, 0))) ∧ Aside0 (Below w.heap.size w wc))
              case first =>
                have H := HC43.out
                clear HC43
                by_cases c44 : a2 < 0
                · rw [if_pos c44] at H
                  have c44b0 : decide (a2 < 0) = true := decide_eq_true c44
                  clear c44
                  (first | rw [c44b0] | (simp only [i64_w, i32_w]; rw [c44b0]) | skip)
                  have H' := Aside0.mk H
                  clear H
                  go_wp2
                  go_meet
                  case rel => exact ⟨_, (true), (by first | rfl | (simp; done) | (simp [*]; done)), H', ⟨by have := HJ5.out; have := HJ25.out; first | omega | exact Nat.le_refl _⟩, ⟨by (with_reducible repeat (first | apply Kd.R_alloc | apply Kd.R_drewN | apply Kd.R_drew)); exact HO_11.out⟩, ⟨by (with_reducible repeat (first | apply Kd.R_alloc | apply Kd.R_drewN | apply Kd.R_drew)); exact HO_477001.out⟩, ⟨by (with_reducible repeat (first | refine blk_drewN ?_ _ | refine blk_drew ?_ | refine blk_alloc ?_ _)); exact BK476.out⟩, ⟨by repeat (first | (with_reducible first | exact HB.out | apply below_alloc | apply pw_below_drewN | apply below_drew1 | refine below_set ?_ GE476.out) | exact HB.out)⟩⟩
                · rw [if_neg c44] at H
                  have c44b0 : decide (a2 < 0) = false := decide_eq_false c44
                  clear c44
                  (first | rw [c44b0] | (simp only [i64_w, i32_w]; rw [c44b0]) | skip)
                  have H' := Aside0.mk H
                  clear H
                  go_wp2
                  go_meet
                  case rel => exact ⟨_, (decide (a2 > a1)), (by first | rfl | (simp; done) | (simp [*]; done)), H', ⟨by have := HJ5.out; have := HJ25.out; first | omega | exact Nat.le_refl _⟩, ⟨by (with_reducible repeat (first | apply Kd.R_alloc | apply Kd.R_drewN | apply Kd.R_drew)); exact HO_11.out⟩, ⟨by (with_reducible repeat (first | apply Kd.R_alloc | apply Kd.R_drewN | apply Kd.R_drew)); exact HO_477001.out⟩, ⟨by (with_reducible repeat (first | refine blk_drewN ?_ _ | refine blk_drew ?_ | refine blk_alloc ?_ _)); exact BK476.out⟩, ⟨by repeat (first | (with_reducible first | exact HB.out | apply below_alloc | apply pw_below_drewN | apply below_drew1 | refine below_set ?_ GE476.out) | exact HB.out)⟩⟩
              case rest =>
                clear HC43
                try clear c1
                try clear c2
                try clear p2
                try clear c3
                try clear c4
                try clear p6
                try clear c9
                try clear c9b0
                try clear c10
                try clear c12
                try clear c13
                try clear c13b0
                try clear c13b1
                try clear c14
                try clear c14b0
                try clear c14b1
                try clear c15
                try clear c15b0
                try clear c15b1
                try clear c16
                try clear c16b0
                try clear c16b1
                try clear c23
                try clear c24
                try clear c25
                try clear c26
                try clear c31
                try clear c31b0
                try clear c31b1
                try clear c32
                try clear c32b0
                try clear c32b1
                try clear c34
                try clear c42
                try clear c44
                try clear c44b0
                try clear hcz29_0
                try clear hcz29_1
                try clear hcz36_0
                try clear hcz36_1
                try clear hcz39_0
                try clear hcz39_1
                try clear hcz41_0
                try clear hcz41_1
                try clear hfz29_0
                try clear hfz29_1
                try clear hfz36_0
                try clear hfz36_1
                try clear hfz39_0
                try clear hfz39_1
                try clear hfz41_0
                try clear hfz41_1
                try clear p2
                try clear p6
                obtain ⟨kq, x89_42, rfl, HA, HJ42, HO_11, HO_477001, BK476, HB⟩ := hcut
                cases kq with
                | zero => exact absurd HA.out (by simp [downpourlaw06_RandomOrders.j2])
                | succ kj42 =>
                  have H := HA.out
                  clear HA
                  simp only [downpourlaw06_RandomOrders.j2] at H
                  by_cases c45 : x89_42 = true
                  · subst c45
                    have H1 : (if t468 = 2 then (if t466 = 0 then (some ((t467.length : Int) == 0)) else (some false)) else (some false)) = some r := by rw [if_pos rfl] at H; exact H
                    clear H
                    have H := H1
                    clear H1
                    by_cases c46 : t468 = 2
                    · rw [if_pos c46] at H
                      have c46b0 : (t468 == 2) = true := beq_iff_eq.mpr c46
                      have c46b1 : (t468 != 2) = false := bne_eq_false_iff_eq.mpr c46
                      clear c46
                      by_cases c47 : t466 = 0
                      · rw [if_pos c47] at H
                        have c47b0 : (t466 == 0) = true := beq_iff_eq.mpr c47
                        have c47b1 : (t466 != 0) = false := bne_eq_false_iff_eq.mpr c47
                        clear c47
                        obtain rfl := Option.some.inj H
                        obtain ⟨Ao48, co48, eo48⟩ := Kd.R_slice HO_11.out
                        subst eo48
                        go_wp2
                        go_ret
                        exact ⟨by first | rfl | (simp [errW_none, errW_some] <;> rfl) | (simp [*, errW_none, errW_some] <;> rfl), by repeat (first | (with_reducible first | exact HB.out | apply below_alloc | apply pw_below_drewN | apply below_drew1 | refine below_set ?_ GE476.out) | exact HB.out)⟩
                      · rw [if_neg c47] at H
                        have c47b0 : (t466 == 0) = false := beq_eq_false_iff_ne.mpr c47
                        have c47b1 : (t466 != 0) = true := bne_iff_ne.mpr c47
                        obtain rfl := Option.some.inj H
                        go_wp2
                        go_ret
                        exact ⟨by first | rfl | (simp [errW_none, errW_some] <;> rfl) | (simp [*, errW_none, errW_some] <;> rfl), by repeat (first | (with_reducible first | exact HB.out | apply below_alloc | apply pw_below_drewN | apply below_drew1 | refine below_set ?_ GE476.out) | exact HB.out)⟩
                    · rw [if_neg c46] at H
                      have c46b0 : (t468 == 2) = false := beq_eq_false_iff_ne.mpr c46
                      have c46b1 : (t468 != 2) = true := bne_iff_ne.mpr c46
                      obtain rfl := Option.some.inj H
                      go_wp2
                      go_ret
                      exact ⟨by first | rfl | (simp [errW_none, errW_some] <;> rfl) | (simp [*, errW_none, errW_some] <;> rfl), by repeat (first | (with_reducible first | exact HB.out | apply below_alloc | apply pw_below_drewN | apply below_drew1 | refine below_set ?_ GE476.out) | exact HB.out)⟩
                  · replace c45 := Bool.eq_false_iff.mpr c45
                    subst c45
                    have H1 : ((downpourref06_Some.f kj42 a0 a1 a2).bind fun bt479 => (if t468 = 0 then (if t466 = bt479.1 then ((downpourref01_Numbers.f kj42 t467 bt479.2).bind fun t484 => (some t484)) else (some false)) else (some false))) = some r := by rw [if_neg (show ¬ (false = true) by decide)] at H; exact H
                    clear H
                    have H := H1
                    clear H1
                    replace H := Option.bind_eq_some_iff.mp H
                    obtain ⟨⟨t479, t480⟩, A490, H⟩ := H
                    replace H : (if t468 = 0 then (if t466 = t479 then ((downpourref01_Numbers.f kj42 t467 t480).bind fun t484 => (some t484)) else (some false)) else (some false)) = some r := H
                    have A49 := Aside0.mk A490
                    clear A490
                    by_cases c50 : t468 = 0
                    · rw [if_pos c50] at H
                      have c50b0 : (t468 == 0) = true := beq_iff_eq.mpr c50
                      have c50b1 : (t468 != 0) = false := bne_eq_false_iff_eq.mpr c50
                      clear c50
                      by_cases c51 : t466 = t479
                      · rw [if_pos c51] at H
                        have c51b0 : (t466 == t479) = true := beq_iff_eq.mpr c51
                        have c51b1 : (t466 != t479) = false := bne_eq_false_iff_eq.mpr c51
                        clear c51
                        replace H := Option.bind_eq_some_iff.mp H
                        obtain ⟨t484, A520, H⟩ := H
                        replace H : (some t484) = some r := H
                        have A52 := Aside0.mk A520
                        clear A520
                        obtain rfl := Option.some.inj H
                        go_wp2_with (first | ((with_reducible refine gate_callee (f := 28) rfl ?_); refine goesL_ (some 104) rfl rfl Try.func28 (by kernel_rfl) rfl #[.int .u64 a0, .int .i64 a1, .int .i64 a2] rfl (by (try simp only [List.map_toArray, List.map_cons, List.map_nil]); first | done | rfl | (simp only [List.length_drop, List.length_take]; rfl)) ?_; (with_reducible refine (downpourref06_Some.calls kj42 a0 a1 a2 t479 t480 _ A49.out).mono ?_); rintro e w53 ⟨v481, rfl, ho0, hb⟩; refine ⟨_, rfl, ?_⟩; have n0_ := Aside0.mk (Kd.R_elder' (by (with_reducible repeat (first | apply Kd.R_alloc | apply Kd.R_drewN | apply Kd.R_drew)); exact HO_11.out) (Kd.R_base ho0) hb); have n1_ := Aside0.mk (Kd.R_elder' (by (with_reducible repeat (first | apply Kd.R_alloc | apply Kd.R_drewN | apply Kd.R_drew)); exact HO_477001.out) (Kd.R_base ho0) hb); have n2_ := Aside0.mk (Kd.R_lower (Kd.R_new' (Kd.R_new' ho0 (Kd.R_lt (by (with_reducible repeat (first | apply Kd.R_alloc | apply Kd.R_drewN | apply Kd.R_drew)); exact HO_11.out))) (Kd.R_lt (by (with_reducible repeat (first | apply Kd.R_alloc | apply Kd.R_drewN | apply Kd.R_drew)); exact HO_477001.out))) (below_size (by repeat (first | (with_reducible first | exact HB.out | apply below_alloc | apply pw_below_drewN | apply below_drew1 | refine below_set ?_ GE476.out) | exact HB.out)))); have n3_ := Aside0.mk (blk_below (g := gb476) (o := .cells #[.int .u64 t472, .slice Ao30 t473.length co30] 45 (0, 0)) (by (with_reducible repeat (first | refine blk_drewN ?_ _ | refine blk_drew ?_ | refine blk_alloc ?_ _)); exact BK476.out) hb); have n4_ := Aside0.mk (below_step (by repeat (first | (with_reducible first | exact HB.out | apply below_alloc | apply pw_below_drewN | apply below_drew1 | refine below_set ?_ GE476.out) | exact HB.out)) hb); clear HO_11; clear HO_477001; clear BK476; clear HB; have HO_11 := n0_; have HO_477001 := n1_; have HO482 := n2_; have BK476 := n3_; have HB := n4_; clear n0_ n1_ n2_ n3_ n4_; (try clear hb); (try clear hb2); (try clear hk); (try clear hi); (try clear ho0)) | ((with_reducible refine gate_dst (N := 14) rfl ?_); (try (refine gate_guard (by rfl) ?_; dsimp only)); refine box_event ?hg (N := 14) ?hd (cs := #[.int .u64 0, .slice none 0 0]) (t := 45) ?hr ?_; (case hd => rfl); (case hg => rfl); (case hr => first | (go_simp; done) | (go_simp; rfl)); intro gb483 hg w54 hbox hb; have n0_ := Aside0.mk (Kd.R_below (by (with_reducible repeat (first | apply Kd.R_alloc | apply Kd.R_drewN | apply Kd.R_drew)); exact HO_11.out) hb); have n1_ := Aside0.mk (Kd.R_below (by (with_reducible repeat (first | apply Kd.R_alloc | apply Kd.R_drewN | apply Kd.R_drew)); exact HO_477001.out) hb); have n2_ := Aside0.mk (Kd.R_below (by (with_reducible repeat (first | apply Kd.R_alloc | apply Kd.R_drewN | apply Kd.R_drew)); exact HO482.out) hb); have n3_ := Aside0.mk (blk_below (g := gb476) (o := .cells #[.int .u64 t472, .slice Ao30 t473.length co30] 45 (0, 0)) (by (with_reducible repeat (first | refine blk_drewN ?_ _ | refine blk_drew ?_ | refine blk_alloc ?_ _)); exact BK476.out) hb); have n4_ := Aside0.mk (below_step (by repeat (first | (with_reducible first | exact HB.out | apply below_alloc | apply pw_below_drewN | apply below_drew1 | refine below_set ?_ GE476.out) | exact HB.out)) hb); have n5_ := Aside0.mk (hbox); have n6_ := Aside0.mk ((by rw [hg]; exact (below_size (by repeat (first | (with_reducible first | exact HB.out | apply below_alloc | apply pw_below_drewN | apply below_drew1 | refine below_set ?_ GE476.out) | exact HB.out))) : w.heap.size ≤ gb483)); have n7_ := Aside0.mk ((by rw [hg]; exact (below_size (by repeat (first | (with_reducible first | exact HB.out | apply below_alloc | apply pw_below_drewN | apply below_drew1 | refine below_set ?_ GE476.out) | exact HB.out))) : w.heap.size ≤ gb483)); have n8_ := Aside0.mk ((by rw [hg]; exact Nat.ne_of_lt (blk_lt (g := gb476) (o := .cells #[.int .u64 t472, .slice Ao30 t473.length co30] 45 (0, 0)) (by (with_reducible repeat (first | refine blk_drewN ?_ _ | refine blk_drew ?_ | refine blk_alloc ?_ _)); exact BK476.out)) : gb476 ≠ gb483)); have n9_ := Aside0.mk ((by rw [hg]; exact Nat.ne_of_gt (blk_lt (g := gb476) (o := .cells #[.int .u64 t472, .slice Ao30 t473.length co30] 45 (0, 0)) (by (with_reducible repeat (first | refine blk_drewN ?_ _ | refine blk_drew ?_ | refine blk_alloc ?_ _)); exact BK476.out)) : gb483 ≠ gb476)); clear HO_11; clear HO_477001; clear HO482; clear BK476; clear HB; have HO_11 := n0_; have HO_477001 := n1_; have HO482 := n2_; have BK476 := n3_; have HB := n4_; have BK483 := n5_; have GW483 := n6_; have GE483 := n7_; have NB476_483 := n8_; have NB483_476 := n9_; clear n0_ n1_ n2_ n3_ n4_ n5_ n6_ n7_ n8_ n9_; clear hb hbox hg; have hnb55 := NB483_476.out; have hnc55 := NB476_483.out; have hcz56_0 : w54.cell? ⟨gb483, 0, none⟩ = some (.int .u64 0) := (blk_cell BK483.out 0).trans rfl; have hcz56_1 : w54.cell? ⟨gb483, 1, none⟩ = some (.slice none 0 0) := (blk_cell BK483.out 1).trans rfl; have hfz56_0 := blk_frozen BK483.out 0; have hfz56_1 := blk_frozen BK483.out 1; obtain ⟨Ao57, co57, eo57⟩ := Kd.R_slice HO482.out; subst eo57; obtain ⟨Ao58, co58, eo58⟩ := Kd.R_slice HO_11.out; subst eo58) | (go_at_call 27; (with_reducible refine (downpourref01_Numbers.calls kj42 _ _ t467 _ _ t480 t484 _ ?side1 ?side2 ?side3 ?side4 A52.out).mono ?_); (case side1 => refine (Kd.R_reads' (e := 3) (base := w.heap.size) (ok := fun k_ => (some k_ ≠ (.slice Ao30 t473.length co30 : Value).ownBlock ∧ some k_ ≠ (.slice Ao57 t480.length co57 : Value).ownBlock)) (n := t467.length) (c := co58) ?_).2.2; exact (by (with_reducible repeat (first | apply Kd.R_alloc | apply Kd.R_drewN | apply Kd.R_drew)); exact (Kd.R_mono (Kd.R_far (p := ⟨gb483, 1, none⟩) (Kd.R_far (p := ⟨gb483, 0, none⟩) (Kd.R_types HO_11.out BK483.out (by decide)) (fun _ hk => hk.2) (.int .u64 t479)) (fun _ hk => hk.2) (.slice Ao57 t480.length co57)) (fun _ h_ => h_.1)))); (case side2 => exact (Kd.R_reads' HO_11.out).2.1); (case side3 => refine (Kd.R_reads' (e := 3) (base := w.heap.size) (ok := fun k_ => ((True ∧ some k_ ≠ (.slice Ao58 t467.length co58 : Value).ownBlock) ∧ some k_ ≠ (.slice Ao30 t473.length co30 : Value).ownBlock)) (n := t480.length) (c := co57) ?_).2.2; exact (by (with_reducible repeat (first | apply Kd.R_alloc | apply Kd.R_drewN | apply Kd.R_drew)); exact (Kd.R_mono (Kd.R_far (p := ⟨gb483, 1, none⟩) (Kd.R_far (p := ⟨gb483, 0, none⟩) (Kd.R_types HO482.out BK483.out (by decide)) (fun _ hk => hk.2) (.int .u64 t479)) (fun _ hk => hk.2) (.slice Ao57 t480.length co57)) (fun _ h_ => h_.1)))); (case side4 => exact (Kd.R_reads' HO482.out).2.1); rintro e w' ⟨rfl, ⟨nd, rfl⟩⟩))
                        go_ret
                        exact ⟨by first | rfl | (simp [errW_none, errW_some] <;> rfl) | (simp [*, errW_none, errW_some] <;> rfl), by repeat (first | (with_reducible first | exact HB.out | apply below_alloc | apply pw_below_drewN | apply below_drew1 | refine below_set ?_ GE476.out | refine below_set ?_ GE483.out) | exact HB.out)⟩
                      · rw [if_neg c51] at H
                        have c51b0 : (t466 == t479) = false := beq_eq_false_iff_ne.mpr c51
                        have c51b1 : (t466 != t479) = true := bne_iff_ne.mpr c51
                        obtain rfl := Option.some.inj H
                        go_wp2_with (first | ((with_reducible refine gate_callee (f := 28) rfl ?_); refine goesL_ (some 104) rfl rfl Try.func28 (by kernel_rfl) rfl #[.int .u64 a0, .int .i64 a1, .int .i64 a2] rfl (by (try simp only [List.map_toArray, List.map_cons, List.map_nil]); first | done | rfl | (simp only [List.length_drop, List.length_take]; rfl)) ?_; (with_reducible refine (downpourref06_Some.calls kj42 a0 a1 a2 t479 t480 _ A49.out).mono ?_); rintro e w59 ⟨v481, rfl, ho0, hb⟩; refine ⟨_, rfl, ?_⟩; have n0_ := Aside0.mk (Kd.R_elder' (by (with_reducible repeat (first | apply Kd.R_alloc | apply Kd.R_drewN | apply Kd.R_drew)); exact HO_11.out) (Kd.R_base ho0) hb); have n1_ := Aside0.mk (Kd.R_elder' (by (with_reducible repeat (first | apply Kd.R_alloc | apply Kd.R_drewN | apply Kd.R_drew)); exact HO_477001.out) (Kd.R_base ho0) hb); have n2_ := Aside0.mk (Kd.R_lower (Kd.R_new' (Kd.R_new' ho0 (Kd.R_lt (by (with_reducible repeat (first | apply Kd.R_alloc | apply Kd.R_drewN | apply Kd.R_drew)); exact HO_11.out))) (Kd.R_lt (by (with_reducible repeat (first | apply Kd.R_alloc | apply Kd.R_drewN | apply Kd.R_drew)); exact HO_477001.out))) (below_size (by repeat (first | (with_reducible first | exact HB.out | apply below_alloc | apply pw_below_drewN | apply below_drew1 | refine below_set ?_ GE476.out) | exact HB.out)))); have n3_ := Aside0.mk (blk_below (g := gb476) (o := .cells #[.int .u64 t472, .slice Ao30 t473.length co30] 45 (0, 0)) (by (with_reducible repeat (first | refine blk_drewN ?_ _ | refine blk_drew ?_ | refine blk_alloc ?_ _)); exact BK476.out) hb); have n4_ := Aside0.mk (below_step (by repeat (first | (with_reducible first | exact HB.out | apply below_alloc | apply pw_below_drewN | apply below_drew1 | refine below_set ?_ GE476.out) | exact HB.out)) hb); clear HO_11; clear HO_477001; clear BK476; clear HB; have HO_11 := n0_; have HO_477001 := n1_; have HO482 := n2_; have BK476 := n3_; have HB := n4_; clear n0_ n1_ n2_ n3_ n4_; (try clear hb); (try clear hb2); (try clear hk); (try clear hi); (try clear ho0)) | ((with_reducible refine gate_dst (N := 14) rfl ?_); (try (refine gate_guard (by rfl) ?_; dsimp only)); refine box_event ?hg (N := 14) ?hd (cs := #[.int .u64 0, .slice none 0 0]) (t := 45) ?hr ?_; (case hd => rfl); (case hg => rfl); (case hr => first | (go_simp; done) | (go_simp; rfl)); intro gb483 hg w60 hbox hb; have n0_ := Aside0.mk (Kd.R_below (by (with_reducible repeat (first | apply Kd.R_alloc | apply Kd.R_drewN | apply Kd.R_drew)); exact HO_11.out) hb); have n1_ := Aside0.mk (Kd.R_below (by (with_reducible repeat (first | apply Kd.R_alloc | apply Kd.R_drewN | apply Kd.R_drew)); exact HO_477001.out) hb); have n2_ := Aside0.mk (Kd.R_below (by (with_reducible repeat (first | apply Kd.R_alloc | apply Kd.R_drewN | apply Kd.R_drew)); exact HO482.out) hb); have n3_ := Aside0.mk (blk_below (g := gb476) (o := .cells #[.int .u64 t472, .slice Ao30 t473.length co30] 45 (0, 0)) (by (with_reducible repeat (first | refine blk_drewN ?_ _ | refine blk_drew ?_ | refine blk_alloc ?_ _)); exact BK476.out) hb); have n4_ := Aside0.mk (below_step (by repeat (first | (with_reducible first | exact HB.out | apply below_alloc | apply pw_below_drewN | apply below_drew1 | refine below_set ?_ GE476.out) | exact HB.out)) hb); have n5_ := Aside0.mk (hbox); have n6_ := Aside0.mk ((by rw [hg]; exact (below_size (by repeat (first | (with_reducible first | exact HB.out | apply below_alloc | apply pw_below_drewN | apply below_drew1 | refine below_set ?_ GE476.out) | exact HB.out))) : w.heap.size ≤ gb483)); have n7_ := Aside0.mk ((by rw [hg]; exact (below_size (by repeat (first | (with_reducible first | exact HB.out | apply below_alloc | apply pw_below_drewN | apply below_drew1 | refine below_set ?_ GE476.out) | exact HB.out))) : w.heap.size ≤ gb483)); have n8_ := Aside0.mk ((by rw [hg]; exact Nat.ne_of_lt (blk_lt (g := gb476) (o := .cells #[.int .u64 t472, .slice Ao30 t473.length co30] 45 (0, 0)) (by (with_reducible repeat (first | refine blk_drewN ?_ _ | refine blk_drew ?_ | refine blk_alloc ?_ _)); exact BK476.out)) : gb476 ≠ gb483)); have n9_ := Aside0.mk ((by rw [hg]; exact Nat.ne_of_gt (blk_lt (g := gb476) (o := .cells #[.int .u64 t472, .slice Ao30 t473.length co30] 45 (0, 0)) (by (with_reducible repeat (first | refine blk_drewN ?_ _ | refine blk_drew ?_ | refine blk_alloc ?_ _)); exact BK476.out)) : gb483 ≠ gb476)); clear HO_11; clear HO_477001; clear HO482; clear BK476; clear HB; have HO_11 := n0_; have HO_477001 := n1_; have HO482 := n2_; have BK476 := n3_; have HB := n4_; have BK483 := n5_; have GW483 := n6_; have GE483 := n7_; have NB476_483 := n8_; have NB483_476 := n9_; clear n0_ n1_ n2_ n3_ n4_ n5_ n6_ n7_ n8_ n9_; clear hb hbox hg; have hnb61 := NB483_476.out; have hnc61 := NB476_483.out; have hcz62_0 : w60.cell? ⟨gb483, 0, none⟩ = some (.int .u64 0) := (blk_cell BK483.out 0).trans rfl; have hcz62_1 : w60.cell? ⟨gb483, 1, none⟩ = some (.slice none 0 0) := (blk_cell BK483.out 1).trans rfl; have hfz62_0 := blk_frozen BK483.out 0; have hfz62_1 := blk_frozen BK483.out 1; obtain ⟨Ao63, co63, eo63⟩ := Kd.R_slice HO482.out; subst eo63))
                        go_ret
                        exact ⟨by first | rfl | (simp [errW_none, errW_some] <;> rfl) | (simp [*, errW_none, errW_some] <;> rfl), by repeat (first | (with_reducible first | exact HB.out | apply below_alloc | apply pw_below_drewN | apply below_drew1 | refine below_set ?_ GE476.out | refine below_set ?_ GE483.out) | exact HB.out)⟩
                    · rw [if_neg c50] at H
                      have c50b0 : (t468 == 0) = false := beq_eq_false_iff_ne.mpr c50
                      have c50b1 : (t468 != 0) = true := bne_iff_ne.mpr c50
                      obtain rfl := Option.some.inj H
                      go_wp2_with (first | ((with_reducible refine gate_callee (f := 28) rfl ?_); refine goesL_ (some 104) rfl rfl Try.func28 (by kernel_rfl) rfl #[.int .u64 a0, .int .i64 a1, .int .i64 a2] rfl (by (try simp only [List.map_toArray, List.map_cons, List.map_nil]); first | done | rfl | (simp only [List.length_drop, List.length_take]; rfl)) ?_; (with_reducible refine (downpourref06_Some.calls kj42 a0 a1 a2 t479 t480 _ A49.out).mono ?_); rintro e w64 ⟨v481, rfl, ho0, hb⟩; refine ⟨_, rfl, ?_⟩; have n0_ := Aside0.mk (Kd.R_elder' (by (with_reducible repeat (first | apply Kd.R_alloc | apply Kd.R_drewN | apply Kd.R_drew)); exact HO_11.out) (Kd.R_base ho0) hb); have n1_ := Aside0.mk (Kd.R_elder' (by (with_reducible repeat (first | apply Kd.R_alloc | apply Kd.R_drewN | apply Kd.R_drew)); exact HO_477001.out) (Kd.R_base ho0) hb); have n2_ := Aside0.mk (Kd.R_lower (Kd.R_new' (Kd.R_new' ho0 (Kd.R_lt (by (with_reducible repeat (first | apply Kd.R_alloc | apply Kd.R_drewN | apply Kd.R_drew)); exact HO_11.out))) (Kd.R_lt (by (with_reducible repeat (first | apply Kd.R_alloc | apply Kd.R_drewN | apply Kd.R_drew)); exact HO_477001.out))) (below_size (by repeat (first | (with_reducible first | exact HB.out | apply below_alloc | apply pw_below_drewN | apply below_drew1 | refine below_set ?_ GE476.out) | exact HB.out)))); have n3_ := Aside0.mk (blk_below (g := gb476) (o := .cells #[.int .u64 t472, .slice Ao30 t473.length co30] 45 (0, 0)) (by (with_reducible repeat (first | refine blk_drewN ?_ _ | refine blk_drew ?_ | refine blk_alloc ?_ _)); exact BK476.out) hb); have n4_ := Aside0.mk (below_step (by repeat (first | (with_reducible first | exact HB.out | apply below_alloc | apply pw_below_drewN | apply below_drew1 | refine below_set ?_ GE476.out) | exact HB.out)) hb); clear HO_11; clear HO_477001; clear BK476; clear HB; have HO_11 := n0_; have HO_477001 := n1_; have HO482 := n2_; have BK476 := n3_; have HB := n4_; clear n0_ n1_ n2_ n3_ n4_; (try clear hb); (try clear hb2); (try clear hk); (try clear hi); (try clear ho0)) | ((with_reducible refine gate_dst (N := 14) rfl ?_); (try (refine gate_guard (by rfl) ?_; dsimp only)); refine box_event ?hg (N := 14) ?hd (cs := #[.int .u64 0, .slice none 0 0]) (t := 45) ?hr ?_; (case hd => rfl); (case hg => rfl); (case hr => first | (go_simp; done) | (go_simp; rfl)); intro gb483 hg w65 hbox hb; have n0_ := Aside0.mk (Kd.R_below (by (with_reducible repeat (first | apply Kd.R_alloc | apply Kd.R_drewN | apply Kd.R_drew)); exact HO_11.out) hb); have n1_ := Aside0.mk (Kd.R_below (by (with_reducible repeat (first | apply Kd.R_alloc | apply Kd.R_drewN | apply Kd.R_drew)); exact HO_477001.out) hb); have n2_ := Aside0.mk (Kd.R_below (by (with_reducible repeat (first | apply Kd.R_alloc | apply Kd.R_drewN | apply Kd.R_drew)); exact HO482.out) hb); have n3_ := Aside0.mk (blk_below (g := gb476) (o := .cells #[.int .u64 t472, .slice Ao30 t473.length co30] 45 (0, 0)) (by (with_reducible repeat (first | refine blk_drewN ?_ _ | refine blk_drew ?_ | refine blk_alloc ?_ _)); exact BK476.out) hb); have n4_ := Aside0.mk (below_step (by repeat (first | (with_reducible first | exact HB.out | apply below_alloc | apply pw_below_drewN | apply below_drew1 | refine below_set ?_ GE476.out) | exact HB.out)) hb); have n5_ := Aside0.mk (hbox); have n6_ := Aside0.mk ((by rw [hg]; exact (below_size (by repeat (first | (with_reducible first | exact HB.out | apply below_alloc | apply pw_below_drewN | apply below_drew1 | refine below_set ?_ GE476.out) | exact HB.out))) : w.heap.size ≤ gb483)); have n7_ := Aside0.mk ((by rw [hg]; exact (below_size (by repeat (first | (with_reducible first | exact HB.out | apply below_alloc | apply pw_below_drewN | apply below_drew1 | refine below_set ?_ GE476.out) | exact HB.out))) : w.heap.size ≤ gb483)); have n8_ := Aside0.mk ((by rw [hg]; exact Nat.ne_of_lt (blk_lt (g := gb476) (o := .cells #[.int .u64 t472, .slice Ao30 t473.length co30] 45 (0, 0)) (by (with_reducible repeat (first | refine blk_drewN ?_ _ | refine blk_drew ?_ | refine blk_alloc ?_ _)); exact BK476.out)) : gb476 ≠ gb483)); have n9_ := Aside0.mk ((by rw [hg]; exact Nat.ne_of_gt (blk_lt (g := gb476) (o := .cells #[.int .u64 t472, .slice Ao30 t473.length co30] 45 (0, 0)) (by (with_reducible repeat (first | refine blk_drewN ?_ _ | refine blk_drew ?_ | refine blk_alloc ?_ _)); exact BK476.out)) : gb483 ≠ gb476)); clear HO_11; clear HO_477001; clear HO482; clear BK476; clear HB; have HO_11 := n0_; have HO_477001 := n1_; have HO482 := n2_; have BK476 := n3_; have HB := n4_; have BK483 := n5_; have GW483 := n6_; have GE483 := n7_; have NB476_483 := n8_; have NB483_476 := n9_; clear n0_ n1_ n2_ n3_ n4_ n5_ n6_ n7_ n8_ n9_; clear hb hbox hg; have hnb66 := NB483_476.out; have hnc66 := NB476_483.out; have hcz67_0 : w65.cell? ⟨gb483, 0, none⟩ = some (.int .u64 0) := (blk_cell BK483.out 0).trans rfl; have hcz67_1 : w65.cell? ⟨gb483, 1, none⟩ = some (.slice none 0 0) := (blk_cell BK483.out 1).trans rfl; have hfz67_0 := blk_frozen BK483.out 0; have hfz67_1 := blk_frozen BK483.out 1; obtain ⟨Ao68, co68, eo68⟩ := Kd.R_slice HO482.out; subst eo68))
                      go_ret
                      exact ⟨by first | rfl | (simp [errW_none, errW_some] <;> rfl) | (simp [*, errW_none, errW_some] <;> rfl), by repeat (first | (with_reducible first | exact HB.out | apply below_alloc | apply pw_below_drewN | apply below_drew1 | refine below_set ?_ GE476.out | refine below_set ?_ GE483.out) | exact HB.out)⟩

/-- THE ONE PURE STATEMENT of downpourlaw06_RandomOrders: yours. -/
def downpourlaw06_RandomOrders.Pure : Prop := ∀ (a0 : Int) (a1 : Int) (a2 : Int), (Lit.int .u64 a0).wf = true → (Lit.int .i64 a1).wf = true → (Lit.int .i64 a2).wf = true → ∃ k, downpourlaw06_RandomOrders.f k a0 a1 a2 = some true
theorem downpourlaw06_RandomOrders.walk (P : downpourlaw06_RandomOrders.Pure) (a0 : Int) (a1 : Int) (a2 : Int) (w : World) (w0 : (Lit.int .u64 a0).wf = true) (w1 : (Lit.int .i64 a1).wf = true) (w2 : (Lit.int .i64 a2).wf = true) :
    Calls Try.prog 4 #[.int .u64 a0, .int .i64 a1, .int .i64 a2] w fun e w' => e = .returned (.bool true) ∧ Below w.heap.size w w' := by
  obtain ⟨k, h⟩ := P a0 a1 a2 w0 w1 w2
  refine (downpourlaw06_RandomOrders.calls k a0 a1 a2 true w h).mono ?_
  rintro e w' ⟨rfl, hd⟩
  exact ⟨rfl, hd⟩

end Go.Proofs.Ytaofanhdmfdlmaa.Print
