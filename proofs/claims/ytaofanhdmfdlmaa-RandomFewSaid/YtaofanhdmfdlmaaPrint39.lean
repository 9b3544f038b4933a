-- PRINTED by print.py (a twelfth state) out of the translation. Not trusted: Lean checks it.
import Derived.Test.YtaofanhdmfdlmaaPrint0
namespace Go.Proofs.Ytaofanhdmfdlmaa.Print
open Go.RowKit Go.Proofs.YtaofanhdmfdlmaaW.PrintWords Go.Proofs.YtaofanhdmfdlmaaW.PrintLast Go.Proofs.YtaofanhdmfdlmaaW.PrintMore
attribute [local go_sem] max2_int min2_int max_two min_two max_three min_three max_four min_four   -- for this text's walks alone
set_option linter.unusedVariables false
set_option linter.unusedSimpArgs false

/-! ### downpourref06_in: function 86 -/
def downpourref06_in.l0 : Nat → Int → List Int → Int → Int → Option (Bool)
  | 0, _, _, _, _ => none
  | k + 1, x2, x11, x12, x13 => if x13 < x12 then (if 0 ≤ x13 then (if x13 < (x11.length : Int) then (if (rd x11 x13) = x2 then (some true) else (downpourref06_in.l0 k x2 x11 x12 (wrap64 (x13 + 1)))) else (none)) else (none)) else (some false)
def downpourref06_in.f (k : Nat) (l0 : List Int) (a1 : Int) (a2 : Int) : Option (Bool) := if 0 ≤ a1 then (if a1 ≤ (l0.length : Int) then (downpourref06_in.l0 k a2 (l0.take (a1 : Int).toNat) ((l0.take (a1 : Int).toNat).length : Int) 0) else (none)) else (none)
theorem downpourref06_in.mono_l : ∀ k, (∀ y0 y1 y2 y3, LeO (downpourref06_in.l0 k y0 y1 y2 y3) (downpourref06_in.l0 (k + 1) y0 y1 y2 y3))
  | 0 => fun _ _ _ _ r h => by simp [downpourref06_in.l0] at h
  | k + 1 => by
    have ih0 := downpourref06_in.mono_l k
    · intro y0 y1 y2 y3
      unfold downpourref06_in.l0
      repeat' first
      | (with_reducible exact ih0 _ _ _ _)
      | (with_reducible exact LeO.refl _)
      | (with_reducible exact LeO.none _)
      | (with_reducible refine LeO.ite ?_ ?_)
      | (with_reducible refine LeO.bind ?_ (fun _ => ?_))
      | exact ih0 _ _ _ _
      | exact LeO.none _
      | refine LeO.ite ?_ ?_
      | refine LeO.bind ?_ (fun _ => ?_)
theorem downpourref06_in.mono : ∀ a0 a1 a2 k, LeO (downpourref06_in.f k a0 a1 a2) (downpourref06_in.f (k + 1) a0 a1 a2) := by
  intro a0 a1 a2 k
  have ih0 := downpourref06_in.mono_l k
  unfold downpourref06_in.f
  repeat' first
      | (with_reducible exact ih0 _ _ _ _)
      | (with_reducible exact LeO.refl _)
      | (with_reducible exact LeO.none _)
      | (with_reducible refine LeO.ite ?_ ?_)
      | (with_reducible refine LeO.bind ?_ (fun _ => ?_))
      | exact ih0 _ _ _ _
      | exact LeO.none _
      | refine LeO.ite ?_ ?_
      | refine LeO.bind ?_ (fun _ => ?_)
set_option maxHeartbeats 8000000 in
set_option maxRecDepth 100000 in
theorem downpourref06_in.calls (k : Nat) (A0 : Option Addr) (c0 : Nat) (l0 : List Int) (a1 : Int) (a2 : Int) (r : Bool) (w : World) (hr0 : Kd.C (Kd.int .i64) w A0 l0.length l0) (hc0 : l0.length ≤ c0) (h : downpourref06_in.f k l0 a1 a2 = some r) :
    Calls Try.prog 86 #[.slice A0 l0.length c0, .int .i64 a1, .int .i64 a2] w fun e w' => e = .returned (.bool r) ∧ Drawn0 w w' := by
  have HR0 := Aside0.mk hr0
  have HC0 := Aside0.mk hc0
  clear hr0 hc0
  have H : (if 0 ≤ a1 then (if a1 ≤ (l0.length : Int) then (downpourref06_in.l0 k a2 (l0.take (a1 : Int).toNat) ((l0.take (a1 : Int).toNat).length : Int) 0) else (none)) else (none)) = some r := h
  clear h
  by_cases c4 : 0 ≤ a1
  · rw [if_pos c4] at H
    have c4b0 := eq_true c4
    have c4b1 : decide (0 ≤ a1) = true := decide_eq_true c4
    have zk4_ := Aside0.mk c4
    clear c4
    by_cases c5 : a1 ≤ (l0.length : Int)
    · rw [if_pos c5] at H
      have c5b0 := eq_true c5
      have c5b1 : decide (a1 ≤ (l0.length : Int)) = true := decide_eq_true c5
      have zk5_ := Aside0.mk c5
      clear c5
      have H' := Aside0.mk H
      clear H
      obtain ⟨i06, hi06, _, hsz6, _⟩ := info_parts info3
      obtain ⟨hcut6, hA6, hC6⟩ := print_take_of (P := Try.prog) (Value.int .i64) 0 40 3 .i64 Try.underlying40 hi06 hsz6 A0 c0 l0 a1 (of_decide_eq_true (by first | (with_reducible assumption) | assumption)) (of_decide_eq_true (by first | (with_reducible assumption) | assumption)) HC0.out
      have HR448 := Aside0.mk (Kd.C_of_reads (h1 := fun _ => rfl) (hA6 _ (Kd.reads_of_C HR0.out)))
      have HC448 := Aside0.mk hC6
      clear hA6 hC6 hi06 hsz6
      go_enter Try.func86, Try.ntmps86
      go_wp2
      go_loopg [13] k (fun kq v13 w' => ∃ (x13_1 : Int), v13 = .int .i64 x13_1 ∧ Aside0 (downpourref06_in.l0 kq a2 (l0.take (a1 : Int).toNat) ((l0.take (a1 : Int).toNat).length : Int) x13_1 = some r) ∧ Aside0 (kq ≤ k) ∧ Drawn0 w w')
      case atStart => exact ⟨(0), (by first | rfl | (simp; done) | (simp [*]; done)), H', ⟨Nat.le_refl _⟩, by repeat (first | exact Drawn0.refl _ | apply Drawn0.step)⟩
      case round =>
        clear H'
        try clear p2
        try clear c4
        try clear c4b0
        try clear c4b1
        try clear c5
        try clear c5b0
        try clear c5b1
        obtain ⟨x13_1, rfl, HA, HK1, ⟨m1, rfl⟩⟩ := hrel
        cases gk with
        | zero => exact absurd HA.out (by simp [downpourref06_in.l0])
        | succ k1 =>
          have H := HA.out
          clear HA
          simp only [downpourref06_in.l0] at H
          by_cases c7 : x13_1 < ((l0.take (a1 : Int).toNat).length : Int)
          · rw [if_pos c7] at H
            have c7b0 : decide (x13_1 < ((l0.take (a1 : Int).toNat).length : Int)) = true := decide_eq_true c7
            clear c7
            by_cases c8 : 0 ≤ x13_1
            · rw [if_pos c8] at H
              have c8b0 : decide (0 ≤ x13_1) = true := decide_eq_true c8
              clear c8
              by_cases c9 : x13_1 < ((l0.take (a1 : Int).toNat).length : Int)
              · rw [if_pos c9] at H
                have c9b0 : decide (x13_1 < ((l0.take (a1 : Int).toNat).length : Int)) = true := decide_eq_true c9
                clear c9
                by_cases c10 : (rd (l0.take (a1 : Int).toNat) x13_1) = a2
                · rw [if_pos c10] at H
                  have c10b0 : ((rd (l0.take (a1 : Int).toNat) x13_1) == a2) = true := beq_iff_eq.mpr c10
                  have c10b1 : ((rd (l0.take (a1 : Int).toNat) x13_1) != a2) = false := bne_eq_false_iff_eq.mpr c10
                  clear c10
                  obtain rfl := Option.some.inj H
                  have p449 : 0 ≤ (x13_1 : Int) := of_decide_eq_true (by first | (with_reducible assumption) | assumption)
                  have q449 : x13_1 < ((l0.take (a1 : Int).toNat).length : Int) := of_decide_eq_true (by first | (with_reducible assumption) | assumption)
                  obtain ⟨ad449, e449, hx449_0⟩ := Kd.at_int HR448.out x13_1 p449 q449
                  cases e449
                  replace p449 := eq_true p449
                  have zmx_ : decide (x13_1 < max a1 0) = true := by have h_ := of_decide_eq_true c7b0; rw [List.length_take] at h_; simp; omega
                  have zmy_ : x13_1 < max a1 0 := of_decide_eq_true zmx_
                  replace q449 := eq_true q449
                  go_wp2
                  go_ret
                  exact ⟨by first | rfl | (simp; done) | (simp [*]; done), by repeat (first | exact Drawn0.refl _ | apply Drawn0.step)⟩
                · rw [if_neg c10] at H
                  have c10b0 : ((rd (l0.take (a1 : Int).toNat) x13_1) == a2) = false := beq_eq_false_iff_ne.mpr c10
                  have c10b1 : ((rd (l0.take (a1 : Int).toNat) x13_1) != a2) = true := bne_iff_ne.mpr c10
                  have H' := Aside0.mk H
                  clear H
                  have p449 : 0 ≤ (x13_1 : Int) := of_decide_eq_true (by first | (with_reducible assumption) | assumption)
                  have q449 : x13_1 < ((l0.take (a1 : Int).toNat).length : Int) := of_decide_eq_true (by first | (with_reducible assumption) | assumption)
                  obtain ⟨ad449, e449, hx449_0⟩ := Kd.at_int HR448.out x13_1 p449 q449
                  cases e449
                  replace p449 := eq_true p449
                  have zmx_ : decide (x13_1 < max a1 0) = true := by have h_ := of_decide_eq_true c7b0; rw [List.length_take] at h_; simp; omega
                  have zmy_ : x13_1 < max a1 0 := of_decide_eq_true zmx_
                  replace q449 := eq_true q449
                  go_wp2
                  go_roundg k1
                  case measure => have := HK1.out; omega
                  case rel => exact ⟨(wrap64 (x13_1 + 1)), (by first | rfl | (simp; done) | (simp [*]; done)), H', ⟨by have := HK1.out; omega⟩, by repeat (first | exact Drawn0.refl _ | apply Drawn0.step)⟩
              · rw [if_neg c9] at H
                exact absurd H (by simp)
            · rw [if_neg c8] at H
              exact absurd H (by simp)
          · rw [if_neg c7] at H
            have c7b0 : decide (x13_1 < ((l0.take (a1 : Int).toNat).length : Int)) = false := decide_eq_false c7
            have zmf_ : decide (x13_1 < max a1 0) = false := by have h4_ := zk4_.out; have h5_ := zk5_.out; rw [List.length_take] at c7; simp; omega
            have zmg_ : ¬ x13_1 < max a1 0 := of_decide_eq_false zmf_
            clear c7
            obtain rfl := Option.some.inj H
            go_wp2
            go_ret
            exact ⟨by first | rfl | (simp; done) | (simp [*]; done), by repeat (first | exact Drawn0.refl _ | apply Drawn0.step)⟩
    · rw [if_neg c5] at H
      exact absurd H (by simp)
  · rw [if_neg c4] at H
    exact absurd H (by simp)

end Go.Proofs.Ytaofanhdmfdlmaa.Print
