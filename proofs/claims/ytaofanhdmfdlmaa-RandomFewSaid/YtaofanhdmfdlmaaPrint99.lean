-- PRINTED by print.py (a twelfth state) out of the translation. Not trusted: Lean checks it.
import Derived.Test.YtaofanhdmfdlmaaPrint0
import Derived.Test.YtaofanhdmfdlmaaPrint42
import Derived.Test.YtaofanhdmfdlmaaPrint96
import Derived.Test.YtaofanhdmfdlmaaSome
namespace Go.Proofs.Ytaofanhdmfdlmaa.Print
open Go.RowKit Go.Proofs.YtaofanhdmfdlmaaW.PrintWords Go.Proofs.YtaofanhdmfdlmaaW.PrintLast Go.Proofs.YtaofanhdmfdlmaaW.PrintMore
attribute [local go_sem] max2_int min2_int max_two min_two max_three min_three max_four min_four   -- for this text's walks alone
set_option linter.unusedVariables false
set_option linter.unusedSimpArgs false

/-! ### downpourlaw06_RandomFew: function 5 -/
mutual
def downpourlaw06_RandomFew.j0 : Nat → Int → List Int → List Int → List Int → Bool → Option (Bool)
  | 0, _, _, _, _, _ => none
  | k + 1, x2, x11, x14, x17, x102 => if x102 = true then (some false) else (downpourlaw06_RandomFew.l0 k x2 x14 x17 x11 (x11.length : Int) 0)
def downpourlaw06_RandomFew.l0 : Nat → Int → List Int → List Int → List Int → Int → Int → Option (Bool)
  | 0, _, _, _, _, _, _ => none
  | k + 1, x2, x14, x17, x103, x104, x105 => if x105 < x104 then (if 0 ≤ x105 then (if x105 < (x103.length : Int) then (if (rd x103 x105) = x105 then (downpourlaw06_RandomFew.l0 k x2 x14 x17 x103 x104 (wrap64 (x105 + 1))) else (some false)) else (none)) else (none)) else (downpourlaw06_RandomFew.l1 k x2 x14 x17 x14 (x14.length : Int) 0)
def downpourlaw06_RandomFew.l1 : Nat → Int → List Int → List Int → List Int → Int → Int → Option (Bool)
  | 0, _, _, _, _, _, _ => none
  | k + 1, x2, x14, x17, x114, x115, x116 => if x116 < x115 then (if 0 ≤ x116 then (if x116 < (x114.length : Int) then ((slices_Contains_int_int.f k x17 (rd x114 x116)).bind fun t510 => (if t510 = true then (downpourlaw06_RandomFew.l1 k x2 x14 x17 x114 x115 (wrap64 (x116 + 1))) else (some false))) else (none)) else (none)) else (some ((x14.length : Int) == x2))
end
def downpourlaw06_RandomFew.f (k : Nat) (a0 : Int) (a1 : Int) (a2 : Int) : Option (Bool) := if (wrap64 ((Int.tmod (wrap64 ((Int.tmod a1 512) + 512)) 512) + 1)) = 0 then (none) else ((random_Some.f k a0 (wrap64 ((Int.tmod (wrap64 ((Int.tmod a1 512) + 512)) 512) + 1)) 0).bind fun bt487 => ((random_Some.f k a0 (wrap64 ((Int.tmod (wrap64 ((Int.tmod a1 512) + 512)) 512) + 1)) (wrap64 ((Int.tmod (wrap64 ((Int.tmod a1 512) + 512)) 512) + 1))).bind fun bt492 => ((random_Some.f k a0 (wrap64 ((Int.tmod (wrap64 ((Int.tmod a1 512) + 512)) 512) + 1)) (Int.tmod (wrap64 ((Int.tmod a2 (wrap64 ((Int.tmod (wrap64 ((Int.tmod a1 512) + 512)) 512) + 1))) + (wrap64 ((Int.tmod (wrap64 ((Int.tmod a1 512) + 512)) 512) + 1)))) (wrap64 ((Int.tmod (wrap64 ((Int.tmod a1 512) + 512)) 512) + 1)))).bind fun bt497 => ((random_Some.f k a0 (wrap64 ((Int.tmod (wrap64 ((Int.tmod a1 512) + 512)) 512) + 1)) (wrap64 ((Int.tmod (wrap64 ((Int.tmod a2 (wrap64 ((Int.tmod (wrap64 ((Int.tmod a1 512) + 512)) 512) + 1))) + (wrap64 ((Int.tmod (wrap64 ((Int.tmod a1 512) + 512)) 512) + 1)))) (wrap64 ((Int.tmod (wrap64 ((Int.tmod a1 512) + 512)) 512) + 1))) + 1))).bind fun bt502 => (if bt487.2.2 = 0 then (if bt492.2.2 = 0 then (if bt497.2.2 = 0 then (if bt502.2.2 = 0 then (if (bt487.2.1.length : Int) = 0 then (if (bt492.2.1.length : Int) = (wrap64 ((Int.tmod (wrap64 ((Int.tmod a1 512) + 512)) 512) + 1)) then (if (bt502.2.1.length : Int) = (wrap64 ((Int.tmod (wrap64 ((Int.tmod a2 (wrap64 ((Int.tmod (wrap64 ((Int.tmod a1 512) + 512)) 512) + 1))) + (wrap64 ((Int.tmod (wrap64 ((Int.tmod a1 512) + 512)) 512) + 1)))) (wrap64 ((Int.tmod (wrap64 ((Int.tmod a1 512) + 512)) 512) + 1))) + 1)) then ((downpourlaw06_alive.f k).bind fun t507 => (downpourlaw06_RandomFew.j0 k (Int.tmod (wrap64 ((Int.tmod a2 (wrap64 ((Int.tmod (wrap64 ((Int.tmod a1 512) + 512)) 512) + 1))) + (wrap64 ((Int.tmod (wrap64 ((Int.tmod a1 512) + 512)) 512) + 1)))) (wrap64 ((Int.tmod (wrap64 ((Int.tmod a1 512) + 512)) 512) + 1))) bt492.2.1 bt497.2.1 bt502.2.1 (!t507))) else (downpourlaw06_RandomFew.j0 k (Int.tmod (wrap64 ((Int.tmod a2 (wrap64 ((Int.tmod (wrap64 ((Int.tmod a1 512) + 512)) 512) + 1))) + (wrap64 ((Int.tmod (wrap64 ((Int.tmod a1 512) + 512)) 512) + 1)))) (wrap64 ((Int.tmod (wrap64 ((Int.tmod a1 512) + 512)) 512) + 1))) bt492.2.1 bt497.2.1 bt502.2.1 true)) else (downpourlaw06_RandomFew.j0 k (Int.tmod (wrap64 ((Int.tmod a2 (wrap64 ((Int.tmod (wrap64 ((Int.tmod a1 512) + 512)) 512) + 1))) + (wrap64 ((Int.tmod (wrap64 ((Int.tmod a1 512) + 512)) 512) + 1)))) (wrap64 ((Int.tmod (wrap64 ((Int.tmod a1 512) + 512)) 512) + 1))) bt492.2.1 bt497.2.1 bt502.2.1 true)) else (downpourlaw06_RandomFew.j0 k (Int.tmod (wrap64 ((Int.tmod a2 (wrap64 ((Int.tmod (wrap64 ((Int.tmod a1 512) + 512)) 512) + 1))) + (wrap64 ((Int.tmod (wrap64 ((Int.tmod a1 512) + 512)) 512) + 1)))) (wrap64 ((Int.tmod (wrap64 ((Int.tmod a1 512) + 512)) 512) + 1))) bt492.2.1 bt497.2.1 bt502.2.1 true)) else (downpourlaw06_RandomFew.j0 k (Int.tmod (wrap64 ((Int.tmod a2 (wrap64 ((Int.tmod (wrap64 ((Int.tmod a1 512) + 512)) 512) + 1))) + (wrap64 ((Int.tmod (wrap64 ((Int.tmod a1 512) + 512)) 512) + 1)))) (wrap64 ((Int.tmod (wrap64 ((Int.tmod a1 512) + 512)) 512) + 1))) bt492.2.1 bt497.2.1 bt502.2.1 true)) else (downpourlaw06_RandomFew.j0 k (Int.tmod (wrap64 ((Int.tmod a2 (wrap64 ((Int.tmod (wrap64 ((Int.tmod a1 512) + 512)) 512) + 1))) + (wrap64 ((Int.tmod (wrap64 ((Int.tmod a1 512) + 512)) 512) + 1)))) (wrap64 ((Int.tmod (wrap64 ((Int.tmod a1 512) + 512)) 512) + 1))) bt492.2.1 bt497.2.1 bt502.2.1 true)) else (downpourlaw06_RandomFew.j0 k (Int.tmod (wrap64 ((Int.tmod a2 (wrap64 ((Int.tmod (wrap64 ((Int.tmod a1 512) + 512)) 512) + 1))) + (wrap64 ((Int.tmod (wrap64 ((Int.tmod a1 512) + 512)) 512) + 1)))) (wrap64 ((Int.tmod (wrap64 ((Int.tmod a1 512) + 512)) 512) + 1))) bt492.2.1 bt497.2.1 bt502.2.1 true)) else (downpourlaw06_RandomFew.j0 k (Int.tmod (wrap64 ((Int.tmod a2 (wrap64 ((Int.tmod (wrap64 ((Int.tmod a1 512) + 512)) 512) + 1))) + (wrap64 ((Int.tmod (wrap64 ((Int.tmod a1 512) + 512)) 512) + 1)))) (wrap64 ((Int.tmod (wrap64 ((Int.tmod a1 512) + 512)) 512) + 1))) bt492.2.1 bt497.2.1 bt502.2.1 true))))))
theorem downpourlaw06_RandomFew.mono_l : ∀ k, (∀ y0 y1 y2 y3 y4, LeO (downpourlaw06_RandomFew.j0 k y0 y1 y2 y3 y4) (downpourlaw06_RandomFew.j0 (k + 1) y0 y1 y2 y3 y4)) ∧ (∀ y0 y1 y2 y3 y4 y5, LeO (downpourlaw06_RandomFew.l0 k y0 y1 y2 y3 y4 y5) (downpourlaw06_RandomFew.l0 (k + 1) y0 y1 y2 y3 y4 y5)) ∧ (∀ y0 y1 y2 y3 y4 y5, LeO (downpourlaw06_RandomFew.l1 k y0 y1 y2 y3 y4 y5) (downpourlaw06_RandomFew.l1 (k + 1) y0 y1 y2 y3 y4 y5))
  | 0 => ⟨fun _ _ _ _ _ r h => by simp [downpourlaw06_RandomFew.j0] at h, fun _ _ _ _ _ _ r h => by simp [downpourlaw06_RandomFew.l0] at h, fun _ _ _ _ _ _ r h => by simp [downpourlaw06_RandomFew.l1] at h⟩
  | k + 1 => by
    obtain ⟨ih0, ih1, ih2⟩ := downpourlaw06_RandomFew.mono_l k
    refine ⟨?_, ?_, ?_⟩
    · intro y0 y1 y2 y3 y4
      unfold downpourlaw06_RandomFew.j0
      repeat' first
      | (with_reducible exact ih0 _ _ _ _ _)
      | (with_reducible exact ih1 _ _ _ _ _ _)
      | (with_reducible exact ih2 _ _ _ _ _ _)
      | (with_reducible exact downpourlaw06_alive.mono _)
      | (with_reducible exact random_Some.mono _ _ _ _)
      | (with_reducible exact slices_Contains_int_int.mono _ _ _)
      | (with_reducible exact LeO.refl _)
      | (with_reducible exact LeO.none _)
      | (with_reducible refine LeO.ite ?_ ?_)
      | (with_reducible refine LeO.bind ?_ (fun _ => ?_))
      | exact ih0 _ _ _ _ _
      | exact ih1 _ _ _ _ _ _
      | exact ih2 _ _ _ _ _ _
      | exact downpourlaw06_alive.mono _
      | exact random_Some.mono _ _ _ _
      | exact slices_Contains_int_int.mono _ _ _
      | exact LeO.none _
      | refine LeO.ite ?_ ?_
      | refine LeO.bind ?_ (fun _ => ?_)
    · intro y0 y1 y2 y3 y4 y5
      unfold downpourlaw06_RandomFew.l0
      repeat' first
      | (with_reducible exact ih0 _ _ _ _ _)
      | (with_reducible exact ih1 _ _ _ _ _ _)
      | (with_reducible exact ih2 _ _ _ _ _ _)
      | (with_reducible exact downpourlaw06_alive.mono _)
      | (with_reducible exact random_Some.mono _ _ _ _)
      | (with_reducible exact slices_Contains_int_int.mono _ _ _)
      | (with_reducible exact LeO.refl _)
      | (with_reducible exact LeO.none _)
      | (with_reducible refine LeO.ite ?_ ?_)
      | (with_reducible refine LeO.bind ?_ (fun _ => ?_))
      | exact ih0 _ _ _ _ _
      | exact ih1 _ _ _ _ _ _
      | exact ih2 _ _ _ _ _ _
      | exact downpourlaw06_alive.mono _
      | exact random_Some.mono _ _ _ _
      | exact slices_Contains_int_int.mono _ _ _
      | exact LeO.none _
      | refine LeO.ite ?_ ?_
      | refine LeO.bind ?_ (fun _ => ?_)
    · intro y0 y1 y2 y3 y4 y5
      unfold downpourlaw06_RandomFew.l1
      repeat' first
      | (with_reducible exact ih0 _ _ _ _ _)
      | (with_reducible exact ih1 _ _ _ _ _ _)
      | (with_reducible exact ih2 _ _ _ _ _ _)
      | (with_reducible exact downpourlaw06_alive.mono _)
      | (with_reducible exact random_Some.mono _ _ _ _)
      | (with_reducible exact slices_Contains_int_int.mono _ _ _)
      | (with_reducible exact LeO.refl _)
      | (with_reducible exact LeO.none _)
      | (with_reducible refine LeO.ite ?_ ?_)
      | (with_reducible refine LeO.bind ?_ (fun _ => ?_))
      | exact ih0 _ _ _ _ _
      | exact ih1 _ _ _ _ _ _
      | exact ih2 _ _ _ _ _ _
      | exact downpourlaw06_alive.mono _
      | exact random_Some.mono _ _ _ _
      | exact slices_Contains_int_int.mono _ _ _
      | exact LeO.none _
      | refine LeO.ite ?_ ?_
      | refine LeO.bind ?_ (fun _ => ?_)
theorem downpourlaw06_RandomFew.mono : ∀ a0 a1 a2 k, LeO (downpourlaw06_RandomFew.f k a0 a1 a2) (downpourlaw06_RandomFew.f (k + 1) a0 a1 a2) := by
  intro a0 a1 a2 k
  obtain ⟨ih0, ih1, ih2⟩ := downpourlaw06_RandomFew.mono_l k
  unfold downpourlaw06_RandomFew.f
  repeat' first
      | (with_reducible exact ih0 _ _ _ _ _)
      | (with_reducible exact ih1 _ _ _ _ _ _)
      | (with_reducible exact ih2 _ _ _ _ _ _)
      | (with_reducible exact downpourlaw06_alive.mono _)
      | (with_reducible exact random_Some.mono _ _ _ _)
      | (with_reducible exact slices_Contains_int_int.mono _ _ _)
      | (with_reducible exact LeO.refl _)
      | (with_reducible exact LeO.none _)
      | (with_reducible refine LeO.ite ?_ ?_)
      | (with_reducible refine LeO.bind ?_ (fun _ => ?_))
      | exact ih0 _ _ _ _ _
      | exact ih1 _ _ _ _ _ _
      | exact ih2 _ _ _ _ _ _
      | exact downpourlaw06_alive.mono _
      | exact random_Some.mono _ _ _ _
      | exact slices_Contains_int_int.mono _ _ _
      | exact LeO.none _
      | refine LeO.ite ?_ ?_
      | refine LeO.bind ?_ (fun _ => ?_)
set_option maxHeartbeats 8000000 in
set_option maxRecDepth 100000 in
theorem downpourlaw06_RandomFew.calls (k : Nat) (a0 : Int) (a1 : Int) (a2 : Int) (r : Bool) (w : World) (h : downpourlaw06_RandomFew.f k a0 a1 a2 = some r) :
    Calls Try.prog 5 #[.int .u64 a0, .int .i64 a1, .int .i64 a2] w fun e w' => e = .returned (.bool r) ∧ Below w.heap.size w w' := by
  have HB := Aside0.mk (Below.refl w.heap.size w)
  have H : (if (wrap64 ((Int.tmod (wrap64 ((Int.tmod a1 512) + 512)) 512) + 1)) = 0 then (none) else ((random_Some.f k a0 (wrap64 ((Int.tmod (wrap64 ((Int.tmod a1 512) + 512)) 512) + 1)) 0).bind fun bt487 => ((random_Some.f k a0 (wrap64 ((Int.tmod (wrap64 ((Int.tmod a1 512) + 512)) 512) + 1)) (wrap64 ((Int.tmod (wrap64 ((Int.tmod a1 512) + 512)) 512) + 1))).bind fun bt492 => ((random_Some.f k a0 (wrap64 ((Int.tmod (wrap64 ((Int.tmod a1 512) + 512)) 512) + 1)) (Int.tmod (wrap64 ((Int.tmod a2 (wrap64 ((Int.tmod (wrap64 ((Int.tmod a1 512) + 512)) 512) + 1))) + (wrap64 ((Int.tmod (wrap64 ((Int.tmod a1 512) + 512)) 512) + 1)))) (wrap64 ((Int.tmod (wrap64 ((Int.tmod a1 512) + 512)) 512) + 1)))).bind fun bt497 => ((random_Some.f k a0 (wrap64 ((Int.tmod (wrap64 ((Int.tmod a1 512) + 512)) 512) + 1)) (wrap64 ((Int.tmod (wrap64 ((Int.tmod a2 (wrap64 ((Int.tmod (wrap64 ((Int.tmod a1 512) + 512)) 512) + 1))) + (wrap64 ((Int.tmod (wrap64 ((Int.tmod a1 512) + 512)) 512) + 1)))) (wrap64 ((Int.tmod (wrap64 ((Int.tmod a1 512) + 512)) 512) + 1))) + 1))).bind fun bt502 => (if bt487.2.2 = 0 then (if bt492.2.2 = 0 then (if bt497.2.2 = 0 then (if bt502.2.2 = 0 then (if (bt487.2.1.length : Int) = 0 then (if (bt492.2.1.length : Int) = (wrap64 ((Int.tmod (wrap64 ((Int.tmod a1 512) + 512)) 512) + 1)) then (if (bt502.2.1.length : Int) = (wrap64 ((Int.tmod (wrap64 ((Int.tmod a2 (wrap64 ((Int.tmod (wrap64 ((Int.tmod a1 512) + 512)) 512) + 1))) + (wrap64 ((Int.tmod (wrap64 ((Int.tmod a1 512) + 512)) 512) + 1)))) (wrap64 ((Int.tmod (wrap64 ((Int.tmod a1 512) + 512)) 512) + 1))) + 1)) then ((downpourlaw06_alive.f k).bind fun t507 => (downpourlaw06_RandomFew.j0 k (Int.tmod (wrap64 ((Int.tmod a2 (wrap64 ((Int.tmod (wrap64 ((Int.tmod a1 512) + 512)) 512) + 1))) + (wrap64 ((Int.tmod (wrap64 ((Int.tmod a1 512) + 512)) 512) + 1)))) (wrap64 ((Int.tmod (wrap64 ((Int.tmod a1 512) + 512)) 512) + 1))) bt492.2.1 bt497.2.1 bt502.2.1 (!t507))) else (downpourlaw06_RandomFew.j0 k (Int.tmod (wrap64 ((Int.tmod a2 (wrap64 ((Int.tmod (wrap64 ((Int.tmod a1 512) + 512)) 512) + 1))) + (wrap64 ((Int.tmod (wrap64 ((Int.tmod a1 512) + 512)) 512) + 1)))) (wrap64 ((Int.tmod (wrap64 ((Int.tmod a1 512) + 512)) 512) + 1))) bt492.2.1 bt497.2.1 bt502.2.1 true)) else (downpourlaw06_RandomFew.j0 k (Int.tmod (wrap64 ((Int.tmod a2 (wrap64 ((Int.tmod (wrap64 ((Int.tmod a1 512) + 512)) 512) + 1))) + (wrap64 ((Int.tmod (wrap64 ((Int.tmod a1 512) + 512)) 512) + 1)))) (wrap64 ((Int.tmod (wrap64 ((Int.tmod a1 512) + 512)) 512) + 1))) bt492.2.1 bt497.2.1 bt502.2.1 true)) else (downpourlaw06_RandomFew.j0 k (Int.tmod (wrap64 ((Int.tmod a2 (wrap64 ((Int.tmod (wrap64 ((Int.tmod a1 512) + 512)) 512) + 1))) + (wrap64 ((Int.tmod (wrap64 ((Int.tmod a1 512) + 512)) 512) + 1)))) (wrap64 ((Int.tmod (wrap64 ((Int.tmod a1 512) + 512)) 512) + 1))) bt492.2.1 bt497.2.1 bt502.2.1 true)) else (downpourlaw06_RandomFew.j0 k (Int.tmod (wrap64 ((Int.tmod a2 (wrap64 ((Int.tmod (wrap64 ((Int.tmod a1 512) + 512)) 512) + 1))) + (wrap64 ((Int.tmod (wrap64 ((Int.tmod a1 512) + 512)) 512) + 1)))) (wrap64 ((Int.tmod (wrap64 ((Int.tmod a1 512) + 512)) 512) + 1))) bt492.2.1 bt497.2.1 bt502.2.1 true)) else (downpourlaw06_RandomFew.j0 k (Int.tmod (wrap64 ((Int.tmod a2 (wrap64 ((Int.tmod (wrap64 ((Int.tmod a1 512) + 512)) 512) + 1))) + (wrap64 ((Int.tmod (wrap64 ((Int.tmod a1 512) + 512)) 512) + 1)))) (wrap64 ((Int.tmod (wrap64 ((Int.tmod a1 512) + 512)) 512) + 1))) bt492.2.1 bt497.2.1 bt502.2.1 true)) else (downpourlaw06_RandomFew.j0 k (Int.tmod (wrap64 ((Int.tmod a2 (wrap64 ((Int.tmod (wrap64 ((Int.tmod a1 512) + 512)) 512) + 1))) + (wrap64 ((Int.tmod (wrap64 ((Int.tmod a1 512) + 512)) 512) + 1)))) (wrap64 ((Int.tmod (wrap64 ((Int.tmod a1 512) + 512)) 512) + 1))) bt492.2.1 bt497.2.1 bt502.2.1 true)) else (downpourlaw06_RandomFew.j0 k (Int.tmod (wrap64 ((Int.tmod a2 (wrap64 ((Int.tmod (wrap64 ((Int.tmod a1 512) + 512)) 512) + 1))) + (wrap64 ((Int.tmod (wrap64 ((Int.tmod a1 512) + 512)) 512) + 1)))) (wrap64 ((Int.tmod (wrap64 ((Int.tmod a1 512) + 512)) 512) + 1))) bt492.2.1 bt497.2.1 bt502.2.1 true))))))) = some r := h
  clear h
  by_cases c4 : (wrap64 ((Int.tmod (wrap64 ((Int.tmod a1 512) + 512)) 512) + 1)) = 0
  · rw [if_pos c4] at H
    exact absurd H (by simp)
  · rw [if_neg c4] at H
    have c4b0 : ((wrap64 ((Int.tmod (wrap64 ((Int.tmod a1 512) + 512)) 512) + 1)) == 0) = false := beq_eq_false_iff_ne.mpr c4
    have c4b1 : ((wrap64 ((Int.tmod (wrap64 ((Int.tmod a1 512) + 512)) 512) + 1)) != 0) = true := bne_iff_ne.mpr c4
    replace H := Option.bind_eq_some_iff.mp H
    obtain ⟨⟨t487, t488, t489⟩, A50, H⟩ := H
    replace H : ((random_Some.f k a0 (wrap64 ((Int.tmod (wrap64 ((Int.tmod a1 512) + 512)) 512) + 1)) (wrap64 ((Int.tmod (wrap64 ((Int.tmod a1 512) + 512)) 512) + 1))).bind fun bt492 => ((random_Some.f k a0 (wrap64 ((Int.tmod (wrap64 ((Int.tmod a1 512) + 512)) 512) + 1)) (Int.tmod (wrap64 ((Int.tmod a2 (wrap64 ((Int.tmod (wrap64 ((Int.tmod a1 512) + 512)) 512) + 1))) + (wrap64 ((Int.tmod (wrap64 ((Int.tmod a1 512) + 512)) 512) + 1)))) (wrap64 ((Int.tmod (wrap64 ((Int.tmod a1 512) + 512)) 512) + 1)))).bind fun bt497 => ((random_Some.f k a0 (wrap64 ((Int.tmod (wrap64 ((Int.tmod a1 512) + 512)) 512) + 1)) (wrap64 ((Int.tmod (wrap64 ((Int.tmod a2 (wrap64 ((Int.tmod (wrap64 ((Int.tmod a1 512) + 512)) 512) + 1))) + (wrap64 ((Int.tmod (wrap64 ((Int.tmod a1 512) + 512)) 512) + 1)))) (wrap64 ((Int.tmod (wrap64 ((Int.tmod a1 512) + 512)) 512) + 1))) + 1))).bind fun bt502 => (if t489 = 0 then (if bt492.2.2 = 0 then (if bt497.2.2 = 0 then (if bt502.2.2 = 0 then (if (t488.length : Int) = 0 then (if (bt492.2.1.length : Int) = (wrap64 ((Int.tmod (wrap64 ((Int.tmod a1 512) + 512)) 512) + 1)) then (if (bt502.2.1.length : Int) = (wrap64 ((Int.tmod (wrap64 ((Int.tmod a2 (wrap64 ((Int.tmod (wrap64 ((Int.tmod a1 512) + 512)) 512) + 1))) + (wrap64 ((Int.tmod (wrap64 ((Int.tmod a1 512) + 512)) 512) + 1)))) (wrap64 ((Int.tmod (wrap64 ((Int.tmod a1 512) + 512)) 512) + 1))) + 1)) then ((downpourlaw06_alive.f k).bind fun t507 => (downpourlaw06_RandomFew.j0 k (Int.tmod (wrap64 ((Int.tmod a2 (wrap64 ((Int.tmod (wrap64 ((Int.tmod a1 512) + 512)) 512) + 1))) + (wrap64 ((Int.tmod (wrap64 ((Int.tmod a1 512) + 512)) 512) + 1)))) (wrap64 ((Int.tmod (wrap64 ((Int.tmod a1 512) + 512)) 512) + 1))) bt492.2.1 bt497.2.1 bt502.2.1 (!t507))) else (downpourlaw06_RandomFew.j0 k (Int.tmod (wrap64 ((Int.tmod a2 (wrap64 ((Int.tmod (wrap64 ((Int.tmod a1 512) + 512)) 512) + 1))) + (wrap64 ((Int.tmod (wrap64 ((Int.tmod a1 512) + 512)) 512) + 1)))) (wrap64 ((Int.tmod (wrap64 ((Int.tmod a1 512) + 512)) 512) + 1))) bt492.2.1 bt497.2.1 bt502.2.1 true)) else (downpourlaw06_RandomFew.j0 k (Int.tmod (wrap64 ((Int.tmod a2 (wrap64 ((Int.tmod (wrap64 ((Int.tmod a1 512) + 512)) 512) + 1))) + (wrap64 ((Int.tmod (wrap64 ((Int.tmod a1 512) + 512)) 512) + 1)))) (wrap64 ((Int.tmod (wrap64 ((Int.tmod a1 512) + 512)) 512) + 1))) bt492.2.1 bt497.2.1 bt502.2.1 true)) else (downpourlaw06_RandomFew.j0 k (Int.tmod (wrap64 ((Int.tmod a2 (wrap64 ((Int.tmod (wrap64 ((Int.tmod a1 512) + 512)) 512) + 1))) + (wrap64 ((Int.tmod (wrap64 ((Int.tmod a1 512) + 512)) 512) + 1)))) (wrap64 ((Int.tmod (wrap64 ((Int.tmod a1 512) + 512)) 512) + 1))) bt492.2.1 bt497.2.1 bt502.2.1 true)) else (downpourlaw06_RandomFew.j0 k (Int.tmod (wrap64 ((Int.tmod a2 (wrap64 ((Int.tmod (wrap64 ((Int.tmod a1 512) + 512)) 512) + 1))) + (wrap64 ((Int.tmod (wrap64 ((Int.tmod a1 512) + 512)) 512) + 1)))) (wrap64 ((Int.tmod (wrap64 ((Int.tmod a1 512) + 512)) 512) + 1))) bt492.2.1 bt497.2.1 bt502.2.1 true)) else (downpourlaw06_RandomFew.j0 k (Int.tmod (wrap64 ((Int.tmod a2 (wrap64 ((Int.tmod (wrap64 ((Int.tmod a1 512) + 512)) 512) + 1))) + (wrap64 ((Int.tmod (wrap64 ((Int.tmod a1 512) + 512)) 512) + 1)))) (wrap64 ((Int.tmod (wrap64 ((Int.tmod a1 512) + 512)) 512) + 1))) bt492.2.1 bt497.2.1 bt502.2.1 true)) else (downpourlaw06_RandomFew.j0 k (Int.tmod (wrap64 ((Int.tmod a2 (wrap64 ((Int.tmod (wrap64 ((Int.tmod a1 512) + 512)) 512) + 1))) + (wrap64 ((Int.tmod (wrap64 ((Int.tmod a1 512) + 512)) 512) + 1)))) (wrap64 ((Int.tmod (wrap64 ((Int.tmod a1 512) + 512)) 512) + 1))) bt492.2.1 bt497.2.1 bt502.2.1 true)) else (downpourlaw06_RandomFew.j0 k (Int.tmod (wrap64 ((Int.tmod a2 (wrap64 ((Int.tmod (wrap64 ((Int.tmod a1 512) + 512)) 512) + 1))) + (wrap64 ((Int.tmod (wrap64 ((Int.tmod a1 512) + 512)) 512) + 1)))) (wrap64 ((Int.tmod (wrap64 ((Int.tmod a1 512) + 512)) 512) + 1))) bt492.2.1 bt497.2.1 bt502.2.1 true))))) = some r := H
    have A5 := Aside0.mk A50
    clear A50
    replace H := Option.bind_eq_some_iff.mp H
    obtain ⟨⟨t492, t493, t494⟩, A60, H⟩ := H
    replace H : ((random_Some.f k a0 (wrap64 ((Int.tmod (wrap64 ((Int.tmod a1 512) + 512)) 512) + 1)) (Int.tmod (wrap64 ((Int.tmod a2 (wrap64 ((Int.tmod (wrap64 ((Int.tmod a1 512) + 512)) 512) + 1))) + (wrap64 ((Int.tmod (wrap64 ((Int.tmod a1 512) + 512)) 512) + 1)))) (wrap64 ((Int.tmod (wrap64 ((Int.tmod a1 512) + 512)) 512) + 1)))).bind fun bt497 => ((random_Some.f k a0 (wrap64 ((Int.tmod (wrap64 ((Int.tmod a1 512) + 512)) 512) + 1)) (wrap64 ((Int.tmod (wrap64 ((Int.tmod a2 (wrap64 ((Int.tmod (wrap64 ((Int.tmod a1 512) + 512)) 512) + 1))) + (wrap64 ((Int.tmod (wrap64 ((Int.tmod a1 512) + 512)) 512) + 1)))) (wrap64 ((Int.tmod (wrap64 ((Int.tmod a1 512) + 512)) 512) + 1))) + 1))).bind fun bt502 => (if t489 = 0 then (if t494 = 0 then (if bt497.2.2 = 0 then (if bt502.2.2 = 0 then (if (t488.length : Int) = 0 then (if (t493.length : Int) = (wrap64 ((Int.tmod (wrap64 ((Int.tmod a1 512) + 512)) 512) + 1)) then (if (bt502.2.1.length : Int) = (wrap64 ((Int.tmod (wrap64 ((Int.tmod a2 (wrap64 ((Int.tmod (wrap64 ((Int.tmod a1 512) + 512)) 512) + 1))) + (wrap64 ((Int.tmod (wrap64 ((Int.tmod a1 512) + 512)) 512) + 1)))) (wrap64 ((Int.tmod (wrap64 ((Int.tmod a1 512) + 512)) 512) + 1))) + 1)) then ((downpourlaw06_alive.f k).bind fun t507 => (downpourlaw06_RandomFew.j0 k (Int.tmod (wrap64 ((Int.tmod a2 (wrap64 ((Int.tmod (wrap64 ((Int.tmod a1 512) + 512)) 512) + 1))) + (wrap64 ((Int.tmod (wrap64 ((Int.tmod a1 512) + 512)) 512) + 1)))) (wrap64 ((Int.tmod (wrap64 ((Int.tmod a1 512) + 512)) 512) + 1))) t493 bt497.2.1 bt502.2.1 (!t507))) else (downpourlaw06_RandomFew.j0 k (Int.tmod (wrap64 ((Int.tmod a2 (wrap64 ((Int.tmod (wrap64 ((Int.tmod a1 512) + 512)) 512) + 1))) + (wrap64 ((Int.tmod (wrap64 ((Int.tmod a1 512) + 512)) 512) + 1)))) (wrap64 ((Int.tmod (wrap64 ((Int.tmod a1 512) + 512)) 512) + 1))) t493 bt497.2.1 bt502.2.1 true)) else (downpourlaw06_RandomFew.j0 k (Int.tmod (wrap64 ((Int.tmod a2 (wrap64 ((Int.tmod (wrap64 ((Int.tmod a1 512) + 512)) 512) + 1))) + (wrap64 ((Int.tmod (wrap64 ((Int.tmod a1 512) + 512)) 512) + 1)))) (wrap64 ((Int.tmod (wrap64 ((Int.tmod a1 512) + 512)) 512) + 1))) t493 bt497.2.1 bt502.2.1 true)) else (downpourlaw06_RandomFew.j0 k (Int.tmod (wrap64 ((Int.tmod a2 (wrap64 ((Int.tmod (wrap64 ((Int.tmod a1 512) + 512)) 512) + 1))) + (wrap64 ((Int.tmod (wrap64 ((Int.tmod a1 512) + 512)) 512) + 1)))) (wrap64 ((Int.tmod (wrap64 ((Int.tmod a1 512) + 512)) 512) + 1))) t493 bt497.2.1 bt502.2.1 true)) else (downpourlaw06_RandomFew.j0 k (Int.tmod (wrap64 ((Int.tmod a2 (wrap64 ((Int.tmod (wrap64 ((Int.tmod a1 512) + 512)) 512) + 1))) + (wrap64 ((Int.tmod (wrap64 ((Int.tmod a1 512) + 512)) 512) + 1)))) (wrap64 ((Int.tmod (wrap64 ((Int.tmod a1 512) + 512)) 512) + 1))) t493 bt497.2.1 bt502.2.1 true)) else (downpourlaw06_RandomFew.j0 k (Int.tmod (wrap64 ((Int.tmod a2 (wrap64 ((Int.tmod (wrap64 ((Int.tmod a1 512) + 512)) 512) + 1))) + (wrap64 ((Int.tmod (wrap64 ((Int.tmod a1 512) + 512)) 512) + 1)))) (wrap64 ((Int.tmod (wrap64 ((Int.tmod a1 512) + 512)) 512) + 1))) t493 bt497.2.1 bt502.2.1 true)) else (downpourlaw06_RandomFew.j0 k (Int.tmod (wrap64 ((Int.tmod a2 (wrap64 ((Int.tmod (wrap64 ((Int.tmod a1 512) + 512)) 512) + 1))) + (wrap64 ((Int.tmod (wrap64 ((Int.tmod a1 512) + 512)) 512) + 1)))) (wrap64 ((Int.tmod (wrap64 ((Int.tmod a1 512) + 512)) 512) + 1))) t493 bt497.2.1 bt502.2.1 true)) else (downpourlaw06_RandomFew.j0 k (Int.tmod (wrap64 ((Int.tmod a2 (wrap64 ((Int.tmod (wrap64 ((Int.tmod a1 512) + 512)) 512) + 1))) + (wrap64 ((Int.tmod (wrap64 ((Int.tmod a1 512) + 512)) 512) + 1)))) (wrap64 ((Int.tmod (wrap64 ((Int.tmod a1 512) + 512)) 512) + 1))) t493 bt497.2.1 bt502.2.1 true)))) = some r := H
    have A6 := Aside0.mk A60
    clear A60
    replace H := Option.bind_eq_some_iff.mp H
    obtain ⟨⟨t497, t498, t499⟩, A70, H⟩ := H
    replace H : ((random_Some.f k a0 (wrap64 ((Int.tmod (wrap64 ((Int.tmod a1 512) + 512)) 512) + 1)) (wrap64 ((Int.tmod (wrap64 ((Int.tmod a2 (wrap64 ((Int.tmod (wrap64 ((Int.tmod a1 512) + 512)) 512) + 1))) + (wrap64 ((Int.tmod (wrap64 ((Int.tmod a1 512) + 512)) 512) + 1)))) (wrap64 ((Int.tmod (wrap64 ((Int.tmod a1 512) + 512)) 512) + 1))) + 1))).bind fun bt502 => (if t489 = 0 then (if t494 = 0 then (if t499 = 0 then (if bt502.2.2 = 0 then (if (t488.length : Int) = 0 then (if (t493.length : Int) = (wrap64 ((Int.tmod (wrap64 ((Int.tmod a1 512) + 512)) 512) + 1)) then (if (bt502.2.1.length : Int) = (wrap64 ((Int.tmod (wrap64 ((Int.tmod a2 (wrap64 ((Int.tmod (wrap64 ((Int.tmod a1 512) + 512)) 512) + 1))) + (wrap64 ((Int.tmod (wrap64 ((Int.tmod a1 512) + 512)) 512) + 1)))) (wrap64 ((Int.tmod (wrap64 ((Int.tmod a1 512) + 512)) 512) + 1))) + 1)) then ((downpourlaw06_alive.f k).bind fun t507 => (downpourlaw06_RandomFew.j0 k (Int.tmod (wrap64 ((Int.tmod a2 (wrap64 ((Int.tmod (wrap64 ((Int.tmod a1 512) + 512)) 512) + 1))) + (wrap64 ((Int.tmod (wrap64 ((Int.tmod a1 512) + 512)) 512) + 1)))) (wrap64 ((Int.tmod (wrap64 ((Int.tmod a1 512) + 512)) 512) + 1))) t493 t498 bt502.2.1 (!t507))) else (downpourlaw06_RandomFew.j0 k (Int.tmod (wrap64 ((Int.tmod a2 (wrap64 ((Int.tmod (wrap64 ((Int.tmod a1 512) + 512)) 512) + 1))) + (wrap64 ((Int.tmod (wrap64 ((Int.tmod a1 512) + 512)) 512) + 1)))) (wrap64 ((Int.tmod (wrap64 ((Int.tmod a1 512) + 512)) 512) + 1))) t493 t498 bt502.2.1 true)) else (downpourlaw06_RandomFew.j0 k (Int.tmod (wrap64 ((Int.tmod a2 (wrap64 ((Int.tmod (wrap64 ((Int.tmod a1 512) + 512)) 512) + 1))) + (wrap64 ((Int.tmod (wrap64 ((Int.tmod a1 512) + 512)) 512) + 1)))) (wrap64 ((Int.tmod (wrap64 ((Int.tmod a1 512) + 512)) 512) + 1))) t493 t498 bt502.2.1 true)) else (downpourlaw06_RandomFew.j0 k (Int.tmod (wrap64 ((Int.tmod a2 (wrap64 ((Int.tmod (wrap64 ((Int.tmod a1 512) + 512)) 512) + 1))) + (wrap64 ((Int.tmod (wrap64 ((Int.tmod a1 512) + 512)) 512) + 1)))) (wrap64 ((Int.tmod (wrap64 ((Int.tmod a1 512) + 512)) 512) + 1))) t493 t498 bt502.2.1 true)) else (downpourlaw06_RandomFew.j0 k (Int.tmod (wrap64 ((Int.tmod a2 (wrap64 ((Int.tmod (wrap64 ((Int.tmod a1 512) + 512)) 512) + 1))) + (wrap64 ((Int.tmod (wrap64 ((Int.tmod a1 512) + 512)) 512) + 1)))) (wrap64 ((Int.tmod (wrap64 ((Int.tmod a1 512) + 512)) 512) + 1))) t493 t498 bt502.2.1 true)) else (downpourlaw06_RandomFew.j0 k (Int.tmod (wrap64 ((Int.tmod a2 (wrap64 ((Int.tmod (wrap64 ((Int.tmod a1 512) + 512)) 512) + 1))) + (wrap64 ((Int.tmod (wrap64 ((Int.tmod a1 512) + 512)) 512) + 1)))) (wrap64 ((Int.tmod (wrap64 ((Int.tmod a1 512) + 512)) 512) + 1))) t493 t498 bt502.2.1 true)) else (downpourlaw06_RandomFew.j0 k (Int.tmod (wrap64 ((Int.tmod a2 (wrap64 ((Int.tmod (wrap64 ((Int.tmod a1 512) + 512)) 512) + 1))) + (wrap64 ((Int.tmod (wrap64 ((Int.tmod a1 512) + 512)) 512) + 1)))) (wrap64 ((Int.tmod (wrap64 ((Int.tmod a1 512) + 512)) 512) + 1))) t493 t498 bt502.2.1 true)) else (downpourlaw06_RandomFew.j0 k (Int.tmod (wrap64 ((Int.tmod a2 (wrap64 ((Int.tmod (wrap64 ((Int.tmod a1 512) + 512)) 512) + 1))) + (wrap64 ((Int.tmod (wrap64 ((Int.tmod a1 512) + 512)) 512) + 1)))) (wrap64 ((Int.tmod (wrap64 ((Int.tmod a1 512) + 512)) 512) + 1))) t493 t498 bt502.2.1 true))) = some r := H
    have A7 := Aside0.mk A70
    clear A70
    replace H := Option.bind_eq_some_iff.mp H
    obtain ⟨⟨t502, t503, t504⟩, A80, H⟩ := H
    replace H : (if t489 = 0 then (if t494 = 0 then (if t499 = 0 then (if t504 = 0 then (if (t488.length : Int) = 0 then (if (t493.length : Int) = (wrap64 ((Int.tmod (wrap64 ((Int.tmod a1 512) + 512)) 512) + 1)) then (if (t503.length : Int) = (wrap64 ((Int.tmod (wrap64 ((Int.tmod a2 (wrap64 ((Int.tmod (wrap64 ((Int.tmod a1 512) + 512)) 512) + 1))) + (wrap64 ((Int.tmod (wrap64 ((Int.tmod a1 512) + 512)) 512) + 1)))) (wrap64 ((Int.tmod (wrap64 ((Int.tmod a1 512) + 512)) 512) + 1))) + 1)) then ((downpourlaw06_alive.f k).bind fun t507 => (downpourlaw06_RandomFew.j0 k (Int.tmod (wrap64 ((Int.tmod a2 (wrap64 ((Int.tmod (wrap64 ((Int.tmod a1 512) + 512)) 512) + 1))) + (wrap64 ((Int.tmod (wrap64 ((Int.tmod a1 512) + 512)) 512) + 1)))) (wrap64 ((Int.tmod (wrap64 ((Int.tmod a1 512) + 512)) 512) + 1))) t493 t498 t503 (!t507))) else (downpourlaw06_RandomFew.j0 k (Int.tmod (wrap64 ((Int.tmod a2 (wrap64 ((Int.tmod (wrap64 ((Int.tmod a1 512) + 512)) 512) + 1))) + (wrap64 ((Int.tmod (wrap64 ((Int.tmod a1 512) + 512)) 512) + 1)))) (wrap64 ((Int.tmod (wrap64 ((Int.tmod a1 512) + 512)) 512) + 1))) t493 t498 t503 true)) else (downpourlaw06_RandomFew.j0 k (Int.tmod (wrap64 ((Int.tmod a2 (wrap64 ((Int.tmod (wrap64 ((Int.tmod a1 512) + 512)) 512) + 1))) + (wrap64 ((Int.tmod (wrap64 ((Int.tmod a1 512) + 512)) 512) + 1)))) (wrap64 ((Int.tmod (wrap64 ((Int.tmod a1 512) + 512)) 512) + 1))) t493 t498 t503 true)) else (downpourlaw06_RandomFew.j0 k (Int.tmod (wrap64 ((Int.tmod a2 (wrap64 ((Int.tmod (wrap64 ((Int.tmod a1 512) + 512)) 512) + 1))) + (wrap64 ((Int.tmod (wrap64 ((Int.tmod a1 512) + 512)) 512) + 1)))) (wrap64 ((Int.tmod (wrap64 ((Int.tmod a1 512) + 512)) 512) + 1))) t493 t498 t503 true)) else (downpourlaw06_RandomFew.j0 k (Int.tmod (wrap64 ((Int.tmod a2 (wrap64 ((Int.tmod (wrap64 ((Int.tmod a1 512) + 512)) 512) + 1))) + (wrap64 ((Int.tmod (wrap64 ((Int.tmod a1 512) + 512)) 512) + 1)))) (wrap64 ((Int.tmod (wrap64 ((Int.tmod a1 512) + 512)) 512) + 1))) t493 t498 t503 true)) else (downpourlaw06_RandomFew.j0 k (Int.tmod (wrap64 ((Int.tmod a2 (wrap64 ((Int.tmod (wrap64 ((Int.tmod a1 512) + 512)) 512) + 1))) + (wrap64 ((Int.tmod (wrap64 ((Int.tmod a1 512) + 512)) 512) + 1)))) (wrap64 ((Int.tmod (wrap64 ((Int.tmod a1 512) + 512)) 512) + 1))) t493 t498 t503 true)) else (downpourlaw06_RandomFew.j0 k (Int.tmod (wrap64 ((Int.tmod a2 (wrap64 ((Int.tmod (wrap64 ((Int.tmod a1 512) + 512)) 512) + 1))) + (wrap64 ((Int.tmod (wrap64 ((Int.tmod a1 512) + 512)) 512) + 1)))) (wrap64 ((Int.tmod (wrap64 ((Int.tmod a1 512) + 512)) 512) + 1))) t493 t498 t503 true)) else (downpourlaw06_RandomFew.j0 k (Int.tmod (wrap64 ((Int.tmod a2 (wrap64 ((Int.tmod (wrap64 ((Int.tmod a1 512) + 512)) 512) + 1))) + (wrap64 ((Int.tmod (wrap64 ((Int.tmod a1 512) + 512)) 512) + 1)))) (wrap64 ((Int.tmod (wrap64 ((Int.tmod a1 512) + 512)) 512) + 1))) t493 t498 t503 true)) = some r := H
    have A8 := Aside0.mk A80
    clear A80
    have HC9 := Aside0.mk H
    clear H
    go_enter Try.func5, Try.ntmps5
    go_upto_region 7 with (first | ((with_reducible refine gate_callee (f := 24) rfl ?_); refine goesL_ (some 38) rfl rfl Try.func24 (by kernel_rfl) rfl #[.int .u64 a0, .int .i64 (wrap64 ((Int.tmod (wrap64 ((Int.tmod a1 512) + 512)) 512) + 1)), .int .i64 0] rfl (by (try simp only [List.map_toArray, List.map_cons, List.map_nil]); first | done | rfl | (simp only [List.length_drop, List.length_take]; rfl)) ?_; (with_reducible refine (random_Some.calls k a0 (wrap64 ((Int.tmod (wrap64 ((Int.tmod a1 512) + 512)) 512) + 1)) 0 t487 t488 t489 _ A5.out).mono ?_); rintro e w10 ⟨v490, rfl, ho0, hb⟩; refine ⟨_, rfl, ?_⟩; have n0_ := Aside0.mk (Kd.R_lower ho0 (below_size (by repeat (first | (with_reducible first | exact HB.out | apply below_alloc | apply pw_below_drewN | apply below_drew1) | exact HB.out)))); have n1_ := Aside0.mk (below_step (by repeat (first | (with_reducible first | exact HB.out | apply below_alloc | apply pw_below_drewN | apply below_drew1) | exact HB.out)) hb); clear HB; have HO491 := n0_; have HB := n1_; clear n0_ n1_; (try clear hb); (try clear hb2); (try clear hk); (try clear hi); (try clear ho0)) | ((with_reducible refine gate_callee (f := 24) rfl ?_); refine goesL_ (some 46) rfl rfl Try.func24 (by kernel_rfl) rfl #[.int .u64 a0, .int .i64 (wrap64 ((Int.tmod (wrap64 ((Int.tmod a1 512) + 512)) 512) + 1)), .int .i64 (wrap64 ((Int.tmod (wrap64 ((Int.tmod a1 512) + 512)) 512) + 1))] rfl (by (try simp only [List.map_toArray, List.map_cons, List.map_nil]); first | done | rfl | (simp only [List.length_drop, List.length_take]; rfl)) ?_; (with_reducible refine (random_Some.calls k a0 (wrap64 ((Int.tmod (wrap64 ((Int.tmod a1 512) + 512)) 512) + 1)) (wrap64 ((Int.tmod (wrap64 ((Int.tmod a1 512) + 512)) 512) + 1)) t492 t493 t494 _ A6.out).mono ?_); rintro e w11 ⟨v495, rfl, ho0, hb⟩; refine ⟨_, rfl, ?_⟩; have n0_ := Aside0.mk (Kd.R_elder' (by (with_reducible repeat (first | apply Kd.R_alloc | apply Kd.R_drewN | apply Kd.R_drew)); exact HO491.out) (Kd.R_base ho0) hb); have n1_ := Aside0.mk (Kd.R_lower (Kd.R_new' ho0 (Kd.R_lt (by (with_reducible repeat (first | apply Kd.R_alloc | apply Kd.R_drewN | apply Kd.R_drew)); exact HO491.out))) (below_size (by repeat (first | (with_reducible first | exact HB.out | apply below_alloc | apply pw_below_drewN | apply below_drew1) | exact HB.out)))); have n2_ := Aside0.mk (below_step (by repeat (first | (with_reducible first | exact HB.out | apply below_alloc | apply pw_below_drewN | apply below_drew1) | exact HB.out)) hb); clear HO491; clear HB; have HO491 := n0_; have HO496 := n1_; have HB := n2_; clear n0_ n1_ n2_; (try clear hb); (try clear hb2); (try clear hk); (try clear hi); (try clear ho0)) | ((with_reducible refine gate_callee (f := 24) rfl ?_); refine goesL_ (some 54) rfl rfl Try.func24 (by kernel_rfl) rfl #[.int .u64 a0, .int .i64 (wrap64 ((Int.tmod (wrap64 ((Int.tmod a1 512) + 512)) 512) + 1)), .int .i64 (Int.tmod (wrap64 ((Int.tmod a2 (wrap64 ((Int.tmod (wrap64 ((Int.tmod a1 512) + 512)) 512) + 1))) + (wrap64 ((Int.tmod (wrap64 ((Int.tmod a1 512) + 512)) 512) + 1)))) (wrap64 ((Int.tmod (wrap64 ((Int.tmod a1 512) + 512)) 512) + 1)))] rfl (by (try simp only [List.map_toArray, List.map_cons, List.map_nil]); first | done | rfl | (simp only [List.length_drop, List.length_take]; rfl)) ?_; (with_reducible refine (random_Some.calls k a0 (wrap64 ((Int.tmod (wrap64 ((Int.tmod a1 512) + 512)) 512) + 1)) (Int.tmod (wrap64 ((Int.tmod a2 (wrap64 ((Int.tmod (wrap64 ((Int.tmod a1 512) + 512)) 512) + 1))) + (wrap64 ((Int.tmod (wrap64 ((Int.tmod a1 512) + 512)) 512) + 1)))) (wrap64 ((Int.tmod (wrap64 ((Int.tmod a1 512) + 512)) 512) + 1))) t497 t498 t499 _ A7.out).mono ?_); rintro e w12 ⟨v500, rfl, ho0, hb⟩; refine ⟨_, rfl, ?_⟩; have n0_ := Aside0.mk (Kd.R_elder' (by (with_reducible repeat (first | apply Kd.R_alloc | apply Kd.R_drewN | apply Kd.R_drew)); exact HO491.out) (Kd.R_base ho0) hb); have n1_ := Aside0.mk (Kd.R_elder' (by (with_reducible repeat (first | apply Kd.R_alloc | apply Kd.R_drewN | apply Kd.R_drew)); exact HO496.out) (Kd.R_base ho0) hb); have n2_ := Aside0.mk (Kd.R_lower (Kd.R_new' (Kd.R_new' ho0 (Kd.R_lt (by (with_reducible repeat (first | apply Kd.R_alloc | apply Kd.R_drewN | apply Kd.R_drew)); exact HO491.out))) (Kd.R_lt (by (with_reducible repeat (first | apply Kd.R_alloc | apply Kd.R_drewN | apply Kd.R_drew)); exact HO496.out))) (below_size (by repeat (first | (with_reducible first | exact HB.out | apply below_alloc | apply pw_below_drewN | apply below_drew1) | exact HB.out)))); have n3_ := Aside0.mk (below_step (by repeat (first | (with_reducible first | exact HB.out | apply below_alloc | apply pw_below_drewN | apply below_drew1) | exact HB.out)) hb); clear HO491; clear HO496; clear HB; have HO491 := n0_; have HO496 := n1_; have HO501 := n2_; have HB := n3_; clear n0_ n1_ n2_ n3_; (try clear hb); (try clear hb2); (try clear hk); (try clear hi); (try clear ho0)) | ((with_reducible refine gate_callee (f := 24) rfl ?_); refine goesL_ (some 63) rfl rfl Try.func24 (by kernel_rfl) rfl #[.int .u64 a0, .int .i64 (wrap64 ((Int.tmod (wrap64 ((Int.tmod a1 512) + 512)) 512) + 1)), .int .i64 (wrap64 ((Int.tmod (wrap64 ((Int.tmod a2 (wrap64 ((Int.tmod (wrap64 ((Int.tmod a1 512) + 512)) 512) + 1))) + (wrap64 ((Int.tmod (wrap64 ((Int.tmod a1 512) + 512)) 512) + 1)))) (wrap64 ((Int.tmod (wrap64 ((Int.tmod a1 512) + 512)) 512) + 1))) + 1))] rfl (by (try simp only [List.map_toArray, List.map_cons, List.map_nil]); first | done | rfl | (simp only [List.length_drop, List.length_take]; rfl)) ?_; (with_reducible refine (random_Some.calls k a0 (wrap64 ((Int.tmod (wrap64 ((Int.tmod a1 512) + 512)) 512) + 1)) (wrap64 ((Int.tmod (wrap64 ((Int.tmod a2 (wrap64 ((Int.tmod (wrap64 ((Int.tmod a1 512) + 512)) 512) + 1))) + (wrap64 ((Int.tmod (wrap64 ((Int.tmod a1 512) + 512)) 512) + 1)))) (wrap64 ((Int.tmod (wrap64 ((Int.tmod a1 512) + 512)) 512) + 1))) + 1)) t502 t503 t504 _ A8.out).mono ?_); rintro e w13 ⟨v505, rfl, ho0, hb⟩; refine ⟨_, rfl, ?_⟩; have n0_ := Aside0.mk (Kd.R_elder' (by (with_reducible repeat (first | apply Kd.R_alloc | apply Kd.R_drewN | apply Kd.R_drew)); exact HO491.out) (Kd.R_base ho0) hb); have n1_ := Aside0.mk (Kd.R_elder' (by (with_reducible repeat (first | apply Kd.R_alloc | apply Kd.R_drewN | apply Kd.R_drew)); exact HO496.out) (Kd.R_base ho0) hb); have n2_ := Aside0.mk (Kd.R_elder' (by (with_reducible repeat (first | apply Kd.R_alloc | apply Kd.R_drewN | apply Kd.R_drew)); exact HO501.out) (Kd.R_base ho0) hb); have n3_ := Aside0.mk (Kd.R_lower (Kd.R_new' (Kd.R_new' (Kd.R_new' ho0 (Kd.R_lt (by (with_reducible repeat (first | apply Kd.R_alloc | apply Kd.R_drewN | apply Kd.R_drew)); exact HO491.out))) (Kd.R_lt (by (with_reducible repeat (first | apply Kd.R_alloc | apply Kd.R_drewN | apply Kd.R_drew)); exact HO496.out))) (Kd.R_lt (by (with_reducible repeat (first | apply Kd.R_alloc | apply Kd.R_drewN | apply Kd.R_drew)); exact HO501.out))) (below_size (by repeat (first | (with_reducible first | exact HB.out | apply below_alloc | apply pw_below_drewN | apply below_drew1) | exact HB.out)))); have n4_ := Aside0.mk (below_step (by repeat (first | (with_reducible first | exact HB.out | apply below_alloc | apply pw_below_drewN | apply below_drew1) | exact HB.out)) hb); clear HO491; clear HO496; clear HO501; clear HB; have HO491 := n0_; have HO496 := n1_; have HO501 := n2_; have HO506 := n3_; have HB := n4_; clear n0_ n1_ n2_ n3_ n4_; (try clear hb); (try clear hb2); (try clear hk); (try clear hi); (try clear ho0)))
    (try simp only [Act.put, List.setIfInBounds_toArray, List.set_cons_zero, List.set_cons_succ])
    go_cut [102] (fun v102 wc => ∃ (kq : Nat) (x102_8 : Bool), v102 = .bool x102_8 ∧ Aside0 (downpourlaw06_RandomFew.j0 kq (Int.tmod (wrap64 ((Int.tmod a2 (wrap64 ((Int.tmod (wrap64 ((Int.tmod a1 512) + 512)) 512) + 1))) + (wrap64 ((Int.tmod (wrap64 ((Int.tmod a1 512) + 512)) 512) + 1)))) (wrap64 ((Int.tmod (wrap64 ((Int.tmod a1 512) + 512)) 512) + 1))) t493 t498 t503 x102_8 = some r) ∧ Aside0 (kq ≤ k) ∧ Aside0 (Kd.R (Kd.int .i64) 3 wc w.heap.size (fun k_ => some k_ ≠ (v500 : Value).ownBlock ∧ some k_ ≠ (v505 : Value).ownBlock) v495 t493) ∧ Aside0 (Kd.R (Kd.int .i64) 3 wc w.heap.size (fun k_ => some k_ ≠ (v495 : Value).ownBlock ∧ some k_ ≠ (v505 : Value).ownBlock) v500 t498) ∧ Aside0 (Kd.R (Kd.int .i64) 3 wc w.heap.size (fun k_ => some k_ ≠ (v495 : Value).ownBlock ∧ some k_ ≠ (v500 : Value).ownBlock) v505 t503) ∧ Aside0 (Below w.heap.size w wc))
    case first =>
      have H := HC9.out
      clear HC9
      by_cases c14 : t489 = 0
      · rw [if_pos c14] at H
        have c14b0 : (t489 == 0) = true := beq_iff_eq.mpr c14
        have c14b1 : (t489 != 0) = false := bne_eq_false_iff_eq.mpr c14
        clear c14
        (first | rw [c14b0] | (simp only [i64_w, i32_w]; rw [c14b0]) | skip)
        by_cases c15 : t494 = 0
        · rw [if_pos c15] at H
          have c15b0 : (t494 == 0) = true := beq_iff_eq.mpr c15
          have c15b1 : (t494 != 0) = false := bne_eq_false_iff_eq.mpr c15
          clear c15
          by_cases c16 : t499 = 0
          · rw [if_pos c16] at H
            have c16b0 : (t499 == 0) = true := beq_iff_eq.mpr c16
            have c16b1 : (t499 != 0) = false := bne_eq_false_iff_eq.mpr c16
            clear c16
            by_cases c17 : t504 = 0
            · rw [if_pos c17] at H
              have c17b0 : (t504 == 0) = true := beq_iff_eq.mpr c17
              have c17b1 : (t504 != 0) = false := bne_eq_false_iff_eq.mpr c17
              clear c17
              by_cases c18 : (t488.length : Int) = 0
              · rw [if_pos c18] at H
                have c18b0 : ((t488.length : Int) == 0) = true := beq_iff_eq.mpr c18
                have c18b1 : ((t488.length : Int) != 0) = false := bne_eq_false_iff_eq.mpr c18
                clear c18
                by_cases c19 : (t493.length : Int) = (wrap64 ((Int.tmod (wrap64 ((Int.tmod a1 512) + 512)) 512) + 1))
                · rw [if_pos c19] at H
                  have c19b0 : ((t493.length : Int) == (wrap64 ((Int.tmod (wrap64 ((Int.tmod a1 512) + 512)) 512) + 1))) = true := beq_iff_eq.mpr c19
                  have c19b1 : ((t493.length : Int) != (wrap64 ((Int.tmod (wrap64 ((Int.tmod a1 512) + 512)) 512) + 1))) = false := bne_eq_false_iff_eq.mpr c19
                  clear c19
                  by_cases c20 : (t503.length : Int) = (wrap64 ((Int.tmod (wrap64 ((Int.tmod a2 (wrap64 ((Int.tmod (wrap64 ((Int.tmod a1 512) + 512)) 512) + 1))) + (wrap64 ((Int.tmod (wrap64 ((Int.tmod a1 512) + 512)) 512) + 1)))) (wrap64 ((Int.tmod (wrap64 ((Int.tmod a1 512) + 512)) 512) + 1))) + 1))
                  · rw [if_pos c20] at H
                    have c20b0 : ((t503.length : Int) == (wrap64 ((Int.tmod (wrap64 ((Int.tmod a2 (wrap64 ((Int.tmod (wrap64 ((Int.tmod a1 512) + 512)) 512) + 1))) + (wrap64 ((Int.tmod (wrap64 ((Int.tmod a1 512) + 512)) 512) + 1)))) (wrap64 ((Int.tmod (wrap64 ((Int.tmod a1 512) + 512)) 512) + 1))) + 1))) = true := beq_iff_eq.mpr c20
                    have c20b1 : ((t503.length : Int) != (wrap64 ((Int.tmod (wrap64 ((Int.tmod a2 (wrap64 ((Int.tmod (wrap64 ((Int.tmod a1 512) + 512)) 512) + 1))) + (wrap64 ((Int.tmod (wrap64 ((Int.tmod a1 512) + 512)) 512) + 1)))) (wrap64 ((Int.tmod (wrap64 ((Int.tmod a1 512) + 512)) 512) + 1))) + 1))) = false := bne_eq_false_iff_eq.mpr c20
                    clear c20
                    replace H := Option.bind_eq_some_iff.mp H
                    obtain ⟨t507, A210, H⟩ := H
                    replace H : (downpourlaw06_RandomFew.j0 k (Int.tmod (wrap64 ((Int.tmod a2 (wrap64 ((Int.tmod (wrap64 ((Int.tmod a1 512) + 512)) 512) + 1))) + (wrap64 ((Int.tmod (wrap64 ((Int.tmod a1 512) + 512)) 512) + 1)))) (wrap64 ((Int.tmod (wrap64 ((Int.tmod a1 512) + 512)) 512) + 1))) t493 t498 t503 (!t507)) = some r := H
                    have A21 := Aside0.mk A210
                    clear A210
                    have H' := Aside0.mk H
                    clear H
                    obtain ⟨Ao22, co22, eo22⟩ := Kd.R_slice HO491.out
                    subst eo22
                    obtain ⟨Ao23, co23, eo23⟩ := Kd.R_slice HO496.out
                    subst eo23
                    obtain ⟨Ao24, co24, eo24⟩ := Kd.R_slice HO506.out
                    subst eo24
                    go_wp2_with (first | (go_at_call 25; (with_reducible refine (downpourlaw06_alive.calls k  t507 _ A21.out).mono ?_); rintro e w25 ⟨rfl, hb⟩; have n0_ := Aside0.mk (Kd.R_below (by (with_reducible repeat (first | apply Kd.R_alloc | apply Kd.R_drewN | apply Kd.R_drew)); exact HO491.out) hb); have n1_ := Aside0.mk (Kd.R_below (by (with_reducible repeat (first | apply Kd.R_alloc | apply Kd.R_drewN | apply Kd.R_drew)); exact HO496.out) hb); have n2_ := Aside0.mk (Kd.R_below (by (with_reducible repeat (first | apply Kd.R_alloc | apply Kd.R_drewN | apply Kd.R_drew)); exact HO501.out) hb); have n3_ := Aside0.mk (Kd.R_below (by (with_reducible repeat (first | apply Kd.R_alloc | apply Kd.R_drewN | apply Kd.R_drew)); exact HO506.out) hb); have n4_ := Aside0.mk (below_step (by repeat (first | (with_reducible first | exact HB.out | apply below_alloc | apply pw_below_drewN | apply below_drew1) | exact HB.out)) hb); clear HO491; clear HO496; clear HO501; clear HO506; clear HB; have HO491 := n0_; have HO496 := n1_; have HO501 := n2_; have HO506 := n3_; have HB := n4_; clear n0_ n1_ n2_ n3_ n4_; (try clear hb); (try clear hb2); (try clear hk); (try clear hi)))
                    go_meet
                    case rel => exact ⟨_, (!t507), (by first | rfl | (simp; done) | (simp [*]; done)), H', ⟨by first | omega | exact Nat.le_refl _⟩, ⟨by (with_reducible repeat (first | apply Kd.R_alloc | apply Kd.R_drewN | apply Kd.R_drew)); exact Kd.R_mono HO496.out (fun _ hk => ⟨hk.1.2, hk.2⟩)⟩, ⟨by (with_reducible repeat (first | apply Kd.R_alloc | apply Kd.R_drewN | apply Kd.R_drew)); exact Kd.R_mono HO501.out (fun _ hk => ⟨hk.1.2, hk.2⟩)⟩, ⟨by (with_reducible repeat (first | apply Kd.R_alloc | apply Kd.R_drewN | apply Kd.R_drew)); exact Kd.R_mono HO506.out (fun _ hk => ⟨hk.1.2, hk.2⟩)⟩, ⟨by repeat (first | (with_reducible first | exact HB.out | apply below_alloc | apply pw_below_drewN | apply below_drew1) | exact HB.out)⟩⟩
                  · rw [if_neg c20] at H
                    have c20b0 : ((t503.length : Int) == (wrap64 ((Int.tmod (wrap64 ((Int.tmod a2 (wrap64 ((Int.tmod (wrap64 ((Int.tmod a1 512) + 512)) 512) + 1))) + (wrap64 ((Int.tmod (wrap64 ((Int.tmod a1 512) + 512)) 512) + 1)))) (wrap64 ((Int.tmod (wrap64 ((Int.tmod a1 512) + 512)) 512) + 1))) + 1))) = false := beq_eq_false_iff_ne.mpr c20
                    have c20b1 : ((t503.length : Int) != (wrap64 ((Int.tmod (wrap64 ((Int.tmod a2 (wrap64 ((Int.tmod (wrap64 ((Int.tmod a1 512) + 512)) 512) + 1))) + (wrap64 ((Int.tmod (wrap64 ((Int.tmod a1 512) + 512)) 512) + 1)))) (wrap64 ((Int.tmod (wrap64 ((Int.tmod a1 512) + 512)) 512) + 1))) + 1))) = true := bne_iff_ne.mpr c20
                    have H' := Aside0.mk H
                    clear H
                    obtain ⟨Ao26, co26, eo26⟩ := Kd.R_slice HO491.out
                    subst eo26
                    obtain ⟨Ao27, co27, eo27⟩ := Kd.R_slice HO496.out
                    subst eo27
                    obtain ⟨Ao28, co28, eo28⟩ := Kd.R_slice HO506.out
                    subst eo28
                    go_wp2
                    go_meet
                    case rel => exact ⟨_, (true), (by first | rfl | (simp; done) | (simp [*]; done)), H', ⟨by first | omega | exact Nat.le_refl _⟩, ⟨by (with_reducible repeat (first | apply Kd.R_alloc | apply Kd.R_drewN | apply Kd.R_drew)); exact Kd.R_mono HO496.out (fun _ hk => ⟨hk.1.2, hk.2⟩)⟩, ⟨by (with_reducible repeat (first | apply Kd.R_alloc | apply Kd.R_drewN | apply Kd.R_drew)); exact Kd.R_mono HO501.out (fun _ hk => ⟨hk.1.2, hk.2⟩)⟩, ⟨by (with_reducible repeat (first | apply Kd.R_alloc | apply Kd.R_drewN | apply Kd.R_drew)); exact Kd.R_mono HO506.out (fun _ hk => ⟨hk.1.2, hk.2⟩)⟩, ⟨by repeat (first | (with_reducible first | exact HB.out | apply below_alloc | apply pw_below_drewN | apply below_drew1) | exact HB.out)⟩⟩
                · rw [if_neg c19] at H
                  have c19b0 : ((t493.length : Int) == (wrap64 ((Int.tmod (wrap64 ((Int.tmod a1 512) + 512)) 512) + 1))) = false := beq_eq_false_iff_ne.mpr c19
                  have c19b1 : ((t493.length : Int) != (wrap64 ((Int.tmod (wrap64 ((Int.tmod a1 512) + 512)) 512) + 1))) = true := bne_iff_ne.mpr c19
                  have H' := Aside0.mk H
                  clear H
                  obtain ⟨Ao29, co29, eo29⟩ := Kd.R_slice HO491.out
                  subst eo29
                  obtain ⟨Ao30, co30, eo30⟩ := Kd.R_slice HO496.out
                  subst eo30
                  go_wp2
                  go_meet
                  case rel => exact ⟨_, (true), (by first | rfl | (simp; done) | (simp [*]; done)), H', ⟨by first | omega | exact Nat.le_refl _⟩, ⟨by (with_reducible repeat (first | apply Kd.R_alloc | apply Kd.R_drewN | apply Kd.R_drew)); exact Kd.R_mono HO496.out (fun _ hk => ⟨hk.1.2, hk.2⟩)⟩, ⟨by (with_reducible repeat (first | apply Kd.R_alloc | apply Kd.R_drewN | apply Kd.R_drew)); exact Kd.R_mono HO501.out (fun _ hk => ⟨hk.1.2, hk.2⟩)⟩, ⟨by (with_reducible repeat (first | apply Kd.R_alloc | apply Kd.R_drewN | apply Kd.R_drew)); exact Kd.R_mono HO506.out (fun _ hk => ⟨hk.1.2, hk.2⟩)⟩, ⟨by repeat (first | (with_reducible first | exact HB.out | apply below_alloc | apply pw_below_drewN | apply below_drew1) | exact HB.out)⟩⟩
              · rw [if_neg c18] at H
                have c18b0 : ((t488.length : Int) == 0) = false := beq_eq_false_iff_ne.mpr c18
                have c18b1 : ((t488.length : Int) != 0) = true := bne_iff_ne.mpr c18
                have c18b2 : ¬ (t488 = []) := fun h_ => c18 (by rw [h_]; rfl)
                have H' := Aside0.mk H
                clear H
                obtain ⟨Ao31, co31, eo31⟩ := Kd.R_slice HO491.out
                subst eo31
                go_wp2
                go_meet
                case rel => exact ⟨_, (true), (by first | rfl | (simp; done) | (simp [*]; done)), H', ⟨by first | omega | exact Nat.le_refl _⟩, ⟨by (with_reducible repeat (first | apply Kd.R_alloc | apply Kd.R_drewN | apply Kd.R_drew)); exact Kd.R_mono HO496.out (fun _ hk => ⟨hk.1.2, hk.2⟩)⟩, ⟨by (with_reducible repeat (first | apply Kd.R_alloc | apply Kd.R_drewN | apply Kd.R_drew)); exact Kd.R_mono HO501.out (fun _ hk => ⟨hk.1.2, hk.2⟩)⟩, ⟨by (with_reducible repeat (first | apply Kd.R_alloc | apply Kd.R_drewN | apply Kd.R_drew)); exact Kd.R_mono HO506.out (fun _ hk => ⟨hk.1.2, hk.2⟩)⟩, ⟨by repeat (first | (with_reducible first | exact HB.out | apply below_alloc | apply pw_below_drewN | apply below_drew1) | exact HB.out)⟩⟩
            · rw [if_neg c17] at H
              have c17b0 : (t504 == 0) = false := beq_eq_false_iff_ne.mpr c17
              have c17b1 : (t504 != 0) = true := bne_iff_ne.mpr c17
              have H' := Aside0.mk H
              clear H
              go_wp2
              go_meet
              case rel => exact ⟨_, (true), (by first | rfl | (simp; done) | (simp [*]; done)), H', ⟨by first | omega | exact Nat.le_refl _⟩, ⟨by (with_reducible repeat (first | apply Kd.R_alloc | apply Kd.R_drewN | apply Kd.R_drew)); exact Kd.R_mono HO496.out (fun _ hk => ⟨hk.1.2, hk.2⟩)⟩, ⟨by (with_reducible repeat (first | apply Kd.R_alloc | apply Kd.R_drewN | apply Kd.R_drew)); exact Kd.R_mono HO501.out (fun _ hk => ⟨hk.1.2, hk.2⟩)⟩, ⟨by (with_reducible repeat (first | apply Kd.R_alloc | apply Kd.R_drewN | apply Kd.R_drew)); exact Kd.R_mono HO506.out (fun _ hk => ⟨hk.1.2, hk.2⟩)⟩, ⟨by repeat (first | (with_reducible first | exact HB.out | apply below_alloc | apply pw_below_drewN | apply below_drew1) | exact HB.out)⟩⟩
          · rw [if_neg c16] at H
            have c16b0 : (t499 == 0) = false := beq_eq_false_iff_ne.mpr c16
            have c16b1 : (t499 != 0) = true := bne_iff_ne.mpr c16
            have H' := Aside0.mk H
            clear H
            go_wp2
            go_meet
            case rel => exact ⟨_, (true), (by first | rfl | (simp; done) | (simp [*]; done)), H', ⟨by first | omega | exact Nat.le_refl _⟩, ⟨by (with_reducible repeat (first | apply Kd.R_alloc | apply Kd.R_drewN | apply Kd.R_drew)); exact Kd.R_mono HO496.out (fun _ hk => ⟨hk.1.2, hk.2⟩)⟩, ⟨by (with_reducible repeat (first | apply Kd.R_alloc | apply Kd.R_drewN | apply Kd.R_drew)); exact Kd.R_mono HO501.out (fun _ hk => ⟨hk.1.2, hk.2⟩)⟩, ⟨by (with_reducible repeat (first | apply Kd.R_alloc | apply Kd.R_drewN | apply Kd.R_drew)); exact Kd.R_mono HO506.out (fun _ hk => ⟨hk.1.2, hk.2⟩)⟩, ⟨by repeat (first | (with_reducible first | exact HB.out | apply below_alloc | apply pw_below_drewN | apply below_drew1) | exact HB.out)⟩⟩
        · rw [if_neg c15] at H
          have c15b0 : (t494 == 0) = false := beq_eq_false_iff_ne.mpr c15
          have c15b1 : (t494 != 0) = true := bne_iff_ne.mpr c15
          have H' := Aside0.mk H
          clear H
          go_wp2
          go_meet
          case rel => exact ⟨_, (true), (by first | rfl | (simp; done) | (simp [*]; done)), H', ⟨by first | omega | exact Nat.le_refl _⟩, ⟨by (with_reducible repeat (first | apply Kd.R_alloc | apply Kd.R_drewN | apply Kd.R_drew)); exact Kd.R_mono HO496.out (fun _ hk => ⟨hk.1.2, hk.2⟩)⟩, ⟨by (with_reducible repeat (first | apply Kd.R_alloc | apply Kd.R_drewN | apply Kd.R_drew)); exact Kd.R_mono HO501.out (fun _ hk => ⟨hk.1.2, hk.2⟩)⟩, ⟨by (with_reducible repeat (first | apply Kd.R_alloc | apply Kd.R_drewN | apply Kd.R_drew)); exact Kd.R_mono HO506.out (fun _ hk => ⟨hk.1.2, hk.2⟩)⟩, ⟨by repeat (first | (with_reducible first | exact HB.out | apply below_alloc | apply pw_below_drewN | apply below_drew1) | exact HB.out)⟩⟩
      · rw [if_neg c14] at H
        have c14b0 : (t489 == 0) = false := beq_eq_false_iff_ne.mpr c14
        have c14b1 : (t489 != 0) = true := bne_iff_ne.mpr c14
        (first | rw [c14b0] | (simp only [i64_w, i32_w]; rw [c14b0]) | skip)
        have H' := Aside0.mk H
        clear H
        go_wp2
        go_meet
        case rel => exact ⟨_, (true), (by first | rfl | (simp; done) | (simp [*]; done)), H', ⟨by first | omega | exact Nat.le_refl _⟩, ⟨by (with_reducible repeat (first | apply Kd.R_alloc | apply Kd.R_drewN | apply Kd.R_drew)); exact Kd.R_mono HO496.out (fun _ hk => ⟨hk.1.2, hk.2⟩)⟩, ⟨by (with_reducible repeat (first | apply Kd.R_alloc | apply Kd.R_drewN | apply Kd.R_drew)); exact Kd.R_mono HO501.out (fun _ hk => ⟨hk.1.2, hk.2⟩)⟩, ⟨by (with_reducible repeat (first | apply Kd.R_alloc | apply Kd.R_drewN | apply Kd.R_drew)); exact Kd.R_mono HO506.out (fun _ hk => ⟨hk.1.2, hk.2⟩)⟩, ⟨by repeat (first | (with_reducible first | exact HB.out | apply below_alloc | apply pw_below_drewN | apply below_drew1) | exact HB.out)⟩⟩
    case rest =>
      clear HC9
      try clear c1
      try clear c2
      try clear p2
      try clear c4
      try clear c4b0
      try clear c4b1
      try clear c5
      try clear p6
      try clear c14
      try clear c14b0
      try clear c14b1
      try clear c15
      try clear c15b0
      try clear c15b1
      try clear c16
      try clear c16b0
      try clear c16b1
      try clear c17
      try clear c17b0
      try clear c17b1
      try clear c18
      try clear c18b0
      try clear c18b1
      try clear c18b2
      try clear c19
      try clear c19b0
      try clear c19b1
      try clear c20
      try clear c20b0
      try clear c20b1
      try clear c24
      obtain ⟨kq, x102_8, rfl, HA, HJ8, HO_11, HO_14, HO_17, HB⟩ := hcut
      cases kq with
      | zero => exact absurd HA.out (by simp [downpourlaw06_RandomFew.j0])
      | succ kj8 =>
        have H := HA.out
        clear HA
        simp only [downpourlaw06_RandomFew.j0] at H
        by_cases c32 : x102_8 = true
        · subst c32
          have H1 : (some false) = some r := by rw [if_pos rfl] at H; exact H
          clear H
          have H := H1
          clear H1
          obtain rfl := Option.some.inj H
          go_wp2
          go_ret
          exact ⟨by first | rfl | (simp [errW_none, errW_some] <;> rfl) | (simp [*, errW_none, errW_some] <;> rfl), by repeat (first | (with_reducible first | exact HB.out | apply below_alloc | apply pw_below_drewN | apply below_drew1) | exact HB.out)⟩
        · replace c32 := Bool.eq_false_iff.mpr c32
          subst c32
          have H1 : (downpourlaw06_RandomFew.l0 kj8 (Int.tmod (wrap64 ((Int.tmod a2 (wrap64 ((Int.tmod (wrap64 ((Int.tmod a1 512) + 512)) 512) + 1))) + (wrap64 ((Int.tmod (wrap64 ((Int.tmod a1 512) + 512)) 512) + 1)))) (wrap64 ((Int.tmod (wrap64 ((Int.tmod a1 512) + 512)) 512) + 1))) t498 t503 t493 (t493.length : Int) 0) = some r := by rw [if_neg (show ¬ (false = true) by decide)] at H; exact H
          clear H
          have H := H1
          clear H1
          have H' := Aside0.mk H
          clear H
          obtain ⟨Ao33, co33, eo33⟩ := Kd.R_slice HO_11.out
          subst eo33
          go_wp2
          go_loopg [105] kj8 (fun kq v105 w' => ∃ (x105_2 : Int), v105 = .int .i64 x105_2 ∧ Aside0 (downpourlaw06_RandomFew.l0 kq (Int.tmod (wrap64 ((Int.tmod a2 (wrap64 ((Int.tmod (wrap64 ((Int.tmod a1 512) + 512)) 512) + 1))) + (wrap64 ((Int.tmod (wrap64 ((Int.tmod a1 512) + 512)) 512) + 1)))) (wrap64 ((Int.tmod (wrap64 ((Int.tmod a1 512) + 512)) 512) + 1))) t498 t503 t493 (t493.length : Int) x105_2 = some r) ∧ Aside0 (kq ≤ kj8) ∧ Aside0 (Kd.R (Kd.int .i64) 3 w' w.heap.size (fun k_ => some k_ ≠ (v505 : Value).ownBlock ∧ some k_ ≠ ((.slice Ao33 t493.length co33) : Value).ownBlock) v500 t498) ∧ Aside0 (Kd.R (Kd.int .i64) 3 w' w.heap.size (fun k_ => some k_ ≠ (v500 : Value).ownBlock ∧ some k_ ≠ ((.slice Ao33 t493.length co33) : Value).ownBlock) v505 t503) ∧ Aside0 (Kd.R (Kd.int .i64) 3 w' w.heap.size (fun k_ => some k_ ≠ (v500 : Value).ownBlock ∧ some k_ ≠ (v505 : Value).ownBlock) (.slice Ao33 t493.length co33) t493) ∧ Aside0 (Below w.heap.size w w'))
          case atStart => exact ⟨(0), (by first | rfl | (simp; done) | (simp [*]; done)), H', ⟨Nat.le_refl _⟩, ⟨by (with_reducible repeat (first | apply Kd.R_alloc | apply Kd.R_drewN | apply Kd.R_drew)); exact Kd.R_mono HO_14.out (fun _ hk => ⟨hk.2, hk.1⟩)⟩, ⟨by (with_reducible repeat (first | apply Kd.R_alloc | apply Kd.R_drewN | apply Kd.R_drew)); exact Kd.R_mono HO_17.out (fun _ hk => ⟨hk.2, hk.1⟩)⟩, ⟨by (with_reducible repeat (first | apply Kd.R_alloc | apply Kd.R_drewN | apply Kd.R_drew)); exact HO_11.out⟩, ⟨by repeat (first | (with_reducible first | exact HB.out | apply below_alloc | apply pw_below_drewN | apply below_drew1) | exact HB.out)⟩⟩
          case round =>
            clear H'
            try clear c1
            try clear c2
            try clear p2
            try clear c3
            try clear c4
            try clear c4b0
            try clear c4b1
            try clear c5
            try clear p6
            try clear c14
            try clear c14b0
            try clear c14b1
            try clear c15
            try clear c15b0
            try clear c15b1
            try clear c16
            try clear c16b0
            try clear c16b1
            try clear c17
            try clear c17b0
            try clear c17b1
            try clear c18
            try clear c18b0
            try clear c18b1
            try clear c18b2
            try clear c19
            try clear c19b0
            try clear c19b1
            try clear c20
            try clear c20b0
            try clear c20b1
            try clear c24
            try clear c32
            try clear p2
            try clear p6
            obtain ⟨x105_2, rfl, HA, HK2, HO_14, HO_17, HO_103, HB⟩ := hrel
            cases gk with
            | zero => exact absurd HA.out (by simp [downpourlaw06_RandomFew.l0])
            | succ k2 =>
              have H := HA.out
              clear HA
              simp only [downpourlaw06_RandomFew.l0] at H
              by_cases c34 : x105_2 < (t493.length : Int)
              · rw [if_pos c34] at H
                have c34b0 : decide (x105_2 < (t493.length : Int)) = true := decide_eq_true c34
                clear c34
                by_cases c35 : 0 ≤ x105_2
                · rw [if_pos c35] at H
                  have c35b0 : decide (0 ≤ x105_2) = true := decide_eq_true c35
                  clear c35
                  by_cases c36 : x105_2 < (t493.length : Int)
                  · rw [if_pos c36] at H
                    have c36b0 : decide (x105_2 < (t493.length : Int)) = true := decide_eq_true c36
                    clear c36
                    by_cases c37 : (rd t493 x105_2) = x105_2
                    · rw [if_pos c37] at H
                      have c37b0 : ((rd t493 x105_2) == x105_2) = true := beq_iff_eq.mpr c37
                      have c37b1 : ((rd t493 x105_2) != x105_2) = false := bne_eq_false_iff_eq.mpr c37
                      clear c37
                      have H' := Aside0.mk H
                      clear H
                      have p508 : 0 ≤ (x105_2 : Int) := of_decide_eq_true (by first | (with_reducible assumption) | assumption)
                      have q508 : x105_2 < (t493.length : Int) := of_decide_eq_true (by first | (with_reducible assumption) | assumption)
                      obtain ⟨ad508, e508, hx508_0⟩ := Kd.at_int (Kd.R_reads' HO_103.out).2.2 x105_2 p508 q508
                      cases e508
                      replace p508 := eq_true p508
                      replace q508 := eq_true q508
                      go_wp2
                      go_roundg k2
                      case measure => have := HJ8.out; have := HK2.out; omega
                      case rel => exact ⟨(wrap64 (x105_2 + 1)), (by first | rfl | (simp; done) | (simp [*]; done)), H', ⟨by have := HJ8.out; have := HK2.out; omega⟩, ⟨by (with_reducible repeat (first | apply Kd.R_alloc | apply Kd.R_drewN | apply Kd.R_drew)); exact HO_14.out⟩, ⟨by (with_reducible repeat (first | apply Kd.R_alloc | apply Kd.R_drewN | apply Kd.R_drew)); exact HO_17.out⟩, ⟨by (with_reducible repeat (first | apply Kd.R_alloc | apply Kd.R_drewN | apply Kd.R_drew)); exact HO_103.out⟩, ⟨by repeat (first | (with_reducible first | exact HB.out | apply below_alloc | apply pw_below_drewN | apply below_drew1) | exact HB.out)⟩⟩
                    · rw [if_neg c37] at H
                      have c37b0 : ((rd t493 x105_2) == x105_2) = false := beq_eq_false_iff_ne.mpr c37
                      have c37b1 : ((rd t493 x105_2) != x105_2) = true := bne_iff_ne.mpr c37
                      obtain rfl := Option.some.inj H
                      have p508 : 0 ≤ (x105_2 : Int) := of_decide_eq_true (by first | (with_reducible assumption) | assumption)
                      have q508 : x105_2 < (t493.length : Int) := of_decide_eq_true (by first | (with_reducible assumption) | assumption)
                      obtain ⟨ad508, e508, hx508_0⟩ := Kd.at_int (Kd.R_reads' HO_103.out).2.2 x105_2 p508 q508
                      cases e508
                      replace p508 := eq_true p508
                      replace q508 := eq_true q508
                      go_wp2
                      go_ret
                      exact ⟨by first | rfl | (simp [errW_none, errW_some] <;> rfl) | (simp [*, errW_none, errW_some] <;> rfl), by repeat (first | (with_reducible first | exact HB.out | apply below_alloc | apply pw_below_drewN | apply below_drew1) | exact HB.out)⟩
                  · rw [if_neg c36] at H
                    exact absurd H (by simp)
                · rw [if_neg c35] at H
                  exact absurd H (by simp)
              · rw [if_neg c34] at H
                have c34b0 : decide (x105_2 < (t493.length : Int)) = false := decide_eq_false c34
                clear c34
                have H' := Aside0.mk H
                clear H
                obtain ⟨Ao38, co38, eo38⟩ := Kd.R_slice HO_14.out
                subst eo38
                go_wp2
                go_loopg [116] k2 (fun kq v116 w' => ∃ (x116_3 : Int), v116 = .int .i64 x116_3 ∧ Aside0 (downpourlaw06_RandomFew.l1 kq (Int.tmod (wrap64 ((Int.tmod a2 (wrap64 ((Int.tmod (wrap64 ((Int.tmod a1 512) + 512)) 512) + 1))) + (wrap64 ((Int.tmod (wrap64 ((Int.tmod a1 512) + 512)) 512) + 1)))) (wrap64 ((Int.tmod (wrap64 ((Int.tmod a1 512) + 512)) 512) + 1))) t498 t503 t498 (t498.length : Int) x116_3 = some r) ∧ Aside0 (kq ≤ k2) ∧ Aside0 (Kd.R (Kd.int .i64) 3 w' w.heap.size (fun k_ => some k_ ≠ (v505 : Value).ownBlock) (.slice Ao38 t498.length co38) t498) ∧ Aside0 (Kd.R (Kd.int .i64) 3 w' w.heap.size (fun k_ => some k_ ≠ ((.slice Ao38 t498.length co38) : Value).ownBlock ∧ some k_ ≠ ((.slice Ao38 t498.length co38) : Value).ownBlock) v505 t503) ∧ Aside0 (Kd.R (Kd.int .i64) 3 w' w.heap.size (fun k_ => some k_ ≠ (v505 : Value).ownBlock) (.slice Ao38 t498.length co38) t498) ∧ Aside0 (Below w.heap.size w w'))
                case atStart => exact ⟨(0), (by first | rfl | (simp; done) | (simp [*]; done)), H', ⟨Nat.le_refl _⟩, ⟨by (with_reducible repeat (first | apply Kd.R_alloc | apply Kd.R_drewN | apply Kd.R_drew)); exact Kd.R_mono HO_14.out (fun _ hk => hk.1)⟩, ⟨by (with_reducible repeat (first | apply Kd.R_alloc | apply Kd.R_drewN | apply Kd.R_drew)); exact Kd.R_mono HO_17.out (fun _ hk => ⟨hk.1, hk.1⟩)⟩, ⟨by (with_reducible repeat (first | apply Kd.R_alloc | apply Kd.R_drewN | apply Kd.R_drew)); exact Kd.R_mono HO_14.out (fun _ hk => hk.1)⟩, ⟨by repeat (first | (with_reducible first | exact HB.out | apply below_alloc | apply pw_below_drewN | apply below_drew1) | exact HB.out)⟩⟩
                case round =>
                  clear H'
                  try clear c1
                  try clear c2
                  try clear p2
                  try clear c3
                  try clear c4
                  try clear c4b0
                  try clear c4b1
                  try clear c5
                  try clear p5
                  try clear q5
                  try clear hx5
                  try clear p6
                  try clear c14
                  try clear c14b0
                  try clear c14b1
                  try clear c15
                  try clear c15b0
                  try clear c15b1
                  try clear c16
                  try clear c16b0
                  try clear c16b1
                  try clear c17
                  try clear c17b0
                  try clear c17b1
                  try clear c18
                  try clear c18b0
                  try clear c18b1
                  try clear c18b2
                  try clear c19
                  try clear c19b0
                  try clear c19b1
                  try clear c20
                  try clear c20b0
                  try clear c20b1
                  try clear c24
                  try clear c32
                  try clear c34
                  try clear c34b0
                  try clear c35
                  try clear c35b0
                  try clear c36
                  try clear c36b0
                  try clear c37
                  try clear c37b0
                  try clear c37b1
                  try clear hx508_0
                  try clear p2
                  try clear p508
                  try clear p6
                  try clear q508
                  obtain ⟨x116_3, rfl, HA, HK3, HO_14, HO_17, HO_114, HB⟩ := hrel
                  cases gk with
                  | zero => exact absurd HA.out (by simp [downpourlaw06_RandomFew.l1])
                  | succ k3 =>
                    have H := HA.out
                    clear HA
                    simp only [downpourlaw06_RandomFew.l1] at H
                    by_cases c39 : x116_3 < (t498.length : Int)
                    · rw [if_pos c39] at H
                      have c39b0 : decide (x116_3 < (t498.length : Int)) = true := decide_eq_true c39
                      clear c39
                      by_cases c40 : 0 ≤ x116_3
                      · rw [if_pos c40] at H
                        have c40b0 : decide (0 ≤ x116_3) = true := decide_eq_true c40
                        clear c40
                        by_cases c41 : x116_3 < (t498.length : Int)
                        · rw [if_pos c41] at H
                          have c41b0 : decide (x116_3 < (t498.length : Int)) = true := decide_eq_true c41
                          clear c41
                          replace H := Option.bind_eq_some_iff.mp H
                          obtain ⟨t510, A420, H⟩ := H
                          replace H : (if t510 = true then (downpourlaw06_RandomFew.l1 k3 (Int.tmod (wrap64 ((Int.tmod a2 (wrap64 ((Int.tmod (wrap64 ((Int.tmod a1 512) + 512)) 512) + 1))) + (wrap64 ((Int.tmod (wrap64 ((Int.tmod a1 512) + 512)) 512) + 1)))) (wrap64 ((Int.tmod (wrap64 ((Int.tmod a1 512) + 512)) 512) + 1))) t498 t503 t498 (t498.length : Int) (wrap64 (x116_3 + 1))) else (some false)) = some r := H
                          have A42 := Aside0.mk A420
                          clear A420
                          by_cases c43 : t510 = true
                          · subst c43
                            have H1 : (downpourlaw06_RandomFew.l1 k3 (Int.tmod (wrap64 ((Int.tmod a2 (wrap64 ((Int.tmod (wrap64 ((Int.tmod a1 512) + 512)) 512) + 1))) + (wrap64 ((Int.tmod (wrap64 ((Int.tmod a1 512) + 512)) 512) + 1)))) (wrap64 ((Int.tmod (wrap64 ((Int.tmod a1 512) + 512)) 512) + 1))) t498 t503 t498 (t498.length : Int) (wrap64 (x116_3 + 1))) = some r := by rw [if_pos rfl] at H; exact H
                            clear H
                            have H := H1
                            clear H1
                            have H' := Aside0.mk H
                            clear H
                            have p509 : 0 ≤ (x116_3 : Int) := of_decide_eq_true (by first | (with_reducible assumption) | assumption)
                            have q509 : x116_3 < (t498.length : Int) := of_decide_eq_true (by first | (with_reducible assumption) | assumption)
                            obtain ⟨ad509, e509, hx509_0⟩ := Kd.at_int (Kd.R_reads' HO_114.out).2.2 x116_3 p509 q509
                            cases e509
                            replace p509 := eq_true p509
                            replace q509 := eq_true q509
                            obtain ⟨Ao44, co44, eo44⟩ := Kd.R_slice HO_17.out
                            subst eo44
                            go_wp2_with (first | ((with_reducible refine gate_callee (f := 29) rfl ?_); refine goesL_ (some 122) rfl rfl Try.func29 (by kernel_rfl) rfl #[.slice Ao44 t503.length co44, .int .i64 (rd t498 x116_3)] rfl (by (try simp only [List.map_toArray, List.map_cons, List.map_nil]); first | done | rfl | (simp only [List.length_drop, List.length_take]; rfl)) ?_; (with_reducible refine (slices_Contains_int_int.calls k3 _ _ t503 (rd t498 x116_3) true _ ?side1 ?side2 A42.out).mono ?_); (case side1 => repeat (first | exact (Kd.R_reads' HO_17.out).2.2 | (with_reducible refine Kd.C_alloc ?_ _) | (with_reducible refine Kd.C_drewN ?_ _) | (with_reducible refine Kd.C_drew ?_))); (case side2 => exact (Kd.R_reads' HO_17.out).2.1); rintro e w' ⟨rfl, ⟨nd, rfl⟩⟩; refine ⟨_, rfl, ?_⟩))
                            go_roundg k3
                            case measure => have := HJ8.out; have := HK2.out; have := HK3.out; omega
                            case rel => exact ⟨(wrap64 (x116_3 + 1)), (by first | rfl | (simp; done) | (simp [*]; done)), H', ⟨by have := HJ8.out; have := HK2.out; have := HK3.out; omega⟩, ⟨by (with_reducible repeat (first | apply Kd.R_alloc | apply Kd.R_drewN | apply Kd.R_drew)); exact HO_14.out⟩, ⟨by (with_reducible repeat (first | apply Kd.R_alloc | apply Kd.R_drewN | apply Kd.R_drew)); exact HO_17.out⟩, ⟨by (with_reducible repeat (first | apply Kd.R_alloc | apply Kd.R_drewN | apply Kd.R_drew)); exact HO_114.out⟩, ⟨by repeat (first | (with_reducible first | exact HB.out | apply below_alloc | apply pw_below_drewN | apply below_drew1) | exact HB.out)⟩⟩
                          · replace c43 := Bool.eq_false_iff.mpr c43
                            subst c43
                            have H1 : (some false) = some r := by rw [if_neg (show ¬ (false = true) by decide)] at H; exact H
                            clear H
                            have H := H1
                            clear H1
                            obtain rfl := Option.some.inj H
                            have p509 : 0 ≤ (x116_3 : Int) := of_decide_eq_true (by first | (with_reducible assumption) | assumption)
                            have q509 : x116_3 < (t498.length : Int) := of_decide_eq_true (by first | (with_reducible assumption) | assumption)
                            obtain ⟨ad509, e509, hx509_0⟩ := Kd.at_int (Kd.R_reads' HO_114.out).2.2 x116_3 p509 q509
                            cases e509
                            replace p509 := eq_true p509
                            replace q509 := eq_true q509
                            obtain ⟨Ao45, co45, eo45⟩ := Kd.R_slice HO_17.out
                            subst eo45
                            go_wp2_with (first | ((with_reducible refine gate_callee (f := 29) rfl ?_); refine goesL_ (some 122) rfl rfl Try.func29 (by kernel_rfl) rfl #[.slice Ao45 t503.length co45, .int .i64 (rd t498 x116_3)] rfl (by (try simp only [List.map_toArray, List.map_cons, List.map_nil]); first | done | rfl | (simp only [List.length_drop, List.length_take]; rfl)) ?_; (with_reducible refine (slices_Contains_int_int.calls k3 _ _ t503 (rd t498 x116_3) false _ ?side1 ?side2 A42.out).mono ?_); (case side1 => repeat (first | exact (Kd.R_reads' HO_17.out).2.2 | (with_reducible refine Kd.C_alloc ?_ _) | (with_reducible refine Kd.C_drewN ?_ _) | (with_reducible refine Kd.C_drew ?_))); (case side2 => exact (Kd.R_reads' HO_17.out).2.1); rintro e w' ⟨rfl, ⟨nd, rfl⟩⟩; refine ⟨_, rfl, ?_⟩))
                            go_ret
                            exact ⟨by first | rfl | (simp [errW_none, errW_some] <;> rfl) | (simp [*, errW_none, errW_some] <;> rfl), by repeat (first | (with_reducible first | exact HB.out | apply below_alloc | apply pw_below_drewN | apply below_drew1) | exact HB.out)⟩
                        · rw [if_neg c41] at H
                          exact absurd H (by simp)
                      · rw [if_neg c40] at H
                        exact absurd H (by simp)
                    · rw [if_neg c39] at H
                      have c39b0 : decide (x116_3 < (t498.length : Int)) = false := decide_eq_false c39
                      clear c39
                      obtain rfl := Option.some.inj H
                      go_wp2
                      go_ret
                      exact ⟨by first | rfl | (simp [errW_none, errW_some] <;> rfl) | (simp [*, errW_none, errW_some] <;> rfl), by repeat (first | (with_reducible first | exact HB.out | apply below_alloc | apply pw_below_drewN | apply below_drew1) | exact HB.out)⟩

/-- THE ONE PURE STATEMENT of downpourlaw06_RandomFew: yours. -/
def downpourlaw06_RandomFew.Pure : Prop := ∀ (a0 : Int) (a1 : Int) (a2 : Int), (Lit.int .u64 a0).wf = true → (Lit.int .i64 a1).wf = true → (Lit.int .i64 a2).wf = true → ∃ k, downpourlaw06_RandomFew.f k a0 a1 a2 = some true
theorem downpourlaw06_RandomFew.walk (P : downpourlaw06_RandomFew.Pure) (a0 : Int) (a1 : Int) (a2 : Int) (w : World) (w0 : (Lit.int .u64 a0).wf = true) (w1 : (Lit.int .i64 a1).wf = true) (w2 : (Lit.int .i64 a2).wf = true) :
    Calls Try.prog 5 #[.int .u64 a0, .int .i64 a1, .int .i64 a2] w fun e w' => e = .returned (.bool true) ∧ Below w.heap.size w w' := by
  obtain ⟨k, h⟩ := P a0 a1 a2 w0 w1 w2
  refine (downpourlaw06_RandomFew.calls k a0 a1 a2 true w h).mono ?_
  rintro e w' ⟨rfl, hd⟩
  exact ⟨rfl, hd⟩

end Go.Proofs.Ytaofanhdmfdlmaa.Print
