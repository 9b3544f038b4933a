import Derived.Test.YtaofanhdmfdlmaaOnce0
import Derived.Test.YtaofanhdmfdlmaaOnce3
import Derived.Test.YtaofanhdmfdlmaaOnce4
-- PRINTED by print.py (a twelfth state) out of the translation. Not trusted: Lean checks it.
namespace Go.Proofs.Ytaofanhdmfdlmaa.Print
open Go.RowKit Go.Proofs.YtaofanhdmfdlmaaW.PrintWords Go.Proofs.YtaofanhdmfdlmaaW.PrintLast Go.Proofs.YtaofanhdmfdlmaaW.PrintMore
attribute [local go_sem] max2_int min2_int max_two min_two max_three min_three max_four min_four   -- for this text's walks alone
set_option linter.unusedVariables false
set_option linter.unusedSimpArgs false

/-! ### downpourlaw06_RandomOnce: function 8 -/
mutual
def downpourlaw06_RandomOnce.j0 : Nat → Int → Int → Int → List Int → List Int → Bool → Option (Bool)
  | 0, _, _, _, _, _, _ => none
  | k + 1, x0, x1, x2, x8, x11, x80 => if x80 = true then (some false) else ((slices_Sorted_int.f x8).bind fun t693 => (downpourlaw06_RandomOnce.l0 k x0 x1 x2 x8 x11 t693 (t693.length : Int) 0))
def downpourlaw06_RandomOnce.l0 : Nat → Int → Int → Int → List Int → List Int → List Int → Int → Int → Option (Bool)
  | 0, _, _, _, _, _, _, _, _ => none
  | k + 1, x0, x1, x2, x8, x11, x84, x85, x86 => if x86 < x85 then (if 0 ≤ x86 then (if x86 < (x84.length : Int) then (if (rd x84 x86) = x86 then (downpourlaw06_RandomOnce.l0 k x0 x1 x2 x8 x11 x84 x85 (wrap64 (x86 + 1))) else (some false)) else (none)) else (none)) else (downpourlaw06_RandomOnce.l1 k x0 x1 x2 x8 x11 x11 (x11.length : Int) 0)
def downpourlaw06_RandomOnce.l1 : Nat → Int → Int → Int → List Int → List Int → List Int → Int → Int → Option (Bool)
  | 0, _, _, _, _, _, _, _, _ => none
  | k + 1, x0, x1, x2, x8, x11, x95, x96, x97 => if x97 < x96 then (if 0 ≤ x97 then (if x97 < (x95.length : Int) then (if (rd x95 x97) < 0 then (some false) else (if (rd x95 x97) ≥ x1 then (some false) else (if x97 > 0 then (if 0 ≤ (wrap64 (x97 - 1)) then (if (wrap64 (x97 - 1)) < (x11.length : Int) then (if (rd x11 (wrap64 (x97 - 1))) ≥ (rd x95 x97) then (some false) else (if 0 ≤ x2 then (if x2 ≤ (x8.length : Int) then ((slices_Contains_int_int.f k (x8.take (x2 : Int).toNat) (rd x95 x97)).bind fun t703 => (if t703 = true then (downpourlaw06_RandomOnce.l1 k x0 x1 x2 x8 x11 x95 x96 (wrap64 (x97 + 1))) else (some false))) else (none)) else (none))) else (none)) else (none)) else (if 0 ≤ x2 then (if x2 ≤ (x8.length : Int) then ((slices_Contains_int_int.f k (x8.take (x2 : Int).toNat) (rd x95 x97)).bind fun t708 => (if t708 = true then (downpourlaw06_RandomOnce.l1 k x0 x1 x2 x8 x11 x95 x96 (wrap64 (x97 + 1))) else (some false))) else (none)) else (none))))) else (none)) else (none)) else ((random_Below.f x0 x1).bind fun bt709 => ((random_Below.f x0 x1).bind fun bt712 => (if bt709.2.2 = 0 then (if bt712.2.2 = 0 then (if bt709.1 = bt712.1 then (if bt709.2.1 = bt712.2.1 then (if bt709.2.1 ≥ 0 then (some (decide (bt709.2.1 < x1))) else (some false)) else (some false)) else (some false)) else (some false)) else (some false))))
end
def downpourlaw06_RandomOnce.f (k : Nat) (a0 : Int) (a1 : Int) (a2 : Int) : Option (Bool) := if (wrap64 ((wrap64 ((Int.tmod (wrap64 ((Int.tmod a1 512) + 512)) 512) + 1)) + 1)) = 0 then (none) else ((random_Shuffle.f k a0 (wrap64 ((Int.tmod (wrap64 ((Int.tmod a1 512) + 512)) 512) + 1))).bind fun bt682 => ((random_Some.f k a0 (wrap64 ((Int.tmod (wrap64 ((Int.tmod a1 512) + 512)) 512) + 1)) (Int.tmod (wrap64 ((wrap64 ((Int.tmod a2 (wrap64 ((wrap64 ((Int.tmod (wrap64 ((Int.tmod a1 512) + 512)) 512) + 1)) + 1))) + (wrap64 ((Int.tmod (wrap64 ((Int.tmod a1 512) + 512)) 512) + 1)))) + 1)) (wrap64 ((wrap64 ((Int.tmod (wrap64 ((Int.tmod a1 512) + 512)) 512) + 1)) + 1)))).bind fun bt687 => (if bt682.2.2 = 0 then (if bt687.2.2 = 0 then (if bt682.1 = bt687.1 then (if (bt682.2.1.length : Int) = (wrap64 ((Int.tmod (wrap64 ((Int.tmod a1 512) + 512)) 512) + 1)) then (if (bt687.2.1.length : Int) = (Int.tmod (wrap64 ((wrap64 ((Int.tmod a2 (wrap64 ((wrap64 ((Int.tmod (wrap64 ((Int.tmod a1 512) + 512)) 512) + 1)) + 1))) + (wrap64 ((Int.tmod (wrap64 ((Int.tmod a1 512) + 512)) 512) + 1)))) + 1)) (wrap64 ((wrap64 ((Int.tmod (wrap64 ((Int.tmod a1 512) + 512)) 512) + 1)) + 1))) then ((downpourlaw06_alive.f k).bind fun t692 => (downpourlaw06_RandomOnce.j0 k a0 (wrap64 ((Int.tmod (wrap64 ((Int.tmod a1 512) + 512)) 512) + 1)) (Int.tmod (wrap64 ((wrap64 ((Int.tmod a2 (wrap64 ((wrap64 ((Int.tmod (wrap64 ((Int.tmod a1 512) + 512)) 512) + 1)) + 1))) + (wrap64 ((Int.tmod (wrap64 ((Int.tmod a1 512) + 512)) 512) + 1)))) + 1)) (wrap64 ((wrap64 ((Int.tmod (wrap64 ((Int.tmod a1 512) + 512)) 512) + 1)) + 1))) bt682.2.1 bt687.2.1 (!t692))) else (downpourlaw06_RandomOnce.j0 k a0 (wrap64 ((Int.tmod (wrap64 ((Int.tmod a1 512) + 512)) 512) + 1)) (Int.tmod (wrap64 ((wrap64 ((Int.tmod a2 (wrap64 ((wrap64 ((Int.tmod (wrap64 ((Int.tmod a1 512) + 512)) 512) + 1)) + 1))) + (wrap64 ((Int.tmod (wrap64 ((Int.tmod a1 512) + 512)) 512) + 1)))) + 1)) (wrap64 ((wrap64 ((Int.tmod (wrap64 ((Int.tmod a1 512) + 512)) 512) + 1)) + 1))) bt682.2.1 bt687.2.1 true)) else (downpourlaw06_RandomOnce.j0 k a0 (wrap64 ((Int.tmod (wrap64 ((Int.tmod a1 512) + 512)) 512) + 1)) (Int.tmod (wrap64 ((wrap64 ((Int.tmod a2 (wrap64 ((wrap64 ((Int.tmod (wrap64 ((Int.tmod a1 512) + 512)) 512) + 1)) + 1))) + (wrap64 ((Int.tmod (wrap64 ((Int.tmod a1 512) + 512)) 512) + 1)))) + 1)) (wrap64 ((wrap64 ((Int.tmod (wrap64 ((Int.tmod a1 512) + 512)) 512) + 1)) + 1))) bt682.2.1 bt687.2.1 true)) else (downpourlaw06_RandomOnce.j0 k a0 (wrap64 ((Int.tmod (wrap64 ((Int.tmod a1 512) + 512)) 512) + 1)) (Int.tmod (wrap64 ((wrap64 ((Int.tmod a2 (wrap64 ((wrap64 ((Int.tmod (wrap64 ((Int.tmod a1 512) + 512)) 512) + 1)) + 1))) + (wrap64 ((Int.tmod (wrap64 ((Int.tmod a1 512) + 512)) 512) + 1)))) + 1)) (wrap64 ((wrap64 ((Int.tmod (wrap64 ((Int.tmod a1 512) + 512)) 512) + 1)) + 1))) bt682.2.1 bt687.2.1 true)) else (downpourlaw06_RandomOnce.j0 k a0 (wrap64 ((Int.tmod (wrap64 ((Int.tmod a1 512) + 512)) 512) + 1)) (Int.tmod (wrap64 ((wrap64 ((Int.tmod a2 (wrap64 ((wrap64 ((Int.tmod (wrap64 ((Int.tmod a1 512) + 512)) 512) + 1)) + 1))) + (wrap64 ((Int.tmod (wrap64 ((Int.tmod a1 512) + 512)) 512) + 1)))) + 1)) (wrap64 ((wrap64 ((Int.tmod (wrap64 ((Int.tmod a1 512) + 512)) 512) + 1)) + 1))) bt682.2.1 bt687.2.1 true)) else (downpourlaw06_RandomOnce.j0 k a0 (wrap64 ((Int.tmod (wrap64 ((Int.tmod a1 512) + 512)) 512) + 1)) (Int.tmod (wrap64 ((wrap64 ((Int.tmod a2 (wrap64 ((wrap64 ((Int.tmod (wrap64 ((Int.tmod a1 512) + 512)) 512) + 1)) + 1))) + (wrap64 ((Int.tmod (wrap64 ((Int.tmod a1 512) + 512)) 512) + 1)))) + 1)) (wrap64 ((wrap64 ((Int.tmod (wrap64 ((Int.tmod a1 512) + 512)) 512) + 1)) + 1))) bt682.2.1 bt687.2.1 true))))
set_option maxHeartbeats 8000000 in
set_option maxRecDepth 100000 in
theorem downpourlaw06_RandomOnce.calls (k : Nat) (a0 : Int) (a1 : Int) (a2 : Int) (r : Bool) (w : World) (h : downpourlaw06_RandomOnce.f k a0 a1 a2 = some r) :
    Calls Try.prog 8 #[.int .u64 a0, .int .i64 a1, .int .i64 a2] w fun e w' => e = .returned (.bool r) ∧ Below w.heap.size w w' := by
  have HB := Aside0.mk (Below.refl w.heap.size w)
  have H : (if (wrap64 ((wrap64 ((Int.tmod (wrap64 ((Int.tmod a1 512) + 512)) 512) + 1)) + 1)) = 0 then (none) else ((random_Shuffle.f k a0 (wrap64 ((Int.tmod (wrap64 ((Int.tmod a1 512) + 512)) 512) + 1))).bind fun bt682 => ((random_Some.f k a0 (wrap64 ((Int.tmod (wrap64 ((Int.tmod a1 512) + 512)) 512) + 1)) (Int.tmod (wrap64 ((wrap64 ((Int.tmod a2 (wrap64 ((wrap64 ((Int.tmod (wrap64 ((Int.tmod a1 512) + 512)) 512) + 1)) + 1))) + (wrap64 ((Int.tmod (wrap64 ((Int.tmod a1 512) + 512)) 512) + 1)))) + 1)) (wrap64 ((wrap64 ((Int.tmod (wrap64 ((Int.tmod a1 512) + 512)) 512) + 1)) + 1)))).bind fun bt687 => (if bt682.2.2 = 0 then (if bt687.2.2 = 0 then (if bt682.1 = bt687.1 then (if (bt682.2.1.length : Int) = (wrap64 ((Int.tmod (wrap64 ((Int.tmod a1 512) + 512)) 512) + 1)) then (if (bt687.2.1.length : Int) = (Int.tmod (wrap64 ((wrap64 ((Int.tmod a2 (wrap64 ((wrap64 ((Int.tmod (wrap64 ((Int.tmod a1 512) + 512)) 512) + 1)) + 1))) + (wrap64 ((Int.tmod (wrap64 ((Int.tmod a1 512) + 512)) 512) + 1)))) + 1)) (wrap64 ((wrap64 ((Int.tmod (wrap64 ((Int.tmod a1 512) + 512)) 512) + 1)) + 1))) then ((downpourlaw06_alive.f k).bind fun t692 => (downpourlaw06_RandomOnce.j0 k a0 (wrap64 ((Int.tmod (wrap64 ((Int.tmod a1 512) + 512)) 512) + 1)) (Int.tmod (wrap64 ((wrap64 ((Int.tmod a2 (wrap64 ((wrap64 ((Int.tmod (wrap64 ((Int.tmod a1 512) + 512)) 512) + 1)) + 1))) + (wrap64 ((Int.tmod (wrap64 ((Int.tmod a1 512) + 512)) 512) + 1)))) + 1)) (wrap64 ((wrap64 ((Int.tmod (wrap64 ((Int.tmod a1 512) + 512)) 512) + 1)) + 1))) bt682.2.1 bt687.2.1 (!t692))) else (downpourlaw06_RandomOnce.j0 k a0 (wrap64 ((Int.tmod (wrap64 ((Int.tmod a1 512) + 512)) 512) + 1)) (Int.tmod (wrap64 ((wrap64 ((Int.tmod a2 (wrap64 ((wrap64 ((Int.tmod (wrap64 ((Int.tmod a1 512) + 512)) 512) + 1)) + 1))) + (wrap64 ((Int.tmod (wrap64 ((Int.tmod a1 512) + 512)) 512) + 1)))) + 1)) (wrap64 ((wrap64 ((Int.tmod (wrap64 ((Int.tmod a1 512) + 512)) 512) + 1)) + 1))) bt682.2.1 bt687.2.1 true)) else (downpourlaw06_RandomOnce.j0 k a0 (wrap64 ((Int.tmod (wrap64 ((Int.tmod a1 512) + 512)) 512) + 1)) (Int.tmod (wrap64 ((wrap64 ((Int.tmod a2 (wrap64 ((wrap64 ((Int.tmod (wrap64 ((Int.tmod a1 512) + 512)) 512) + 1)) + 1))) + (wrap64 ((Int.tmod (wrap64 ((Int.tmod a1 512) + 512)) 512) + 1)))) + 1)) (wrap64 ((wrap64 ((Int.tmod (wrap64 ((Int.tmod a1 512) + 512)) 512) + 1)) + 1))) bt682.2.1 bt687.2.1 true)) else (downpourlaw06_RandomOnce.j0 k a0 (wrap64 ((Int.tmod (wrap64 ((Int.tmod a1 512) + 512)) 512) + 1)) (Int.tmod (wrap64 ((wrap64 ((Int.tmod a2 (wrap64 ((wrap64 ((Int.tmod (wrap64 ((Int.tmod a1 512) + 512)) 512) + 1)) + 1))) + (wrap64 ((Int.tmod (wrap64 ((Int.tmod a1 512) + 512)) 512) + 1)))) + 1)) (wrap64 ((wrap64 ((Int.tmod (wrap64 ((Int.tmod a1 512) + 512)) 512) + 1)) + 1))) bt682.2.1 bt687.2.1 true)) else (downpourlaw06_RandomOnce.j0 k a0 (wrap64 ((Int.tmod (wrap64 ((Int.tmod a1 512) + 512)) 512) + 1)) (Int.tmod (wrap64 ((wrap64 ((Int.tmod a2 (wrap64 ((wrap64 ((Int.tmod (wrap64 ((Int.tmod a1 512) + 512)) 512) + 1)) + 1))) + (wrap64 ((Int.tmod (wrap64 ((Int.tmod a1 512) + 512)) 512) + 1)))) + 1)) (wrap64 ((wrap64 ((Int.tmod (wrap64 ((Int.tmod a1 512) + 512)) 512) + 1)) + 1))) bt682.2.1 bt687.2.1 true)) else (downpourlaw06_RandomOnce.j0 k a0 (wrap64 ((Int.tmod (wrap64 ((Int.tmod a1 512) + 512)) 512) + 1)) (Int.tmod (wrap64 ((wrap64 ((Int.tmod a2 (wrap64 ((wrap64 ((Int.tmod (wrap64 ((Int.tmod a1 512) + 512)) 512) + 1)) + 1))) + (wrap64 ((Int.tmod (wrap64 ((Int.tmod a1 512) + 512)) 512) + 1)))) + 1)) (wrap64 ((wrap64 ((Int.tmod (wrap64 ((Int.tmod a1 512) + 512)) 512) + 1)) + 1))) bt682.2.1 bt687.2.1 true))))) = some r := h
  clear h
  by_cases c4 : (wrap64 ((wrap64 ((Int.tmod (wrap64 ((Int.tmod a1 512) + 512)) 512) + 1)) + 1)) = 0
  · rw [if_pos c4] at H
    exact absurd H (by simp)
  · rw [if_neg c4] at H
    have c4b0 : ((wrap64 ((wrap64 ((Int.tmod (wrap64 ((Int.tmod a1 512) + 512)) 512) + 1)) + 1)) == 0) = false := beq_eq_false_iff_ne.mpr c4
    have c4b1 : ((wrap64 ((wrap64 ((Int.tmod (wrap64 ((Int.tmod a1 512) + 512)) 512) + 1)) + 1)) != 0) = true := bne_iff_ne.mpr c4
    replace H := Option.bind_eq_some_iff.mp H
    obtain ⟨⟨t682, t683, t684⟩, A50, H⟩ := H
    replace H : ((random_Some.f k a0 (wrap64 ((Int.tmod (wrap64 ((Int.tmod a1 512) + 512)) 512) + 1)) (Int.tmod (wrap64 ((wrap64 ((Int.tmod a2 (wrap64 ((wrap64 ((Int.tmod (wrap64 ((Int.tmod a1 512) + 512)) 512) + 1)) + 1))) + (wrap64 ((Int.tmod (wrap64 ((Int.tmod a1 512) + 512)) 512) + 1)))) + 1)) (wrap64 ((wrap64 ((Int.tmod (wrap64 ((Int.tmod a1 512) + 512)) 512) + 1)) + 1)))).bind fun bt687 => (if t684 = 0 then (if bt687.2.2 = 0 then (if t682 = bt687.1 then (if (t683.length : Int) = (wrap64 ((Int.tmod (wrap64 ((Int.tmod a1 512) + 512)) 512) + 1)) then (if (bt687.2.1.length : Int) = (Int.tmod (wrap64 ((wrap64 ((Int.tmod a2 (wrap64 ((wrap64 ((Int.tmod (wrap64 ((Int.tmod a1 512) + 512)) 512) + 1)) + 1))) + (wrap64 ((Int.tmod (wrap64 ((Int.tmod a1 512) + 512)) 512) + 1)))) + 1)) (wrap64 ((wrap64 ((Int.tmod (wrap64 ((Int.tmod a1 512) + 512)) 512) + 1)) + 1))) then ((downpourlaw06_alive.f k).bind fun t692 => (downpourlaw06_RandomOnce.j0 k a0 (wrap64 ((Int.tmod (wrap64 ((Int.tmod a1 512) + 512)) 512) + 1)) (Int.tmod (wrap64 ((wrap64 ((Int.tmod a2 (wrap64 ((wrap64 ((Int.tmod (wrap64 ((Int.tmod a1 512) + 512)) 512) + 1)) + 1))) + (wrap64 ((Int.tmod (wrap64 ((Int.tmod a1 512) + 512)) 512) + 1)))) + 1)) (wrap64 ((wrap64 ((Int.tmod (wrap64 ((Int.tmod a1 512) + 512)) 512) + 1)) + 1))) t683 bt687.2.1 (!t692))) else (downpourlaw06_RandomOnce.j0 k a0 (wrap64 ((Int.tmod (wrap64 ((Int.tmod a1 512) + 512)) 512) + 1)) (Int.tmod (wrap64 ((wrap64 ((Int.tmod a2 (wrap64 ((wrap64 ((Int.tmod (wrap64 ((Int.tmod a1 512) + 512)) 512) + 1)) + 1))) + (wrap64 ((Int.tmod (wrap64 ((Int.tmod a1 512) + 512)) 512) + 1)))) + 1)) (wrap64 ((wrap64 ((Int.tmod (wrap64 ((Int.tmod a1 512) + 512)) 512) + 1)) + 1))) t683 bt687.2.1 true)) else (downpourlaw06_RandomOnce.j0 k a0 (wrap64 ((Int.tmod (wrap64 ((Int.tmod a1 512) + 512)) 512) + 1)) (Int.tmod (wrap64 ((wrap64 ((Int.tmod a2 (wrap64 ((wrap64 ((Int.tmod (wrap64 ((Int.tmod a1 512) + 512)) 512) + 1)) + 1))) + (wrap64 ((Int.tmod (wrap64 ((Int.tmod a1 512) + 512)) 512) + 1)))) + 1)) (wrap64 ((wrap64 ((Int.tmod (wrap64 ((Int.tmod a1 512) + 512)) 512) + 1)) + 1))) t683 bt687.2.1 true)) else (downpourlaw06_RandomOnce.j0 k a0 (wrap64 ((Int.tmod (wrap64 ((Int.tmod a1 512) + 512)) 512) + 1)) (Int.tmod (wrap64 ((wrap64 ((Int.tmod a2 (wrap64 ((wrap64 ((Int.tmod (wrap64 ((Int.tmod a1 512) + 512)) 512) + 1)) + 1))) + (wrap64 ((Int.tmod (wrap64 ((Int.tmod a1 512) + 512)) 512) + 1)))) + 1)) (wrap64 ((wrap64 ((Int.tmod (wrap64 ((Int.tmod a1 512) + 512)) 512) + 1)) + 1))) t683 bt687.2.1 true)) else (downpourlaw06_RandomOnce.j0 k a0 (wrap64 ((Int.tmod (wrap64 ((Int.tmod a1 512) + 512)) 512) + 1)) (Int.tmod (wrap64 ((wrap64 ((Int.tmod a2 (wrap64 ((wrap64 ((Int.tmod (wrap64 ((Int.tmod a1 512) + 512)) 512) + 1)) + 1))) + (wrap64 ((Int.tmod (wrap64 ((Int.tmod a1 512) + 512)) 512) + 1)))) + 1)) (wrap64 ((wrap64 ((Int.tmod (wrap64 ((Int.tmod a1 512) + 512)) 512) + 1)) + 1))) t683 bt687.2.1 true)) else (downpourlaw06_RandomOnce.j0 k a0 (wrap64 ((Int.tmod (wrap64 ((Int.tmod a1 512) + 512)) 512) + 1)) (Int.tmod (wrap64 ((wrap64 ((Int.tmod a2 (wrap64 ((wrap64 ((Int.tmod (wrap64 ((Int.tmod a1 512) + 512)) 512) + 1)) + 1))) + (wrap64 ((Int.tmod (wrap64 ((Int.tmod a1 512) + 512)) 512) + 1)))) + 1)) (wrap64 ((wrap64 ((Int.tmod (wrap64 ((Int.tmod a1 512) + 512)) 512) + 1)) + 1))) t683 bt687.2.1 true))) = some r := H
    have A5 := Aside0.mk A50
    clear A50
    replace H := Option.bind_eq_some_iff.mp H
    obtain ⟨⟨t687, t688, t689⟩, A60, H⟩ := H
    replace H : (if t684 = 0 then (if t689 = 0 then (if t682 = t687 then (if (t683.length : Int) = (wrap64 ((Int.tmod (wrap64 ((Int.tmod a1 512) + 512)) 512) + 1)) then (if (t688.length : Int) = (Int.tmod (wrap64 ((wrap64 ((Int.tmod a2 (wrap64 ((wrap64 ((Int.tmod (wrap64 ((Int.tmod a1 512) + 512)) 512) + 1)) + 1))) + (wrap64 ((Int.tmod (wrap64 ((Int.tmod a1 512) + 512)) 512) + 1)))) + 1)) (wrap64 ((wrap64 ((Int.tmod (wrap64 ((Int.tmod a1 512) + 512)) 512) + 1)) + 1))) then ((downpourlaw06_alive.f k).bind fun t692 => (downpourlaw06_RandomOnce.j0 k a0 (wrap64 ((Int.tmod (wrap64 ((Int.tmod a1 512) + 512)) 512) + 1)) (Int.tmod (wrap64 ((wrap64 ((Int.tmod a2 (wrap64 ((wrap64 ((Int.tmod (wrap64 ((Int.tmod a1 512) + 512)) 512) + 1)) + 1))) + (wrap64 ((Int.tmod (wrap64 ((Int.tmod a1 512) + 512)) 512) + 1)))) + 1)) (wrap64 ((wrap64 ((Int.tmod (wrap64 ((Int.tmod a1 512) + 512)) 512) + 1)) + 1))) t683 t688 (!t692))) else (downpourlaw06_RandomOnce.j0 k a0 (wrap64 ((Int.tmod (wrap64 ((Int.tmod a1 512) + 512)) 512) + 1)) (Int.tmod (wrap64 ((wrap64 ((Int.tmod a2 (wrap64 ((wrap64 ((Int.tmod (wrap64 ((Int.tmod a1 512) + 512)) 512) + 1)) + 1))) + (wrap64 ((Int.tmod (wrap64 ((Int.tmod a1 512) + 512)) 512) + 1)))) + 1)) (wrap64 ((wrap64 ((Int.tmod (wrap64 ((Int.tmod a1 512) + 512)) 512) + 1)) + 1))) t683 t688 true)) else (downpourlaw06_RandomOnce.j0 k a0 (wrap64 ((Int.tmod (wrap64 ((Int.tmod a1 512) + 512)) 512) + 1)) (Int.tmod (wrap64 ((wrap64 ((Int.tmod a2 (wrap64 ((wrap64 ((Int.tmod (wrap64 ((Int.tmod a1 512) + 512)) 512) + 1)) + 1))) + (wrap64 ((Int.tmod (wrap64 ((Int.tmod a1 512) + 512)) 512) + 1)))) + 1)) (wrap64 ((wrap64 ((Int.tmod (wrap64 ((Int.tmod a1 512) + 512)) 512) + 1)) + 1))) t683 t688 true)) else (downpourlaw06_RandomOnce.j0 k a0 (wrap64 ((Int.tmod (wrap64 ((Int.tmod a1 512) + 512)) 512) + 1)) (Int.tmod (wrap64 ((wrap64 ((Int.tmod a2 (wrap64 ((wrap64 ((Int.tmod (wrap64 ((Int.tmod a1 512) + 512)) 512) + 1)) + 1))) + (wrap64 ((Int.tmod (wrap64 ((Int.tmod a1 512) + 512)) 512) + 1)))) + 1)) (wrap64 ((wrap64 ((Int.tmod (wrap64 ((Int.tmod a1 512) + 512)) 512) + 1)) + 1))) t683 t688 true)) else (downpourlaw06_RandomOnce.j0 k a0 (wrap64 ((Int.tmod (wrap64 ((Int.tmod a1 512) + 512)) 512) + 1)) (Int.tmod (wrap64 ((wrap64 ((Int.tmod a2 (wrap64 ((wrap64 ((Int.tmod (wrap64 ((Int.tmod a1 512) + 512)) 512) + 1)) + 1))) + (wrap64 ((Int.tmod (wrap64 ((Int.tmod a1 512) + 512)) 512) + 1)))) + 1)) (wrap64 ((wrap64 ((Int.tmod (wrap64 ((Int.tmod a1 512) + 512)) 512) + 1)) + 1))) t683 t688 true)) else (downpourlaw06_RandomOnce.j0 k a0 (wrap64 ((Int.tmod (wrap64 ((Int.tmod a1 512) + 512)) 512) + 1)) (Int.tmod (wrap64 ((wrap64 ((Int.tmod a2 (wrap64 ((wrap64 ((Int.tmod (wrap64 ((Int.tmod a1 512) + 512)) 512) + 1)) + 1))) + (wrap64 ((Int.tmod (wrap64 ((Int.tmod a1 512) + 512)) 512) + 1)))) + 1)) (wrap64 ((wrap64 ((Int.tmod (wrap64 ((Int.tmod a1 512) + 512)) 512) + 1)) + 1))) t683 t688 true)) = some r := H
    have A6 := Aside0.mk A60
    clear A60
    have HC7 := Aside0.mk H
    clear H
    go_enter Try.func8, Try.ntmps8
    go_upto_region 5 with (first | ((with_reducible refine gate_callee (f := 23) rfl ?_); refine goesL_ (some 42) rfl rfl Try.func23 (by kernel_rfl) rfl #[.int .u64 a0, .int .i64 (wrap64 ((Int.tmod (wrap64 ((Int.tmod a1 512) + 512)) 512) + 1))] rfl (by (try simp only [List.map_toArray, List.map_cons, List.map_nil]); first | done | rfl | (simp only [List.length_drop, List.length_take]; rfl)) ?_; (with_reducible refine (random_Shuffle.calls k a0 (wrap64 ((Int.tmod (wrap64 ((Int.tmod a1 512) + 512)) 512) + 1)) t682 t683 t684 _ A5.out).mono ?_); rintro e w8 ⟨v685, rfl, ho0, hb⟩; refine ⟨_, rfl, ?_⟩; have n0_ := Aside0.mk (Kd.R_lower ho0 (below_size (by repeat (first | (with_reducible first | exact HB.out | apply below_alloc | apply pw_below_drewN | apply below_drew1) | exact HB.out)))); have n1_ := Aside0.mk (below_step (by repeat (first | (with_reducible first | exact HB.out | apply below_alloc | apply pw_below_drewN | apply below_drew1) | exact HB.out)) hb); clear HB; have HO686 := n0_; have HB := n1_; clear n0_ n1_; (try clear hb); (try clear hb2); (try clear hk); (try clear hi); (try clear ho0)) | ((with_reducible refine gate_callee (f := 24) rfl ?_); refine goesL_ (some 50) rfl rfl Try.func24 (by kernel_rfl) rfl #[.int .u64 a0, .int .i64 (wrap64 ((Int.tmod (wrap64 ((Int.tmod a1 512) + 512)) 512) + 1)), .int .i64 (Int.tmod (wrap64 ((wrap64 ((Int.tmod a2 (wrap64 ((wrap64 ((Int.tmod (wrap64 ((Int.tmod a1 512) + 512)) 512) + 1)) + 1))) + (wrap64 ((Int.tmod (wrap64 ((Int.tmod a1 512) + 512)) 512) + 1)))) + 1)) (wrap64 ((wrap64 ((Int.tmod (wrap64 ((Int.tmod a1 512) + 512)) 512) + 1)) + 1)))] rfl (by (try simp only [List.map_toArray, List.map_cons, List.map_nil]); first | done | rfl | (simp only [List.length_drop, List.length_take]; rfl)) ?_; (with_reducible refine (random_Some.calls k a0 (wrap64 ((Int.tmod (wrap64 ((Int.tmod a1 512) + 512)) 512) + 1)) (Int.tmod (wrap64 ((wrap64 ((Int.tmod a2 (wrap64 ((wrap64 ((Int.tmod (wrap64 ((Int.tmod a1 512) + 512)) 512) + 1)) + 1))) + (wrap64 ((Int.tmod (wrap64 ((Int.tmod a1 512) + 512)) 512) + 1)))) + 1)) (wrap64 ((wrap64 ((Int.tmod (wrap64 ((Int.tmod a1 512) + 512)) 512) + 1)) + 1))) t687 t688 t689 _ A6.out).mono ?_); rintro e w9 ⟨v690, rfl, ho0, hb⟩; refine ⟨_, rfl, ?_⟩; have n0_ := Aside0.mk (Kd.R_elder' (by (with_reducible repeat (first | apply Kd.R_alloc | apply Kd.R_drewN | apply Kd.R_drew)); exact HO686.out) (Kd.R_base ho0) hb); have n1_ := Aside0.mk (Kd.R_lower (Kd.R_new' ho0 (Kd.R_lt (by (with_reducible repeat (first | apply Kd.R_alloc | apply Kd.R_drewN | apply Kd.R_drew)); exact HO686.out))) (below_size (by repeat (first | (with_reducible first | exact HB.out | apply below_alloc | apply pw_below_drewN | apply below_drew1) | exact HB.out)))); have n2_ := Aside0.mk (below_step (by repeat (first | (with_reducible first | exact HB.out | apply below_alloc | apply pw_below_drewN | apply below_drew1) | exact HB.out)) hb); clear HO686; clear HB; have HO686 := n0_; have HO691 := n1_; have HB := n2_; clear n0_ n1_ n2_; (try clear hb); (try clear hb2); (try clear hk); (try clear hi); (try clear ho0)))
    (try simp only [Act.put, List.setIfInBounds_toArray, List.set_cons_zero, List.set_cons_succ])
    go_cut [80] (fun v80 wc => ∃ (kq : Nat) (x80_6 : Bool), v80 = .bool x80_6 ∧ Aside0 (downpourlaw06_RandomOnce.j0 kq a0 (wrap64 ((Int.tmod (wrap64 ((Int.tmod a1 512) + 512)) 512) + 1)) (Int.tmod (wrap64 ((wrap64 ((Int.tmod a2 (wrap64 ((wrap64 ((Int.tmod (wrap64 ((Int.tmod a1 512) + 512)) 512) + 1)) + 1))) + (wrap64 ((Int.tmod (wrap64 ((Int.tmod a1 512) + 512)) 512) + 1)))) + 1)) (wrap64 ((wrap64 ((Int.tmod (wrap64 ((Int.tmod a1 512) + 512)) 512) + 1)) + 1))) t683 t688 x80_6 = some r) ∧ Aside0 (kq ≤ k) ∧ Aside0 (Kd.R (Kd.int .i64) 3 wc w.heap.size (fun k_ => some k_ ≠ (v690 : Value).ownBlock) v685 t683) ∧ Aside0 (Kd.R (Kd.int .i64) 3 wc w.heap.size (fun k_ => some k_ ≠ (v685 : Value).ownBlock) v690 t688) ∧ Aside0 (Below w.heap.size w wc))
    case first =>
      have H := HC7.out
      clear HC7
      by_cases c10 : t684 = 0
      · rw [if_pos c10] at H
        have c10b0 : (t684 == 0) = true := beq_iff_eq.mpr c10
        have c10b1 : (t684 != 0) = false := bne_eq_false_iff_eq.mpr c10
        clear c10
        (first | rw [c10b0] | (simp only [i64_w, i32_w]; rw [c10b0]) | skip)
        by_cases c11 : t689 = 0
        · rw [if_pos c11] at H
          have c11b0 : (t689 == 0) = true := beq_iff_eq.mpr c11
          have c11b1 : (t689 != 0) = false := bne_eq_false_iff_eq.mpr c11
          clear c11
          by_cases c12 : t682 = t687
          · rw [if_pos c12] at H
            have c12b0 : (t682 == t687) = true := beq_iff_eq.mpr c12
            have c12b1 : (t682 != t687) = false := bne_eq_false_iff_eq.mpr c12
            clear c12
            by_cases c13 : (t683.length : Int) = (wrap64 ((Int.tmod (wrap64 ((Int.tmod a1 512) + 512)) 512) + 1))
            · rw [if_pos c13] at H
              have c13b0 : ((t683.length : Int) == (wrap64 ((Int.tmod (wrap64 ((Int.tmod a1 512) + 512)) 512) + 1))) = true := beq_iff_eq.mpr c13
              have c13b1 : ((t683.length : Int) != (wrap64 ((Int.tmod (wrap64 ((Int.tmod a1 512) + 512)) 512) + 1))) = false := bne_eq_false_iff_eq.mpr c13
              clear c13
              by_cases c14 : (t688.length : Int) = (Int.tmod (wrap64 ((wrap64 ((Int.tmod a2 (wrap64 ((wrap64 ((Int.tmod (wrap64 ((Int.tmod a1 512) + 512)) 512) + 1)) + 1))) + (wrap64 ((Int.tmod (wrap64 ((Int.tmod a1 512) + 512)) 512) + 1)))) + 1)) (wrap64 ((wrap64 ((Int.tmod (wrap64 ((Int.tmod a1 512) + 512)) 512) + 1)) + 1)))
              · rw [if_pos c14] at H
                have c14b0 : ((t688.length : Int) == (Int.tmod (wrap64 ((wrap64 ((Int.tmod a2 (wrap64 ((wrap64 ((Int.tmod (wrap64 ((Int.tmod a1 512) + 512)) 512) + 1)) + 1))) + (wrap64 ((Int.tmod (wrap64 ((Int.tmod a1 512) + 512)) 512) + 1)))) + 1)) (wrap64 ((wrap64 ((Int.tmod (wrap64 ((Int.tmod a1 512) + 512)) 512) + 1)) + 1)))) = true := beq_iff_eq.mpr c14
                have c14b1 : ((t688.length : Int) != (Int.tmod (wrap64 ((wrap64 ((Int.tmod a2 (wrap64 ((wrap64 ((Int.tmod (wrap64 ((Int.tmod a1 512) + 512)) 512) + 1)) + 1))) + (wrap64 ((Int.tmod (wrap64 ((Int.tmod a1 512) + 512)) 512) + 1)))) + 1)) (wrap64 ((wrap64 ((Int.tmod (wrap64 ((Int.tmod a1 512) + 512)) 512) + 1)) + 1)))) = false := bne_eq_false_iff_eq.mpr c14
                clear c14
                replace H := Option.bind_eq_some_iff.mp H
                obtain ⟨t692, A150, H⟩ := H
                replace H : (downpourlaw06_RandomOnce.j0 k a0 (wrap64 ((Int.tmod (wrap64 ((Int.tmod a1 512) + 512)) 512) + 1)) (Int.tmod (wrap64 ((wrap64 ((Int.tmod a2 (wrap64 ((wrap64 ((Int.tmod (wrap64 ((Int.tmod a1 512) + 512)) 512) + 1)) + 1))) + (wrap64 ((Int.tmod (wrap64 ((Int.tmod a1 512) + 512)) 512) + 1)))) + 1)) (wrap64 ((wrap64 ((Int.tmod (wrap64 ((Int.tmod a1 512) + 512)) 512) + 1)) + 1))) t683 t688 (!t692)) = some r := H
                have A15 := Aside0.mk A150
                clear A150
                have H' := Aside0.mk H
                clear H
                obtain ⟨Ao16, co16, eo16⟩ := Kd.R_slice HO686.out
                subst eo16
                obtain ⟨Ao17, co17, eo17⟩ := Kd.R_slice HO691.out
                subst eo17
                go_wp2_with (first | (go_at_call 25; (with_reducible refine (downpourlaw06_alive.calls k  t692 _ A15.out).mono ?_); rintro e w18 ⟨rfl, hb⟩; have n0_ := Aside0.mk (Kd.R_below (by (with_reducible repeat (first | apply Kd.R_alloc | apply Kd.R_drewN | apply Kd.R_drew)); exact HO686.out) hb); have n1_ := Aside0.mk (Kd.R_below (by (with_reducible repeat (first | apply Kd.R_alloc | apply Kd.R_drewN | apply Kd.R_drew)); exact HO691.out) hb); have n2_ := Aside0.mk (below_step (by repeat (first | (with_reducible first | exact HB.out | apply below_alloc | apply pw_below_drewN | apply below_drew1) | exact HB.out)) hb); clear HO686; clear HO691; clear HB; have HO686 := n0_; have HO691 := n1_; have HB := n2_; clear n0_ n1_ n2_; (try clear hb); (try clear hb2); (try clear hk); (try clear hi)))
                go_meet
                case rel => exact ⟨_, (!t692), (by first | rfl | (simp; done) | (simp [*]; done)), H', ⟨by first | omega | exact Nat.le_refl _⟩, ⟨by (with_reducible repeat (first | apply Kd.R_alloc | apply Kd.R_drewN | apply Kd.R_drew)); exact Kd.R_mono HO686.out (fun _ hk => hk.2)⟩, ⟨by (with_reducible repeat (first | apply Kd.R_alloc | apply Kd.R_drewN | apply Kd.R_drew)); exact Kd.R_mono HO691.out (fun _ hk => hk.2)⟩, ⟨by repeat (first | (with_reducible first | exact HB.out | apply below_alloc | apply pw_below_drewN | apply below_drew1) | exact HB.out)⟩⟩
              · rw [if_neg c14] at H
                have c14b0 : ((t688.length : Int) == (Int.tmod (wrap64 ((wrap64 ((Int.tmod a2 (wrap64 ((wrap64 ((Int.tmod (wrap64 ((Int.tmod a1 512) + 512)) 512) + 1)) + 1))) + (wrap64 ((Int.tmod (wrap64 ((Int.tmod a1 512) + 512)) 512) + 1)))) + 1)) (wrap64 ((wrap64 ((Int.tmod (wrap64 ((Int.tmod a1 512) + 512)) 512) + 1)) + 1)))) = false := beq_eq_false_iff_ne.mpr c14
                have c14b1 : ((t688.length : Int) != (Int.tmod (wrap64 ((wrap64 ((Int.tmod a2 (wrap64 ((wrap64 ((Int.tmod (wrap64 ((Int.tmod a1 512) + 512)) 512) + 1)) + 1))) + (wrap64 ((Int.tmod (wrap64 ((Int.tmod a1 512) + 512)) 512) + 1)))) + 1)) (wrap64 ((wrap64 ((Int.tmod (wrap64 ((Int.tmod a1 512) + 512)) 512) + 1)) + 1)))) = true := bne_iff_ne.mpr c14
                have H' := Aside0.mk H
                clear H
                obtain ⟨Ao19, co19, eo19⟩ := Kd.R_slice HO686.out
                subst eo19
                obtain ⟨Ao20, co20, eo20⟩ := Kd.R_slice HO691.out
                subst eo20
                go_wp2
                go_meet
                case rel => exact ⟨_, (true), (by first | rfl | (simp; done) | (simp [*]; done)), H', ⟨by first | omega | exact Nat.le_refl _⟩, ⟨by (with_reducible repeat (first | apply Kd.R_alloc | apply Kd.R_drewN | apply Kd.R_drew)); exact Kd.R_mono HO686.out (fun _ hk => hk.2)⟩, ⟨by (with_reducible repeat (first | apply Kd.R_alloc | apply Kd.R_drewN | apply Kd.R_drew)); exact Kd.R_mono HO691.out (fun _ hk => hk.2)⟩, ⟨by repeat (first | (with_reducible first | exact HB.out | apply below_alloc | apply pw_below_drewN | apply below_drew1) | exact HB.out)⟩⟩
            · rw [if_neg c13] at H
              have c13b0 : ((t683.length : Int) == (wrap64 ((Int.tmod (wrap64 ((Int.tmod a1 512) + 512)) 512) + 1))) = false := beq_eq_false_iff_ne.mpr c13
              have c13b1 : ((t683.length : Int) != (wrap64 ((Int.tmod (wrap64 ((Int.tmod a1 512) + 512)) 512) + 1))) = true := bne_iff_ne.mpr c13
              have H' := Aside0.mk H
              clear H
              obtain ⟨Ao21, co21, eo21⟩ := Kd.R_slice HO686.out
              subst eo21
              go_wp2
              go_meet
              case rel => exact ⟨_, (true), (by first | rfl | (simp; done) | (simp [*]; done)), H', ⟨by first | omega | exact Nat.le_refl _⟩, ⟨by (with_reducible repeat (first | apply Kd.R_alloc | apply Kd.R_drewN | apply Kd.R_drew)); exact Kd.R_mono HO686.out (fun _ hk => hk.2)⟩, ⟨by (with_reducible repeat (first | apply Kd.R_alloc | apply Kd.R_drewN | apply Kd.R_drew)); exact Kd.R_mono HO691.out (fun _ hk => hk.2)⟩, ⟨by repeat (first | (with_reducible first | exact HB.out | apply below_alloc | apply pw_below_drewN | apply below_drew1) | exact HB.out)⟩⟩
          · rw [if_neg c12] at H
            have c12b0 : (t682 == t687) = false := beq_eq_false_iff_ne.mpr c12
            have c12b1 : (t682 != t687) = true := bne_iff_ne.mpr c12
            have H' := Aside0.mk H
            clear H
            go_wp2
            go_meet
            case rel => exact ⟨_, (true), (by first | rfl | (simp; done) | (simp [*]; done)), H', ⟨by first | omega | exact Nat.le_refl _⟩, ⟨by (with_reducible repeat (first | apply Kd.R_alloc | apply Kd.R_drewN | apply Kd.R_drew)); exact Kd.R_mono HO686.out (fun _ hk => hk.2)⟩, ⟨by (with_reducible repeat (first | apply Kd.R_alloc | apply Kd.R_drewN | apply Kd.R_drew)); exact Kd.R_mono HO691.out (fun _ hk => hk.2)⟩, ⟨by repeat (first | (with_reducible first | exact HB.out | apply below_alloc | apply pw_below_drewN | apply below_drew1) | exact HB.out)⟩⟩
        · rw [if_neg c11] at H
          have c11b0 : (t689 == 0) = false := beq_eq_false_iff_ne.mpr c11
          have c11b1 : (t689 != 0) = true := bne_iff_ne.mpr c11
          have H' := Aside0.mk H
          clear H
          go_wp2
          go_meet
          case rel => exact ⟨_, (true), (by first | rfl | (simp; done) | (simp [*]; done)), H', ⟨by first | omega | exact Nat.le_refl _⟩, ⟨by (with_reducible repeat (first | apply Kd.R_alloc | apply Kd.R_drewN | apply Kd.R_drew)); exact Kd.R_mono HO686.out (fun _ hk => hk.2)⟩, ⟨by (with_reducible repeat (first | apply Kd.R_alloc | apply Kd.R_drewN | apply Kd.R_drew)); exact Kd.R_mono HO691.out (fun _ hk => hk.2)⟩, ⟨by repeat (first | (with_reducible first | exact HB.out | apply below_alloc | apply pw_below_drewN | apply below_drew1) | exact HB.out)⟩⟩
      · rw [if_neg c10] at H
        have c10b0 : (t684 == 0) = false := beq_eq_false_iff_ne.mpr c10
        have c10b1 : (t684 != 0) = true := bne_iff_ne.mpr c10
        (first | rw [c10b0] | (simp only [i64_w, i32_w]; rw [c10b0]) | skip)
        have H' := Aside0.mk H
        clear H
        go_wp2
        go_meet
        case rel => exact ⟨_, (true), (by first | rfl | (simp; done) | (simp [*]; done)), H', ⟨by first | omega | exact Nat.le_refl _⟩, ⟨by (with_reducible repeat (first | apply Kd.R_alloc | apply Kd.R_drewN | apply Kd.R_drew)); exact Kd.R_mono HO686.out (fun _ hk => hk.2)⟩, ⟨by (with_reducible repeat (first | apply Kd.R_alloc | apply Kd.R_drewN | apply Kd.R_drew)); exact Kd.R_mono HO691.out (fun _ hk => hk.2)⟩, ⟨by repeat (first | (with_reducible first | exact HB.out | apply below_alloc | apply pw_below_drewN | apply below_drew1) | exact HB.out)⟩⟩
    case rest =>
      clear HC7
      try clear c1
      try clear c2
      try clear p2
      try clear c4
      try clear c4b0
      try clear c4b1
      try clear p6
      try clear c8
      try clear c10
      try clear c10b0
      try clear c10b1
      try clear c11
      try clear c11b0
      try clear c11b1
      try clear c12
      try clear c12b0
      try clear c12b1
      try clear c13
      try clear c13b0
      try clear c13b1
      try clear c14
      try clear c14b0
      try clear c14b1
      obtain ⟨kq, x80_6, rfl, HA, HJ6, HO_8, HO_11, HB⟩ := hcut
      cases kq with
      | zero => exact absurd HA.out (by simp [downpourlaw06_RandomOnce.j0])
      | succ kj6 =>
        have H := HA.out
        clear HA
        simp only [downpourlaw06_RandomOnce.j0] at H
        by_cases c22 : x80_6 = true
        · subst c22
          have H1 : (some false) = some r := by rw [if_pos rfl] at H; exact H
          clear H
          have H := H1
          clear H1
          obtain rfl := Option.some.inj H
          go_wp2
          go_ret
          exact ⟨by first | rfl | (simp [errW_none, errW_some] <;> rfl) | (simp [*, errW_none, errW_some] <;> rfl), by repeat (first | (with_reducible first | exact HB.out | apply below_alloc | apply pw_below_drewN | apply below_drew1) | exact HB.out)⟩
        · replace c22 := Bool.eq_false_iff.mpr c22
          subst c22
          have H1 : ((slices_Sorted_int.f t683).bind fun t693 => (downpourlaw06_RandomOnce.l0 kj6 a0 (wrap64 ((Int.tmod (wrap64 ((Int.tmod a1 512) + 512)) 512) + 1)) (Int.tmod (wrap64 ((wrap64 ((Int.tmod a2 (wrap64 ((wrap64 ((Int.tmod (wrap64 ((Int.tmod a1 512) + 512)) 512) + 1)) + 1))) + (wrap64 ((Int.tmod (wrap64 ((Int.tmod a1 512) + 512)) 512) + 1)))) + 1)) (wrap64 ((wrap64 ((Int.tmod (wrap64 ((Int.tmod a1 512) + 512)) 512) + 1)) + 1))) t683 t688 t693 (t693.length : Int) 0)) = some r := by rw [if_neg (show ¬ (false = true) by decide)] at H; exact H
          clear H
          have H := H1
          clear H1
          replace H := Option.bind_eq_some_iff.mp H
          obtain ⟨t693, A230, H⟩ := H
          replace H : (downpourlaw06_RandomOnce.l0 kj6 a0 (wrap64 ((Int.tmod (wrap64 ((Int.tmod a1 512) + 512)) 512) + 1)) (Int.tmod (wrap64 ((wrap64 ((Int.tmod a2 (wrap64 ((wrap64 ((Int.tmod (wrap64 ((Int.tmod a1 512) + 512)) 512) + 1)) + 1))) + (wrap64 ((Int.tmod (wrap64 ((Int.tmod a1 512) + 512)) 512) + 1)))) + 1)) (wrap64 ((wrap64 ((Int.tmod (wrap64 ((Int.tmod a1 512) + 512)) 512) + 1)) + 1))) t683 t688 t693 (t693.length : Int) 0) = some r := H
          have A23 := Aside0.mk A230
          clear A230
          have H' := Aside0.mk H
          clear H
          obtain ⟨Ao24, co24, eo24⟩ := Kd.R_slice HO_8.out
          subst eo24
          go_wp2_with fail
          refine (values_calls _ _ _ _).mono ?_; rintro e w' ⟨rfl, rfl⟩
          go_wp2_with fail
          refine (slices_Sorted_int.calls _ _ t683 t693 _ ?side1 ?side2 A23.out).mono ?_
          (case side1 => repeat (first | exact (Kd.R_reads' HO_8.out).2.2 | (with_reducible refine Kd.C_alloc ?_ _) | (with_reducible refine Kd.C_drewN ?_ _) | (with_reducible refine Kd.C_drew ?_))); (case side2 => exact (Kd.R_reads' HO_8.out).2.1); rintro e w25 ⟨v694, rfl, ho0, hb⟩; have n0_ := Aside0.mk (Kd.R_elder' (by (with_reducible repeat (first | apply Kd.R_alloc | apply Kd.R_drewN | apply Kd.R_drew)); exact HO_8.out) (Kd.R_base ho0) hb); have n1_ := Aside0.mk (Kd.R_elder' (by (with_reducible repeat (first | apply Kd.R_alloc | apply Kd.R_drewN | apply Kd.R_drew)); exact HO_11.out) (Kd.R_base ho0) hb); have n2_ := Aside0.mk (Kd.R_lower (Kd.R_new' (Kd.R_new' ho0 (Kd.R_lt (by (with_reducible repeat (first | apply Kd.R_alloc | apply Kd.R_drewN | apply Kd.R_drew)); exact HO_8.out))) (Kd.R_lt (by (with_reducible repeat (first | apply Kd.R_alloc | apply Kd.R_drewN | apply Kd.R_drew)); exact HO_11.out))) (below_size (by repeat (first | (with_reducible first | exact HB.out | apply below_alloc | apply pw_below_drewN | apply below_drew1) | exact HB.out)))); have n3_ := Aside0.mk (below_step (by repeat (first | (with_reducible first | exact HB.out | apply below_alloc | apply pw_below_drewN | apply below_drew1) | exact HB.out)) hb); clear HO_8; clear HO_11; clear HB; have HO_8 := n0_; have HO_11 := n1_; have HO695 := n2_; have HB := n3_; clear n0_ n1_ n2_ n3_; (try clear hb); (try clear hb2); (try clear hk); (try clear hi); (try clear ho0); obtain ⟨Ao26, co26, eo26⟩ := Kd.R_slice HO695.out; subst eo26
          go_wp2
          go_loopg [86] kj6 (fun kq v86 w' => ∃ (x86_2 : Int), v86 = .int .i64 x86_2 ∧ Aside0 (downpourlaw06_RandomOnce.l0 kq a0 (wrap64 ((Int.tmod (wrap64 ((Int.tmod a1 512) + 512)) 512) + 1)) (Int.tmod (wrap64 ((wrap64 ((Int.tmod a2 (wrap64 ((wrap64 ((Int.tmod (wrap64 ((Int.tmod a1 512) + 512)) 512) + 1)) + 1))) + (wrap64 ((Int.tmod (wrap64 ((Int.tmod a1 512) + 512)) 512) + 1)))) + 1)) (wrap64 ((wrap64 ((Int.tmod (wrap64 ((Int.tmod a1 512) + 512)) 512) + 1)) + 1))) t683 t688 t693 (t693.length : Int) x86_2 = some r) ∧ Aside0 (kq ≤ kj6) ∧ Aside0 (Kd.R (Kd.int .i64) 3 w' w.heap.size (fun k_ => some k_ ≠ (v690 : Value).ownBlock ∧ some k_ ≠ ((.slice Ao26 t693.length co26) : Value).ownBlock) (.slice Ao24 t683.length co24) t683) ∧ Aside0 (Kd.R (Kd.int .i64) 3 w' w.heap.size (fun k_ => some k_ ≠ ((.slice Ao24 t683.length co24) : Value).ownBlock ∧ some k_ ≠ ((.slice Ao26 t693.length co26) : Value).ownBlock) v690 t688) ∧ Aside0 (Kd.R (Kd.int .i64) 3 w' w.heap.size (fun k_ => some k_ ≠ ((.slice Ao24 t683.length co24) : Value).ownBlock ∧ some k_ ≠ (v690 : Value).ownBlock) (.slice Ao26 t693.length co26) t693) ∧ Aside0 (Below w.heap.size w w'))
          case atStart => exact ⟨(0), (by first | rfl | (simp; done) | (simp [*]; done)), H', ⟨Nat.le_refl _⟩, ⟨by (with_reducible repeat (first | apply Kd.R_alloc | apply Kd.R_drewN | apply Kd.R_drew)); exact HO_8.out⟩, ⟨by (with_reducible repeat (first | apply Kd.R_alloc | apply Kd.R_drewN | apply Kd.R_drew)); exact HO_11.out⟩, ⟨by (with_reducible repeat (first | apply Kd.R_alloc | apply Kd.R_drewN | apply Kd.R_drew)); exact Kd.R_mono HO695.out (fun _ hk => ⟨hk.1.2, hk.2⟩)⟩, ⟨by repeat (first | (with_reducible first | exact HB.out | apply below_alloc | apply pw_below_drewN | apply below_drew1) | exact HB.out)⟩⟩
          case round =>
            clear H'
            try clear c1
            try clear c2
            try clear p2
            try clear c4
            try clear c4b0
            try clear c4b1
            try clear c5
            try clear p6
            try clear c8
            try clear c10
            try clear c10b0
            try clear c10b1
            try clear c11
            try clear c11b0
            try clear c11b1
            try clear c12
            try clear c12b0
            try clear c12b1
            try clear c13
            try clear c13b0
            try clear c13b1
            try clear c14
            try clear c14b0
            try clear c14b1
            try clear c22
            try clear c23
            try clear c24
            try clear p2
            try clear p6
            obtain ⟨x86_2, rfl, HA, HK2, HO_8, HO_11, HO_84, HB⟩ := hrel
            cases gk with
            | zero => exact absurd HA.out (by simp [downpourlaw06_RandomOnce.l0])
            | succ k2 =>
              have H := HA.out
              clear HA
              simp only [downpourlaw06_RandomOnce.l0] at H
              by_cases c27 : x86_2 < (t693.length : Int)
              · rw [if_pos c27] at H
                have c27b0 : decide (x86_2 < (t693.length : Int)) = true := decide_eq_true c27
                clear c27
                by_cases c28 : 0 ≤ x86_2
                · rw [if_pos c28] at H
                  have c28b0 : decide (0 ≤ x86_2) = true := decide_eq_true c28
                  clear c28
                  by_cases c29 : x86_2 < (t693.length : Int)
                  · rw [if_pos c29] at H
                    have c29b0 : decide (x86_2 < (t693.length : Int)) = true := decide_eq_true c29
                    clear c29
                    by_cases c30 : (rd t693 x86_2) = x86_2
                    · rw [if_pos c30] at H
                      have c30b0 : ((rd t693 x86_2) == x86_2) = true := beq_iff_eq.mpr c30
                      have c30b1 : ((rd t693 x86_2) != x86_2) = false := bne_eq_false_iff_eq.mpr c30
                      clear c30
                      have H' := Aside0.mk H
                      clear H
                      have p696 : 0 ≤ (x86_2 : Int) := of_decide_eq_true (by first | (with_reducible assumption) | assumption)
                      have q696 : x86_2 < (t693.length : Int) := of_decide_eq_true (by first | (with_reducible assumption) | assumption)
                      obtain ⟨ad696, e696, hx696_0⟩ := Kd.at_int (Kd.R_reads' HO_84.out).2.2 x86_2 p696 q696
                      cases e696
                      replace p696 := eq_true p696
                      replace q696 := eq_true q696
                      go_wp2
                      go_roundg k2
                      case measure => have := HJ6.out; have := HK2.out; omega
                      case rel => exact ⟨(wrap64 (x86_2 + 1)), (by first | rfl | (simp; done) | (simp [*]; done)), H', ⟨by have := HJ6.out; have := HK2.out; omega⟩, ⟨by (with_reducible repeat (first | apply Kd.R_alloc | apply Kd.R_drewN | apply Kd.R_drew)); exact HO_8.out⟩, ⟨by (with_reducible repeat (first | apply Kd.R_alloc | apply Kd.R_drewN | apply Kd.R_drew)); exact HO_11.out⟩, ⟨by (with_reducible repeat (first | apply Kd.R_alloc | apply Kd.R_drewN | apply Kd.R_drew)); exact HO_84.out⟩, ⟨by repeat (first | (with_reducible first | exact HB.out | apply below_alloc | apply pw_below_drewN | apply below_drew1) | exact HB.out)⟩⟩
                    · rw [if_neg c30] at H
                      have c30b0 : ((rd t693 x86_2) == x86_2) = false := beq_eq_false_iff_ne.mpr c30
                      have c30b1 : ((rd t693 x86_2) != x86_2) = true := bne_iff_ne.mpr c30
                      obtain rfl := Option.some.inj H
                      have p696 : 0 ≤ (x86_2 : Int) := of_decide_eq_true (by first | (with_reducible assumption) | assumption)
                      have q696 : x86_2 < (t693.length : Int) := of_decide_eq_true (by first | (with_reducible assumption) | assumption)
                      obtain ⟨ad696, e696, hx696_0⟩ := Kd.at_int (Kd.R_reads' HO_84.out).2.2 x86_2 p696 q696
                      cases e696
                      replace p696 := eq_true p696
                      replace q696 := eq_true q696
                      go_wp2
                      go_ret
                      exact ⟨by first | rfl | (simp [errW_none, errW_some] <;> rfl) | (simp [*, errW_none, errW_some] <;> rfl), by repeat (first | (with_reducible first | exact HB.out | apply below_alloc | apply pw_below_drewN | apply below_drew1) | exact HB.out)⟩
                  · rw [if_neg c29] at H
                    exact absurd H (by simp)
                · rw [if_neg c28] at H
                  exact absurd H (by simp)
              · rw [if_neg c27] at H
                have c27b0 : decide (x86_2 < (t693.length : Int)) = false := decide_eq_false c27
                clear c27
                have H' := Aside0.mk H
                clear H
                obtain ⟨Ao31, co31, eo31⟩ := Kd.R_slice HO_11.out
                subst eo31
                go_wp2
                go_loopg [97] k2 (fun kq v97 w' => ∃ (x97_3 : Int), v97 = .int .i64 x97_3 ∧ Aside0 (downpourlaw06_RandomOnce.l1 kq a0 (wrap64 ((Int.tmod (wrap64 ((Int.tmod a1 512) + 512)) 512) + 1)) (Int.tmod (wrap64 ((wrap64 ((Int.tmod a2 (wrap64 ((wrap64 ((Int.tmod (wrap64 ((Int.tmod a1 512) + 512)) 512) + 1)) + 1))) + (wrap64 ((Int.tmod (wrap64 ((Int.tmod a1 512) + 512)) 512) + 1)))) + 1)) (wrap64 ((wrap64 ((Int.tmod (wrap64 ((Int.tmod a1 512) + 512)) 512) + 1)) + 1))) t683 t688 t688 (t688.length : Int) x97_3 = some r) ∧ Aside0 (kq ≤ k2) ∧ Aside0 (Kd.R (Kd.int .i64) 3 w' w.heap.size (fun k_ => some k_ ≠ ((.slice Ao31 t688.length co31) : Value).ownBlock ∧ some k_ ≠ ((.slice Ao31 t688.length co31) : Value).ownBlock) (.slice Ao24 t683.length co24) t683) ∧ Aside0 (Kd.R (Kd.int .i64) 3 w' w.heap.size (fun k_ => some k_ ≠ ((.slice Ao24 t683.length co24) : Value).ownBlock) (.slice Ao31 t688.length co31) t688) ∧ Aside0 (Kd.R (Kd.int .i64) 3 w' w.heap.size (fun k_ => some k_ ≠ ((.slice Ao24 t683.length co24) : Value).ownBlock) (.slice Ao31 t688.length co31) t688) ∧ Aside0 (Below w.heap.size w w'))
                case atStart => exact ⟨(0), (by first | rfl | (simp; done) | (simp [*]; done)), H', ⟨Nat.le_refl _⟩, ⟨by (with_reducible repeat (first | apply Kd.R_alloc | apply Kd.R_drewN | apply Kd.R_drew)); exact Kd.R_mono HO_8.out (fun _ hk => ⟨hk.1, hk.1⟩)⟩, ⟨by (with_reducible repeat (first | apply Kd.R_alloc | apply Kd.R_drewN | apply Kd.R_drew)); exact Kd.R_mono HO_11.out (fun _ hk => hk.1)⟩, ⟨by (with_reducible repeat (first | apply Kd.R_alloc | apply Kd.R_drewN | apply Kd.R_drew)); exact Kd.R_mono HO_11.out (fun _ hk => hk.1)⟩, ⟨by repeat (first | (with_reducible first | exact HB.out | apply below_alloc | apply pw_below_drewN | apply below_drew1) | exact HB.out)⟩⟩
                case round =>
                  clear H'
                  try clear c1
                  try clear c2
                  try clear p2
                  try clear c3
                  try clear c4
                  try clear c4b0
                  try clear c4b1
                  try clear c5
                  try clear p6
                  try clear q6
                  try clear hx6
                  try clear c8
                  try clear c10
                  try clear c10b0
                  try clear c10b1
                  try clear c11
                  try clear c11b0
                  try clear c11b1
                  try clear c12
                  try clear c12b0
                  try clear c12b1
                  try clear c13
                  try clear c13b0
                  try clear c13b1
                  try clear c14
                  try clear c14b0
                  try clear c14b1
                  try clear c22
                  try clear c23
                  try clear c24
                  try clear c27
                  try clear c27b0
                  try clear c28
                  try clear c28b0
                  try clear c29
                  try clear c29b0
                  try clear c30
                  try clear c30b0
                  try clear c30b1
                  try clear hx696_0
                  try clear p2
                  try clear p6
                  try clear p696
                  try clear q696
                  obtain ⟨x97_3, rfl, HA, HK3, HO_8, HO_11, HO_95, HB⟩ := hrel
                  cases gk with
                  | zero => exact absurd HA.out (by simp [downpourlaw06_RandomOnce.l1])
                  | succ k3 =>
                    have H := HA.out
                    clear HA
                    simp only [downpourlaw06_RandomOnce.l1] at H
                    by_cases c32 : x97_3 < (t688.length : Int)
                    · rw [if_pos c32] at H
                      have c32b0 : decide (x97_3 < (t688.length : Int)) = true := decide_eq_true c32
                      clear c32
                      by_cases c33 : 0 ≤ x97_3
                      · rw [if_pos c33] at H
                        have c33b0 : decide (0 ≤ x97_3) = true := decide_eq_true c33
                        clear c33
                        by_cases c34 : x97_3 < (t688.length : Int)
                        · rw [if_pos c34] at H
                          have c34b0 : decide (x97_3 < (t688.length : Int)) = true := decide_eq_true c34
                          clear c34
                          by_cases c35 : (rd t688 x97_3) < 0
                          · rw [if_pos c35] at H
                            have c35b0 : decide ((rd t688 x97_3) < 0) = true := decide_eq_true c35
                            clear c35
                            obtain rfl := Option.some.inj H
                            have p697 : 0 ≤ (x97_3 : Int) := of_decide_eq_true (by first | (with_reducible assumption) | assumption)
                            have q697 : x97_3 < (t688.length : Int) := of_decide_eq_true (by first | (with_reducible assumption) | assumption)
                            obtain ⟨ad697, e697, hx697_0⟩ := Kd.at_int (Kd.R_reads' HO_95.out).2.2 x97_3 p697 q697
                            cases e697
                            replace p697 := eq_true p697
                            replace q697 := eq_true q697
                            go_wp2
                            go_ret
                            exact ⟨by first | rfl | (simp [errW_none, errW_some] <;> rfl) | (simp [*, errW_none, errW_some] <;> rfl), by repeat (first | (with_reducible first | exact HB.out | apply below_alloc | apply pw_below_drewN | apply below_drew1) | exact HB.out)⟩
                          · rw [if_neg c35] at H
                            have c35b0 : decide ((rd t688 x97_3) < 0) = false := decide_eq_false c35
                            clear c35
                            by_cases c36 : (rd t688 x97_3) ≥ (wrap64 ((Int.tmod (wrap64 ((Int.tmod a1 512) + 512)) 512) + 1))
                            · rw [if_pos c36] at H
                              have c36b0 : decide ((wrap64 ((Int.tmod (wrap64 ((Int.tmod a1 512) + 512)) 512) + 1)) ≤ (rd t688 x97_3)) = true := decide_eq_true c36
                              clear c36
                              obtain rfl := Option.some.inj H
                              have p697 : 0 ≤ (x97_3 : Int) := of_decide_eq_true (by first | (with_reducible assumption) | assumption)
                              have q697 : x97_3 < (t688.length : Int) := of_decide_eq_true (by first | (with_reducible assumption) | assumption)
                              obtain ⟨ad697, e697, hx697_0⟩ := Kd.at_int (Kd.R_reads' HO_95.out).2.2 x97_3 p697 q697
                              cases e697
                              replace p697 := eq_true p697
                              replace q697 := eq_true q697
                              go_wp2
                              go_ret
                              exact ⟨by first | rfl | (simp [errW_none, errW_some] <;> rfl) | (simp [*, errW_none, errW_some] <;> rfl), by repeat (first | (with_reducible first | exact HB.out | apply below_alloc | apply pw_below_drewN | apply below_drew1) | exact HB.out)⟩
                            · rw [if_neg c36] at H
                              have c36b0 : decide ((wrap64 ((Int.tmod (wrap64 ((Int.tmod a1 512) + 512)) 512) + 1)) ≤ (rd t688 x97_3)) = false := decide_eq_false c36
                              clear c36
                              by_cases c37 : x97_3 > 0
                              · rw [if_pos c37] at H
                                have c37b0 : decide (0 < x97_3) = true := decide_eq_true c37
                                clear c37
                                obtain ⟨ji38, hji38⟩ : ∃ j_ : Int, (wrap64 (x97_3 - 1)) = j_ := ⟨_, rfl⟩
                                replace H : (if 0 ≤ (ji38) then (if (ji38) < (t688.length : Int) then (if (rd t688 (ji38)) ≥ (rd t688 x97_3) then (some false) else (if 0 ≤ (Int.tmod (wrap64 ((wrap64 ((Int.tmod a2 (wrap64 ((wrap64 ((Int.tmod (wrap64 ((Int.tmod a1 512) + 512)) 512) + 1)) + 1))) + (wrap64 ((Int.tmod (wrap64 ((Int.tmod a1 512) + 512)) 512) + 1)))) + 1)) (wrap64 ((wrap64 ((Int.tmod (wrap64 ((Int.tmod a1 512) + 512)) 512) + 1)) + 1))) then (if (Int.tmod (wrap64 ((wrap64 ((Int.tmod a2 (wrap64 ((wrap64 ((Int.tmod (wrap64 ((Int.tmod a1 512) + 512)) 512) + 1)) + 1))) + (wrap64 ((Int.tmod (wrap64 ((Int.tmod a1 512) + 512)) 512) + 1)))) + 1)) (wrap64 ((wrap64 ((Int.tmod (wrap64 ((Int.tmod a1 512) + 512)) 512) + 1)) + 1))) ≤ (t683.length : Int) then ((slices_Contains_int_int.f k3 (t683.take ((Int.tmod (wrap64 ((wrap64 ((Int.tmod a2 (wrap64 ((wrap64 ((Int.tmod (wrap64 ((Int.tmod a1 512) + 512)) 512) + 1)) + 1))) + (wrap64 ((Int.tmod (wrap64 ((Int.tmod a1 512) + 512)) 512) + 1)))) + 1)) (wrap64 ((wrap64 ((Int.tmod (wrap64 ((Int.tmod a1 512) + 512)) 512) + 1)) + 1))) : Int).toNat) (rd t688 x97_3)).bind fun t703 => (if t703 = true then (downpourlaw06_RandomOnce.l1 k3 a0 (wrap64 ((Int.tmod (wrap64 ((Int.tmod a1 512) + 512)) 512) + 1)) (Int.tmod (wrap64 ((wrap64 ((Int.tmod a2 (wrap64 ((wrap64 ((Int.tmod (wrap64 ((Int.tmod a1 512) + 512)) 512) + 1)) + 1))) + (wrap64 ((Int.tmod (wrap64 ((Int.tmod a1 512) + 512)) 512) + 1)))) + 1)) (wrap64 ((wrap64 ((Int.tmod (wrap64 ((Int.tmod a1 512) + 512)) 512) + 1)) + 1))) t683 t688 t688 (t688.length : Int) (wrap64 (x97_3 + 1))) else (some false))) else (none)) else (none))) else (none)) else (none)) = some r := by first | (rw [hji38] at H; exact H) | (simp only [hji38] at H ⊢; exact H)
                                have hji38w : (IntKind.i64.wrap (x97_3 - 1)) = ji38 := (i64_w _).trans hji38
                                by_cases c39 : 0 ≤ (ji38)
                                · rw [if_pos c39] at H
                                  have c39b0 : decide (0 ≤ (ji38)) = true := decide_eq_true c39
                                  clear c39
                                  by_cases c40 : (ji38) < (t688.length : Int)
                                  · rw [if_pos c40] at H
                                    have c40b0 : decide ((ji38) < (t688.length : Int)) = true := decide_eq_true c40
                                    clear c40
                                    by_cases c41 : (rd t688 (ji38)) ≥ (rd t688 x97_3)
                                    · rw [if_pos c41] at H
                                      have c41b0 : decide ((rd t688 x97_3) ≤ (rd t688 (ji38))) = true := decide_eq_true c41
                                      clear c41
                                      obtain rfl := Option.some.inj H
                                      have p697 : 0 ≤ (x97_3 : Int) := of_decide_eq_true (by first | (with_reducible assumption) | assumption)
                                      have q697 : x97_3 < (t688.length : Int) := of_decide_eq_true (by first | (with_reducible assumption) | assumption)
                                      obtain ⟨ad697, e697, hx697_0⟩ := Kd.at_int (Kd.R_reads' HO_95.out).2.2 x97_3 p697 q697
                                      cases e697
                                      replace p697 := eq_true p697
                                      replace q697 := eq_true q697
                                      have p698 : 0 ≤ ((ji38) : Int) := of_decide_eq_true (by first | (with_reducible assumption) | assumption)
                                      have q698 : (ji38) < (t688.length : Int) := of_decide_eq_true (by first | (with_reducible assumption) | assumption)
                                      obtain ⟨ad698, e698, hx698_0⟩ := Kd.at_int (Kd.R_reads' HO_11.out).2.2 (ji38) p698 q698
                                      obtain rfl : ad697 = ad698 := (by injection e698)
                                      replace p698 := eq_true p698
                                      replace q698 := eq_true q698
                                      go_wp2
                                      go_ret
                                      exact ⟨by first | rfl | (simp [errW_none, errW_some] <;> rfl) | (simp only [← hji38]; first | rfl | (simp [errW_none, errW_some] <;> rfl)) | (simp [*, errW_none, errW_some] <;> rfl), by repeat (first | (with_reducible first | exact HB.out | apply below_alloc | apply pw_below_drewN | apply below_drew1) | exact HB.out)⟩
                                    · rw [if_neg c41] at H
                                      have c41b0 : decide ((rd t688 x97_3) ≤ (rd t688 (ji38))) = false := decide_eq_false c41
                                      clear c41
                                      obtain ⟨ji42, hji42⟩ : ∃ j_ : Int, (Int.tmod (wrap64 ((wrap64 ((Int.tmod a2 (wrap64 ((wrap64 ((Int.tmod (wrap64 ((Int.tmod a1 512) + 512)) 512) + 1)) + 1))) + (wrap64 ((Int.tmod (wrap64 ((Int.tmod a1 512) + 512)) 512) + 1)))) + 1)) (wrap64 ((wrap64 ((Int.tmod (wrap64 ((Int.tmod a1 512) + 512)) 512) + 1)) + 1))) = j_ := ⟨_, rfl⟩
                                      replace H : (if 0 ≤ (ji42) then (if (ji42) ≤ (t683.length : Int) then ((slices_Contains_int_int.f k3 (t683.take ((ji42) : Int).toNat) (rd t688 x97_3)).bind fun t703 => (if t703 = true then (downpourlaw06_RandomOnce.l1 k3 a0 (wrap64 ((Int.tmod (wrap64 ((Int.tmod a1 512) + 512)) 512) + 1)) (ji42) t683 t688 t688 (t688.length : Int) (wrap64 (x97_3 + 1))) else (some false))) else (none)) else (none)) = some r := by first | (rw [hji42] at H; exact H) | (simp only [hji42] at H ⊢; exact H)
                                      by_cases c43 : 0 ≤ (ji42)
                                      · rw [if_pos c43] at H
                                        have c43b0 := eq_true c43
                                        have c43b1 : decide (0 ≤ (ji42)) = true := decide_eq_true c43
                                        clear c43
                                        by_cases c44 : (ji42) ≤ (t683.length : Int)
                                        · rw [if_pos c44] at H
                                          have c44b0 := eq_true c44
                                          have c44b1 : decide ((ji42) ≤ (t683.length : Int)) = true := decide_eq_true c44
                                          clear c44
                                          obtain ⟨y699, hy699⟩ : ∃ y_ : List Int, y_ = (t683.take ((ji42) : Int).toNat) := ⟨_, rfl⟩
                                          replace H : ((slices_Contains_int_int.f k3 y699 (rd t688 x97_3)).bind fun t703 => (if t703 = true then (downpourlaw06_RandomOnce.l1 k3 a0 (wrap64 ((Int.tmod (wrap64 ((Int.tmod a1 512) + 512)) 512) + 1)) (ji42) t683 t688 t688 (t688.length : Int) (wrap64 (x97_3 + 1))) else (some false))) = some r := by first | (rw [hy699]; with_reducible exact H) | (have H2_ := (Option.bind_some _ _).symm.trans H; rw [hy699]; with_reducible exact H2_) | (have H2_ := (Option.bind_some _ _).symm.trans H; with_reducible exact H2_) | with_reducible exact H | (rw [hy699]; exact H) | exact H
                                          have Ny699 := Aside0.mk hy699
                                          clear hy699
                                          replace H := Option.bind_eq_some_iff.mp H
                                          obtain ⟨t703, A450, H⟩ := H
                                          replace H : (if t703 = true then (downpourlaw06_RandomOnce.l1 k3 a0 (wrap64 ((Int.tmod (wrap64 ((Int.tmod a1 512) + 512)) 512) + 1)) (ji42) t683 t688 t688 (t688.length : Int) (wrap64 (x97_3 + 1))) else (some false)) = some r := H
                                          have A45 := Aside0.mk A450
                                          clear A450
                                          by_cases c46 : t703 = true
                                          · subst c46
                                            have H1 : (downpourlaw06_RandomOnce.l1 k3 a0 (wrap64 ((Int.tmod (wrap64 ((Int.tmod a1 512) + 512)) 512) + 1)) (ji42) t683 t688 t688 (t688.length : Int) (wrap64 (x97_3 + 1))) = some r := by rw [if_pos rfl] at H; exact H
                                            clear H
                                            have H := H1
                                            clear H1
                                            have H' := Aside0.mk H
                                            clear H
                                            have p697 : 0 ≤ (x97_3 : Int) := of_decide_eq_true (by first | (with_reducible assumption) | assumption)
                                            have q697 : x97_3 < (t688.length : Int) := of_decide_eq_true (by first | (with_reducible assumption) | assumption)
                                            obtain ⟨ad697, e697, hx697_0⟩ := Kd.at_int (Kd.R_reads' HO_95.out).2.2 x97_3 p697 q697
                                            cases e697
                                            replace p697 := eq_true p697
                                            replace q697 := eq_true q697
                                            have p698 : 0 ≤ ((ji38) : Int) := of_decide_eq_true (by first | (with_reducible assumption) | assumption)
                                            have q698 : (ji38) < (t688.length : Int) := of_decide_eq_true (by first | (with_reducible assumption) | assumption)
                                            obtain ⟨ad698, e698, hx698_0⟩ := Kd.at_int (Kd.R_reads' HO_11.out).2.2 (ji38) p698 q698
                                            obtain rfl : ad697 = ad698 := (by injection e698)
                                            replace p698 := eq_true p698
                                            replace q698 := eq_true q698
                                            have q47 : ((ji42) : Int) ≤ ((t683.length : Int) : Int) := of_decide_eq_true (by first | (with_reducible assumption) | assumption)
                                            obtain ⟨i047, hi047, _, hsz47, _⟩ := info_parts info3
                                            have hroom47 : t683.length ≤ co24 := (Kd.R_reads' HO_8.out).2.1
                                            have hC47 : Kd.C (Kd.int .i64) _ Ao24 t683.length t683 := (Kd.R_reads' HO_8.out).2.2
                                            have hcut47 := cut_to (P := Try.prog) 40 3 .i64 Try.underlying40 hi047 Ao24 t683.length co24 (ji42) (of_decide_eq_true (by first | (with_reducible assumption) | assumption)) q47 hroom47
                                            have hr47 := Kd.C_take (m := ((ji42) : Int).toNat) hC47 (by omega)
                                            have hy47 : y699.length = ((ji42) : Int).toNat := (by rw [Ny699.out, List.length_take]; omega)
                                            rw [← Ny699.out] at hr47
                                            rw [← hy47] at hcut47
                                            have HR702 := Aside0.mk hr47
                                            have HC702 := Aside0.mk (show y699.length ≤ co24 from by omega)
                                            clear hr47 hC47 hroom47 hi047 hsz47
                                            have KY47 := Aside0.mk hy47
                                            clear hy47
                                            have KL47 := Aside0.mk (show ((ji42) : Int).toNat ≤ t683.length from by omega)
                                            replace q47 := eq_true q47
                                            go_wp2_with (first | (go_at_call 29; (with_reducible refine (slices_Contains_int_int.calls k3 _ _ y699 (rd t688 x97_3) true _ ?side1 ?side2 A45.out).mono ?_); (case side1 => repeat (first | exact (by repeat (first | (with_reducible exact HR702.out) | (with_reducible refine Kd.C_alloc ?_ _) | (with_reducible refine Kd.C_drewN ?_ _) | (with_reducible refine Kd.C_drew ?_) | exact HR702.out)) | (with_reducible refine Kd.C_alloc ?_ _) | (with_reducible refine Kd.C_drewN ?_ _) | (with_reducible refine Kd.C_drew ?_))); (case side2 => exact HC702.out); rintro e w' ⟨rfl, ⟨nd, rfl⟩⟩))
                                            (try subst hji42)
                                            go_roundg k3
                                            case measure => have := HJ6.out; have := HK2.out; have := HK3.out; omega
                                            case rel => exact ⟨(wrap64 (x97_3 + 1)), (by first | rfl | (simp; done) | (simp [*]; done)), H', ⟨by have := HJ6.out; have := HK2.out; have := HK3.out; omega⟩, ⟨by (with_reducible repeat (first | apply Kd.R_alloc | apply Kd.R_drewN | apply Kd.R_drew)); exact HO_8.out⟩, ⟨by (with_reducible repeat (first | apply Kd.R_alloc | apply Kd.R_drewN | apply Kd.R_drew)); exact HO_11.out⟩, ⟨by (with_reducible repeat (first | apply Kd.R_alloc | apply Kd.R_drewN | apply Kd.R_drew)); exact HO_95.out⟩, ⟨by repeat (first | (with_reducible first | exact HB.out | apply below_alloc | apply pw_below_drewN | apply below_drew1) | exact HB.out)⟩⟩
                                          · replace c46 := Bool.eq_false_iff.mpr c46
                                            subst c46
                                            have H1 : (some false) = some r := by rw [if_neg (show ¬ (false = true) by decide)] at H; exact H
                                            clear H
                                            have H := H1
                                            clear H1
                                            obtain rfl := Option.some.inj H
                                            have p697 : 0 ≤ (x97_3 : Int) := of_decide_eq_true (by first | (with_reducible assumption) | assumption)
                                            have q697 : x97_3 < (t688.length : Int) := of_decide_eq_true (by first | (with_reducible assumption) | assumption)
                                            obtain ⟨ad697, e697, hx697_0⟩ := Kd.at_int (Kd.R_reads' HO_95.out).2.2 x97_3 p697 q697
                                            cases e697
                                            replace p697 := eq_true p697
                                            replace q697 := eq_true q697
                                            have p698 : 0 ≤ ((ji38) : Int) := of_decide_eq_true (by first | (with_reducible assumption) | assumption)
                                            have q698 : (ji38) < (t688.length : Int) := of_decide_eq_true (by first | (with_reducible assumption) | assumption)
                                            obtain ⟨ad698, e698, hx698_0⟩ := Kd.at_int (Kd.R_reads' HO_11.out).2.2 (ji38) p698 q698
                                            obtain rfl : ad697 = ad698 := (by injection e698)
                                            replace p698 := eq_true p698
                                            replace q698 := eq_true q698
                                            have q48 : ((ji42) : Int) ≤ ((t683.length : Int) : Int) := of_decide_eq_true (by first | (with_reducible assumption) | assumption)
                                            obtain ⟨i048, hi048, _, hsz48, _⟩ := info_parts info3
                                            have hroom48 : t683.length ≤ co24 := (Kd.R_reads' HO_8.out).2.1
                                            have hC48 : Kd.C (Kd.int .i64) _ Ao24 t683.length t683 := (Kd.R_reads' HO_8.out).2.2
                                            have hcut48 := cut_to (P := Try.prog) 40 3 .i64 Try.underlying40 hi048 Ao24 t683.length co24 (ji42) (of_decide_eq_true (by first | (with_reducible assumption) | assumption)) q48 hroom48
                                            have hr48 := Kd.C_take (m := ((ji42) : Int).toNat) hC48 (by omega)
                                            have hy48 : y699.length = ((ji42) : Int).toNat := (by rw [Ny699.out, List.length_take]; omega)
                                            rw [← Ny699.out] at hr48
                                            rw [← hy48] at hcut48
                                            have HR702 := Aside0.mk hr48
                                            have HC702 := Aside0.mk (show y699.length ≤ co24 from by omega)
                                            clear hr48 hC48 hroom48 hi048 hsz48
                                            have KY48 := Aside0.mk hy48
                                            clear hy48
                                            have KL48 := Aside0.mk (show ((ji42) : Int).toNat ≤ t683.length from by omega)
                                            replace q48 := eq_true q48
                                            go_wp2_with (first | (go_at_call 29; (with_reducible refine (slices_Contains_int_int.calls k3 _ _ y699 (rd t688 x97_3) false _ ?side1 ?side2 A45.out).mono ?_); (case side1 => repeat (first | exact (by repeat (first | (with_reducible exact HR702.out) | (with_reducible refine Kd.C_alloc ?_ _) | (with_reducible refine Kd.C_drewN ?_ _) | (with_reducible refine Kd.C_drew ?_) | exact HR702.out)) | (with_reducible refine Kd.C_alloc ?_ _) | (with_reducible refine Kd.C_drewN ?_ _) | (with_reducible refine Kd.C_drew ?_))); (case side2 => exact HC702.out); rintro e w' ⟨rfl, ⟨nd, rfl⟩⟩))
                                            go_ret
                                            exact ⟨by first | rfl | (simp [errW_none, errW_some] <;> rfl) | (simp only [← hji38, ← hji42]; first | rfl | (simp [errW_none, errW_some] <;> rfl)) | (simp [*, errW_none, errW_some] <;> rfl), by repeat (first | (with_reducible first | exact HB.out | apply below_alloc | apply pw_below_drewN | apply below_drew1) | exact HB.out)⟩
                                        · rw [if_neg c44] at H
                                          exact absurd H (by simp)
                                      · rw [if_neg c43] at H
                                        exact absurd H (by simp)
                                  · rw [if_neg c40] at H
                                    exact absurd H (by simp)
                                · rw [if_neg c39] at H
                                  exact absurd H (by simp)
                              · rw [if_neg c37] at H
                                have c37b0 : decide (0 < x97_3) = false := decide_eq_false c37
                                clear c37
                                obtain ⟨ji49, hji49⟩ : ∃ j_ : Int, (Int.tmod (wrap64 ((wrap64 ((Int.tmod a2 (wrap64 ((wrap64 ((Int.tmod (wrap64 ((Int.tmod a1 512) + 512)) 512) + 1)) + 1))) + (wrap64 ((Int.tmod (wrap64 ((Int.tmod a1 512) + 512)) 512) + 1)))) + 1)) (wrap64 ((wrap64 ((Int.tmod (wrap64 ((Int.tmod a1 512) + 512)) 512) + 1)) + 1))) = j_ := ⟨_, rfl⟩
                                replace H : (if 0 ≤ (ji49) then (if (ji49) ≤ (t683.length : Int) then ((slices_Contains_int_int.f k3 (t683.take ((ji49) : Int).toNat) (rd t688 x97_3)).bind fun t708 => (if t708 = true then (downpourlaw06_RandomOnce.l1 k3 a0 (wrap64 ((Int.tmod (wrap64 ((Int.tmod a1 512) + 512)) 512) + 1)) (ji49) t683 t688 t688 (t688.length : Int) (wrap64 (x97_3 + 1))) else (some false))) else (none)) else (none)) = some r := by first | (rw [hji49] at H; exact H) | (simp only [hji49] at H ⊢; exact H)
                                by_cases c50 : 0 ≤ (ji49)
                                · rw [if_pos c50] at H
                                  have c50b0 := eq_true c50
                                  have c50b1 : decide (0 ≤ (ji49)) = true := decide_eq_true c50
                                  clear c50
                                  by_cases c51 : (ji49) ≤ (t683.length : Int)
                                  · rw [if_pos c51] at H
                                    have c51b0 := eq_true c51
                                    have c51b1 : decide ((ji49) ≤ (t683.length : Int)) = true := decide_eq_true c51
                                    clear c51
                                    obtain ⟨y704, hy704⟩ : ∃ y_ : List Int, y_ = (t683.take ((ji49) : Int).toNat) := ⟨_, rfl⟩
                                    replace H : ((slices_Contains_int_int.f k3 y704 (rd t688 x97_3)).bind fun t708 => (if t708 = true then (downpourlaw06_RandomOnce.l1 k3 a0 (wrap64 ((Int.tmod (wrap64 ((Int.tmod a1 512) + 512)) 512) + 1)) (ji49) t683 t688 t688 (t688.length : Int) (wrap64 (x97_3 + 1))) else (some false))) = some r := by first | (rw [hy704]; with_reducible exact H) | (have H2_ := (Option.bind_some _ _).symm.trans H; rw [hy704]; with_reducible exact H2_) | (have H2_ := (Option.bind_some _ _).symm.trans H; with_reducible exact H2_) | with_reducible exact H | (rw [hy704]; exact H) | exact H
                                    have Ny704 := Aside0.mk hy704
                                    clear hy704
                                    replace H := Option.bind_eq_some_iff.mp H
                                    obtain ⟨t708, A520, H⟩ := H
                                    replace H : (if t708 = true then (downpourlaw06_RandomOnce.l1 k3 a0 (wrap64 ((Int.tmod (wrap64 ((Int.tmod a1 512) + 512)) 512) + 1)) (ji49) t683 t688 t688 (t688.length : Int) (wrap64 (x97_3 + 1))) else (some false)) = some r := H
                                    have A52 := Aside0.mk A520
                                    clear A520
                                    by_cases c53 : t708 = true
                                    · subst c53
                                      have H1 : (downpourlaw06_RandomOnce.l1 k3 a0 (wrap64 ((Int.tmod (wrap64 ((Int.tmod a1 512) + 512)) 512) + 1)) (ji49) t683 t688 t688 (t688.length : Int) (wrap64 (x97_3 + 1))) = some r := by rw [if_pos rfl] at H; exact H
                                      clear H
                                      have H := H1
                                      clear H1
                                      have H' := Aside0.mk H
                                      clear H
                                      have p697 : 0 ≤ (x97_3 : Int) := of_decide_eq_true (by first | (with_reducible assumption) | assumption)
                                      have q697 : x97_3 < (t688.length : Int) := of_decide_eq_true (by first | (with_reducible assumption) | assumption)
                                      obtain ⟨ad697, e697, hx697_0⟩ := Kd.at_int (Kd.R_reads' HO_95.out).2.2 x97_3 p697 q697
                                      cases e697
                                      replace p697 := eq_true p697
                                      replace q697 := eq_true q697
                                      have q54 : ((ji49) : Int) ≤ ((t683.length : Int) : Int) := of_decide_eq_true (by first | (with_reducible assumption) | assumption)
                                      obtain ⟨i054, hi054, _, hsz54, _⟩ := info_parts info3
                                      have hroom54 : t683.length ≤ co24 := (Kd.R_reads' HO_8.out).2.1
                                      have hC54 : Kd.C (Kd.int .i64) _ Ao24 t683.length t683 := (Kd.R_reads' HO_8.out).2.2
                                      have hcut54 := cut_to (P := Try.prog) 40 3 .i64 Try.underlying40 hi054 Ao24 t683.length co24 (ji49) (of_decide_eq_true (by first | (with_reducible assumption) | assumption)) q54 hroom54
                                      have hr54 := Kd.C_take (m := ((ji49) : Int).toNat) hC54 (by omega)
                                      have hy54 : y704.length = ((ji49) : Int).toNat := (by rw [Ny704.out, List.length_take]; omega)
                                      rw [← Ny704.out] at hr54
                                      rw [← hy54] at hcut54
                                      have HR707 := Aside0.mk hr54
                                      have HC707 := Aside0.mk (show y704.length ≤ co24 from by omega)
                                      clear hr54 hC54 hroom54 hi054 hsz54
                                      have KY54 := Aside0.mk hy54
                                      clear hy54
                                      have KL54 := Aside0.mk (show ((ji49) : Int).toNat ≤ t683.length from by omega)
                                      replace q54 := eq_true q54
                                      go_wp2_with (first | (go_at_call 29; (with_reducible refine (slices_Contains_int_int.calls k3 _ _ y704 (rd t688 x97_3) true _ ?side1 ?side2 A52.out).mono ?_); (case side1 => repeat (first | exact (by repeat (first | (with_reducible exact HR707.out) | (with_reducible refine Kd.C_alloc ?_ _) | (with_reducible refine Kd.C_drewN ?_ _) | (with_reducible refine Kd.C_drew ?_) | exact HR707.out)) | (with_reducible refine Kd.C_alloc ?_ _) | (with_reducible refine Kd.C_drewN ?_ _) | (with_reducible refine Kd.C_drew ?_))); (case side2 => exact HC707.out); rintro e w' ⟨rfl, ⟨nd, rfl⟩⟩))
                                      (try subst hji49)
                                      go_roundg k3
                                      case measure => have := HJ6.out; have := HK2.out; have := HK3.out; omega
                                      case rel => exact ⟨(wrap64 (x97_3 + 1)), (by first | rfl | (simp; done) | (simp [*]; done)), H', ⟨by have := HJ6.out; have := HK2.out; have := HK3.out; omega⟩, ⟨by (with_reducible repeat (first | apply Kd.R_alloc | apply Kd.R_drewN | apply Kd.R_drew)); exact HO_8.out⟩, ⟨by (with_reducible repeat (first | apply Kd.R_alloc | apply Kd.R_drewN | apply Kd.R_drew)); exact HO_11.out⟩, ⟨by (with_reducible repeat (first | apply Kd.R_alloc | apply Kd.R_drewN | apply Kd.R_drew)); exact HO_95.out⟩, ⟨by repeat (first | (with_reducible first | exact HB.out | apply below_alloc | apply pw_below_drewN | apply below_drew1) | exact HB.out)⟩⟩
                                    · replace c53 := Bool.eq_false_iff.mpr c53
                                      subst c53
                                      have H1 : (some false) = some r := by rw [if_neg (show ¬ (false = true) by decide)] at H; exact H
                                      clear H
                                      have H := H1
                                      clear H1
                                      obtain rfl := Option.some.inj H
                                      have p697 : 0 ≤ (x97_3 : Int) := of_decide_eq_true (by first | (with_reducible assumption) | assumption)
                                      have q697 : x97_3 < (t688.length : Int) := of_decide_eq_true (by first | (with_reducible assumption) | assumption)
                                      obtain ⟨ad697, e697, hx697_0⟩ := Kd.at_int (Kd.R_reads' HO_95.out).2.2 x97_3 p697 q697
                                      cases e697
                                      replace p697 := eq_true p697
                                      replace q697 := eq_true q697
                                      have q55 : ((ji49) : Int) ≤ ((t683.length : Int) : Int) := of_decide_eq_true (by first | (with_reducible assumption) | assumption)
                                      obtain ⟨i055, hi055, _, hsz55, _⟩ := info_parts info3
                                      have hroom55 : t683.length ≤ co24 := (Kd.R_reads' HO_8.out).2.1
                                      have hC55 : Kd.C (Kd.int .i64) _ Ao24 t683.length t683 := (Kd.R_reads' HO_8.out).2.2
                                      have hcut55 := cut_to (P := Try.prog) 40 3 .i64 Try.underlying40 hi055 Ao24 t683.length co24 (ji49) (of_decide_eq_true (by first | (with_reducible assumption) | assumption)) q55 hroom55
                                      have hr55 := Kd.C_take (m := ((ji49) : Int).toNat) hC55 (by omega)
                                      have hy55 : y704.length = ((ji49) : Int).toNat := (by rw [Ny704.out, List.length_take]; omega)
                                      rw [← Ny704.out] at hr55
                                      rw [← hy55] at hcut55
                                      have HR707 := Aside0.mk hr55
                                      have HC707 := Aside0.mk (show y704.length ≤ co24 from by omega)
                                      clear hr55 hC55 hroom55 hi055 hsz55
                                      have KY55 := Aside0.mk hy55
                                      clear hy55
                                      have KL55 := Aside0.mk (show ((ji49) : Int).toNat ≤ t683.length from by omega)
                                      replace q55 := eq_true q55
                                      go_wp2_with (first | (go_at_call 29; (with_reducible refine (slices_Contains_int_int.calls k3 _ _ y704 (rd t688 x97_3) false _ ?side1 ?side2 A52.out).mono ?_); (case side1 => repeat (first | exact (by repeat (first | (with_reducible exact HR707.out) | (with_reducible refine Kd.C_alloc ?_ _) | (with_reducible refine Kd.C_drewN ?_ _) | (with_reducible refine Kd.C_drew ?_) | exact HR707.out)) | (with_reducible refine Kd.C_alloc ?_ _) | (with_reducible refine Kd.C_drewN ?_ _) | (with_reducible refine Kd.C_drew ?_))); (case side2 => exact HC707.out); rintro e w' ⟨rfl, ⟨nd, rfl⟩⟩))
                                      go_ret
                                      exact ⟨by first | rfl | (simp [errW_none, errW_some] <;> rfl) | (simp only [← hji49]; first | rfl | (simp [errW_none, errW_some] <;> rfl)) | (simp [*, errW_none, errW_some] <;> rfl), by repeat (first | (with_reducible first | exact HB.out | apply below_alloc | apply pw_below_drewN | apply below_drew1) | exact HB.out)⟩
                                  · rw [if_neg c51] at H
                                    exact absurd H (by simp)
                                · rw [if_neg c50] at H
                                  exact absurd H (by simp)
                        · rw [if_neg c34] at H
                          exact absurd H (by simp)
                      · rw [if_neg c33] at H
                        exact absurd H (by simp)
                    · rw [if_neg c32] at H
                      have c32b0 : decide (x97_3 < (t688.length : Int)) = false := decide_eq_false c32
                      clear c32
                      replace H := Option.bind_eq_some_iff.mp H
                      obtain ⟨⟨t709, t710, t711⟩, A560, H⟩ := H
                      replace H : ((random_Below.f a0 (wrap64 ((Int.tmod (wrap64 ((Int.tmod a1 512) + 512)) 512) + 1))).bind fun bt712 => (if t711 = 0 then (if bt712.2.2 = 0 then (if t709 = bt712.1 then (if t710 = bt712.2.1 then (if t710 ≥ 0 then (some (decide (t710 < (wrap64 ((Int.tmod (wrap64 ((Int.tmod a1 512) + 512)) 512) + 1))))) else (some false)) else (some false)) else (some false)) else (some false)) else (some false))) = some r := H
                      have A56 := Aside0.mk A560
                      clear A560
                      replace H := Option.bind_eq_some_iff.mp H
                      obtain ⟨⟨t712, t713, t714⟩, A570, H⟩ := H
                      replace H : (if t711 = 0 then (if t714 = 0 then (if t709 = t712 then (if t710 = t713 then (if t710 ≥ 0 then (some (decide (t710 < (wrap64 ((Int.tmod (wrap64 ((Int.tmod a1 512) + 512)) 512) + 1))))) else (some false)) else (some false)) else (some false)) else (some false)) else (some false)) = some r := H
                      have A57 := Aside0.mk A570
                      clear A570
                      by_cases c58 : t711 = 0
                      · rw [if_pos c58] at H
                        have c58b0 : (t711 == 0) = true := beq_iff_eq.mpr c58
                        have c58b1 : (t711 != 0) = false := bne_eq_false_iff_eq.mpr c58
                        clear c58
                        by_cases c59 : t714 = 0
                        · rw [if_pos c59] at H
                          have c59b0 : (t714 == 0) = true := beq_iff_eq.mpr c59
                          have c59b1 : (t714 != 0) = false := bne_eq_false_iff_eq.mpr c59
                          clear c59
                          by_cases c60 : t709 = t712
                          · rw [if_pos c60] at H
                            have c60b0 : (t709 == t712) = true := beq_iff_eq.mpr c60
                            have c60b1 : (t709 != t712) = false := bne_eq_false_iff_eq.mpr c60
                            clear c60
                            by_cases c61 : t710 = t713
                            · rw [if_pos c61] at H
                              have c61b0 : (t710 == t713) = true := beq_iff_eq.mpr c61
                              have c61b1 : (t710 != t713) = false := bne_eq_false_iff_eq.mpr c61
                              clear c61
                              by_cases c62 : t710 ≥ 0
                              · rw [if_pos c62] at H
                                have c62b0 : decide (0 ≤ t710) = true := decide_eq_true c62
                                clear c62
                                obtain rfl := Option.some.inj H
                                go_wp2_with (first | ((with_reducible refine gate_callee (f := 52) rfl ?_); refine goesL_ (some 134) rfl rfl Try.func52 (by kernel_rfl) rfl #[.int .u64 a0, .int .i64 (wrap64 ((Int.tmod (wrap64 ((Int.tmod a1 512) + 512)) 512) + 1))] rfl (by (try simp only [List.map_toArray, List.map_cons, List.map_nil]); first | done | rfl | (simp only [List.length_drop, List.length_take]; rfl)) ?_; (with_reducible refine (random_Below.calls a0 (wrap64 ((Int.tmod (wrap64 ((Int.tmod a1 512) + 512)) 512) + 1)) t709 t710 t711 _ A56.out).mono ?_); rintro e w63 ⟨rfl, hb⟩; refine ⟨_, rfl, ?_⟩; have n0_ := Aside0.mk (Kd.R_below (by (with_reducible repeat (first | apply Kd.R_alloc | apply Kd.R_drewN | apply Kd.R_drew)); exact HO_8.out) hb); have n1_ := Aside0.mk (Kd.R_below (by (with_reducible repeat (first | apply Kd.R_alloc | apply Kd.R_drewN | apply Kd.R_drew)); exact HO_11.out) hb); have n2_ := Aside0.mk (Kd.R_below (by (with_reducible repeat (first | apply Kd.R_alloc | apply Kd.R_drewN | apply Kd.R_drew)); exact HO_95.out) hb); have n3_ := Aside0.mk (below_step (by repeat (first | (with_reducible first | exact HB.out | apply below_alloc | apply pw_below_drewN | apply below_drew1) | exact HB.out)) hb); clear HO_8; clear HO_11; clear HO_95; clear HB; have HO_8 := n0_; have HO_11 := n1_; have HO_95 := n2_; have HB := n3_; clear n0_ n1_ n2_ n3_; (try clear hb); (try clear hb2); (try clear hk); (try clear hi)) | ((with_reducible refine gate_callee (f := 52) rfl ?_); refine goesL_ (some 141) rfl rfl Try.func52 (by kernel_rfl) rfl #[.int .u64 a0, .int .i64 (wrap64 ((Int.tmod (wrap64 ((Int.tmod a1 512) + 512)) 512) + 1))] rfl (by (try simp only [List.map_toArray, List.map_cons, List.map_nil]); first | done | rfl | (simp only [List.length_drop, List.length_take]; rfl)) ?_; (with_reducible refine (random_Below.calls a0 (wrap64 ((Int.tmod (wrap64 ((Int.tmod a1 512) + 512)) 512) + 1)) t712 t713 t714 _ A57.out).mono ?_); rintro e w64 ⟨rfl, hb⟩; refine ⟨_, rfl, ?_⟩; have n0_ := Aside0.mk (Kd.R_below (by (with_reducible repeat (first | apply Kd.R_alloc | apply Kd.R_drewN | apply Kd.R_drew)); exact HO_8.out) hb); have n1_ := Aside0.mk (Kd.R_below (by (with_reducible repeat (first | apply Kd.R_alloc | apply Kd.R_drewN | apply Kd.R_drew)); exact HO_11.out) hb); have n2_ := Aside0.mk (Kd.R_below (by (with_reducible repeat (first | apply Kd.R_alloc | apply Kd.R_drewN | apply Kd.R_drew)); exact HO_95.out) hb); have n3_ := Aside0.mk (below_step (by repeat (first | (with_reducible first | exact HB.out | apply below_alloc | apply pw_below_drewN | apply below_drew1) | exact HB.out)) hb); clear HO_8; clear HO_11; clear HO_95; clear HB; have HO_8 := n0_; have HO_11 := n1_; have HO_95 := n2_; have HB := n3_; clear n0_ n1_ n2_ n3_; (try clear hb); (try clear hb2); (try clear hk); (try clear hi)))
                                go_ret
                                exact ⟨by first | rfl | (simp [errW_none, errW_some] <;> rfl) | (simp [*, errW_none, errW_some] <;> rfl), by repeat (first | (with_reducible first | exact HB.out | apply below_alloc | apply pw_below_drewN | apply below_drew1) | exact HB.out)⟩
                              · rw [if_neg c62] at H
                                have c62b0 : decide (0 ≤ t710) = false := decide_eq_false c62
                                clear c62
                                obtain rfl := Option.some.inj H
                                go_wp2_with (first | ((with_reducible refine gate_callee (f := 52) rfl ?_); refine goesL_ (some 134) rfl rfl Try.func52 (by kernel_rfl) rfl #[.int .u64 a0, .int .i64 (wrap64 ((Int.tmod (wrap64 ((Int.tmod a1 512) + 512)) 512) + 1))] rfl (by (try simp only [List.map_toArray, List.map_cons, List.map_nil]); first | done | rfl | (simp only [List.length_drop, List.length_take]; rfl)) ?_; (with_reducible refine (random_Below.calls a0 (wrap64 ((Int.tmod (wrap64 ((Int.tmod a1 512) + 512)) 512) + 1)) t709 t710 t711 _ A56.out).mono ?_); rintro e w65 ⟨rfl, hb⟩; refine ⟨_, rfl, ?_⟩; have n0_ := Aside0.mk (Kd.R_below (by (with_reducible repeat (first | apply Kd.R_alloc | apply Kd.R_drewN | apply Kd.R_drew)); exact HO_8.out) hb); have n1_ := Aside0.mk (Kd.R_below (by (with_reducible repeat (first | apply Kd.R_alloc | apply Kd.R_drewN | apply Kd.R_drew)); exact HO_11.out) hb); have n2_ := Aside0.mk (Kd.R_below (by (with_reducible repeat (first | apply Kd.R_alloc | apply Kd.R_drewN | apply Kd.R_drew)); exact HO_95.out) hb); have n3_ := Aside0.mk (below_step (by repeat (first | (with_reducible first | exact HB.out | apply below_alloc | apply pw_below_drewN | apply below_drew1) | exact HB.out)) hb); clear HO_8; clear HO_11; clear HO_95; clear HB; have HO_8 := n0_; have HO_11 := n1_; have HO_95 := n2_; have HB := n3_; clear n0_ n1_ n2_ n3_; (try clear hb); (try clear hb2); (try clear hk); (try clear hi)) | ((with_reducible refine gate_callee (f := 52) rfl ?_); refine goesL_ (some 141) rfl rfl Try.func52 (by kernel_rfl) rfl #[.int .u64 a0, .int .i64 (wrap64 ((Int.tmod (wrap64 ((Int.tmod a1 512) + 512)) 512) + 1))] rfl (by (try simp only [List.map_toArray, List.map_cons, List.map_nil]); first | done | rfl | (simp only [List.length_drop, List.length_take]; rfl)) ?_; (with_reducible refine (random_Below.calls a0 (wrap64 ((Int.tmod (wrap64 ((Int.tmod a1 512) + 512)) 512) + 1)) t712 t713 t714 _ A57.out).mono ?_); rintro e w66 ⟨rfl, hb⟩; refine ⟨_, rfl, ?_⟩; have n0_ := Aside0.mk (Kd.R_below (by (with_reducible repeat (first | apply Kd.R_alloc | apply Kd.R_drewN | apply Kd.R_drew)); exact HO_8.out) hb); have n1_ := Aside0.mk (Kd.R_below (by (with_reducible repeat (first | apply Kd.R_alloc | apply Kd.R_drewN | apply Kd.R_drew)); exact HO_11.out) hb); have n2_ := Aside0.mk (Kd.R_below (by (with_reducible repeat (first | apply Kd.R_alloc | apply Kd.R_drewN | apply Kd.R_drew)); exact HO_95.out) hb); have n3_ := Aside0.mk (below_step (by repeat (first | (with_reducible first | exact HB.out | apply below_alloc | apply pw_below_drewN | apply below_drew1) | exact HB.out)) hb); clear HO_8; clear HO_11; clear HO_95; clear HB; have HO_8 := n0_; have HO_11 := n1_; have HO_95 := n2_; have HB := n3_; clear n0_ n1_ n2_ n3_; (try clear hb); (try clear hb2); (try clear hk); (try clear hi)))
                                go_ret
                                exact ⟨by first | rfl | (simp [errW_none, errW_some] <;> rfl) | (simp [*, errW_none, errW_some] <;> rfl), by repeat (first | (with_reducible first | exact HB.out | apply below_alloc | apply pw_below_drewN | apply below_drew1) | exact HB.out)⟩
                            · rw [if_neg c61] at H
                              have c61b0 : (t710 == t713) = false := beq_eq_false_iff_ne.mpr c61
                              have c61b1 : (t710 != t713) = true := bne_iff_ne.mpr c61
                              obtain rfl := Option.some.inj H
                              go_wp2_with (first | ((with_reducible refine gate_callee (f := 52) rfl ?_); refine goesL_ (some 134) rfl rfl Try.func52 (by kernel_rfl) rfl #[.int .u64 a0, .int .i64 (wrap64 ((Int.tmod (wrap64 ((Int.tmod a1 512) + 512)) 512) + 1))] rfl (by (try simp only [List.map_toArray, List.map_cons, List.map_nil]); first | done | rfl | (simp only [List.length_drop, List.length_take]; rfl)) ?_; (with_reducible refine (random_Below.calls a0 (wrap64 ((Int.tmod (wrap64 ((Int.tmod a1 512) + 512)) 512) + 1)) t709 t710 t711 _ A56.out).mono ?_); rintro e w67 ⟨rfl, hb⟩; refine ⟨_, rfl, ?_⟩; have n0_ := Aside0.mk (Kd.R_below (by (with_reducible repeat (first | apply Kd.R_alloc | apply Kd.R_drewN | apply Kd.R_drew)); exact HO_8.out) hb); have n1_ := Aside0.mk (Kd.R_below (by (with_reducible repeat (first | apply Kd.R_alloc | apply Kd.R_drewN | apply Kd.R_drew)); exact HO_11.out) hb); have n2_ := Aside0.mk (Kd.R_below (by (with_reducible repeat (first | apply Kd.R_alloc | apply Kd.R_drewN | apply Kd.R_drew)); exact HO_95.out) hb); have n3_ := Aside0.mk (below_step (by repeat (first | (with_reducible first | exact HB.out | apply below_alloc | apply pw_below_drewN | apply below_drew1) | exact HB.out)) hb); clear HO_8; clear HO_11; clear HO_95; clear HB; have HO_8 := n0_; have HO_11 := n1_; have HO_95 := n2_; have HB := n3_; clear n0_ n1_ n2_ n3_; (try clear hb); (try clear hb2); (try clear hk); (try clear hi)) | ((with_reducible refine gate_callee (f := 52) rfl ?_); refine goesL_ (some 141) rfl rfl Try.func52 (by kernel_rfl) rfl #[.int .u64 a0, .int .i64 (wrap64 ((Int.tmod (wrap64 ((Int.tmod a1 512) + 512)) 512) + 1))] rfl (by (try simp only [List.map_toArray, List.map_cons, List.map_nil]); first | done | rfl | (simp only [List.length_drop, List.length_take]; rfl)) ?_; (with_reducible refine (random_Below.calls a0 (wrap64 ((Int.tmod (wrap64 ((Int.tmod a1 512) + 512)) 512) + 1)) t712 t713 t714 _ A57.out).mono ?_); rintro e w68 ⟨rfl, hb⟩; refine ⟨_, rfl, ?_⟩; have n0_ := Aside0.mk (Kd.R_below (by (with_reducible repeat (first | apply Kd.R_alloc | apply Kd.R_drewN | apply Kd.R_drew)); exact HO_8.out) hb); have n1_ := Aside0.mk (Kd.R_below (by (with_reducible repeat (first | apply Kd.R_alloc | apply Kd.R_drewN | apply Kd.R_drew)); exact HO_11.out) hb); have n2_ := Aside0.mk (Kd.R_below (by (with_reducible repeat (first | apply Kd.R_alloc | apply Kd.R_drewN | apply Kd.R_drew)); exact HO_95.out) hb); have n3_ := Aside0.mk (below_step (by repeat (first | (with_reducible first | exact HB.out | apply below_alloc | apply pw_below_drewN | apply below_drew1) | exact HB.out)) hb); clear HO_8; clear HO_11; clear HO_95; clear HB; have HO_8 := n0_; have HO_11 := n1_; have HO_95 := n2_; have HB := n3_; clear n0_ n1_ n2_ n3_; (try clear hb); (try clear hb2); (try clear hk); (try clear hi)))
                              go_ret
                              exact ⟨by first | rfl | (simp [errW_none, errW_some] <;> rfl) | (simp [*, errW_none, errW_some] <;> rfl), by repeat (first | (with_reducible first | exact HB.out | apply below_alloc | apply pw_below_drewN | apply below_drew1) | exact HB.out)⟩
                          · rw [if_neg c60] at H
                            have c60b0 : (t709 == t712) = false := beq_eq_false_iff_ne.mpr c60
                            have c60b1 : (t709 != t712) = true := bne_iff_ne.mpr c60
                            obtain rfl := Option.some.inj H
                            go_wp2_with (first | ((with_reducible refine gate_callee (f := 52) rfl ?_); refine goesL_ (some 134) rfl rfl Try.func52 (by kernel_rfl) rfl #[.int .u64 a0, .int .i64 (wrap64 ((Int.tmod (wrap64 ((Int.tmod a1 512) + 512)) 512) + 1))] rfl (by (try simp only [List.map_toArray, List.map_cons, List.map_nil]); first | done | rfl | (simp only [List.length_drop, List.length_take]; rfl)) ?_; (with_reducible refine (random_Below.calls a0 (wrap64 ((Int.tmod (wrap64 ((Int.tmod a1 512) + 512)) 512) + 1)) t709 t710 t711 _ A56.out).mono ?_); rintro e w69 ⟨rfl, hb⟩; refine ⟨_, rfl, ?_⟩; have n0_ := Aside0.mk (Kd.R_below (by (with_reducible repeat (first | apply Kd.R_alloc | apply Kd.R_drewN | apply Kd.R_drew)); exact HO_8.out) hb); have n1_ := Aside0.mk (Kd.R_below (by (with_reducible repeat (first | apply Kd.R_alloc | apply Kd.R_drewN | apply Kd.R_drew)); exact HO_11.out) hb); have n2_ := Aside0.mk (Kd.R_below (by (with_reducible repeat (first | apply Kd.R_alloc | apply Kd.R_drewN | apply Kd.R_drew)); exact HO_95.out) hb); have n3_ := Aside0.mk (below_step (by repeat (first | (with_reducible first | exact HB.out | apply below_alloc | apply pw_below_drewN | apply below_drew1) | exact HB.out)) hb); clear HO_8; clear HO_11; clear HO_95; clear HB; have HO_8 := n0_; have HO_11 := n1_; have HO_95 := n2_; have HB := n3_; clear n0_ n1_ n2_ n3_; (try clear hb); (try clear hb2); (try clear hk); (try clear hi)) | ((with_reducible refine gate_callee (f := 52) rfl ?_); refine goesL_ (some 141) rfl rfl Try.func52 (by kernel_rfl) rfl #[.int .u64 a0, .int .i64 (wrap64 ((Int.tmod (wrap64 ((Int.tmod a1 512) + 512)) 512) + 1))] rfl (by (try simp only [List.map_toArray, List.map_cons, List.map_nil]); first | done | rfl | (simp only [List.length_drop, List.length_take]; rfl)) ?_; (with_reducible refine (random_Below.calls a0 (wrap64 ((Int.tmod (wrap64 ((Int.tmod a1 512) + 512)) 512) + 1)) t712 t713 t714 _ A57.out).mono ?_); rintro e w70 ⟨rfl, hb⟩; refine ⟨_, rfl, ?_⟩; have n0_ := Aside0.mk (Kd.R_below (by (with_reducible repeat (first | apply Kd.R_alloc | apply Kd.R_drewN | apply Kd.R_drew)); exact HO_8.out) hb); have n1_ := Aside0.mk (Kd.R_below (by (with_reducible repeat (first | apply Kd.R_alloc | apply Kd.R_drewN | apply Kd.R_drew)); exact HO_11.out) hb); have n2_ := Aside0.mk (Kd.R_below (by (with_reducible repeat (first | apply Kd.R_alloc | apply Kd.R_drewN | apply Kd.R_drew)); exact HO_95.out) hb); have n3_ := Aside0.mk (below_step (by repeat (first | (with_reducible first | exact HB.out | apply below_alloc | apply pw_below_drewN | apply below_drew1) | exact HB.out)) hb); clear HO_8; clear HO_11; clear HO_95; clear HB; have HO_8 := n0_; have HO_11 := n1_; have HO_95 := n2_; have HB := n3_; clear n0_ n1_ n2_ n3_; (try clear hb); (try clear hb2); (try clear hk); (try clear hi)))
                            go_ret
                            exact ⟨by first | rfl | (simp [errW_none, errW_some] <;> rfl) | (simp [*, errW_none, errW_some] <;> rfl), by repeat (first | (with_reducible first | exact HB.out | apply below_alloc | apply pw_below_drewN | apply below_drew1) | exact HB.out)⟩
                        · rw [if_neg c59] at H
                          have c59b0 : (t714 == 0) = false := beq_eq_false_iff_ne.mpr c59
                          have c59b1 : (t714 != 0) = true := bne_iff_ne.mpr c59
                          obtain rfl := Option.some.inj H
                          go_wp2_with (first | ((with_reducible refine gate_callee (f := 52) rfl ?_); refine goesL_ (some 134) rfl rfl Try.func52 (by kernel_rfl) rfl #[.int .u64 a0, .int .i64 (wrap64 ((Int.tmod (wrap64 ((Int.tmod a1 512) + 512)) 512) + 1))] rfl (by (try simp only [List.map_toArray, List.map_cons, List.map_nil]); first | done | rfl | (simp only [List.length_drop, List.length_take]; rfl)) ?_; (with_reducible refine (random_Below.calls a0 (wrap64 ((Int.tmod (wrap64 ((Int.tmod a1 512) + 512)) 512) + 1)) t709 t710 t711 _ A56.out).mono ?_); rintro e w71 ⟨rfl, hb⟩; refine ⟨_, rfl, ?_⟩; have n0_ := Aside0.mk (Kd.R_below (by (with_reducible repeat (first | apply Kd.R_alloc | apply Kd.R_drewN | apply Kd.R_drew)); exact HO_8.out) hb); have n1_ := Aside0.mk (Kd.R_below (by (with_reducible repeat (first | apply Kd.R_alloc | apply Kd.R_drewN | apply Kd.R_drew)); exact HO_11.out) hb); have n2_ := Aside0.mk (Kd.R_below (by (with_reducible repeat (first | apply Kd.R_alloc | apply Kd.R_drewN | apply Kd.R_drew)); exact HO_95.out) hb); have n3_ := Aside0.mk (below_step (by repeat (first | (with_reducible first | exact HB.out | apply below_alloc | apply pw_below_drewN | apply below_drew1) | exact HB.out)) hb); clear HO_8; clear HO_11; clear HO_95; clear HB; have HO_8 := n0_; have HO_11 := n1_; have HO_95 := n2_; have HB := n3_; clear n0_ n1_ n2_ n3_; (try clear hb); (try clear hb2); (try clear hk); (try clear hi)) | ((with_reducible refine gate_callee (f := 52) rfl ?_); refine goesL_ (some 141) rfl rfl Try.func52 (by kernel_rfl) rfl #[.int .u64 a0, .int .i64 (wrap64 ((Int.tmod (wrap64 ((Int.tmod a1 512) + 512)) 512) + 1))] rfl (by (try simp only [List.map_toArray, List.map_cons, List.map_nil]); first | done | rfl | (simp only [List.length_drop, List.length_take]; rfl)) ?_; (with_reducible refine (random_Below.calls a0 (wrap64 ((Int.tmod (wrap64 ((Int.tmod a1 512) + 512)) 512) + 1)) t712 t713 t714 _ A57.out).mono ?_); rintro e w72 ⟨rfl, hb⟩; refine ⟨_, rfl, ?_⟩; have n0_ := Aside0.mk (Kd.R_below (by (with_reducible repeat (first | apply Kd.R_alloc | apply Kd.R_drewN | apply Kd.R_drew)); exact HO_8.out) hb); have n1_ := Aside0.mk (Kd.R_below (by (with_reducible repeat (first | apply Kd.R_alloc | apply Kd.R_drewN | apply Kd.R_drew)); exact HO_11.out) hb); have n2_ := Aside0.mk (Kd.R_below (by (with_reducible repeat (first | apply Kd.R_alloc | apply Kd.R_drewN | apply Kd.R_drew)); exact HO_95.out) hb); have n3_ := Aside0.mk (below_step (by repeat (first | (with_reducible first | exact HB.out | apply below_alloc | apply pw_below_drewN | apply below_drew1) | exact HB.out)) hb); clear HO_8; clear HO_11; clear HO_95; clear HB; have HO_8 := n0_; have HO_11 := n1_; have HO_95 := n2_; have HB := n3_; clear n0_ n1_ n2_ n3_; (try clear hb); (try clear hb2); (try clear hk); (try clear hi)))
                          go_ret
                          exact ⟨by first | rfl | (simp [errW_none, errW_some] <;> rfl) | (simp [*, errW_none, errW_some] <;> rfl), by repeat (first | (with_reducible first | exact HB.out | apply below_alloc | apply pw_below_drewN | apply below_drew1) | exact HB.out)⟩
                      · rw [if_neg c58] at H
                        have c58b0 : (t711 == 0) = false := beq_eq_false_iff_ne.mpr c58
                        have c58b1 : (t711 != 0) = true := bne_iff_ne.mpr c58
                        obtain rfl := Option.some.inj H
                        go_wp2_with (first | ((with_reducible refine gate_callee (f := 52) rfl ?_); refine goesL_ (some 134) rfl rfl Try.func52 (by kernel_rfl) rfl #[.int .u64 a0, .int .i64 (wrap64 ((Int.tmod (wrap64 ((Int.tmod a1 512) + 512)) 512) + 1))] rfl (by (try simp only [List.map_toArray, List.map_cons, List.map_nil]); first | done | rfl | (simp only [List.length_drop, List.length_take]; rfl)) ?_; (with_reducible refine (random_Below.calls a0 (wrap64 ((Int.tmod (wrap64 ((Int.tmod a1 512) + 512)) 512) + 1)) t709 t710 t711 _ A56.out).mono ?_); rintro e w73 ⟨rfl, hb⟩; refine ⟨_, rfl, ?_⟩; have n0_ := Aside0.mk (Kd.R_below (by (with_reducible repeat (first | apply Kd.R_alloc | apply Kd.R_drewN | apply Kd.R_drew)); exact HO_8.out) hb); have n1_ := Aside0.mk (Kd.R_below (by (with_reducible repeat (first | apply Kd.R_alloc | apply Kd.R_drewN | apply Kd.R_drew)); exact HO_11.out) hb); have n2_ := Aside0.mk (Kd.R_below (by (with_reducible repeat (first | apply Kd.R_alloc | apply Kd.R_drewN | apply Kd.R_drew)); exact HO_95.out) hb); have n3_ := Aside0.mk (below_step (by repeat (first | (with_reducible first | exact HB.out | apply below_alloc | apply pw_below_drewN | apply below_drew1) | exact HB.out)) hb); clear HO_8; clear HO_11; clear HO_95; clear HB; have HO_8 := n0_; have HO_11 := n1_; have HO_95 := n2_; have HB := n3_; clear n0_ n1_ n2_ n3_; (try clear hb); (try clear hb2); (try clear hk); (try clear hi)) | ((with_reducible refine gate_callee (f := 52) rfl ?_); refine goesL_ (some 141) rfl rfl Try.func52 (by kernel_rfl) rfl #[.int .u64 a0, .int .i64 (wrap64 ((Int.tmod (wrap64 ((Int.tmod a1 512) + 512)) 512) + 1))] rfl (by (try simp only [List.map_toArray, List.map_cons, List.map_nil]); first | done | rfl | (simp only [List.length_drop, List.length_take]; rfl)) ?_; (with_reducible refine (random_Below.calls a0 (wrap64 ((Int.tmod (wrap64 ((Int.tmod a1 512) + 512)) 512) + 1)) t712 t713 t714 _ A57.out).mono ?_); rintro e w74 ⟨rfl, hb⟩; refine ⟨_, rfl, ?_⟩; have n0_ := Aside0.mk (Kd.R_below (by (with_reducible repeat (first | apply Kd.R_alloc | apply Kd.R_drewN | apply Kd.R_drew)); exact HO_8.out) hb); have n1_ := Aside0.mk (Kd.R_below (by (with_reducible repeat (first | apply Kd.R_alloc | apply Kd.R_drewN | apply Kd.R_drew)); exact HO_11.out) hb); have n2_ := Aside0.mk (Kd.R_below (by (with_reducible repeat (first | apply Kd.R_alloc | apply Kd.R_drewN | apply Kd.R_drew)); exact HO_95.out) hb); have n3_ := Aside0.mk (below_step (by repeat (first | (with_reducible first | exact HB.out | apply below_alloc | apply pw_below_drewN | apply below_drew1) | exact HB.out)) hb); clear HO_8; clear HO_11; clear HO_95; clear HB; have HO_8 := n0_; have HO_11 := n1_; have HO_95 := n2_; have HB := n3_; clear n0_ n1_ n2_ n3_; (try clear hb); (try clear hb2); (try clear hk); (try clear hi)))
                        go_ret
                        exact ⟨by first | rfl | (simp [errW_none, errW_some] <;> rfl) | (simp [*, errW_none, errW_some] <;> rfl), by repeat (first | (with_reducible first | exact HB.out | apply below_alloc | apply pw_below_drewN | apply below_drew1) | exact HB.out)⟩

/-- THE ONE PURE STATEMENT of downpourlaw06_RandomOnce: yours. -/
def downpourlaw06_RandomOnce.Pure : Prop := ∀ (a0 : Int) (a1 : Int) (a2 : Int), (Lit.int .u64 a0).wf = true → (Lit.int .i64 a1).wf = true → (Lit.int .i64 a2).wf = true → ∃ k, downpourlaw06_RandomOnce.f k a0 a1 a2 = some true
theorem downpourlaw06_RandomOnce.walk (P : downpourlaw06_RandomOnce.Pure) (a0 : Int) (a1 : Int) (a2 : Int) (w : World) (w0 : (Lit.int .u64 a0).wf = true) (w1 : (Lit.int .i64 a1).wf = true) (w2 : (Lit.int .i64 a2).wf = true) :
    Calls Try.prog 8 #[.int .u64 a0, .int .i64 a1, .int .i64 a2] w fun e w' => e = .returned (.bool true) ∧ Below w.heap.size w w' := by
  obtain ⟨k, h⟩ := P a0 a1 a2 w0 w1 w2
  refine (downpourlaw06_RandomOnce.calls k a0 a1 a2 true w h).mono ?_
  rintro e w' ⟨rfl, hd⟩
  exact ⟨rfl, hd⟩

end Go.Proofs.Ytaofanhdmfdlmaa.Print

