-- PRINTED by print.py (a twelfth state) out of the translation. Not trusted: Lean checks it.
import Derived.Test.YtaofanhdmfdlmaaPrint0
import Derived.Test.YtaofanhdmfdlmaaPrint63
namespace Go.Proofs.Ytaofanhdmfdlmaa.Print
open Go.RowKit Go.Proofs.YtaofanhdmfdlmaaW.PrintWords Go.Proofs.YtaofanhdmfdlmaaW.PrintLast Go.Proofs.YtaofanhdmfdlmaaW.PrintMore
attribute [local go_sem] max2_int min2_int max_two min_two max_three min_three max_four min_four   -- for this text's walks alone
set_option linter.unusedVariables false
set_option linter.unusedSimpArgs false

/-! ### random_Next: function 134 -/
def random_Next.f (a0 : Int) : Option (Int × Int) := (random_mixed.f (IntKind.u64.wrap (a0 + 11400714819323198485))).bind fun t698 => (some (IntKind.u64.wrap (a0 + 11400714819323198485), t698))
set_option maxHeartbeats 8000000 in
set_option maxRecDepth 100000 in
theorem random_Next.calls (a0 : Int) (r1 : Int) (r2 : Int) (w : World) (h : random_Next.f a0 = some (r1, r2)) :
    Calls Try.prog 134 #[.int .u64 a0] w fun e w' => e = .returned (.tuple #[.int .u64 r1, .int .u64 r2]) ∧ Drawn0 w w' := by
  have H : ((random_mixed.f (IntKind.u64.wrap (a0 + 11400714819323198485))).bind fun t698 => (some (IntKind.u64.wrap (a0 + 11400714819323198485), t698))) = some (r1, r2) := h
  clear h
  replace H := Option.bind_eq_some_iff.mp H
  obtain ⟨t698, A20, H⟩ := H
  replace H : (some (IntKind.u64.wrap (a0 + 11400714819323198485), t698)) = some (r1, r2) := H
  have A2 := Aside0.mk A20
  clear A20
  simp only [Option.some.injEq, Prod.mk.injEq] at H
  obtain ⟨rfl, rfl⟩ := H
  go_enter Try.func134, Try.ntmps134
  go_wp2_with (first | ((with_reducible refine gate_callee (f := 163) rfl ?_); refine goesL_ (some 8) rfl rfl Try.func163 (by kernel_rfl) rfl #[.int .u64 (IntKind.u64.wrap (a0 + 11400714819323198485))] rfl (by (try simp only [List.map_toArray, List.map_cons, List.map_nil]); first | done | rfl | (simp only [List.length_drop, List.length_take]; rfl)) ?_; (with_reducible refine (random_mixed.calls (IntKind.u64.wrap (a0 + 11400714819323198485)) t698 _ A2.out).mono ?_); rintro e w' ⟨rfl, ⟨nd, rfl⟩⟩; refine ⟨_, rfl, ?_⟩))
  go_ret2
  exact ⟨by first | rfl | (simp; done) | (simp [*]; done), by repeat (first | exact Drawn0.refl _ | apply Drawn0.step)⟩

end Go.Proofs.Ytaofanhdmfdlmaa.Print
