/-
What is proved: random.Some: so many of an order, sorted, or refused. Condition: none (beside what the order's own contract asks).
-/
import Derived.Test.YtaofanhdmfdlmaaPrint20
import Derived.Test.YtaofanhdmfdlmaaPrint95
import Derived.Test.YtaofanhdmfdlmaaSortI
import Derived.RegionTactic
namespace Go.Proofs.Ytaofanhdmfdlmaa.Print
open Go Go.RowKit Go.Proofs.YtaofanhdmfdlmaaW.PrintWords Go.Proofs.YtaofanhdmfdlmaaW.PrintLast Go.Proofs.YtaofanhdmfdlmaaW.PrintMore
set_option linter.unusedVariables false

def random_Some.f (k : Nat) (a0 a1 a2 : Int) : Option (Int × List Int × Int) :=
  (random_sized.f a1).bind fun s => if s = false ∨ a2 < 0 ∨ a1 < a2 then some (0, [], 2) else
    (random_Shuffle.f k a0 a1).bind fun t => if a2.toNat ≤ t.2.1.length ∧ t.2.2 = 0 then (slices_Sort_int_int.f (t.2.1.take a2.toNat)).bind fun m => some (t.1, m, 0) else none
theorem random_Some.mono : ∀ a0 a1 a2 k, LeO (random_Some.f k a0 a1 a2) (random_Some.f (k + 1) a0 a1 a2) := fun a0 a1 a2 k =>
  LeO.bind (LeO.refl _) fun _ => LeO.ite (LeO.refl _) (LeO.bind (random_Shuffle.mono _ _ _) fun _ => LeO.refl _)
set_option maxHeartbeats 4000000 in
theorem random_Some.calls (k : Nat) (a0 : Int) (a1 : Int) (a2 : Int) (r1 : Int) (r2 : List Int) (r3 : Int) (w : World) (h : random_Some.f k a0 a1 a2 = some (r1, r2, r3)) :
    Calls Try.prog 24 #[.int .u64 a0, .int .i64 a1, .int .i64 a2] w fun e w' => ∃ v1_ : Value, e = .returned (.tuple #[.int .u64 r1, v1_, .int .i64 r3]) ∧ Kd.R (Kd.int .i64) 3 w' w.heap.size (fun _ => True) v1_ r2 ∧ Below w.heap.size w w' := by
  unfold random_Some.f at h
  obtain ⟨sb, hs, h⟩ := Option.bind_eq_some_iff.1 h
  have HS := Aside0.mk hs
  clear hs
  by_cases hc : sb = false ∨ a2 < 0 ∨ a1 < a2
  · rw [if_pos hc] at h
    simp only [Option.some.injEq, Prod.mk.injEq] at h
    obtain ⟨rfl, rfl, rfl⟩ := h
    cases sb with
    | false =>
      clear hc
      go_enter Try.func24, Try.ntmps24
      go_wp2_with (go_at_call 82; refine (random_sized.calls a1 false _ HS.out).mono ?_; rintro e w' ⟨rfl, ⟨nd, rfl⟩⟩)
      go_ret3
      exact ⟨_, rfl, Kd.R_nil _ _ _ _ _, pw_below_drewN (Below.refl _ _) _⟩
    | true =>
      by_cases hneg : a2 < 0
      · have hnb : decide (a2 < 0) = true := decide_eq_true hneg
        clear hc
        go_enter Try.func24, Try.ntmps24
        go_wp2_with (go_at_call 82; refine (random_sized.calls a1 true _ HS.out).mono ?_; rintro e w' ⟨rfl, ⟨nd, rfl⟩⟩)
        go_ret3
        exact ⟨_, rfl, Kd.R_nil _ _ _ _ _, pw_below_drewN (Below.refl _ _) _⟩
      · have hgt : a1 < a2 := by rcases hc with hc | hc | hc; cases hc; exact absurd hc hneg; exact hc
        have hnb : decide (a2 < 0) = false := decide_eq_false hneg
        have hgb : decide (a1 < a2) = true := decide_eq_true hgt
        clear hc
        go_enter Try.func24, Try.ntmps24
        go_wp2_with (go_at_call 82; refine (random_sized.calls a1 true _ HS.out).mono ?_; rintro e w' ⟨rfl, ⟨nd, rfl⟩⟩)
        go_ret3
        exact ⟨_, rfl, Kd.R_nil _ _ _ _ _, pw_below_drewN (Below.refl _ _) _⟩
  · rw [if_neg hc] at h
    obtain ⟨⟨s, l, z⟩, hsh, h⟩ := Option.bind_eq_some_iff.1 h
    by_cases hl : a2.toNat ≤ l.length ∧ z = 0
    case neg => rw [if_neg hl] at h; cases h
    rw [if_pos hl] at h
    obtain ⟨m, hm, h⟩ := Option.bind_eq_some_iff.1 h
    simp only [Option.some.injEq, Prod.mk.injEq] at h
    obtain ⟨rfl, rfl, rfl⟩ := h
    obtain ⟨hl, rfl⟩ := hl
    obtain rfl : sb = true := by cases sb; exact absurd (.inl rfl) hc; rfl
    have h0 : 0 ≤ a2 := by omega
    have h1 : a2 ≤ a1 := by omega
    obtain ⟨n, rfl⟩ := Int.eq_ofNat_of_zero_le h0
    simp only [Int.toNat_natCast] at hl hm
    have hnb : decide ((n : Int) < 0) = false := decide_eq_false (by omega)
    have hgb : decide (a1 < (n : Int)) = false := decide_eq_false (by omega)
    have HSH := Aside0.mk hsh
    have HM := Aside0.mk hm
    have HL := Aside0.mk hl
    clear hc hsh hm h0 h1 hl
    go_enter Try.func24, Try.ntmps24
    go_wp2_with (go_at_call 82; refine (random_sized.calls a1 true _ HS.out).mono ?_; rintro e w' ⟨rfl, ⟨nd, rfl⟩⟩)
    refine (random_Shuffle.calls k a0 a1 _ _ _ _ HSH.out).mono ?_
    rintro e w1 ⟨v, rfl, hv, hb⟩
    obtain ⟨A, c, rfl, hc1, _⟩ := Kd.R_reads hv
    have HV := Aside0.mk hv
    have HB := Aside0.mk hb
    clear hv hb
    have hn1 := HL.out
    go_wp2_with fail
    have HT : Kd.R (Kd.int .i64) 3 w1 w.heap.size (fun _ => True) (.slice A n c) (l.take n) := Kd.R_take HV.out HL.out
    have HB1 : Below w.heap.size w w1 := (pw_below_drewN (Below.refl _ w) nd).trans HB.out
    refine (slices_Sort_int_int.calls (fun _ => True) _ (l.take n) m w w1 HB1 HT HM.out).mono ?_
    rintro e w2 ⟨rfl, hR, hB2, _⟩
    have HR2 := Aside0.mk (Kd.R_mono hR (fun _ _ => trivial) : Kd.R (Kd.int .i64) 3 w2 w.heap.size (fun _ => True) (.slice A n c) m)
    have HB2 := Aside0.mk hB2
    clear hR hB2 HT HB1 HV HB HS HSH HM
    go_wp2
    go_region
    all_goals (go_wp2; go_ret3; exact ⟨_, rfl, by (with_reducible repeat (first | apply Kd.R_drewN | apply Kd.R_drew)); exact HR2.out, below_drew HB2.out⟩)
end Go.Proofs.Ytaofanhdmfdlmaa.Print
