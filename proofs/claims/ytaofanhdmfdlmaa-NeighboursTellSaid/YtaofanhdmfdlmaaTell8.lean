import Derived.Test.YtaofanhdmfdlmaaTell7
import Derived.RegionIn
import Derived.OpenShut
import Derived.RegionTactic
import Derived.Test.YtaofanhdmfdlmaaTell2
import Derived.Test.YtaofanhdmfdlmaaTell0
import Derived.Test.YtaofanhdmfdlmaaTell5
/-
What is proved: random.below is the first number of the state's that is not refused, modulo n. Condition: n = 1.
-/
namespace Go.Proofs.Ytaofanhdmfdlmaa.Print
open Go Go.RowKit Go.Proofs.YtaofanhdmfdlmaaW.PrintWords Go.Proofs.YtaofanhdmfdlmaaW.PrintLast Go.Proofs.YtaofanhdmfdlmaaW.PrintMore Go.Proofs.Ytaofanhdmfdlmaa.Rng
attribute [local go_sem] Oper.semAt_some
set_option linter.unusedVariables false

set_option maxHeartbeats 4000000 in
set_option maxRecDepth 100000 in
theorem below_one (a0 r1 r2 : Int) (w : World) (HR : Aside0 (rb_go rb_fuel a0 1 = some (r1, r2))) :
    Calls Try.prog 83 #[.int .u64 a0, .int .i64 1] w fun e w' => e = .returned (.tuple #[.int .u64 r1, .int .i64 r2]) ∧ Below w.heap.size w w' := by
  obtain ⟨q, hq⟩ := div64_at 2 (by omega) (by omega)
  obtain ⟨rs, hrs⟩ : ∃ rs, rs = rb_res 2 := ⟨_, rfl⟩
  rw [← hrs] at hq
  have Hq := Aside0.mk hq
  have hrest := Aside0.mk (show rb_rest 1 = 0 from rfl)
  clear hq hrs
  refine callsIn_wide.1 (callsIn_of_wp_marks (n := 6) Try.func83 rfl trivial ?_ rfl)
  simp only [Try.ntmps83, List.size_toArray, List.length_cons, List.length_nil, Nat.reduceAdd, Nat.reduceSub, Array.replicate_succ, Array.replicate_zero, List.push_toArray, List.append_toArray, List.nil_append, List.cons_append]
  gi_wp2_with fail
  refine ⟨trivial, ?_⟩
  refine callsIn_wide.2 ((bits_Div64.calls 6 1 0 2 q rs _ Hq.out).mono ?_)
  rintro e w' ⟨rfl, ⟨nd, rfl⟩⟩
  gi_wp2
  refine ⟨trivial, ?_⟩
  refine callsIn_wide.2 ((numbers_calls a0 _).mono ?_)
  rintro e w2 ⟨rfl, hw2⟩
  have B0 := (Aside0.mk (show w2.heap[w.heap.size]? = some (.cells #[.int .i64 1] 3 (0, 0)) by
    rw [hw2]; refine blk_alloc ?_ _; refine blk_alloc ?_ _; refine blk_drewN ?_ _; refine blk_alloc ?_ _; refine blk_alloc ?_ _; exact new_at _ rfl))
  have B1 := (Aside0.mk (show w2.heap[w.heap.size + 1]? = some (.cells #[.int .u64 0] 25 (0, 0)) by
    rw [hw2]; refine blk_alloc ?_ _; refine blk_alloc ?_ _; refine blk_drewN ?_ _; refine blk_alloc ?_ _; exact new_at _ (by simp)))
  have B2 := (Aside0.mk (show w2.heap[w.heap.size + 2]? = some (.cells #[.int .i64 0] 3 (0, 0)) by
    rw [hw2]; refine blk_alloc ?_ _; refine blk_alloc ?_ _; refine blk_drewN ?_ _; exact new_at _ (by simp)))
  have B3 := (Aside0.mk (show w2.heap[w.heap.size + 3]? = some (.cells #[.int .u64 (rb_rest 1)] 25 (0, 0)) by
    rw [hw2, hrest.out]; refine blk_alloc ?_ _; exact new_at _ (by simp)))
  have B4 := (Aside0.mk (show w2.heap[w.heap.size + 4]? = some (.cells #[.int .u64 a0] 25 (0, 0)) by
    rw [hw2]; exact new_at _ (by simp)))
  have HB := (Aside0.mk (show Below w.heap.size w w2 by
    rw [hw2]; exact below_alloc (below_alloc (pw_below_drewN (below_alloc (below_alloc (below_alloc (Below.refl _ _) _) _) _) nd) _) _))
  have SZ := Aside0.mk (show w2.heap.size = w.heap.size + 5 by rw [hw2]; simp)
  clear hw2
  gi_wp2
  trace "range"
  refine wpIn_rng (σ := Nat × Int) (gf := 146) (lb := #[.pointer (some ⟨w.heap.size + 1 + 1 + 1 + 1, 0, none⟩)]) rfl (by decide) rfl trivial (enters_of Try.func146 (by kernel_rfl) rfl)
    (numbers_iter (w.heap.size + 4) (rb_fuel, a0) w2 B4.out (fun s s' => s.1 = s'.1 + 1 ∧ s'.2 = rb_nx s.2) (fun s s' h => ⟨by omega, h.2⟩)) (fun _ => rfl)
    (fun b hb => by have := SZ.out; omega) (fun b hb => by have := SZ.out; omega)
    (fun s W => rb_go s.1 s.2 1 = some (r1, r2) ∧ W.heap[w.heap.size]? = some (.cells #[.int .i64 1] 3 (0, 0)) ∧ W.heap[w.heap.size + 1]? = some (.cells #[.int .u64 0] 25 (0, 0)) ∧
      W.heap[w.heap.size + 2]? = some (.cells #[.int .i64 0] 3 (0, 0)) ∧ W.heap[w.heap.size + 3]? = some (.cells #[.int .u64 (rb_rest 1)] 25 (0, 0)) ∧ Below w.heap.size w W)
    (fun c W => c = .ret ∧ W.heap[w.heap.size + 1]? = some (.cells #[.int .u64 r1] 25 (0, 0)) ∧ W.heap[w.heap.size + 2]? = some (.cells #[.int .i64 r2] 3 (0, 0)) ∧ Below w.heap.size w W)
    ?stab ?stabx (fun _ _ _ => trivial) ⟨HR.out, B0.out, B1.out, B2.out, B3.out, HB.out⟩ ?round ?done ?stop
  case stab =>
    rintro s A B ⟨h1, h2, h3, h4, h5, h6⟩ hf
    have := SZ.out
    exact ⟨h1, hf.blk h2 (by omega) (by omega), hf.blk h3 (by omega) (by omega), hf.blk h4 (by omega) (by omega), hf.blk h5 (by omega) (by omega), hf.below h6 (Nat.le_refl _) (fun b hb => by omega) (by omega)⟩
  case stabx =>
    rintro c A B ⟨h1, h3, h4, h6⟩ hf
    have := SZ.out
    exact ⟨h1, hf.blk h3 (by omega) (by omega), hf.blk h4 (by omega) (by omega), hf.below h6 (Nat.le_refl _) (fun b hb => by omega) (by omega)⟩
  case round =>
    intro l s W hI _ K hK
    gi_wp2
    clear hI
    rintro W2 ⟨g1, g2, g3, g4, g5, g6⟩
    obtain ⟨k, c⟩ := s
    cases k with
    | zero => cases g1
    | succ k =>
      simp only [rb_go] at g1
      have e0 := (blk_cell g2 0).trans rfl
      have e1 := (blk_cell g3 0).trans rfl
      have e2 := (blk_cell g4 0).trans rfl
      have e3 := (blk_cell g5 0).trans rfl
      have f1 := blk_frozen g3 0
      have f2 := blk_frozen g4 0
      have hx := (rb_mx_range c).1
      have G1 := Aside0.mk g1
      have G2 := Aside0.mk g2
      have G3 := Aside0.mk g3
      have G4 := Aside0.mk g4
      have G5 := Aside0.mk g5
      have G6 := Aside0.mk g6
      clear g1 g2 g3 g4 g5 g6 B0 B1 B2 B3 B4 HB Hq HR
      generalize hv : rb_rest 1 = v at *
      generalize hxx : rb_mx c = x at *
      have HV := Aside0.mk hv
      have HXX := Aside0.mk hxx
      clear hv hxx
      have hw : IntKind.u64.wrap 1 = 1 := IntWalk.u64_in _ (by omega)
      have ht : Int.tmod x 1 = x % 1 := IntWalk.rem_in _ _ hx
      have hw2 : IntKind.i64.wrap (x % 1) = x % 1 := IntWalk.i64_in _ (by have z1 := Int.emod_nonneg x (show 1 ≠ 0 by omega); have z2 := Int.emod_lt_of_pos x (show 0 < 1 by omega); omega)
      by_cases c1 : x < IntKind.u64.wrap (-v)
      · have c1b : decide (x < IntKind.u64.wrap (-v)) = true := decide_eq_true c1
        have hr := G1.out
        rw [if_pos (show rb_acc 1 x = true by unfold rb_acc; rw [HV.out, c1b]; rfl)] at hr
        simp only [Option.some.injEq, Prod.mk.injEq] at hr
        obtain ⟨rfl, hr2⟩ := hr
        have HR2 := Aside0.mk hr2
        clear c1 hr2 G1
        gi_wp2
        gi_region
        all_goals (gi_wp2; exact below_close G3.out G4.out G6.out (by first | exact HR2.out | (rw [← HR2.out, Int.emod_one]; rfl)) _ rfl)
      · have c1b : decide (x < IntKind.u64.wrap (-v)) = false := decide_eq_false c1
        by_cases c2 : v = 0
        · have c2b : (v == 0) = true := beq_iff_eq.mpr c2
          have hr := G1.out
          rw [if_pos (show rb_acc 1 x = true by unfold rb_acc; rw [HV.out, c1b]; simp [c2])] at hr
          simp only [Option.some.injEq, Prod.mk.injEq] at hr
          obtain ⟨rfl, hr2⟩ := hr
          have HR2 := Aside0.mk hr2
          clear c1 c2 hr2 G1
          gi_wp2
          gi_region
          all_goals (gi_wp2; exact below_close G3.out G4.out G6.out (by first | exact HR2.out | (rw [← HR2.out, Int.emod_one]; rfl)) _ rfl)
        · have c2b : (v == 0) = false := beq_eq_false_iff_ne.mpr c2
          have hr := G1.out
          rw [if_neg (show ¬ rb_acc 1 x = true by unfold rb_acc; rw [HV.out, c1b]; simp [c2])] at hr
          have HN := Aside0.mk hr
          clear c1 c2 hr G1
          gi_wp2
          exact ⟨KeepsOthers.refl _, ⟨Nat.le_refl _, fun _ _ => rfl⟩, (k, rb_nx c), ⟨rfl, rfl⟩, HN.out, G2.out, G3.out, G4.out, G5.out, G6.out⟩
  case done => intro D s W _ hm; exact absurd trivial hm
  case stop =>
    rintro D c W hD ⟨rfl, h3, h4, h6⟩ hd
    have SZ1 := SZ.out
    gi_wp2
    exact below_end (by omega) rfl rfl h3 h4 h6 hd
end Go.Proofs.Ytaofanhdmfdlmaa.Print

/-
What is proved: random.below is the first number of the state's that is not refused, modulo n. Condition: 2 ≤ n ≤ 512.
-/
namespace Go.Proofs.Ytaofanhdmfdlmaa.Print
open Go Go.RowKit Go.Proofs.YtaofanhdmfdlmaaW.PrintWords Go.Proofs.YtaofanhdmfdlmaaW.PrintLast Go.Proofs.YtaofanhdmfdlmaaW.PrintMore Go.Proofs.Ytaofanhdmfdlmaa.Rng
attribute [local go_sem] Oper.semAt_some
set_option linter.unusedVariables false

set_option maxHeartbeats 4000000 in
set_option maxRecDepth 100000 in
theorem below_more (a0 a1 r1 r2 : Int) (w : World) (h1 : 1 ≤ a1) (h2 : a1 ≤ 512) (hone : ¬ a1 = 1) (HR : Aside0 (rb_go rb_fuel a0 a1 = some (r1, r2))) :
    Calls Try.prog 83 #[.int .u64 a0, .int .i64 a1] w fun e w' => e = .returned (.tuple #[.int .u64 r1, .int .i64 r2]) ∧ Below w.heap.size w w' := by
  obtain ⟨q, hq⟩ := div64_at (max a1 2) (by omega) (by omega)
  obtain ⟨rs, hrs⟩ : ∃ rs, rs = rb_res (max a1 2) := ⟨_, rfl⟩
  rw [← hrs] at hq
  have Hq := Aside0.mk hq
  have hb : (a1 == 1) = false := beq_eq_false_iff_ne.mpr hone
  have hz : (a1 == 0) = false := beq_eq_false_iff_ne.mpr (by omega)
  have hz2 : ¬ a1 = 0 := by omega
  have hrest := Aside0.mk (show rb_rest a1 = rs by unfold rb_rest; rw [if_neg hone, hrs]; congr 1; omega)
  clear hq hrs
  refine callsIn_wide.1 (callsIn_of_wp_marks (n := 6) Try.func83 rfl trivial ?_ rfl)
  simp only [Try.ntmps83, List.size_toArray, List.length_cons, List.length_nil, Nat.reduceAdd, Nat.reduceSub, Array.replicate_succ, Array.replicate_zero, List.push_toArray, List.append_toArray, List.nil_append, List.cons_append]
  gi_wp2_with fail
  refine ⟨trivial, ?_⟩
  refine callsIn_wide.2 ((bits_Div64.calls 6 1 0 (max a1 2) q rs _ Hq.out).mono ?_)
  rintro e w' ⟨rfl, ⟨nd, rfl⟩⟩
  gi_wp2
  refine ⟨trivial, ?_⟩
  refine callsIn_wide.2 ((numbers_calls a0 _).mono ?_)
  rintro e w2 ⟨rfl, hw2⟩
  have B0 := (Aside0.mk (show w2.heap[w.heap.size]? = some (.cells #[.int .i64 a1] 3 (0, 0)) by
    rw [hw2]; refine blk_alloc ?_ _; refine blk_alloc ?_ _; refine blk_drewN ?_ _; refine blk_alloc ?_ _; refine blk_alloc ?_ _; exact new_at _ rfl))
  have B1 := (Aside0.mk (show w2.heap[w.heap.size + 1]? = some (.cells #[.int .u64 0] 25 (0, 0)) by
    rw [hw2]; refine blk_alloc ?_ _; refine blk_alloc ?_ _; refine blk_drewN ?_ _; refine blk_alloc ?_ _; exact new_at _ (by simp)))
  have B2 := (Aside0.mk (show w2.heap[w.heap.size + 2]? = some (.cells #[.int .i64 0] 3 (0, 0)) by
    rw [hw2]; refine blk_alloc ?_ _; refine blk_alloc ?_ _; refine blk_drewN ?_ _; exact new_at _ (by simp)))
  have B3 := (Aside0.mk (show w2.heap[w.heap.size + 3]? = some (.cells #[.int .u64 (rb_rest a1)] 25 (0, 0)) by
    rw [hw2, hrest.out]; refine blk_alloc ?_ _; exact new_at _ (by simp)))
  have B4 := (Aside0.mk (show w2.heap[w.heap.size + 4]? = some (.cells #[.int .u64 a0] 25 (0, 0)) by
    rw [hw2]; exact new_at _ (by simp)))
  have HB := (Aside0.mk (show Below w.heap.size w w2 by
    rw [hw2]; exact below_alloc (below_alloc (pw_below_drewN (below_alloc (below_alloc (below_alloc (Below.refl _ _) _) _) _) nd) _) _))
  have SZ := Aside0.mk (show w2.heap.size = w.heap.size + 5 by rw [hw2]; simp)
  clear hw2
  gi_wp2
  trace "range"
  refine wpIn_rng (σ := Nat × Int) (gf := 146) (lb := #[.pointer (some ⟨w.heap.size + 1 + 1 + 1 + 1, 0, none⟩)]) rfl (by decide) rfl trivial (enters_of Try.func146 (by kernel_rfl) rfl)
    (numbers_iter (w.heap.size + 4) (rb_fuel, a0) w2 B4.out (fun s s' => s.1 = s'.1 + 1 ∧ s'.2 = rb_nx s.2) (fun s s' h => ⟨by omega, h.2⟩)) (fun _ => rfl)
    (fun b hb => by have := SZ.out; omega) (fun b hb => by have := SZ.out; omega)
    (fun s W => rb_go s.1 s.2 a1 = some (r1, r2) ∧ W.heap[w.heap.size]? = some (.cells #[.int .i64 a1] 3 (0, 0)) ∧ W.heap[w.heap.size + 1]? = some (.cells #[.int .u64 0] 25 (0, 0)) ∧
      W.heap[w.heap.size + 2]? = some (.cells #[.int .i64 0] 3 (0, 0)) ∧ W.heap[w.heap.size + 3]? = some (.cells #[.int .u64 (rb_rest a1)] 25 (0, 0)) ∧ Below w.heap.size w W)
    (fun c W => c = .ret ∧ W.heap[w.heap.size + 1]? = some (.cells #[.int .u64 r1] 25 (0, 0)) ∧ W.heap[w.heap.size + 2]? = some (.cells #[.int .i64 r2] 3 (0, 0)) ∧ Below w.heap.size w W)
    ?stab ?stabx (fun _ _ _ => trivial) ⟨HR.out, B0.out, B1.out, B2.out, B3.out, HB.out⟩ ?round ?done ?stop
  case stab =>
    rintro s A B ⟨h1, h2, h3, h4, h5, h6⟩ hf
    have := SZ.out
    exact ⟨h1, hf.blk h2 (by omega) (by omega), hf.blk h3 (by omega) (by omega), hf.blk h4 (by omega) (by omega), hf.blk h5 (by omega) (by omega), hf.below h6 (Nat.le_refl _) (fun b hb => by omega) (by omega)⟩
  case stabx =>
    rintro c A B ⟨h1, h3, h4, h6⟩ hf
    have := SZ.out
    exact ⟨h1, hf.blk h3 (by omega) (by omega), hf.blk h4 (by omega) (by omega), hf.below h6 (Nat.le_refl _) (fun b hb => by omega) (by omega)⟩
  case round =>
    intro l s W hI _ K hK
    gi_wp2
    clear hI
    rintro W2 ⟨g1, g2, g3, g4, g5, g6⟩
    obtain ⟨k, c⟩ := s
    cases k with
    | zero => cases g1
    | succ k =>
      simp only [rb_go] at g1
      have e0 := (blk_cell g2 0).trans rfl
      have e1 := (blk_cell g3 0).trans rfl
      have e2 := (blk_cell g4 0).trans rfl
      have e3 := (blk_cell g5 0).trans rfl
      have f1 := blk_frozen g3 0
      have f2 := blk_frozen g4 0
      have hx := (rb_mx_range c).1
      have G1 := Aside0.mk g1
      have G2 := Aside0.mk g2
      have G3 := Aside0.mk g3
      have G4 := Aside0.mk g4
      have G5 := Aside0.mk g5
      have G6 := Aside0.mk g6
      clear g1 g2 g3 g4 g5 g6 B0 B1 B2 B3 B4 HB Hq HR
      generalize hv : rb_rest a1 = v at *
      generalize hxx : rb_mx c = x at *
      have HV := Aside0.mk hv
      have HXX := Aside0.mk hxx
      clear hv hxx
      have hw : IntKind.u64.wrap a1 = a1 := IntWalk.u64_in _ (by omega)
      have ht : Int.tmod x a1 = x % a1 := IntWalk.rem_in _ _ hx
      have hw2 : IntKind.i64.wrap (x % a1) = x % a1 := IntWalk.i64_in _ (by have z1 := Int.emod_nonneg x (show a1 ≠ 0 by omega); have z2 := Int.emod_lt_of_pos x (show 0 < a1 by omega); omega)
      by_cases c1 : x < IntKind.u64.wrap (-v)
      · have c1b : decide (x < IntKind.u64.wrap (-v)) = true := decide_eq_true c1
        have hr := G1.out
        rw [if_pos (show rb_acc a1 x = true by unfold rb_acc; rw [HV.out, c1b]; rfl)] at hr
        simp only [Option.some.injEq, Prod.mk.injEq] at hr
        obtain ⟨rfl, hr2⟩ := hr
        have HR2 := Aside0.mk hr2
        clear c1 hr2 G1
        gi_wp2
        gi_region
        all_goals (gi_wp2; exact below_close G3.out G4.out G6.out (by first | exact HR2.out | (rw [← HR2.out, Int.emod_one]; rfl)) _ rfl)
      · have c1b : decide (x < IntKind.u64.wrap (-v)) = false := decide_eq_false c1
        by_cases c2 : v = 0
        · have c2b : (v == 0) = true := beq_iff_eq.mpr c2
          have hr := G1.out
          rw [if_pos (show rb_acc a1 x = true by unfold rb_acc; rw [HV.out, c1b]; simp [c2])] at hr
          simp only [Option.some.injEq, Prod.mk.injEq] at hr
          obtain ⟨rfl, hr2⟩ := hr
          have HR2 := Aside0.mk hr2
          clear c1 c2 hr2 G1
          gi_wp2
          gi_region
          all_goals (gi_wp2; exact below_close G3.out G4.out G6.out (by first | exact HR2.out | (rw [← HR2.out, Int.emod_one]; rfl)) _ rfl)
        · have c2b : (v == 0) = false := beq_eq_false_iff_ne.mpr c2
          have hr := G1.out
          rw [if_neg (show ¬ rb_acc a1 x = true by unfold rb_acc; rw [HV.out, c1b]; simp [c2])] at hr
          have HN := Aside0.mk hr
          clear c1 c2 hr G1
          gi_wp2
          exact ⟨KeepsOthers.refl _, ⟨Nat.le_refl _, fun _ _ => rfl⟩, (k, rb_nx c), ⟨rfl, rfl⟩, HN.out, G2.out, G3.out, G4.out, G5.out, G6.out⟩
  case done => intro D s W _ hm; exact absurd trivial hm
  case stop =>
    rintro D c W hD ⟨rfl, h3, h4, h6⟩ hd
    have SZ1 := SZ.out
    gi_wp2
    exact below_end (by omega) rfl rfl h3 h4 h6 hd
end Go.Proofs.Ytaofanhdmfdlmaa.Print

/-
What is proved: random.below is the first number of the state's that is not refused, modulo n. Condition: 1 ≤ n ≤ 512.
-/
namespace Go.Proofs.Ytaofanhdmfdlmaa.Print
open Go Go.RowKit Go.Proofs.YtaofanhdmfdlmaaW.PrintWords Go.Proofs.YtaofanhdmfdlmaaW.PrintLast Go.Proofs.YtaofanhdmfdlmaaW.PrintMore Go.Proofs.Ytaofanhdmfdlmaa.Rng
theorem random_below.calls (a0 : Int) (a1 : Int) (r1 : Int) (r2 : Int) (w : World) (h : random_below.f a0 a1 = some (r1, r2)) :
    Calls Try.prog 83 #[.int .u64 a0, .int .i64 a1] w fun e w' => e = .returned (.tuple #[.int .u64 r1, .int .i64 r2]) ∧ Below w.heap.size w w' := by
  unfold random_below.f at h
  by_cases hc : 1 ≤ a1 ∧ a1 ≤ 512
  case neg => rw [if_neg hc] at h; cases h
  rw [if_pos hc] at h
  by_cases hone : a1 = 1
  · subst hone; exact below_one a0 r1 r2 w ⟨h⟩
  · exact below_more a0 a1 r1 r2 w hc.1 hc.2 hone ⟨h⟩
end Go.Proofs.Ytaofanhdmfdlmaa.Print

-- PRINTED by print.py (a twelfth state) out of the translation. Not trusted: Lean checks it.
namespace Go.Proofs.Ytaofanhdmfdlmaa.Print
open Go.RowKit Go.Proofs.YtaofanhdmfdlmaaW.PrintWords Go.Proofs.YtaofanhdmfdlmaaW.PrintLast Go.Proofs.YtaofanhdmfdlmaaW.PrintMore
attribute [local go_sem] max2_int min2_int max_two min_two max_three min_three max_four min_four   -- for this text's walks alone
set_option linter.unusedVariables false
set_option linter.unusedSimpArgs false

/-! ### random_Shuffle: function 23 -/
mutual
def random_Shuffle.l0 : Nat → Int → Int → List Int → Int → Int → Option (Int × List Int × Int)
  | 0, _, _, _, _, _ => none
  | k + 1, x0, x1, x7, x14, x15 => if x15 < x14 then (if x7.length < 17592186044416 then (random_Shuffle.l0 k x0 x1 (x7 ++ [x15]) x14 (wrap64 (x15 + 1))) else (none)) else (random_Shuffle.l1 k x0 x7 (wrap64 (x1 - 1)))
def random_Shuffle.l1 : Nat → Int → List Int → Int → Option (Int × List Int × Int)
  | 0, _, _, _ => none
  | k + 1, x0, x7, x9 => if x9 > 0 then ((random_below.f x0 (wrap64 (x9 + 1))).bind fun bt299 => (if 0 ≤ bt299.2 then (if bt299.2 < (x7.length : Int) then (if 0 ≤ x9 then (if x9 < (x7.length : Int) then (random_Shuffle.l1 k bt299.1 ((x7.set (x9 : Int).toNat (rd x7 bt299.2)).set (bt299.2 : Int).toNat (rd x7 x9)) (wrap64 (x9 - 1))) else (none)) else (none)) else (none)) else (none))) else (some (x0, x7, 0))
end
def random_Shuffle.f (k : Nat) (a0 : Int) (a1 : Int) : Option (Int × List Int × Int) := (random_sized.f a1).bind fun t295 => (if t295 = true then (random_Shuffle.l0 k a0 a1 ([] : List Int) a1 0) else (some (0, ([] : List Int), 2)))
def random_Shuffle.T14 : Bool × List (List Nat × List Nat) := (true, [([], []), ([], []), ([], []), ([], []), ([], []), ([], []), ([4, 5], [4, 5]), ([6], [6]), ([], []), ([], []), ([8, 9], [8, 9]), ([10], [10]), ([0, 1, 0, 1, 4, 5, 6, 7, 11], [0, 1]), ([12, 7, 0, 1, 4, 5, 6, 7, 11], [7, 12]), ([2, 3, 0, 1, 2, 3, 4, 5, 6, 7, 8, 9, 10, 11, 12, 13], [2, 3]), ([14, 11, 13, 0, 1, 2, 3, 4, 5, 6, 7, 8, 9, 10, 11, 12, 13], [11, 14])])
def random_Shuffle.B14 : List Nat := [0, 0, 0, 0, 0, 0, 48, 112, 0, 0, 768, 1792, 4083, 8179, 16383, 32767]
theorem random_Shuffle.tab14 : rtab .any (opsOf Try.f23 14) = random_Shuffle.T14 := by kernel_rfl
theorem random_Shuffle.bits14 : waitsOk random_Shuffle.T14.2 random_Shuffle.B14 = true := by kernel_rfl
set_option maxHeartbeats 8000000 in
set_option maxRecDepth 100000 in
theorem random_Shuffle.calls (k : Nat) (a0 : Int) (a1 : Int) (r1 : Int) (r2 : List Int) (r3 : Int) (w : World) (h : random_Shuffle.f k a0 a1 = some (r1, r2, r3)) :
    Calls Try.prog 23 #[.int .u64 a0, .int .i64 a1] w fun e w' => ∃ v1_ : Value, e = .returned (.tuple #[.int .u64 r1, v1_, .int .i64 r3]) ∧ Kd.R (Kd.int .i64) 3 w' w.heap.size (fun _ => True) v1_ r2 ∧ Below w.heap.size w w' := by
  have HB := Aside0.mk (Below.refl w.heap.size w)
  have H : ((random_sized.f a1).bind fun t295 => (if t295 = true then (random_Shuffle.l0 k a0 a1 ([] : List Int) a1 0) else (some (0, ([] : List Int), 2)))) = some (r1, r2, r3) := h
  clear h
  replace H := Option.bind_eq_some_iff.mp H
  obtain ⟨t295, A30, H⟩ := H
  replace H : (if t295 = true then (random_Shuffle.l0 k a0 a1 ([] : List Int) a1 0) else (some (0, ([] : List Int), 2))) = some (r1, r2, r3) := H
  have A3 := Aside0.mk A30
  clear A30
  by_cases c4 : t295 = true
  · subst c4
    have H1 : (random_Shuffle.l0 k a0 a1 ([] : List Int) a1 0) = some (r1, r2, r3) := by rw [if_pos rfl] at H; exact H
    clear H
    have H := H1
    clear H1
    have H' := Aside0.mk H
    clear H
    go_enter Try.func23, Try.ntmps23
    go_wp2_with (first | ((with_reducible refine gate_callee (f := 82) rfl ?_); refine goesL_ (some 12) rfl rfl Try.func82 (by kernel_rfl) rfl #[.int .i64 a1] rfl (by (try simp only [List.map_toArray, List.map_cons, List.map_nil]); first | done | rfl | (simp only [List.length_drop, List.length_take]; rfl)) ?_; (with_reducible refine (random_sized.calls a1 true _ A3.out).mono ?_); rintro e w' ⟨rfl, ⟨nd, rfl⟩⟩; refine ⟨_, rfl, ?_⟩))
    go_loopg [7, 15] k (fun kq v7 v15 w' => ∃ (x7_1 : List Int) (x15_1 : Int), v15 = .int .i64 x15_1 ∧ Aside0 (random_Shuffle.l0 kq a0 a1 x7_1 a1 x15_1 = some (r1, r2, r3)) ∧ Aside0 (kq ≤ k) ∧ Aside0 (Kd.R (Kd.int .i64) 3 w' w.heap.size (fun _ => True) v7 x7_1) ∧ Aside0 (Below w.heap.size w w'))
    case atStart => exact ⟨(([] : List Int)), (0), (by first | rfl | (simp; done) | (simp [*]; done)), H', ⟨Nat.le_refl _⟩, ⟨by first | exact Kd.R_nil _ _ _ _ _ | exact Kd.N_nil _ _ _ _ _ | exact Kd.V_nil _ _ _ _ _ | exact Kd.Q_nil _ _ _ _ _ | exact Kd.S_nil _ _ _ _ _⟩, ⟨by repeat (first | (with_reducible first | exact HB.out | apply below_alloc | apply pw_below_drewN | apply below_drew1) | exact HB.out)⟩⟩
    case round =>
      clear H'
      try clear c2
      try clear p2
      try clear c4
      obtain ⟨x7_1, x15_1, rfl, HA, HK1, HO_7, HB⟩ := hrel
      cases gk with
      | zero => exact absurd HA.out (by simp [random_Shuffle.l0])
      | succ k1 =>
        have H := HA.out
        clear HA
        simp only [random_Shuffle.l0] at H
        by_cases c5 : x15_1 < a1
        · rw [if_pos c5] at H
          have c5b0 : decide (x15_1 < a1) = true := decide_eq_true c5
          clear c5
          by_cases c6 : x7_1.length < 17592186044416
          · rw [if_pos c6] at H
            have LMc6 := Aside0.mk c6
            clear c6
            obtain ⟨y296, hy296⟩ : ∃ y_ : List Int, y_ = (x7_1 ++ [x15_1]) := ⟨_, rfl⟩
            replace H : (random_Shuffle.l0 k1 a0 a1 y296 a1 (wrap64 (x15_1 + 1))) = some (r1, r2, r3) := by first | (rw [hy296]; with_reducible exact H) | (have H2_ := (Option.bind_some _ _).symm.trans H; rw [hy296]; with_reducible exact H2_) | (have H2_ := (Option.bind_some _ _).symm.trans H; with_reducible exact H2_) | with_reducible exact H | (rw [hy296]; exact H) | exact H
            have Ny296 := Aside0.mk hy296
            clear hy296
            have H' := Aside0.mk H
            clear H
            go_wp2_with (first | ((with_reducible refine gate_builtin (b := .append) (xs := #[.tmp 18, .tmp 20]) rfl ?_); at_builtin; refine Kd.R_append (Kd.int .i64) (w0 := w) w.heap.size rfl (.tmp 18) (.tmp 20) 40 3 (.int .i64 0) 8 rfl Try.underlying40 info3 rfl (by decide) (by omega) u7 x7_1 x15_1 [.int .i64 x15_1] (fun _ => True) (fun _ => False) rfl rfl ?aP (fun _ hk => hk.elim) ?aF ?aO ?aB ?aS ?aL ?_; (case aP => exact rfl); (case aB => exact (by repeat (first | (with_reducible first | exact HB.out | apply below_alloc | apply pw_below_drewN | apply below_drew1) | exact HB.out))); (case aF => exact (fun _ _ => trivial)); (case aO => exact (by (with_reducible repeat (first | apply Kd.R_alloc | apply Kd.R_drewN | apply Kd.R_drew)); exact HO_7.out)); (case aS => exact (below_size (by repeat (first | (with_reducible first | exact HB.out | apply below_alloc | apply pw_below_drewN | apply below_drew1) | exact HB.out)))); (case aL => have := LMc6.out; omega); intro v297 w7 ho hb hg hat; rw [← Ny296.out] at ho; have n0_ := Aside0.mk (hb); have n1_ := Aside0.mk (ho); clear HB; clear HO_7; have HB := n0_; have HO298 := n1_; clear n0_ n1_; clear ho hb hg hat))
            go_roundg k1
            case measure => have := HK1.out; omega
            case rel => exact ⟨(y296), (wrap64 (x15_1 + 1)), (by first | rfl | (simp; done) | (simp [*]; done)), H', ⟨by have := HK1.out; omega⟩, ⟨by (with_reducible repeat (first | apply Kd.R_alloc | apply Kd.R_drewN | apply Kd.R_drew)); exact HO298.out⟩, ⟨by repeat (first | (with_reducible first | exact HB.out | apply below_alloc | apply pw_below_drewN | apply below_drew1) | exact HB.out)⟩⟩
          · rw [if_neg c6] at H
            exact absurd H (by simp)
        · rw [if_neg c5] at H
          have c5b0 : decide (x15_1 < a1) = false := decide_eq_false c5
          clear c5
          have H' := Aside0.mk H
          clear H
          go_wp2
          go_loopg [0, 9] k1 (fun kq v0 v9 w' => ∃ (x0_2 : Int) (x7_2 : List Int) (x9_2 : Int), v0 = .int .u64 x0_2 ∧ v9 = .int .i64 x9_2 ∧ Aside0 (random_Shuffle.l1 kq x0_2 x7_2 x9_2 = some (r1, r2, r3)) ∧ Aside0 (kq ≤ k1) ∧ Aside0 (Kd.R (Kd.int .i64) 3 w' w.heap.size (fun _ => True) u7 x7_2) ∧ Aside0 (Below w.heap.size w w'))
          case atStart => exact ⟨(a0), (x7_1), (wrap64 (a1 - 1)), (by first | rfl | (simp; done) | (simp [*]; done)), (by first | rfl | (simp; done) | (simp [*]; done)), H', ⟨Nat.le_refl _⟩, ⟨by (with_reducible repeat (first | apply Kd.R_alloc | apply Kd.R_drewN | apply Kd.R_drew)); exact HO_7.out⟩, ⟨by repeat (first | (with_reducible first | exact HB.out | apply below_alloc | apply pw_below_drewN | apply below_drew1) | exact HB.out)⟩⟩
          case round =>
            clear H'
            try clear c2
            try clear p2
            try clear c4
            try clear c5
            try clear c5b0
            try clear c6
            try clear p6
            try clear p2
            obtain ⟨x0_2, x7_2, x9_2, rfl, rfl, HA, HK2, HO_7, HB⟩ := hrel
            cases gk with
            | zero => exact absurd HA.out (by simp [random_Shuffle.l1])
            | succ k2 =>
              have H := HA.out
              clear HA
              simp only [random_Shuffle.l1] at H
              by_cases c8 : x9_2 > 0
              · rw [if_pos c8] at H
                have c8b0 : decide (0 < x9_2) = true := decide_eq_true c8
                clear c8
                replace H := Option.bind_eq_some_iff.mp H
                obtain ⟨⟨t299, t300⟩, A90, H⟩ := H
                replace H : (if 0 ≤ t300 then (if t300 < (x7_2.length : Int) then (if 0 ≤ x9_2 then (if x9_2 < (x7_2.length : Int) then (random_Shuffle.l1 k2 t299 ((x7_2.set (x9_2 : Int).toNat (rd x7_2 t300)).set (t300 : Int).toNat (rd x7_2 x9_2)) (wrap64 (x9_2 - 1))) else (none)) else (none)) else (none)) else (none)) = some (r1, r2, r3) := H
                have A9 := Aside0.mk A90
                clear A90
                by_cases c10 : 0 ≤ t300
                · rw [if_pos c10] at H
                  have c10b0 : decide (0 ≤ t300) = true := decide_eq_true c10
                  clear c10
                  by_cases c11 : t300 < (x7_2.length : Int)
                  · rw [if_pos c11] at H
                    have c11b0 : decide (t300 < (x7_2.length : Int)) = true := decide_eq_true c11
                    clear c11
                    by_cases c12 : 0 ≤ x9_2
                    · rw [if_pos c12] at H
                      have c12b0 : decide (0 ≤ x9_2) = true := decide_eq_true c12
                      clear c12
                      by_cases c13 : x9_2 < (x7_2.length : Int)
                      · rw [if_pos c13] at H
                        have c13b0 : decide (x9_2 < (x7_2.length : Int)) = true := decide_eq_true c13
                        clear c13
                        obtain ⟨y303, hy303⟩ : ∃ y_ : List Int, y_ = (x7_2.set (x9_2 : Int).toNat (rd x7_2 t300)) := ⟨_, rfl⟩
                        replace H : (random_Shuffle.l1 k2 t299 (y303.set (t300 : Int).toNat (rd x7_2 x9_2)) (wrap64 (x9_2 - 1))) = some (r1, r2, r3) := by first | (rw [hy303]; with_reducible exact H) | (have H2_ := (Option.bind_some _ _).symm.trans H; rw [hy303]; with_reducible exact H2_) | (have H2_ := (Option.bind_some _ _).symm.trans H; with_reducible exact H2_) | with_reducible exact H | (rw [hy303]; exact H) | exact H
                        have Ny303 := Aside0.mk hy303
                        clear hy303
                        obtain ⟨y304, hy304⟩ : ∃ y_ : List Int, y_ = (y303.set (t300 : Int).toNat (rd x7_2 x9_2)) := ⟨_, rfl⟩
                        replace H : (random_Shuffle.l1 k2 t299 y304 (wrap64 (x9_2 - 1))) = some (r1, r2, r3) := by first | (rw [hy304]; with_reducible exact H) | (have H2_ := (Option.bind_some _ _).symm.trans H; rw [hy304]; with_reducible exact H2_) | (have H2_ := (Option.bind_some _ _).symm.trans H; with_reducible exact H2_) | with_reducible exact H | (rw [hy304]; exact H) | exact H
                        have Ny304 := Aside0.mk hy304
                        clear hy304
                        have H' := Aside0.mk H
                        clear H
                        try go_wp2_with (first | ((with_reducible refine gate_callee (f := 83) rfl ?_); refine goesL_ (some 33) rfl rfl Try.func83 (by kernel_rfl) rfl #[.int .u64 x0_2, .int .i64 (wrap64 (x9_2 + 1))] rfl (by (try simp only [List.map_toArray, List.map_cons, List.map_nil]); first | done | rfl | (simp only [List.length_drop, List.length_take]; rfl)) ?_; (with_reducible refine (random_below.calls x0_2 (wrap64 (x9_2 + 1)) t299 t300 _ A9.out).mono ?_); rintro e w16 ⟨rfl, hb⟩; refine ⟨_, rfl, ?_⟩; have n0_ := Aside0.mk (Kd.R_below (by (with_reducible repeat (first | apply Kd.R_alloc | apply Kd.R_drewN | apply Kd.R_drew)); exact HO_7.out) hb); have n1_ := Aside0.mk (below_step (by repeat (first | (with_reducible first | exact HB.out | apply below_alloc | apply pw_below_drewN | apply below_drew1) | exact HB.out)) hb); clear HO_7; clear HB; have HO_7 := n0_; have HB := n1_; clear n0_ n1_; (try clear hb); (try clear hb2); (try clear hk); (try clear hi)))
                        have n0_ := Aside0.mk (Kd.R_drew HO_7.out)
                        have n1_ := Aside0.mk (below_drew1 HB.out)
                        clear HO_7
                        clear HB
                        have HO_7 := n0_
                        have HB := n1_
                        clear n0_ n1_
                        obtain ⟨Ao18, co18, eo18⟩ := Kd.R_slice HO_7.out
                        (first | subst eo18 | (injection eo18 with f1_ f2_ f3_; have f4_ := f1_.symm; have f5_ := f3_.symm; clear f1_ f2_ f3_; subst f4_; subst f5_))
                        have p301 : 0 ≤ (t300 : Int) := of_decide_eq_true (by first | (with_reducible assumption) | assumption)
                        have q301 : t300 < (x7_2.length : Int) := of_decide_eq_true (by first | (with_reducible assumption) | assumption)
                        obtain ⟨ad301, e301, hx301_0⟩ := Kd.at_int (Kd.R_reads' HO_7.out).2.2 t300 p301 q301
                        cases e301
                        replace p301 := eq_true p301
                        replace q301 := eq_true q301
                        have p302 : 0 ≤ (x9_2 : Int) := of_decide_eq_true (by first | (with_reducible assumption) | assumption)
                        have q302 : x9_2 < (x7_2.length : Int) := of_decide_eq_true (by first | (with_reducible assumption) | assumption)
                        obtain ⟨ad302, e302, hx302_0⟩ := Kd.at_int (Kd.R_reads' HO_7.out).2.2 x9_2 p302 q302
                        obtain rfl : ad301 = ad302 := (by injection e302)
                        replace p302 := eq_true p302
                        replace q302 := eq_true q302
                        have p14 : 0 ≤ (x9_2 : Int) := of_decide_eq_true (by first | (with_reducible assumption) | assumption)
                        have q14 : (x9_2 : Int) < ((x7_2.length : Int) : Int) := of_decide_eq_true (by first | (with_reducible assumption) | assumption)
                        obtain ⟨go14, co14, eo14, gb14, gl14, cl14, HG14⟩ := Kd.R_form HO_7.out (by omega)
                        (first | cases eo14 | (injection eo14 with ea_ en_ ec_; (first | subst ea_ | (injection ea_ with ea_; subst ea_)); subst ec_; clear en_))
                        have GB14 := Aside0.mk gb14
                        have GG14 := Aside0.mk HG14
                        clear gb14 gl14 HG14
                        (first | simp only [add_plain] at hx301_0 | skip)
                        (first | simp only [add_plain] at hx302_0 | skip)
                        obtain ⟨hx14_0, hf14_0⟩ := Kd.R_celln 0 HO_7.out (x9_2 : Int) p14 q14
                        replace p14 := eq_true p14
                        replace q14 := eq_true q14
                        have HP19 := Kd.R_putn HO_7.out (x9_2 : Int) (rd x7_2 t300)
                        rw [← Ny303.out] at HP19
                        have HQ19 := Aside0.mk HP19
                        clear HP19
                        have p15 : 0 ≤ (t300 : Int) := of_decide_eq_true (by first | (with_reducible assumption) | assumption)
                        have q15 : (t300 : Int) < ((x7_2.length : Int) : Int) := of_decide_eq_true (by first | (with_reducible assumption) | assumption)
                        obtain ⟨hx15_0, hf15_0⟩ := Kd.R_celln 0 HQ19.out (t300 : Int) p15 q15
                        replace p15 := eq_true p15
                        replace q15 := eq_true q15
                        have HP20 := Kd.R_putn HQ19.out (t300 : Int) (rd x7_2 x9_2)
                        rw [← Ny304.out] at HP20
                        have HQ20 := Aside0.mk HP20
                        clear HP20
                        refine start_ (n := 16) (S := fun w' => w'.cell? ⟨go14, (t300).toNat, none⟩ = some (.int .i64 (rd x7_2 t300)) ∧ w'.cell? ⟨go14, (x9_2).toNat, none⟩ = some (.int .i64 (rd x7_2 x9_2))) (ds := [13, 15]) #[false, false, false, false, false, false, false, false, false, false, false, false, false, false, false, false] (by kernel_rfl) rfl rfl ⟨hx301_0, hx302_0⟩ (fun hHeld => ?_); refine with_tabW random_Shuffle.tab14 random_Shuffle.bits14 (fun HT_ HW_ => ?_)
                        generalize w16.drew = w17 at HO_7 HB GG14 HQ19 HQ20 hf14_0 hf15_0 hx14_0 hx15_0 hx301_0 hx302_0 hHeld ⊢
                        refine pure_ (i := 0) (N := some 36) (v := ?_) (a' := ?_) #[true, false, false, false, false, false, false, false, false, false, false, false, false, false, false, false] rfl rfl (any_of HT_.out (by kernel_rfl)) (fun _ _ _ h => h) (Or.inl ⟨by rfl, ?_⟩) ?_ ?_
                        rotate_left
                        · intro w'
                          go_simp
                          with_reducible rfl
                        rotate_left
                        · simp only [Act.put, List.setIfInBounds_toArray, List.set_cons_zero, List.set_cons_succ, i64_w, i32_w]
                          rfl
                        refine pure_ (i := 1) (N := some 37) (v := ?_) (a' := ?_) #[true, true, false, false, false, false, false, false, false, false, false, false, false, false, false, false] rfl rfl (any_of HT_.out (by kernel_rfl)) (fun _ _ _ h => h) (Or.inl ⟨by rfl, ?_⟩) ?_ ?_
                        rotate_left
                        · intro w'
                          go_simp
                          with_reducible rfl
                        rotate_left
                        · simp only [Act.put, List.setIfInBounds_toArray, List.set_cons_zero, List.set_cons_succ, i64_w, i32_w]
                          rfl
                        refine pure_ (i := 2) (N := some 38) (v := ?_) (a' := ?_) #[true, true, true, false, false, false, false, false, false, false, false, false, false, false, false, false] rfl rfl (any_of HT_.out (by kernel_rfl)) (fun _ _ _ h => h) (Or.inl ⟨by rfl, ?_⟩) ?_ ?_
                        rotate_left
                        · intro w'
                          go_simp
                          with_reducible rfl
                        rotate_left
                        · simp only [Act.put, List.setIfInBounds_toArray, List.set_cons_zero, List.set_cons_succ, i64_w, i32_w]
                          rfl
                        refine pure_ (i := 3) (N := some 39) (v := ?_) (a' := ?_) #[true, true, true, true, false, false, false, false, false, false, false, false, false, false, false, false] rfl rfl (any_of HT_.out (by kernel_rfl)) (fun _ _ _ h => h) (Or.inl ⟨by rfl, ?_⟩) ?_ ?_
                        rotate_left
                        · intro w'
                          go_simp
                          with_reducible rfl
                        rotate_left
                        · simp only [Act.put, List.setIfInBounds_toArray, List.set_cons_zero, List.set_cons_succ, i64_w, i32_w]
                          rfl
                        refine pure_ (i := 4) (N := some 40) (v := ?_) (a' := ?_) #[true, true, true, true, true, false, false, false, false, false, false, false, false, false, false, false] rfl rfl (any_of HT_.out (by kernel_rfl)) (fun _ _ _ h => h) (Or.inl ⟨by rfl, ?_⟩) ?_ ?_
                        rotate_left
                        · intro w'
                          go_simp
                          with_reducible rfl
                        rotate_left
                        · simp only [Act.put, List.setIfInBounds_toArray, List.set_cons_zero, List.set_cons_succ, i64_w, i32_w]
                          rfl
                        refine pure_ (i := 5) (N := some 41) (v := ?_) (a' := ?_) #[true, true, true, true, true, true, false, false, false, false, false, false, false, false, false, false] rfl rfl (any_of HT_.out (by kernel_rfl)) (fun _ _ _ h => h) (Or.inl ⟨by rfl, ?_⟩) ?_ ?_
                        rotate_left
                        · intro w'
                          go_simp
                          with_reducible rfl
                        rotate_left
                        · simp only [Act.put, List.setIfInBounds_toArray, List.set_cons_zero, List.set_cons_succ, i64_w, i32_w]
                          rfl
                        refine pure_ (i := 6) (N := some 42) (v := ?_) (a' := ?_) #[true, true, true, true, true, true, true, false, false, false, false, false, false, false, false, false] rfl rfl (any_of HT_.out (by kernel_rfl)) (fun _ _ _ h => h) (Or.inl ⟨by rfl, ?_⟩) ?_ ?_
                        rotate_left
                        · intro w'
                          go_simp
                          with_reducible rfl
                        rotate_left
                        · simp only [Act.put, List.setIfInBounds_toArray, List.set_cons_zero, List.set_cons_succ, i64_w, i32_w]
                          rfl
                        refine pure_ (i := 8) (N := some 44) (v := ?_) (a' := ?_) #[true, true, true, true, true, true, true, false, true, false, false, false, false, false, false, false] rfl rfl (any_of HT_.out (by kernel_rfl)) (fun _ _ _ h => h) (Or.inl ⟨by rfl, ?_⟩) ?_ ?_
                        rotate_left
                        · intro w'
                          go_simp
                          with_reducible rfl
                        rotate_left
                        · simp only [Act.put, List.setIfInBounds_toArray, List.set_cons_zero, List.set_cons_succ, i64_w, i32_w]
                          rfl
                        refine pure_ (i := 9) (N := some 45) (v := ?_) (a' := ?_) #[true, true, true, true, true, true, true, false, true, true, false, false, false, false, false, false] rfl rfl (any_of HT_.out (by kernel_rfl)) (fun _ _ _ h => h) (Or.inl ⟨by rfl, ?_⟩) ?_ ?_
                        rotate_left
                        · intro w'
                          go_simp
                          with_reducible rfl
                        rotate_left
                        · simp only [Act.put, List.setIfInBounds_toArray, List.set_cons_zero, List.set_cons_succ, i64_w, i32_w]
                          rfl
                        refine pure_ (i := 10) (N := some 46) (v := ?_) (a' := ?_) #[true, true, true, true, true, true, true, false, true, true, true, false, false, false, false, false] rfl rfl (any_of HT_.out (by kernel_rfl)) (fun _ _ _ h => h) (Or.inl ⟨by rfl, ?_⟩) ?_ ?_
                        rotate_left
                        · intro w'
                          go_simp
                          with_reducible rfl
                        rotate_left
                        · simp only [Act.put, List.setIfInBounds_toArray, List.set_cons_zero, List.set_cons_succ, i64_w, i32_w]
                          rfl
                        refine take_ (i := 7) (N := some 43) (v := ?_) (a' := ?_) #[true, true, true, true, true, true, true, true, true, true, true, false, false, false, false, false] rfl rfl (take_ofW HT_.out HW_.out (by kernel_rfl)) (fun _ _ _ h => h) (Or.inl ⟨by rfl, ?_⟩) hHeld ?_ ?_
                        rotate_left
                        · rintro w' ⟨s0, s1⟩
                          go_simp
                          with_reducible rfl
                        rotate_left
                        · simp only [Act.put, List.setIfInBounds_toArray, List.set_cons_zero, List.set_cons_succ, i64_w, i32_w]
                          rfl
                        refine take_ (i := 11) (N := some 47) (v := ?_) (a' := ?_) #[true, true, true, true, true, true, true, true, true, true, true, true, false, false, false, false] rfl rfl (take_ofW HT_.out HW_.out (by kernel_rfl)) (fun _ _ _ h => h) (Or.inl ⟨by rfl, ?_⟩) hHeld ?_ ?_
                        rotate_left
                        · rintro w' ⟨s0, s1⟩
                          go_simp
                          with_reducible rfl
                        rotate_left
                        · simp only [Act.put, List.setIfInBounds_toArray, List.set_cons_zero, List.set_cons_succ, i64_w, i32_w]
                          rfl
                        refine pure_ (i := 12) (N := some 48) (v := ?_) (a' := ?_) #[true, true, true, true, true, true, true, true, true, true, true, true, true, false, false, false] rfl rfl (any_of HT_.out (by kernel_rfl)) (fun _ _ _ h => h) (Or.inl ⟨by rfl, ?_⟩) ?_ ?_
                        rotate_left
                        · intro w'
                          go_simp
                          with_reducible rfl
                        rotate_left
                        · simp only [Act.put, List.setIfInBounds_toArray, List.set_cons_zero, List.set_cons_succ, i64_w, i32_w]
                          rfl
                        refine last_ (i := 13) (N := none) #[true, true, true, true, true, true, true, true, true, true, true, true, true, true, false, false] rfl rfl (one_of HT_.out (by kernel_rfl)) (by decide) (fun K hK => ?_)
                        refine skip_ (w1 := ?_) (by rfl) rfl ?_ ?_
                        rotate_left
                        · go_simp
                          rfl
                        refine hK.out _ _ ?_
                        clear hK K
                        refine pure_ (i := 14) (N := some 49) (v := ?_) (a' := ?_) #[true, true, true, true, true, true, true, true, true, true, true, true, true, true, true, false] rfl rfl (any_of HT_.out (by kernel_rfl)) (fun _ _ _ h => h) (Or.inl ⟨by rfl, ?_⟩) ?_ ?_
                        rotate_left
                        · intro w'
                          go_simp
                          with_reducible rfl
                        rotate_left
                        · simp only [Act.put, List.setIfInBounds_toArray, List.set_cons_zero, List.set_cons_succ, i64_w, i32_w]
                          rfl
                        refine last_ (i := 15) (N := none) #[true, true, true, true, true, true, true, true, true, true, true, true, true, true, true, true] rfl rfl (one_of HT_.out (by kernel_rfl)) (by decide) (fun K hK => ?_)
                        refine skip_ (w1 := ?_) (by rfl) rfl ?_ ?_
                        rotate_left
                        · go_simp
                          rfl
                        refine hK.out _ _ ?_
                        clear hK K
                        refine done_ (done_of HT_.out (by kernel_rfl)) ?_
                        try go_wp2
                        go_roundg k2
                        case measure => have := HK1.out; have := HK2.out; omega
                        case rel => exact ⟨(t299), (y304), (wrap64 (x9_2 - 1)), (by first | rfl | (simp; done) | (simp [*]; done)), (by first | rfl | (simp; done) | (simp [*]; done)), H', ⟨by have := HK1.out; have := HK2.out; omega⟩, ⟨by (with_reducible repeat (first | apply Kd.R_alloc | apply Kd.R_drewN | apply Kd.R_drew)); exact HQ20.out⟩, ⟨by repeat (first | (with_reducible first | exact HB.out | apply below_alloc | apply pw_below_drewN | apply below_drew1 | refine below_set ?_ GB14.out | refine below_set ?_ GB14.out) | exact HB.out)⟩⟩
                      · rw [if_neg c13] at H
                        exact absurd H (by simp)
                    · rw [if_neg c12] at H
                      exact absurd H (by simp)
                  · rw [if_neg c11] at H
                    exact absurd H (by simp)
                · rw [if_neg c10] at H
                  exact absurd H (by simp)
              · rw [if_neg c8] at H
                have c8b0 : decide (0 < x9_2) = false := decide_eq_false c8
                clear c8
                simp only [Option.some.injEq, Prod.mk.injEq] at H
                obtain ⟨rfl, rfl, rfl⟩ := H
                go_wp2
                go_ret3
                exact ⟨_, by first | rfl | (simp [errW_none, errW_some] <;> rfl) | (simp [*, errW_none, errW_some] <;> rfl), by (with_reducible repeat (first | apply Kd.R_alloc | apply Kd.R_drewN | apply Kd.R_drew)); exact HO_7.out, by repeat (first | (with_reducible first | exact HB.out | apply below_alloc | apply pw_below_drewN | apply below_drew1) | exact HB.out)⟩
  · replace c4 := Bool.eq_false_iff.mpr c4
    subst c4
    have H1 : (some (0, ([] : List Int), 2)) = some (r1, r2, r3) := by rw [if_neg (show ¬ (false = true) by decide)] at H; exact H
    clear H
    have H := H1
    clear H1
    simp only [Option.some.injEq, Prod.mk.injEq] at H
    obtain ⟨rfl, rfl, rfl⟩ := H
    go_enter Try.func23, Try.ntmps23
    go_wp2_with (first | ((with_reducible refine gate_callee (f := 82) rfl ?_); refine goesL_ (some 12) rfl rfl Try.func82 (by kernel_rfl) rfl #[.int .i64 a1] rfl (by (try simp only [List.map_toArray, List.map_cons, List.map_nil]); first | done | rfl | (simp only [List.length_drop, List.length_take]; rfl)) ?_; (with_reducible refine (random_sized.calls a1 false _ A3.out).mono ?_); rintro e w' ⟨rfl, ⟨nd, rfl⟩⟩; refine ⟨_, rfl, ?_⟩))
    go_ret3
    exact ⟨_, by first | rfl | (simp [errW_none, errW_some] <;> rfl) | (simp [*, errW_none, errW_some] <;> rfl), by first | exact Kd.R_nil _ _ _ _ _ | exact Kd.N_nil _ _ _ _ _ | exact Kd.V_nil _ _ _ _ _ | exact Kd.Q_nil _ _ _ _ _ | exact Kd.S_nil _ _ _ _ _, by repeat (first | (with_reducible first | exact HB.out | apply below_alloc | apply pw_below_drewN | apply below_drew1) | exact HB.out)⟩

/-! ### downpourlaw06_alive: function 25 -/
/-! ### random_Below: function 52 -/
end Go.Proofs.Ytaofanhdmfdlmaa.Print

/-
What is proved: slices.Sort at []int sorts a row of the call's own in place (the library's sort, out of the shelf). Condition: the row is one of the call's own, shorter than 2^62.
-/
namespace Go.Proofs.Ytaofanhdmfdlmaa.Print
open Go Go.RowKit Go.Proofs.YtaofanhdmfdlmaaW.PrintWords Go.Proofs.YtaofanhdmfdlmaaW.PrintLast Go.Proofs.YtaofanhdmfdlmaaW.PrintMore Go.Sort
set_option linter.unusedVariables false

def slices_Sort_int_int.f (l0 : List Int) : Option (List Int) := if l0.length < 4611686018427387904 then some (l0.mergeSort fun x y => decide (x ≤ y)) else none

theorem sorti_block {w : World} {g n : Nat} {cur : Array Value} {t : TypeId} (d : Array Int) (h : w.heap[g]? = some (.cells cur t (0, 0))) (m : Nat) (os : Array Obj) :
    (grow (putRow (Value.int .i64) (Go.Sort.ahead w m) g 0 d) os).heap[g]? = some (.cells (putCells (Value.int .i64) 0 d cur) t (0, 0)) := by
  have hlt : g < w.heap.size := (Array.getElem?_eq_some_iff.1 h).1
  have h1 : (putRow (Value.int .i64) (Go.Sort.ahead w m) g 0 d).heap[g]? = some (.cells (putCells (Value.int .i64) 0 d cur) t (0, 0)) := by
    unfold putRow mapBlock Go.Sort.ahead
    simp only [Array.getElem?_modify, if_true, h, Option.map_some]
    rfl
  show ((putRow (Value.int .i64) (Go.Sort.ahead w m) g 0 d).heap ++ os)[g]? = _
  rw [Array.getElem?_append_left (by simp [Go.Sort.ahead]; exact hlt)]
  exact h1
theorem sorti_other {w : World} {g i : Nat} (d : Array Int) (m : Nat) (os : Array Obj) (hi : i < w.heap.size) (hne : i ≠ g) :
    (grow (putRow (Value.int .i64) (Go.Sort.ahead w m) g 0 d) os).heap[i]? = w.heap[i]? := by
  show ((putRow (Value.int .i64) (Go.Sort.ahead w m) g 0 d).heap ++ os)[i]? = _
  rw [Array.getElem?_append_left (by simp [Go.Sort.ahead]; exact hi)]
  unfold putRow mapBlock Go.Sort.ahead
  simp only [Array.getElem?_modify]
  rw [if_neg (Ne.symm hne)]
theorem sorti_size {w : World} {g : Nat} (d : Array Int) (m : Nat) (os : Array Obj) : w.heap.size ≤ (grow (putRow (Value.int .i64) (Go.Sort.ahead w m) g 0 d) os).heap.size := by
  show _ ≤ ((putRow (Value.int .i64) (Go.Sort.ahead w m) g 0 d).heap ++ os).size
  rw [Array.size_append]; simp [Go.Sort.ahead]
theorem sorti_cells (cur : Array Value) (l : List Int) (hn : l.length ≤ cur.size) : (putCells (Value.int .i64) 0 l.toArray cur).toList.take l.length = encs (Value.int .i64) l := by
  apply List.ext_getElem?
  intro k
  by_cases hk : k < l.length
  · rw [List.getElem?_take_of_lt hk]
    simp only [putCells, Array.getElem?_toList, Array.getElem?_mapIdx, encs, List.getElem?_map]
    rw [Array.getElem?_eq_getElem (by omega), List.getElem?_eq_getElem hk]
    simp [hk]
  · rw [List.getElem?_eq_none (by simp; omega), List.getElem?_eq_none (by simp [encs]; omega)]

theorem slices_Sort_int_int.calls (P0_ : Nat → Prop) (u9000_ : Value) (l0 : List Int) (r : List Int) (w0 w : World) (hB : Below w0.heap.size w0 w) (ho0 : Kd.R (Kd.int .i64) 3 w w0.heap.size P0_ u9000_ l0) (h : slices_Sort_int_int.f l0 = some r) :
    Calls Try.prog 84 #[u9000_] w fun e w' => e = .returned (.tuple #[]) ∧ Kd.R (Kd.int .i64) 3 w' w0.heap.size (fun k_ => (P0_ k_ ∨ w.heap.size ≤ k_)) u9000_ r ∧ Below w0.heap.size w0 w' ∧ Kept w w' (fun k_ => P0_ k_) := by
  unfold slices_Sort_int_int.f at h
  by_cases hlen : l0.length < 4611686018427387904
  case neg => rw [if_neg hlen] at h; cases h
  rw [if_pos hlen] at h
  obtain rfl := Option.some.inj h
  have ho := Kd.own_of_R ho0
  have hr1 : (l0.mergeSort fun x y => decide (x ≤ y)).length = l0.length := List.length_mergeSort _
  rcases ho.2 with ⟨rfl, hn⟩ | ⟨g, cap, cur, rfl, hg, hh, hnc, hcm, hcs, hcur⟩
  · have : l0 = [] := List.eq_nil_of_length_eq_zero hn
    subst this
    refine (Try.slices_Sort_int_none none 0 w).mono ?_
    rintro e w' ⟨rfl, rfl⟩
    refine ⟨rfl, ?_, hB, Nat.le_refl _, fun _ _ _ => rfl⟩
    simp only [List.mergeSort_nil]
    exact Kd.R_nil _ _ _ _ _
  · have hlt : g < w.heap.size := (Array.getElem?_eq_some_iff.1 hh).1
    have hsz : l0.length ≤ cur.size := by omega
    refine (Try.slices_Sort_int g 0 cap l0 w ?_ hlt hlen).mono ?_
    · intro j hj
      have hj' : j < l0.length := by simpa using hj
      refine ⟨?_, by simp [World.frozen?, hh]⟩
      have hc : cur[j]? = some (Value.int .i64 l0[j]) := by
        have h3 := congrArg (fun l => l[j]?) hcur
        simp only [Nat.mul_one] at h3
        rw [List.getElem?_take_of_lt hj'] at h3
        simpa [encs, hj'] using h3
      simp [World.cell?, hh, hc, hj']
    · rintro e w' ⟨rfl, m, os, rfl⟩
      have hb := sorti_block (n := 0) (l0.mergeSort fun x y => decide (x ≤ y)).toArray hh m os
      refine ⟨rfl, ?_, ?_, sorti_size _ _ _, fun i hi hS => sorti_other _ _ _ hi (fun e => hS (by subst e; exact ho0.1 _ rfl))⟩
      · refine Kd.R_of_own ⟨by rw [encs_length, Nat.mul_one], .inr ⟨g, cap, _, by rw [hr1], hg, hb, by rw [hr1]; exact hnc, hcm, by simp [putCells]; omega, ?_⟩⟩ (fun k hk => ?_)
        · rw [Nat.mul_one, hr1, ← hr1]; exact sorti_cells cur _ (by rw [hr1]; exact hsz)
        · have hk' : g = k := by simpa [Value.ownBlock] using hk
          subst hk'; exact .inl (ho0.1 _ rfl)
      · exact ⟨hB.os, hB.tape, hB.output, Nat.le_trans hB.size (sorti_size _ _ _), fun i hi => (sorti_other _ _ _ (Nat.lt_of_lt_of_le hi hB.size) (by omega)).trans (hB.block i hi)⟩
end Go.Proofs.Ytaofanhdmfdlmaa.Print

/-
What is proved: random.Some: so many of an order, sorted, or refused. Condition: none (beside what the order's own contract asks).
-/
namespace Go.Proofs.Ytaofanhdmfdlmaa.Print
open Go Go.RowKit Go.Proofs.YtaofanhdmfdlmaaW.PrintWords Go.Proofs.YtaofanhdmfdlmaaW.PrintLast Go.Proofs.YtaofanhdmfdlmaaW.PrintMore
set_option linter.unusedVariables false

def random_Some.f (k : Nat) (a0 a1 a2 : Int) : Option (Int × List Int × Int) :=
  (random_sized.f a1).bind fun s => if s = false ∨ a2 < 0 ∨ a1 < a2 then some (0, [], 2) else
    (random_Shuffle.f k a0 a1).bind fun t => if a2.toNat ≤ t.2.1.length ∧ t.2.2 = 0 then (slices_Sort_int_int.f (t.2.1.take a2.toNat)).bind fun m => some (t.1, m, 0) else none
set_option maxHeartbeats 4000000 in
theorem random_Some.calls (k : Nat) (a0 : Int) (a1 : Int) (a2 : Int) (r1 : Int) (r2 : List Int) (r3 : Int) (w : World) (h : random_Some.f k a0 a1 a2 = some (r1, r2, r3)) :
    Calls Try.prog 24 #[.int .u64 a0, .int .i64 a1, .int .i64 a2] w fun e w' => ∃ v1_ : Value, e = .returned (.tuple #[.int .u64 r1, v1_, .int .i64 r3]) ∧ Kd.R (Kd.int .i64) 3 w' w.heap.size (fun _ => True) v1_ r2 ∧ Below w.heap.size w w' := by
  unfold random_Some.f at h
  obtain ⟨sb, hs, h⟩ := Option.bind_eq_some_iff.1 h
  have HS := Aside0.mk hs
  clear hs
  by_cases hc : sb = false ∨ a2 < 0 ∨ a1 < a2
  · rw [if_pos hc] at h
    simp only [Option.some.injEq, Prod.mk.injEq] at h
    obtain ⟨rfl, rfl, rfl⟩ := h
    cases sb with
    | false =>
      clear hc
      go_enter Try.func24, Try.ntmps24
      go_wp2_with (go_at_call 82; refine (random_sized.calls a1 false _ HS.out).mono ?_; rintro e w' ⟨rfl, ⟨nd, rfl⟩⟩)
      go_ret3
      exact ⟨_, rfl, Kd.R_nil _ _ _ _ _, pw_below_drewN (Below.refl _ _) _⟩
    | true =>
      by_cases hneg : a2 < 0
      · have hnb : decide (a2 < 0) = true := decide_eq_true hneg
        clear hc
        go_enter Try.func24, Try.ntmps24
        go_wp2_with (go_at_call 82; refine (random_sized.calls a1 true _ HS.out).mono ?_; rintro e w' ⟨rfl, ⟨nd, rfl⟩⟩)
        go_ret3
        exact ⟨_, rfl, Kd.R_nil _ _ _ _ _, pw_below_drewN (Below.refl _ _) _⟩
      · have hgt : a1 < a2 := by rcases hc with hc | hc | hc; cases hc; exact absurd hc hneg; exact hc
        have hnb : decide (a2 < 0) = false := decide_eq_false hneg
        have hgb : decide (a1 < a2) = true := decide_eq_true hgt
        clear hc
        go_enter Try.func24, Try.ntmps24
        go_wp2_with (go_at_call 82; refine (random_sized.calls a1 true _ HS.out).mono ?_; rintro e w' ⟨rfl, ⟨nd, rfl⟩⟩)
        go_ret3
        exact ⟨_, rfl, Kd.R_nil _ _ _ _ _, pw_below_drewN (Below.refl _ _) _⟩
  · rw [if_neg hc] at h
    obtain ⟨⟨s, l, z⟩, hsh, h⟩ := Option.bind_eq_some_iff.1 h
    by_cases hl : a2.toNat ≤ l.length ∧ z = 0
    case neg => rw [if_neg hl] at h; cases h
    rw [if_pos hl] at h
    obtain ⟨m, hm, h⟩ := Option.bind_eq_some_iff.1 h
    simp only [Option.some.injEq, Prod.mk.injEq] at h
    obtain ⟨rfl, rfl, rfl⟩ := h
    obtain ⟨hl, rfl⟩ := hl
    obtain rfl : sb = true := by cases sb; exact absurd (.inl rfl) hc; rfl
    have h0 : 0 ≤ a2 := by omega
    have h1 : a2 ≤ a1 := by omega
    obtain ⟨n, rfl⟩ := Int.eq_ofNat_of_zero_le h0
    simp only [Int.toNat_natCast] at hl hm
    have hnb : decide ((n : Int) < 0) = false := decide_eq_false (by omega)
    have hgb : decide (a1 < (n : Int)) = false := decide_eq_false (by omega)
    have HSH := Aside0.mk hsh
    have HM := Aside0.mk hm
    have HL := Aside0.mk hl
    clear hc hsh hm h0 h1 hl
    go_enter Try.func24, Try.ntmps24
    go_wp2_with (go_at_call 82; refine (random_sized.calls a1 true _ HS.out).mono ?_; rintro e w' ⟨rfl, ⟨nd, rfl⟩⟩)
    refine (random_Shuffle.calls k a0 a1 _ _ _ _ HSH.out).mono ?_
    rintro e w1 ⟨v, rfl, hv, hb⟩
    obtain ⟨A, c, rfl, hc1, _⟩ := Kd.R_reads hv
    have HV := Aside0.mk hv
    have HB := Aside0.mk hb
    clear hv hb
    have hn1 := HL.out
    go_wp2_with fail
    have HT : Kd.R (Kd.int .i64) 3 w1 w.heap.size (fun _ => True) (.slice A n c) (l.take n) := Kd.R_take HV.out HL.out
    have HB1 : Below w.heap.size w w1 := (pw_below_drewN (Below.refl _ w) nd).trans HB.out
    refine (slices_Sort_int_int.calls (fun _ => True) _ (l.take n) m w w1 HB1 HT HM.out).mono ?_
    rintro e w2 ⟨rfl, hR, hB2, _⟩
    have HR2 := Aside0.mk (Kd.R_mono hR (fun _ _ => trivial) : Kd.R (Kd.int .i64) 3 w2 w.heap.size (fun _ => True) (.slice A n c) m)
    have HB2 := Aside0.mk hB2
    clear hR hB2 HT HB1 HV HB HS HSH HM
    go_wp2
    go_region
    all_goals (go_wp2; go_ret3; exact ⟨_, rfl, by (with_reducible repeat (first | apply Kd.R_drewN | apply Kd.R_drew)); exact HR2.out, below_drew HB2.out⟩)
end Go.Proofs.Ytaofanhdmfdlmaa.Print

