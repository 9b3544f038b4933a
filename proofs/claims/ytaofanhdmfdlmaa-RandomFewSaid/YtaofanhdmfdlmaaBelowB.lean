/-
What is proved: random.below is the first number of the state's that is not refused, modulo n. Condition: 2 ≤ n ≤ 512.
-/
import Derived.Test.YtaofanhdmfdlmaaBelowDef
import Derived.RegionIn
import Derived.OpenShut
import Derived.RegionTactic
import Derived.Test.YtaofanhdmfdlmaaPrint87
import Derived.Test.YtaofanhdmfdlmaaDivAt
import Derived.Test.YtaofanhdmfdlmaaPrint64
namespace Go.Proofs.Ytaofanhdmfdlmaa.Print
open Go Go.RowKit Go.Proofs.YtaofanhdmfdlmaaW.PrintWords Go.Proofs.YtaofanhdmfdlmaaW.PrintLast Go.Proofs.YtaofanhdmfdlmaaW.PrintMore Go.Proofs.Ytaofanhdmfdlmaa.Rng
attribute [local go_sem] Oper.semAt_some
set_option linter.unusedVariables false

set_option maxHeartbeats 4000000 in
set_option maxRecDepth 100000 in
theorem below_more (a0 a1 r1 r2 : Int) (w : World) (h1 : 1 ≤ a1) (h2 : a1 ≤ 512) (hone : ¬ a1 = 1) (HR : Aside0 (rb_go rb_fuel a0 a1 = some (r1, r2))) :
    Calls Try.prog 83 #[.int .u64 a0, .int .i64 a1] w fun e w' => e = .returned (.tuple #[.int .u64 r1, .int .i64 r2]) ∧ Below w.heap.size w w' := by
  obtain ⟨q, hq⟩ := div64_at (max a1 2) (by omega) (by omega)
  obtain ⟨rs, hrs⟩ : ∃ rs, rs = rb_res (max a1 2) := ⟨_, rfl⟩
  rw [← hrs] at hq
  have Hq := Aside0.mk hq
  have hb : (a1 == 1) = false := beq_eq_false_iff_ne.mpr hone
  have hz : (a1 == 0) = false := beq_eq_false_iff_ne.mpr (by omega)
  have hz2 : ¬ a1 = 0 := by omega
  have hrest := Aside0.mk (show rb_rest a1 = rs by unfold rb_rest; rw [if_neg hone, hrs]; congr 1; omega)
  clear hq hrs
  refine callsIn_wide.1 (callsIn_of_wp_marks (n := 6) Try.func83 rfl trivial ?_ rfl)
  simp only [Try.ntmps83, List.size_toArray, List.length_cons, List.length_nil, Nat.reduceAdd, Nat.reduceSub, Array.replicate_succ, Array.replicate_zero, List.push_toArray, List.append_toArray, List.nil_append, List.cons_append]
  gi_wp2_with fail
  refine ⟨trivial, ?_⟩
  refine callsIn_wide.2 ((bits_Div64.calls 6 1 0 (max a1 2) q rs _ Hq.out).mono ?_)
  rintro e w' ⟨rfl, ⟨nd, rfl⟩⟩
  gi_wp2
  refine ⟨trivial, ?_⟩
  refine callsIn_wide.2 ((numbers_calls a0 _).mono ?_)
  rintro e w2 ⟨rfl, hw2⟩
  have B0 := (Aside0.mk (show w2.heap[w.heap.size]? = some (.cells #[.int .i64 a1] 3 (0, 0)) by
    rw [hw2]; refine blk_alloc ?_ _; refine blk_alloc ?_ _; refine blk_drewN ?_ _; refine blk_alloc ?_ _; refine blk_alloc ?_ _; exact new_at _ rfl))
  have B1 := (Aside0.mk (show w2.heap[w.heap.size + 1]? = some (.cells #[.int .u64 0] 25 (0, 0)) by
    rw [hw2]; refine blk_alloc ?_ _; refine blk_alloc ?_ _; refine blk_drewN ?_ _; refine blk_alloc ?_ _; exact new_at _ (by simp)))
  have B2 := (Aside0.mk (show w2.heap[w.heap.size + 2]? = some (.cells #[.int .i64 0] 3 (0, 0)) by
    rw [hw2]; refine blk_alloc ?_ _; refine blk_alloc ?_ _; refine blk_drewN ?_ _; exact new_at _ (by simp)))
  have B3 := (Aside0.mk (show w2.heap[w.heap.size + 3]? = some (.cells #[.int .u64 (rb_rest a1)] 25 (0, 0)) by
    rw [hw2, hrest.out]; refine blk_alloc ?_ _; exact new_at _ (by simp)))
  have B4 := (Aside0.mk (show w2.heap[w.heap.size + 4]? = some (.cells #[.int .u64 a0] 25 (0, 0)) by
    rw [hw2]; exact new_at _ (by simp)))
  have HB := (Aside0.mk (show Below w.heap.size w w2 by
    rw [hw2]; exact below_alloc (below_alloc (pw_below_drewN (below_alloc (below_alloc (below_alloc (Below.refl _ _) _) _) _) nd) _) _))
  have SZ := Aside0.mk (show w2.heap.size = w.heap.size + 5 by rw [hw2]; simp)
  clear hw2
  gi_wp2
  trace "range"
  refine wpIn_rng (σ := Nat × Int) (gf := 146) (lb := #[.pointer (some ⟨w.heap.size + 1 + 1 + 1 + 1, 0, none⟩)]) rfl (by decide) rfl trivial (enters_of Try.func146 (by kernel_rfl) rfl)
    (numbers_iter (w.heap.size + 4) (rb_fuel, a0) w2 B4.out (fun s s' => s.1 = s'.1 + 1 ∧ s'.2 = rb_nx s.2) (fun s s' h => ⟨by omega, h.2⟩)) (fun _ => rfl)
    (fun b hb => by have := SZ.out; omega) (fun b hb => by have := SZ.out; omega)
    (fun s W => rb_go s.1 s.2 a1 = some (r1, r2) ∧ W.heap[w.heap.size]? = some (.cells #[.int .i64 a1] 3 (0, 0)) ∧ W.heap[w.heap.size + 1]? = some (.cells #[.int .u64 0] 25 (0, 0)) ∧
      W.heap[w.heap.size + 2]? = some (.cells #[.int .i64 0] 3 (0, 0)) ∧ W.heap[w.heap.size + 3]? = some (.cells #[.int .u64 (rb_rest a1)] 25 (0, 0)) ∧ Below w.heap.size w W)
    (fun c W => c = .ret ∧ W.heap[w.heap.size + 1]? = some (.cells #[.int .u64 r1] 25 (0, 0)) ∧ W.heap[w.heap.size + 2]? = some (.cells #[.int .i64 r2] 3 (0, 0)) ∧ Below w.heap.size w W)
    ?stab ?stabx (fun _ _ _ => trivial) ⟨HR.out, B0.out, B1.out, B2.out, B3.out, HB.out⟩ ?round ?done ?stop
  case stab =>
    rintro s A B ⟨h1, h2, h3, h4, h5, h6⟩ hf
    have := SZ.out
    exact ⟨h1, hf.blk h2 (by omega) (by omega), hf.blk h3 (by omega) (by omega), hf.blk h4 (by omega) (by omega), hf.blk h5 (by omega) (by omega), hf.below h6 (Nat.le_refl _) (fun b hb => by omega) (by omega)⟩
  case stabx =>
    rintro c A B ⟨h1, h3, h4, h6⟩ hf
    have := SZ.out
    exact ⟨h1, hf.blk h3 (by omega) (by omega), hf.blk h4 (by omega) (by omega), hf.below h6 (Nat.le_refl _) (fun b hb => by omega) (by omega)⟩
  case round =>
    intro l s W hI _ K hK
    gi_wp2
    clear hI
    rintro W2 ⟨g1, g2, g3, g4, g5, g6⟩
    obtain ⟨k, c⟩ := s
    cases k with
    | zero => cases g1
    | succ k =>
      simp only [rb_go] at g1
      have e0 := (blk_cell g2 0).trans rfl
      have e1 := (blk_cell g3 0).trans rfl
      have e2 := (blk_cell g4 0).trans rfl
      have e3 := (blk_cell g5 0).trans rfl
      have f1 := blk_frozen g3 0
      have f2 := blk_frozen g4 0
      have hx := (rb_mx_range c).1
      have G1 := Aside0.mk g1
      have G2 := Aside0.mk g2
      have G3 := Aside0.mk g3
      have G4 := Aside0.mk g4
      have G5 := Aside0.mk g5
      have G6 := Aside0.mk g6
      clear g1 g2 g3 g4 g5 g6 B0 B1 B2 B3 B4 HB Hq HR
      generalize hv : rb_rest a1 = v at *
      generalize hxx : rb_mx c = x at *
      have HV := Aside0.mk hv
      have HXX := Aside0.mk hxx
      clear hv hxx
      have hw : IntKind.u64.wrap a1 = a1 := IntWalk.u64_in _ (by omega)
      have ht : Int.tmod x a1 = x % a1 := IntWalk.rem_in _ _ hx
      have hw2 : IntKind.i64.wrap (x % a1) = x % a1 := IntWalk.i64_in _ (by have z1 := Int.emod_nonneg x (show a1 ≠ 0 by omega); have z2 := Int.emod_lt_of_pos x (show 0 < a1 by omega); omega)
      by_cases c1 : x < IntKind.u64.wrap (-v)
      · have c1b : decide (x < IntKind.u64.wrap (-v)) = true := decide_eq_true c1
        have hr := G1.out
        rw [if_pos (show rb_acc a1 x = true by unfold rb_acc; rw [HV.out, c1b]; rfl)] at hr
        simp only [Option.some.injEq, Prod.mk.injEq] at hr
        obtain ⟨rfl, hr2⟩ := hr
        have HR2 := Aside0.mk hr2
        clear c1 hr2 G1
        gi_wp2
        gi_region
        all_goals (gi_wp2; exact below_close G3.out G4.out G6.out (by first | exact HR2.out | (rw [← HR2.out, Int.emod_one]; rfl)) _ rfl)
      · have c1b : decide (x < IntKind.u64.wrap (-v)) = false := decide_eq_false c1
        by_cases c2 : v = 0
        · have c2b : (v == 0) = true := beq_iff_eq.mpr c2
          have hr := G1.out
          rw [if_pos (show rb_acc a1 x = true by unfold rb_acc; rw [HV.out, c1b]; simp [c2])] at hr
          simp only [Option.some.injEq, Prod.mk.injEq] at hr
          obtain ⟨rfl, hr2⟩ := hr
          have HR2 := Aside0.mk hr2
          clear c1 c2 hr2 G1
          gi_wp2
          gi_region
          all_goals (gi_wp2; exact below_close G3.out G4.out G6.out (by first | exact HR2.out | (rw [← HR2.out, Int.emod_one]; rfl)) _ rfl)
        · have c2b : (v == 0) = false := beq_eq_false_iff_ne.mpr c2
          have hr := G1.out
          rw [if_neg (show ¬ rb_acc a1 x = true by unfold rb_acc; rw [HV.out, c1b]; simp [c2])] at hr
          have HN := Aside0.mk hr
          clear c1 c2 hr G1
          gi_wp2
          exact ⟨KeepsOthers.refl _, ⟨Nat.le_refl _, fun _ _ => rfl⟩, (k, rb_nx c), ⟨rfl, rfl⟩, HN.out, G2.out, G3.out, G4.out, G5.out, G6.out⟩
  case done => intro D s W _ hm; exact absurd trivial hm
  case stop =>
    rintro D c W hD ⟨rfl, h3, h4, h6⟩ hd
    have SZ1 := SZ.out
    gi_wp2
    exact below_end (by omega) rfl rfl h3 h4 h6 hd
end Go.Proofs.Ytaofanhdmfdlmaa.Print
