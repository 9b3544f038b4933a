import Derived.Test.YtaofanhdmfdlmaaNrows2
import Derived.RegionIn
import Derived.OpenShut
import Derived.RegionTactic
import Derived.Test.YtaofanhdmfdlmaaNrows3
import Derived.Test.YtaofanhdmfdlmaaNrows0
/-
What is proved: numbers(state), seen from a loop; what the parts of random.below come to. Condition: none beside those written.
-/
namespace Go.Proofs.Ytaofanhdmfdlmaa.Print
open Go Go.RowKit Go.Proofs.YtaofanhdmfdlmaaW.PrintWords Go.Proofs.YtaofanhdmfdlmaaW.PrintLast Go.Proofs.YtaofanhdmfdlmaaW.PrintMore Go.Proofs.Ytaofanhdmfdlmaa.Rng
attribute [local go_sem] Oper.semAt_some
set_option linter.unusedVariables false

/-- The next state; its number. -/
def rb_nx (c : Int) : Int := IntKind.u64.wrap (c + 11400714819323198485)
def rb_mx (c : Int) : Int := ((random_Next.f c).getD (0, 0)).2
theorem rb_next (c : Int) : random_Next.f c = some (rb_nx c, rb_mx c) := rfl

/-- numbers(state), seen from a loop: from the state s.2 on; a round that goes on moves the state on. -/
theorem numbers_iter (Bs : Nat) (s0 : Nat × Int) (w : World) (hBs : w.heap[Bs]? = some (.cells #[.int .u64 s0.2] 25 (0, 0))) (next : Nat × Int → Nat × Int → Prop)
    (hnext : ∀ s s', next s s' → s'.1 < s.1 ∧ s'.2 = rb_nx s.2) :
    Iter Fence.wide 5 Try.prog 146 #[.pointer (some ⟨Bs, 0, none⟩)] (fun s : Nat × Int => #[.int .u64 (rb_nx s.2), .int .u64 (rb_mx s.2)]) (fun _ => True) next (fun b => b = Bs) (fun b => b = Bs) (fun _ _ => True) s0 w := by
  intro l J Jx W hW hJ hJx _ hY h0
  have hlt : Bs < w.heap.size := (Array.getElem?_eq_some_iff.1 hBs).1
  have hb0 : W.heap[Bs]? = some (.cells #[.int .u64 s0.2] 25 (0, 0)) := (hW.block Bs hlt).trans hBs
  have HY := Aside0.mk hY
  have HJ := Aside0.mk hJ
  have HN := Aside0.mk hnext
  have H0 := Aside0.mk h0
  have HB0 := Aside0.mk hb0
  clear hY hJ hJx hnext h0 hb0 hW hBs hlt
  refine callsIn_of_wp Try.func146 rfl trivial ?_ rfl
  simp only [Try.ntmps146, List.size_toArray, List.length_cons, List.length_nil, Nat.reduceAdd, Nat.reduceSub, Array.replicate_succ, Array.replicate_zero, List.push_toArray, List.append_toArray, List.nil_append, List.cons_append]
  gi_wp2
  gi_loopg [3] s0.1 (fun kq v wr => ∃ s : Nat × Int, Aside0 (s.1 = kq) ∧ Aside0 (wr.heap[Bs]? = some (.cells #[.int .u64 s.2] 25 (0, 0))) ∧ Aside0 (J s wr))
  case atStart => exact ⟨s0, ⟨rfl⟩, HB0, H0⟩
  case round =>
    obtain ⟨s, hk, hb, hj⟩ := hrel
    have hc : wr.cell? ⟨Bs, 0, none⟩ = some (.int .u64 s.2) := (blk_cell hb.out 0).trans rfl
    have hf := blk_frozen hb.out 0
    gi_wp2_with (refine ⟨trivial, ?_⟩; gi_at_call 134; refine callsIn_wide.2 ((random_Next.calls s.2 (rb_nx s.2) (rb_mx s.2) _ (rb_next _)).mono ?_); rintro e w' ⟨rfl, ⟨nd, rfl⟩⟩)
    have hstep : ItStep (fun b => b = Bs) wr ((wr.drewN nd).setCell ⟨Bs, 0, none⟩ (.int .u64 (rb_nx s.2))) :=
      (ItStep.of_below (Drawn0.below ⟨⟨nd, rfl⟩⟩)).trans (ItStep.set (It := fun b => b = Bs) (p := ⟨Bs, 0, none⟩) rfl _)
    have hb2 : ((wr.drewN nd).setCell ⟨Bs, 0, none⟩ (.int .u64 (rb_nx s.2))).heap[Bs]? = some (.cells #[.int .u64 (rb_nx s.2)] 25 (0, 0)) := by
      refine blk_put (cs := #[.int .u64 s.2]) ?_ 0 _ rfl
      exact blk_drewN hb.out nd
    have Hb2 := Aside0.mk hb2
    clear hb2
    obtain ⟨fn, tmps, assign, body, hy, hR⟩ := HY.out s _ (HJ.out s _ _ hj.out hstep) trivial
    clear hstep
    generalize hW3 : (wr.drewN nd).setCell ⟨Bs, 0, none⟩ (.int .u64 (rb_nx s.2)) = W3 at *
    clear hW3
    rw [hy]
    rw [Oper.uponIn_round]
    refine ⟨fun _ => by decide, hR.mono ?_⟩
    rintro e W4 (⟨rfl, hks, s', hn, hj4⟩ | ⟨rfl, hx4⟩)
    · have hn' := HN.out s s' hn
      have hb4 : W4.heap[Bs]? = some (.cells #[.int .u64 s'.2] 25 (0, 0)) := by rw [hn'.2]; exact (hks.2 Bs rfl).trans Hb2.out
      have Hb4 := Aside0.mk hb4
      have HK := Aside0.mk (show s'.1 < gk by rw [← hk.out]; exact hn'.1)
      have HJ4 := Aside0.mk hj4
      clear hb4 hn' hn hks hy hR hj4
      gi_wp2
      gi_roundg s'.1
      case measure => exact HK.out
      case rel => exact ⟨s', ⟨rfl⟩, Hb4, HJ4⟩
    · clear hy hR
      have HX := Aside0.mk hx4
      clear hx4
      gi_wp2
      refine bodyPost_ret (results_none rfl _ _ _) rfl ?_
      exact ⟨⟨_, rfl⟩, .inr HX.out⟩

def rb_rest (n : Int) : Int := if n = 1 then 0 else rb_res n
def rb_acc (n x : Int) : Bool := decide (x < IntKind.u64.wrap (-(rb_rest n))) || decide (rb_rest n = 0)
def rb_go : Nat → Int → Int → Option (Int × Int)
  | 0, _, _ => none
  | k + 1, c, n => if rb_acc n (rb_mx c) = true then some (rb_nx c, rb_mx c % n) else rb_go k (rb_nx c) n
def rb_fuel : Nat := 18446744073709551617
def random_below.f (a0 a1 : Int) : Option (Int × Int) := if 1 ≤ a1 ∧ a1 ≤ 512 then rb_go rb_fuel a0 a1 else none
theorem rb_mx_range (c : Int) : 0 ≤ rb_mx c ∧ rb_mx c ≤ 18446744073709551615 := by
  have h : ∃ a b, rb_mx c = Go.bits .xor .u64 a b := ⟨_, _, rfl⟩
  obtain ⟨a, b, h⟩ := h
  rw [h]
  have := bounds_u64 (wf_bits .xor .u64 a b)
  exact this

theorem numbers_calls (c : Int) (w : World) : Calls Try.prog 121 #[.int .u64 c] w fun e w' =>
    e = .returned (.func (.func 146) #[] #[.pointer (some ⟨w.heap.size, 0, none⟩)]) ∧ w' = w.alloc (.cells #[.int .u64 c] 25) := by
  go_enter Try.func121, Try.ntmps121
  go_wp2
  go_ret
  exact ⟨rfl, rfl⟩
theorem new_at {w : World} {k : Nat} (o : Obj) (h : w.heap.size = k) : (w.alloc o).heap[k]? = some o := by rw [← h]; exact World.alloc_heap_new w o

theorem below_close {w W2 : World} {r1 r2 v : Int} (g3 : W2.heap[w.heap.size + 1]? = some (.cells #[.int .u64 0] 25 (0, 0))) (g4 : W2.heap[w.heap.size + 2]? = some (.cells #[.int .i64 0] 3 (0, 0)))
    (g6 : Below w.heap.size w W2) (hv : v = r2) (W' : World) (hW : W' = ((W2.setCell ⟨w.heap.size + 1, 0, none⟩ (.int .u64 r1)).setCell ⟨w.heap.size + 1 + 1, 0, none⟩ (.int .i64 v)).drew) :
    KeepsOthers W2 W' ∧ Code.ret = Code.ret ∧ W'.heap[w.heap.size + 1]? = some (.cells #[.int .u64 r1] 25 (0, 0)) ∧ W'.heap[w.heap.size + 2]? = some (.cells #[.int .i64 r2] 3 (0, 0)) ∧ Below w.heap.size w W' := by
  subst hW hv
  have hne1 : ∀ (x : Value) (W : World), (W.setCell ⟨w.heap.size + 1 + 1, 0, none⟩ x).heap[w.heap.size + 1]? = W.heap[w.heap.size + 1]? := fun x W => Below.heap_setCell W _ x _ (by simp)
  have hne2 : ∀ (x : Value) (W : World), (W.setCell ⟨w.heap.size + 1, 0, none⟩ x).heap[w.heap.size + 2]? = W.heap[w.heap.size + 2]? := fun x W => Below.heap_setCell W _ x _ (by simp)
  refine ⟨((KeepsOthers.setCell _ _ _).trans (KeepsOthers.setCell _ _ _)).trans (KeepsOthers.drew _), rfl, ?_, ?_, ?_⟩
  · show ((W2.setCell ⟨w.heap.size + 1, 0, none⟩ (.int .u64 r1)).setCell ⟨w.heap.size + 1 + 1, 0, none⟩ (.int .i64 v)).heap[w.heap.size + 1]? = _
    rw [hne1]; exact blk_put g3 0 _ rfl
  · show ((W2.setCell ⟨w.heap.size + 1, 0, none⟩ (.int .u64 r1)).setCell ⟨w.heap.size + 1 + 1, 0, none⟩ (.int .i64 v)).heap[w.heap.size + 2]? = _
    exact blk_put (cs := #[.int .i64 0]) (by rw [hne2]; exact g4) 0 _ rfl
  · exact below_drew ((g6.setCell (p := ⟨w.heap.size + 1, 0, none⟩) (by simp) _).setCell (p := ⟨w.heap.size + 1 + 1, 0, none⟩) (by simp; omega) _)
theorem below_end {w W : World} {tmps : Array Value} {D : Nat} {r1 r2 : Int} (hD : w.heap.size + 5 ≤ D) (ht4 : tmps.getD 4 undef = .pointer (some ⟨w.heap.size + 1, 0, none⟩)) (ht5 : tmps.getD 5 undef = .pointer (some ⟨w.heap.size + 1 + 1, 0, none⟩))
    (h3 : W.heap[w.heap.size + 1]? = some (.cells #[.int .u64 r1] 25 (0, 0))) (h4 : W.heap[w.heap.size + 2]? = some (.cells #[.int .i64 r2] 3 (0, 0))) (h6 : Below w.heap.size w W) (hd : W.heap[D]? = some (.deferred (some []))) :
    bodyPostM Fence.wide 6 Try.prog Try.f83 (fun e w' => e = .returned (.tuple #[.int .u64 r1, .int .i64 r2]) ∧ Below w.heap.size w w') .ret { tmps := tmps, defers := [{ target := .collected D, args := #[] }] } W := by
  refine ⟨by simp, .inl ⟨_, _, rfl, run_takeDeferred hd, ?_⟩⟩
  have k3 : (W.putObj D (.deferred none)).heap[w.heap.size + 1]? = some (.cells #[.int .u64 r1] 25 (0, 0)) := (World.putObj_heap_other (by omega)).trans h3
  have k4 : (W.putObj D (.deferred none)).heap[w.heap.size + 2]? = some (.cells #[.int .i64 r2] 3 (0, 0)) := (World.putObj_heap_other (by omega)).trans h4
  have c3 := (blk_cell k3 0).trans rfl
  have c4 := (blk_cell k4 0).trans rfl
  have k6 : Below w.heap.size w (W.putObj D (.deferred none)) := ⟨h6.os, h6.tape, h6.output, by simpa [World.putObj] using h6.size, fun b hb => (World.putObj_heap_other (by omega)).trans (h6.block b hb)⟩
  refine ⟨.tuple #[.int .u64 r1, .int .i64 r2], ?_, rfl, k6⟩
  have t4 : tmps[4]?.getD undef = .pointer (some ⟨w.heap.size + 1, 0, none⟩) := by simpa using ht4
  have t5 : tmps[5]?.getD undef = .pointer (some ⟨w.heap.size + 1 + 1, 0, none⟩) := by simpa using ht5
  have hu := Try.underlying25
  have hi := Try.underlying3
  simp [results, Try.results83, t4, t5, go_sem, c3, c4]
end Go.Proofs.Ytaofanhdmfdlmaa.Print

/-
What is proved: random.below is the first number of the state's that is not refused, modulo n. Condition: n = 1.
-/
namespace Go.Proofs.Ytaofanhdmfdlmaa.Print
open Go Go.RowKit Go.Proofs.YtaofanhdmfdlmaaW.PrintWords Go.Proofs.YtaofanhdmfdlmaaW.PrintLast Go.Proofs.YtaofanhdmfdlmaaW.PrintMore Go.Proofs.Ytaofanhdmfdlmaa.Rng
attribute [local go_sem] Oper.semAt_some
set_option linter.unusedVariables false

set_option maxHeartbeats 4000000 in
set_option maxRecDepth 100000 in
theorem below_one (a0 r1 r2 : Int) (w : World) (HR : Aside0 (rb_go rb_fuel a0 1 = some (r1, r2))) :
    Calls Try.prog 83 #[.int .u64 a0, .int .i64 1] w fun e w' => e = .returned (.tuple #[.int .u64 r1, .int .i64 r2]) ∧ Below w.heap.size w w' := by
  obtain ⟨q, hq⟩ := div64_at 2 (by omega) (by omega)
  obtain ⟨rs, hrs⟩ : ∃ rs, rs = rb_res 2 := ⟨_, rfl⟩
  rw [← hrs] at hq
  have Hq := Aside0.mk hq
  have hrest := Aside0.mk (show rb_rest 1 = 0 from rfl)
  clear hq hrs
  refine callsIn_wide.1 (callsIn_of_wp_marks (n := 6) Try.func83 rfl trivial ?_ rfl)
  simp only [Try.ntmps83, List.size_toArray, List.length_cons, List.length_nil, Nat.reduceAdd, Nat.reduceSub, Array.replicate_succ, Array.replicate_zero, List.push_toArray, List.append_toArray, List.nil_append, List.cons_append]
  gi_wp2_with fail
  refine ⟨trivial, ?_⟩
  refine callsIn_wide.2 ((bits_Div64.calls 6 1 0 2 q rs _ Hq.out).mono ?_)
  rintro e w' ⟨rfl, ⟨nd, rfl⟩⟩
  gi_wp2
  refine ⟨trivial, ?_⟩
  refine callsIn_wide.2 ((numbers_calls a0 _).mono ?_)
  rintro e w2 ⟨rfl, hw2⟩
  have B0 := (Aside0.mk (show w2.heap[w.heap.size]? = some (.cells #[.int .i64 1] 3 (0, 0)) by
    rw [hw2]; refine blk_alloc ?_ _; refine blk_alloc ?_ _; refine blk_drewN ?_ _; refine blk_alloc ?_ _; refine blk_alloc ?_ _; exact new_at _ rfl))
  have B1 := (Aside0.mk (show w2.heap[w.heap.size + 1]? = some (.cells #[.int .u64 0] 25 (0, 0)) by
    rw [hw2]; refine blk_alloc ?_ _; refine blk_alloc ?_ _; refine blk_drewN ?_ _; refine blk_alloc ?_ _; exact new_at _ (by simp)))
  have B2 := (Aside0.mk (show w2.heap[w.heap.size + 2]? = some (.cells #[.int .i64 0] 3 (0, 0)) by
    rw [hw2]; refine blk_alloc ?_ _; refine blk_alloc ?_ _; refine blk_drewN ?_ _; exact new_at _ (by simp)))
  have B3 := (Aside0.mk (show w2.heap[w.heap.size + 3]? = some (.cells #[.int .u64 (rb_rest 1)] 25 (0, 0)) by
    rw [hw2, hrest.out]; refine blk_alloc ?_ _; exact new_at _ (by simp)))
  have B4 := (Aside0.mk (show w2.heap[w.heap.size + 4]? = some (.cells #[.int .u64 a0] 25 (0, 0)) by
    rw [hw2]; exact new_at _ (by simp)))
  have HB := (Aside0.mk (show Below w.heap.size w w2 by
    rw [hw2]; exact below_alloc (below_alloc (pw_below_drewN (below_alloc (below_alloc (below_alloc (Below.refl _ _) _) _) _) nd) _) _))
  have SZ := Aside0.mk (show w2.heap.size = w.heap.size + 5 by rw [hw2]; simp)
  clear hw2
  gi_wp2
  trace "range"
  refine wpIn_rng (σ := Nat × Int) (gf := 146) (lb := #[.pointer (some ⟨w.heap.size + 1 + 1 + 1 + 1, 0, none⟩)]) rfl (by decide) rfl trivial (enters_of Try.func146 (by kernel_rfl) rfl)
    (numbers_iter (w.heap.size + 4) (rb_fuel, a0) w2 B4.out (fun s s' => s.1 = s'.1 + 1 ∧ s'.2 = rb_nx s.2) (fun s s' h => ⟨by omega, h.2⟩)) (fun _ => rfl)
    (fun b hb => by have := SZ.out; omega) (fun b hb => by have := SZ.out; omega)
    (fun s W => rb_go s.1 s.2 1 = some (r1, r2) ∧ W.heap[w.heap.size]? = some (.cells #[.int .i64 1] 3 (0, 0)) ∧ W.heap[w.heap.size + 1]? = some (.cells #[.int .u64 0] 25 (0, 0)) ∧
      W.heap[w.heap.size + 2]? = some (.cells #[.int .i64 0] 3 (0, 0)) ∧ W.heap[w.heap.size + 3]? = some (.cells #[.int .u64 (rb_rest 1)] 25 (0, 0)) ∧ Below w.heap.size w W)
    (fun c W => c = .ret ∧ W.heap[w.heap.size + 1]? = some (.cells #[.int .u64 r1] 25 (0, 0)) ∧ W.heap[w.heap.size + 2]? = some (.cells #[.int .i64 r2] 3 (0, 0)) ∧ Below w.heap.size w W)
    ?stab ?stabx (fun _ _ _ => trivial) ⟨HR.out, B0.out, B1.out, B2.out, B3.out, HB.out⟩ ?round ?done ?stop
  case stab =>
    rintro s A B ⟨h1, h2, h3, h4, h5, h6⟩ hf
    have := SZ.out
    exact ⟨h1, hf.blk h2 (by omega) (by omega), hf.blk h3 (by omega) (by omega), hf.blk h4 (by omega) (by omega), hf.blk h5 (by omega) (by omega), hf.below h6 (Nat.le_refl _) (fun b hb => by omega) (by omega)⟩
  case stabx =>
    rintro c A B ⟨h1, h3, h4, h6⟩ hf
    have := SZ.out
    exact ⟨h1, hf.blk h3 (by omega) (by omega), hf.blk h4 (by omega) (by omega), hf.below h6 (Nat.le_refl _) (fun b hb => by omega) (by omega)⟩
  case round =>
    intro l s W hI _ K hK
    gi_wp2
    clear hI
    rintro W2 ⟨g1, g2, g3, g4, g5, g6⟩
    obtain ⟨k, c⟩ := s
    cases k with
    | zero => cases g1
    | succ k =>
      simp only [rb_go] at g1
      have e0 := (blk_cell g2 0).trans rfl
      have e1 := (blk_cell g3 0).trans rfl
      have e2 := (blk_cell g4 0).trans rfl
      have e3 := (blk_cell g5 0).trans rfl
      have f1 := blk_frozen g3 0
      have f2 := blk_frozen g4 0
      have hx := (rb_mx_range c).1
      have G1 := Aside0.mk g1
      have G2 := Aside0.mk g2
      have G3 := Aside0.mk g3
      have G4 := Aside0.mk g4
      have G5 := Aside0.mk g5
      have G6 := Aside0.mk g6
      clear g1 g2 g3 g4 g5 g6 B0 B1 B2 B3 B4 HB Hq HR
      generalize hv : rb_rest 1 = v at *
      generalize hxx : rb_mx c = x at *
      have HV := Aside0.mk hv
      have HXX := Aside0.mk hxx
      clear hv hxx
      have hw : IntKind.u64.wrap 1 = 1 := IntWalk.u64_in _ (by omega)
      have ht : Int.tmod x 1 = x % 1 := IntWalk.rem_in _ _ hx
      have hw2 : IntKind.i64.wrap (x % 1) = x % 1 := IntWalk.i64_in _ (by have z1 := Int.emod_nonneg x (show 1 ≠ 0 by omega); have z2 := Int.emod_lt_of_pos x (show 0 < 1 by omega); omega)
      by_cases c1 : x < IntKind.u64.wrap (-v)
      · have c1b : decide (x < IntKind.u64.wrap (-v)) = true := decide_eq_true c1
        have hr := G1.out
        rw [if_pos (show rb_acc 1 x = true by unfold rb_acc; rw [HV.out, c1b]; rfl)] at hr
        simp only [Option.some.injEq, Prod.mk.injEq] at hr
        obtain ⟨rfl, hr2⟩ := hr
        have HR2 := Aside0.mk hr2
        clear c1 hr2 G1
        gi_wp2
        gi_region
        all_goals (gi_wp2; exact below_close G3.out G4.out G6.out (by first | exact HR2.out | (rw [← HR2.out, Int.emod_one]; rfl)) _ rfl)
      · have c1b : decide (x < IntKind.u64.wrap (-v)) = false := decide_eq_false c1
        by_cases c2 : v = 0
        · have c2b : (v == 0) = true := beq_iff_eq.mpr c2
          have hr := G1.out
          rw [if_pos (show rb_acc 1 x = true by unfold rb_acc; rw [HV.out, c1b]; simp [c2])] at hr
          simp only [Option.some.injEq, Prod.mk.injEq] at hr
          obtain ⟨rfl, hr2⟩ := hr
          have HR2 := Aside0.mk hr2
          clear c1 c2 hr2 G1
          gi_wp2
          gi_region
          all_goals (gi_wp2; exact below_close G3.out G4.out G6.out (by first | exact HR2.out | (rw [← HR2.out, Int.emod_one]; rfl)) _ rfl)
        · have c2b : (v == 0) = false := beq_eq_false_iff_ne.mpr c2
          have hr := G1.out
          rw [if_neg (show ¬ rb_acc 1 x = true by unfold rb_acc; rw [HV.out, c1b]; simp [c2])] at hr
          have HN := Aside0.mk hr
          clear c1 c2 hr G1
          gi_wp2
          exact ⟨KeepsOthers.refl _, ⟨Nat.le_refl _, fun _ _ => rfl⟩, (k, rb_nx c), ⟨rfl, rfl⟩, HN.out, G2.out, G3.out, G4.out, G5.out, G6.out⟩
  case done => intro D s W _ hm; exact absurd trivial hm
  case stop =>
    rintro D c W hD ⟨rfl, h3, h4, h6⟩ hd
    have SZ1 := SZ.out
    gi_wp2
    exact below_end (by omega) rfl rfl h3 h4 h6 hd
end Go.Proofs.Ytaofanhdmfdlmaa.Print

/-
What is proved: random.below is the first number of the state's that is not refused, modulo n. Condition: 2 ≤ n ≤ 512.
-/
namespace Go.Proofs.Ytaofanhdmfdlmaa.Print
open Go Go.RowKit Go.Proofs.YtaofanhdmfdlmaaW.PrintWords Go.Proofs.YtaofanhdmfdlmaaW.PrintLast Go.Proofs.YtaofanhdmfdlmaaW.PrintMore Go.Proofs.Ytaofanhdmfdlmaa.Rng
attribute [local go_sem] Oper.semAt_some
set_option linter.unusedVariables false

set_option maxHeartbeats 4000000 in
set_option maxRecDepth 100000 in
theorem below_more (a0 a1 r1 r2 : Int) (w : World) (h1 : 1 ≤ a1) (h2 : a1 ≤ 512) (hone : ¬ a1 = 1) (HR : Aside0 (rb_go rb_fuel a0 a1 = some (r1, r2))) :
    Calls Try.prog 83 #[.int .u64 a0, .int .i64 a1] w fun e w' => e = .returned (.tuple #[.int .u64 r1, .int .i64 r2]) ∧ Below w.heap.size w w' := by
  obtain ⟨q, hq⟩ := div64_at (max a1 2) (by omega) (by omega)
  obtain ⟨rs, hrs⟩ : ∃ rs, rs = rb_res (max a1 2) := ⟨_, rfl⟩
  rw [← hrs] at hq
  have Hq := Aside0.mk hq
  have hb : (a1 == 1) = false := beq_eq_false_iff_ne.mpr hone
  have hz : (a1 == 0) = false := beq_eq_false_iff_ne.mpr (by omega)
  have hz2 : ¬ a1 = 0 := by omega
  have hrest := Aside0.mk (show rb_rest a1 = rs by unfold rb_rest; rw [if_neg hone, hrs]; congr 1; omega)
  clear hq hrs
  refine callsIn_wide.1 (callsIn_of_wp_marks (n := 6) Try.func83 rfl trivial ?_ rfl)
  simp only [Try.ntmps83, List.size_toArray, List.length_cons, List.length_nil, Nat.reduceAdd, Nat.reduceSub, Array.replicate_succ, Array.replicate_zero, List.push_toArray, List.append_toArray, List.nil_append, List.cons_append]
  gi_wp2_with fail
  refine ⟨trivial, ?_⟩
  refine callsIn_wide.2 ((bits_Div64.calls 6 1 0 (max a1 2) q rs _ Hq.out).mono ?_)
  rintro e w' ⟨rfl, ⟨nd, rfl⟩⟩
  gi_wp2
  refine ⟨trivial, ?_⟩
  refine callsIn_wide.2 ((numbers_calls a0 _).mono ?_)
  rintro e w2 ⟨rfl, hw2⟩
  have B0 := (Aside0.mk (show w2.heap[w.heap.size]? = some (.cells #[.int .i64 a1] 3 (0, 0)) by
    rw [hw2]; refine blk_alloc ?_ _; refine blk_alloc ?_ _; refine blk_drewN ?_ _; refine blk_alloc ?_ _; refine blk_alloc ?_ _; exact new_at _ rfl))
  have B1 := (Aside0.mk (show w2.heap[w.heap.size + 1]? = some (.cells #[.int .u64 0] 25 (0, 0)) by
    rw [hw2]; refine blk_alloc ?_ _; refine blk_alloc ?_ _; refine blk_drewN ?_ _; refine blk_alloc ?_ _; exact new_at _ (by simp)))
  have B2 := (Aside0.mk (show w2.heap[w.heap.size + 2]? = some (.cells #[.int .i64 0] 3 (0, 0)) by
    rw [hw2]; refine blk_alloc ?_ _; refine blk_alloc ?_ _; refine blk_drewN ?_ _; exact new_at _ (by simp)))
  have B3 := (Aside0.mk (show w2.heap[w.heap.size + 3]? = some (.cells #[.int .u64 (rb_rest a1)] 25 (0, 0)) by
    rw [hw2, hrest.out]; refine blk_alloc ?_ _; exact new_at _ (by simp)))
  have B4 := (Aside0.mk (show w2.heap[w.heap.size + 4]? = some (.cells #[.int .u64 a0] 25 (0, 0)) by
    rw [hw2]; exact new_at _ (by simp)))
  have HB := (Aside0.mk (show Below w.heap.size w w2 by
    rw [hw2]; exact below_alloc (below_alloc (pw_below_drewN (below_alloc (below_alloc (below_alloc (Below.refl _ _) _) _) _) nd) _) _))
  have SZ := Aside0.mk (show w2.heap.size = w.heap.size + 5 by rw [hw2]; simp)
  clear hw2
  gi_wp2
  trace "range"
  refine wpIn_rng (σ := Nat × Int) (gf := 146) (lb := #[.pointer (some ⟨w.heap.size + 1 + 1 + 1 + 1, 0, none⟩)]) rfl (by decide) rfl trivial (enters_of Try.func146 (by kernel_rfl) rfl)
    (numbers_iter (w.heap.size + 4) (rb_fuel, a0) w2 B4.out (fun s s' => s.1 = s'.1 + 1 ∧ s'.2 = rb_nx s.2) (fun s s' h => ⟨by omega, h.2⟩)) (fun _ => rfl)
    (fun b hb => by have := SZ.out; omega) (fun b hb => by have := SZ.out; omega)
    (fun s W => rb_go s.1 s.2 a1 = some (r1, r2) ∧ W.heap[w.heap.size]? = some (.cells #[.int .i64 a1] 3 (0, 0)) ∧ W.heap[w.heap.size + 1]? = some (.cells #[.int .u64 0] 25 (0, 0)) ∧
      W.heap[w.heap.size + 2]? = some (.cells #[.int .i64 0] 3 (0, 0)) ∧ W.heap[w.heap.size + 3]? = some (.cells #[.int .u64 (rb_rest a1)] 25 (0, 0)) ∧ Below w.heap.size w W)
    (fun c W => c = .ret ∧ W.heap[w.heap.size + 1]? = some (.cells #[.int .u64 r1] 25 (0, 0)) ∧ W.heap[w.heap.size + 2]? = some (.cells #[.int .i64 r2] 3 (0, 0)) ∧ Below w.heap.size w W)
    ?stab ?stabx (fun _ _ _ => trivial) ⟨HR.out, B0.out, B1.out, B2.out, B3.out, HB.out⟩ ?round ?done ?stop
  case stab =>
    rintro s A B ⟨h1, h2, h3, h4, h5, h6⟩ hf
    have := SZ.out
    exact ⟨h1, hf.blk h2 (by omega) (by omega), hf.blk h3 (by omega) (by omega), hf.blk h4 (by omega) (by omega), hf.blk h5 (by omega) (by omega), hf.below h6 (Nat.le_refl _) (fun b hb => by omega) (by omega)⟩
  case stabx =>
    rintro c A B ⟨h1, h3, h4, h6⟩ hf
    have := SZ.out
    exact ⟨h1, hf.blk h3 (by omega) (by omega), hf.blk h4 (by omega) (by omega), hf.below h6 (Nat.le_refl _) (fun b hb => by omega) (by omega)⟩
  case round =>
    intro l s W hI _ K hK
    gi_wp2
    clear hI
    rintro W2 ⟨g1, g2, g3, g4, g5, g6⟩
    obtain ⟨k, c⟩ := s
    cases k with
    | zero => cases g1
    | succ k =>
      simp only [rb_go] at g1
      have e0 := (blk_cell g2 0).trans rfl
      have e1 := (blk_cell g3 0).trans rfl
      have e2 := (blk_cell g4 0).trans rfl
      have e3 := (blk_cell g5 0).trans rfl
      have f1 := blk_frozen g3 0
      have f2 := blk_frozen g4 0
      have hx := (rb_mx_range c).1
      have G1 := Aside0.mk g1
      have G2 := Aside0.mk g2
      have G3 := Aside0.mk g3
      have G4 := Aside0.mk g4
      have G5 := Aside0.mk g5
      have G6 := Aside0.mk g6
      clear g1 g2 g3 g4 g5 g6 B0 B1 B2 B3 B4 HB Hq HR
      generalize hv : rb_rest a1 = v at *
      generalize hxx : rb_mx c = x at *
      have HV := Aside0.mk hv
      have HXX := Aside0.mk hxx
      clear hv hxx
      have hw : IntKind.u64.wrap a1 = a1 := IntWalk.u64_in _ (by omega)
      have ht : Int.tmod x a1 = x % a1 := IntWalk.rem_in _ _ hx
      have hw2 : IntKind.i64.wrap (x % a1) = x % a1 := IntWalk.i64_in _ (by have z1 := Int.emod_nonneg x (show a1 ≠ 0 by omega); have z2 := Int.emod_lt_of_pos x (show 0 < a1 by omega); omega)
      by_cases c1 : x < IntKind.u64.wrap (-v)
      · have c1b : decide (x < IntKind.u64.wrap (-v)) = true := decide_eq_true c1
        have hr := G1.out
        rw [if_pos (show rb_acc a1 x = true by unfold rb_acc; rw [HV.out, c1b]; rfl)] at hr
        simp only [Option.some.injEq, Prod.mk.injEq] at hr
        obtain ⟨rfl, hr2⟩ := hr
        have HR2 := Aside0.mk hr2
        clear c1 hr2 G1
        gi_wp2
        gi_region
        all_goals (gi_wp2; exact below_close G3.out G4.out G6.out (by first | exact HR2.out | (rw [← HR2.out, Int.emod_one]; rfl)) _ rfl)
      · have c1b : decide (x < IntKind.u64.wrap (-v)) = false := decide_eq_false c1
        by_cases c2 : v = 0
        · have c2b : (v == 0) = true := beq_iff_eq.mpr c2
          have hr := G1.out
          rw [if_pos (show rb_acc a1 x = true by unfold rb_acc; rw [HV.out, c1b]; simp [c2])] at hr
          simp only [Option.some.injEq, Prod.mk.injEq] at hr
          obtain ⟨rfl, hr2⟩ := hr
          have HR2 := Aside0.mk hr2
          clear c1 c2 hr2 G1
          gi_wp2
          gi_region
          all_goals (gi_wp2; exact below_close G3.out G4.out G6.out (by first | exact HR2.out | (rw [← HR2.out, Int.emod_one]; rfl)) _ rfl)
        · have c2b : (v == 0) = false := beq_eq_false_iff_ne.mpr c2
          have hr := G1.out
          rw [if_neg (show ¬ rb_acc a1 x = true by unfold rb_acc; rw [HV.out, c1b]; simp [c2])] at hr
          have HN := Aside0.mk hr
          clear c1 c2 hr G1
          gi_wp2
          exact ⟨KeepsOthers.refl _, ⟨Nat.le_refl _, fun _ _ => rfl⟩, (k, rb_nx c), ⟨rfl, rfl⟩, HN.out, G2.out, G3.out, G4.out, G5.out, G6.out⟩
  case done => intro D s W _ hm; exact absurd trivial hm
  case stop =>
    rintro D c W hD ⟨rfl, h3, h4, h6⟩ hd
    have SZ1 := SZ.out
    gi_wp2
    exact below_end (by omega) rfl rfl h3 h4 h6 hd
end Go.Proofs.Ytaofanhdmfdlmaa.Print

/-
What is proved: random.below is the first number of the state's that is not refused, modulo n. Condition: 1 ≤ n ≤ 512.
-/
namespace Go.Proofs.Ytaofanhdmfdlmaa.Print
open Go Go.RowKit Go.Proofs.YtaofanhdmfdlmaaW.PrintWords Go.Proofs.YtaofanhdmfdlmaaW.PrintLast Go.Proofs.YtaofanhdmfdlmaaW.PrintMore Go.Proofs.Ytaofanhdmfdlmaa.Rng
theorem random_below.calls (a0 : Int) (a1 : Int) (r1 : Int) (r2 : Int) (w : World) (h : random_below.f a0 a1 = some (r1, r2)) :
    Calls Try.prog 83 #[.int .u64 a0, .int .i64 a1] w fun e w' => e = .returned (.tuple #[.int .u64 r1, .int .i64 r2]) ∧ Below w.heap.size w w' := by
  unfold random_below.f at h
  by_cases hc : 1 ≤ a1 ∧ a1 ≤ 512
  case neg => rw [if_neg hc] at h; cases h
  rw [if_pos hc] at h
  by_cases hone : a1 = 1
  · subst hone; exact below_one a0 r1 r2 w ⟨h⟩
  · exact below_more a0 a1 r1 r2 w hc.1 hc.2 hone ⟨h⟩
end Go.Proofs.Ytaofanhdmfdlmaa.Print

-- PRINTED by print.py (a twelfth state) out of the translation. Not trusted: Lean checks it.
namespace Go.Proofs.Ytaofanhdmfdlmaa.Print
open Go.RowKit Go.Proofs.YtaofanhdmfdlmaaW.PrintWords Go.Proofs.YtaofanhdmfdlmaaW.PrintLast Go.Proofs.YtaofanhdmfdlmaaW.PrintMore
attribute [local go_sem] max2_int min2_int max_two min_two max_three min_three max_four min_four   -- for this text's walks alone
set_option linter.unusedVariables false
set_option linter.unusedSimpArgs false

/-! ### random_Shuffle: function 23 -/
mutual
def random_Shuffle.l0 : Nat → Int → Int → List Int → Int → Int → Option (Int × List Int × Int)
  | 0, _, _, _, _, _ => none
  | k + 1, x0, x1, x7, x14, x15 => if x15 < x14 then (if x7.length < 17592186044416 then (random_Shuffle.l0 k x0 x1 (x7 ++ [x15]) x14 (wrap64 (x15 + 1))) else (none)) else (random_Shuffle.l1 k x0 x7 (wrap64 (x1 - 1)))
def random_Shuffle.l1 : Nat → Int → List Int → Int → Option (Int × List Int × Int)
  | 0, _, _, _ => none
  | k + 1, x0, x7, x9 => if x9 > 0 then ((random_below.f x0 (wrap64 (x9 + 1))).bind fun bt299 => (if 0 ≤ bt299.2 then (if bt299.2 < (x7.length : Int) then (if 0 ≤ x9 then (if x9 < (x7.length : Int) then (random_Shuffle.l1 k bt299.1 ((x7.set (x9 : Int).toNat (rd x7 bt299.2)).set (bt299.2 : Int).toNat (rd x7 x9)) (wrap64 (x9 - 1))) else (none)) else (none)) else (none)) else (none))) else (some (x0, x7, 0))
end
def random_Shuffle.f (k : Nat) (a0 : Int) (a1 : Int) : Option (Int × List Int × Int) := (random_sized.f a1).bind fun t295 => (if t295 = true then (random_Shuffle.l0 k a0 a1 ([] : List Int) a1 0) else (some (0, ([] : List Int), 2)))
def random_Shuffle.T14 : Bool × List (List Nat × List Nat) := (true, [([], []), ([], []), ([], []), ([], []), ([], []), ([], []), ([4, 5], [4, 5]), ([6], [6]), ([], []), ([], []), ([8, 9], [8, 9]), ([10], [10]), ([0, 1, 0, 1, 4, 5, 6, 7, 11], [0, 1]), ([12, 7, 0, 1, 4, 5, 6, 7, 11], [7, 12]), ([2, 3, 0, 1, 2, 3, 4, 5, 6, 7, 8, 9, 10, 11, 12, 13], [2, 3]), ([14, 11, 13, 0, 1, 2, 3, 4, 5, 6, 7, 8, 9, 10, 11, 12, 13], [11, 14])])
def random_Shuffle.B14 : List Nat := [0, 0, 0, 0, 0, 0, 48, 112, 0, 0, 768, 1792, 4083, 8179, 16383, 32767]
theorem random_Shuffle.tab14 : rtab .any (opsOf Try.f23 14) = random_Shuffle.T14 := by kernel_rfl
theorem random_Shuffle.bits14 : waitsOk random_Shuffle.T14.2 random_Shuffle.B14 = true := by kernel_rfl
set_option maxHeartbeats 8000000 in
set_option maxRecDepth 100000 in
theorem random_Shuffle.calls (k : Nat) (a0 : Int) (a1 : Int) (r1 : Int) (r2 : List Int) (r3 : Int) (w : World) (h : random_Shuffle.f k a0 a1 = some (r1, r2, r3)) :
    Calls Try.prog 23 #[.int .u64 a0, .int .i64 a1] w fun e w' => ∃ v1_ : Value, e = .returned (.tuple #[.int .u64 r1, v1_, .int .i64 r3]) ∧ Kd.R (Kd.int .i64) 3 w' w.heap.size (fun _ => True) v1_ r2 ∧ Below w.heap.size w w' := by
  have HB := Aside0.mk (Below.refl w.heap.size w)
  have H : ((random_sized.f a1).bind fun t295 => (if t295 = true then (random_Shuffle.l0 k a0 a1 ([] : List Int) a1 0) else (some (0, ([] : List Int), 2)))) = some (r1, r2, r3) := h
  clear h
  replace H := Option.bind_eq_some_iff.mp H
  obtain ⟨t295, A30, H⟩ := H
  replace H : (if t295 = true then (random_Shuffle.l0 k a0 a1 ([] : List Int) a1 0) else (some (0, ([] : List Int), 2))) = some (r1, r2, r3) := H
  have A3 := Aside0.mk A30
  clear A30
  by_cases c4 : t295 = true
  · subst c4
    have H1 : (random_Shuffle.l0 k a0 a1 ([] : List Int) a1 0) = some (r1, r2, r3) := by rw [if_pos rfl] at H; exact H
    clear H
    have H := H1
    clear H1
    have H' := Aside0.mk H
    clear H
    go_enter Try.func23, Try.ntmps23
    go_wp2_with (first | ((with_reducible refine gate_callee (f := 82) rfl ?_); refine goesL_ (some 12) rfl rfl Try.func82 (by kernel_rfl) rfl #[.int .i64 a1] rfl (by (try simp only [List.map_toArray, List.map_cons, List.map_nil]); first | done | rfl | (simp only [List.length_drop, List.length_take]; rfl)) ?_; (with_reducible refine (random_sized.calls a1 true _ A3.out).mono ?_); rintro e w' ⟨rfl, ⟨nd, rfl⟩⟩; refine ⟨_, rfl, ?_⟩))
    go_loopg [7, 15] k (fun kq v7 v15 w' => ∃ (x7_1 : List Int) (x15_1 : Int), v15 = .int .i64 x15_1 ∧ Aside0 (random_Shuffle.l0 kq a0 a1 x7_1 a1 x15_1 = some (r1, r2, r3)) ∧ Aside0 (kq ≤ k) ∧ Aside0 (Kd.R (Kd.int .i64) 3 w' w.heap.size (fun _ => True) v7 x7_1) ∧ Aside0 (Below w.heap.size w w'))
    case atStart => exact ⟨(([] : List Int)), (0), (by first | rfl | (simp; done) | (simp [*]; done)), H', ⟨Nat.le_refl _⟩, ⟨by first | exact Kd.R_nil _ _ _ _ _ | exact Kd.N_nil _ _ _ _ _ | exact Kd.V_nil _ _ _ _ _ | exact Kd.Q_nil _ _ _ _ _ | exact Kd.S_nil _ _ _ _ _⟩, ⟨by repeat (first | (with_reducible first | exact HB.out | apply below_alloc | apply pw_below_drewN | apply below_drew1) | exact HB.out)⟩⟩
    case round =>
      clear H'
      try clear c2
      try clear p2
      try clear c4
      obtain ⟨x7_1, x15_1, rfl, HA, HK1, HO_7, HB⟩ := hrel
      cases gk with
      | zero => exact absurd HA.out (by simp [random_Shuffle.l0])
      | succ k1 =>
        have H := HA.out
        clear HA
        simp only [random_Shuffle.l0] at H
        by_cases c5 : x15_1 < a1
        · rw [if_pos c5] at H
          have c5b0 : decide (x15_1 < a1) = true := decide_eq_true c5
          clear c5
          by_cases c6 : x7_1.length < 17592186044416
          · rw [if_pos c6] at H
            have LMc6 := Aside0.mk c6
            clear c6
            obtain ⟨y296, hy296⟩ : ∃ y_ : List Int, y_ = (x7_1 ++ [x15_1]) := ⟨_, rfl⟩
            replace H : (random_Shuffle.l0 k1 a0 a1 y296 a1 (wrap64 (x15_1 + 1))) = some (r1, r2, r3) := by first | (rw [hy296]; with_reducible exact H) | (have H2_ := (Option.bind_some _ _).symm.trans H; rw [hy296]; with_reducible exact H2_) | (have H2_ := (Option.bind_some _ _).symm.trans H; with_reducible exact H2_) | with_reducible exact H | (rw [hy296]; exact H) | exact H
            have Ny296 := Aside0.mk hy296
            clear hy296
            have H' := Aside0.mk H
            clear H
            go_wp2_with (first | ((with_reducible refine gate_builtin (b := .append) (xs := #[.tmp 18, .tmp 20]) rfl ?_); at_builtin; refine Kd.R_append (Kd.int .i64) (w0 := w) w.heap.size rfl (.tmp 18) (.tmp 20) 40 3 (.int .i64 0) 8 rfl Try.underlying40 info3 rfl (by decide) (by omega) u7 x7_1 x15_1 [.int .i64 x15_1] (fun _ => True) (fun _ => False) rfl rfl ?aP (fun _ hk => hk.elim) ?aF ?aO ?aB ?aS ?aL ?_; (case aP => exact rfl); (case aB => exact (by repeat (first | (with_reducible first | exact HB.out | apply below_alloc | apply pw_below_drewN | apply below_drew1) | exact HB.out))); (case aF => exact (fun _ _ => trivial)); (case aO => exact (by (with_reducible repeat (first | apply Kd.R_alloc | apply Kd.R_drewN | apply Kd.R_drew)); exact HO_7.out)); (case aS => exact (below_size (by repeat (first | (with_reducible first | exact HB.out | apply below_alloc | apply pw_below_drewN | apply below_drew1) | exact HB.out)))); (case aL => have := LMc6.out; omega); intro v297 w7 ho hb hg hat; rw [← Ny296.out] at ho; have n0_ := Aside0.mk (hb); have n1_ := Aside0.mk (ho); clear HB; clear HO_7; have HB := n0_; have HO298 := n1_; clear n0_ n1_; clear ho hb hg hat))
            go_roundg k1
            case measure => have := HK1.out; omega
            case rel => exact ⟨(y296), (wrap64 (x15_1 + 1)), (by first | rfl | (simp; done) | (simp [*]; done)), H', ⟨by have := HK1.out; omega⟩, ⟨by (with_reducible repeat (first | apply Kd.R_alloc | apply Kd.R_drewN | apply Kd.R_drew)); exact HO298.out⟩, ⟨by repeat (first | (with_reducible first | exact HB.out | apply below_alloc | apply pw_below_drewN | apply below_drew1) | exact HB.out)⟩⟩
          · rw [if_neg c6] at H
            exact absurd H (by simp)
        · rw [if_neg c5] at H
          have c5b0 : decide (x15_1 < a1) = false := decide_eq_false c5
          clear c5
          have H' := Aside0.mk H
          clear H
          go_wp2
          go_loopg [0, 9] k1 (fun kq v0 v9 w' => ∃ (x0_2 : Int) (x7_2 : List Int) (x9_2 : Int), v0 = .int .u64 x0_2 ∧ v9 = .int .i64 x9_2 ∧ Aside0 (random_Shuffle.l1 kq x0_2 x7_2 x9_2 = some (r1, r2, r3)) ∧ Aside0 (kq ≤ k1) ∧ Aside0 (Kd.R (Kd.int .i64) 3 w' w.heap.size (fun _ => True) u7 x7_2) ∧ Aside0 (Below w.heap.size w w'))
          case atStart => exact ⟨(a0), (x7_1), (wrap64 (a1 - 1)), (by first | rfl | (simp; done) | (simp [*]; done)), (by first | rfl | (simp; done) | (simp [*]; done)), H', ⟨Nat.le_refl _⟩, ⟨by (with_reducible repeat (first | apply Kd.R_alloc | apply Kd.R_drewN | apply Kd.R_drew)); exact HO_7.out⟩, ⟨by repeat (first | (with_reducible first | exact HB.out | apply below_alloc | apply pw_below_drewN | apply below_drew1) | exact HB.out)⟩⟩
          case round =>
            clear H'
            try clear c2
            try clear p2
            try clear c4
            try clear c5
            try clear c5b0
            try clear c6
            try clear p6
            try clear p2
            obtain ⟨x0_2, x7_2, x9_2, rfl, rfl, HA, HK2, HO_7, HB⟩ := hrel
            cases gk with
            | zero => exact absurd HA.out (by simp [random_Shuffle.l1])
            | succ k2 =>
              have H := HA.out
              clear HA
              simp only [random_Shuffle.l1] at H
              by_cases c8 : x9_2 > 0
              · rw [if_pos c8] at H
                have c8b0 : decide (0 < x9_2) = true := decide_eq_true c8
                clear c8
                replace H := Option.bind_eq_some_iff.mp H
                obtain ⟨⟨t299, t300⟩, A90, H⟩ := H
                replace H : (if 0 ≤ t300 then (if t300 < (x7_2.length : Int) then (if 0 ≤ x9_2 then (if x9_2 < (x7_2.length : Int) then (random_Shuffle.l1 k2 t299 ((x7_2.set (x9_2 : Int).toNat (rd x7_2 t300)).set (t300 : Int).toNat (rd x7_2 x9_2)) (wrap64 (x9_2 - 1))) else (none)) else (none)) else (none)) else (none)) = some (r1, r2, r3) := H
                have A9 := Aside0.mk A90
                clear A90
                by_cases c10 : 0 ≤ t300
                · rw [if_pos c10] at H
                  have c10b0 : decide (0 ≤ t300) = true := decide_eq_true c10
                  clear c10
                  by_cases c11 : t300 < (x7_2.length : Int)
                  · rw [if_pos c11] at H
                    have c11b0 : decide (t300 < (x7_2.length : Int)) = true := decide_eq_true c11
                    clear c11
                    by_cases c12 : 0 ≤ x9_2
                    · rw [if_pos c12] at H
                      have c12b0 : decide (0 ≤ x9_2) = true := decide_eq_true c12
                      clear c12
                      by_cases c13 : x9_2 < (x7_2.length : Int)
                      · rw [if_pos c13] at H
                        have c13b0 : decide (x9_2 < (x7_2.length : Int)) = true := decide_eq_true c13
                        clear c13
                        obtain ⟨y303, hy303⟩ : ∃ y_ : List Int, y_ = (x7_2.set (x9_2 : Int).toNat (rd x7_2 t300)) := ⟨_, rfl⟩
                        replace H : (random_Shuffle.l1 k2 t299 (y303.set (t300 : Int).toNat (rd x7_2 x9_2)) (wrap64 (x9_2 - 1))) = some (r1, r2, r3) := by first | (rw [hy303]; with_reducible exact H) | (have H2_ := (Option.bind_some _ _).symm.trans H; rw [hy303]; with_reducible exact H2_) | (have H2_ := (Option.bind_some _ _).symm.trans H; with_reducible exact H2_) | with_reducible exact H | (rw [hy303]; exact H) | exact H
                        have Ny303 := Aside0.mk hy303
                        clear hy303
                        obtain ⟨y304, hy304⟩ : ∃ y_ : List Int, y_ = (y303.set (t300 : Int).toNat (rd x7_2 x9_2)) := ⟨_, rfl⟩
                        replace H : (random_Shuffle.l1 k2 t299 y304 (wrap64 (x9_2 - 1))) = some (r1, r2, r3) := by first | (rw [hy304]; with_reducible exact H) | (have H2_ := (Option.bind_some _ _).symm.trans H; rw [hy304]; with_reducible exact H2_) | (have H2_ := (Option.bind_some _ _).symm.trans H; with_reducible exact H2_) | with_reducible exact H | (rw [hy304]; exact H) | exact H
                        have Ny304 := Aside0.mk hy304
                        clear hy304
                        have H' := Aside0.mk H
                        clear H
                        try go_wp2_with (first | ((with_reducible refine gate_callee (f := 83) rfl ?_); refine goesL_ (some 33) rfl rfl Try.func83 (by kernel_rfl) rfl #[.int .u64 x0_2, .int .i64 (wrap64 (x9_2 + 1))] rfl (by (try simp only [List.map_toArray, List.map_cons, List.map_nil]); first | done | rfl | (simp only [List.length_drop, List.length_take]; rfl)) ?_; (with_reducible refine (random_below.calls x0_2 (wrap64 (x9_2 + 1)) t299 t300 _ A9.out).mono ?_); rintro e w16 ⟨rfl, hb⟩; refine ⟨_, rfl, ?_⟩; have n0_ := Aside0.mk (Kd.R_below (by (with_reducible repeat (first | apply Kd.R_alloc | apply Kd.R_drewN | apply Kd.R_drew)); exact HO_7.out) hb); have n1_ := Aside0.mk (below_step (by repeat (first | (with_reducible first | exact HB.out | apply below_alloc | apply pw_below_drewN | apply below_drew1) | exact HB.out)) hb); clear HO_7; clear HB; have HO_7 := n0_; have HB := n1_; clear n0_ n1_; (try clear hb); (try clear hb2); (try clear hk); (try clear hi)))
                        have n0_ := Aside0.mk (Kd.R_drew HO_7.out)
                        have n1_ := Aside0.mk (below_drew1 HB.out)
                        clear HO_7
                        clear HB
                        have HO_7 := n0_
                        have HB := n1_
                        clear n0_ n1_
                        obtain ⟨Ao18, co18, eo18⟩ := Kd.R_slice HO_7.out
                        (first | subst eo18 | (injection eo18 with f1_ f2_ f3_; have f4_ := f1_.symm; have f5_ := f3_.symm; clear f1_ f2_ f3_; subst f4_; subst f5_))
                        have p301 : 0 ≤ (t300 : Int) := of_decide_eq_true (by first | (with_reducible assumption) | assumption)
                        have q301 : t300 < (x7_2.length : Int) := of_decide_eq_true (by first | (with_reducible assumption) | assumption)
                        obtain ⟨ad301, e301, hx301_0⟩ := Kd.at_int (Kd.R_reads' HO_7.out).2.2 t300 p301 q301
                        cases e301
                        replace p301 := eq_true p301
                        replace q301 := eq_true q301
                        have p302 : 0 ≤ (x9_2 : Int) := of_decide_eq_true (by first | (with_reducible assumption) | assumption)
                        have q302 : x9_2 < (x7_2.length : Int) := of_decide_eq_true (by first | (with_reducible assumption) | assumption)
                        obtain ⟨ad302, e302, hx302_0⟩ := Kd.at_int (Kd.R_reads' HO_7.out).2.2 x9_2 p302 q302
                        obtain rfl : ad301 = ad302 := (by injection e302)
                        replace p302 := eq_true p302
                        replace q302 := eq_true q302
                        have p14 : 0 ≤ (x9_2 : Int) := of_decide_eq_true (by first | (with_reducible assumption) | assumption)
                        have q14 : (x9_2 : Int) < ((x7_2.length : Int) : Int) := of_decide_eq_true (by first | (with_reducible assumption) | assumption)
                        obtain ⟨go14, co14, eo14, gb14, gl14, cl14, HG14⟩ := Kd.R_form HO_7.out (by omega)
                        (first | cases eo14 | (injection eo14 with ea_ en_ ec_; (first | subst ea_ | (injection ea_ with ea_; subst ea_)); subst ec_; clear en_))
                        have GB14 := Aside0.mk gb14
                        have GG14 := Aside0.mk HG14
                        clear gb14 gl14 HG14
                        (first | simp only [add_plain] at hx301_0 | skip)
                        (first | simp only [add_plain] at hx302_0 | skip)
                        obtain ⟨hx14_0, hf14_0⟩ := Kd.R_celln 0 HO_7.out (x9_2 : Int) p14 q14
                        replace p14 := eq_true p14
                        replace q14 := eq_true q14
                        have HP19 := Kd.R_putn HO_7.out (x9_2 : Int) (rd x7_2 t300)
                        rw [← Ny303.out] at HP19
                        have HQ19 := Aside0.mk HP19
                        clear HP19
                        have p15 : 0 ≤ (t300 : Int) := of_decide_eq_true (by first | (with_reducible assumption) | assumption)
                        have q15 : (t300 : Int) < ((x7_2.length : Int) : Int) := of_decide_eq_true (by first | (with_reducible assumption) | assumption)
                        obtain ⟨hx15_0, hf15_0⟩ := Kd.R_celln 0 HQ19.out (t300 : Int) p15 q15
                        replace p15 := eq_true p15
                        replace q15 := eq_true q15
                        have HP20 := Kd.R_putn HQ19.out (t300 : Int) (rd x7_2 x9_2)
                        rw [← Ny304.out] at HP20
                        have HQ20 := Aside0.mk HP20
                        clear HP20
                        refine start_ (n := 16) (S := fun w' => w'.cell? ⟨go14, (t300).toNat, none⟩ = some (.int .i64 (rd x7_2 t300)) ∧ w'.cell? ⟨go14, (x9_2).toNat, none⟩ = some (.int .i64 (rd x7_2 x9_2))) (ds := [13, 15]) #[false, false, false, false, false, false, false, false, false, false, false, false, false, false, false, false] (by kernel_rfl) rfl rfl ⟨hx301_0, hx302_0⟩ (fun hHeld => ?_); refine with_tabW random_Shuffle.tab14 random_Shuffle.bits14 (fun HT_ HW_ => ?_)
                        generalize w16.drew = w17 at HO_7 HB GG14 HQ19 HQ20 hf14_0 hf15_0 hx14_0 hx15_0 hx301_0 hx302_0 hHeld ⊢
                        refine pure_ (i := 0) (N := some 36) (v := ?_) (a' := ?_) #[true, false, false, false, false, false, false, false, false, false, false, false, false, false, false, false] rfl rfl (any_of HT_.out (by kernel_rfl)) (fun _ _ _ h => h) (Or.inl ⟨by rfl, ?_⟩) ?_ ?_
                        rotate_left
                        · intro w'
                          go_simp
                          with_reducible rfl
                        rotate_left
                        · simp only [Act.put, List.setIfInBounds_toArray, List.set_cons_zero, List.set_cons_succ, i64_w, i32_w]
                          rfl
                        refine pure_ (i := 1) (N := some 37) (v := ?_) (a' := ?_) #[true, true, false, false, false, false, false, false, false, false, false, false, false, false, false, false] rfl rfl (any_of HT_.out (by kernel_rfl)) (fun _ _ _ h => h) (Or.inl ⟨by rfl, ?_⟩) ?_ ?_
                        rotate_left
                        · intro w'
                          go_simp
                          with_reducible rfl
                        rotate_left
                        · simp only [Act.put, List.setIfInBounds_toArray, List.set_cons_zero, List.set_cons_succ, i64_w, i32_w]
                          rfl
                        refine pure_ (i := 2) (N := some 38) (v := ?_) (a' := ?_) #[true, true, true, false, false, false, false, false, false, false, false, false, false, false, false, false] rfl rfl (any_of HT_.out (by kernel_rfl)) (fun _ _ _ h => h) (Or.inl ⟨by rfl, ?_⟩) ?_ ?_
                        rotate_left
                        · intro w'
                          go_simp
                          with_reducible rfl
                        rotate_left
                        · simp only [Act.put, List.setIfInBounds_toArray, List.set_cons_zero, List.set_cons_succ, i64_w, i32_w]
                          rfl
                        refine pure_ (i := 3) (N := some 39) (v := ?_) (a' := ?_) #[true, true, true, true, false, false, false, false, false, false, false, false, false, false, false, false] rfl rfl (any_of HT_.out (by kernel_rfl)) (fun _ _ _ h => h) (Or.inl ⟨by rfl, ?_⟩) ?_ ?_
                        rotate_left
                        · intro w'
                          go_simp
                          with_reducible rfl
                        rotate_left
                        · simp only [Act.put, List.setIfInBounds_toArray, List.set_cons_zero, List.set_cons_succ, i64_w, i32_w]
                          rfl
                        refine pure_ (i := 4) (N := some 40) (v := ?_) (a' := ?_) #[true, true, true, true, true, false, false, false, false, false, false, false, false, false, false, false] rfl rfl (any_of HT_.out (by kernel_rfl)) (fun _ _ _ h => h) (Or.inl ⟨by rfl, ?_⟩) ?_ ?_
                        rotate_left
                        · intro w'
                          go_simp
                          with_reducible rfl
                        rotate_left
                        · simp only [Act.put, List.setIfInBounds_toArray, List.set_cons_zero, List.set_cons_succ, i64_w, i32_w]
                          rfl
                        refine pure_ (i := 5) (N := some 41) (v := ?_) (a' := ?_) #[true, true, true, true, true, true, false, false, false, false, false, false, false, false, false, false] rfl rfl (any_of HT_.out (by kernel_rfl)) (fun _ _ _ h => h) (Or.inl ⟨by rfl, ?_⟩) ?_ ?_
                        rotate_left
                        · intro w'
                          go_simp
                          with_reducible rfl
                        rotate_left
                        · simp only [Act.put, List.setIfInBounds_toArray, List.set_cons_zero, List.set_cons_succ, i64_w, i32_w]
                          rfl
                        refine pure_ (i := 6) (N := some 42) (v := ?_) (a' := ?_) #[true, true, true, true, true, true, true, false, false, false, false, false, false, false, false, false] rfl rfl (any_of HT_.out (by kernel_rfl)) (fun _ _ _ h => h) (Or.inl ⟨by rfl, ?_⟩) ?_ ?_
                        rotate_left
                        · intro w'
                          go_simp
                          with_reducible rfl
                        rotate_left
                        · simp only [Act.put, List.setIfInBounds_toArray, List.set_cons_zero, List.set_cons_succ, i64_w, i32_w]
                          rfl
                        refine pure_ (i := 8) (N := some 44) (v := ?_) (a' := ?_) #[true, true, true, true, true, true, true, false, true, false, false, false, false, false, false, false] rfl rfl (any_of HT_.out (by kernel_rfl)) (fun _ _ _ h => h) (Or.inl ⟨by rfl, ?_⟩) ?_ ?_
                        rotate_left
                        · intro w'
                          go_simp
                          with_reducible rfl
                        rotate_left
                        · simp only [Act.put, List.setIfInBounds_toArray, List.set_cons_zero, List.set_cons_succ, i64_w, i32_w]
                          rfl
                        refine pure_ (i := 9) (N := some 45) (v := ?_) (a' := ?_) #[true, true, true, true, true, true, true, false, true, true, false, false, false, false, false, false] rfl rfl (any_of HT_.out (by kernel_rfl)) (fun _ _ _ h => h) (Or.inl ⟨by rfl, ?_⟩) ?_ ?_
                        rotate_left
                        · intro w'
                          go_simp
                          with_reducible rfl
                        rotate_left
                        · simp only [Act.put, List.setIfInBounds_toArray, List.set_cons_zero, List.set_cons_succ, i64_w, i32_w]
                          rfl
                        refine pure_ (i := 10) (N := some 46) (v := ?_) (a' := ?_) #[true, true, true, true, true, true, true, false, true, true, true, false, false, false, false, false] rfl rfl (any_of HT_.out (by kernel_rfl)) (fun _ _ _ h => h) (Or.inl ⟨by rfl, ?_⟩) ?_ ?_
                        rotate_left
                        · intro w'
                          go_simp
                          with_reducible rfl
                        rotate_left
                        · simp only [Act.put, List.setIfInBounds_toArray, List.set_cons_zero, List.set_cons_succ, i64_w, i32_w]
                          rfl
                        refine take_ (i := 7) (N := some 43) (v := ?_) (a' := ?_) #[true, true, true, true, true, true, true, true, true, true, true, false, false, false, false, false] rfl rfl (take_ofW HT_.out HW_.out (by kernel_rfl)) (fun _ _ _ h => h) (Or.inl ⟨by rfl, ?_⟩) hHeld ?_ ?_
                        rotate_left
                        · rintro w' ⟨s0, s1⟩
                          go_simp
                          with_reducible rfl
                        rotate_left
                        · simp only [Act.put, List.setIfInBounds_toArray, List.set_cons_zero, List.set_cons_succ, i64_w, i32_w]
                          rfl
                        refine take_ (i := 11) (N := some 47) (v := ?_) (a' := ?_) #[true, true, true, true, true, true, true, true, true, true, true, true, false, false, false, false] rfl rfl (take_ofW HT_.out HW_.out (by kernel_rfl)) (fun _ _ _ h => h) (Or.inl ⟨by rfl, ?_⟩) hHeld ?_ ?_
                        rotate_left
                        · rintro w' ⟨s0, s1⟩
                          go_simp
                          with_reducible rfl
                        rotate_left
                        · simp only [Act.put, List.setIfInBounds_toArray, List.set_cons_zero, List.set_cons_succ, i64_w, i32_w]
                          rfl
                        refine pure_ (i := 12) (N := some 48) (v := ?_) (a' := ?_) #[true, true, true, true, true, true, true, true, true, true, true, true, true, false, false, false] rfl rfl (any_of HT_.out (by kernel_rfl)) (fun _ _ _ h => h) (Or.inl ⟨by rfl, ?_⟩) ?_ ?_
                        rotate_left
                        · intro w'
                          go_simp
                          with_reducible rfl
                        rotate_left
                        · simp only [Act.put, List.setIfInBounds_toArray, List.set_cons_zero, List.set_cons_succ, i64_w, i32_w]
                          rfl
                        refine last_ (i := 13) (N := none) #[true, true, true, true, true, true, true, true, true, true, true, true, true, true, false, false] rfl rfl (one_of HT_.out (by kernel_rfl)) (by decide) (fun K hK => ?_)
                        refine skip_ (w1 := ?_) (by rfl) rfl ?_ ?_
                        rotate_left
                        · go_simp
                          rfl
                        refine hK.out _ _ ?_
                        clear hK K
                        refine pure_ (i := 14) (N := some 49) (v := ?_) (a' := ?_) #[true, true, true, true, true, true, true, true, true, true, true, true, true, true, true, false] rfl rfl (any_of HT_.out (by kernel_rfl)) (fun _ _ _ h => h) (Or.inl ⟨by rfl, ?_⟩) ?_ ?_
                        rotate_left
                        · intro w'
                          go_simp
                          with_reducible rfl
                        rotate_left
                        · simp only [Act.put, List.setIfInBounds_toArray, List.set_cons_zero, List.set_cons_succ, i64_w, i32_w]
                          rfl
                        refine last_ (i := 15) (N := none) #[true, true, true, true, true, true, true, true, true, true, true, true, true, true, true, true] rfl rfl (one_of HT_.out (by kernel_rfl)) (by decide) (fun K hK => ?_)
                        refine skip_ (w1 := ?_) (by rfl) rfl ?_ ?_
                        rotate_left
                        · go_simp
                          rfl
                        refine hK.out _ _ ?_
                        clear hK K
                        refine done_ (done_of HT_.out (by kernel_rfl)) ?_
                        try go_wp2
                        go_roundg k2
                        case measure => have := HK1.out; have := HK2.out; omega
                        case rel => exact ⟨(t299), (y304), (wrap64 (x9_2 - 1)), (by first | rfl | (simp; done) | (simp [*]; done)), (by first | rfl | (simp; done) | (simp [*]; done)), H', ⟨by have := HK1.out; have := HK2.out; omega⟩, ⟨by (with_reducible repeat (first | apply Kd.R_alloc | apply Kd.R_drewN | apply Kd.R_drew)); exact HQ20.out⟩, ⟨by repeat (first | (with_reducible first | exact HB.out | apply below_alloc | apply pw_below_drewN | apply below_drew1 | refine below_set ?_ GB14.out | refine below_set ?_ GB14.out) | exact HB.out)⟩⟩
                      · rw [if_neg c13] at H
                        exact absurd H (by simp)
                    · rw [if_neg c12] at H
                      exact absurd H (by simp)
                  · rw [if_neg c11] at H
                    exact absurd H (by simp)
                · rw [if_neg c10] at H
                  exact absurd H (by simp)
              · rw [if_neg c8] at H
                have c8b0 : decide (0 < x9_2) = false := decide_eq_false c8
                clear c8
                simp only [Option.some.injEq, Prod.mk.injEq] at H
                obtain ⟨rfl, rfl, rfl⟩ := H
                go_wp2
                go_ret3
                exact ⟨_, by first | rfl | (simp [errW_none, errW_some] <;> rfl) | (simp [*, errW_none, errW_some] <;> rfl), by (with_reducible repeat (first | apply Kd.R_alloc | apply Kd.R_drewN | apply Kd.R_drew)); exact HO_7.out, by repeat (first | (with_reducible first | exact HB.out | apply below_alloc | apply pw_below_drewN | apply below_drew1) | exact HB.out)⟩
  · replace c4 := Bool.eq_false_iff.mpr c4
    subst c4
    have H1 : (some (0, ([] : List Int), 2)) = some (r1, r2, r3) := by rw [if_neg (show ¬ (false = true) by decide)] at H; exact H
    clear H
    have H := H1
    clear H1
    simp only [Option.some.injEq, Prod.mk.injEq] at H
    obtain ⟨rfl, rfl, rfl⟩ := H
    go_enter Try.func23, Try.ntmps23
    go_wp2_with (first | ((with_reducible refine gate_callee (f := 82) rfl ?_); refine goesL_ (some 12) rfl rfl Try.func82 (by kernel_rfl) rfl #[.int .i64 a1] rfl (by (try simp only [List.map_toArray, List.map_cons, List.map_nil]); first | done | rfl | (simp only [List.length_drop, List.length_take]; rfl)) ?_; (with_reducible refine (random_sized.calls a1 false _ A3.out).mono ?_); rintro e w' ⟨rfl, ⟨nd, rfl⟩⟩; refine ⟨_, rfl, ?_⟩))
    go_ret3
    exact ⟨_, by first | rfl | (simp [errW_none, errW_some] <;> rfl) | (simp [*, errW_none, errW_some] <;> rfl), by first | exact Kd.R_nil _ _ _ _ _ | exact Kd.N_nil _ _ _ _ _ | exact Kd.V_nil _ _ _ _ _ | exact Kd.Q_nil _ _ _ _ _ | exact Kd.S_nil _ _ _ _ _, by repeat (first | (with_reducible first | exact HB.out | apply below_alloc | apply pw_below_drewN | apply below_drew1) | exact HB.out)⟩

/-! ### downpourlaw06_alive: function 25 -/
/-! ### random_Below: function 52 -/
end Go.Proofs.Ytaofanhdmfdlmaa.Print

