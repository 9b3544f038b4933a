import Derived.Test.YtaofanhdmfdlmaaOnce0
import Derived.RegionIn
import Derived.OpenShut
import Derived.RegionTactic
import Derived.Test.YtaofanhdmfdlmaaOnce1
/-
What is proved: numbers(state), seen from a loop; what the parts of random.below come to. Condition: none beside those written.
-/
namespace Go.Proofs.Ytaofanhdmfdlmaa.Print
open Go Go.RowKit Go.Proofs.YtaofanhdmfdlmaaW.PrintWords Go.Proofs.YtaofanhdmfdlmaaW.PrintLast Go.Proofs.YtaofanhdmfdlmaaW.PrintMore Go.Proofs.Ytaofanhdmfdlmaa.Rng
attribute [local go_sem] Oper.semAt_some
set_option linter.unusedVariables false

/-- The next state; its number. -/
def rb_nx (c : Int) : Int := IntKind.u64.wrap (c + 11400714819323198485)
def rb_mx (c : Int) : Int := ((random_Next.f c).getD (0, 0)).2
theorem rb_next (c : Int) : random_Next.f c = some (rb_nx c, rb_mx c) := rfl

/-- numbers(state), seen from a loop: from the state s.2 on; a round that goes on moves the state on. -/
theorem numbers_iter (Bs : Nat) (s0 : Nat × Int) (w : World) (hBs : w.heap[Bs]? = some (.cells #[.int .u64 s0.2] 25 (0, 0))) (next : Nat × Int → Nat × Int → Prop)
    (hnext : ∀ s s', next s s' → s'.1 < s.1 ∧ s'.2 = rb_nx s.2) :
    Iter Fence.wide 5 Try.prog 146 #[.pointer (some ⟨Bs, 0, none⟩)] (fun s : Nat × Int => #[.int .u64 (rb_nx s.2), .int .u64 (rb_mx s.2)]) (fun _ => True) next (fun b => b = Bs) (fun b => b = Bs) (fun _ _ => True) s0 w := by
  intro l J Jx W hW hJ hJx _ hY h0
  have hlt : Bs < w.heap.size := (Array.getElem?_eq_some_iff.1 hBs).1
  have hb0 : W.heap[Bs]? = some (.cells #[.int .u64 s0.2] 25 (0, 0)) := (hW.block Bs hlt).trans hBs
  have HY := Aside0.mk hY
  have HJ := Aside0.mk hJ
  have HN := Aside0.mk hnext
  have H0 := Aside0.mk h0
  have HB0 := Aside0.mk hb0
  clear hY hJ hJx hnext h0 hb0 hW hBs hlt
  refine callsIn_of_wp Try.func146 rfl trivial ?_ rfl
  simp only [Try.ntmps146, List.size_toArray, List.length_cons, List.length_nil, Nat.reduceAdd, Nat.reduceSub, Array.replicate_succ, Array.replicate_zero, List.push_toArray, List.append_toArray, List.nil_append, List.cons_append]
  gi_wp2
  gi_loopg [3] s0.1 (fun kq v wr => ∃ s : Nat × Int, Aside0 (s.1 = kq) ∧ Aside0 (wr.heap[Bs]? = some (.cells #[.int .u64 s.2] 25 (0, 0))) ∧ Aside0 (J s wr))
  case atStart => exact ⟨s0, ⟨rfl⟩, HB0, H0⟩
  case round =>
    obtain ⟨s, hk, hb, hj⟩ := hrel
    have hc : wr.cell? ⟨Bs, 0, none⟩ = some (.int .u64 s.2) := (blk_cell hb.out 0).trans rfl
    have hf := blk_frozen hb.out 0
    gi_wp2_with (refine ⟨trivial, ?_⟩; gi_at_call 134; refine callsIn_wide.2 ((random_Next.calls s.2 (rb_nx s.2) (rb_mx s.2) _ (rb_next _)).mono ?_); rintro e w' ⟨rfl, ⟨nd, rfl⟩⟩)
    have hstep : ItStep (fun b => b = Bs) wr ((wr.drewN nd).setCell ⟨Bs, 0, none⟩ (.int .u64 (rb_nx s.2))) :=
      (ItStep.of_below (Drawn0.below ⟨⟨nd, rfl⟩⟩)).trans (ItStep.set (It := fun b => b = Bs) (p := ⟨Bs, 0, none⟩) rfl _)
    have hb2 : ((wr.drewN nd).setCell ⟨Bs, 0, none⟩ (.int .u64 (rb_nx s.2))).heap[Bs]? = some (.cells #[.int .u64 (rb_nx s.2)] 25 (0, 0)) := by
      refine blk_put (cs := #[.int .u64 s.2]) ?_ 0 _ rfl
      exact blk_drewN hb.out nd
    have Hb2 := Aside0.mk hb2
    clear hb2
    obtain ⟨fn, tmps, assign, body, hy, hR⟩ := HY.out s _ (HJ.out s _ _ hj.out hstep) trivial
    clear hstep
    generalize hW3 : (wr.drewN nd).setCell ⟨Bs, 0, none⟩ (.int .u64 (rb_nx s.2)) = W3 at *
    clear hW3
    rw [hy]
    rw [Oper.uponIn_round]
    refine ⟨fun _ => by decide, hR.mono ?_⟩
    rintro e W4 (⟨rfl, hks, s', hn, hj4⟩ | ⟨rfl, hx4⟩)
    · have hn' := HN.out s s' hn
      have hb4 : W4.heap[Bs]? = some (.cells #[.int .u64 s'.2] 25 (0, 0)) := by rw [hn'.2]; exact (hks.2 Bs rfl).trans Hb2.out
      have Hb4 := Aside0.mk hb4
      have HK := Aside0.mk (show s'.1 < gk by rw [← hk.out]; exact hn'.1)
      have HJ4 := Aside0.mk hj4
      clear hb4 hn' hn hks hy hR hj4
      gi_wp2
      gi_roundg s'.1
      case measure => exact HK.out
      case rel => exact ⟨s', ⟨rfl⟩, Hb4, HJ4⟩
    · clear hy hR
      have HX := Aside0.mk hx4
      clear hx4
      gi_wp2
      refine bodyPost_ret (results_none rfl _ _ _) rfl ?_
      exact ⟨⟨_, rfl⟩, .inr HX.out⟩

def rb_rest (n : Int) : Int := if n = 1 then 0 else rb_res n
def rb_acc (n x : Int) : Bool := decide (x < IntKind.u64.wrap (-(rb_rest n))) || decide (rb_rest n = 0)
def rb_go : Nat → Int → Int → Option (Int × Int)
  | 0, _, _ => none
  | k + 1, c, n => if rb_acc n (rb_mx c) = true then some (rb_nx c, rb_mx c % n) else rb_go k (rb_nx c) n
def rb_fuel : Nat := 18446744073709551617
def random_below.f (a0 a1 : Int) : Option (Int × Int) := if 1 ≤ a1 ∧ a1 ≤ 512 then rb_go rb_fuel a0 a1 else none
theorem rb_mx_range (c : Int) : 0 ≤ rb_mx c ∧ rb_mx c ≤ 18446744073709551615 := by
  have h : ∃ a b, rb_mx c = Go.bits .xor .u64 a b := ⟨_, _, rfl⟩
  obtain ⟨a, b, h⟩ := h
  rw [h]
  have := bounds_u64 (wf_bits .xor .u64 a b)
  exact this

theorem numbers_calls (c : Int) (w : World) : Calls Try.prog 121 #[.int .u64 c] w fun e w' =>
    e = .returned (.func (.func 146) #[] #[.pointer (some ⟨w.heap.size, 0, none⟩)]) ∧ w' = w.alloc (.cells #[.int .u64 c] 25) := by
  go_enter Try.func121, Try.ntmps121
  go_wp2
  go_ret
  exact ⟨rfl, rfl⟩
theorem new_at {w : World} {k : Nat} (o : Obj) (h : w.heap.size = k) : (w.alloc o).heap[k]? = some o := by rw [← h]; exact World.alloc_heap_new w o

theorem below_close {w W2 : World} {r1 r2 v : Int} (g3 : W2.heap[w.heap.size + 1]? = some (.cells #[.int .u64 0] 25 (0, 0))) (g4 : W2.heap[w.heap.size + 2]? = some (.cells #[.int .i64 0] 3 (0, 0)))
    (g6 : Below w.heap.size w W2) (hv : v = r2) (W' : World) (hW : W' = ((W2.setCell ⟨w.heap.size + 1, 0, none⟩ (.int .u64 r1)).setCell ⟨w.heap.size + 1 + 1, 0, none⟩ (.int .i64 v)).drew) :
    KeepsOthers W2 W' ∧ Code.ret = Code.ret ∧ W'.heap[w.heap.size + 1]? = some (.cells #[.int .u64 r1] 25 (0, 0)) ∧ W'.heap[w.heap.size + 2]? = some (.cells #[.int .i64 r2] 3 (0, 0)) ∧ Below w.heap.size w W' := by
  subst hW hv
  have hne1 : ∀ (x : Value) (W : World), (W.setCell ⟨w.heap.size + 1 + 1, 0, none⟩ x).heap[w.heap.size + 1]? = W.heap[w.heap.size + 1]? := fun x W => Below.heap_setCell W _ x _ (by simp)
  have hne2 : ∀ (x : Value) (W : World), (W.setCell ⟨w.heap.size + 1, 0, none⟩ x).heap[w.heap.size + 2]? = W.heap[w.heap.size + 2]? := fun x W => Below.heap_setCell W _ x _ (by simp)
  refine ⟨((KeepsOthers.setCell _ _ _).trans (KeepsOthers.setCell _ _ _)).trans (KeepsOthers.drew _), rfl, ?_, ?_, ?_⟩
  · show ((W2.setCell ⟨w.heap.size + 1, 0, none⟩ (.int .u64 r1)).setCell ⟨w.heap.size + 1 + 1, 0, none⟩ (.int .i64 v)).heap[w.heap.size + 1]? = _
    rw [hne1]; exact blk_put g3 0 _ rfl
  · show ((W2.setCell ⟨w.heap.size + 1, 0, none⟩ (.int .u64 r1)).setCell ⟨w.heap.size + 1 + 1, 0, none⟩ (.int .i64 v)).heap[w.heap.size + 2]? = _
    exact blk_put (cs := #[.int .i64 0]) (by rw [hne2]; exact g4) 0 _ rfl
  · exact below_drew ((g6.setCell (p := ⟨w.heap.size + 1, 0, none⟩) (by simp) _).setCell (p := ⟨w.heap.size + 1 + 1, 0, none⟩) (by simp; omega) _)
theorem below_end {w W : World} {tmps : Array Value} {D : Nat} {r1 r2 : Int} (hD : w.heap.size + 5 ≤ D) (ht4 : tmps.getD 4 undef = .pointer (some ⟨w.heap.size + 1, 0, none⟩)) (ht5 : tmps.getD 5 undef = .pointer (some ⟨w.heap.size + 1 + 1, 0, none⟩))
    (h3 : W.heap[w.heap.size + 1]? = some (.cells #[.int .u64 r1] 25 (0, 0))) (h4 : W.heap[w.heap.size + 2]? = some (.cells #[.int .i64 r2] 3 (0, 0))) (h6 : Below w.heap.size w W) (hd : W.heap[D]? = some (.deferred (some []))) :
    bodyPostM Fence.wide 6 Try.prog Try.f83 (fun e w' => e = .returned (.tuple #[.int .u64 r1, .int .i64 r2]) ∧ Below w.heap.size w w') .ret { tmps := tmps, defers := [{ target := .collected D, args := #[] }] } W := by
  refine ⟨by simp, .inl ⟨_, _, rfl, run_takeDeferred hd, ?_⟩⟩
  have k3 : (W.putObj D (.deferred none)).heap[w.heap.size + 1]? = some (.cells #[.int .u64 r1] 25 (0, 0)) := (World.putObj_heap_other (by omega)).trans h3
  have k4 : (W.putObj D (.deferred none)).heap[w.heap.size + 2]? = some (.cells #[.int .i64 r2] 3 (0, 0)) := (World.putObj_heap_other (by omega)).trans h4
  have c3 := (blk_cell k3 0).trans rfl
  have c4 := (blk_cell k4 0).trans rfl
  have k6 : Below w.heap.size w (W.putObj D (.deferred none)) := ⟨h6.os, h6.tape, h6.output, by simpa [World.putObj] using h6.size, fun b hb => (World.putObj_heap_other (by omega)).trans (h6.block b hb)⟩
  refine ⟨.tuple #[.int .u64 r1, .int .i64 r2], ?_, rfl, k6⟩
  have t4 : tmps[4]?.getD undef = .pointer (some ⟨w.heap.size + 1, 0, none⟩) := by simpa using ht4
  have t5 : tmps[5]?.getD undef = .pointer (some ⟨w.heap.size + 1 + 1, 0, none⟩) := by simpa using ht5
  have hu := Try.underlying25
  have hi := Try.underlying3
  simp [results, Try.results83, t4, t5, go_sem, c3, c4]
end Go.Proofs.Ytaofanhdmfdlmaa.Print

/-
What is proved: random.below is the first number of the state's that is not refused, modulo n. Condition: n = 1.
-/
namespace Go.Proofs.Ytaofanhdmfdlmaa.Print
open Go Go.RowKit Go.Proofs.YtaofanhdmfdlmaaW.PrintWords Go.Proofs.YtaofanhdmfdlmaaW.PrintLast Go.Proofs.YtaofanhdmfdlmaaW.PrintMore Go.Proofs.Ytaofanhdmfdlmaa.Rng
attribute [local go_sem] Oper.semAt_some
set_option linter.unusedVariables false

set_option maxHeartbeats 4000000 in
set_option maxRecDepth 100000 in
theorem below_one (a0 r1 r2 : Int) (w : World) (HR : Aside0 (rb_go rb_fuel a0 1 = some (r1, r2))) :
    Calls Try.prog 83 #[.int .u64 a0, .int .i64 1] w fun e w' => e = .returned (.tuple #[.int .u64 r1, .int .i64 r2]) ∧ Below w.heap.size w w' := by
  obtain ⟨q, hq⟩ := div64_at 2 (by omega) (by omega)
  obtain ⟨rs, hrs⟩ : ∃ rs, rs = rb_res 2 := ⟨_, rfl⟩
  rw [← hrs] at hq
  have Hq := Aside0.mk hq
  have hrest := Aside0.mk (show rb_rest 1 = 0 from rfl)
  clear hq hrs
  refine callsIn_wide.1 (callsIn_of_wp_marks (n := 6) Try.func83 rfl trivial ?_ rfl)
  simp only [Try.ntmps83, List.size_toArray, List.length_cons, List.length_nil, Nat.reduceAdd, Nat.reduceSub, Array.replicate_succ, Array.replicate_zero, List.push_toArray, List.append_toArray, List.nil_append, List.cons_append]
  gi_wp2_with fail
  refine ⟨trivial, ?_⟩
  refine callsIn_wide.2 ((bits_Div64.calls 6 1 0 2 q rs _ Hq.out).mono ?_)
  rintro e w' ⟨rfl, ⟨nd, rfl⟩⟩
  gi_wp2
  refine ⟨trivial, ?_⟩
  refine callsIn_wide.2 ((numbers_calls a0 _).mono ?_)
  rintro e w2 ⟨rfl, hw2⟩
  have B0 := (Aside0.mk (show w2.heap[w.heap.size]? = some (.cells #[.int .i64 1] 3 (0, 0)) by
    rw [hw2]; refine blk_alloc ?_ _; refine blk_alloc ?_ _; refine blk_drewN ?_ _; refine blk_alloc ?_ _; refine blk_alloc ?_ _; exact new_at _ rfl))
  have B1 := (Aside0.mk (show w2.heap[w.heap.size + 1]? = some (.cells #[.int .u64 0] 25 (0, 0)) by
    rw [hw2]; refine blk_alloc ?_ _; refine blk_alloc ?_ _; refine blk_drewN ?_ _; refine blk_alloc ?_ _; exact new_at _ (by simp)))
  have B2 := (Aside0.mk (show w2.heap[w.heap.size + 2]? = some (.cells #[.int .i64 0] 3 (0, 0)) by
    rw [hw2]; refine blk_alloc ?_ _; refine blk_alloc ?_ _; refine blk_drewN ?_ _; exact new_at _ (by simp)))
  have B3 := (Aside0.mk (show w2.heap[w.heap.size + 3]? = some (.cells #[.int .u64 (rb_rest 1)] 25 (0, 0)) by
    rw [hw2, hrest.out]; refine blk_alloc ?_ _; exact new_at _ (by simp)))
  have B4 := (Aside0.mk (show w2.heap[w.heap.size + 4]? = some (.cells #[.int .u64 a0] 25 (0, 0)) by
    rw [hw2]; exact new_at _ (by simp)))
  have HB := (Aside0.mk (show Below w.heap.size w w2 by
    rw [hw2]; exact below_alloc (below_alloc (pw_below_drewN (below_alloc (below_alloc (below_alloc (Below.refl _ _) _) _) _) nd) _) _))
  have SZ := Aside0.mk (show w2.heap.size = w.heap.size + 5 by rw [hw2]; simp)
  clear hw2
  gi_wp2
  trace "range"
  refine wpIn_rng (σ := Nat × Int) (gf := 146) (lb := #[.pointer (some ⟨w.heap.size + 1 + 1 + 1 + 1, 0, none⟩)]) rfl (by decide) rfl trivial (enters_of Try.func146 (by kernel_rfl) rfl)
    (numbers_iter (w.heap.size + 4) (rb_fuel, a0) w2 B4.out (fun s s' => s.1 = s'.1 + 1 ∧ s'.2 = rb_nx s.2) (fun s s' h => ⟨by omega, h.2⟩)) (fun _ => rfl)
    (fun b hb => by have := SZ.out; omega) (fun b hb => by have := SZ.out; omega)
    (fun s W => rb_go s.1 s.2 1 = some (r1, r2) ∧ W.heap[w.heap.size]? = some (.cells #[.int .i64 1] 3 (0, 0)) ∧ W.heap[w.heap.size + 1]? = some (.cells #[.int .u64 0] 25 (0, 0)) ∧
      W.heap[w.heap.size + 2]? = some (.cells #[.int .i64 0] 3 (0, 0)) ∧ W.heap[w.heap.size + 3]? = some (.cells #[.int .u64 (rb_rest 1)] 25 (0, 0)) ∧ Below w.heap.size w W)
    (fun c W => c = .ret ∧ W.heap[w.heap.size + 1]? = some (.cells #[.int .u64 r1] 25 (0, 0)) ∧ W.heap[w.heap.size + 2]? = some (.cells #[.int .i64 r2] 3 (0, 0)) ∧ Below w.heap.size w W)
    ?stab ?stabx (fun _ _ _ => trivial) ⟨HR.out, B0.out, B1.out, B2.out, B3.out, HB.out⟩ ?round ?done ?stop
  case stab =>
    rintro s A B ⟨h1, h2, h3, h4, h5, h6⟩ hf
    have := SZ.out
    exact ⟨h1, hf.blk h2 (by omega) (by omega), hf.blk h3 (by omega) (by omega), hf.blk h4 (by omega) (by omega), hf.blk h5 (by omega) (by omega), hf.below h6 (Nat.le_refl _) (fun b hb => by omega) (by omega)⟩
  case stabx =>
    rintro c A B ⟨h1, h3, h4, h6⟩ hf
    have := SZ.out
    exact ⟨h1, hf.blk h3 (by omega) (by omega), hf.blk h4 (by omega) (by omega), hf.below h6 (Nat.le_refl _) (fun b hb => by omega) (by omega)⟩
  case round =>
    intro l s W hI _ K hK
    gi_wp2
    clear hI
    rintro W2 ⟨g1, g2, g3, g4, g5, g6⟩
    obtain ⟨k, c⟩ := s
    cases k with
    | zero => cases g1
    | succ k =>
      simp only [rb_go] at g1
      have e0 := (blk_cell g2 0).trans rfl
      have e1 := (blk_cell g3 0).trans rfl
      have e2 := (blk_cell g4 0).trans rfl
      have e3 := (blk_cell g5 0).trans rfl
      have f1 := blk_frozen g3 0
      have f2 := blk_frozen g4 0
      have hx := (rb_mx_range c).1
      have G1 := Aside0.mk g1
      have G2 := Aside0.mk g2
      have G3 := Aside0.mk g3
      have G4 := Aside0.mk g4
      have G5 := Aside0.mk g5
      have G6 := Aside0.mk g6
      clear g1 g2 g3 g4 g5 g6 B0 B1 B2 B3 B4 HB Hq HR
      generalize hv : rb_rest 1 = v at *
      generalize hxx : rb_mx c = x at *
      have HV := Aside0.mk hv
      have HXX := Aside0.mk hxx
      clear hv hxx
      have hw : IntKind.u64.wrap 1 = 1 := IntWalk.u64_in _ (by omega)
      have ht : Int.tmod x 1 = x % 1 := IntWalk.rem_in _ _ hx
      have hw2 : IntKind.i64.wrap (x % 1) = x % 1 := IntWalk.i64_in _ (by have z1 := Int.emod_nonneg x (show 1 ≠ 0 by omega); have z2 := Int.emod_lt_of_pos x (show 0 < 1 by omega); omega)
      by_cases c1 : x < IntKind.u64.wrap (-v)
      · have c1b : decide (x < IntKind.u64.wrap (-v)) = true := decide_eq_true c1
        have hr := G1.out
        rw [if_pos (show rb_acc 1 x = true by unfold rb_acc; rw [HV.out, c1b]; rfl)] at hr
        simp only [Option.some.injEq, Prod.mk.injEq] at hr
        obtain ⟨rfl, hr2⟩ := hr
        have HR2 := Aside0.mk hr2
        clear c1 hr2 G1
        gi_wp2
        gi_region
        all_goals (gi_wp2; exact below_close G3.out G4.out G6.out (by first | exact HR2.out | (rw [← HR2.out, Int.emod_one]; rfl)) _ rfl)
      · have c1b : decide (x < IntKind.u64.wrap (-v)) = false := decide_eq_false c1
        by_cases c2 : v = 0
        · have c2b : (v == 0) = true := beq_iff_eq.mpr c2
          have hr := G1.out
          rw [if_pos (show rb_acc 1 x = true by unfold rb_acc; rw [HV.out, c1b]; simp [c2])] at hr
          simp only [Option.some.injEq, Prod.mk.injEq] at hr
          obtain ⟨rfl, hr2⟩ := hr
          have HR2 := Aside0.mk hr2
          clear c1 c2 hr2 G1
          gi_wp2
          gi_region
          all_goals (gi_wp2; exact below_close G3.out G4.out G6.out (by first | exact HR2.out | (rw [← HR2.out, Int.emod_one]; rfl)) _ rfl)
        · have c2b : (v == 0) = false := beq_eq_false_iff_ne.mpr c2
          have hr := G1.out
          rw [if_neg (show ¬ rb_acc 1 x = true by unfold rb_acc; rw [HV.out, c1b]; simp [c2])] at hr
          have HN := Aside0.mk hr
          clear c1 c2 hr G1
          gi_wp2
          exact ⟨KeepsOthers.refl _, ⟨Nat.le_refl _, fun _ _ => rfl⟩, (k, rb_nx c), ⟨rfl, rfl⟩, HN.out, G2.out, G3.out, G4.out, G5.out, G6.out⟩
  case done => intro D s W _ hm; exact absurd trivial hm
  case stop =>
    rintro D c W hD ⟨rfl, h3, h4, h6⟩ hd
    have SZ1 := SZ.out
    gi_wp2
    exact below_end (by omega) rfl rfl h3 h4 h6 hd
end Go.Proofs.Ytaofanhdmfdlmaa.Print

/-
What is proved: random.below is the first number of the state's that is not refused, modulo n. Condition: 2 ≤ n ≤ 512.
-/
namespace Go.Proofs.Ytaofanhdmfdlmaa.Print
open Go Go.RowKit Go.Proofs.YtaofanhdmfdlmaaW.PrintWords Go.Proofs.YtaofanhdmfdlmaaW.PrintLast Go.Proofs.YtaofanhdmfdlmaaW.PrintMore Go.Proofs.Ytaofanhdmfdlmaa.Rng
attribute [local go_sem] Oper.semAt_some
set_option linter.unusedVariables false

set_option maxHeartbeats 4000000 in
set_option maxRecDepth 100000 in
theorem below_more (a0 a1 r1 r2 : Int) (w : World) (h1 : 1 ≤ a1) (h2 : a1 ≤ 512) (hone : ¬ a1 = 1) (HR : Aside0 (rb_go rb_fuel a0 a1 = some (r1, r2))) :
    Calls Try.prog 83 #[.int .u64 a0, .int .i64 a1] w fun e w' => e = .returned (.tuple #[.int .u64 r1, .int .i64 r2]) ∧ Below w.heap.size w w' := by
  obtain ⟨q, hq⟩ := div64_at (max a1 2) (by omega) (by omega)
  obtain ⟨rs, hrs⟩ : ∃ rs, rs = rb_res (max a1 2) := ⟨_, rfl⟩
  rw [← hrs] at hq
  have Hq := Aside0.mk hq
  have hb : (a1 == 1) = false := beq_eq_false_iff_ne.mpr hone
  have hz : (a1 == 0) = false := beq_eq_false_iff_ne.mpr (by omega)
  have hz2 : ¬ a1 = 0 := by omega
  have hrest := Aside0.mk (show rb_rest a1 = rs by unfold rb_rest; rw [if_neg hone, hrs]; congr 1; omega)
  clear hq hrs
  refine callsIn_wide.1 (callsIn_of_wp_marks (n := 6) Try.func83 rfl trivial ?_ rfl)
  simp only [Try.ntmps83, List.size_toArray, List.length_cons, List.length_nil, Nat.reduceAdd, Nat.reduceSub, Array.replicate_succ, Array.replicate_zero, List.push_toArray, List.append_toArray, List.nil_append, List.cons_append]
  gi_wp2_with fail
  refine ⟨trivial, ?_⟩
  refine callsIn_wide.2 ((bits_Div64.calls 6 1 0 (max a1 2) q rs _ Hq.out).mono ?_)
  rintro e w' ⟨rfl, ⟨nd, rfl⟩⟩
  gi_wp2
  refine ⟨trivial, ?_⟩
  refine callsIn_wide.2 ((numbers_calls a0 _).mono ?_)
  rintro e w2 ⟨rfl, hw2⟩
  have B0 := (Aside0.mk (show w2.heap[w.heap.size]? = some (.cells #[.int .i64 a1] 3 (0, 0)) by
    rw [hw2]; refine blk_alloc ?_ _; refine blk_alloc ?_ _; refine blk_drewN ?_ _; refine blk_alloc ?_ _; refine blk_alloc ?_ _; exact new_at _ rfl))
  have B1 := (Aside0.mk (show w2.heap[w.heap.size + 1]? = some (.cells #[.int .u64 0] 25 (0, 0)) by
    rw [hw2]; refine blk_alloc ?_ _; refine blk_alloc ?_ _; refine blk_drewN ?_ _; refine blk_alloc ?_ _; exact new_at _ (by simp)))
  have B2 := (Aside0.mk (show w2.heap[w.heap.size + 2]? = some (.cells #[.int .i64 0] 3 (0, 0)) by
    rw [hw2]; refine blk_alloc ?_ _; refine blk_alloc ?_ _; refine blk_drewN ?_ _; exact new_at _ (by simp)))
  have B3 := (Aside0.mk (show w2.heap[w.heap.size + 3]? = some (.cells #[.int .u64 (rb_rest a1)] 25 (0, 0)) by
    rw [hw2, hrest.out]; refine blk_alloc ?_ _; exact new_at _ (by simp)))
  have B4 := (Aside0.mk (show w2.heap[w.heap.size + 4]? = some (.cells #[.int .u64 a0] 25 (0, 0)) by
    rw [hw2]; exact new_at _ (by simp)))
  have HB := (Aside0.mk (show Below w.heap.size w w2 by
    rw [hw2]; exact below_alloc (below_alloc (pw_below_drewN (below_alloc (below_alloc (below_alloc (Below.refl _ _) _) _) _) nd) _) _))
  have SZ := Aside0.mk (show w2.heap.size = w.heap.size + 5 by rw [hw2]; simp)
  clear hw2
  gi_wp2
  trace "range"
  refine wpIn_rng (σ := Nat × Int) (gf := 146) (lb := #[.pointer (some ⟨w.heap.size + 1 + 1 + 1 + 1, 0, none⟩)]) rfl (by decide) rfl trivial (enters_of Try.func146 (by kernel_rfl) rfl)
    (numbers_iter (w.heap.size + 4) (rb_fuel, a0) w2 B4.out (fun s s' => s.1 = s'.1 + 1 ∧ s'.2 = rb_nx s.2) (fun s s' h => ⟨by omega, h.2⟩)) (fun _ => rfl)
    (fun b hb => by have := SZ.out; omega) (fun b hb => by have := SZ.out; omega)
    (fun s W => rb_go s.1 s.2 a1 = some (r1, r2) ∧ W.heap[w.heap.size]? = some (.cells #[.int .i64 a1] 3 (0, 0)) ∧ W.heap[w.heap.size + 1]? = some (.cells #[.int .u64 0] 25 (0, 0)) ∧
      W.heap[w.heap.size + 2]? = some (.cells #[.int .i64 0] 3 (0, 0)) ∧ W.heap[w.heap.size + 3]? = some (.cells #[.int .u64 (rb_rest a1)] 25 (0, 0)) ∧ Below w.heap.size w W)
    (fun c W => c = .ret ∧ W.heap[w.heap.size + 1]? = some (.cells #[.int .u64 r1] 25 (0, 0)) ∧ W.heap[w.heap.size + 2]? = some (.cells #[.int .i64 r2] 3 (0, 0)) ∧ Below w.heap.size w W)
    ?stab ?stabx (fun _ _ _ => trivial) ⟨HR.out, B0.out, B1.out, B2.out, B3.out, HB.out⟩ ?round ?done ?stop
  case stab =>
    rintro s A B ⟨h1, h2, h3, h4, h5, h6⟩ hf
    have := SZ.out
    exact ⟨h1, hf.blk h2 (by omega) (by omega), hf.blk h3 (by omega) (by omega), hf.blk h4 (by omega) (by omega), hf.blk h5 (by omega) (by omega), hf.below h6 (Nat.le_refl _) (fun b hb => by omega) (by omega)⟩
  case stabx =>
    rintro c A B ⟨h1, h3, h4, h6⟩ hf
    have := SZ.out
    exact ⟨h1, hf.blk h3 (by omega) (by omega), hf.blk h4 (by omega) (by omega), hf.below h6 (Nat.le_refl _) (fun b hb => by omega) (by omega)⟩
  case round =>
    intro l s W hI _ K hK
    gi_wp2
    clear hI
    rintro W2 ⟨g1, g2, g3, g4, g5, g6⟩
    obtain ⟨k, c⟩ := s
    cases k with
    | zero => cases g1
    | succ k =>
      simp only [rb_go] at g1
      have e0 := (blk_cell g2 0).trans rfl
      have e1 := (blk_cell g3 0).trans rfl
      have e2 := (blk_cell g4 0).trans rfl
      have e3 := (blk_cell g5 0).trans rfl
      have f1 := blk_frozen g3 0
      have f2 := blk_frozen g4 0
      have hx := (rb_mx_range c).1
      have G1 := Aside0.mk g1
      have G2 := Aside0.mk g2
      have G3 := Aside0.mk g3
      have G4 := Aside0.mk g4
      have G5 := Aside0.mk g5
      have G6 := Aside0.mk g6
      clear g1 g2 g3 g4 g5 g6 B0 B1 B2 B3 B4 HB Hq HR
      generalize hv : rb_rest a1 = v at *
      generalize hxx : rb_mx c = x at *
      have HV := Aside0.mk hv
      have HXX := Aside0.mk hxx
      clear hv hxx
      have hw : IntKind.u64.wrap a1 = a1 := IntWalk.u64_in _ (by omega)
      have ht : Int.tmod x a1 = x % a1 := IntWalk.rem_in _ _ hx
      have hw2 : IntKind.i64.wrap (x % a1) = x % a1 := IntWalk.i64_in _ (by have z1 := Int.emod_nonneg x (show a1 ≠ 0 by omega); have z2 := Int.emod_lt_of_pos x (show 0 < a1 by omega); omega)
      by_cases c1 : x < IntKind.u64.wrap (-v)
      · have c1b : decide (x < IntKind.u64.wrap (-v)) = true := decide_eq_true c1
        have hr := G1.out
        rw [if_pos (show rb_acc a1 x = true by unfold rb_acc; rw [HV.out, c1b]; rfl)] at hr
        simp only [Option.some.injEq, Prod.mk.injEq] at hr
        obtain ⟨rfl, hr2⟩ := hr
        have HR2 := Aside0.mk hr2
        clear c1 hr2 G1
        gi_wp2
        gi_region
        all_goals (gi_wp2; exact below_close G3.out G4.out G6.out (by first | exact HR2.out | (rw [← HR2.out, Int.emod_one]; rfl)) _ rfl)
      · have c1b : decide (x < IntKind.u64.wrap (-v)) = false := decide_eq_false c1
        by_cases c2 : v = 0
        · have c2b : (v == 0) = true := beq_iff_eq.mpr c2
          have hr := G1.out
          rw [if_pos (show rb_acc a1 x = true by unfold rb_acc; rw [HV.out, c1b]; simp [c2])] at hr
          simp only [Option.some.injEq, Prod.mk.injEq] at hr
          obtain ⟨rfl, hr2⟩ := hr
          have HR2 := Aside0.mk hr2
          clear c1 c2 hr2 G1
          gi_wp2
          gi_region
          all_goals (gi_wp2; exact below_close G3.out G4.out G6.out (by first | exact HR2.out | (rw [← HR2.out, Int.emod_one]; rfl)) _ rfl)
        · have c2b : (v == 0) = false := beq_eq_false_iff_ne.mpr c2
          have hr := G1.out
          rw [if_neg (show ¬ rb_acc a1 x = true by unfold rb_acc; rw [HV.out, c1b]; simp [c2])] at hr
          have HN := Aside0.mk hr
          clear c1 c2 hr G1
          gi_wp2
          exact ⟨KeepsOthers.refl _, ⟨Nat.le_refl _, fun _ _ => rfl⟩, (k, rb_nx c), ⟨rfl, rfl⟩, HN.out, G2.out, G3.out, G4.out, G5.out, G6.out⟩
  case done => intro D s W _ hm; exact absurd trivial hm
  case stop =>
    rintro D c W hD ⟨rfl, h3, h4, h6⟩ hd
    have SZ1 := SZ.out
    gi_wp2
    exact below_end (by omega) rfl rfl h3 h4 h6 hd
end Go.Proofs.Ytaofanhdmfdlmaa.Print

/-
What is proved: random.below is the first number of the state's that is not refused, modulo n. Condition: 1 ≤ n ≤ 512.
-/
namespace Go.Proofs.Ytaofanhdmfdlmaa.Print
open Go Go.RowKit Go.Proofs.YtaofanhdmfdlmaaW.PrintWords Go.Proofs.YtaofanhdmfdlmaaW.PrintLast Go.Proofs.YtaofanhdmfdlmaaW.PrintMore Go.Proofs.Ytaofanhdmfdlmaa.Rng
theorem random_below.calls (a0 : Int) (a1 : Int) (r1 : Int) (r2 : Int) (w : World) (h : random_below.f a0 a1 = some (r1, r2)) :
    Calls Try.prog 83 #[.int .u64 a0, .int .i64 a1] w fun e w' => e = .returned (.tuple #[.int .u64 r1, .int .i64 r2]) ∧ Below w.heap.size w w' := by
  unfold random_below.f at h
  by_cases hc : 1 ≤ a1 ∧ a1 ≤ 512
  case neg => rw [if_neg hc] at h; cases h
  rw [if_pos hc] at h
  by_cases hone : a1 = 1
  · subst hone; exact below_one a0 r1 r2 w ⟨h⟩
  · exact below_more a0 a1 r1 r2 w hc.1 hc.2 hone ⟨h⟩
end Go.Proofs.Ytaofanhdmfdlmaa.Print

