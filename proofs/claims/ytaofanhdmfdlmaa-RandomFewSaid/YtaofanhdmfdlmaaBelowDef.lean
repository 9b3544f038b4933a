/-
What is proved: numbers(state), seen from a loop; what the parts of random.below come to. Condition: none beside those written.
-/
import Derived.Test.YtaofanhdmfdlmaaRng
import Derived.RegionIn
import Derived.OpenShut
import Derived.RegionTactic
import Derived.Test.YtaofanhdmfdlmaaPrint87
import Derived.Test.YtaofanhdmfdlmaaDivAt
import Derived.Test.YtaofanhdmfdlmaaPrint64
namespace Go.Proofs.Ytaofanhdmfdlmaa.Print
open Go Go.RowKit Go.Proofs.YtaofanhdmfdlmaaW.PrintWords Go.Proofs.YtaofanhdmfdlmaaW.PrintLast Go.Proofs.YtaofanhdmfdlmaaW.PrintMore Go.Proofs.Ytaofanhdmfdlmaa.Rng
attribute [local go_sem] Oper.semAt_some
set_option linter.unusedVariables false

/-- The next state; its number. -/
def rb_nx (c : Int) : Int := IntKind.u64.wrap (c + 11400714819323198485)
def rb_mx (c : Int) : Int := ((random_Next.f c).getD (0, 0)).2
theorem rb_next (c : Int) : random_Next.f c = some (rb_nx c, rb_mx c) := rfl

/-- numbers(state), seen from a loop: from the state s.2 on; a round that goes on moves the state on. -/
theorem numbers_iter (Bs : Nat) (s0 : Nat × Int) (w : World) (hBs : w.heap[Bs]? = some (.cells #[.int .u64 s0.2] 25 (0, 0))) (next : Nat × Int → Nat × Int → Prop)
    (hnext : ∀ s s', next s s' → s'.1 < s.1 ∧ s'.2 = rb_nx s.2) :
    Iter Fence.wide 5 Try.prog 146 #[.pointer (some ⟨Bs, 0, none⟩)] (fun s : Nat × Int => #[.int .u64 (rb_nx s.2), .int .u64 (rb_mx s.2)]) (fun _ => True) next (fun b => b = Bs) (fun b => b = Bs) (fun _ _ => True) s0 w := by
  intro l J Jx W hW hJ hJx _ hY h0
  have hlt : Bs < w.heap.size := (Array.getElem?_eq_some_iff.1 hBs).1
  have hb0 : W.heap[Bs]? = some (.cells #[.int .u64 s0.2] 25 (0, 0)) := (hW.block Bs hlt).trans hBs
  have HY := Aside0.mk hY
  have HJ := Aside0.mk hJ
  have HN := Aside0.mk hnext
  have H0 := Aside0.mk h0
  have HB0 := Aside0.mk hb0
  clear hY hJ hJx hnext h0 hb0 hW hBs hlt
  refine callsIn_of_wp Try.func146 rfl trivial ?_ rfl
  simp only [Try.ntmps146, List.size_toArray, List.length_cons, List.length_nil, Nat.reduceAdd, Nat.reduceSub, Array.replicate_succ, Array.replicate_zero, List.push_toArray, List.append_toArray, List.nil_append, List.cons_append]
  gi_wp2
  gi_loopg [3] s0.1 (fun kq v wr => ∃ s : Nat × Int, Aside0 (s.1 = kq) ∧ Aside0 (wr.heap[Bs]? = some (.cells #[.int .u64 s.2] 25 (0, 0))) ∧ Aside0 (J s wr))
  case atStart => exact ⟨s0, ⟨rfl⟩, HB0, H0⟩
  case round =>
    obtain ⟨s, hk, hb, hj⟩ := hrel
    have hc : wr.cell? ⟨Bs, 0, none⟩ = some (.int .u64 s.2) := (blk_cell hb.out 0).trans rfl
    have hf := blk_frozen hb.out 0
    gi_wp2_with (refine ⟨trivial, ?_⟩; gi_at_call 134; refine callsIn_wide.2 ((random_Next.calls s.2 (rb_nx s.2) (rb_mx s.2) _ (rb_next _)).mono ?_); rintro e w' ⟨rfl, ⟨nd, rfl⟩⟩)
    have hstep : ItStep (fun b => b = Bs) wr ((wr.drewN nd).setCell ⟨Bs, 0, none⟩ (.int .u64 (rb_nx s.2))) :=
      (ItStep.of_below (Drawn0.below ⟨⟨nd, rfl⟩⟩)).trans (ItStep.set (It := fun b => b = Bs) (p := ⟨Bs, 0, none⟩) rfl _)
    have hb2 : ((wr.drewN nd).setCell ⟨Bs, 0, none⟩ (.int .u64 (rb_nx s.2))).heap[Bs]? = some (.cells #[.int .u64 (rb_nx s.2)] 25 (0, 0)) := by
      refine blk_put (cs := #[.int .u64 s.2]) ?_ 0 _ rfl
      exact blk_drewN hb.out nd
    have Hb2 := Aside0.mk hb2
    clear hb2
    obtain ⟨fn, tmps, assign, body, hy, hR⟩ := HY.out s _ (HJ.out s _ _ hj.out hstep) trivial
    clear hstep
    generalize hW3 : (wr.drewN nd).setCell ⟨Bs, 0, none⟩ (.int .u64 (rb_nx s.2)) = W3 at *
    clear hW3
    rw [hy]
    rw [Oper.uponIn_round]
    refine ⟨fun _ => by decide, hR.mono ?_⟩
    rintro e W4 (⟨rfl, hks, s', hn, hj4⟩ | ⟨rfl, hx4⟩)
    · have hn' := HN.out s s' hn
      have hb4 : W4.heap[Bs]? = some (.cells #[.int .u64 s'.2] 25 (0, 0)) := by rw [hn'.2]; exact (hks.2 Bs rfl).trans Hb2.out
      have Hb4 := Aside0.mk hb4
      have HK := Aside0.mk (show s'.1 < gk by rw [← hk.out]; exact hn'.1)
      have HJ4 := Aside0.mk hj4
      clear hb4 hn' hn hks hy hR hj4
      gi_wp2
      gi_roundg s'.1
      case measure => exact HK.out
      case rel => exact ⟨s', ⟨rfl⟩, Hb4, HJ4⟩
    · clear hy hR
      have HX := Aside0.mk hx4
      clear hx4
      gi_wp2
      refine bodyPost_ret (results_none rfl _ _ _) rfl ?_
      exact ⟨⟨_, rfl⟩, .inr HX.out⟩

def rb_rest (n : Int) : Int := if n = 1 then 0 else rb_res n
def rb_acc (n x : Int) : Bool := decide (x < IntKind.u64.wrap (-(rb_rest n))) || decide (rb_rest n = 0)
def rb_go : Nat → Int → Int → Option (Int × Int)
  | 0, _, _ => none
  | k + 1, c, n => if rb_acc n (rb_mx c) = true then some (rb_nx c, rb_mx c % n) else rb_go k (rb_nx c) n
def rb_fuel : Nat := 18446744073709551617
def random_below.f (a0 a1 : Int) : Option (Int × Int) := if 1 ≤ a1 ∧ a1 ≤ 512 then rb_go rb_fuel a0 a1 else none
theorem rb_mx_range (c : Int) : 0 ≤ rb_mx c ∧ rb_mx c ≤ 18446744073709551615 := by
  have h : ∃ a b, rb_mx c = Go.bits .xor .u64 a b := ⟨_, _, rfl⟩
  obtain ⟨a, b, h⟩ := h
  rw [h]
  have := bounds_u64 (wf_bits .xor .u64 a b)
  exact this

theorem numbers_calls (c : Int) (w : World) : Calls Try.prog 121 #[.int .u64 c] w fun e w' =>
    e = .returned (.func (.func 146) #[] #[.pointer (some ⟨w.heap.size, 0, none⟩)]) ∧ w' = w.alloc (.cells #[.int .u64 c] 25) := by
  go_enter Try.func121, Try.ntmps121
  go_wp2
  go_ret
  exact ⟨rfl, rfl⟩
theorem new_at {w : World} {k : Nat} (o : Obj) (h : w.heap.size = k) : (w.alloc o).heap[k]? = some o := by rw [← h]; exact World.alloc_heap_new w o

theorem below_close {w W2 : World} {r1 r2 v : Int} (g3 : W2.heap[w.heap.size + 1]? = some (.cells #[.int .u64 0] 25 (0, 0))) (g4 : W2.heap[w.heap.size + 2]? = some (.cells #[.int .i64 0] 3 (0, 0)))
    (g6 : Below w.heap.size w W2) (hv : v = r2) (W' : World) (hW : W' = ((W2.setCell ⟨w.heap.size + 1, 0, none⟩ (.int .u64 r1)).setCell ⟨w.heap.size + 1 + 1, 0, none⟩ (.int .i64 v)).drew) :
    KeepsOthers W2 W' ∧ Code.ret = Code.ret ∧ W'.heap[w.heap.size + 1]? = some (.cells #[.int .u64 r1] 25 (0, 0)) ∧ W'.heap[w.heap.size + 2]? = some (.cells #[.int .i64 r2] 3 (0, 0)) ∧ Below w.heap.size w W' := by
  subst hW hv
  have hne1 : ∀ (x : Value) (W : World), (W.setCell ⟨w.heap.size + 1 + 1, 0, none⟩ x).heap[w.heap.size + 1]? = W.heap[w.heap.size + 1]? := fun x W => Below.heap_setCell W _ x _ (by simp)
  have hne2 : ∀ (x : Value) (W : World), (W.setCell ⟨w.heap.size + 1, 0, none⟩ x).heap[w.heap.size + 2]? = W.heap[w.heap.size + 2]? := fun x W => Below.heap_setCell W _ x _ (by simp)
  refine ⟨((KeepsOthers.setCell _ _ _).trans (KeepsOthers.setCell _ _ _)).trans (KeepsOthers.drew _), rfl, ?_, ?_, ?_⟩
  · show ((W2.setCell ⟨w.heap.size + 1, 0, none⟩ (.int .u64 r1)).setCell ⟨w.heap.size + 1 + 1, 0, none⟩ (.int .i64 v)).heap[w.heap.size + 1]? = _
    rw [hne1]; exact blk_put g3 0 _ rfl
  · show ((W2.setCell ⟨w.heap.size + 1, 0, none⟩ (.int .u64 r1)).setCell ⟨w.heap.size + 1 + 1, 0, none⟩ (.int .i64 v)).heap[w.heap.size + 2]? = _
    exact blk_put (cs := #[.int .i64 0]) (by rw [hne2]; exact g4) 0 _ rfl
  · exact below_drew ((g6.setCell (p := ⟨w.heap.size + 1, 0, none⟩) (by simp) _).setCell (p := ⟨w.heap.size + 1 + 1, 0, none⟩) (by simp; omega) _)
theorem below_end {w W : World} {tmps : Array Value} {D : Nat} {r1 r2 : Int} (hD : w.heap.size + 5 ≤ D) (ht4 : tmps.getD 4 undef = .pointer (some ⟨w.heap.size + 1, 0, none⟩)) (ht5 : tmps.getD 5 undef = .pointer (some ⟨w.heap.size + 1 + 1, 0, none⟩))
    (h3 : W.heap[w.heap.size + 1]? = some (.cells #[.int .u64 r1] 25 (0, 0))) (h4 : W.heap[w.heap.size + 2]? = some (.cells #[.int .i64 r2] 3 (0, 0))) (h6 : Below w.heap.size w W) (hd : W.heap[D]? = some (.deferred (some []))) :
    bodyPostM Fence.wide 6 Try.prog Try.f83 (fun e w' => e = .returned (.tuple #[.int .u64 r1, .int .i64 r2]) ∧ Below w.heap.size w w') .ret { tmps := tmps, defers := [{ target := .collected D, args := #[] }] } W := by
  refine ⟨by simp, .inl ⟨_, _, rfl, run_takeDeferred hd, ?_⟩⟩
  have k3 : (W.putObj D (.deferred none)).heap[w.heap.size + 1]? = some (.cells #[.int .u64 r1] 25 (0, 0)) := (World.putObj_heap_other (by omega)).trans h3
  have k4 : (W.putObj D (.deferred none)).heap[w.heap.size + 2]? = some (.cells #[.int .i64 r2] 3 (0, 0)) := (World.putObj_heap_other (by omega)).trans h4
  have c3 := (blk_cell k3 0).trans rfl
  have c4 := (blk_cell k4 0).trans rfl
  have k6 : Below w.heap.size w (W.putObj D (.deferred none)) := ⟨h6.os, h6.tape, h6.output, by simpa [World.putObj] using h6.size, fun b hb => (World.putObj_heap_other (by omega)).trans (h6.block b hb)⟩
  refine ⟨.tuple #[.int .u64 r1, .int .i64 r2], ?_, rfl, k6⟩
  have t4 : tmps[4]?.getD undef = .pointer (some ⟨w.heap.size + 1, 0, none⟩) := by simpa using ht4
  have t5 : tmps[5]?.getD undef = .pointer (some ⟨w.heap.size + 1 + 1, 0, none⟩) := by simpa using ht5
  have hu := Try.underlying25
  have hi := Try.underlying3
  simp [results, Try.results83, t4, t5, go_sem, c3, c4]
end Go.Proofs.Ytaofanhdmfdlmaa.Print
