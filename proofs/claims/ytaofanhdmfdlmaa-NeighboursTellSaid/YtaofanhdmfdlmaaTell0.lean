import Derived.Test.YtaofanhdmfdlmaaProg
import Derived.Below
import Derived.Deep.Draws
import Derived.Deep.AppendLies
import Derived.Maps.AppendAt
import Derived.OwnWalk
import Derived.Laws.BytesArg
import Derived.Laws.MakeOwn
import Derived.Laws.OwnMore
import Derived.Deep.OwnRows
import Derived.Tactics
import Derived.Lib.ConvBytes
import Derived.Laws.Slices
import Derived.WalkKit
import Derived.KernelRfl
import Derived.RowKit3
import Derived.Deep.LoopGhost
import Derived.Deep.QuietTactic
import Derived.BigQuiet
import Derived.WideLaws
import Derived.Deep.DeepCutAuto
import Derived.Deep.CutBlock
import Derived.Deep.RegionHeld3
import Derived.Laws.Rows
import Derived.Lib.AppendStr
import Derived.ArgAppend
import Derived.Laws.IdiomCopy
import Derived.OrdersHeld
import Derived.Laws.BitsLemmas
import Derived.RowKit
import Derived.Test.YtaofanhdmfdlmaaWWords
import Derived.Test.YtaofanhdmfdlmaaWLast
import Derived.Test.YtaofanhdmfdlmaaWTab
import Derived.Test.YtaofanhdmfdlmaaWFour
import Derived.Test.YtaofanhdmfdlmaaWQPut
import Derived.Test.YtaofanhdmfdlmaaWApart
import Derived.Test.YtaofanhdmfdlmaaWArr
import Derived.Test.YtaofanhdmfdlmaaWZeros
import Derived.Test.YtaofanhdmfdlmaaWFoot
import Derived.Test.YtaofanhdmfdlmaaWKept
import Derived.Test.YtaofanhdmfdlmaaWShare
import Derived.Test.YtaofanhdmfdlmaaWN
import Derived.Test.YtaofanhdmfdlmaaWFootNe
import Derived.Test.YtaofanhdmfdlmaaWAt
import Derived.Test.YtaofanhdmfdlmaaWEqStruct
import Derived.Test.YtaofanhdmfdlmaaWRepsOne
import Derived.Test.YtaofanhdmfdlmaaWInv
import Derived.Test.YtaofanhdmfdlmaaWInvWords
import Derived.Test.YtaofanhdmfdlmaaWGuard
import Derived.Test.YtaofanhdmfdlmaaWNEv
import Derived.Test.YtaofanhdmfdlmaaWMore
-- PRINTED by print.py (a twelfth state) out of the translation. Not trusted: Lean checks it.
namespace Go.Proofs.Ytaofanhdmfdlmaa.Print
open Go.RowKit Go.Proofs.YtaofanhdmfdlmaaW.PrintWords Go.Proofs.YtaofanhdmfdlmaaW.PrintLast Go.Proofs.YtaofanhdmfdlmaaW.PrintMore
attribute [local go_sem] max2_int min2_int max_two min_two max_three min_three max_four min_four   -- for this text's walks alone
set_option linter.unusedVariables false
set_option linter.unusedSimpArgs false



def errW : Option Int → Value
  | none => .nilIface
  | some c => .iface 0 (.int .i64 c)
theorem errW_none : errW none = .nilIface := rfl
theorem errW_some (c : Int) : errW (some c) = .iface 0 (.int .i64 c) := rfl

theorem info3 : (Try.prog.info? 3).map (fun i => (i.zero, i.size, i.bytes)) = some (some (.int .i64 0), 1, 8) := by kernel_rfl
theorem info25 : (Try.prog.info? 25).map (fun i => (i.zero, i.size, i.bytes)) = some (some (.int .u64 0), 1, 8) := by kernel_rfl
/-! #### struct type 27 -/
/-! #### struct type 90 -/
end Go.Proofs.Ytaofanhdmfdlmaa.Print

-- PRINTED by print.py (a twelfth state) out of the translation. Not trusted: Lean checks it.
namespace Go.Proofs.Ytaofanhdmfdlmaa.Print
open Go.RowKit Go.Proofs.YtaofanhdmfdlmaaW.PrintWords Go.Proofs.YtaofanhdmfdlmaaW.PrintLast Go.Proofs.YtaofanhdmfdlmaaW.PrintMore
attribute [local go_sem] max2_int min2_int max_two min_two max_three min_three max_four min_four   -- for this text's walks alone
set_option linter.unusedVariables false
set_option linter.unusedSimpArgs false

theorem eqA27 (d : Nat) (w : World) (x0 y0 : Int) (x1 y1 : ByteArray) :
    (Op.equalIn (d + 2) 27 (.agg #[.int .u64 x0, .string x1]) (.agg #[.int .u64 y0, .string y1])).run Try.prog w = .ok (x0 == y0 && (x1.toList == y1.toList)) w := by
  refine eqA_of Try.underlying27 (by kernel_rfl) ?_
  refine eqf_cons (by rfl) (by go_simp; rfl) (by go_simp; rfl) (by go_simp) ?_
  exact eqf_last (by rfl) (by go_simp; rfl) (by go_simp; rfl) (by go_simp)
end Go.Proofs.Ytaofanhdmfdlmaa.Print

-- PRINTED by print.py (a twelfth state) out of the translation. Not trusted: Lean checks it.
namespace Go.Proofs.Ytaofanhdmfdlmaa.Print
open Go.RowKit Go.Proofs.YtaofanhdmfdlmaaW.PrintWords Go.Proofs.YtaofanhdmfdlmaaW.PrintLast Go.Proofs.YtaofanhdmfdlmaaW.PrintMore
attribute [local go_sem] max2_int min2_int max_two min_two max_three min_three max_four min_four   -- for this text's walks alone
set_option linter.unusedVariables false
set_option linter.unusedSimpArgs false

/-! ### downpourref13_Add: function 22 -/
/-! ### random_sized: function 82 -/
def random_sized.f (a0 : Int) : Option (Bool) := if a0 ≥ 1 then (some (decide (a0 ≤ 512))) else (some false)
set_option maxHeartbeats 8000000 in
set_option maxRecDepth 100000 in
theorem random_sized.calls (a0 : Int) (r : Bool) (w : World) (h : random_sized.f a0 = some r) :
    Calls Try.prog 82 #[.int .i64 a0] w fun e w' => e = .returned (.bool r) ∧ Drawn0 w w' := by
  have H : (if a0 ≥ 1 then (some (decide (a0 ≤ 512))) else (some false)) = some r := h
  clear h
  by_cases c2 : a0 ≥ 1
  · rw [if_pos c2] at H
    have c2b0 : decide (1 ≤ a0) = true := decide_eq_true c2
    clear c2
    obtain rfl := Option.some.inj H
    go_enter Try.func82, Try.ntmps82
    go_wp2
    go_ret
    exact ⟨by first | rfl | (simp; done) | (simp [*]; done), by repeat (first | exact Drawn0.refl _ | apply Drawn0.step)⟩
  · rw [if_neg c2] at H
    have c2b0 : decide (1 ≤ a0) = false := decide_eq_false c2
    clear c2
    obtain rfl := Option.some.inj H
    go_enter Try.func82, Try.ntmps82
    go_wp2
    go_ret
    exact ⟨by first | rfl | (simp; done) | (simp [*]; done), by repeat (first | exact Drawn0.refl _ | apply Drawn0.step)⟩

/-! ### downpourref06_Mixed: function 108 -/
def downpourref06_Mixed.f (a0 : Int) : Option (Int) := some (Go.bits .xor .u64 (IntKind.u64.wrap ((Go.bits .xor .u64 (IntKind.u64.wrap ((Go.bits .xor .u64 a0 (IntKind.u64.wrap (Int.tdiv a0 1073741824))) * 13787848793156543929)) (IntKind.u64.wrap (Int.tdiv (IntKind.u64.wrap ((Go.bits .xor .u64 a0 (IntKind.u64.wrap (Int.tdiv a0 1073741824))) * 13787848793156543929)) 134217728))) * 10723151780598845931)) (IntKind.u64.wrap (Int.tdiv (IntKind.u64.wrap ((Go.bits .xor .u64 (IntKind.u64.wrap ((Go.bits .xor .u64 a0 (IntKind.u64.wrap (Int.tdiv a0 1073741824))) * 13787848793156543929)) (IntKind.u64.wrap (Int.tdiv (IntKind.u64.wrap ((Go.bits .xor .u64 a0 (IntKind.u64.wrap (Int.tdiv a0 1073741824))) * 13787848793156543929)) 134217728))) * 10723151780598845931)) 2147483648)))
set_option maxHeartbeats 8000000 in
set_option maxRecDepth 100000 in
theorem downpourref06_Mixed.calls (a0 : Int) (r : Int) (w : World) (h : downpourref06_Mixed.f a0 = some r) :
    Calls Try.prog 108 #[.int .u64 a0] w fun e w' => e = .returned (.int .u64 r) ∧ Drawn0 w w' := by
  have H : (some (Go.bits .xor .u64 (IntKind.u64.wrap ((Go.bits .xor .u64 (IntKind.u64.wrap ((Go.bits .xor .u64 a0 (IntKind.u64.wrap (Int.tdiv a0 1073741824))) * 13787848793156543929)) (IntKind.u64.wrap (Int.tdiv (IntKind.u64.wrap ((Go.bits .xor .u64 a0 (IntKind.u64.wrap (Int.tdiv a0 1073741824))) * 13787848793156543929)) 134217728))) * 10723151780598845931)) (IntKind.u64.wrap (Int.tdiv (IntKind.u64.wrap ((Go.bits .xor .u64 (IntKind.u64.wrap ((Go.bits .xor .u64 a0 (IntKind.u64.wrap (Int.tdiv a0 1073741824))) * 13787848793156543929)) (IntKind.u64.wrap (Int.tdiv (IntKind.u64.wrap ((Go.bits .xor .u64 a0 (IntKind.u64.wrap (Int.tdiv a0 1073741824))) * 13787848793156543929)) 134217728))) * 10723151780598845931)) 2147483648)))) = some r := h
  clear h
  obtain rfl := Option.some.inj H
  go_enter Try.func108, Try.ntmps108
  go_wp2
  go_ret
  exact ⟨by first | rfl | (simp; done) | (simp [*]; done), by repeat (first | exact Drawn0.refl _ | apply Drawn0.step)⟩

/-! ### downpourref06_rest: function 124 -/
def downpourref06_rest.f (a0 : Int) : Option (Int) := if a0 = 0 then (none) else (some (Int.tmod (IntKind.u64.wrap (((18446744073709551615 : Int) % a0) + 1)) a0))
set_option maxHeartbeats 8000000 in
set_option maxRecDepth 100000 in
theorem downpourref06_rest.calls (a0 : Int) (r : Int) (w : World) (h : downpourref06_rest.f a0 = some r) :
    Calls Try.prog 124 #[.int .u64 a0] w fun e w' => e = .returned (.int .u64 r) ∧ Drawn0 w w' := by
  have H : (if a0 = 0 then (none) else (some (Int.tmod (IntKind.u64.wrap (((18446744073709551615 : Int) % a0) + 1)) a0))) = some r := h
  clear h
  by_cases c2 : a0 = 0
  · rw [if_pos c2] at H
    exact absurd H (by simp)
  · rw [if_neg c2] at H
    have c2b0 : (a0 == 0) = false := beq_eq_false_iff_ne.mpr c2
    have c2b1 : (a0 != 0) = true := bne_iff_ne.mpr c2
    obtain rfl := Option.some.inj H
    go_enter Try.func124, Try.ntmps124
    go_wp2
    go_ret
    exact ⟨by first | rfl | (simp; done) | (simp [*]; done), by repeat (first | exact Drawn0.refl _ | apply Drawn0.step)⟩

/-! ### downpourref06_Below: function 85 -/
def downpourref06_Below.l0 : Nat → Int → Int → Int → Option (Int × Int)
  | 0, _, _, _ => none
  | k + 1, x0, x1, x5 => (downpourref06_Mixed.f (IntKind.u64.wrap (x0 + 11400714819323198485))).bind fun t431 => (if t431 ≤ x5 then (if (IntKind.u64.wrap (x1)) = 0 then (none) else (some (IntKind.u64.wrap (x0 + 11400714819323198485), wrap64 (Int.tmod t431 (IntKind.u64.wrap (x1)))))) else (downpourref06_Below.l0 k (IntKind.u64.wrap (x0 + 11400714819323198485)) x1 x5))
def downpourref06_Below.f (k : Nat) (a0 : Int) (a1 : Int) : Option (Int × Int) := (downpourref06_rest.f (IntKind.u64.wrap (a1))).bind fun t430 => (downpourref06_Below.l0 k a0 a1 (IntKind.u64.wrap (18446744073709551615 - t430)))
theorem downpourref06_Below.mono_l : ∀ k, (∀ y0 y1 y2, LeO (downpourref06_Below.l0 k y0 y1 y2) (downpourref06_Below.l0 (k + 1) y0 y1 y2))
  | 0 => fun _ _ _ r h => by simp [downpourref06_Below.l0] at h
  | k + 1 => by
    have ih0 := downpourref06_Below.mono_l k
    · intro y0 y1 y2
      unfold downpourref06_Below.l0
      repeat' first
      | (with_reducible exact ih0 _ _ _)
      | (with_reducible exact LeO.refl _)
      | (with_reducible exact LeO.none _)
      | (with_reducible refine LeO.ite ?_ ?_)
      | (with_reducible refine LeO.bind ?_ (fun _ => ?_))
      | exact ih0 _ _ _
      | exact LeO.none _
      | refine LeO.ite ?_ ?_
      | refine LeO.bind ?_ (fun _ => ?_)
theorem downpourref06_Below.mono : ∀ a0 a1 k, LeO (downpourref06_Below.f k a0 a1) (downpourref06_Below.f (k + 1) a0 a1) := by
  intro a0 a1 k
  have ih0 := downpourref06_Below.mono_l k
  unfold downpourref06_Below.f
  repeat' first
      | (with_reducible exact ih0 _ _ _)
      | (with_reducible exact LeO.refl _)
      | (with_reducible exact LeO.none _)
      | (with_reducible refine LeO.ite ?_ ?_)
      | (with_reducible refine LeO.bind ?_ (fun _ => ?_))
      | exact ih0 _ _ _
      | exact LeO.none _
      | refine LeO.ite ?_ ?_
      | refine LeO.bind ?_ (fun _ => ?_)
set_option maxHeartbeats 8000000 in
set_option maxRecDepth 100000 in
theorem downpourref06_Below.calls (k : Nat) (a0 : Int) (a1 : Int) (r1 : Int) (r2 : Int) (w : World) (h : downpourref06_Below.f k a0 a1 = some (r1, r2)) :
    Calls Try.prog 85 #[.int .u64 a0, .int .i64 a1] w fun e w' => e = .returned (.agg #[.int .u64 r1, .int .i64 r2]) ∧ Below w.heap.size w w' := by
  have hu129 := Try.underlying129
  have HB := Aside0.mk (Below.refl w.heap.size w)
  have H : ((downpourref06_rest.f (IntKind.u64.wrap (a1))).bind fun t430 => (downpourref06_Below.l0 k a0 a1 (IntKind.u64.wrap (18446744073709551615 - t430)))) = some (r1, r2) := h
  clear h
  replace H := Option.bind_eq_some_iff.mp H
  obtain ⟨t430, A30, H⟩ := H
  replace H : (downpourref06_Below.l0 k a0 a1 (IntKind.u64.wrap (18446744073709551615 - t430))) = some (r1, r2) := H
  have A3 := Aside0.mk A30
  clear A30
  have H' := Aside0.mk H
  clear H
  go_enter Try.func85, Try.ntmps85
  go_wp2_with (first | ((with_reducible refine gate_dst (N := 4) rfl ?_); refine box_event ?hg (N := 4) ?hd (cs := #[.int .u64 0, .int .i64 0]) (t := 129) ?hr ?_; (case hd => rfl); (case hg => rfl); (case hr => first | (go_simp; done) | (go_simp; rfl)); intro gb429 hg w4 hbox hb; have n0_ := Aside0.mk (below_step (by repeat (first | (with_reducible first | exact HB.out | apply below_alloc | apply pw_below_drewN | apply below_drew1) | exact HB.out)) hb); have n1_ := Aside0.mk (hbox); have n2_ := Aside0.mk ((by rw [hg]; exact (below_size (by repeat (first | (with_reducible first | exact HB.out | apply below_alloc | apply pw_below_drewN | apply below_drew1) | exact HB.out))) : w.heap.size ≤ gb429)); have n3_ := Aside0.mk ((by rw [hg]; exact (below_size (by repeat (first | (with_reducible first | exact HB.out | apply below_alloc | apply pw_below_drewN | apply below_drew1) | exact HB.out))) : w.heap.size ≤ gb429)); clear HB; have HB := n0_; have BK429 := n1_; have GW429 := n2_; have GE429 := n3_; clear n0_ n1_ n2_ n3_; clear hb hbox hg) | ((with_reducible refine gate_callee (f := 124) rfl ?_); refine goesL_ (some 9) rfl rfl Try.func124 (by kernel_rfl) rfl #[.int .u64 (IntKind.u64.wrap (a1))] rfl (by (try simp only [List.map_toArray, List.map_cons, List.map_nil]); first | done | rfl | (simp only [List.length_drop, List.length_take]; rfl)) ?_; (with_reducible refine (downpourref06_rest.calls (IntKind.u64.wrap (a1)) t430 _ A3.out).mono ?_); rintro e w' ⟨rfl, ⟨nd, rfl⟩⟩; refine ⟨_, rfl, ?_⟩))
  go_loopg [0] k (fun kq v0 w' => ∃ (x0_1 : Int) (x430000_1 : Int) (x430001_1 : Int), v0 = .int .u64 x0_1 ∧ Aside0 (downpourref06_Below.l0 kq x0_1 a1 (IntKind.u64.wrap (18446744073709551615 - t430)) = some (r1, r2)) ∧ Aside0 (kq ≤ k) ∧ Aside0 (w'.heap[gb429]? = some (.cells #[.int .u64 x430000_1, .int .i64 x430001_1] 129 (0, 0))) ∧ Aside0 (Below w.heap.size w w'))
  case atStart => exact ⟨(a0), (0), (0), (by first | rfl | (simp; done) | (simp [*]; done)), H', ⟨Nat.le_refl _⟩, ⟨by (with_reducible repeat (first | refine blk_drewN ?_ _ | refine blk_drew ?_ | refine blk_alloc ?_ _)); exact BK429.out⟩, ⟨by repeat (first | (with_reducible first | exact HB.out | apply below_alloc | apply pw_below_drewN | apply below_drew1 | refine below_set ?_ GE429.out) | exact HB.out)⟩⟩
  case round =>
    clear H'
    try clear c1
    try clear p2
    obtain ⟨x0_1, x430000_1, x430001_1, rfl, HA, HK1, BK429, HB⟩ := hrel
    cases gk with
    | zero => exact absurd HA.out (by simp [downpourref06_Below.l0])
    | succ k1 =>
      have H := HA.out
      clear HA
      simp only [downpourref06_Below.l0] at H
      replace H := Option.bind_eq_some_iff.mp H
      obtain ⟨t431, A50, H⟩ := H
      replace H : (if t431 ≤ (IntKind.u64.wrap (18446744073709551615 - t430)) then (if (IntKind.u64.wrap (a1)) = 0 then (none) else (some (IntKind.u64.wrap (x0_1 + 11400714819323198485), wrap64 (Int.tmod t431 (IntKind.u64.wrap (a1)))))) else (downpourref06_Below.l0 k1 (IntKind.u64.wrap (x0_1 + 11400714819323198485)) a1 (IntKind.u64.wrap (18446744073709551615 - t430)))) = some (r1, r2) := H
      have A5 := Aside0.mk A50
      clear A50
      by_cases c6 : t431 ≤ (IntKind.u64.wrap (18446744073709551615 - t430))
      · rw [if_pos c6] at H
        have c6b0 : decide (t431 ≤ (IntKind.u64.wrap (18446744073709551615 - t430))) = true := decide_eq_true c6
        clear c6
        by_cases c7 : (IntKind.u64.wrap (a1)) = 0
        · rw [if_pos c7] at H
          exact absurd H (by simp)
        · rw [if_neg c7] at H
          have c7b0 : ((IntKind.u64.wrap (a1)) == 0) = false := beq_eq_false_iff_ne.mpr c7
          have c7b1 : ((IntKind.u64.wrap (a1)) != 0) = true := bne_iff_ne.mpr c7
          simp only [Option.some.injEq, Prod.mk.injEq] at H
          obtain ⟨rfl, rfl⟩ := H
          go_wp2_with (first | ((with_reducible refine gate_callee (f := 108) rfl ?_); refine goesL_ (some 14) rfl rfl Try.func108 (by kernel_rfl) rfl #[.int .u64 (IntKind.u64.wrap (x0_1 + 11400714819323198485))] rfl (by (try simp only [List.map_toArray, List.map_cons, List.map_nil]); first | done | rfl | (simp only [List.length_drop, List.length_take]; rfl)) ?_; (with_reducible refine (downpourref06_Mixed.calls (IntKind.u64.wrap (x0_1 + 11400714819323198485)) t431 _ A5.out).mono ?_); rintro e w' ⟨rfl, ⟨nd, rfl⟩⟩; refine ⟨_, rfl, ?_⟩; (try (rw [drewN_self wr]; generalize hq_ : World.drewN wr _ = wr; have n0_ : Aside0 (wr.heap[gb429]? = some (.cells #[.int .u64 x430000_1, .int .i64 x430001_1] 129 (0, 0))) := ⟨by rw [← hq_]; exact (by (with_reducible repeat (first | refine blk_drewN ?_ _ | refine blk_drew ?_ | refine blk_alloc ?_ _)); exact BK429.out)⟩; have n1_ : Aside0 (Below w.heap.size w wr) := ⟨by rw [← hq_]; exact (by repeat (first | (with_reducible first | exact HB.out | apply below_alloc | apply pw_below_drewN | apply below_drew1 | refine below_set ?_ GE429.out) | exact HB.out))⟩; clear BK429 HB hq_; have BK429 := n0_; have HB := n1_; clear n0_ n1_)); have hcz8_0 : wr.cell? ⟨gb429, 0, none⟩ = some (.int .u64 x430000_1) := (blk_cell BK429.out 0).trans rfl; have hcz8_1 : wr.cell? ⟨gb429, 1, none⟩ = some (.int .i64 x430001_1) := (blk_cell BK429.out 1).trans rfl; have hfz8_0 := blk_frozen BK429.out 0; have hfz8_1 := blk_frozen BK429.out 1))
          refine bodyPost_ret (results_cell_row rfl _ _ gb429 129 #[.int .u64 (IntKind.u64.wrap (x0_1 + 11400714819323198485)), .int .i64 (wrap64 (Int.tmod t431 (IntKind.u64.wrap (a1))))] (0, 0) _ rfl (by (with_reducible repeat (first | refine blk_drewN ?_ _ | refine blk_drew ?_ | refine blk_alloc ?_ _)); refine blk_put (cs := #[.int .u64 (IntKind.u64.wrap (x0_1 + 11400714819323198485)), .int .i64 x430001_1]) ?_ 1 _ rfl; (with_reducible repeat (first | refine blk_drewN ?_ _ | refine blk_drew ?_ | refine blk_alloc ?_ _)); refine blk_put (cs := #[.int .u64 x430000_1, .int .i64 x430001_1]) ?_ 0 _ rfl; (with_reducible repeat (first | refine blk_drewN ?_ _ | refine blk_drew ?_ | refine blk_alloc ?_ _)); exact BK429.out) Try.underlying129 rfl (by kernel_rfl)) rfl ?_
          exact ⟨by first | rfl | (simp [errW_none, errW_some] <;> rfl) | (simp [*, errW_none, errW_some] <;> rfl), by repeat (first | (with_reducible first | exact HB.out | apply below_alloc | apply pw_below_drewN | apply below_drew1 | refine below_set ?_ GE429.out) | exact HB.out)⟩
      · rw [if_neg c6] at H
        have c6b0 : decide (t431 ≤ (IntKind.u64.wrap (18446744073709551615 - t430))) = false := decide_eq_false c6
        clear c6
        have H' := Aside0.mk H
        clear H
        go_wp2_with (first | ((with_reducible refine gate_callee (f := 108) rfl ?_); refine goesL_ (some 14) rfl rfl Try.func108 (by kernel_rfl) rfl #[.int .u64 (IntKind.u64.wrap (x0_1 + 11400714819323198485))] rfl (by (try simp only [List.map_toArray, List.map_cons, List.map_nil]); first | done | rfl | (simp only [List.length_drop, List.length_take]; rfl)) ?_; (with_reducible refine (downpourref06_Mixed.calls (IntKind.u64.wrap (x0_1 + 11400714819323198485)) t431 _ A5.out).mono ?_); rintro e w' ⟨rfl, ⟨nd, rfl⟩⟩; refine ⟨_, rfl, ?_⟩))
        go_roundg k1
        case measure => have := HK1.out; omega
        case rel => exact ⟨(IntKind.u64.wrap (x0_1 + 11400714819323198485)), (x430000_1), (x430001_1), (by first | rfl | (simp; done) | (simp [*]; done)), H', ⟨by have := HK1.out; omega⟩, ⟨by (with_reducible repeat (first | refine blk_drewN ?_ _ | refine blk_drew ?_ | refine blk_alloc ?_ _)); exact BK429.out⟩, ⟨by repeat (first | (with_reducible first | exact HB.out | apply below_alloc | apply pw_below_drewN | apply below_drew1 | refine below_set ?_ GE429.out) | exact HB.out)⟩⟩

end Go.Proofs.Ytaofanhdmfdlmaa.Print

