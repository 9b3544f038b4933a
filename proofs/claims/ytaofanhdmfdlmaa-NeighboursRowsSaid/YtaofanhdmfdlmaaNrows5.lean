import Derived.Test.YtaofanhdmfdlmaaNrows0
import Derived.Test.YtaofanhdmfdlmaaNrows3
import Derived.Test.YtaofanhdmfdlmaaNrows2
import Derived.Test.YtaofanhdmfdlmaaNrows4
import Derived.RegionTactic
/-
What is proved: slices.Sort at []int sorts a row of the call's own in place (the library's sort, out of the shelf). Condition: the row is one of the call's own, shorter than 2^62.
-/
namespace Go.Proofs.Ytaofanhdmfdlmaa.Print
open Go Go.RowKit Go.Proofs.YtaofanhdmfdlmaaW.PrintWords Go.Proofs.YtaofanhdmfdlmaaW.PrintLast Go.Proofs.YtaofanhdmfdlmaaW.PrintMore Go.Sort
set_option linter.unusedVariables false

def slices_Sort_int_int.f (l0 : List Int) : Option (List Int) := if l0.length < 4611686018427387904 then some (l0.mergeSort fun x y => decide (x ≤ y)) else none

theorem sorti_block {w : World} {g n : Nat} {cur : Array Value} {t : TypeId} (d : Array Int) (h : w.heap[g]? = some (.cells cur t (0, 0))) (m : Nat) (os : Array Obj) :
    (grow (putRow (Value.int .i64) (Go.Sort.ahead w m) g 0 d) os).heap[g]? = some (.cells (putCells (Value.int .i64) 0 d cur) t (0, 0)) := by
  have hlt : g < w.heap.size := (Array.getElem?_eq_some_iff.1 h).1
  have h1 : (putRow (Value.int .i64) (Go.Sort.ahead w m) g 0 d).heap[g]? = some (.cells (putCells (Value.int .i64) 0 d cur) t (0, 0)) := by
    unfold putRow mapBlock Go.Sort.ahead
    simp only [Array.getElem?_modify, if_true, h, Option.map_some]
    rfl
  show ((putRow (Value.int .i64) (Go.Sort.ahead w m) g 0 d).heap ++ os)[g]? = _
  rw [Array.getElem?_append_left (by simp [Go.Sort.ahead]; exact hlt)]
  exact h1
theorem sorti_other {w : World} {g i : Nat} (d : Array Int) (m : Nat) (os : Array Obj) (hi : i < w.heap.size) (hne : i ≠ g) :
    (grow (putRow (Value.int .i64) (Go.Sort.ahead w m) g 0 d) os).heap[i]? = w.heap[i]? := by
  show ((putRow (Value.int .i64) (Go.Sort.ahead w m) g 0 d).heap ++ os)[i]? = _
  rw [Array.getElem?_append_left (by simp [Go.Sort.ahead]; exact hi)]
  unfold putRow mapBlock Go.Sort.ahead
  simp only [Array.getElem?_modify]
  rw [if_neg (Ne.symm hne)]
theorem sorti_size {w : World} {g : Nat} (d : Array Int) (m : Nat) (os : Array Obj) : w.heap.size ≤ (grow (putRow (Value.int .i64) (Go.Sort.ahead w m) g 0 d) os).heap.size := by
  show _ ≤ ((putRow (Value.int .i64) (Go.Sort.ahead w m) g 0 d).heap ++ os).size
  rw [Array.size_append]; simp [Go.Sort.ahead]
theorem sorti_cells (cur : Array Value) (l : List Int) (hn : l.length ≤ cur.size) : (putCells (Value.int .i64) 0 l.toArray cur).toList.take l.length = encs (Value.int .i64) l := by
  apply List.ext_getElem?
  intro k
  by_cases hk : k < l.length
  · rw [List.getElem?_take_of_lt hk]
    simp only [putCells, Array.getElem?_toList, Array.getElem?_mapIdx, encs, List.getElem?_map]
    rw [Array.getElem?_eq_getElem (by omega), List.getElem?_eq_getElem hk]
    simp [hk]
  · rw [List.getElem?_eq_none (by simp; omega), List.getElem?_eq_none (by simp [encs]; omega)]

theorem slices_Sort_int_int.calls (P0_ : Nat → Prop) (u9000_ : Value) (l0 : List Int) (r : List Int) (w0 w : World) (hB : Below w0.heap.size w0 w) (ho0 : Kd.R (Kd.int .i64) 3 w w0.heap.size P0_ u9000_ l0) (h : slices_Sort_int_int.f l0 = some r) :
    Calls Try.prog 84 #[u9000_] w fun e w' => e = .returned (.tuple #[]) ∧ Kd.R (Kd.int .i64) 3 w' w0.heap.size (fun k_ => (P0_ k_ ∨ w.heap.size ≤ k_)) u9000_ r ∧ Below w0.heap.size w0 w' ∧ Kept w w' (fun k_ => P0_ k_) := by
  unfold slices_Sort_int_int.f at h
  by_cases hlen : l0.length < 4611686018427387904
  case neg => rw [if_neg hlen] at h; cases h
  rw [if_pos hlen] at h
  obtain rfl := Option.some.inj h
  have ho := Kd.own_of_R ho0
  have hr1 : (l0.mergeSort fun x y => decide (x ≤ y)).length = l0.length := List.length_mergeSort _
  rcases ho.2 with ⟨rfl, hn⟩ | ⟨g, cap, cur, rfl, hg, hh, hnc, hcm, hcs, hcur⟩
  · have : l0 = [] := List.eq_nil_of_length_eq_zero hn
    subst this
    refine (Try.slices_Sort_int_none none 0 w).mono ?_
    rintro e w' ⟨rfl, rfl⟩
    refine ⟨rfl, ?_, hB, Nat.le_refl _, fun _ _ _ => rfl⟩
    simp only [List.mergeSort_nil]
    exact Kd.R_nil _ _ _ _ _
  · have hlt : g < w.heap.size := (Array.getElem?_eq_some_iff.1 hh).1
    have hsz : l0.length ≤ cur.size := by omega
    refine (Try.slices_Sort_int g 0 cap l0 w ?_ hlt hlen).mono ?_
    · intro j hj
      have hj' : j < l0.length := by simpa using hj
      refine ⟨?_, by simp [World.frozen?, hh]⟩
      have hc : cur[j]? = some (Value.int .i64 l0[j]) := by
        have h3 := congrArg (fun l => l[j]?) hcur
        simp only [Nat.mul_one] at h3
        rw [List.getElem?_take_of_lt hj'] at h3
        simpa [encs, hj'] using h3
      simp [World.cell?, hh, hc, hj']
    · rintro e w' ⟨rfl, m, os, rfl⟩
      have hb := sorti_block (n := 0) (l0.mergeSort fun x y => decide (x ≤ y)).toArray hh m os
      refine ⟨rfl, ?_, ?_, sorti_size _ _ _, fun i hi hS => sorti_other _ _ _ hi (fun e => hS (by subst e; exact ho0.1 _ rfl))⟩
      · refine Kd.R_of_own ⟨by rw [encs_length, Nat.mul_one], .inr ⟨g, cap, _, by rw [hr1], hg, hb, by rw [hr1]; exact hnc, hcm, by simp [putCells]; omega, ?_⟩⟩ (fun k hk => ?_)
        · rw [Nat.mul_one, hr1, ← hr1]; exact sorti_cells cur _ (by rw [hr1]; exact hsz)
        · have hk' : g = k := by simpa [Value.ownBlock] using hk
          subst hk'; exact .inl (ho0.1 _ rfl)
      · exact ⟨hB.os, hB.tape, hB.output, Nat.le_trans hB.size (sorti_size _ _ _), fun i hi => (sorti_other _ _ _ (Nat.lt_of_lt_of_le hi hB.size) (by omega)).trans (hB.block i hi)⟩
end Go.Proofs.Ytaofanhdmfdlmaa.Print

/-
What is proved: random.Some: so many of an order, sorted, or refused. Condition: none (beside what the order's own contract asks).
-/
namespace Go.Proofs.Ytaofanhdmfdlmaa.Print
open Go Go.RowKit Go.Proofs.YtaofanhdmfdlmaaW.PrintWords Go.Proofs.YtaofanhdmfdlmaaW.PrintLast Go.Proofs.YtaofanhdmfdlmaaW.PrintMore
set_option linter.unusedVariables false

def random_Some.f (k : Nat) (a0 a1 a2 : Int) : Option (Int × List Int × Int) :=
  (random_sized.f a1).bind fun s => if s = false ∨ a2 < 0 ∨ a1 < a2 then some (0, [], 2) else
    (random_Shuffle.f k a0 a1).bind fun t => if a2.toNat ≤ t.2.1.length ∧ t.2.2 = 0 then (slices_Sort_int_int.f (t.2.1.take a2.toNat)).bind fun m => some (t.1, m, 0) else none
set_option maxHeartbeats 4000000 in
theorem random_Some.calls (k : Nat) (a0 : Int) (a1 : Int) (a2 : Int) (r1 : Int) (r2 : List Int) (r3 : Int) (w : World) (h : random_Some.f k a0 a1 a2 = some (r1, r2, r3)) :
    Calls Try.prog 24 #[.int .u64 a0, .int .i64 a1, .int .i64 a2] w fun e w' => ∃ v1_ : Value, e = .returned (.tuple #[.int .u64 r1, v1_, .int .i64 r3]) ∧ Kd.R (Kd.int .i64) 3 w' w.heap.size (fun _ => True) v1_ r2 ∧ Below w.heap.size w w' := by
  unfold random_Some.f at h
  obtain ⟨sb, hs, h⟩ := Option.bind_eq_some_iff.1 h
  have HS := Aside0.mk hs
  clear hs
  by_cases hc : sb = false ∨ a2 < 0 ∨ a1 < a2
  · rw [if_pos hc] at h
    simp only [Option.some.injEq, Prod.mk.injEq] at h
    obtain ⟨rfl, rfl, rfl⟩ := h
    cases sb with
    | false =>
      clear hc
      go_enter Try.func24, Try.ntmps24
      go_wp2_with (go_at_call 82; refine (random_sized.calls a1 false _ HS.out).mono ?_; rintro e w' ⟨rfl, ⟨nd, rfl⟩⟩)
      go_ret3
      exact ⟨_, rfl, Kd.R_nil _ _ _ _ _, pw_below_drewN (Below.refl _ _) _⟩
    | true =>
      by_cases hneg : a2 < 0
      · have hnb : decide (a2 < 0) = true := decide_eq_true hneg
        clear hc
        go_enter Try.func24, Try.ntmps24
        go_wp2_with (go_at_call 82; refine (random_sized.calls a1 true _ HS.out).mono ?_; rintro e w' ⟨rfl, ⟨nd, rfl⟩⟩)
        go_ret3
        exact ⟨_, rfl, Kd.R_nil _ _ _ _ _, pw_below_drewN (Below.refl _ _) _⟩
      · have hgt : a1 < a2 := by rcases hc with hc | hc | hc; cases hc; exact absurd hc hneg; exact hc
        have hnb : decide (a2 < 0) = false := decide_eq_false hneg
        have hgb : decide (a1 < a2) = true := decide_eq_true hgt
        clear hc
        go_enter Try.func24, Try.ntmps24
        go_wp2_with (go_at_call 82; refine (random_sized.calls a1 true _ HS.out).mono ?_; rintro e w' ⟨rfl, ⟨nd, rfl⟩⟩)
        go_ret3
        exact ⟨_, rfl, Kd.R_nil _ _ _ _ _, pw_below_drewN (Below.refl _ _) _⟩
  · rw [if_neg hc] at h
    obtain ⟨⟨s, l, z⟩, hsh, h⟩ := Option.bind_eq_some_iff.1 h
    by_cases hl : a2.toNat ≤ l.length ∧ z = 0
    case neg => rw [if_neg hl] at h; cases h
    rw [if_pos hl] at h
    obtain ⟨m, hm, h⟩ := Option.bind_eq_some_iff.1 h
    simp only [Option.some.injEq, Prod.mk.injEq] at h
    obtain ⟨rfl, rfl, rfl⟩ := h
    obtain ⟨hl, rfl⟩ := hl
    obtain rfl : sb = true := by cases sb; exact absurd (.inl rfl) hc; rfl
    have h0 : 0 ≤ a2 := by omega
    have h1 : a2 ≤ a1 := by omega
    obtain ⟨n, rfl⟩ := Int.eq_ofNat_of_zero_le h0
    simp only [Int.toNat_natCast] at hl hm
    have hnb : decide ((n : Int) < 0) = false := decide_eq_false (by omega)
    have hgb : decide (a1 < (n : Int)) = false := decide_eq_false (by omega)
    have HSH := Aside0.mk hsh
    have HM := Aside0.mk hm
    have HL := Aside0.mk hl
    clear hc hsh hm h0 h1 hl
    go_enter Try.func24, Try.ntmps24
    go_wp2_with (go_at_call 82; refine (random_sized.calls a1 true _ HS.out).mono ?_; rintro e w' ⟨rfl, ⟨nd, rfl⟩⟩)
    refine (random_Shuffle.calls k a0 a1 _ _ _ _ HSH.out).mono ?_
    rintro e w1 ⟨v, rfl, hv, hb⟩
    obtain ⟨A, c, rfl, hc1, _⟩ := Kd.R_reads hv
    have HV := Aside0.mk hv
    have HB := Aside0.mk hb
    clear hv hb
    have hn1 := HL.out
    go_wp2_with fail
    have HT : Kd.R (Kd.int .i64) 3 w1 w.heap.size (fun _ => True) (.slice A n c) (l.take n) := Kd.R_take HV.out HL.out
    have HB1 : Below w.heap.size w w1 := (pw_below_drewN (Below.refl _ w) nd).trans HB.out
    refine (slices_Sort_int_int.calls (fun _ => True) _ (l.take n) m w w1 HB1 HT HM.out).mono ?_
    rintro e w2 ⟨rfl, hR, hB2, _⟩
    have HR2 := Aside0.mk (Kd.R_mono hR (fun _ _ => trivial) : Kd.R (Kd.int .i64) 3 w2 w.heap.size (fun _ => True) (.slice A n c) m)
    have HB2 := Aside0.mk hB2
    clear hR hB2 HT HB1 HV HB HS HSH HM
    go_wp2
    go_region
    all_goals (go_wp2; go_ret3; exact ⟨_, rfl, by (with_reducible repeat (first | apply Kd.R_drewN | apply Kd.R_drew)); exact HR2.out, below_drew HB2.out⟩)
end Go.Proofs.Ytaofanhdmfdlmaa.Print

