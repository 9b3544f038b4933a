import Derived.Test.YtaofanhdmfdlmaaOnce3
import Derived.Shelf.SlIter.Collect
import Derived.Test.YtaofanhdmfdlmaaOnce0
import Derived.RegionTactic
/-
What is proved: slices.AppendSeq, slices.Collect and slices.Sorted of slices.Values of a slice of ints. Condition: the slice can be read.
-/
namespace Go.Proofs.Ytaofanhdmfdlmaa.Print
open Go Go.RowKit Go.Proofs.YtaofanhdmfdlmaaW.PrintWords Go.Proofs.YtaofanhdmfdlmaaW.PrintLast Go.Proofs.YtaofanhdmfdlmaaW.PrintMore Go.Proofs.Ytaofanhdmfdlmaa.Rng
attribute [local go_sem] Oper.semAt_some
set_option linter.unusedVariables false

/-- Between two rounds: the box holds what has come so far. -/
def ApI (l : List Int) (w : World) (i : Nat) (W : World) : Prop :=
  i ≤ l.length ∧ ∃ v, W.heap[w.heap.size]? = some (.cells #[v] 40 (0, 0)) ∧ W.ownsRow w.heap.size 3 1 v i ((l.take i).map (Value.int .i64)) ∧ Below w.heap.size w W
theorem apI_fr {l : List Int} {w w2 : World} {i : Nat} {A B : World} (h : ApI l w i A) (h2 : w.heap.size < w2.heap.size) (hf : Fr (fun _ => False) w2.heap.size A B) : ApI l w i B := by
  obtain ⟨hi, v, hv, hrow, hb⟩ := h
  refine ⟨hi, v, hf.blk hv id h2, own_move hrow fun k hk => ?_, hf.below hb (Nat.le_refl _) (fun b h => h.elim) (by omega)⟩
  obtain ⟨cells, hc⟩ := own_typed hrow k hk
  exact hf.block k (Array.getElem?_eq_some_iff.1 hc).1 id (.inr ⟨_, hc, rfl⟩)
theorem cell_lt {w : World} {a : Addr} {v : Value} (h : w.cell? a = some v) : a.block < w.heap.size := by
  rcases Nat.lt_or_ge a.block w.heap.size with h1 | h1
  · exact h1
  · unfold World.cell? at h
    rw [Array.getElem?_eq_none h1] at h
    cases h
theorem take_succ_map (l : List Int) (i : Nat) (h : i < l.length) : (l.take (i + 1)).map (Value.int .i64) = (l.take i).map (Value.int .i64) ++ [Value.int .i64 (rd l i)] := by
  have e : rd l (i : Int) = l[i] := by unfold rd; simp [List.getD_eq_getElem?_getD, h]
  rw [e, List.take_succ_eq_append_getElem h, List.map_append]
  rfl
theorem ownBlock_ne {v : Value} {k : Nat} (h : v.ownBlock = none ∨ v.ownBlock ≠ some k) : some k ≠ v.ownBlock := by
  rcases h with h | h
  · rw [h]; simp
  · exact fun e => h e.symm
set_option maxHeartbeats 4000000 in
set_option maxRecDepth 100000 in
theorem appendSeq_in (n : Nat) (hn : 3 ≤ n) (Bs : Nat) (A : Option Addr) (c : Nat) (l : List Int) (w : World) (hBs : w.heap[Bs]? = some (.cells #[.slice A l.length c] 40 (0, 0))) (hc : Kd.C (Kd.int .i64) w A l.length l) (hl : l.length * 8 ≤ 140737488355328) :
    CallsIn Fence.wide n Try.prog 132 #[.slice none 0 0, .func (.func 104) #[] #[.pointer (some ⟨Bs, 0, none⟩)]] w fun e w' => ∃ v, e = .returned v ∧ w'.ownsRow w.heap.size 3 1 v l.length (l.map (Value.int .i64)) ∧ Below w.heap.size w w' := by
  obtain ⟨i0, hi0, hz0, hz1, hz2⟩ := info_parts info3
  have hA : ∀ a, A = some a → 0 < l.length → a.block < w.heap.size := fun a ha h0 => by
    obtain ⟨ad, e, hx⟩ := Kd.at_int hc 0 (by omega) (by omega)
    rw [ha] at e
    cases e
    have := cell_lt hx
    rwa [addr_block] at this
  have hlt : Bs < w.heap.size := (Array.getElem?_eq_some_iff.1 hBs).1
  have HBS := Aside0.mk hBs
  have HC := Aside0.mk hc
  have HA := Aside0.mk hA
  have HL := Aside0.mk hl
  have HI0 := Aside0.mk hi0
  clear hBs hc hA hl hi0
  refine callsIn_of_wp_marks Try.func132 rfl trivial ?_ rfl
  simp only [Try.ntmps132, List.size_toArray, List.length_cons, List.length_nil, Nat.reduceAdd, Nat.reduceSub, Array.replicate_succ, Array.replicate_zero, List.push_toArray, List.append_toArray, List.nil_append, List.cons_append]
  gi_wp2
  obtain ⟨w2, hw2⟩ : ∃ w2, w2 = w.alloc (.cells #[.slice none 0 0] 40) := ⟨_, rfl⟩
  rw [← hw2]
  have hs2 : w2.heap.size = w.heap.size + 1 := by rw [hw2]; simp
  have hv2 : w2.heap[w.heap.size]? = some (.cells #[.slice none 0 0] 40 (0, 0)) := by rw [hw2]; exact World.alloc_heap_new w _
  have hb2 : Below w.heap.size w w2 := by rw [hw2]; exact (Below.refl _ w).alloc (Nat.le_refl _) _
  clear hw2
  refine wpIn_rng (σ := Nat) (gf := 104) (lb := #[.pointer (some ⟨Bs, 0, none⟩)]) rfl (by omega) rfl trivial (enters_of Try.func104 (by kernel_rfl) rfl)
    (values_iter (n - 1) Bs (by omega) A c l w2 ((hb2.block Bs hlt).trans HBS.out) (Kd.C_below HC.out hb2) (by have := HL.out; omega)) (fun _ => rfl)
    (fun b hb => hb.elim) (fun b hb => by obtain ⟨a, ha, rfl, h0⟩ := hb; have := HA.out a ha h0; omega)
    (ApI l w) (fun _ _ => False) (fun s B C h hf => apI_fr h (by omega) hf) (fun _ _ _ h => h.elim) (fun _ _ _ => trivial)
    ⟨Nat.zero_le _, _, hv2, by simpa using World.ownsRow_nil w2 w.heap.size 3 1, hb2⟩ ?round ?done (fun _ _ _ _ h => h.elim)
  case done =>
    rintro D i W hD hm ⟨hi, v, hv, hrow, hb⟩ hd
    have hil : i = l.length := by omega
    subst hil
    rw [List.take_length] at hrow
    obtain ⟨hc3, hf3⟩ := cell_of_box_a hv
    have HRW := Aside0.mk hrow
    have HBW := Aside0.mk hb
    have HV := Aside0.mk hv
    have HD := Aside0.mk hd
    have HDD := Aside0.mk hD
    clear hrow hb hv hd hD hm hi
    gi_wp2
    refine ⟨by simp, .inl ⟨_, _, rfl, run_takeDeferred HD.out, ?_⟩⟩
    refine ⟨_, results_tmp rfl _ _ _, v, rfl, own_move HRW.out fun k hk => ?_, ?_⟩
    · obtain ⟨cells, hcl⟩ := own_typed HRW.out k hk
      exact World.putObj_heap_other (fun e => by subst e; rw [HD.out] at hcl; cases hcl)
    · exact HBW.out.grown (grownBy_putObj_a _ _ _) HBW.out.size (fun k e => by cases e; have := HDD.out; omega)
  case round =>
    intro lq i W hI hm K hK
    gi_wp2
    clear hI
    rintro W2 ⟨hi, v, hv, hrow, hb⟩
    obtain ⟨hc2, hf2⟩ := cell_of_box_a hv
    have hBlt : w.heap.size < W2.heap.size := (Array.getElem?_eq_some_iff.1 hv).1
    have hne : v.ownBlock = none ∨ v.ownBlock ≠ some w.heap.size := ownsRow_ne_a hrow hv (fun cur e => by cases e)
    have hsz1 : i + 1 ≤ maxLen := by have := HL.out; unfold Go.maxLen; omega
    have hsz2 : (i + 1) * 8 ≤ 140737488355328 := by have := HL.out; omega
    have hone : ∀ u ∈ [Value.int .i64 (rd l i)], u.oneCell' = true := by simp [Value.oneCell']
    gi_wp2_with (first
      | (gi_at_builtin; refine wpListIn_append_own _ rfl _ _ 40 rfl w.heap.size 3 i0 (.int .i64 0) 1 8 Try.underlying40 HI0.out hz0 hz1 hz2 rfl (by decide) _ _ _ rfl (hrow.alloc _) ⟨W2.heap.size, 0, none⟩ 1 1 [.int .i64 (rd l i)] rfl rfl (cell_one_new _ _ _) hone hsz1 hsz2 (by rw [World.size_alloc]; omega) ?_; intro v' w3 hown' hg3 hnil3
         have hv3 : w3.heap[w.heap.size]? = some (.cells #[v] 40 (0, 0)) := (hg3.block _ (by rw [World.size_alloc]; omega) (ownBlock_ne hne)).trans ((Below.heap_alloc _ _ _ hBlt).trans hv)
         obtain ⟨hc3, hf3⟩ := cell_of_box_a hv3
         obtain ⟨g', cap', cur', rfl, hbase', hgb'⟩ : ∃ g' cap' cur', v' = .slice (some ⟨g', 0, none⟩) (i + 1) cap' ∧ w.heap.size ≤ g' ∧ w3.heap[g']? = some (.cells cur' 3 (0, 0)) := by
           rcases hown'.2 with ⟨_, h0⟩ | ⟨g', cap', cur', h1, h2, h3, _⟩
           · exact absurd h0 (by omega)
           · exact ⟨g', cap', cur', h1, h2, h3⟩
         go_frame)
      | gi_round_op_a)
    have hg3' : (W2.alloc (.cells #[Value.int .i64 (rd l i)] 3)).grownBy w3 v.ownBlock := hg3
    clear hg3 hnil3
    refine ⟨?_, ?_, i + 1, rfl, by omega, _, heap_setCell_box_a _ hv3, ?_, ?_⟩
    · refine ((KeepsOthers.alloc _ _).trans (KeepsOthers.of_grownBy hg3' fun j o hj ho => ?_)).trans (KeepsOthers.setCell _ _ _)
      obtain ⟨cells, hcl⟩ := own_typed (hrow.alloc (.cells #[Value.int .i64 (rd l i)] 3)) j hj
      rw [ho] at hcl
      cases hcl
      rfl
    · refine ⟨Nat.le_trans (by rw [World.size_alloc]; omega) (Nat.le_trans hg3'.size (by simp [World.setCell])), fun b hb => ?_⟩
      obtain ⟨a, ha, rfl, h0⟩ := hb
      have hab := HA.out a ha h0
      refine (Below.heap_setCell _ _ _ _ (by simp; omega)).trans ((hg3'.block _ (by rw [World.size_alloc]; omega) (fun e => ?_)).trans (Below.heap_alloc _ _ _ (by omega)))
      have := (hrow.lt _ e.symm).1
      omega
    · rw [take_succ_map l i hm]
      exact hown'.kept (grownBy_setCell0_a _ _ _) (.inr (fun e => by have e2 : g' = w.heap.size := by simpa [Value.ownBlock] using e
                                                                     rw [e2, hv3] at hgb'; cases hgb'))
    · exact ((hb.alloc hb.size _).grown hg3' (by rw [World.size_alloc]; omega) (fun k e => (hrow.lt k e).1)).grown (grownBy_setCell0_a _ _ _) (by have := hg3'.size; rw [World.size_alloc] at this; omega) (fun k e => by cases e; exact Nat.le_refl _)
end Go.Proofs.Ytaofanhdmfdlmaa.Print

/-
What is proved: slices.Values makes the iterator; slices.Sorted of it is a new slice that holds the numbers, sorted. Condition: the slice can be read.
-/
namespace Go.Proofs.Ytaofanhdmfdlmaa.Print
open Go Go.RowKit Go.Proofs.YtaofanhdmfdlmaaW.PrintWords Go.Proofs.YtaofanhdmfdlmaaW.PrintLast Go.Proofs.YtaofanhdmfdlmaaW.PrintMore Go.Proofs.Ytaofanhdmfdlmaa.Rng
attribute [local go_sem] Oper.semAt_some
set_option linter.unusedVariables false

theorem values_calls (A : Option Addr) (n c : Nat) (w : World) :
    Calls Try.prog 51 #[.slice A n c] w fun e w' => e = .returned (.func (.func 104) #[] #[.pointer (some ⟨w.heap.size, 0, none⟩)]) ∧ w' = w.alloc (.cells #[.slice A n c] 40) := by
  go_enter Try.func51, Try.ntmps51
  go_wp2
  go_ret
  exact ⟨rfl, rfl⟩
theorem collect_in (n : Nat) (hn : 4 ≤ n) (Bs : Nat) (A : Option Addr) (c : Nat) (l : List Int) (w : World) (hBs : w.heap[Bs]? = some (.cells #[.slice A l.length c] 40 (0, 0))) (hc : Kd.C (Kd.int .i64) w A l.length l) (hl : l.length * 8 ≤ 140737488355328) :
    CallsIn Fence.wide n Try.prog 103 #[.func (.func 104) #[] #[.pointer (some ⟨Bs, 0, none⟩)]] w fun e w' => ∃ v, e = .returned v ∧ w'.ownsRow w.heap.size 3 1 v l.length (l.map (Value.int .i64)) ∧ Below w.heap.size w w' := by
  have H := appendSeq_in (n - 1) (by omega) Bs A c l w hBs hc hl
  have HH := Aside0.mk H
  clear H hBs hc hl
  refine callsIn_of_wp Try.func103 rfl trivial ?_ rfl
  simp only [Try.ntmps103, List.size_toArray, List.length_cons, List.length_nil, Nat.reduceAdd, Nat.reduceSub, Array.replicate_succ, Array.replicate_zero, List.push_toArray, List.append_toArray, List.nil_append, List.cons_append]
  gi_wp2_with fail
  refine ⟨trivial, fun _ => by omega, HH.out.mono ?_⟩
  rintro e w' ⟨v, rfl, hrow, hb⟩
  gi_wp2
  go_ret
  exact ⟨v, rfl, hrow, hb⟩
set_option maxHeartbeats 1000000 in
theorem sorted_calls (Bs : Nat) (A : Option Addr) (c : Nat) (l : List Int) (w : World) (hBs : w.heap[Bs]? = some (.cells #[.slice A l.length c] 40 (0, 0))) (hc : Kd.C (Kd.int .i64) w A l.length l) (hl : l.length * 8 ≤ 140737488355328) :
    Calls Try.prog 50 #[.func (.func 104) #[] #[.pointer (some ⟨Bs, 0, none⟩)]] w fun e w' => ∃ v1_ : Value, e = .returned v1_ ∧ Kd.R (Kd.int .i64) 3 w' w.heap.size (fun _ => True) v1_ (l.mergeSort fun x y => decide (x ≤ y)) ∧ Below w.heap.size w w' := by
  have H := callsIn_wide.1 (collect_in 6 (by omega) Bs A c l w hBs hc hl)
  have HH := Aside0.mk H
  have HL := Aside0.mk hl
  clear H hBs hc hl
  go_enter Try.func50, Try.ntmps50
  go_wp2_with (go_at_call 103; refine HH.out.mono ?_; rintro e w1 ⟨v, rfl, hrow, hb⟩)
  have hR : Kd.R (Kd.int .i64) 3 w1 w.heap.size (fun _ => True) v l := Kd.R_of_own (enc := Value.int .i64) (h1 := fun _ => rfl) hrow (fun _ _ => trivial)
  have HR := Aside0.mk hR
  have HB := Aside0.mk hb
  clear hR hrow hb
  go_wp2_with (go_at_call 84; refine (slices_Sort_int_int.calls (fun _ => True) _ l (l.mergeSort fun x y => decide (x ≤ y)) w w1 HB.out HR.out (by unfold slices_Sort_int_int.f; rw [if_pos (by have := HL.out; omega)])).mono ?_; rintro e w2 ⟨rfl, hR2, hb2, _⟩)
  go_ret
  exact ⟨v, rfl, Kd.R_mono hR2 (fun _ _ => trivial), hb2⟩
/-- 'slices.Sorted(slices.Values(l))': the contract in the printer's form, w: the world ahead of both calls. -/
def slices_Sorted_int.f (l0 : List Int) : Option (List Int) := if l0.length * 8 ≤ 140737488355328 then some (l0.mergeSort fun x y => decide (x ≤ y)) else none
theorem slices_Sorted_int.calls (A0 : Option Addr) (c0 : Nat) (l0 : List Int) (r : List Int) (w : World) (hr0 : Kd.C (Kd.int .i64) w A0 l0.length l0) (hc0 : l0.length ≤ c0) (h : slices_Sorted_int.f l0 = some r) :
    Calls Try.prog 50 #[.func (.func 104) #[] #[.pointer (some ⟨w.heap.size, 0, none⟩)]] (w.alloc (.cells #[.slice A0 l0.length c0] 40)) fun e w' => ∃ v0_ : Value, e = .returned (v0_) ∧ Kd.R (Kd.int .i64) 3 w' w.heap.size (fun _ => True) v0_ r ∧ Below w.heap.size w w' := by
  unfold slices_Sorted_int.f at h
  by_cases hl : l0.length * 8 ≤ 140737488355328
  case neg => rw [if_neg hl] at h; cases h
  rw [if_pos hl] at h
  obtain rfl := Option.some.inj h
  have hb : Below w.heap.size w (w.alloc (.cells #[.slice A0 l0.length c0] 40)) := (Below.refl _ w).alloc (Nat.le_refl _) _
  refine (sorted_calls w.heap.size A0 c0 l0 _ (World.alloc_heap_new w _) (Kd.C_below hr0 hb) hl).mono ?_
  rintro e w' ⟨v, rfl, hR, hB⟩
  exact ⟨v, rfl, Kd.R_lower hR (by rw [World.size_alloc]; omega), hb.trans (hB.mono (by rw [World.size_alloc]; omega))⟩
end Go.Proofs.Ytaofanhdmfdlmaa.Print

/-
What is proved: random.Some: so many of an order, sorted, or refused. Condition: none (beside what the order's own contract asks).
-/
namespace Go.Proofs.Ytaofanhdmfdlmaa.Print
open Go Go.RowKit Go.Proofs.YtaofanhdmfdlmaaW.PrintWords Go.Proofs.YtaofanhdmfdlmaaW.PrintLast Go.Proofs.YtaofanhdmfdlmaaW.PrintMore
set_option linter.unusedVariables false

def random_Some.f (k : Nat) (a0 a1 a2 : Int) : Option (Int × List Int × Int) :=
  (random_sized.f a1).bind fun s => if s = false ∨ a2 < 0 ∨ a1 < a2 then some (0, [], 2) else
    (random_Shuffle.f k a0 a1).bind fun t => if a2.toNat ≤ t.2.1.length ∧ t.2.2 = 0 then (slices_Sort_int_int.f (t.2.1.take a2.toNat)).bind fun m => some (t.1, m, 0) else none
set_option maxHeartbeats 4000000 in
theorem random_Some.calls (k : Nat) (a0 : Int) (a1 : Int) (a2 : Int) (r1 : Int) (r2 : List Int) (r3 : Int) (w : World) (h : random_Some.f k a0 a1 a2 = some (r1, r2, r3)) :
    Calls Try.prog 24 #[.int .u64 a0, .int .i64 a1, .int .i64 a2] w fun e w' => ∃ v1_ : Value, e = .returned (.tuple #[.int .u64 r1, v1_, .int .i64 r3]) ∧ Kd.R (Kd.int .i64) 3 w' w.heap.size (fun _ => True) v1_ r2 ∧ Below w.heap.size w w' := by
  unfold random_Some.f at h
  obtain ⟨sb, hs, h⟩ := Option.bind_eq_some_iff.1 h
  have HS := Aside0.mk hs
  clear hs
  by_cases hc : sb = false ∨ a2 < 0 ∨ a1 < a2
  · rw [if_pos hc] at h
    simp only [Option.some.injEq, Prod.mk.injEq] at h
    obtain ⟨rfl, rfl, rfl⟩ := h
    cases sb with
    | false =>
      clear hc
      go_enter Try.func24, Try.ntmps24
      go_wp2_with (go_at_call 82; refine (random_sized.calls a1 false _ HS.out).mono ?_; rintro e w' ⟨rfl, ⟨nd, rfl⟩⟩)
      go_ret3
      exact ⟨_, rfl, Kd.R_nil _ _ _ _ _, pw_below_drewN (Below.refl _ _) _⟩
    | true =>
      by_cases hneg : a2 < 0
      · have hnb : decide (a2 < 0) = true := decide_eq_true hneg
        clear hc
        go_enter Try.func24, Try.ntmps24
        go_wp2_with (go_at_call 82; refine (random_sized.calls a1 true _ HS.out).mono ?_; rintro e w' ⟨rfl, ⟨nd, rfl⟩⟩)
        go_ret3
        exact ⟨_, rfl, Kd.R_nil _ _ _ _ _, pw_below_drewN (Below.refl _ _) _⟩
      · have hgt : a1 < a2 := by rcases hc with hc | hc | hc; cases hc; exact absurd hc hneg; exact hc
        have hnb : decide (a2 < 0) = false := decide_eq_false hneg
        have hgb : decide (a1 < a2) = true := decide_eq_true hgt
        clear hc
        go_enter Try.func24, Try.ntmps24
        go_wp2_with (go_at_call 82; refine (random_sized.calls a1 true _ HS.out).mono ?_; rintro e w' ⟨rfl, ⟨nd, rfl⟩⟩)
        go_ret3
        exact ⟨_, rfl, Kd.R_nil _ _ _ _ _, pw_below_drewN (Below.refl _ _) _⟩
  · rw [if_neg hc] at h
    obtain ⟨⟨s, l, z⟩, hsh, h⟩ := Option.bind_eq_some_iff.1 h
    by_cases hl : a2.toNat ≤ l.length ∧ z = 0
    case neg => rw [if_neg hl] at h; cases h
    rw [if_pos hl] at h
    obtain ⟨m, hm, h⟩ := Option.bind_eq_some_iff.1 h
    simp only [Option.some.injEq, Prod.mk.injEq] at h
    obtain ⟨rfl, rfl, rfl⟩ := h
    obtain ⟨hl, rfl⟩ := hl
    obtain rfl : sb = true := by cases sb; exact absurd (.inl rfl) hc; rfl
    have h0 : 0 ≤ a2 := by omega
    have h1 : a2 ≤ a1 := by omega
    obtain ⟨n, rfl⟩ := Int.eq_ofNat_of_zero_le h0
    simp only [Int.toNat_natCast] at hl hm
    have hnb : decide ((n : Int) < 0) = false := decide_eq_false (by omega)
    have hgb : decide (a1 < (n : Int)) = false := decide_eq_false (by omega)
    have HSH := Aside0.mk hsh
    have HM := Aside0.mk hm
    have HL := Aside0.mk hl
    clear hc hsh hm h0 h1 hl
    go_enter Try.func24, Try.ntmps24
    go_wp2_with (go_at_call 82; refine (random_sized.calls a1 true _ HS.out).mono ?_; rintro e w' ⟨rfl, ⟨nd, rfl⟩⟩)
    refine (random_Shuffle.calls k a0 a1 _ _ _ _ HSH.out).mono ?_
    rintro e w1 ⟨v, rfl, hv, hb⟩
    obtain ⟨A, c, rfl, hc1, _⟩ := Kd.R_reads hv
    have HV := Aside0.mk hv
    have HB := Aside0.mk hb
    clear hv hb
    have hn1 := HL.out
    go_wp2_with fail
    have HT : Kd.R (Kd.int .i64) 3 w1 w.heap.size (fun _ => True) (.slice A n c) (l.take n) := Kd.R_take HV.out HL.out
    have HB1 : Below w.heap.size w w1 := (pw_below_drewN (Below.refl _ w) nd).trans HB.out
    refine (slices_Sort_int_int.calls (fun _ => True) _ (l.take n) m w w1 HB1 HT HM.out).mono ?_
    rintro e w2 ⟨rfl, hR, hB2, _⟩
    have HR2 := Aside0.mk (Kd.R_mono hR (fun _ _ => trivial) : Kd.R (Kd.int .i64) 3 w2 w.heap.size (fun _ => True) (.slice A n c) m)
    have HB2 := Aside0.mk hB2
    clear hR hB2 HT HB1 HV HB HS HSH HM
    go_wp2
    go_region
    all_goals (go_wp2; go_ret3; exact ⟨_, rfl, by (with_reducible repeat (first | apply Kd.R_drewN | apply Kd.R_drew)); exact HR2.out, below_drew HB2.out⟩)
end Go.Proofs.Ytaofanhdmfdlmaa.Print

