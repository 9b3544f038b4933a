import Derived.Test.YtaofanhdmfdlmaaTell5
import Derived.Test.YtaofanhdmfdlmaaTell2
import Derived.RangeFuncRecord
import Derived.Shelf.SlIter.Collect
import Derived.Test.YtaofanhdmfdlmaaTell0
import Derived.Shelf.Abstract
import Derived.RegionTactic
import Derived.Deep.QuietTactic
import Derived.BigQuiet
/-
What is proved: degree.Table: the weights' sums of degrees 1 to k, or refused. Condition: none (k from 1 to 64, or refused).
-/
namespace Go.Proofs.Ytaofanhdmfdlmaa.Print
open Go Go.RowKit Go.Proofs.YtaofanhdmfdlmaaW.PrintWords Go.Proofs.YtaofanhdmfdlmaaW.PrintLast Go.Proofs.YtaofanhdmfdlmaaW.PrintMore Go.Proofs.Ytaofanhdmfdlmaa.Rng
attribute [local go_sem] Oper.semAt_some
set_option linter.unusedVariables false
def sm (kk : Int) : Nat → Int
  | 0 => 0
  | n + 1 => sm kk n + wt kk ((n + 1 : Nat) : Int)
def tabL (kk : Int) (n : Nat) : List Int := (List.range n).map fun i => sm kk (i + 1)
theorem tabL_len (kk : Int) (n : Nat) : (tabL kk n).length = n := by unfold tabL; simp
theorem tabL_succ (kk : Int) (n : Nat) : tabL kk (n + 1) = tabL kk n ++ [sm kk (n + 1)] := by unfold tabL; rw [List.range_succ, List.map_append]; rfl
theorem wt_le (k d : Int) (h1 : 1 ≤ k) (h2 : k ≤ 64) (h3 : 1 ≤ d) (h4 : d ≤ k) : 0 ≤ wt k d ∧ wt k d ≤ 4398046511104 := by
  obtain ⟨_, t1, t2⟩ := rt_at k h1 h2
  have hb := bitLen_small (rt k) t1 t2
  obtain ⟨r1, r2, r3, r4, r5, r6⟩ := wt_range k d h1 h2 h3 h4 (rt k) t1 t2 (Lib.bitLen (rt k).toNat : Int) (by omega) (by omega)
  have hbase : 0 ≤ wtBase k d ∧ wtBase k d ≤ 4294967296 := by
    unfold wtBase
    split
    · have y1 : (1 : Int) * 1 ≤ d * (d - 1) := Int.mul_le_mul (by omega) (by omega) (by omega) (by omega)
      exact div_le_self' (by omega) (by omega)
    · exact ⟨r1, r2⟩
  unfold wt
  split
  · omega
  · split
    · omega
    · omega
theorem sm_le (k : Int) (h1 : 1 ≤ k) (h2 : k ≤ 64) : ∀ n : Nat, (n : Int) ≤ k → 0 ≤ sm k n ∧ sm k n ≤ 4398046511104 * n
  | 0, _ => by simp [sm]
  | n + 1, h => by
    have ih := sm_le k h1 h2 n (by omega)
    have := wt_le k ((n + 1 : Nat) : Int) h1 h2 (by omega) h
    unfold sm
    omega
def degree_Table.f (k : Int) : Option (List Int × Int) := if 1 ≤ k ∧ k ≤ 64 then some (tabL k k.toNat, 0) else some ([], 2)
theorem sized_at (k : Int) : degree_sized.f k = some (decide (1 ≤ k ∧ k ≤ 64)) := by
  unfold degree_sized.f
  by_cases h : k ≥ 1
  · rw [if_pos h]; congr 1; exact decide_eq_decide.mpr (by omega)
  · rw [if_neg h, decide_eq_false (by omega)]
theorem weights_calls (k : Int) (w : World) : Calls Try.prog 162 #[.int .i64 k] w fun e w' =>
    e = .returned (.func (.func 195) #[] #[.pointer (some ⟨w.heap.size, 0, none⟩)]) ∧ w' = w.alloc (.cells #[.int .i64 k] 3) := by
  go_enter Try.func162, Try.ntmps162
  go_wp2
  go_ret
  exact ⟨rfl, rfl⟩
/-- Between two rounds, ahead of degree d: the box holds the sums so far, the number is their last. -/
def TabI (kk : Int) (w : World) (d : Nat) (W : World) : Prop :=
  1 ≤ d ∧ (d : Int) ≤ kk + 1 ∧ ∃ v, W.heap[w.heap.size]? = some (.cells #[v] 88 (0, 0)) ∧ W.heap[w.heap.size + 1]? = some (.cells #[.int .u64 (sm kk (d - 1))] 25 (0, 0)) ∧
    W.ownsRow (w.heap.size + 2) 25 1 v (d - 1) ((tabL kk (d - 1)).map (Value.int .u64)) ∧ Below w.heap.size w W
theorem tabI_fr {kk : Int} {w w2 : World} {i : Nat} {A B : World} (h : TabI kk w i A) (h2 : w.heap.size + 1 < w2.heap.size) (hf : Fr (fun _ => False) w2.heap.size A B) : TabI kk w i B := by
  obtain ⟨h1, hi, v, hv, hs, hrow, hb⟩ := h
  refine ⟨h1, hi, v, hf.blk hv id (by omega), hf.blk hs id h2, own_move hrow fun k hk => ?_, hf.below hb (Nat.le_refl _) (fun b h => h.elim) (by omega)⟩
  obtain ⟨cells, hc⟩ := own_typed hrow k hk
  exact hf.block k (Array.getElem?_eq_some_iff.1 hc).1 id (.inr ⟨_, hc, rfl⟩)
theorem ownBlock_neT {v : Value} {k : Nat} (h : v.ownBlock = none ∨ v.ownBlock ≠ some k) : some k ≠ v.ownBlock := by
  rcases h with h | h
  · rw [h]; simp
  · exact fun e => h e.symm
set_option maxHeartbeats 8000000 in
set_option maxRecDepth 100000 in
theorem degree_Table.calls (a0 : Int) (r1 : List Int) (r2 : Int) (w : World) (h : degree_Table.f a0 = some (r1, r2)) :
    Calls Try.prog 133 #[.int .i64 a0] w fun e w' => ∃ v0_ : Value, e = .returned (.tuple #[v0_, .int .i64 r2]) ∧ Kd.R (Kd.int .u64) 25 w' w.heap.size (fun _ => True) v0_ r1 ∧ Below w.heap.size w w' := by
  have HS := Aside0.mk (sized_at a0)
  obtain ⟨i0, hi0, hz0, hz1, hz2⟩ := info_parts info25
  have HI0 := Aside0.mk hi0
  clear hi0
  refine callsIn_wide.1 (callsIn_of_wp_marks (n := 6) Try.func133 rfl trivial ?_ rfl)
  simp only [Try.ntmps133, List.size_toArray, List.length_cons, List.length_nil, Nat.reduceAdd, Nat.reduceSub, Array.replicate_succ, Array.replicate_zero, List.push_toArray, List.append_toArray, List.nil_append, List.cons_append]
  by_cases hk : 1 ≤ a0 ∧ a0 ≤ 64
  case neg =>
    have hkb : decide (1 ≤ a0 ∧ a0 ≤ 64) = false := decide_eq_false hk
    unfold degree_Table.f at h
    rw [if_neg hk] at h
    simp only [Option.some.injEq, Prod.mk.injEq] at h
    obtain ⟨rfl, rfl⟩ := h
    rw [hkb] at HS
    clear hk hkb
    gi_wp2_with fail
    refine ⟨trivial, ?_⟩
    refine callsIn_wide.2 ((degree_sized.calls a0 _ _ HS.out).mono ?_)
    rintro e w' ⟨rfl, ⟨nd, rfl⟩⟩
    gi_wp2
    refine ⟨_, results_tmp2 rfl _ _ _, ?_⟩
    exact ⟨_, rfl, Kd.R_nil _ _ _ _ _, pw_below_drewN (Below.refl _ _) _⟩
  case pos =>
    have hkb : decide (1 ≤ a0 ∧ a0 ≤ 64) = true := decide_eq_true hk
    unfold degree_Table.f at h
    rw [if_pos hk] at h
    simp only [Option.some.injEq, Prod.mk.injEq] at h
    obtain ⟨rfl, rfl⟩ := h
    rw [hkb] at HS
    have HK := Aside0.mk hk
    clear hk hkb
    gi_wp2_with fail
    refine ⟨trivial, ?_⟩
    refine callsIn_wide.2 ((degree_sized.calls a0 _ _ HS.out).mono ?_)
    rintro e w' ⟨rfl, ⟨nd, rfl⟩⟩
    gi_wp2_with fail
    refine ⟨trivial, ?_⟩
    refine callsIn_wide.2 ((weights_calls a0 _).mono ?_)
    rintro e w2 ⟨rfl, hw2⟩
    simp only [World.size_alloc]
    have hs2 : w2.heap.size = w.heap.size + 3 := by rw [hw2]; simp
    have hv2 : w2.heap[w.heap.size]? = some (.cells #[.slice none 0 0] 88 (0, 0)) := by rw [hw2]; refine blk_alloc ?_ _; refine blk_alloc ?_ _; exact World.alloc_heap_new (w.drewN nd) _
    have hs1 : w2.heap[w.heap.size + 1]? = some (.cells #[.int .u64 0] 25 (0, 0)) := by
      rw [hw2]; refine blk_alloc ?_ _
      have := World.alloc_heap_new ((w.drewN nd).alloc (.cells #[.slice none 0 0] 88)) (.cells #[.int .u64 0] 25)
      rwa [World.size_alloc] at this
    have hk2 : w2.heap[w.heap.size + 2]? = some (.cells #[.int .i64 a0] 3 (0, 0)) := by
      rw [hw2]
      have := World.alloc_heap_new (((w.drewN nd).alloc (.cells #[.slice none 0 0] 88)).alloc (.cells #[.int .u64 0] 25)) (.cells #[.int .i64 a0] 3)
      rwa [World.size_alloc, World.size_alloc] at this
    have hb2 : Below w.heap.size w w2 := by rw [hw2]; exact below_alloc (below_alloc (below_alloc (pw_below_drewN (Below.refl _ _) nd) _) _) _
    have hi1 : TabI a0 w 1 w2 := ⟨by omega, by have := HK.out; omega, _, hv2, hs1, by simpa [tabL] using World.ownsRow_nil w2 (w.heap.size + 2) 25 1, hb2⟩
    clear hw2
    have HS2 := Aside0.mk hs2
    have HI1 := Aside0.mk hi1
    have HK2 := Aside0.mk hk2
    clear hs2 hi1 hk2 hs1 hv2 hb2
    gi_wp2
    refine wpIn_rng (σ := Nat) (gf := 195) (lb := #[.pointer (some ⟨w.heap.size + 1 + 1, 0, none⟩)]) rfl (by decide) rfl trivial (enters_of Try.func195 (by kernel_rfl) rfl)
      (weights_iter 5 (w.heap.size + 1 + 1) (by omega) a0 HK.out.1 HK.out.2 w2 HK2.out) (fun _ => rfl)
      (fun b hb => hb.elim) (fun b hb => hb.elim)
      (TabI a0 w) (fun _ _ => False) (fun s B C h hf => tabI_fr h (by have := HS2.out; omega) hf) (fun _ _ _ h => h.elim) (fun _ _ _ => trivial)
      HI1.out ?round ?done (fun _ _ _ _ h => h.elim)
    case done =>
      rintro D i W hD hm ⟨h1, hi, v, hv, hs, hrow, hb⟩ hd
      obtain rfl : i = a0.toNat + 1 := by omega
      rw [Nat.add_sub_cancel] at hrow hs
      obtain ⟨hc3, hf3⟩ := cell_of_box_a hv
      have HRW := Aside0.mk hrow
      have HBW := Aside0.mk hb
      have HD := Aside0.mk hd
      have HDD := Aside0.mk hD
      clear hrow hb hv hd hD hm hi hs h1
      gi_wp2
      refine ⟨by simp, .inl ⟨_, _, rfl, run_takeDeferred HD.out, ?_⟩⟩
      have hrw2 : (W.putObj D (Obj.deferred none)).ownsRow (w.heap.size + 2) 25 1 v a0.toNat ((tabL a0 a0.toNat).map (Value.int .u64)) := own_move HRW.out fun k hk => by
        obtain ⟨cells, hcl⟩ := own_typed HRW.out k hk
        exact World.putObj_heap_other (fun e => by subst e; rw [HD.out] at hcl; cases hcl)
      refine ⟨_, results_tmp2 rfl _ _ _, v, rfl, Kd.R_lower (base := w.heap.size + 2) (Kd.R_of_own (enc := Value.int .u64) (h1 := fun _ => rfl) (by rw [tabL_len]; exact hrw2) (fun _ _ => trivial)) (by omega), ?_⟩
      exact HBW.out.grown (grownBy_putObj_a _ _ _) HBW.out.size (fun k e => by cases e; have := HDD.out; have := HS2.out; omega)
    case round =>
      intro lq d W hI hm K hK
      gi_wp2
      clear hI
      rintro W2 ⟨h1, hi, v, hv, hs, hrow, hb⟩
      obtain ⟨i, rfl⟩ : ∃ i, d = i + 1 := ⟨d - 1, by omega⟩
      rw [Nat.add_sub_cancel] at hrow hs
      obtain ⟨hc2, hf2⟩ := cell_of_box_a hv
      obtain ⟨hc1, hf1⟩ := cell_of_box_a hs
      have hBlt : w.heap.size < W2.heap.size := (Array.getElem?_eq_some_iff.1 hv).1
      have hSlt : w.heap.size + 1 < W2.heap.size := (Array.getElem?_eq_some_iff.1 hs).1
      have hne : v.ownBlock = none ∨ v.ownBlock ≠ some w.heap.size := ownsRow_ne_a hrow hv (fun cur e => by cases e)
      have hne1 : v.ownBlock ≠ some (w.heap.size + 1) := fun e => by have := (hrow.lt _ e).1; omega
      have hsm := sm_le a0 HK.out.1 HK.out.2 (i + 1) hm
      have hadd : IntKind.u64.wrap (sm a0 i + wt a0 ((i + 1 : Nat) : Int)) = sm a0 (i + 1) := by rw [u64_in (by have e : sm a0 (i + 1) = sm a0 i + wt a0 ((i + 1 : Nat) : Int) := rfl; have := HK.out; omega)]; rfl
      obtain ⟨s1, hs1⟩ : ∃ s1, sm a0 (i + 1) = s1 := ⟨_, rfl⟩
      rw [hs1] at hadd hsm
      have HS1 := Aside0.mk hs1
      clear hs1
      generalize sm a0 i = s0 at *
      generalize wt a0 ((i + 1 : Nat) : Int) = y at *
      obtain ⟨W3, hW3⟩ : ∃ W3, W3 = W2.setCell ⟨w.heap.size + 1, 0, none⟩ (.int .u64 s1) := ⟨_, rfl⟩
      have hsz3 : W3.heap.size = W2.heap.size := by rw [hW3]; simp [World.setCell]
      have hrow3 : W3.ownsRow (w.heap.size + 2) 25 1 v i ((tabL a0 i).map (Value.int .u64)) := own_move hrow fun k hk => by rw [hW3]; exact Below.heap_setCell _ _ _ _ (by show k ≠ w.heap.size + 1; rintro rfl; exact hne1 hk)
      have hv3 : W3.heap[w.heap.size]? = some (.cells #[v] 88 (0, 0)) := by rw [hW3]; exact (Below.heap_setCell _ _ _ _ (by show w.heap.size ≠ w.heap.size + 1; omega)).trans hv
      have hs3 : W3.heap[w.heap.size + 1]? = some (.cells #[.int .u64 s1] 25 (0, 0)) := by rw [hW3]; exact blk_put hs 0 _ rfl
      have hb3 : Below w.heap.size w W3 := by rw [hW3]; exact below_set hb (by show w.heap.size ≤ w.heap.size + 1; omega)
      have hko : KeepsOthers W2 W3 := by rw [hW3]; exact KeepsOthers.setCell _ _ _
      have HKO := Aside0.mk hko
      have hsz1 : i + 1 ≤ maxLen := by have := HK.out; unfold Go.maxLen; omega
      have hsz2 : (i + 1) * 8 ≤ 140737488355328 := by have := HK.out; omega
      have hone : ∀ u ∈ [Value.int .u64 s1], u.oneCell' = true := by simp [Value.oneCell']
      have hsz30 : w.heap.size + 2 ≤ (W3.alloc (.cells #[.int .u64 s1] 25)).heap.size := by rw [World.size_alloc]; omega
      have hnews : ∀ j u, [Value.int .u64 s1][j]? = some u → (W3.alloc (.cells #[.int .u64 s1] 25)).cell? ((⟨W2.heap.size, 0, none⟩ : Addr).add j) = some u := by rw [← hsz3]; exact cell_one_new _ _ _
      have HROW := Aside0.mk hrow
      have HROW3 := Aside0.mk hrow3
      have HNEWS := Aside0.mk hnews
      clear hrow hrow3 hnews
      gi_wp2_with (first
        | (gi_at_builtin; rw [← hW3]; refine wpListIn_append_own _ rfl _ _ 88 rfl (w.heap.size + 2) 25 i0 (.int .u64 0) 1 8 Try.underlying88 HI0.out hz0 hz1 hz2 rfl (by decide) _ _ _ rfl (HROW3.out.alloc _) ⟨W2.heap.size, 0, none⟩ 1 1 [.int .u64 s1] rfl rfl HNEWS.out hone hsz1 hsz2 hsz30 ?_; intro v' w3 hown' hg3 hnil3
           have hv4 : w3.heap[w.heap.size]? = some (.cells #[v] 88 (0, 0)) := (hg3.block _ (by rw [World.size_alloc]; omega) (ownBlock_neT hne)).trans ((Below.heap_alloc _ _ _ (by omega)).trans hv3)
           have hs4 : w3.heap[w.heap.size + 1]? = some (.cells #[.int .u64 s1] 25 (0, 0)) := (hg3.block _ (by rw [World.size_alloc]; omega) (fun e => hne1 e.symm)).trans ((Below.heap_alloc _ _ _ (by omega)).trans hs3)
           obtain ⟨hc4, hf4⟩ := cell_of_box_a hv4
           obtain ⟨g', cap', cur', rfl, hbase', hgb'⟩ : ∃ g' cap' cur', v' = .slice (some ⟨g', 0, none⟩) (i + 1) cap' ∧ w.heap.size + 2 ≤ g' ∧ w3.heap[g']? = some (.cells cur' 25 (0, 0)) := by
             rcases hown'.2 with ⟨_, h0⟩ | ⟨g', cap', cur', h1, h2, h3, _⟩
             · exact absurd h0 (by omega)
             · exact ⟨g', cap', cur', h1, h2, h3⟩
           go_frame)
        | gi_round_op_a)
      have hg3' : (W3.alloc (.cells #[Value.int .u64 s1] 25)).grownBy w3 v.ownBlock := hg3
      clear hg3 hnil3
      refine ⟨?_, ?_, i + 1 + 1, rfl, by omega, by omega, _, heap_setCell_box_a _ hv4, ?_, ?_, ?_⟩
      · refine HKO.out.trans (((KeepsOthers.alloc _ _).trans (KeepsOthers.of_grownBy hg3' fun j o hj ho => ?_)).trans (KeepsOthers.setCell _ _ _))
        obtain ⟨cells, hcl⟩ := own_typed (HROW3.out.alloc (.cells #[Value.int .u64 s1] 25)) j hj
        rw [ho] at hcl
        cases hcl
        rfl
      · exact ⟨Nat.le_trans (by rw [World.size_alloc]; omega) (Nat.le_trans hg3'.size (by simp [World.setCell])), fun b hb => hb.elim⟩
      · rw [Nat.add_sub_cancel, HS1.out]; exact (Below.heap_setCell _ _ _ _ (by show w.heap.size + 1 ≠ w.heap.size; omega)).trans hs4
      · rw [Nat.add_sub_cancel, tabL_succ, List.map_append, HS1.out]
        exact hown'.kept (grownBy_setCell0_a _ _ _) (.inr (fun e => by have e2 : g' = w.heap.size := by simpa [Value.ownBlock] using e
                                                                       omega))
      · exact ((hb3.alloc hb3.size _).grown hg3' (by rw [World.size_alloc]; omega) (fun k e => by have := (HROW3.out.lt k e).1; omega)).grown (grownBy_setCell0_a _ _ _) (by have := hg3'.size; rw [World.size_alloc] at this; omega) (fun k e => by cases e; exact Nat.le_refl _)
end Go.Proofs.Ytaofanhdmfdlmaa.Print

-- PRINTED by print.py (a twelfth state) out of the translation. Not trusted: Lean checks it.
namespace Go.Proofs.Ytaofanhdmfdlmaa.Print
open Go.RowKit Go.Proofs.YtaofanhdmfdlmaaW.PrintWords Go.Proofs.YtaofanhdmfdlmaaW.PrintLast Go.Proofs.YtaofanhdmfdlmaaW.PrintMore
attribute [local go_sem] max2_int min2_int max_two min_two max_three min_three max_four min_four   -- for this text's walks alone
set_option linter.unusedVariables false
set_option linter.unusedSimpArgs false

/-! ### neighbours_of: function 105 -/
def neighbours_of.f (a0 : Int) : Option (Int × List Int × Int) := (degree_Table.f a0).bind fun bt716 => (some (a0, bt716.1, bt716.2))
set_option maxHeartbeats 8000000 in
set_option maxRecDepth 100000 in
theorem neighbours_of.calls (a0 : Int) (r1 : Int) (r2 : List Int) (r3 : Int) (w : World) (h : neighbours_of.f a0 = some (r1, r2, r3)) :
    Calls Try.prog 105 #[.int .i64 a0] w fun e w' => ∃ v1_ : Value, e = .returned (.tuple #[.agg #[.int .i64 r1, v1_], .int .i64 r3]) ∧ Kd.R (Kd.int .u64) 25 w' w.heap.size (fun _ => True) v1_ r2 ∧ Below w.heap.size w w' := by
  have hu146 := Try.underlying146
  have HB := Aside0.mk (Below.refl w.heap.size w)
  have H : ((degree_Table.f a0).bind fun bt716 => (some (a0, bt716.1, bt716.2))) = some (r1, r2, r3) := h
  clear h
  replace H := Option.bind_eq_some_iff.mp H
  obtain ⟨⟨t716, t717⟩, A20, H⟩ := H
  replace H : (some (a0, t716, t717)) = some (r1, r2, r3) := H
  have A2 := Aside0.mk A20
  clear A20
  simp only [Option.some.injEq, Prod.mk.injEq] at H
  obtain ⟨rfl, rfl, rfl⟩ := H
  go_enter Try.func105, Try.ntmps105
  go_wp2_with (first | ((with_reducible refine gate_dst (N := 2) rfl ?_); refine box_event ?hg (N := 2) ?hd (cs := #[.int .i64 0, .slice none 0 0]) (t := 146) ?hr ?_; (case hd => rfl); (case hg => rfl); (case hr => first | (go_simp; done) | (go_simp; rfl)); intro gb715 hg w3 hbox hb; have n0_ := Aside0.mk (below_step (by repeat (first | (with_reducible first | exact HB.out | apply below_alloc | apply pw_below_drewN | apply below_drew1) | exact HB.out)) hb); have n1_ := Aside0.mk (hbox); have n2_ := Aside0.mk ((by rw [hg]; exact (below_size (by repeat (first | (with_reducible first | exact HB.out | apply below_alloc | apply pw_below_drewN | apply below_drew1) | exact HB.out))) : w.heap.size ≤ gb715)); have n3_ := Aside0.mk ((by rw [hg]; exact (below_size (by repeat (first | (with_reducible first | exact HB.out | apply below_alloc | apply pw_below_drewN | apply below_drew1) | exact HB.out))) : w.heap.size ≤ gb715)); clear HB; have HB := n0_; have BK715 := n1_; have GW715 := n2_; have GE715 := n3_; clear n0_ n1_ n2_ n3_; clear hb hbox hg) | ((with_reducible refine gate_callee (f := 133) rfl ?_); refine goesL_ (some 8) rfl rfl Try.func133 (by kernel_rfl) rfl #[.int .i64 a0] rfl (by (try simp only [List.map_toArray, List.map_cons, List.map_nil]); first | done | rfl | (simp only [List.length_drop, List.length_take]; rfl)) ?_; (with_reducible refine (degree_Table.calls a0 t716 t717 _ A2.out).mono ?_); rintro e w4 ⟨v718, rfl, ho0, hb⟩; refine ⟨_, rfl, ?_⟩; have n0_ := Aside0.mk (Kd.R_lower ho0 (below_size (by repeat (first | (with_reducible first | exact HB.out | apply below_alloc | apply pw_below_drewN | apply below_drew1 | refine below_set ?_ GE715.out) | exact HB.out)))); have n1_ := Aside0.mk (blk_below (g := gb715) (o := .cells #[.int .i64 0, .slice none 0 0] 146 (0, 0)) (by (with_reducible repeat (first | refine blk_drewN ?_ _ | refine blk_drew ?_ | refine blk_alloc ?_ _)); exact BK715.out) hb); have n2_ := Aside0.mk (below_step (by repeat (first | (with_reducible first | exact HB.out | apply below_alloc | apply pw_below_drewN | apply below_drew1 | refine below_set ?_ GE715.out) | exact HB.out)) hb); clear BK715; clear HB; have HO719 := n0_; have BK715 := n1_; have HB := n2_; clear n0_ n1_ n2_; (try clear hb); (try clear hb2); (try clear hk); (try clear hi); (try clear ho0); obtain ⟨Ao5, co5, eo5⟩ := Kd.R_slice HO719.out; subst eo5; have hcz6_0 : w4.cell? ⟨gb715, 0, none⟩ = some (.int .i64 0) := (blk_cell BK715.out 0).trans rfl; have hcz6_1 : w4.cell? ⟨gb715, 1, none⟩ = some (.slice none 0 0) := (blk_cell BK715.out 1).trans rfl; have hfz6_0 := blk_frozen BK715.out 0; have hfz6_1 := blk_frozen BK715.out 1))
  refine bodyPost_ret (results_ct rfl _ _ gb715 146 #[.int .i64 a0, .slice Ao5 t716.length co5] (0, 0) _ rfl (by (with_reducible repeat (first | refine blk_drewN ?_ _ | refine blk_drew ?_ | refine blk_alloc ?_ _)); refine blk_put (cs := #[.int .i64 a0, .slice none 0 0]) ?_ 1 _ rfl; (with_reducible repeat (first | refine blk_drewN ?_ _ | refine blk_drew ?_ | refine blk_alloc ?_ _)); refine blk_put (cs := #[.int .i64 0, .slice none 0 0]) ?_ 0 _ rfl; (with_reducible repeat (first | refine blk_drewN ?_ _ | refine blk_drew ?_ | refine blk_alloc ?_ _)); exact BK715.out) Try.underlying146 rfl (by kernel_rfl)) rfl ?_
  exact ⟨_, by first | rfl | (simp [errW_none, errW_some] <;> rfl) | (simp [*, errW_none, errW_some] <;> rfl), by (with_reducible repeat (first | apply Kd.R_alloc | apply Kd.R_drewN | apply Kd.R_drew)); exact Kd.R_mono (Kd.R_far (p := ⟨gb715, 1, none⟩) (Kd.R_far (p := ⟨gb715, 0, none⟩) (Kd.R_types HO719.out BK715.out (by decide)) (fun _ hk => hk.2) (.int .i64 a0)) (fun _ hk => hk.2) (.slice Ao5 t716.length co5)) (fun _ hk => trivial), by repeat (first | (with_reducible first | exact HB.out | apply below_alloc | apply pw_below_drewN | apply below_drew1 | refine below_set ?_ GE715.out) | exact HB.out)⟩

end Go.Proofs.Ytaofanhdmfdlmaa.Print

/-
What is proved: degree.Pick at a table whose sums rise: 1 more than how many sums are not above the number, modulo the last sum. Condition: 1 to 64 sums, the first above 0, rising.
-/
namespace Go.Proofs.Ytaofanhdmfdlmaa.Print
open Go Go.RowKit Go.Proofs.YtaofanhdmfdlmaaW.PrintWords Go.Proofs.YtaofanhdmfdlmaaW.PrintLast Go.Proofs.YtaofanhdmfdlmaaW.PrintMore
set_option linter.unusedVariables false
/-- 'table[i] > n'. -/
theorem pick1_calls (B1 B2 : Nat) (A : Option Addr) (c : Nat) (l : List Int) (n : Int) (i : Nat) (w : World) (hi : i < l.length) (hT : w.heap[B1]? = some (.cells #[.slice A l.length c] 88 (0, 0))) (hN : w.heap[B2]? = some (.cells #[.int .u64 n] 25 (0, 0))) (hC : Kd.C (Kd.int .u64) w A l.length l) :
    Calls Try.prog 165 #[.int .i64 (i : Int), .pointer (some ⟨B1, 0, none⟩), .pointer (some ⟨B2, 0, none⟩)] w fun e w' => e = .returned (.bool (decide (n < rd l i))) ∧ ∃ nd, w' = w.drewN nd := by
  have c1 : w.cell? ⟨B1, 0, none⟩ = some (.slice A l.length c) := (blk_cell hT 0).trans rfl
  have c2 : w.cell? ⟨B2, 0, none⟩ = some (.int .u64 n) := (blk_cell hN 0).trans rfl
  have p0 : 0 ≤ (i : Int) := by omega
  have q0 : (i : Int) < (l.length : Int) := by omega
  obtain ⟨ad, e, hx⟩ := Kd.at_int hC (i : Int) p0 q0
  cases e
  rw [Int.toNat_natCast] at hx
  have HI := Aside0.mk hi
  clear hT hN hC hi
  generalize rd l (i : Int) = y at *
  go_enter Try.func165, Try.ntmps165
  go_wp2
  go_quiet (fail)
  go_wp2
  go_ret
  exact ⟨rfl, _, rfl⟩
set_option maxHeartbeats 4000000 in
set_option maxRecDepth 100000 in
theorem search_calls (g : Nat) (lb : Array Value) (eg : ∀ args w, (callFunc g args).run Try.prog w = .ok (.enter g args) w) (n : Nat) (hn : n ≤ 4096) (p : Nat → Bool) (hmono : ∀ i j, i ≤ j → j < n → p i = true → p j = true) (w : World)
    (hp : ∀ W i, (∃ q, W = w.drewN q) → i < n → Calls Try.prog g (#[.int .i64 (i : Int)] ++ lb) W fun e W' => e = .returned (.bool (p i)) ∧ ∃ nd, W' = W.drewN nd) :
    Calls Try.prog 164 #[.int .i64 (n : Int), .func (.func g) #[] lb] w fun e w' => ∃ r : Nat, e = .returned (.int .i64 (r : Int)) ∧ r ≤ n ∧ (∀ i, i < r → p i = false) ∧ (∀ i, r ≤ i → i < n → p i = true) ∧ ∃ q, w' = w.drewN q := by
  have HP := Aside0.mk hp
  have HM := Aside0.mk hmono
  clear hp hmono
  go_enter Try.func164, Try.ntmps164
  go_wp2
  go_loopg [5, 6] n (fun gg v5 v6 wr => ∃ i j : Nat, v5 = .int .i64 (i : Int) ∧ v6 = .int .i64 (j : Int) ∧ i ≤ j ∧ j ≤ n ∧ j - i ≤ gg ∧ Aside0 (∀ k, k < i → p k = false) ∧ Aside0 (∀ k, j ≤ k → k < n → p k = true) ∧ Aside0 (∃ q, wr = w.drewN q))
  case atStart => exact ⟨0, n, rfl, rfl, Nat.zero_le _, Nat.le_refl _, by omega, ⟨fun k hk => absurd hk (Nat.not_lt_zero _)⟩, ⟨fun k h1 h2 => absurd h2 (by omega)⟩, ⟨⟨0, rfl⟩⟩⟩
  case round =>
    obtain ⟨i, j, rfl, rfl, hij, hjn, hg, H1, H2, HQ⟩ := hrel
    by_cases hlt : i < j
    · have hltb : decide (i < j) = true := decide_eq_true hlt
      have e1 : wrap64 ((i : Int) + (j : Int)) = (i : Int) + (j : Int) := IntWalk.wrap64_in _ (by omega)
      obtain ⟨h, hh⟩ : ∃ h : Nat, h = (i + j) / 2 := ⟨_, rfl⟩
      have hhe : ((i : Int) + (j : Int)) / 2 = (h : Int) := by omega
      have hcall := HP.out wr h HQ.out (by omega)
      have hwr : wrap64 ((h : Int) + 1) = ((h + 1 : Nat) : Int) := by rw [IntWalk.wrap64_in _ (by omega)]; rfl
      have b1 : h < n := by omega
      have b2 : i ≤ h := by omega
      have b3 : h < j := by omega
      have HB := Aside0.mk (And.intro b1 (And.intro b2 b3))
      have HHE := Aside0.mk hhe
      clear hh
      cases hq : p h with
      | true =>
        rw [hq] at hcall
        have HCALL := Aside0.mk hcall
        have HQ1 := Aside0.mk hq
        clear hcall hq
        go_wp2_with fail
        refine HCALL.out.mono ?_
        rintro e w' ⟨rfl, ⟨nd, rfl⟩⟩
        go_wp2
        go_roundg (gk - 1)
        case measure => omega
        case rel => exact ⟨i, h, rfl, by first | rfl | go_num, by omega, by omega, by omega, H1, ⟨fun k h1 h2 => HM.out h k h1 h2 HQ1.out⟩, ⟨by obtain ⟨q, rfl⟩ := HQ.out; exact ⟨_, World.drewN_drewN ..⟩⟩⟩
      | false =>
        rw [hq] at hcall
        have HCALL := Aside0.mk hcall
        have HQ1 := Aside0.mk hq
        clear hcall hq
        go_wp2_with fail
        refine HCALL.out.mono ?_
        rintro e w' ⟨rfl, ⟨nd, rfl⟩⟩
        go_wp2
        go_roundg (gk - 1)
        case measure => omega
        case rel => exact ⟨h + 1, j, by first | rfl | go_num | simp [hwr], rfl, by omega, by omega, by omega, ⟨fun k hk => by
          rcases Nat.lt_or_ge k (h + 1) with hk2 | hk2
          · cases hpk : p k with
            | false => rfl
            | true => have := HM.out k h (by omega) (by have := HB.out; omega) hpk; rw [HQ1.out] at this; cases this
          · omega⟩, H2, ⟨by obtain ⟨q, rfl⟩ := HQ.out; exact ⟨_, World.drewN_drewN ..⟩⟩⟩
    · have hltb : decide (i < j) = false := decide_eq_false hlt
      have HIJ := Aside0.mk (show i = j by omega)
      have HJN := Aside0.mk hjn
      clear hlt hij hjn hg
      go_wp2
      go_ret
      exact ⟨i, rfl, by have := HIJ.out; have := HJN.out; omega, H1.out, fun k h1 h2 => H2.out k (by have := HIJ.out; omega) h2, HQ.out⟩
def risesB (l : List Int) : Bool := (List.range (l.length - 1)).all fun i => decide (rd l i < rd l ((i : Int) + 1))
theorem rises_at {l : List Int} (h : risesB l = true) (i : Nat) (hi : i + 1 < l.length) : rd l i < rd l ((i : Int) + 1) := by
  unfold risesB at h
  exact of_decide_eq_true (List.all_eq_true.1 h i (List.mem_range.2 (by omega)))
theorem rises_le {l : List Int} (h : risesB l = true) : ∀ (d i : Nat), i + d < l.length → rd l i ≤ rd l ((i + d : Nat) : Int) := by
  intro d
  induction d with
  | zero => intro i _; exact Int.le_refl _
  | succ d ih =>
    intro i hi
    have h1 := ih i (by omega)
    have h2 := rises_at h (i + d) (by omega)
    rw [show (((i + d : Nat) : Int) + 1) = ((i + (d + 1) : Nat) : Int) by omega] at h2
    omega
theorem at_tail {ad : Addr} (i : Nat) : ad.add (i + 1) = (⟨ad.block, ad.off + 1 + i, none⟩ : Addr) := by
  unfold Addr.add
  rw [if_neg (by omega)]
  simp <;> omega
theorem findIdx_rd (l : List Int) (p : Int → Bool) (r : Nat) (hr : r ≤ l.length) (h1 : ∀ i, i < r → p (rd l (i : Int)) = false) (h2 : ∀ i, r ≤ i → i < l.length → p (rd l (i : Int)) = true) : l.findIdx p = r := by
  have er : ∀ i (h : i < l.length), rd l (i : Int) = l[i] := fun i h => by unfold rd; simp [List.getD_eq_getElem?_getD, h]
  rcases Nat.lt_or_ge r l.length with hlt | hge
  · rw [List.findIdx_eq hlt]
    refine ⟨by have := h2 r (Nat.le_refl _) hlt; rwa [er r hlt] at this, fun j hj => ?_⟩
    have := h1 j hj
    rwa [er j (by omega)] at this
  · obtain rfl : r = l.length := by omega
    rw [List.findIdx_eq_length]
    intro x hx
    obtain ⟨i, hi, rfl⟩ := List.mem_iff_getElem.1 hx
    have := h1 i hi
    rwa [er i hi] at this
def pickOk (l : List Int) (n : Int) : Bool := decide (1 ≤ l.length) && decide (l.length ≤ 64) && decide (0 < rd l 0) && risesB l && decide (0 ≤ n)
def degree_Pick.f (l0 : List Int) (a1 : Int) : Option (Int × Int) := if pickOk l0 a1 = true then some ((l0.findIdx fun x => decide (a1 % rd l0 ((l0.length : Int) - 1) < x) : Nat) + 1, 0) else none
set_option maxHeartbeats 8000000 in
set_option maxRecDepth 100000 in
theorem degree_Pick.calls (A0 : Option Addr) (c0 : Nat) (l0 : List Int) (a1 : Int) (r1 : Int) (r2 : Int) (w : World) (hr0 : Kd.C (Kd.int .u64) w A0 l0.length l0) (hc0 : l0.length ≤ c0) (h : degree_Pick.f l0 a1 = some (r1, r2)) :
    Calls Try.prog 136 #[.slice A0 l0.length c0, .int .u64 a1] w fun e w' => e = .returned (.tuple #[.int .i64 r1, .int .i64 r2]) ∧ Below w.heap.size w w' := by
  unfold degree_Pick.f at h
  by_cases hok : pickOk l0 a1 = true
  case neg => rw [if_neg hok] at h; cases h
  rw [if_pos hok] at h
  simp only [Option.some.injEq, Prod.mk.injEq] at h
  obtain ⟨rfl, rfl⟩ := h
  unfold pickOk at hok
  simp only [Bool.and_eq_true, decide_eq_true_eq] at hok
  obtain ⟨⟨⟨⟨hl1, hl2⟩, hz⟩, hrise⟩, hn0⟩ := hok
  have hlb : ((l0.length : Int) == 0) = false := beq_eq_false_iff_ne.mpr (by omega)
  have hgb : decide (64 < l0.length) = false := decide_eq_false (by omega)
  have hgb2 : decide ((l0.length : Int) > 64) = false := decide_eq_false (by omega)
  have hzb : (rd l0 0 == 0) = false := beq_eq_false_iff_ne.mpr (by omega)
  obtain ⟨ad, e, hx0⟩ := Kd.at_int hr0 0 (by omega) (by omega)
  cases e
  obtain ⟨w2, hw2⟩ : ∃ w2, w2 = ((w.alloc (.cells #[.slice (some ad) l0.length c0] 88)).alloc (.cells #[.int .u64 a1] 25)) := ⟨_, rfl⟩
  have B0 : w2.heap[w.heap.size]? = some (.cells #[.slice (some ad) l0.length c0] 88 (0, 0)) := by
    rw [hw2]; refine blk_alloc ?_ _; exact World.alloc_heap_new w _
  have B1 : w2.heap[w.heap.size + 1]? = some (.cells #[.int .u64 a1] 25 (0, 0)) := by
    rw [hw2]
    have := World.alloc_heap_new (w.alloc (.cells #[.slice (some ad) l0.length c0] 88)) (.cells #[.int .u64 a1] 25)
    rwa [World.size_alloc] at this
  have HB2 : Below w.heap.size w w2 := by rw [hw2]; exact below_alloc (below_alloc (Below.refl _ _) _) _
  have hC2 : Kd.C (Kd.int .u64) w2 (some ad) l0.length l0 := Kd.C_below hr0 HB2
  obtain ⟨ad', e', hx1⟩ := Kd.at_int hC2 0 (by omega) (by omega)
  cases e'
  have hxx : w2.cell? ad = some (.int .u64 (rd l0 0)) := hx1
  rw [hw2] at hxx
  have hl0 : 0 < l0.length := hl1
  clear hx0 hx1
  have HC2 := Aside0.mk hC2
  have HBLK0 := Aside0.mk B0
  have HBLK1 := Aside0.mk B1
  have HBE := Aside0.mk HB2
  have HW2 := Aside0.mk hw2
  clear hC2 B0 B1 HB2 hw2
  have HC := Aside0.mk hr0
  have HRISE := Aside0.mk hrise
  have HL1 := Aside0.mk hl1
  have HL2 := Aside0.mk hl2
  have HZ := Aside0.mk hz
  have HN := Aside0.mk hn0
  have HC0 := Aside0.mk hc0
  clear hr0 hrise hl1 hl2 hz hn0 hc0
  go_enter Try.func136, Try.ntmps136
  go_wp2
  · have hc1 : c0 = 1 := by assumption
    subst hc1
    rw [← HW2.out]
    obtain ⟨m, hm⟩ : ∃ m, l0.length - 1 = m := ⟨_, rfl⟩
    rw [hm]
    have HM := Aside0.mk hm
    clear hxx hl0 hlb hgb hgb2 hzb hm
    go_loopg [25] m (fun gg v25 wr => ∃ i : Nat, v25 = .int .i64 (i : Int) ∧ i ≤ m ∧ m - i ≤ gg ∧ wr = w2)
    case atStart => exact ⟨0, rfl, Nat.zero_le _, by omega, rfl⟩
    case round =>
      obtain ⟨i, rfl, him, hg, rfl⟩ := hrel
      by_cases hlt : i < m
      · (exfalso; have z1:=HM.out; have z2:=HC0.out; omega)
        all_goals
          have hltb : decide (i < m) = true := decide_eq_true hlt
          have hil : i < l0.length := by have := HM.out; omega
          have hil2 : i + 1 < l0.length := by have := HM.out; omega
          obtain ⟨_, e1, hxi⟩ := Kd.at_int HC2.out (i : Int) (by omega) (by omega)
          cases e1
          obtain ⟨_, e2, hxj⟩ := Kd.at_int HC2.out ((i + 1 : Nat) : Int) (by omega) (by omega)
          cases e2
          rw [Int.toNat_natCast] at hxi hxj
          rw [at_tail] at hxj
          have hb0 : wr.cell? ⟨w.heap.size, 0, none⟩ = some (.slice (some ad) l0.length 1) := (blk_cell HBLK0.out 0).trans rfl
          have hge : decide (rd l0 (i : Int) ≥ rd l0 ((i + 1 : Nat) : Int)) = false := decide_eq_false (by have := rises_at HRISE.out i hil2; rw [Int.natCast_add]; show ¬ _; simp; exact this)
          have hwr : wrap64 ((i : Int) + 1) = ((i + 1 : Nat) : Int) := by rw [IntWalk.wrap64_in _ (by have := HL2.out; omega)]; rfl
          have HLT := Aside0.mk hlt
          have HG := Aside0.mk hg
          generalize rd l0 (i : Int) = y1 at *
          generalize rd l0 ((i + 1 : Nat) : Int) = y2 at *
          clear hg him hil2
          go_wp2
          go_roundg (gk - 1)
          case measure => have := HG.out; have := HLT.out; omega
          case rel => exact ⟨i + 1, by first | rfl | go_num, by have := HLT.out; omega, by have := HG.out; have := HLT.out; omega, rfl⟩
      · have hltb : decide (i < m) = false := decide_eq_false hlt
        clear hlt him hg
        go_wp2
        have hb0 : wr.cell? ⟨w.heap.size, 0, none⟩ = some (.slice (some ad) l0.length 1) := (blk_cell HBLK0.out 0).trans rfl
        have hb1 : wr.cell? ⟨w.heap.size + 1, 0, none⟩ = some (.int .u64 a1) := (blk_cell HBLK1.out 0).trans rfl
        have hy1 := blk_frozen HBLK1.out 0
        have hml : m < l0.length := by have := HM.out; have := HL1.out; omega
        have hwm : wrap64 ((l0.length : Int) - 1) = (m : Int) := by have z1 := HM.out; have z2 := HL1.out; rw [IntWalk.wrap64_in _ (by have := HL2.out; omega)]; omega
        obtain ⟨_, e1, hxi⟩ := Kd.at_int HC2.out (m : Int) (by omega) (by omega)
        cases e1
        rw [Int.toNat_natCast] at hxi
        have hzp : 0 < rd l0 (m : Int) := by have := HZ.out; have := rises_le HRISE.out m 0 (by omega); rw [Nat.zero_add] at this; have e0 : rd l0 ((0 : Nat) : Int) = rd l0 0 := rfl; omega
        have HZP := Aside0.mk hzp
        have hzn : (rd l0 (m : Int) == 0) = false := beq_eq_false_iff_ne.mpr (by omega)
        have hLAST : rd l0 ((l0.length : Int) - 1) = rd l0 (m : Int) := by congr 1; have := HM.out; have := HL1.out; omega
        have HLAST := Aside0.mk hLAST
        clear hzp hLAST
        obtain ⟨z, hz⟩ : ∃ z, rd l0 (m : Int) = z := ⟨_, rfl⟩
        rw [hz] at HZP hzn hxi
        have HZZ := Aside0.mk hz
        have hzne : ¬ z = 0 := by have := HZP.out; omega
        have ht : Int.tmod a1 z = a1 % z := IntWalk.rem_in _ _ HN.out
        clear hz
        go_region
        obtain ⟨W9, hW9⟩ : ∃ W9, W9 = (wr.setCell ⟨w.heap.size + 1, 0, none⟩ (.int .u64 (a1 % z))).drew := ⟨_, rfl⟩
        rw [← hW9]
        have D0 : W9.heap[w.heap.size]? = some (.cells #[.slice (some ad) l0.length 1] 88 (0, 0)) := by rw [hW9]; exact blk_drew (blk_far HBLK0.out (by show w.heap.size ≠ w.heap.size + 1; omega) _)
        have D1 : W9.heap[w.heap.size + 1]? = some (.cells #[.int .u64 (a1 % z)] 25 (0, 0)) := by rw [hW9]; exact blk_drew (blk_put HBLK1.out 0 _ rfl)
        have DB : Below w.heap.size w W9 := by rw [hW9]; apply below_drew1; exact below_set HBE.out (by show w.heap.size ≤ w.heap.size + 1; omega)
        have DC : Kd.C (Kd.int .u64) W9 (some ad) l0.length l0 := Kd.C_below HC.out DB
        have hp : ∀ W i, (∃ q, W = W9.drewN q) → i < l0.length → Calls Try.prog 165 (#[.int .i64 (i : Int)] ++ #[.pointer (some ⟨w.heap.size, 0, none⟩), .pointer (some ⟨w.heap.size + 1, 0, none⟩)]) W fun e W' => e = .returned (.bool (decide (a1 % z < rd l0 (i : Int)))) ∧ ∃ nd, W' = W.drewN nd := by
          rintro W i ⟨q, rfl⟩ hi
          exact pick1_calls w.heap.size (w.heap.size + 1) (some ad) 1 l0 (a1 % z) i _ hi (blk_drewN D0 q) (blk_drewN D1 q) (Kd.C_drewN DC q)
        have hmono : ∀ i j, i ≤ j → j < l0.length → decide (a1 % z < rd l0 (i : Int)) = true → decide (a1 % z < rd l0 (j : Int)) = true := by
          intro i j hij hj h1
          have h2 := rises_le HRISE.out (j - i) i (by omega)
          rw [show i + (j - i) = j by omega] at h2
          have h3 := of_decide_eq_true h1
          exact decide_eq_true (by omega)
        have HS := search_calls 165 #[.pointer (some ⟨w.heap.size, 0, none⟩), .pointer (some ⟨w.heap.size + 1, 0, none⟩)] (enters_of Try.func165 (by kernel_rfl) rfl) l0.length (by have := HL2.out; omega) (fun i => decide (a1 % z < rd l0 (i : Int))) hmono W9 hp
        have HSS := Aside0.mk HS
        have hc9 : W9.cell? ⟨w.heap.size, 0, none⟩ = some (.slice (some ad) l0.length 1) := (blk_cell D0 0).trans rfl
        have HDB := Aside0.mk DB
        clear HS hmono hp DC DB D0 D1 hb0 hb1 hy1 hxi ht hzne hzn hwm hml
        clear hW9
        go_wp2_with fail
        refine HSS.out.mono ?_
        rintro e w' ⟨r, rfl, hr, hlo, hhi, ⟨q, rfl⟩⟩
        have hfi : l0.findIdx (fun x => decide (a1 % z < x)) = r := findIdx_rd _ _ _ hr hlo hhi
        have hw1 : wrap64 (1 + (r : Int)) = (r : Int) + 1 := by rw [IntWalk.wrap64_in _ (by have := HL2.out; omega)]; omega
        have HFI := Aside0.mk hfi
        clear hr hlo hhi hfi
        go_wp2
        go_ret2
        refine ⟨?_, ?_⟩
        · rw [HLAST.out, HZZ.out, HFI.out]; rw [hw1]; rfl
        · exact pw_below_drewN HDB.out _
  · skip
    rw [← HW2.out]
    obtain ⟨m, hm⟩ : ∃ m, l0.length - 1 = m := ⟨_, rfl⟩
    rw [hm]
    have HM := Aside0.mk hm
    clear hxx hl0 hlb hgb hgb2 hzb hm
    go_loopg [25] m (fun gg v25 wr => ∃ i : Nat, v25 = .int .i64 (i : Int) ∧ i ≤ m ∧ m - i ≤ gg ∧ wr = w2)
    case atStart => exact ⟨0, rfl, Nat.zero_le _, by omega, rfl⟩
    case round =>
      obtain ⟨i, rfl, him, hg, rfl⟩ := hrel
      by_cases hlt : i < m
      · skip
        all_goals
          have hltb : decide (i < m) = true := decide_eq_true hlt
          have hil : i < l0.length := by have := HM.out; omega
          have hil2 : i + 1 < l0.length := by have := HM.out; omega
          obtain ⟨_, e1, hxi⟩ := Kd.at_int HC2.out (i : Int) (by omega) (by omega)
          cases e1
          obtain ⟨_, e2, hxj⟩ := Kd.at_int HC2.out ((i + 1 : Nat) : Int) (by omega) (by omega)
          cases e2
          rw [Int.toNat_natCast] at hxi hxj
          rw [at_tail] at hxj
          have hb0 : wr.cell? ⟨w.heap.size, 0, none⟩ = some (.slice (some ad) l0.length c0) := (blk_cell HBLK0.out 0).trans rfl
          have hge : decide (rd l0 (i : Int) ≥ rd l0 ((i + 1 : Nat) : Int)) = false := decide_eq_false (by have := rises_at HRISE.out i hil2; rw [Int.natCast_add]; show ¬ _; simp; exact this)
          have hwr : wrap64 ((i : Int) + 1) = ((i + 1 : Nat) : Int) := by rw [IntWalk.wrap64_in _ (by have := HL2.out; omega)]; rfl
          have HLT := Aside0.mk hlt
          have HG := Aside0.mk hg
          generalize rd l0 (i : Int) = y1 at *
          generalize rd l0 ((i + 1 : Nat) : Int) = y2 at *
          clear hg him hil2
          go_wp2
          go_roundg (gk - 1)
          case measure => have := HG.out; have := HLT.out; omega
          case rel => exact ⟨i + 1, by first | rfl | go_num, by have := HLT.out; omega, by have := HG.out; have := HLT.out; omega, rfl⟩
      · have hltb : decide (i < m) = false := decide_eq_false hlt
        clear hlt him hg
        go_wp2
        have hb0 : wr.cell? ⟨w.heap.size, 0, none⟩ = some (.slice (some ad) l0.length c0) := (blk_cell HBLK0.out 0).trans rfl
        have hb1 : wr.cell? ⟨w.heap.size + 1, 0, none⟩ = some (.int .u64 a1) := (blk_cell HBLK1.out 0).trans rfl
        have hy1 := blk_frozen HBLK1.out 0
        have hml : m < l0.length := by have := HM.out; have := HL1.out; omega
        have hwm : wrap64 ((l0.length : Int) - 1) = (m : Int) := by have z1 := HM.out; have z2 := HL1.out; rw [IntWalk.wrap64_in _ (by have := HL2.out; omega)]; omega
        obtain ⟨_, e1, hxi⟩ := Kd.at_int HC2.out (m : Int) (by omega) (by omega)
        cases e1
        rw [Int.toNat_natCast] at hxi
        have hzp : 0 < rd l0 (m : Int) := by have := HZ.out; have := rises_le HRISE.out m 0 (by omega); rw [Nat.zero_add] at this; have e0 : rd l0 ((0 : Nat) : Int) = rd l0 0 := rfl; omega
        have HZP := Aside0.mk hzp
        have hzn : (rd l0 (m : Int) == 0) = false := beq_eq_false_iff_ne.mpr (by omega)
        have hLAST : rd l0 ((l0.length : Int) - 1) = rd l0 (m : Int) := by congr 1; have := HM.out; have := HL1.out; omega
        have HLAST := Aside0.mk hLAST
        clear hzp hLAST
        obtain ⟨z, hz⟩ : ∃ z, rd l0 (m : Int) = z := ⟨_, rfl⟩
        rw [hz] at HZP hzn hxi
        have HZZ := Aside0.mk hz
        have hzne : ¬ z = 0 := by have := HZP.out; omega
        have ht : Int.tmod a1 z = a1 % z := IntWalk.rem_in _ _ HN.out
        clear hz
        go_region
        obtain ⟨W9, hW9⟩ : ∃ W9, W9 = (wr.setCell ⟨w.heap.size + 1, 0, none⟩ (.int .u64 (a1 % z))).drew := ⟨_, rfl⟩
        rw [← hW9]
        have D0 : W9.heap[w.heap.size]? = some (.cells #[.slice (some ad) l0.length c0] 88 (0, 0)) := by rw [hW9]; exact blk_drew (blk_far HBLK0.out (by show w.heap.size ≠ w.heap.size + 1; omega) _)
        have D1 : W9.heap[w.heap.size + 1]? = some (.cells #[.int .u64 (a1 % z)] 25 (0, 0)) := by rw [hW9]; exact blk_drew (blk_put HBLK1.out 0 _ rfl)
        have DB : Below w.heap.size w W9 := by rw [hW9]; apply below_drew1; exact below_set HBE.out (by show w.heap.size ≤ w.heap.size + 1; omega)
        have DC : Kd.C (Kd.int .u64) W9 (some ad) l0.length l0 := Kd.C_below HC.out DB
        have hp : ∀ W i, (∃ q, W = W9.drewN q) → i < l0.length → Calls Try.prog 165 (#[.int .i64 (i : Int)] ++ #[.pointer (some ⟨w.heap.size, 0, none⟩), .pointer (some ⟨w.heap.size + 1, 0, none⟩)]) W fun e W' => e = .returned (.bool (decide (a1 % z < rd l0 (i : Int)))) ∧ ∃ nd, W' = W.drewN nd := by
          rintro W i ⟨q, rfl⟩ hi
          exact pick1_calls w.heap.size (w.heap.size + 1) (some ad) c0 l0 (a1 % z) i _ hi (blk_drewN D0 q) (blk_drewN D1 q) (Kd.C_drewN DC q)
        have hmono : ∀ i j, i ≤ j → j < l0.length → decide (a1 % z < rd l0 (i : Int)) = true → decide (a1 % z < rd l0 (j : Int)) = true := by
          intro i j hij hj h1
          have h2 := rises_le HRISE.out (j - i) i (by omega)
          rw [show i + (j - i) = j by omega] at h2
          have h3 := of_decide_eq_true h1
          exact decide_eq_true (by omega)
        have HS := search_calls 165 #[.pointer (some ⟨w.heap.size, 0, none⟩), .pointer (some ⟨w.heap.size + 1, 0, none⟩)] (enters_of Try.func165 (by kernel_rfl) rfl) l0.length (by have := HL2.out; omega) (fun i => decide (a1 % z < rd l0 (i : Int))) hmono W9 hp
        have HSS := Aside0.mk HS
        have hc9 : W9.cell? ⟨w.heap.size, 0, none⟩ = some (.slice (some ad) l0.length c0) := (blk_cell D0 0).trans rfl
        have HDB := Aside0.mk DB
        clear HS hmono hp DC DB D0 D1 hb0 hb1 hy1 hxi ht hzne hzn hwm hml
        clear hW9
        go_wp2_with fail
        refine HSS.out.mono ?_
        rintro e w' ⟨r, rfl, hr, hlo, hhi, ⟨q, rfl⟩⟩
        have hfi : l0.findIdx (fun x => decide (a1 % z < x)) = r := findIdx_rd _ _ _ hr hlo hhi
        have hw1 : wrap64 (1 + (r : Int)) = (r : Int) + 1 := by rw [IntWalk.wrap64_in _ (by have := HL2.out; omega)]; omega
        have HFI := Aside0.mk hfi
        clear hr hlo hhi hfi
        go_wp2
        go_ret2
        refine ⟨?_, ?_⟩
        · rw [HLAST.out, HZZ.out, HFI.out]; rw [hw1]; rfl
        · exact pw_below_drewN HDB.out _
end Go.Proofs.Ytaofanhdmfdlmaa.Print

/-
What is proved: bits.LeadingZeros64 (out of the shelf). Condition: the number is a uint64.
-/
namespace Go.Proofs.Ytaofanhdmfdlmaa.Print
open Go Go.RowKit Go.Proofs.YtaofanhdmfdlmaaW.PrintWords Go.Proofs.YtaofanhdmfdlmaaW.PrintLast Go.Proofs.YtaofanhdmfdlmaaW.PrintMore
set_option linter.unusedVariables false
def bits_LeadingZeros64.f (a0 : Int) : Option Int := if 0 ≤ a0 ∧ a0 ≤ 18446744073709551615 then some (64 - (Lib.bitLen a0.toNat : Int)) else none
theorem bits_LeadingZeros64.calls (a0 : Int) (r : Int) (w : World) (h : bits_LeadingZeros64.f a0 = some r) :
    Calls Try.prog 145 #[.int .u64 a0] w fun e w' => e = .returned (.int .i64 r) ∧ Drawn0 w w' := by
  unfold bits_LeadingZeros64.f at h
  by_cases hc : 0 ≤ a0 ∧ a0 ≤ 18446744073709551615
  case neg => rw [if_neg hc] at h; cases h
  rw [if_pos hc] at h
  obtain rfl := Option.some.inj h
  refine (Try.bits_LeadingZeros64 a0 w hc.1 hc.2).mono ?_
  rintro e w' ⟨rfl, rfl⟩
  exact ⟨rfl, Drawn0.refl _⟩
end Go.Proofs.Ytaofanhdmfdlmaa.Print

