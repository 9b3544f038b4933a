import Derived.Test.YtaofanhdmfdlmaaNrows10
import Derived.Test.YtaofanhdmfdlmaaNrows0
import Derived.RangeFuncRecord
import Derived.Shelf.SlIter.Collect
/-
What is proved: degree.Table: the weights' sums of degrees 1 to k, or refused. Condition: none (k from 1 to 64, or refused).
-/
namespace Go.Proofs.Ytaofanhdmfdlmaa.Print
open Go Go.RowKit Go.Proofs.YtaofanhdmfdlmaaW.PrintWords Go.Proofs.YtaofanhdmfdlmaaW.PrintLast Go.Proofs.YtaofanhdmfdlmaaW.PrintMore Go.Proofs.Ytaofanhdmfdlmaa.Rng
attribute [local go_sem] Oper.semAt_some
set_option linter.unusedVariables false
def sm (kk : Int) : Nat → Int
  | 0 => 0
  | n + 1 => sm kk n + wt kk ((n + 1 : Nat) : Int)
def tabL (kk : Int) (n : Nat) : List Int := (List.range n).map fun i => sm kk (i + 1)
theorem tabL_len (kk : Int) (n : Nat) : (tabL kk n).length = n := by unfold tabL; simp
theorem tabL_succ (kk : Int) (n : Nat) : tabL kk (n + 1) = tabL kk n ++ [sm kk (n + 1)] := by unfold tabL; rw [List.range_succ, List.map_append]; rfl
theorem wt_le (k d : Int) (h1 : 1 ≤ k) (h2 : k ≤ 64) (h3 : 1 ≤ d) (h4 : d ≤ k) : 0 ≤ wt k d ∧ wt k d ≤ 4398046511104 := by
  obtain ⟨_, t1, t2⟩ := rt_at k h1 h2
  have hb := bitLen_small (rt k) t1 t2
  obtain ⟨r1, r2, r3, r4, r5, r6⟩ := wt_range k d h1 h2 h3 h4 (rt k) t1 t2 (Lib.bitLen (rt k).toNat : Int) (by omega) (by omega)
  have hbase : 0 ≤ wtBase k d ∧ wtBase k d ≤ 4294967296 := by
    unfold wtBase
    split
    · have y1 : (1 : Int) * 1 ≤ d * (d - 1) := Int.mul_le_mul (by omega) (by omega) (by omega) (by omega)
      exact div_le_self' (by omega) (by omega)
    · exact ⟨r1, r2⟩
  unfold wt
  split
  · omega
  · split
    · omega
    · omega
theorem sm_le (k : Int) (h1 : 1 ≤ k) (h2 : k ≤ 64) : ∀ n : Nat, (n : Int) ≤ k → 0 ≤ sm k n ∧ sm k n ≤ 4398046511104 * n
  | 0, _ => by simp [sm]
  | n + 1, h => by
    have ih := sm_le k h1 h2 n (by omega)
    have := wt_le k ((n + 1 : Nat) : Int) h1 h2 (by omega) h
    unfold sm
    omega
def degree_Table.f (k : Int) : Option (List Int × Int) := if 1 ≤ k ∧ k ≤ 64 then some (tabL k k.toNat, 0) else some ([], 2)
theorem sized_at (k : Int) : degree_sized.f k = some (decide (1 ≤ k ∧ k ≤ 64)) := by
  unfold degree_sized.f
  by_cases h : k ≥ 1
  · rw [if_pos h]; congr 1; exact decide_eq_decide.mpr (by omega)
  · rw [if_neg h, decide_eq_false (by omega)]
theorem weights_calls (k : Int) (w : World) : Calls Try.prog 162 #[.int .i64 k] w fun e w' =>
    e = .returned (.func (.func 195) #[] #[.pointer (some ⟨w.heap.size, 0, none⟩)]) ∧ w' = w.alloc (.cells #[.int .i64 k] 3) := by
  go_enter Try.func162, Try.ntmps162
  go_wp2
  go_ret
  exact ⟨rfl, rfl⟩
/-- Between two rounds, ahead of degree d: the box holds the sums so far, the number is their last. -/
def TabI (kk : Int) (w : World) (d : Nat) (W : World) : Prop :=
  1 ≤ d ∧ (d : Int) ≤ kk + 1 ∧ ∃ v, W.heap[w.heap.size]? = some (.cells #[v] 88 (0, 0)) ∧ W.heap[w.heap.size + 1]? = some (.cells #[.int .u64 (sm kk (d - 1))] 25 (0, 0)) ∧
    W.ownsRow (w.heap.size + 2) 25 1 v (d - 1) ((tabL kk (d - 1)).map (Value.int .u64)) ∧ Below w.heap.size w W
theorem tabI_fr {kk : Int} {w w2 : World} {i : Nat} {A B : World} (h : TabI kk w i A) (h2 : w.heap.size + 1 < w2.heap.size) (hf : Fr (fun _ => False) w2.heap.size A B) : TabI kk w i B := by
  obtain ⟨h1, hi, v, hv, hs, hrow, hb⟩ := h
  refine ⟨h1, hi, v, hf.blk hv id (by omega), hf.blk hs id h2, own_move hrow fun k hk => ?_, hf.below hb (Nat.le_refl _) (fun b h => h.elim) (by omega)⟩
  obtain ⟨cells, hc⟩ := own_typed hrow k hk
  exact hf.block k (Array.getElem?_eq_some_iff.1 hc).1 id (.inr ⟨_, hc, rfl⟩)
theorem ownBlock_neT {v : Value} {k : Nat} (h : v.ownBlock = none ∨ v.ownBlock ≠ some k) : some k ≠ v.ownBlock := by
  rcases h with h | h
  · rw [h]; simp
  · exact fun e => h e.symm
set_option maxHeartbeats 8000000 in
set_option maxRecDepth 100000 in
theorem degree_Table.calls (a0 : Int) (r1 : List Int) (r2 : Int) (w : World) (h : degree_Table.f a0 = some (r1, r2)) :
    Calls Try.prog 133 #[.int .i64 a0] w fun e w' => ∃ v0_ : Value, e = .returned (.tuple #[v0_, .int .i64 r2]) ∧ Kd.R (Kd.int .u64) 25 w' w.heap.size (fun _ => True) v0_ r1 ∧ Below w.heap.size w w' := by
  have HS := Aside0.mk (sized_at a0)
  obtain ⟨i0, hi0, hz0, hz1, hz2⟩ := info_parts info25
  have HI0 := Aside0.mk hi0
  clear hi0
  refine callsIn_wide.1 (callsIn_of_wp_marks (n := 6) Try.func133 rfl trivial ?_ rfl)
  simp only [Try.ntmps133, List.size_toArray, List.length_cons, List.length_nil, Nat.reduceAdd, Nat.reduceSub, Array.replicate_succ, Array.replicate_zero, List.push_toArray, List.append_toArray, List.nil_append, List.cons_append]
  by_cases hk : 1 ≤ a0 ∧ a0 ≤ 64
  case neg =>
    have hkb : decide (1 ≤ a0 ∧ a0 ≤ 64) = false := decide_eq_false hk
    unfold degree_Table.f at h
    rw [if_neg hk] at h
    simp only [Option.some.injEq, Prod.mk.injEq] at h
    obtain ⟨rfl, rfl⟩ := h
    rw [hkb] at HS
    clear hk hkb
    gi_wp2_with fail
    refine ⟨trivial, ?_⟩
    refine callsIn_wide.2 ((degree_sized.calls a0 _ _ HS.out).mono ?_)
    rintro e w' ⟨rfl, ⟨nd, rfl⟩⟩
    gi_wp2
    refine ⟨_, results_tmp2 rfl _ _ _, ?_⟩
    exact ⟨_, rfl, Kd.R_nil _ _ _ _ _, pw_below_drewN (Below.refl _ _) _⟩
  case pos =>
    have hkb : decide (1 ≤ a0 ∧ a0 ≤ 64) = true := decide_eq_true hk
    unfold degree_Table.f at h
    rw [if_pos hk] at h
    simp only [Option.some.injEq, Prod.mk.injEq] at h
    obtain ⟨rfl, rfl⟩ := h
    rw [hkb] at HS
    have HK := Aside0.mk hk
    clear hk hkb
    gi_wp2_with fail
    refine ⟨trivial, ?_⟩
    refine callsIn_wide.2 ((degree_sized.calls a0 _ _ HS.out).mono ?_)
    rintro e w' ⟨rfl, ⟨nd, rfl⟩⟩
    gi_wp2_with fail
    refine ⟨trivial, ?_⟩
    refine callsIn_wide.2 ((weights_calls a0 _).mono ?_)
    rintro e w2 ⟨rfl, hw2⟩
    simp only [World.size_alloc]
    have hs2 : w2.heap.size = w.heap.size + 3 := by rw [hw2]; simp
    have hv2 : w2.heap[w.heap.size]? = some (.cells #[.slice none 0 0] 88 (0, 0)) := by rw [hw2]; refine blk_alloc ?_ _; refine blk_alloc ?_ _; exact World.alloc_heap_new (w.drewN nd) _
    have hs1 : w2.heap[w.heap.size + 1]? = some (.cells #[.int .u64 0] 25 (0, 0)) := by
      rw [hw2]; refine blk_alloc ?_ _
      have := World.alloc_heap_new ((w.drewN nd).alloc (.cells #[.slice none 0 0] 88)) (.cells #[.int .u64 0] 25)
      rwa [World.size_alloc] at this
    have hk2 : w2.heap[w.heap.size + 2]? = some (.cells #[.int .i64 a0] 3 (0, 0)) := by
      rw [hw2]
      have := World.alloc_heap_new (((w.drewN nd).alloc (.cells #[.slice none 0 0] 88)).alloc (.cells #[.int .u64 0] 25)) (.cells #[.int .i64 a0] 3)
      rwa [World.size_alloc, World.size_alloc] at this
    have hb2 : Below w.heap.size w w2 := by rw [hw2]; exact below_alloc (below_alloc (below_alloc (pw_below_drewN (Below.refl _ _) nd) _) _) _
    have hi1 : TabI a0 w 1 w2 := ⟨by omega, by have := HK.out; omega, _, hv2, hs1, by simpa [tabL] using World.ownsRow_nil w2 (w.heap.size + 2) 25 1, hb2⟩
    clear hw2
    have HS2 := Aside0.mk hs2
    have HI1 := Aside0.mk hi1
    have HK2 := Aside0.mk hk2
    clear hs2 hi1 hk2 hs1 hv2 hb2
    gi_wp2
    refine wpIn_rng (σ := Nat) (gf := 195) (lb := #[.pointer (some ⟨w.heap.size + 1 + 1, 0, none⟩)]) rfl (by decide) rfl trivial (enters_of Try.func195 (by kernel_rfl) rfl)
      (weights_iter 5 (w.heap.size + 1 + 1) (by omega) a0 HK.out.1 HK.out.2 w2 HK2.out) (fun _ => rfl)
      (fun b hb => hb.elim) (fun b hb => hb.elim)
      (TabI a0 w) (fun _ _ => False) (fun s B C h hf => tabI_fr h (by have := HS2.out; omega) hf) (fun _ _ _ h => h.elim) (fun _ _ _ => trivial)
      HI1.out ?round ?done (fun _ _ _ _ h => h.elim)
    case done =>
      rintro D i W hD hm ⟨h1, hi, v, hv, hs, hrow, hb⟩ hd
      obtain rfl : i = a0.toNat + 1 := by omega
      rw [Nat.add_sub_cancel] at hrow hs
      obtain ⟨hc3, hf3⟩ := cell_of_box_a hv
      have HRW := Aside0.mk hrow
      have HBW := Aside0.mk hb
      have HD := Aside0.mk hd
      have HDD := Aside0.mk hD
      clear hrow hb hv hd hD hm hi hs h1
      gi_wp2
      refine ⟨by simp, .inl ⟨_, _, rfl, run_takeDeferred HD.out, ?_⟩⟩
      have hrw2 : (W.putObj D (Obj.deferred none)).ownsRow (w.heap.size + 2) 25 1 v a0.toNat ((tabL a0 a0.toNat).map (Value.int .u64)) := own_move HRW.out fun k hk => by
        obtain ⟨cells, hcl⟩ := own_typed HRW.out k hk
        exact World.putObj_heap_other (fun e => by subst e; rw [HD.out] at hcl; cases hcl)
      refine ⟨_, results_tmp2 rfl _ _ _, v, rfl, Kd.R_lower (base := w.heap.size + 2) (Kd.R_of_own (enc := Value.int .u64) (h1 := fun _ => rfl) (by rw [tabL_len]; exact hrw2) (fun _ _ => trivial)) (by omega), ?_⟩
      exact HBW.out.grown (grownBy_putObj_a _ _ _) HBW.out.size (fun k e => by cases e; have := HDD.out; have := HS2.out; omega)
    case round =>
      intro lq d W hI hm K hK
      gi_wp2
      clear hI
      rintro W2 ⟨h1, hi, v, hv, hs, hrow, hb⟩
      obtain ⟨i, rfl⟩ : ∃ i, d = i + 1 := ⟨d - 1, by omega⟩
      rw [Nat.add_sub_cancel] at hrow hs
      obtain ⟨hc2, hf2⟩ := cell_of_box_a hv
      obtain ⟨hc1, hf1⟩ := cell_of_box_a hs
      have hBlt : w.heap.size < W2.heap.size := (Array.getElem?_eq_some_iff.1 hv).1
      have hSlt : w.heap.size + 1 < W2.heap.size := (Array.getElem?_eq_some_iff.1 hs).1
      have hne : v.ownBlock = none ∨ v.ownBlock ≠ some w.heap.size := ownsRow_ne_a hrow hv (fun cur e => by cases e)
      have hne1 : v.ownBlock ≠ some (w.heap.size + 1) := fun e => by have := (hrow.lt _ e).1; omega
      have hsm := sm_le a0 HK.out.1 HK.out.2 (i + 1) hm
      have hadd : IntKind.u64.wrap (sm a0 i + wt a0 ((i + 1 : Nat) : Int)) = sm a0 (i + 1) := by rw [u64_in (by have e : sm a0 (i + 1) = sm a0 i + wt a0 ((i + 1 : Nat) : Int) := rfl; have := HK.out; omega)]; rfl
      obtain ⟨s1, hs1⟩ : ∃ s1, sm a0 (i + 1) = s1 := ⟨_, rfl⟩
      rw [hs1] at hadd hsm
      have HS1 := Aside0.mk hs1
      clear hs1
      generalize sm a0 i = s0 at *
      generalize wt a0 ((i + 1 : Nat) : Int) = y at *
      obtain ⟨W3, hW3⟩ : ∃ W3, W3 = W2.setCell ⟨w.heap.size + 1, 0, none⟩ (.int .u64 s1) := ⟨_, rfl⟩
      have hsz3 : W3.heap.size = W2.heap.size := by rw [hW3]; simp [World.setCell]
      have hrow3 : W3.ownsRow (w.heap.size + 2) 25 1 v i ((tabL a0 i).map (Value.int .u64)) := own_move hrow fun k hk => by rw [hW3]; exact Below.heap_setCell _ _ _ _ (by show k ≠ w.heap.size + 1; rintro rfl; exact hne1 hk)
      have hv3 : W3.heap[w.heap.size]? = some (.cells #[v] 88 (0, 0)) := by rw [hW3]; exact (Below.heap_setCell _ _ _ _ (by show w.heap.size ≠ w.heap.size + 1; omega)).trans hv
      have hs3 : W3.heap[w.heap.size + 1]? = some (.cells #[.int .u64 s1] 25 (0, 0)) := by rw [hW3]; exact blk_put hs 0 _ rfl
      have hb3 : Below w.heap.size w W3 := by rw [hW3]; exact below_set hb (by show w.heap.size ≤ w.heap.size + 1; omega)
      have hko : KeepsOthers W2 W3 := by rw [hW3]; exact KeepsOthers.setCell _ _ _
      have HKO := Aside0.mk hko
      have hsz1 : i + 1 ≤ maxLen := by have := HK.out; unfold Go.maxLen; omega
      have hsz2 : (i + 1) * 8 ≤ 140737488355328 := by have := HK.out; omega
      have hone : ∀ u ∈ [Value.int .u64 s1], u.oneCell' = true := by simp [Value.oneCell']
      have hsz30 : w.heap.size + 2 ≤ (W3.alloc (.cells #[.int .u64 s1] 25)).heap.size := by rw [World.size_alloc]; omega
      have hnews : ∀ j u, [Value.int .u64 s1][j]? = some u → (W3.alloc (.cells #[.int .u64 s1] 25)).cell? ((⟨W2.heap.size, 0, none⟩ : Addr).add j) = some u := by rw [← hsz3]; exact cell_one_new _ _ _
      have HROW := Aside0.mk hrow
      have HROW3 := Aside0.mk hrow3
      have HNEWS := Aside0.mk hnews
      clear hrow hrow3 hnews
      gi_wp2_with (first
        | (gi_at_builtin; rw [← hW3]; refine wpListIn_append_own _ rfl _ _ 88 rfl (w.heap.size + 2) 25 i0 (.int .u64 0) 1 8 Try.underlying88 HI0.out hz0 hz1 hz2 rfl (by decide) _ _ _ rfl (HROW3.out.alloc _) ⟨W2.heap.size, 0, none⟩ 1 1 [.int .u64 s1] rfl rfl HNEWS.out hone hsz1 hsz2 hsz30 ?_; intro v' w3 hown' hg3 hnil3
           have hv4 : w3.heap[w.heap.size]? = some (.cells #[v] 88 (0, 0)) := (hg3.block _ (by rw [World.size_alloc]; omega) (ownBlock_neT hne)).trans ((Below.heap_alloc _ _ _ (by omega)).trans hv3)
           have hs4 : w3.heap[w.heap.size + 1]? = some (.cells #[.int .u64 s1] 25 (0, 0)) := (hg3.block _ (by rw [World.size_alloc]; omega) (fun e => hne1 e.symm)).trans ((Below.heap_alloc _ _ _ (by omega)).trans hs3)
           obtain ⟨hc4, hf4⟩ := cell_of_box_a hv4
           obtain ⟨g', cap', cur', rfl, hbase', hgb'⟩ : ∃ g' cap' cur', v' = .slice (some ⟨g', 0, none⟩) (i + 1) cap' ∧ w.heap.size + 2 ≤ g' ∧ w3.heap[g']? = some (.cells cur' 25 (0, 0)) := by
             rcases hown'.2 with ⟨_, h0⟩ | ⟨g', cap', cur', h1, h2, h3, _⟩
             · exact absurd h0 (by omega)
             · exact ⟨g', cap', cur', h1, h2, h3⟩
           go_frame)
        | gi_round_op_a)
      have hg3' : (W3.alloc (.cells #[Value.int .u64 s1] 25)).grownBy w3 v.ownBlock := hg3
      clear hg3 hnil3
      refine ⟨?_, ?_, i + 1 + 1, rfl, by omega, by omega, _, heap_setCell_box_a _ hv4, ?_, ?_, ?_⟩
      · refine HKO.out.trans (((KeepsOthers.alloc _ _).trans (KeepsOthers.of_grownBy hg3' fun j o hj ho => ?_)).trans (KeepsOthers.setCell _ _ _))
        obtain ⟨cells, hcl⟩ := own_typed (HROW3.out.alloc (.cells #[Value.int .u64 s1] 25)) j hj
        rw [ho] at hcl
        cases hcl
        rfl
      · exact ⟨Nat.le_trans (by rw [World.size_alloc]; omega) (Nat.le_trans hg3'.size (by simp [World.setCell])), fun b hb => hb.elim⟩
      · rw [Nat.add_sub_cancel, HS1.out]; exact (Below.heap_setCell _ _ _ _ (by show w.heap.size + 1 ≠ w.heap.size; omega)).trans hs4
      · rw [Nat.add_sub_cancel, tabL_succ, List.map_append, HS1.out]
        exact hown'.kept (grownBy_setCell0_a _ _ _) (.inr (fun e => by have e2 : g' = w.heap.size := by simpa [Value.ownBlock] using e
                                                                       omega))
      · exact ((hb3.alloc hb3.size _).grown hg3' (by rw [World.size_alloc]; omega) (fun k e => by have := (HROW3.out.lt k e).1; omega)).grown (grownBy_setCell0_a _ _ _) (by have := hg3'.size; rw [World.size_alloc] at this; omega) (fun k e => by cases e; exact Nat.le_refl _)
end Go.Proofs.Ytaofanhdmfdlmaa.Print

