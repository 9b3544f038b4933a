import Derived.Test.YtaofanhdmfdlmaaNrows0
import Derived.Test.YtaofanhdmfdlmaaNrows9
import Derived.Test.YtaofanhdmfdlmaaNrows2
import Derived.RegionIn
import Derived.Sort.LoopGhostIn
import Derived.OpenShut
import Derived.RegionTactic
import Derived.Test.YtaofanhdmfdlmaaNrows3
-- PRINTED by print.py (a twelfth state) out of the translation. Not trusted: Lean checks it.
namespace Go.Proofs.Ytaofanhdmfdlmaa.Print
open Go.RowKit Go.Proofs.YtaofanhdmfdlmaaW.PrintWords Go.Proofs.YtaofanhdmfdlmaaW.PrintLast Go.Proofs.YtaofanhdmfdlmaaW.PrintMore
attribute [local go_sem] max2_int min2_int max_two min_two max_three min_three max_four min_four   -- for this text's walks alone
set_option linter.unusedVariables false
set_option linter.unusedSimpArgs false

/-! ### downpourref08_Rows: function 61 -/
def downpourref08_Rows.l0 : Nat → Int → List Int → Int → Int → Int → List (S90) → Option (Int × (List (S90)))
  | 0, _, _, _, _, _, _ => none
  | k + 1, x0, x10, x11, x12, x895000, x895001 => if x12 < x11 then (if 0 ≤ x12 then (if x12 < (x10.length : Int) then ((downpourref08_Row.f k x0 (rd x10 x12)).bind fun bt896 => (if x895001.length < 4398046511104 then (downpourref08_Rows.l0 k x0 x10 x11 (wrap64 (x12 + 1)) x895000 (x895001 ++ [(⟨bt896.1, bt896.2⟩ : S90)])) else (none))) else (none)) else (none)) else (some (x895000, x895001))
def downpourref08_Rows.f (k : Nat) (a0 : Int) (l1 : List Int) : Option (Int × (List (S90))) := downpourref08_Rows.l0 k a0 l1 (l1.length : Int) 0 a0 ([] : List (S90))
def downpourref08_Rows.T5 : Bool × List (List Nat × List Nat) := (true, [([], []), ([0], [0]), ([], []), ([], []), ([2, 3], [2, 3]), ([4], [4]), ([1, 5, 4], [1, 5]), ([0, 1, 2, 3, 4, 5, 6], []), ([7, 6, 6, 0, 1, 2, 3, 4, 5, 6], [6, 7])])
def downpourref08_Rows.B5 : List Nat := [0, 1, 0, 0, 12, 28, 63, 127, 255]
theorem downpourref08_Rows.tab5 : rtab .any (opsOf Try.f61 5) = downpourref08_Rows.T5 := by kernel_rfl
theorem downpourref08_Rows.bits5 : waitsOk downpourref08_Rows.T5.2 downpourref08_Rows.B5 = true := by kernel_rfl
set_option maxHeartbeats 8000000 in
set_option maxRecDepth 100000 in
theorem downpourref08_Rows.calls (k : Nat) (a0 : Int) (A1 : Option Addr) (c1 : Nat) (l1 : List Int) (r1 : Int) (r2 : List (S90)) (w : World) (hr1 : Kd.C (Kd.int .u64) w A1 l1.length l1) (hc1 : l1.length ≤ c1) (h : downpourref08_Rows.f k a0 l1 = some (r1, r2)) :
    Calls Try.prog 61 #[.int .i64 a0, .slice A1 l1.length c1] w fun e w' => ∃ v1_ : Value, e = .returned (.agg #[.int .i64 r1, v1_]) ∧ Kd.S k90 90 w' w.heap.size (fun _ => True) v1_ r2 ∧ Below w.heap.size w w' := by
  have hu99 := Try.underlying99
  have HR1 := Aside0.mk hr1
  have HC1 := Aside0.mk hc1
  clear hr1 hc1
  have HB := Aside0.mk (Below.refl w.heap.size w)
  have H : (downpourref08_Rows.l0 k a0 l1 (l1.length : Int) 0 a0 ([] : List (S90))) = some (r1, r2) := h
  clear h
  have H' := Aside0.mk H
  clear H
  go_enter Try.func61, Try.ntmps61
  go_wp2_with (first | ((with_reducible refine gate_dst (N := 4) rfl ?_); refine box_event ?hg (N := 4) ?hd (cs := #[.int .i64 0, .slice none 0 0]) (t := 99) ?hr ?_; (case hd => rfl); (case hg => rfl); (case hr => first | (go_simp; done) | (go_simp; rfl)); intro gb893 hg w3 hbox hb; have n0_ := Aside0.mk (below_step (by repeat (first | (with_reducible first | exact HB.out | apply below_alloc | apply pw_below_drewN | apply below_drew1) | exact HB.out)) hb); have n1_ := Aside0.mk (hbox); have n2_ := Aside0.mk ((by rw [hg]; exact (below_size (by repeat (first | (with_reducible first | exact HB.out | apply below_alloc | apply pw_below_drewN | apply below_drew1) | exact HB.out))) : w.heap.size ≤ gb893)); have n3_ := Aside0.mk ((by rw [hg]; exact (below_size (by repeat (first | (with_reducible first | exact HB.out | apply below_alloc | apply pw_below_drewN | apply below_drew1) | exact HB.out))) : w.heap.size ≤ gb893)); clear HB; have HB := n0_; have BK893 := n1_; have GW893 := n2_; have GE893 := n3_; clear n0_ n1_ n2_ n3_; clear hb hbox hg) | ((with_reducible refine gate_dst (N := 5) rfl ?_); refine box_event ?hg (N := 5) ?hd (cs := #[.int .i64 0, .slice none 0 0]) (t := 99) ?hr ?_; (case hd => rfl); (case hg => rfl); (case hr => first | (go_simp; done) | (go_simp; rfl)); intro gb894 hg w4 hbox hb; have n0_ := Aside0.mk (blk_below (g := gb893) (o := .cells #[.int .i64 0, .slice none 0 0] 99 (0, 0)) (by (with_reducible repeat (first | refine blk_drewN ?_ _ | refine blk_drew ?_ | refine blk_alloc ?_ _)); exact BK893.out) hb); have n1_ := Aside0.mk (below_step (by repeat (first | (with_reducible first | exact HB.out | apply below_alloc | apply pw_below_drewN | apply below_drew1 | refine below_set ?_ GE893.out) | exact HB.out)) hb); have n2_ := Aside0.mk (hbox); have n3_ := Aside0.mk ((by rw [hg]; exact (below_size (by repeat (first | (with_reducible first | exact HB.out | apply below_alloc | apply pw_below_drewN | apply below_drew1 | refine below_set ?_ GE893.out) | exact HB.out))) : w.heap.size ≤ gb894)); have n4_ := Aside0.mk ((by rw [hg]; exact (below_size (by repeat (first | (with_reducible first | exact HB.out | apply below_alloc | apply pw_below_drewN | apply below_drew1 | refine below_set ?_ GE893.out) | exact HB.out))) : w.heap.size ≤ gb894)); have n5_ := Aside0.mk ((by rw [hg]; exact Nat.ne_of_lt (blk_lt (g := gb893) (o := .cells #[.int .i64 0, .slice none 0 0] 99 (0, 0)) (by (with_reducible repeat (first | refine blk_drewN ?_ _ | refine blk_drew ?_ | refine blk_alloc ?_ _)); exact BK893.out)) : gb893 ≠ gb894)); have n6_ := Aside0.mk ((by rw [hg]; exact Nat.ne_of_gt (blk_lt (g := gb893) (o := .cells #[.int .i64 0, .slice none 0 0] 99 (0, 0)) (by (with_reducible repeat (first | refine blk_drewN ?_ _ | refine blk_drew ?_ | refine blk_alloc ?_ _)); exact BK893.out)) : gb894 ≠ gb893)); clear BK893; clear HB; have BK893 := n0_; have HB := n1_; have BK894 := n2_; have GW894 := n3_; have GE894 := n4_; have NB893_894 := n5_; have NB894_893 := n6_; clear n0_ n1_ n2_ n3_ n4_ n5_ n6_; clear hb hbox hg; have hnb5 := NB894_893.out; have hnc5 := NB893_894.out; have hcz6_0 : w4.cell? ⟨gb894, 0, none⟩ = some (.int .i64 0) := (blk_cell BK894.out 0).trans rfl; have hcz6_1 : w4.cell? ⟨gb894, 1, none⟩ = some (.slice none 0 0) := (blk_cell BK894.out 1).trans rfl; have hfz6_0 := blk_frozen BK894.out 0; have hfz6_1 := blk_frozen BK894.out 1))
  go_loopg [12] k (fun kq v12 w' => ∃ (x12_1 : Int) (x895001_1 : List (S90)) (u895001 : Value), v12 = .int .i64 x12_1 ∧ Aside0 (downpourref08_Rows.l0 kq a0 l1 (l1.length : Int) x12_1 a0 x895001_1 = some (r1, r2)) ∧ Aside0 (kq ≤ k) ∧ Aside0 (Kd.S k90 90 w' w.heap.size (fun _ => True) u895001 x895001_1) ∧ Aside0 (w'.heap[gb893]? = some (.cells #[.int .i64 0, (.slice none 0 0)] 99 (0, 0))) ∧ Aside0 (w'.heap[gb894]? = some (.cells #[.int .i64 a0, u895001] 99 (0, 0))) ∧ Aside0 (Below w.heap.size w w'))
  case atStart => exact ⟨(0), (([] : List (S90))), (.slice none 0 0), (by first | rfl | (simp; done) | (simp [*]; done)), H', ⟨Nat.le_refl _⟩, ⟨by first | exact Kd.S_nil _ _ _ _ _ | exact Kd.N_nil _ _ _ _ _ | exact Kd.V_nil _ _ _ _ _ | exact Kd.Q_nil _ _ _ _ _ | exact Kd.R_nil _ _ _ _ _⟩, ⟨by (with_reducible repeat (first | refine blk_drewN ?_ _ | refine blk_drew ?_ | refine blk_alloc ?_ _)); refine blk_far ?_ NB893_894.out _; (with_reducible repeat (first | refine blk_drewN ?_ _ | refine blk_drew ?_ | refine blk_alloc ?_ _)); refine blk_far ?_ NB893_894.out _; (with_reducible repeat (first | refine blk_drewN ?_ _ | refine blk_drew ?_ | refine blk_alloc ?_ _)); exact BK893.out⟩, ⟨by (with_reducible repeat (first | refine blk_drewN ?_ _ | refine blk_drew ?_ | refine blk_alloc ?_ _)); refine blk_put (cs := #[.int .i64 a0, .slice none 0 0]) ?_ 1 _ rfl; (with_reducible repeat (first | refine blk_drewN ?_ _ | refine blk_drew ?_ | refine blk_alloc ?_ _)); refine blk_put (cs := #[.int .i64 0, .slice none 0 0]) ?_ 0 _ rfl; (with_reducible repeat (first | refine blk_drewN ?_ _ | refine blk_drew ?_ | refine blk_alloc ?_ _)); exact BK894.out⟩, ⟨by repeat (first | (with_reducible first | exact HB.out | apply below_alloc | apply pw_below_drewN | apply below_drew1 | refine below_set ?_ GE893.out | refine below_set ?_ GE894.out) | exact HB.out)⟩⟩
  case round =>
    clear H'
    try clear c1
    try clear p2
    try clear c5
    try clear c6
    try clear hcz6_0
    try clear hcz6_1
    try clear hfz6_0
    try clear hfz6_1
    obtain ⟨x12_1, x895001_1, u895001, rfl, HA, HK1, HO_895001, BK893, BK894, HB⟩ := hrel
    cases gk with
    | zero => exact absurd HA.out (by simp [downpourref08_Rows.l0])
    | succ k1 =>
      have H := HA.out
      clear HA
      simp only [downpourref08_Rows.l0] at H
      by_cases c7 : x12_1 < (l1.length : Int)
      · rw [if_pos c7] at H
        have c7b0 : decide (x12_1 < (l1.length : Int)) = true := decide_eq_true c7
        clear c7
        by_cases c8 : 0 ≤ x12_1
        · rw [if_pos c8] at H
          have c8b0 : decide (0 ≤ x12_1) = true := decide_eq_true c8
          clear c8
          by_cases c9 : x12_1 < (l1.length : Int)
          · rw [if_pos c9] at H
            have c9b0 : decide (x12_1 < (l1.length : Int)) = true := decide_eq_true c9
            clear c9
            replace H := Option.bind_eq_some_iff.mp H
            obtain ⟨⟨t896, t897⟩, A100, H⟩ := H
            replace H : (if x895001_1.length < 4398046511104 then (downpourref08_Rows.l0 k1 a0 l1 (l1.length : Int) (wrap64 (x12_1 + 1)) a0 (x895001_1 ++ [(⟨t896, t897⟩ : S90)])) else (none)) = some (r1, r2) := H
            have A10 := Aside0.mk A100
            clear A100
            by_cases c11 : x895001_1.length < 4398046511104
            · rw [if_pos c11] at H
              have LMc11 := Aside0.mk c11
              clear c11
              obtain ⟨y900, hy900⟩ : ∃ y_ : List (S90), y_ = (x895001_1 ++ [(⟨t896, t897⟩ : S90)]) := ⟨_, rfl⟩
              replace H : (downpourref08_Rows.l0 k1 a0 l1 (l1.length : Int) (wrap64 (x12_1 + 1)) a0 y900) = some (r1, r2) := by first | (rw [hy900]; with_reducible exact H) | (have H2_ := (Option.bind_some _ _).symm.trans H; rw [hy900]; with_reducible exact H2_) | (have H2_ := (Option.bind_some _ _).symm.trans H; with_reducible exact H2_) | with_reducible exact H | (rw [hy900]; exact H) | exact H
              have Ny900 := Aside0.mk hy900
              clear hy900
              have H' := Aside0.mk H
              clear H
              have p895 : 0 ≤ (x12_1 : Int) := of_decide_eq_true (by first | (with_reducible assumption) | assumption)
              have q895 : x12_1 < (l1.length : Int) := of_decide_eq_true (by first | (with_reducible assumption) | assumption)
              obtain ⟨ad895, e895, hx895_0⟩ := Kd.at_int HR1.out x12_1 p895 q895
              cases e895
              replace hx895_0 := (HB.out.cell (World.block_lt_of_cell? w _ hx895_0)).trans hx895_0
              replace p895 := eq_true p895
              replace q895 := eq_true q895
              try go_wp2
              have n0_ := Aside0.mk (Kd.S_drew HO_895001.out)
              have n1_ := Aside0.mk (blk_drew BK893.out)
              have n2_ := Aside0.mk (blk_drew BK894.out)
              have n3_ := Aside0.mk (below_drew1 HB.out)
              clear HO_895001
              clear BK893
              clear BK894
              clear HB
              have HO_895001 := n0_
              have BK893 := n1_
              have BK894 := n2_
              have HB := n3_
              clear n0_ n1_ n2_ n3_
              refine start_ (n := 9) (S := fun w' => w'.cell? ⟨gb894, 0, none⟩ = some (.int .i64 a0) ∧ w'.cell? ⟨gb894, 1, none⟩ = some (u895001)) (ds := [8]) #[false, false, false, false, false, false, false, false, false] (by kernel_rfl) rfl rfl ⟨(blk_cell BK894.out 0).trans rfl, (blk_cell BK894.out 1).trans rfl⟩ (fun hHeld => ?_); refine with_tabW downpourref08_Rows.tab5 downpourref08_Rows.bits5 (fun HT_ HW_ => ?_)
              generalize wr.drew = w12 at HO_895001 BK893 BK894 HB hHeld ⊢
              refine pure_ (i := 0) (N := some 16) (v := ?_) (a' := ?_) #[true, false, false, false, false, false, false, false, false] rfl rfl (any_of HT_.out (by kernel_rfl)) (fun _ _ _ h => h) (Or.inl ⟨by rfl, ?_⟩) ?_ ?_
              rotate_left
              · intro w'
                go_simp
                with_reducible rfl
              rotate_left
              · simp only [Act.put, List.setIfInBounds_toArray, List.set_cons_zero, List.set_cons_succ, i64_w, i32_w]
                rfl
              refine pure_ (i := 2) (N := some 18) (v := ?_) (a' := ?_) #[true, false, true, false, false, false, false, false, false] rfl rfl (any_of HT_.out (by kernel_rfl)) (fun _ _ _ h => h) (Or.inl ⟨by rfl, ?_⟩) ?_ ?_
              rotate_left
              · intro w'
                go_simp
                with_reducible rfl
              rotate_left
              · simp only [Act.put, List.setIfInBounds_toArray, List.set_cons_zero, List.set_cons_succ, i64_w, i32_w]
                rfl
              refine pure_ (i := 3) (N := some 19) (v := ?_) (a' := ?_) #[true, false, true, true, false, false, false, false, false] rfl rfl (any_of HT_.out (by kernel_rfl)) (fun _ _ _ h => h) (Or.inl ⟨by rfl, ?_⟩) ?_ ?_
              rotate_left
              · intro w'
                go_simp
                with_reducible rfl
              rotate_left
              · simp only [Act.put, List.setIfInBounds_toArray, List.set_cons_zero, List.set_cons_succ, i64_w, i32_w]
                rfl
              refine take_ (i := 1) (N := some 17) (v := ?_) (a' := ?_) #[true, true, true, true, false, false, false, false, false] rfl rfl (take_ofW HT_.out HW_.out (by kernel_rfl)) (fun _ _ _ h => h) (Or.inl ⟨by rfl, ?_⟩) hHeld ?_ ?_
              rotate_left
              · rintro w' ⟨s0, s1⟩
                go_simp
                with_reducible rfl
              rotate_left
              · simp only [Act.put, List.setIfInBounds_toArray, List.set_cons_zero, List.set_cons_succ, i64_w, i32_w]
                rfl
              refine one_ (i := 4) (N := some 20) #[true, true, true, true, true, false, false, false, false] rfl rfl (one_of HT_.out (by kernel_rfl)) (by decide) (fun K hK => ?_)
              refine goes_ Try.func58 (by kernel_rfl) rfl #[.int .i64 a0, .int .u64 (rd l1 x12_1)] (by rfl) rfl rfl (by (try simp only [List.map_toArray, List.map_cons, List.map_nil]); first | done | rfl | (simp only [List.length_drop, List.length_take]; rfl)) ?_
              with_reducible refine (downpourref08_Row.calls k1 a0 (rd l1 x12_1) t896 t897 _ A10.out).mono ?_
              rintro e w13 ⟨v898, rfl, ho0, hb⟩
              refine ⟨_, rfl, ?_⟩
              have n0_ := Aside0.mk (Kd.S_elder' (by (with_reducible repeat (first | apply Kd.S_alloc | apply Kd.S_drewN | apply Kd.S_drew)); exact HO_895001.out) (Kd.R_base ho0) hb)
              have n1_ := Aside0.mk (Kd.R_lower ho0 (below_size (by repeat (first | (with_reducible first | exact HB.out | apply below_alloc | apply pw_below_drewN | apply below_drew1 | refine below_set ?_ GE893.out | refine below_set ?_ GE894.out) | exact HB.out))))
              have n2_ := Aside0.mk (blk_below (g := gb893) (o := .cells #[.int .i64 0, .slice none 0 0] 99 (0, 0)) (by (with_reducible repeat (first | refine blk_drewN ?_ _ | refine blk_drew ?_ | refine blk_alloc ?_ _)); exact BK893.out) hb)
              have n3_ := Aside0.mk (blk_below (g := gb894) (o := .cells #[.int .i64 a0, u895001] 99 (0, 0)) (by (with_reducible repeat (first | refine blk_drewN ?_ _ | refine blk_drew ?_ | refine blk_alloc ?_ _)); exact BK894.out) hb)
              have n4_ := Aside0.mk (below_step (by repeat (first | (with_reducible first | exact HB.out | apply below_alloc | apply pw_below_drewN | apply below_drew1 | refine below_set ?_ GE893.out | refine below_set ?_ GE894.out) | exact HB.out)) hb)
              clear HO_895001
              clear BK893
              clear BK894
              clear HB
              have HO_895001 := n0_
              have HO899 := n1_
              have BK893 := n2_
              have BK894 := n3_
              have HB := n4_
              clear n0_ n1_ n2_ n3_ n4_
              (try clear hb)
              (try clear hb2)
              (try clear hk)
              (try clear hi)
              (try clear ho0)
              obtain ⟨Ao15, co15, eo15⟩ := Kd.R_slice HO899.out
              (first | subst eo15 | (injection eo15 with f1_ f2_ f3_; have f4_ := f1_.symm; have f5_ := f3_.symm; clear f1_ f2_ f3_; subst f4_; subst f5_))
              refine hK.out _ _ ⟨(blk_cell BK894.out 0).trans rfl, (blk_cell BK894.out 1).trans rfl⟩ (fun hHeld => ?_)
              clear hK K
              refine norm_ (a' := ?_) ?_ ?_
              rotate_left
              · show Act.put _ (some 20) _ = _
                simp only [Act.put, List.setIfInBounds_toArray, List.set_cons_zero, List.set_cons_succ, i64_w, i32_w]
                rfl
              refine one_ (i := 5) (N := some 21) #[true, true, true, true, true, true, false, false, false] rfl rfl (one_of HT_.out (by kernel_rfl)) (by decide) (fun K hK => ?_)
              refine value_ (w1 := ?_) (v := ?_) (by rfl) rfl ?_ ?_
              rotate_left 2
              · go_simp
                constructor
                · rfl
                · rfl
              refine hK.out _ _ ⟨(blk_cell (blk_alloc BK894.out _) 0).trans rfl, (blk_cell (blk_alloc BK894.out _) 1).trans rfl⟩ (fun hHeld => ?_)
              clear hK K
              refine norm_ (a' := ?_) ?_ ?_
              rotate_left
              · show Act.put _ (some 21) _ = _
                simp only [Act.put, List.setIfInBounds_toArray, List.set_cons_zero, List.set_cons_succ, i64_w, i32_w]
                rfl
              refine one_ (i := 6) (N := some 22) #[true, true, true, true, true, true, true, false, false] rfl rfl (one_of HT_.out (by kernel_rfl)) (by decide) (fun K hK => ?_)
              refine Kd.S_append_step k90 (w0 := w) w.heap.size (by rfl) (.tmp 17) (.tmp 21) 97 90 (.agg #[(.int .i64 0), (.slice none 0 0)]) 32 rfl Try.underlying97 info90 rfl (by decide) (by omega) u895001 x895001_1 (⟨t896, t897⟩ : S90) [.int .i64 t896, .slice Ao15 t897.length co15] (fun _ => True) (fun k_ => some k_ = (.slice Ao15 t897.length co15 : Value).ownBlock) rfl rfl ?aP (fun k_ hk_ => ((Kd.R_mono (ok' := fun k_ => ((fun _ => True)) k_ ∧ some k_ ≠ (u895001 : Value).ownBlock) (Kd.R_apart' (HO899.out) (Kd.S_typed HO_895001.out) (by decide)) (fun k_ hk => ⟨trivial, hk.2⟩))).1 k_ hk_.symm) ?aF ?aO ?aB ?aS ?aL ?_
              (case aP => exact k90_mkM _ _ _ (⟨t896, t897⟩ : S90) (Kd.R_mono (Kd.R_tight rfl (Kd.R_mono (ok' := fun k_ => ((fun _ => True)) k_ ∧ some k_ ≠ (u895001 : Value).ownBlock) (Kd.R_apart' (HO899.out) (Kd.S_typed HO_895001.out) (by decide)) (fun k_ hk => ⟨trivial, hk.2⟩))) (fun _ h_ => h_)))
              (case aB => exact (by repeat (first | (with_reducible first | exact HB.out | apply below_alloc | apply pw_below_drewN | apply below_drew1 | refine below_set ?_ GE893.out | refine below_set ?_ GE894.out) | exact HB.out)))
              (case aF => exact (fun _ _ => trivial))
              (case aO => exact (by (with_reducible repeat (first | apply Kd.S_alloc | apply Kd.S_drewN | apply Kd.S_drew)); exact Kd.S_mono HO_895001.out (fun k_ hk => ⟨trivial, fun e_ => hk.2 e_⟩)))
              (case aS => exact (below_size (by repeat (first | (with_reducible first | exact HB.out | apply below_alloc | apply pw_below_drewN | apply below_drew1 | refine below_set ?_ GE893.out | refine below_set ?_ GE894.out) | exact HB.out))))
              (case aL => have := LMc11.out; omega)
              intro v901 w14 ho hb hg hat
              rw [← Ny900.out] at ho
              have n0_ := Aside0.mk (blk_grown (g := gb893) (o := .cells #[.int .i64 0, .slice none 0 0] 99 (0, 0)) (by (with_reducible repeat (first | refine blk_drewN ?_ _ | refine blk_drew ?_ | refine blk_alloc ?_ _)); exact BK893.out) hg (Kd.S_ne HO_895001.out BK893.out (by decide)))
              have n1_ := Aside0.mk (blk_grown (g := gb894) (o := .cells #[.int .i64 a0, u895001] 99 (0, 0)) (by (with_reducible repeat (first | refine blk_drewN ?_ _ | refine blk_drew ?_ | refine blk_alloc ?_ _)); exact BK894.out) hg (Kd.S_ne HO_895001.out BK894.out (by decide)))
              have n2_ := Aside0.mk (hb)
              have n3_ := Aside0.mk (ho)
              clear BK893
              clear BK894
              clear HB
              clear HO_895001
              clear HO899
              have BK893 := n0_
              have BK894 := n1_
              have HB := n2_
              have HO902 := n3_
              clear n0_ n1_ n2_ n3_
              clear ho hb hg hat
              obtain ⟨Ao16, co16, eo16⟩ := Kd.S_slice HO902.out
              (first | subst eo16 | (injection eo16 with f1_ f2_ f3_; have f4_ := f1_.symm; have f5_ := f3_.symm; clear f1_ f2_ f3_; subst f4_; subst f5_))
              refine hK.out _ _ ⟨(blk_cell BK894.out 0).trans rfl, (blk_cell BK894.out 1).trans rfl⟩ (fun hHeld => ?_)
              clear hK K
              refine norm_ (a' := ?_) ?_ ?_
              rotate_left
              · show Act.put _ (some 22) _ = _
                simp only [Act.put, List.setIfInBounds_toArray, List.set_cons_zero, List.set_cons_succ, i64_w, i32_w]
                rfl
              refine pure_ (i := 7) (N := some 23) (v := ?_) (a' := ?_) #[true, true, true, true, true, true, true, true, false] rfl rfl (any_of HT_.out (by kernel_rfl)) (fun _ _ _ h => h) (Or.inl ⟨by rfl, ?_⟩) ?_ ?_
              rotate_left
              · intro w'
                go_simp
                with_reducible rfl
              rotate_left
              · simp only [Act.put, List.setIfInBounds_toArray, List.set_cons_zero, List.set_cons_succ, i64_w, i32_w]
                rfl
              refine last_ (i := 8) (N := none) #[true, true, true, true, true, true, true, true, true] rfl rfl (one_of HT_.out (by kernel_rfl)) (by decide) (fun K hK => ?_)
              have hs17 : w14.cell? ⟨gb894, 1, none⟩ = some (u895001) := (blk_cell BK894.out 1).trans rfl
              have hfs17 := blk_frozen BK894.out 1
              have hns17_0 := NB893_894.out
              have hms17_0 := NB894_893.out
              refine skip_ (w1 := ?_) (by rfl) rfl ?_ ?_
              rotate_left
              · go_simp
                rfl
              refine hK.out _ _ ?_
              clear hK K
              refine done_ (done_of HT_.out (by kernel_rfl)) ?_
              try go_wp2
              go_roundg k1
              case measure => have := HK1.out; omega
              case rel => exact ⟨(wrap64 (x12_1 + 1)), (y900), (.slice Ao16 y900.length co16), (by first | rfl | (simp; done) | (simp [*]; done)), H', ⟨by have := HK1.out; omega⟩, ⟨by (with_reducible repeat (first | apply Kd.S_alloc | apply Kd.S_drewN | apply Kd.S_drew)); exact Kd.S_mono (Kd.S_far (p := ⟨gb894, 1, none⟩) (Kd.S_types HO902.out BK894.out (by decide)) (fun _ hk => hk.2) (.slice Ao16 y900.length co16)) (fun _ hk => trivial)⟩, ⟨by (with_reducible repeat (first | refine blk_drewN ?_ _ | refine blk_drew ?_ | refine blk_alloc ?_ _)); refine blk_far ?_ NB893_894.out _; (with_reducible repeat (first | refine blk_drewN ?_ _ | refine blk_drew ?_ | refine blk_alloc ?_ _)); exact BK893.out⟩, ⟨by (with_reducible repeat (first | refine blk_drewN ?_ _ | refine blk_drew ?_ | refine blk_alloc ?_ _)); refine blk_put (cs := #[.int .i64 a0, u895001]) ?_ 1 _ rfl; (with_reducible repeat (first | refine blk_drewN ?_ _ | refine blk_drew ?_ | refine blk_alloc ?_ _)); exact BK894.out⟩, ⟨by repeat (first | (with_reducible first | exact HB.out | apply below_alloc | apply pw_below_drewN | apply below_drew1 | refine below_set ?_ GE893.out | refine below_set ?_ GE894.out) | exact HB.out)⟩⟩
            · rw [if_neg c11] at H
              exact absurd H (by simp)
          · rw [if_neg c9] at H
            exact absurd H (by simp)
        · rw [if_neg c8] at H
          exact absurd H (by simp)
      · rw [if_neg c7] at H
        have c7b0 : decide (x12_1 < (l1.length : Int)) = false := decide_eq_false c7
        clear c7
        simp only [Option.some.injEq, Prod.mk.injEq] at H
        obtain ⟨rfl, rfl⟩ := H
        have hnb18 := NB894_893.out
        have hnc18 := NB893_894.out
        have hcz19_0 : wr.cell? ⟨gb894, 0, none⟩ = some (.int .i64 a0) := (blk_cell BK894.out 0).trans rfl
        have hcz19_1 : wr.cell? ⟨gb894, 1, none⟩ = some (u895001) := (blk_cell BK894.out 1).trans rfl
        have hfz19_0 := blk_frozen BK894.out 0
        have hfz19_1 := blk_frozen BK894.out 1
        have hcz20_0 : wr.cell? ⟨gb893, 0, none⟩ = some (.int .i64 0) := (blk_cell BK893.out 0).trans rfl
        have hcz20_1 : wr.cell? ⟨gb893, 1, none⟩ = some (.slice none 0 0) := (blk_cell BK893.out 1).trans rfl
        have hfz20_0 := blk_frozen BK893.out 0
        have hfz20_1 := blk_frozen BK893.out 1
        obtain ⟨Ao21, co21, eo21⟩ := Kd.S_slice HO_895001.out
        subst eo21
        go_wp2
        refine bodyPost_ret (results_cell_row rfl _ _ gb893 99 #[.int .i64 a0, .slice Ao21 x895001_1.length co21] (0, 0) _ rfl (by (with_reducible repeat (first | refine blk_drewN ?_ _ | refine blk_drew ?_ | refine blk_alloc ?_ _)); refine blk_put (cs := #[.int .i64 a0, .slice none 0 0]) ?_ 1 _ rfl; (with_reducible repeat (first | refine blk_drewN ?_ _ | refine blk_drew ?_ | refine blk_alloc ?_ _)); refine blk_put (cs := #[.int .i64 0, .slice none 0 0]) ?_ 0 _ rfl; (with_reducible repeat (first | refine blk_drewN ?_ _ | refine blk_drew ?_ | refine blk_alloc ?_ _)); exact BK893.out) Try.underlying99 rfl (by kernel_rfl)) rfl ?_
        exact ⟨_, by first | rfl | (simp [errW_none, errW_some] <;> rfl) | (simp [*, errW_none, errW_some] <;> rfl), by (with_reducible repeat (first | apply Kd.S_alloc | apply Kd.S_drewN | apply Kd.S_drew)); exact Kd.S_mono (Kd.S_far (p := ⟨gb893, 1, none⟩) (Kd.S_far (p := ⟨gb893, 0, none⟩) (Kd.S_types HO_895001.out BK893.out (by decide)) (fun _ hk => hk.2) (.int .i64 a0)) (fun _ hk => hk.2) (.slice Ao21 x895001_1.length co21)) (fun _ hk => trivial), by repeat (first | (with_reducible first | exact HB.out | apply below_alloc | apply pw_below_drewN | apply below_drew1 | refine below_set ?_ GE893.out | refine below_set ?_ GE894.out) | exact HB.out)⟩

/-! ### shard_Of: function 62 -/
/-! ### downpourref13_Locks: function 68 -/
/-! ### degree_root: function 196 -/
def degree_root.l0 : Nat → Int → Int → Int → Option (Int)
  | 0, _, _, _ => none
  | k + 1, x0, x3, x4 => if x4 > 0 then (if (wrap64 ((wrap64 (x3 + x4)) * (wrap64 (x3 + x4)))) ≤ x0 then (degree_root.l0 k x0 (wrap64 (x3 + x4)) (x4 / 2)) else (degree_root.l0 k x0 x3 (x4 / 2))) else (some x3)
def degree_root.f (k : Nat) (a0 : Int) : Option (Int) := degree_root.l0 k a0 0 32768
set_option maxHeartbeats 8000000 in
set_option maxRecDepth 100000 in
theorem degree_root.calls (k : Nat) (a0 : Int) (r : Int) (w : World) (h : degree_root.f k a0 = some r) :
    Calls Try.prog 196 #[.int .i64 a0] w fun e w' => e = .returned (.int .i64 r) ∧ Drawn0 w w' := by
  have H : (degree_root.l0 k a0 0 32768) = some r := h
  clear h
  have H' := Aside0.mk H
  clear H
  go_enter Try.func196, Try.ntmps196
  go_wp2
  go_loopg [3, 4] k (fun kq v3 v4 w' => ∃ (x3_1 : Int) (x4_1 : Int), v3 = .int .i64 x3_1 ∧ v4 = .int .i64 x4_1 ∧ Aside0 (degree_root.l0 kq a0 x3_1 x4_1 = some r) ∧ Aside0 (kq ≤ k) ∧ Drawn0 w w')
  case atStart => exact ⟨(0), (32768), (by first | rfl | (simp; done) | (simp [*]; done)), (by first | rfl | (simp; done) | (simp [*]; done)), H', ⟨Nat.le_refl _⟩, by repeat (first | exact Drawn0.refl _ | apply Drawn0.step)⟩
  case round =>
    clear H'
    try clear c1
    obtain ⟨x3_1, x4_1, rfl, rfl, HA, HK1, ⟨m1, rfl⟩⟩ := hrel
    cases gk with
    | zero => exact absurd HA.out (by simp [degree_root.l0])
    | succ k1 =>
      have H := HA.out
      clear HA
      simp only [degree_root.l0] at H
      by_cases c2 : x4_1 > 0
      · rw [if_pos c2] at H
        have c2b0 : decide (0 < x4_1) = true := decide_eq_true c2
        clear c2
        by_cases c3 : (wrap64 ((wrap64 (x3_1 + x4_1)) * (wrap64 (x3_1 + x4_1)))) ≤ a0
        · rw [if_pos c3] at H
          have c3b0 : decide ((wrap64 ((wrap64 (x3_1 + x4_1)) * (wrap64 (x3_1 + x4_1)))) ≤ a0) = true := decide_eq_true c3
          clear c3
          have H' := Aside0.mk H
          clear H
          go_wp2
          go_roundg k1
          case measure => have := HK1.out; omega
          case rel => exact ⟨(wrap64 (x3_1 + x4_1)), (x4_1 / 2), (by first | rfl | (simp; done) | (simp [*]; done)), (by first | rfl | (simp; done) | (simp [*]; done)), H', ⟨by have := HK1.out; omega⟩, by repeat (first | exact Drawn0.refl _ | apply Drawn0.step)⟩
        · rw [if_neg c3] at H
          have c3b0 : decide ((wrap64 ((wrap64 (x3_1 + x4_1)) * (wrap64 (x3_1 + x4_1)))) ≤ a0) = false := decide_eq_false c3
          clear c3
          have H' := Aside0.mk H
          clear H
          go_wp2
          go_roundg k1
          case measure => have := HK1.out; omega
          case rel => exact ⟨(x3_1), (x4_1 / 2), (by first | rfl | (simp; done) | (simp [*]; done)), (by first | rfl | (simp; done) | (simp [*]; done)), H', ⟨by have := HK1.out; omega⟩, by repeat (first | exact Drawn0.refl _ | apply Drawn0.step)⟩
      · rw [if_neg c2] at H
        have c2b0 : decide (0 < x4_1) = false := decide_eq_false c2
        clear c2
        obtain rfl := Option.some.inj H
        go_wp2
        go_ret
        exact ⟨by first | rfl | (simp; done) | (simp [*]; done), by repeat (first | exact Drawn0.refl _ | apply Drawn0.step)⟩

/-! ### cmp_isNaN_uint64: function 178 -/
/-! ### cmp_Compare_uint64: function 143 -/
/-! ### equations_in: function 93 -/
/-! ### shard_held_against: function 115 -/
end Go.Proofs.Ytaofanhdmfdlmaa.Print

/-
What is proved: degree.weights(k), seen from a loop: the weights of degrees 1 to k, one by one. Condition: k is from 1 to 64.
-/
namespace Go.Proofs.Ytaofanhdmfdlmaa.Print
open Go Go.RowKit Go.Proofs.YtaofanhdmfdlmaaW.PrintWords Go.Proofs.YtaofanhdmfdlmaaW.PrintLast Go.Proofs.YtaofanhdmfdlmaaW.PrintMore Go.Proofs.Ytaofanhdmfdlmaa.Rng
attribute [local go_sem] Oper.semAt_some
set_option linter.unusedVariables false
/-- The root; the weight of degree d of k blocks. -/
def rt (k : Int) : Int := (degree_root.f 18 k).getD 0
theorem rt_all : ∀ i : Fin 64, degree_root.f 18 ((i.val : Int) + 1) = some (rt ((i.val : Int) + 1)) ∧ 1 ≤ rt ((i.val : Int) + 1) ∧ rt ((i.val : Int) + 1) ≤ 8 := by decide +kernel
theorem rt_at (k : Int) (h1 : 1 ≤ k) (h2 : k ≤ 64) : degree_root.f 18 k = some (rt k) ∧ 1 ≤ rt k ∧ rt k ≤ 8 := by
  have h := rt_all ⟨(k - 1).toNat, by omega⟩
  have e : (((k - 1).toNat : Nat) : Int) + 1 = k := by omega
  simp only [e] at h
  exact h
def wtBase (k d : Int) : Int := if d > 1 then 4294967296 / (d * (d - 1)) else 4294967296 / k
def wt (k d : Int) : Int :=
  if d < k / rt k then wtBase k d + 4294967296 * rt k / (d * k)
  else if d = k / rt k then wtBase k d + 4294967296 * rt k * (Lib.bitLen (rt k).toNat : Int) / k else wtBase k d
end Go.Proofs.Ytaofanhdmfdlmaa.Print

/-
What is proved: degree.weights(k), seen from a loop: the weights of degrees 1 to k, one by one. Condition: k is from 1 to 64.
-/
namespace Go.Proofs.Ytaofanhdmfdlmaa.Print
open Go Go.RowKit Go.Proofs.YtaofanhdmfdlmaaW.PrintWords Go.Proofs.YtaofanhdmfdlmaaW.PrintLast Go.Proofs.YtaofanhdmfdlmaaW.PrintMore Go.Proofs.Ytaofanhdmfdlmaa.Rng
attribute [local go_sem] Oper.semAt_some
set_option linter.unusedVariables false
theorem u64_in {x : Int} (h : 0 ≤ x ∧ x < 18446744073709551616) : IntKind.u64.wrap x = x := by rw [IntKind.wrap_u64]; omega
theorem tdiv_in {a b : Int} (h : 0 ≤ a) : Int.tdiv a b = a / b := Int.tdiv_eq_ediv_of_nonneg h
theorem div_le_self' {a b : Int} (h : 0 ≤ a) (hb : 1 ≤ b) : 0 ≤ a / b ∧ a / b ≤ a := by
  refine ⟨Int.ediv_nonneg h (by omega), ?_⟩
  exact Int.ediv_le_self _ h
theorem wt_range (k d : Int) (h1 : 1 ≤ k) (h2 : k ≤ 64) (h3 : 1 ≤ d) (h4 : d ≤ k) (t : Int) (ht1 : 1 ≤ t) (ht2 : t ≤ 8) (L : Int) (hL : 0 ≤ L) (hL2 : L ≤ 64) :
    0 ≤ 4294967296 / k ∧ 4294967296 / k ≤ 4294967296 ∧ 0 ≤ 4294967296 * t / (d * k) ∧ 4294967296 * t / (d * k) ≤ 34359738368 ∧ 0 ≤ 4294967296 * t * L / k ∧ 4294967296 * t * L / k ≤ 2199023255552 := by
  have hdk : 1 ≤ d * k := by
    have : (1 : Int) * 1 ≤ d * k := Int.mul_le_mul h3 h1 (by omega) (by omega)
    omega
  have hm : 0 ≤ 4294967296 * t * L := Int.mul_nonneg (by omega) hL
  have hm2 : 4294967296 * t * L ≤ 34359738368 * 64 := Int.mul_le_mul (by omega) hL2 hL (by omega)
  have a1 := div_le_self' (show (0 : Int) ≤ 4294967296 by omega) h1
  have a2 := div_le_self' (show (0 : Int) ≤ 4294967296 * t by omega) hdk
  have a3 := div_le_self' hm h1
  refine ⟨a1.1, a1.2, a2.1, by omega, a3.1, by omega⟩
theorem bitLen_small (t : Int) (h1 : 1 ≤ t) (h2 : t ≤ 8) : Lib.bitLen t.toNat ≤ 4 := by
  obtain ⟨n, rfl⟩ : ∃ n : Nat, t = (n : Int) := ⟨t.toNat, by omega⟩
  have : ∀ i : Fin 9, Lib.bitLen i.val ≤ 4 := by decide +kernel
  exact this ⟨n, by omega⟩
set_option maxHeartbeats 8000000 in
set_option maxRecDepth 100000 in
theorem weights_iter (m Bs : Nat) (hm : 1 ≤ m) (kk : Int) (h1 : 1 ≤ kk) (h2 : kk ≤ 64) (w : World) (hBs : w.heap[Bs]? = some (.cells #[.int .i64 kk] 3 (0, 0))) :
    Iter Fence.wide m Try.prog 195 #[.pointer (some ⟨Bs, 0, none⟩)] (fun d : Nat => #[.int .u64 (wt kk (d : Int))]) (fun d => (d : Int) ≤ kk) (fun d d' => d' = d + 1) (fun _ => False) (fun _ => False) (fun _ _ => True) 1 w := by
  intro L J Jx W hW hJ hJx _ hY h0
  have hlt : Bs < w.heap.size := (Array.getElem?_eq_some_iff.1 hBs).1
  have hb0 : W.heap[Bs]? = some (.cells #[.int .i64 kk] 3 (0, 0)) := (hW.block Bs hlt).trans hBs
  have hcc : W.cell? ⟨Bs, 0, none⟩ = some (.int .i64 kk) := (blk_cell hb0 0).trans rfl
  obtain ⟨hr, ht1, ht2⟩ := rt_at kk h1 h2
  have HRT := Aside0.mk hr
  have HY := Aside0.mk hY
  have H0 := Aside0.mk h0
  have HJ := Aside0.mk hJ
  clear hY hJ hJx h0 hb0 hW hBs hlt hr
  generalize hrt : rt kk = t at *
  have HT := Aside0.mk hrt
  clear hrt
  have k0 : 0 ≤ kk := by omega
  refine callsIn_of_wp Try.func195 rfl trivial ?_ rfl
  simp only [Try.ntmps195, List.size_toArray, List.length_cons, List.length_nil, Nat.reduceAdd, Nat.reduceSub, Array.replicate_succ, Array.replicate_zero, List.push_toArray, List.append_toArray, List.nil_append, List.cons_append]
  have hk0 : IntKind.u64.wrap kk = kk := u64_in (by omega)
  have ht0 : IntKind.u64.wrap t = t := u64_in (by omega)
  have HT1 := Aside0.mk (And.intro ht1 ht2)
  have HK1 := Aside0.mk (And.intro h1 h2)
  clear h1 h2 ht1 ht2 k0
  gi_wp2
  gi_region_with (refine ⟨trivial, ?_⟩; gi_at_call 196; refine callsIn_wide.2 ((degree_root.calls 18 kk t _ HRT.out).mono ?_); rintro e w' ⟨rfl, ⟨nd, rfl⟩⟩)
  all_goals
    have HJ1 := Aside0.mk (HJ.out _ _ _ H0.out (show ItStep (fun _ => False) W (W.drewN (1 + nd)) from ItStep.of_below (Drawn0.below ⟨⟨_, rfl⟩⟩)))
    generalize W.drewN (1 + nd) = W1 at *
    clear hcc
    gi_wp2
    gi_loopg [5] kk.toNat (fun gk v5 wr => ∃ d : Nat, v5 = .int .u64 (d : Int) ∧ Aside0 (1 ≤ d ∧ (d : Int) ≤ kk + 1 ∧ kk.toNat + 1 - d ≤ gk) ∧ Aside0 (J d wr))
    case atStart => exact ⟨1, rfl, ⟨by have := HK1.out; omega⟩, HJ1⟩
    case round =>
      obtain ⟨d, rfl, HK, HJD⟩ := hrel
      by_cases hi : (d : Int) ≤ kk
      · have hib : decide ((d : Int) ≤ kk) = true := decide_eq_true hi
        have HI := Aside0.mk hi
        obtain ⟨z1, z2⟩ := HK1.out
        obtain ⟨z3, z4⟩ := HT1.out
        obtain ⟨z5, z6, z7⟩ := HK.out
        obtain ⟨r1, r2, r3, r4, r5, r6⟩ := wt_range kk d z1 z2 (by omega) hi t z3 z4 (Lib.bitLen t.toNat : Int) (by omega) (by have := bitLen_small t z3 z4; omega)
        have hwr : IntKind.u64.wrap ((d : Int) + 1) = ((d + 1 : Nat) : Int) := by rw [u64_in (by omega)]; rfl
        have hkn : ¬ kk = 0 := by omega
        have htn : ¬ t = 0 := by omega
        have e1 : (4294967296 : Int).tdiv kk = 4294967296 / kk := tdiv_in (by omega)
        have e2 : kk.tdiv t = kk / t := tdiv_in (by omega)
        have e3 : IntKind.u64.wrap (4294967296 * t) = 4294967296 * t := u64_in (by omega)
        have hdk : 1 ≤ (d : Int) * kk ∧ (d : Int) * kk ≤ 4096 := by
          have y1 : (1 : Int) * 1 ≤ (d : Int) * kk := Int.mul_le_mul (by omega) (by omega) (by omega) (by omega)
          have y2 : (d : Int) * kk ≤ 64 * 64 := Int.mul_le_mul (by omega) (by omega) (by omega) (by omega)
          omega
        have e4 : IntKind.u64.wrap ((d : Int) * kk) = (d : Int) * kk := u64_in (by omega)
        have e5 : ¬ (d : Int) * kk = 0 := by omega
        have e6 : (4294967296 * t).tdiv ((d : Int) * kk) = 4294967296 * t / ((d : Int) * kk) := tdiv_in (by omega)
        have e7 : IntKind.u64.wrap (Lib.bitLen t.toNat : Int) = (Lib.bitLen t.toNat : Int) := u64_in (by have := bitLen_small t z3 z4; omega)
        have e8 : 0 ≤ 4294967296 * t * (Lib.bitLen t.toNat : Int) ∧ 4294967296 * t * (Lib.bitLen t.toNat : Int) ≤ 34359738368 * 64 :=
          ⟨Int.mul_nonneg (by omega) (by omega), Int.mul_le_mul (by omega) (by have := bitLen_small t z3 z4; omega) (by omega) (by omega)⟩
        have e9 : IntKind.u64.wrap (4294967296 * t * (Lib.bitLen t.toNat : Int)) = 4294967296 * t * (Lib.bitLen t.toNat : Int) := u64_in (by omega)
        have e10 : (4294967296 * t * (Lib.bitLen t.toNat : Int)).tdiv kk = 4294967296 * t * (Lib.bitLen t.toNat : Int) / kk := tdiv_in e8.1
        have w1 : IntKind.u64.wrap (4294967296 / kk) = 4294967296 / kk := u64_in (by omega)
        have w2 : IntKind.u64.wrap (kk / t) = kk / t := u64_in (by have := div_le_self' (show 0 ≤ kk by omega) z3; omega)
        have w3 : IntKind.u64.wrap (4294967296 * t / ((d : Int) * kk)) = 4294967296 * t / ((d : Int) * kk) := u64_in (by omega)
        have w4 : IntKind.u64.wrap (4294967296 * t * (Lib.bitLen t.toNat : Int) / kk) = 4294967296 * t * (Lib.bitLen t.toNat : Int) / kk := u64_in (by omega)
        obtain ⟨Z, hZ⟩ : ∃ Z, 4294967296 * t / ((d : Int) * kk) = Z := ⟨_, rfl⟩
        obtain ⟨N, hN⟩ : ∃ N, 4294967296 * t * (Lib.bitLen t.toNat : Int) / kk = N := ⟨_, rfl⟩
        obtain ⟨q, hQ⟩ : ∃ q, kk / t = q := ⟨_, rfl⟩
        obtain ⟨A, hA⟩ : ∃ A, 4294967296 / kk = A := ⟨_, rfl⟩
        obtain ⟨Ln, hL⟩ : ∃ Ln, (Lib.bitLen t.toNat : Int) = Ln := ⟨_, rfl⟩
        rw [hZ] at e6 w3 r3 r4; rw [hN] at e10 w4 r5 r6; rw [hQ] at e2 w2; rw [hA] at e1 w1 r1 r2
        have HZ := Aside0.mk hZ
        have HN := Aside0.mk hN
        have HQ := Aside0.mk hQ
        have HA := Aside0.mk hA
        have HL := Aside0.mk hL
        rw [hL] at e7 e9 e10
        clear hZ hN hQ hA hL e8 hdk
        by_cases hd : (d : Int) > 1
        · have hd1 : decide ((d : Int) > 1) = true := decide_eq_true hd
          have dd1 : IntKind.u64.wrap ((d : Int) - 1) = (d : Int) - 1 := u64_in (by omega)
          have hdd : 1 ≤ (d : Int) * ((d : Int) - 1) ∧ (d : Int) * ((d : Int) - 1) ≤ 4096 := by
            have y1 : (1 : Int) * 1 ≤ (d : Int) * ((d : Int) - 1) := Int.mul_le_mul (by omega) (by omega) (by omega) (by omega)
            have y2 : (d : Int) * ((d : Int) - 1) ≤ 64 * 64 := Int.mul_le_mul (by omega) (by omega) (by omega) (by omega)
            omega
          have dd2 : IntKind.u64.wrap ((d : Int) * ((d : Int) - 1)) = (d : Int) * ((d : Int) - 1) := u64_in (by omega)
          have dd3 : ¬ (d : Int) * ((d : Int) - 1) = 0 := by omega
          have dd4 : (4294967296 : Int).tdiv ((d : Int) * ((d : Int) - 1)) = 4294967296 / ((d : Int) * ((d : Int) - 1)) := tdiv_in (by omega)
          have dd5 := div_le_self' (show (0 : Int) ≤ 4294967296 by omega) hdd.1
          have dd6 : IntKind.u64.wrap (4294967296 / ((d : Int) * ((d : Int) - 1))) = 4294967296 / ((d : Int) * ((d : Int) - 1)) := u64_in (by omega)
          obtain ⟨B, hB⟩ : ∃ B, 4294967296 / ((d : Int) * ((d : Int) - 1)) = B := ⟨_, rfl⟩
          rw [hB] at dd4 dd5 dd6
          have HB := Aside0.mk (show wtBase kk (d : Int) = B by unfold wtBase; rw [if_pos hd, hB])
          clear hB hdd hd
          rcases Int.lt_trichotomy (d : Int) q with hq | hq | hq
          · have hq1 : decide ((d : Int) < q) = true := decide_eq_true hq
            have hV : IntKind.u64.wrap (B + Z) = B + Z := u64_in (by omega)
            have HWT := Aside0.mk (show wt kk (d : Int) = B + Z by unfold wt; rw [if_pos (by rw [HT.out, HQ.out]; exact hq), HB.out, HT.out, HZ.out])
            clear hq
            gi_wp2
            obtain ⟨fn, tmps, assign, body, hy, hR⟩ := HY.out d _ HJD.out HI.out
            simp only [HWT.out] at hy
            rw [hy]
            rw [Oper.uponIn_round]
            refine ⟨fun _ => by have := hm; omega, hR.mono ?_⟩
            rintro e W4 (⟨rfl, hks, s', rfl, hj4⟩ | ⟨rfl, hx4⟩)
            · have HJ4 := Aside0.mk hj4
              clear hks hy hR hj4
              gi_wp2
              gi_roundg (gk - 1)
              case measure => have := HK.out; have := HI.out; omega
              case rel => exact ⟨d + 1, by first | rfl | (rw [hwr]) | (simp [hwr]), ⟨by have := HK.out; have := HI.out; omega⟩, HJ4⟩
            · clear hy hR
              have HX := Aside0.mk hx4
              clear hx4
              gi_wp2
              refine bodyPost_ret (results_none rfl _ _ _) rfl ?_
              exact ⟨⟨_, rfl⟩, .inr HX.out⟩
          · have hq1 : decide ((d : Int) < q) = false := decide_eq_false (by omega)
            have hq2 : ((d : Int) == q) = true := beq_iff_eq.mpr hq
            have hV : IntKind.u64.wrap (B + N) = B + N := u64_in (by omega)
            have HWT := Aside0.mk (show wt kk (d : Int) = B + N by unfold wt; rw [if_neg (by rw [HT.out, HQ.out]; omega), if_pos (by rw [HT.out, HQ.out]; exact hq), HB.out, HT.out, HN.out])
            clear hq
            gi_wp2_with (refine ⟨trivial, ?_⟩; gi_at_call 157; refine callsIn_wide.2 ((Try.bits_Len64 t _ (by have := HT1.out; omega) (by have := HT1.out; omega)).mono ?_); rintro e w' ⟨rfl, rfl⟩; rw [HL.out])
            obtain ⟨fn, tmps, assign, body, hy, hR⟩ := HY.out d _ HJD.out HI.out
            simp only [HWT.out] at hy
            rw [hy]
            rw [Oper.uponIn_round]
            refine ⟨fun _ => by have := hm; omega, hR.mono ?_⟩
            rintro e W4 (⟨rfl, hks, s', rfl, hj4⟩ | ⟨rfl, hx4⟩)
            · have HJ4 := Aside0.mk hj4
              clear hks hy hR hj4
              gi_wp2
              gi_roundg (gk - 1)
              case measure => have := HK.out; have := HI.out; omega
              case rel => exact ⟨d + 1, by first | rfl | (rw [hwr]) | (simp [hwr]), ⟨by have := HK.out; have := HI.out; omega⟩, HJ4⟩
            · clear hy hR
              have HX := Aside0.mk hx4
              clear hx4
              gi_wp2
              refine bodyPost_ret (results_none rfl _ _ _) rfl ?_
              exact ⟨⟨_, rfl⟩, .inr HX.out⟩
          · have hq1 : decide ((d : Int) < q) = false := decide_eq_false (by omega)
            have hq2 : ((d : Int) == q) = false := beq_eq_false_iff_ne.mpr (by omega)
            have HWT := Aside0.mk (show wt kk (d : Int) = B by unfold wt; rw [if_neg (by rw [HT.out, HQ.out]; omega), if_neg (by rw [HT.out, HQ.out]; omega), HB.out])
            clear hq
            gi_wp2
            obtain ⟨fn, tmps, assign, body, hy, hR⟩ := HY.out d _ HJD.out HI.out
            simp only [HWT.out] at hy
            rw [hy]
            rw [Oper.uponIn_round]
            refine ⟨fun _ => by have := hm; omega, hR.mono ?_⟩
            rintro e W4 (⟨rfl, hks, s', rfl, hj4⟩ | ⟨rfl, hx4⟩)
            · have HJ4 := Aside0.mk hj4
              clear hks hy hR hj4
              gi_wp2
              gi_roundg (gk - 1)
              case measure => have := HK.out; have := HI.out; omega
              case rel => exact ⟨d + 1, by first | rfl | (rw [hwr]) | (simp [hwr]), ⟨by have := HK.out; have := HI.out; omega⟩, HJ4⟩
            · clear hy hR
              have HX := Aside0.mk hx4
              clear hx4
              gi_wp2
              refine bodyPost_ret (results_none rfl _ _ _) rfl ?_
              exact ⟨⟨_, rfl⟩, .inr HX.out⟩
        · have hd1 : decide ((d : Int) > 1) = false := decide_eq_false hd
          have HB := Aside0.mk (show wtBase kk (d : Int) = A by unfold wtBase; rw [if_neg hd, HA.out])
          clear hd
          rcases Int.lt_trichotomy (d : Int) q with hq | hq | hq
          · have hq1 : decide ((d : Int) < q) = true := decide_eq_true hq
            have hV : IntKind.u64.wrap (A + Z) = A + Z := u64_in (by omega)
            have HWT := Aside0.mk (show wt kk (d : Int) = A + Z by unfold wt; rw [if_pos (by rw [HT.out, HQ.out]; exact hq), HB.out, HT.out, HZ.out])
            clear hq
            gi_wp2
            obtain ⟨fn, tmps, assign, body, hy, hR⟩ := HY.out d _ HJD.out HI.out
            simp only [HWT.out] at hy
            rw [hy]
            rw [Oper.uponIn_round]
            refine ⟨fun _ => by have := hm; omega, hR.mono ?_⟩
            rintro e W4 (⟨rfl, hks, s', rfl, hj4⟩ | ⟨rfl, hx4⟩)
            · have HJ4 := Aside0.mk hj4
              clear hks hy hR hj4
              gi_wp2
              gi_roundg (gk - 1)
              case measure => have := HK.out; have := HI.out; omega
              case rel => exact ⟨d + 1, by first | rfl | (rw [hwr]) | (simp [hwr]), ⟨by have := HK.out; have := HI.out; omega⟩, HJ4⟩
            · clear hy hR
              have HX := Aside0.mk hx4
              clear hx4
              gi_wp2
              refine bodyPost_ret (results_none rfl _ _ _) rfl ?_
              exact ⟨⟨_, rfl⟩, .inr HX.out⟩
          · have hq1 : decide ((d : Int) < q) = false := decide_eq_false (by omega)
            have hq2 : ((d : Int) == q) = true := beq_iff_eq.mpr hq
            have hV : IntKind.u64.wrap (A + N) = A + N := u64_in (by omega)
            have HWT := Aside0.mk (show wt kk (d : Int) = A + N by unfold wt; rw [if_neg (by rw [HT.out, HQ.out]; omega), if_pos (by rw [HT.out, HQ.out]; exact hq), HB.out, HT.out, HN.out])
            clear hq
            gi_wp2_with (refine ⟨trivial, ?_⟩; gi_at_call 157; refine callsIn_wide.2 ((Try.bits_Len64 t _ (by have := HT1.out; omega) (by have := HT1.out; omega)).mono ?_); rintro e w' ⟨rfl, rfl⟩; rw [HL.out])
            obtain ⟨fn, tmps, assign, body, hy, hR⟩ := HY.out d _ HJD.out HI.out
            simp only [HWT.out] at hy
            rw [hy]
            rw [Oper.uponIn_round]
            refine ⟨fun _ => by have := hm; omega, hR.mono ?_⟩
            rintro e W4 (⟨rfl, hks, s', rfl, hj4⟩ | ⟨rfl, hx4⟩)
            · have HJ4 := Aside0.mk hj4
              clear hks hy hR hj4
              gi_wp2
              gi_roundg (gk - 1)
              case measure => have := HK.out; have := HI.out; omega
              case rel => exact ⟨d + 1, by first | rfl | (rw [hwr]) | (simp [hwr]), ⟨by have := HK.out; have := HI.out; omega⟩, HJ4⟩
            · clear hy hR
              have HX := Aside0.mk hx4
              clear hx4
              gi_wp2
              refine bodyPost_ret (results_none rfl _ _ _) rfl ?_
              exact ⟨⟨_, rfl⟩, .inr HX.out⟩
          · have hq1 : decide ((d : Int) < q) = false := decide_eq_false (by omega)
            have hq2 : ((d : Int) == q) = false := beq_eq_false_iff_ne.mpr (by omega)
            have HWT := Aside0.mk (show wt kk (d : Int) = A by unfold wt; rw [if_neg (by rw [HT.out, HQ.out]; omega), if_neg (by rw [HT.out, HQ.out]; omega), HB.out])
            clear hq
            gi_wp2
            obtain ⟨fn, tmps, assign, body, hy, hR⟩ := HY.out d _ HJD.out HI.out
            simp only [HWT.out] at hy
            rw [hy]
            rw [Oper.uponIn_round]
            refine ⟨fun _ => by have := hm; omega, hR.mono ?_⟩
            rintro e W4 (⟨rfl, hks, s', rfl, hj4⟩ | ⟨rfl, hx4⟩)
            · have HJ4 := Aside0.mk hj4
              clear hks hy hR hj4
              gi_wp2
              gi_roundg (gk - 1)
              case measure => have := HK.out; have := HI.out; omega
              case rel => exact ⟨d + 1, by first | rfl | (rw [hwr]) | (simp [hwr]), ⟨by have := HK.out; have := HI.out; omega⟩, HJ4⟩
            · clear hy hR
              have HX := Aside0.mk hx4
              clear hx4
              gi_wp2
              refine bodyPost_ret (results_none rfl _ _ _) rfl ?_
              exact ⟨⟨_, rfl⟩, .inr HX.out⟩
      · have hib : decide ((d : Int) ≤ kk) = false := decide_eq_false hi
        have HI := Aside0.mk hi
        clear hi
        gi_wp2
        refine bodyPost_end (results_none rfl _ _ _) rfl ?_
        exact ⟨⟨_, rfl⟩, .inl ⟨d, HI.out, HJD.out⟩⟩
end Go.Proofs.Ytaofanhdmfdlmaa.Print

