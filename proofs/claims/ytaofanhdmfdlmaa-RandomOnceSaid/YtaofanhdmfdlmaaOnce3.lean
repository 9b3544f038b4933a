import Derived.Test.YtaofanhdmfdlmaaOnce0
import Derived.Test.YtaofanhdmfdlmaaOnce2
import Derived.RegionIn
import Derived.Sort.LoopGhostIn
import Derived.OpenShut
import Derived.RegionTactic
-- PRINTED by print.py (a twelfth state) out of the translation. Not trusted: Lean checks it.
namespace Go.Proofs.Ytaofanhdmfdlmaa.Print
open Go.RowKit Go.Proofs.YtaofanhdmfdlmaaW.PrintWords Go.Proofs.YtaofanhdmfdlmaaW.PrintLast Go.Proofs.YtaofanhdmfdlmaaW.PrintMore
attribute [local go_sem] max2_int min2_int max_two min_two max_three min_three max_four min_four   -- for this text's walks alone
set_option linter.unusedVariables false
set_option linter.unusedSimpArgs false

/-! ### random_Shuffle: function 23 -/
mutual
def random_Shuffle.l0 : Nat → Int → Int → List Int → Int → Int → Option (Int × List Int × Int)
  | 0, _, _, _, _, _ => none
  | k + 1, x0, x1, x7, x14, x15 => if x15 < x14 then (if x7.length < 17592186044416 then (random_Shuffle.l0 k x0 x1 (x7 ++ [x15]) x14 (wrap64 (x15 + 1))) else (none)) else (random_Shuffle.l1 k x0 x7 (wrap64 (x1 - 1)))
def random_Shuffle.l1 : Nat → Int → List Int → Int → Option (Int × List Int × Int)
  | 0, _, _, _ => none
  | k + 1, x0, x7, x9 => if x9 > 0 then ((random_below.f x0 (wrap64 (x9 + 1))).bind fun bt299 => (if 0 ≤ bt299.2 then (if bt299.2 < (x7.length : Int) then (if 0 ≤ x9 then (if x9 < (x7.length : Int) then (random_Shuffle.l1 k bt299.1 ((x7.set (x9 : Int).toNat (rd x7 bt299.2)).set (bt299.2 : Int).toNat (rd x7 x9)) (wrap64 (x9 - 1))) else (none)) else (none)) else (none)) else (none))) else (some (x0, x7, 0))
end
def random_Shuffle.f (k : Nat) (a0 : Int) (a1 : Int) : Option (Int × List Int × Int) := (random_sized.f a1).bind fun t295 => (if t295 = true then (random_Shuffle.l0 k a0 a1 ([] : List Int) a1 0) else (some (0, ([] : List Int), 2)))
def random_Shuffle.T14 : Bool × List (List Nat × List Nat) := (true, [([], []), ([], []), ([], []), ([], []), ([], []), ([], []), ([4, 5], [4, 5]), ([6], [6]), ([], []), ([], []), ([8, 9], [8, 9]), ([10], [10]), ([0, 1, 0, 1, 4, 5, 6, 7, 11], [0, 1]), ([12, 7, 0, 1, 4, 5, 6, 7, 11], [7, 12]), ([2, 3, 0, 1, 2, 3, 4, 5, 6, 7, 8, 9, 10, 11, 12, 13], [2, 3]), ([14, 11, 13, 0, 1, 2, 3, 4, 5, 6, 7, 8, 9, 10, 11, 12, 13], [11, 14])])
def random_Shuffle.B14 : List Nat := [0, 0, 0, 0, 0, 0, 48, 112, 0, 0, 768, 1792, 4083, 8179, 16383, 32767]
theorem random_Shuffle.tab14 : rtab .any (opsOf Try.f23 14) = random_Shuffle.T14 := by kernel_rfl
theorem random_Shuffle.bits14 : waitsOk random_Shuffle.T14.2 random_Shuffle.B14 = true := by kernel_rfl
set_option maxHeartbeats 8000000 in
set_option maxRecDepth 100000 in
theorem random_Shuffle.calls (k : Nat) (a0 : Int) (a1 : Int) (r1 : Int) (r2 : List Int) (r3 : Int) (w : World) (h : random_Shuffle.f k a0 a1 = some (r1, r2, r3)) :
    Calls Try.prog 23 #[.int .u64 a0, .int .i64 a1] w fun e w' => ∃ v1_ : Value, e = .returned (.tuple #[.int .u64 r1, v1_, .int .i64 r3]) ∧ Kd.R (Kd.int .i64) 3 w' w.heap.size (fun _ => True) v1_ r2 ∧ Below w.heap.size w w' := by
  have HB := Aside0.mk (Below.refl w.heap.size w)
  have H : ((random_sized.f a1).bind fun t295 => (if t295 = true then (random_Shuffle.l0 k a0 a1 ([] : List Int) a1 0) else (some (0, ([] : List Int), 2)))) = some (r1, r2, r3) := h
  clear h
  replace H := Option.bind_eq_some_iff.mp H
  obtain ⟨t295, A30, H⟩ := H
  replace H : (if t295 = true then (random_Shuffle.l0 k a0 a1 ([] : List Int) a1 0) else (some (0, ([] : List Int), 2))) = some (r1, r2, r3) := H
  have A3 := Aside0.mk A30
  clear A30
  by_cases c4 : t295 = true
  · subst c4
    have H1 : (random_Shuffle.l0 k a0 a1 ([] : List Int) a1 0) = some (r1, r2, r3) := by rw [if_pos rfl] at H; exact H
    clear H
    have H := H1
    clear H1
    have H' := Aside0.mk H
    clear H
    go_enter Try.func23, Try.ntmps23
    go_wp2_with (first | ((with_reducible refine gate_callee (f := 82) rfl ?_); refine goesL_ (some 12) rfl rfl Try.func82 (by kernel_rfl) rfl #[.int .i64 a1] rfl (by (try simp only [List.map_toArray, List.map_cons, List.map_nil]); first | done | rfl | (simp only [List.length_drop, List.length_take]; rfl)) ?_; (with_reducible refine (random_sized.calls a1 true _ A3.out).mono ?_); rintro e w' ⟨rfl, ⟨nd, rfl⟩⟩; refine ⟨_, rfl, ?_⟩))
    go_loopg [7, 15] k (fun kq v7 v15 w' => ∃ (x7_1 : List Int) (x15_1 : Int), v15 = .int .i64 x15_1 ∧ Aside0 (random_Shuffle.l0 kq a0 a1 x7_1 a1 x15_1 = some (r1, r2, r3)) ∧ Aside0 (kq ≤ k) ∧ Aside0 (Kd.R (Kd.int .i64) 3 w' w.heap.size (fun _ => True) v7 x7_1) ∧ Aside0 (Below w.heap.size w w'))
    case atStart => exact ⟨(([] : List Int)), (0), (by first | rfl | (simp; done) | (simp [*]; done)), H', ⟨Nat.le_refl _⟩, ⟨by first | exact Kd.R_nil _ _ _ _ _ | exact Kd.N_nil _ _ _ _ _ | exact Kd.V_nil _ _ _ _ _ | exact Kd.Q_nil _ _ _ _ _ | exact Kd.S_nil _ _ _ _ _⟩, ⟨by repeat (first | (with_reducible first | exact HB.out | apply below_alloc | apply pw_below_drewN | apply below_drew1) | exact HB.out)⟩⟩
    case round =>
      clear H'
      try clear c2
      try clear p2
      try clear c4
      obtain ⟨x7_1, x15_1, rfl, HA, HK1, HO_7, HB⟩ := hrel
      cases gk with
      | zero => exact absurd HA.out (by simp [random_Shuffle.l0])
      | succ k1 =>
        have H := HA.out
        clear HA
        simp only [random_Shuffle.l0] at H
        by_cases c5 : x15_1 < a1
        · rw [if_pos c5] at H
          have c5b0 : decide (x15_1 < a1) = true := decide_eq_true c5
          clear c5
          by_cases c6 : x7_1.length < 17592186044416
          · rw [if_pos c6] at H
            have LMc6 := Aside0.mk c6
            clear c6
            obtain ⟨y296, hy296⟩ : ∃ y_ : List Int, y_ = (x7_1 ++ [x15_1]) := ⟨_, rfl⟩
            replace H : (random_Shuffle.l0 k1 a0 a1 y296 a1 (wrap64 (x15_1 + 1))) = some (r1, r2, r3) := by first | (rw [hy296]; with_reducible exact H) | (have H2_ := (Option.bind_some _ _).symm.trans H; rw [hy296]; with_reducible exact H2_) | (have H2_ := (Option.bind_some _ _).symm.trans H; with_reducible exact H2_) | with_reducible exact H | (rw [hy296]; exact H) | exact H
            have Ny296 := Aside0.mk hy296
            clear hy296
            have H' := Aside0.mk H
            clear H
            go_wp2_with (first | ((with_reducible refine gate_builtin (b := .append) (xs := #[.tmp 18, .tmp 20]) rfl ?_); at_builtin; refine Kd.R_append (Kd.int .i64) (w0 := w) w.heap.size rfl (.tmp 18) (.tmp 20) 40 3 (.int .i64 0) 8 rfl Try.underlying40 info3 rfl (by decide) (by omega) u7 x7_1 x15_1 [.int .i64 x15_1] (fun _ => True) (fun _ => False) rfl rfl ?aP (fun _ hk => hk.elim) ?aF ?aO ?aB ?aS ?aL ?_; (case aP => exact rfl); (case aB => exact (by repeat (first | (with_reducible first | exact HB.out | apply below_alloc | apply pw_below_drewN | apply below_drew1) | exact HB.out))); (case aF => exact (fun _ _ => trivial)); (case aO => exact (by (with_reducible repeat (first | apply Kd.R_alloc | apply Kd.R_drewN | apply Kd.R_drew)); exact HO_7.out)); (case aS => exact (below_size (by repeat (first | (with_reducible first | exact HB.out | apply below_alloc | apply pw_below_drewN | apply below_drew1) | exact HB.out)))); (case aL => have := LMc6.out; omega); intro v297 w7 ho hb hg hat; rw [← Ny296.out] at ho; have n0_ := Aside0.mk (hb); have n1_ := Aside0.mk (ho); clear HB; clear HO_7; have HB := n0_; have HO298 := n1_; clear n0_ n1_; clear ho hb hg hat))
            go_roundg k1
            case measure => have := HK1.out; omega
            case rel => exact ⟨(y296), (wrap64 (x15_1 + 1)), (by first | rfl | (simp; done) | (simp [*]; done)), H', ⟨by have := HK1.out; omega⟩, ⟨by (with_reducible repeat (first | apply Kd.R_alloc | apply Kd.R_drewN | apply Kd.R_drew)); exact HO298.out⟩, ⟨by repeat (first | (with_reducible first | exact HB.out | apply below_alloc | apply pw_below_drewN | apply below_drew1) | exact HB.out)⟩⟩
          · rw [if_neg c6] at H
            exact absurd H (by simp)
        · rw [if_neg c5] at H
          have c5b0 : decide (x15_1 < a1) = false := decide_eq_false c5
          clear c5
          have H' := Aside0.mk H
          clear H
          go_wp2
          go_loopg [0, 9] k1 (fun kq v0 v9 w' => ∃ (x0_2 : Int) (x7_2 : List Int) (x9_2 : Int), v0 = .int .u64 x0_2 ∧ v9 = .int .i64 x9_2 ∧ Aside0 (random_Shuffle.l1 kq x0_2 x7_2 x9_2 = some (r1, r2, r3)) ∧ Aside0 (kq ≤ k1) ∧ Aside0 (Kd.R (Kd.int .i64) 3 w' w.heap.size (fun _ => True) u7 x7_2) ∧ Aside0 (Below w.heap.size w w'))
          case atStart => exact ⟨(a0), (x7_1), (wrap64 (a1 - 1)), (by first | rfl | (simp; done) | (simp [*]; done)), (by first | rfl | (simp; done) | (simp [*]; done)), H', ⟨Nat.le_refl _⟩, ⟨by (with_reducible repeat (first | apply Kd.R_alloc | apply Kd.R_drewN | apply Kd.R_drew)); exact HO_7.out⟩, ⟨by repeat (first | (with_reducible first | exact HB.out | apply below_alloc | apply pw_below_drewN | apply below_drew1) | exact HB.out)⟩⟩
          case round =>
            clear H'
            try clear c2
            try clear p2
            try clear c4
            try clear c5
            try clear c5b0
            try clear c6
            try clear p6
            try clear p2
            obtain ⟨x0_2, x7_2, x9_2, rfl, rfl, HA, HK2, HO_7, HB⟩ := hrel
            cases gk with
            | zero => exact absurd HA.out (by simp [random_Shuffle.l1])
            | succ k2 =>
              have H := HA.out
              clear HA
              simp only [random_Shuffle.l1] at H
              by_cases c8 : x9_2 > 0
              · rw [if_pos c8] at H
                have c8b0 : decide (0 < x9_2) = true := decide_eq_true c8
                clear c8
                replace H := Option.bind_eq_some_iff.mp H
                obtain ⟨⟨t299, t300⟩, A90, H⟩ := H
                replace H : (if 0 ≤ t300 then (if t300 < (x7_2.length : Int) then (if 0 ≤ x9_2 then (if x9_2 < (x7_2.length : Int) then (random_Shuffle.l1 k2 t299 ((x7_2.set (x9_2 : Int).toNat (rd x7_2 t300)).set (t300 : Int).toNat (rd x7_2 x9_2)) (wrap64 (x9_2 - 1))) else (none)) else (none)) else (none)) else (none)) = some (r1, r2, r3) := H
                have A9 := Aside0.mk A90
                clear A90
                by_cases c10 : 0 ≤ t300
                · rw [if_pos c10] at H
                  have c10b0 : decide (0 ≤ t300) = true := decide_eq_true c10
                  clear c10
                  by_cases c11 : t300 < (x7_2.length : Int)
                  · rw [if_pos c11] at H
                    have c11b0 : decide (t300 < (x7_2.length : Int)) = true := decide_eq_true c11
                    clear c11
                    by_cases c12 : 0 ≤ x9_2
                    · rw [if_pos c12] at H
                      have c12b0 : decide (0 ≤ x9_2) = true := decide_eq_true c12
                      clear c12
                      by_cases c13 : x9_2 < (x7_2.length : Int)
                      · rw [if_pos c13] at H
                        have c13b0 : decide (x9_2 < (x7_2.length : Int)) = true := decide_eq_true c13
                        clear c13
                        obtain ⟨y303, hy303⟩ : ∃ y_ : List Int, y_ = (x7_2.set (x9_2 : Int).toNat (rd x7_2 t300)) := ⟨_, rfl⟩
                        replace H : (random_Shuffle.l1 k2 t299 (y303.set (t300 : Int).toNat (rd x7_2 x9_2)) (wrap64 (x9_2 - 1))) = some (r1, r2, r3) := by first | (rw [hy303]; with_reducible exact H) | (have H2_ := (Option.bind_some _ _).symm.trans H; rw [hy303]; with_reducible exact H2_) | (have H2_ := (Option.bind_some _ _).symm.trans H; with_reducible exact H2_) | with_reducible exact H | (rw [hy303]; exact H) | exact H
                        have Ny303 := Aside0.mk hy303
                        clear hy303
                        obtain ⟨y304, hy304⟩ : ∃ y_ : List Int, y_ = (y303.set (t300 : Int).toNat (rd x7_2 x9_2)) := ⟨_, rfl⟩
                        replace H : (random_Shuffle.l1 k2 t299 y304 (wrap64 (x9_2 - 1))) = some (r1, r2, r3) := by first | (rw [hy304]; with_reducible exact H) | (have H2_ := (Option.bind_some _ _).symm.trans H; rw [hy304]; with_reducible exact H2_) | (have H2_ := (Option.bind_some _ _).symm.trans H; with_reducible exact H2_) | with_reducible exact H | (rw [hy304]; exact H) | exact H
                        have Ny304 := Aside0.mk hy304
                        clear hy304
                        have H' := Aside0.mk H
                        clear H
                        try go_wp2_with (first | ((with_reducible refine gate_callee (f := 83) rfl ?_); refine goesL_ (some 33) rfl rfl Try.func83 (by kernel_rfl) rfl #[.int .u64 x0_2, .int .i64 (wrap64 (x9_2 + 1))] rfl (by (try simp only [List.map_toArray, List.map_cons, List.map_nil]); first | done | rfl | (simp only [List.length_drop, List.length_take]; rfl)) ?_; (with_reducible refine (random_below.calls x0_2 (wrap64 (x9_2 + 1)) t299 t300 _ A9.out).mono ?_); rintro e w16 ⟨rfl, hb⟩; refine ⟨_, rfl, ?_⟩; have n0_ := Aside0.mk (Kd.R_below (by (with_reducible repeat (first | apply Kd.R_alloc | apply Kd.R_drewN | apply Kd.R_drew)); exact HO_7.out) hb); have n1_ := Aside0.mk (below_step (by repeat (first | (with_reducible first | exact HB.out | apply below_alloc | apply pw_below_drewN | apply below_drew1) | exact HB.out)) hb); clear HO_7; clear HB; have HO_7 := n0_; have HB := n1_; clear n0_ n1_; (try clear hb); (try clear hb2); (try clear hk); (try clear hi)))
                        have n0_ := Aside0.mk (Kd.R_drew HO_7.out)
                        have n1_ := Aside0.mk (below_drew1 HB.out)
                        clear HO_7
                        clear HB
                        have HO_7 := n0_
                        have HB := n1_
                        clear n0_ n1_
                        obtain ⟨Ao18, co18, eo18⟩ := Kd.R_slice HO_7.out
                        (first | subst eo18 | (injection eo18 with f1_ f2_ f3_; have f4_ := f1_.symm; have f5_ := f3_.symm; clear f1_ f2_ f3_; subst f4_; subst f5_))
                        have p301 : 0 ≤ (t300 : Int) := of_decide_eq_true (by first | (with_reducible assumption) | assumption)
                        have q301 : t300 < (x7_2.length : Int) := of_decide_eq_true (by first | (with_reducible assumption) | assumption)
                        obtain ⟨ad301, e301, hx301_0⟩ := Kd.at_int (Kd.R_reads' HO_7.out).2.2 t300 p301 q301
                        cases e301
                        replace p301 := eq_true p301
                        replace q301 := eq_true q301
                        have p302 : 0 ≤ (x9_2 : Int) := of_decide_eq_true (by first | (with_reducible assumption) | assumption)
                        have q302 : x9_2 < (x7_2.length : Int) := of_decide_eq_true (by first | (with_reducible assumption) | assumption)
                        obtain ⟨ad302, e302, hx302_0⟩ := Kd.at_int (Kd.R_reads' HO_7.out).2.2 x9_2 p302 q302
                        obtain rfl : ad301 = ad302 := (by injection e302)
                        replace p302 := eq_true p302
                        replace q302 := eq_true q302
                        have p14 : 0 ≤ (x9_2 : Int) := of_decide_eq_true (by first | (with_reducible assumption) | assumption)
                        have q14 : (x9_2 : Int) < ((x7_2.length : Int) : Int) := of_decide_eq_true (by first | (with_reducible assumption) | assumption)
                        obtain ⟨go14, co14, eo14, gb14, gl14, cl14, HG14⟩ := Kd.R_form HO_7.out (by omega)
                        (first | cases eo14 | (injection eo14 with ea_ en_ ec_; (first | subst ea_ | (injection ea_ with ea_; subst ea_)); subst ec_; clear en_))
                        have GB14 := Aside0.mk gb14
                        have GG14 := Aside0.mk HG14
                        clear gb14 gl14 HG14
                        (first | simp only [add_plain] at hx301_0 | skip)
                        (first | simp only [add_plain] at hx302_0 | skip)
                        obtain ⟨hx14_0, hf14_0⟩ := Kd.R_celln 0 HO_7.out (x9_2 : Int) p14 q14
                        replace p14 := eq_true p14
                        replace q14 := eq_true q14
                        have HP19 := Kd.R_putn HO_7.out (x9_2 : Int) (rd x7_2 t300)
                        rw [← Ny303.out] at HP19
                        have HQ19 := Aside0.mk HP19
                        clear HP19
                        have p15 : 0 ≤ (t300 : Int) := of_decide_eq_true (by first | (with_reducible assumption) | assumption)
                        have q15 : (t300 : Int) < ((x7_2.length : Int) : Int) := of_decide_eq_true (by first | (with_reducible assumption) | assumption)
                        obtain ⟨hx15_0, hf15_0⟩ := Kd.R_celln 0 HQ19.out (t300 : Int) p15 q15
                        replace p15 := eq_true p15
                        replace q15 := eq_true q15
                        have HP20 := Kd.R_putn HQ19.out (t300 : Int) (rd x7_2 x9_2)
                        rw [← Ny304.out] at HP20
                        have HQ20 := Aside0.mk HP20
                        clear HP20
                        refine start_ (n := 16) (S := fun w' => w'.cell? ⟨go14, (t300).toNat, none⟩ = some (.int .i64 (rd x7_2 t300)) ∧ w'.cell? ⟨go14, (x9_2).toNat, none⟩ = some (.int .i64 (rd x7_2 x9_2))) (ds := [13, 15]) #[false, false, false, false, false, false, false, false, false, false, false, false, false, false, false, false] (by kernel_rfl) rfl rfl ⟨hx301_0, hx302_0⟩ (fun hHeld => ?_); refine with_tabW random_Shuffle.tab14 random_Shuffle.bits14 (fun HT_ HW_ => ?_)
                        generalize w16.drew = w17 at HO_7 HB GG14 HQ19 HQ20 hf14_0 hf15_0 hx14_0 hx15_0 hx301_0 hx302_0 hHeld ⊢
                        refine pure_ (i := 0) (N := some 36) (v := ?_) (a' := ?_) #[true, false, false, false, false, false, false, false, false, false, false, false, false, false, false, false] rfl rfl (any_of HT_.out (by kernel_rfl)) (fun _ _ _ h => h) (Or.inl ⟨by rfl, ?_⟩) ?_ ?_
                        rotate_left
                        · intro w'
                          go_simp
                          with_reducible rfl
                        rotate_left
                        · simp only [Act.put, List.setIfInBounds_toArray, List.set_cons_zero, List.set_cons_succ, i64_w, i32_w]
                          rfl
                        refine pure_ (i := 1) (N := some 37) (v := ?_) (a' := ?_) #[true, true, false, false, false, false, false, false, false, false, false, false, false, false, false, false] rfl rfl (any_of HT_.out (by kernel_rfl)) (fun _ _ _ h => h) (Or.inl ⟨by rfl, ?_⟩) ?_ ?_
                        rotate_left
                        · intro w'
                          go_simp
                          with_reducible rfl
                        rotate_left
                        · simp only [Act.put, List.setIfInBounds_toArray, List.set_cons_zero, List.set_cons_succ, i64_w, i32_w]
                          rfl
                        refine pure_ (i := 2) (N := some 38) (v := ?_) (a' := ?_) #[true, true, true, false, false, false, false, false, false, false, false, false, false, false, false, false] rfl rfl (any_of HT_.out (by kernel_rfl)) (fun _ _ _ h => h) (Or.inl ⟨by rfl, ?_⟩) ?_ ?_
                        rotate_left
                        · intro w'
                          go_simp
                          with_reducible rfl
                        rotate_left
                        · simp only [Act.put, List.setIfInBounds_toArray, List.set_cons_zero, List.set_cons_succ, i64_w, i32_w]
                          rfl
                        refine pure_ (i := 3) (N := some 39) (v := ?_) (a' := ?_) #[true, true, true, true, false, false, false, false, false, false, false, false, false, false, false, false] rfl rfl (any_of HT_.out (by kernel_rfl)) (fun _ _ _ h => h) (Or.inl ⟨by rfl, ?_⟩) ?_ ?_
                        rotate_left
                        · intro w'
                          go_simp
                          with_reducible rfl
                        rotate_left
                        · simp only [Act.put, List.setIfInBounds_toArray, List.set_cons_zero, List.set_cons_succ, i64_w, i32_w]
                          rfl
                        refine pure_ (i := 4) (N := some 40) (v := ?_) (a' := ?_) #[true, true, true, true, true, false, false, false, false, false, false, false, false, false, false, false] rfl rfl (any_of HT_.out (by kernel_rfl)) (fun _ _ _ h => h) (Or.inl ⟨by rfl, ?_⟩) ?_ ?_
                        rotate_left
                        · intro w'
                          go_simp
                          with_reducible rfl
                        rotate_left
                        · simp only [Act.put, List.setIfInBounds_toArray, List.set_cons_zero, List.set_cons_succ, i64_w, i32_w]
                          rfl
                        refine pure_ (i := 5) (N := some 41) (v := ?_) (a' := ?_) #[true, true, true, true, true, true, false, false, false, false, false, false, false, false, false, false] rfl rfl (any_of HT_.out (by kernel_rfl)) (fun _ _ _ h => h) (Or.inl ⟨by rfl, ?_⟩) ?_ ?_
                        rotate_left
                        · intro w'
                          go_simp
                          with_reducible rfl
                        rotate_left
                        · simp only [Act.put, List.setIfInBounds_toArray, List.set_cons_zero, List.set_cons_succ, i64_w, i32_w]
                          rfl
                        refine pure_ (i := 6) (N := some 42) (v := ?_) (a' := ?_) #[true, true, true, true, true, true, true, false, false, false, false, false, false, false, false, false] rfl rfl (any_of HT_.out (by kernel_rfl)) (fun _ _ _ h => h) (Or.inl ⟨by rfl, ?_⟩) ?_ ?_
                        rotate_left
                        · intro w'
                          go_simp
                          with_reducible rfl
                        rotate_left
                        · simp only [Act.put, List.setIfInBounds_toArray, List.set_cons_zero, List.set_cons_succ, i64_w, i32_w]
                          rfl
                        refine pure_ (i := 8) (N := some 44) (v := ?_) (a' := ?_) #[true, true, true, true, true, true, true, false, true, false, false, false, false, false, false, false] rfl rfl (any_of HT_.out (by kernel_rfl)) (fun _ _ _ h => h) (Or.inl ⟨by rfl, ?_⟩) ?_ ?_
                        rotate_left
                        · intro w'
                          go_simp
                          with_reducible rfl
                        rotate_left
                        · simp only [Act.put, List.setIfInBounds_toArray, List.set_cons_zero, List.set_cons_succ, i64_w, i32_w]
                          rfl
                        refine pure_ (i := 9) (N := some 45) (v := ?_) (a' := ?_) #[true, true, true, true, true, true, true, false, true, true, false, false, false, false, false, false] rfl rfl (any_of HT_.out (by kernel_rfl)) (fun _ _ _ h => h) (Or.inl ⟨by rfl, ?_⟩) ?_ ?_
                        rotate_left
                        · intro w'
                          go_simp
                          with_reducible rfl
                        rotate_left
                        · simp only [Act.put, List.setIfInBounds_toArray, List.set_cons_zero, List.set_cons_succ, i64_w, i32_w]
                          rfl
                        refine pure_ (i := 10) (N := some 46) (v := ?_) (a' := ?_) #[true, true, true, true, true, true, true, false, true, true, true, false, false, false, false, false] rfl rfl (any_of HT_.out (by kernel_rfl)) (fun _ _ _ h => h) (Or.inl ⟨by rfl, ?_⟩) ?_ ?_
                        rotate_left
                        · intro w'
                          go_simp
                          with_reducible rfl
                        rotate_left
                        · simp only [Act.put, List.setIfInBounds_toArray, List.set_cons_zero, List.set_cons_succ, i64_w, i32_w]
                          rfl
                        refine take_ (i := 7) (N := some 43) (v := ?_) (a' := ?_) #[true, true, true, true, true, true, true, true, true, true, true, false, false, false, false, false] rfl rfl (take_ofW HT_.out HW_.out (by kernel_rfl)) (fun _ _ _ h => h) (Or.inl ⟨by rfl, ?_⟩) hHeld ?_ ?_
                        rotate_left
                        · rintro w' ⟨s0, s1⟩
                          go_simp
                          with_reducible rfl
                        rotate_left
                        · simp only [Act.put, List.setIfInBounds_toArray, List.set_cons_zero, List.set_cons_succ, i64_w, i32_w]
                          rfl
                        refine take_ (i := 11) (N := some 47) (v := ?_) (a' := ?_) #[true, true, true, true, true, true, true, true, true, true, true, true, false, false, false, false] rfl rfl (take_ofW HT_.out HW_.out (by kernel_rfl)) (fun _ _ _ h => h) (Or.inl ⟨by rfl, ?_⟩) hHeld ?_ ?_
                        rotate_left
                        · rintro w' ⟨s0, s1⟩
                          go_simp
                          with_reducible rfl
                        rotate_left
                        · simp only [Act.put, List.setIfInBounds_toArray, List.set_cons_zero, List.set_cons_succ, i64_w, i32_w]
                          rfl
                        refine pure_ (i := 12) (N := some 48) (v := ?_) (a' := ?_) #[true, true, true, true, true, true, true, true, true, true, true, true, true, false, false, false] rfl rfl (any_of HT_.out (by kernel_rfl)) (fun _ _ _ h => h) (Or.inl ⟨by rfl, ?_⟩) ?_ ?_
                        rotate_left
                        · intro w'
                          go_simp
                          with_reducible rfl
                        rotate_left
                        · simp only [Act.put, List.setIfInBounds_toArray, List.set_cons_zero, List.set_cons_succ, i64_w, i32_w]
                          rfl
                        refine last_ (i := 13) (N := none) #[true, true, true, true, true, true, true, true, true, true, true, true, true, true, false, false] rfl rfl (one_of HT_.out (by kernel_rfl)) (by decide) (fun K hK => ?_)
                        refine skip_ (w1 := ?_) (by rfl) rfl ?_ ?_
                        rotate_left
                        · go_simp
                          rfl
                        refine hK.out _ _ ?_
                        clear hK K
                        refine pure_ (i := 14) (N := some 49) (v := ?_) (a' := ?_) #[true, true, true, true, true, true, true, true, true, true, true, true, true, true, true, false] rfl rfl (any_of HT_.out (by kernel_rfl)) (fun _ _ _ h => h) (Or.inl ⟨by rfl, ?_⟩) ?_ ?_
                        rotate_left
                        · intro w'
                          go_simp
                          with_reducible rfl
                        rotate_left
                        · simp only [Act.put, List.setIfInBounds_toArray, List.set_cons_zero, List.set_cons_succ, i64_w, i32_w]
                          rfl
                        refine last_ (i := 15) (N := none) #[true, true, true, true, true, true, true, true, true, true, true, true, true, true, true, true] rfl rfl (one_of HT_.out (by kernel_rfl)) (by decide) (fun K hK => ?_)
                        refine skip_ (w1 := ?_) (by rfl) rfl ?_ ?_
                        rotate_left
                        · go_simp
                          rfl
                        refine hK.out _ _ ?_
                        clear hK K
                        refine done_ (done_of HT_.out (by kernel_rfl)) ?_
                        try go_wp2
                        go_roundg k2
                        case measure => have := HK1.out; have := HK2.out; omega
                        case rel => exact ⟨(t299), (y304), (wrap64 (x9_2 - 1)), (by first | rfl | (simp; done) | (simp [*]; done)), (by first | rfl | (simp; done) | (simp [*]; done)), H', ⟨by have := HK1.out; have := HK2.out; omega⟩, ⟨by (with_reducible repeat (first | apply Kd.R_alloc | apply Kd.R_drewN | apply Kd.R_drew)); exact HQ20.out⟩, ⟨by repeat (first | (with_reducible first | exact HB.out | apply below_alloc | apply pw_below_drewN | apply below_drew1 | refine below_set ?_ GB14.out | refine below_set ?_ GB14.out) | exact HB.out)⟩⟩
                      · rw [if_neg c13] at H
                        exact absurd H (by simp)
                    · rw [if_neg c12] at H
                      exact absurd H (by simp)
                  · rw [if_neg c11] at H
                    exact absurd H (by simp)
                · rw [if_neg c10] at H
                  exact absurd H (by simp)
              · rw [if_neg c8] at H
                have c8b0 : decide (0 < x9_2) = false := decide_eq_false c8
                clear c8
                simp only [Option.some.injEq, Prod.mk.injEq] at H
                obtain ⟨rfl, rfl, rfl⟩ := H
                go_wp2
                go_ret3
                exact ⟨_, by first | rfl | (simp [errW_none, errW_some] <;> rfl) | (simp [*, errW_none, errW_some] <;> rfl), by (with_reducible repeat (first | apply Kd.R_alloc | apply Kd.R_drewN | apply Kd.R_drew)); exact HO_7.out, by repeat (first | (with_reducible first | exact HB.out | apply below_alloc | apply pw_below_drewN | apply below_drew1) | exact HB.out)⟩
  · replace c4 := Bool.eq_false_iff.mpr c4
    subst c4
    have H1 : (some (0, ([] : List Int), 2)) = some (r1, r2, r3) := by rw [if_neg (show ¬ (false = true) by decide)] at H; exact H
    clear H
    have H := H1
    clear H1
    simp only [Option.some.injEq, Prod.mk.injEq] at H
    obtain ⟨rfl, rfl, rfl⟩ := H
    go_enter Try.func23, Try.ntmps23
    go_wp2_with (first | ((with_reducible refine gate_callee (f := 82) rfl ?_); refine goesL_ (some 12) rfl rfl Try.func82 (by kernel_rfl) rfl #[.int .i64 a1] rfl (by (try simp only [List.map_toArray, List.map_cons, List.map_nil]); first | done | rfl | (simp only [List.length_drop, List.length_take]; rfl)) ?_; (with_reducible refine (random_sized.calls a1 false _ A3.out).mono ?_); rintro e w' ⟨rfl, ⟨nd, rfl⟩⟩; refine ⟨_, rfl, ?_⟩))
    go_ret3
    exact ⟨_, by first | rfl | (simp [errW_none, errW_some] <;> rfl) | (simp [*, errW_none, errW_some] <;> rfl), by first | exact Kd.R_nil _ _ _ _ _ | exact Kd.N_nil _ _ _ _ _ | exact Kd.V_nil _ _ _ _ _ | exact Kd.Q_nil _ _ _ _ _ | exact Kd.S_nil _ _ _ _ _, by repeat (first | (with_reducible first | exact HB.out | apply below_alloc | apply pw_below_drewN | apply below_drew1) | exact HB.out)⟩

/-! ### downpourlaw06_alive: function 25 -/
def downpourlaw06_alive.f (k : Nat)  : Option (Bool) := (random_Shuffle.f k 5 1).bind fun bt424 => (if bt424.2.2 = 0 then (some ((bt424.2.1.length : Int) == 1)) else (some false))
set_option maxHeartbeats 8000000 in
set_option maxRecDepth 100000 in
theorem downpourlaw06_alive.calls (k : Nat)  (r : Bool) (w : World) (h : downpourlaw06_alive.f k  = some r) :
    Calls Try.prog 25 #[] w fun e w' => e = .returned (.bool r) ∧ Below w.heap.size w w' := by
  have HB := Aside0.mk (Below.refl w.heap.size w)
  have H : ((random_Shuffle.f k 5 1).bind fun bt424 => (if bt424.2.2 = 0 then (some ((bt424.2.1.length : Int) == 1)) else (some false))) = some r := h
  clear h
  replace H := Option.bind_eq_some_iff.mp H
  obtain ⟨⟨t424, t425, t426⟩, A10, H⟩ := H
  replace H : (if t426 = 0 then (some ((t425.length : Int) == 1)) else (some false)) = some r := H
  have A1 := Aside0.mk A10
  clear A10
  by_cases c2 : t426 = 0
  · rw [if_pos c2] at H
    have c2b0 : (t426 == 0) = true := beq_iff_eq.mpr c2
    have c2b1 : (t426 != 0) = false := bne_eq_false_iff_eq.mpr c2
    clear c2
    obtain rfl := Option.some.inj H
    go_enter Try.func25, Try.ntmps25
    go_wp2_with (first | ((with_reducible refine gate_callee (f := 23) rfl ?_); refine goesL_ (some 5) rfl rfl Try.func23 (by kernel_rfl) rfl #[.int .u64 5, .int .i64 1] rfl (by (try simp only [List.map_toArray, List.map_cons, List.map_nil]); first | done | rfl | (simp only [List.length_drop, List.length_take]; rfl)) ?_; (with_reducible refine (random_Shuffle.calls k 5 1 t424 t425 t426 _ A1.out).mono ?_); rintro e w3 ⟨v427, rfl, ho0, hb⟩; refine ⟨_, rfl, ?_⟩; have n0_ := Aside0.mk (Kd.R_lower ho0 (below_size (by repeat (first | (with_reducible first | exact HB.out | apply below_alloc | apply pw_below_drewN | apply below_drew1) | exact HB.out)))); have n1_ := Aside0.mk (below_step (by repeat (first | (with_reducible first | exact HB.out | apply below_alloc | apply pw_below_drewN | apply below_drew1) | exact HB.out)) hb); clear HB; have HO428 := n0_; have HB := n1_; clear n0_ n1_; (try clear hb); (try clear hb2); (try clear hk); (try clear hi); (try clear ho0); obtain ⟨Ao4, co4, eo4⟩ := Kd.R_slice HO428.out; subst eo4))
    go_ret
    exact ⟨by first | rfl | (simp [errW_none, errW_some] <;> rfl) | (simp [*, errW_none, errW_some] <;> rfl), by repeat (first | (with_reducible first | exact HB.out | apply below_alloc | apply pw_below_drewN | apply below_drew1) | exact HB.out)⟩
  · rw [if_neg c2] at H
    have c2b0 : (t426 == 0) = false := beq_eq_false_iff_ne.mpr c2
    have c2b1 : (t426 != 0) = true := bne_iff_ne.mpr c2
    obtain rfl := Option.some.inj H
    go_enter Try.func25, Try.ntmps25
    go_wp2_with (first | ((with_reducible refine gate_callee (f := 23) rfl ?_); refine goesL_ (some 5) rfl rfl Try.func23 (by kernel_rfl) rfl #[.int .u64 5, .int .i64 1] rfl (by (try simp only [List.map_toArray, List.map_cons, List.map_nil]); first | done | rfl | (simp only [List.length_drop, List.length_take]; rfl)) ?_; (with_reducible refine (random_Shuffle.calls k 5 1 t424 t425 t426 _ A1.out).mono ?_); rintro e w5 ⟨v427, rfl, ho0, hb⟩; refine ⟨_, rfl, ?_⟩; have n0_ := Aside0.mk (Kd.R_lower ho0 (below_size (by repeat (first | (with_reducible first | exact HB.out | apply below_alloc | apply pw_below_drewN | apply below_drew1) | exact HB.out)))); have n1_ := Aside0.mk (below_step (by repeat (first | (with_reducible first | exact HB.out | apply below_alloc | apply pw_below_drewN | apply below_drew1) | exact HB.out)) hb); clear HB; have HO428 := n0_; have HB := n1_; clear n0_ n1_; (try clear hb); (try clear hb2); (try clear hk); (try clear hi); (try clear ho0)))
    go_ret
    exact ⟨by first | rfl | (simp [errW_none, errW_some] <;> rfl) | (simp [*, errW_none, errW_some] <;> rfl), by repeat (first | (with_reducible first | exact HB.out | apply below_alloc | apply pw_below_drewN | apply below_drew1) | exact HB.out)⟩

/-! ### random_Below: function 52 -/
def random_Below.f (a0 : Int) (a1 : Int) : Option (Int × Int × Int) := (random_sized.f a1).bind fun t679 => (if t679 = true then ((random_below.f a0 a1).bind fun bt680 => (some (bt680.1, bt680.2, 0))) else (some (0, 0, 2)))
set_option maxHeartbeats 8000000 in
set_option maxRecDepth 100000 in
theorem random_Below.calls (a0 : Int) (a1 : Int) (r1 : Int) (r2 : Int) (r3 : Int) (w : World) (h : random_Below.f a0 a1 = some (r1, r2, r3)) :
    Calls Try.prog 52 #[.int .u64 a0, .int .i64 a1] w fun e w' => e = .returned (.tuple #[.int .u64 r1, .int .i64 r2, .int .i64 r3]) ∧ Below w.heap.size w w' := by
  have HB := Aside0.mk (Below.refl w.heap.size w)
  have H : ((random_sized.f a1).bind fun t679 => (if t679 = true then ((random_below.f a0 a1).bind fun bt680 => (some (bt680.1, bt680.2, 0))) else (some (0, 0, 2)))) = some (r1, r2, r3) := h
  clear h
  replace H := Option.bind_eq_some_iff.mp H
  obtain ⟨t679, A30, H⟩ := H
  replace H : (if t679 = true then ((random_below.f a0 a1).bind fun bt680 => (some (bt680.1, bt680.2, 0))) else (some (0, 0, 2))) = some (r1, r2, r3) := H
  have A3 := Aside0.mk A30
  clear A30
  by_cases c4 : t679 = true
  · subst c4
    have H1 : ((random_below.f a0 a1).bind fun bt680 => (some (bt680.1, bt680.2, 0))) = some (r1, r2, r3) := by rw [if_pos rfl] at H; exact H
    clear H
    have H := H1
    clear H1
    replace H := Option.bind_eq_some_iff.mp H
    obtain ⟨⟨t680, t681⟩, A50, H⟩ := H
    replace H : (some (t680, t681, 0)) = some (r1, r2, r3) := H
    have A5 := Aside0.mk A50
    clear A50
    simp only [Option.some.injEq, Prod.mk.injEq] at H
    obtain ⟨rfl, rfl, rfl⟩ := H
    go_enter Try.func52, Try.ntmps52
    go_wp2_with (first | ((with_reducible refine gate_callee (f := 82) rfl ?_); refine goesL_ (some 10) rfl rfl Try.func82 (by kernel_rfl) rfl #[.int .i64 a1] rfl (by (try simp only [List.map_toArray, List.map_cons, List.map_nil]); first | done | rfl | (simp only [List.length_drop, List.length_take]; rfl)) ?_; (with_reducible refine (random_sized.calls a1 true _ A3.out).mono ?_); rintro e w' ⟨rfl, ⟨nd, rfl⟩⟩; refine ⟨_, rfl, ?_⟩) | ((with_reducible refine gate_callee (f := 83) rfl ?_); refine goesL_ (some 15) rfl rfl Try.func83 (by kernel_rfl) rfl #[.int .u64 a0, .int .i64 a1] rfl (by (try simp only [List.map_toArray, List.map_cons, List.map_nil]); first | done | rfl | (simp only [List.length_drop, List.length_take]; rfl)) ?_; (with_reducible refine (random_below.calls a0 a1 t680 t681 _ A5.out).mono ?_); rintro e w6 ⟨rfl, hb⟩; refine ⟨_, rfl, ?_⟩; have n0_ := Aside0.mk (below_step (by repeat (first | (with_reducible first | exact HB.out | apply below_alloc | apply pw_below_drewN | apply below_drew1) | exact HB.out)) hb); clear HB; have HB := n0_; clear n0_; (try clear hb); (try clear hb2); (try clear hk); (try clear hi)))
    go_ret3
    exact ⟨by first | rfl | (simp [errW_none, errW_some] <;> rfl) | (simp [*, errW_none, errW_some] <;> rfl), by repeat (first | (with_reducible first | exact HB.out | apply below_alloc | apply pw_below_drewN | apply below_drew1) | exact HB.out)⟩
  · replace c4 := Bool.eq_false_iff.mpr c4
    subst c4
    have H1 : (some (0, 0, 2)) = some (r1, r2, r3) := by rw [if_neg (show ¬ (false = true) by decide)] at H; exact H
    clear H
    have H := H1
    clear H1
    simp only [Option.some.injEq, Prod.mk.injEq] at H
    obtain ⟨rfl, rfl, rfl⟩ := H
    go_enter Try.func52, Try.ntmps52
    go_wp2_with (first | ((with_reducible refine gate_callee (f := 82) rfl ?_); refine goesL_ (some 10) rfl rfl Try.func82 (by kernel_rfl) rfl #[.int .i64 a1] rfl (by (try simp only [List.map_toArray, List.map_cons, List.map_nil]); first | done | rfl | (simp only [List.length_drop, List.length_take]; rfl)) ?_; (with_reducible refine (random_sized.calls a1 false _ A3.out).mono ?_); rintro e w' ⟨rfl, ⟨nd, rfl⟩⟩; refine ⟨_, rfl, ?_⟩))
    go_ret3
    exact ⟨by first | rfl | (simp [errW_none, errW_some] <;> rfl) | (simp [*, errW_none, errW_some] <;> rfl), by repeat (first | (with_reducible first | exact HB.out | apply below_alloc | apply pw_below_drewN | apply below_drew1) | exact HB.out)⟩

end Go.Proofs.Ytaofanhdmfdlmaa.Print

-- PRINTED by print.py (a twelfth state) out of the translation. Not trusted: Lean checks it.
namespace Go.Proofs.Ytaofanhdmfdlmaa.Print
open Go.RowKit Go.Proofs.YtaofanhdmfdlmaaW.PrintWords Go.Proofs.YtaofanhdmfdlmaaW.PrintLast Go.Proofs.YtaofanhdmfdlmaaW.PrintMore
attribute [local go_sem] max2_int min2_int max_two min_two max_three min_three max_four min_four   -- for this text's walks alone
set_option linter.unusedVariables false
set_option linter.unusedSimpArgs false

/-! ### downpourref06_Shuffle: function 26 -/
/-! ### downpourref01_Numbers: function 27 -/
/-! ### downpourref06_in: function 86 -/
/-! ### downpourref06_Some: function 28 -/
/-! ### slices_Index_int_int: function 87 -/
def slices_Index_int_int.l0 : Nat → List Int → Int → Int → Int → Option (Int)
  | 0, _, _, _, _ => none
  | k + 1, x0, x1, x7, x8 => if x8 < x7 then (if 0 ≤ x8 then (if x8 < (x0.length : Int) then (if x1 = (rd x0 x8) then (some x8) else (slices_Index_int_int.l0 k x0 x1 x7 (wrap64 (x8 + 1)))) else (none)) else (none)) else (some (-1))
def slices_Index_int_int.f (k : Nat) (l0 : List Int) (a1 : Int) : Option (Int) := slices_Index_int_int.l0 k l0 a1 (l0.length : Int) 0
set_option maxHeartbeats 8000000 in
set_option maxRecDepth 100000 in
theorem slices_Index_int_int.calls (k : Nat) (A0 : Option Addr) (c0 : Nat) (l0 : List Int) (a1 : Int) (r : Int) (w : World) (hr0 : Kd.C (Kd.int .i64) w A0 l0.length l0) (hc0 : l0.length ≤ c0) (h : slices_Index_int_int.f k l0 a1 = some r) :
    Calls Try.prog 87 #[.slice A0 l0.length c0, .int .i64 a1] w fun e w' => e = .returned (.int .i64 r) ∧ Drawn0 w w' := by
  have HR0 := Aside0.mk hr0
  have HC0 := Aside0.mk hc0
  clear hr0 hc0
  have H : (slices_Index_int_int.l0 k l0 a1 (l0.length : Int) 0) = some r := h
  clear h
  have H' := Aside0.mk H
  clear H
  go_enter Try.func87, Try.ntmps87
  go_wp2
  go_loopg [8] k (fun kq v8 w' => ∃ (x8_1 : Int), v8 = .int .i64 x8_1 ∧ Aside0 (slices_Index_int_int.l0 kq l0 a1 (l0.length : Int) x8_1 = some r) ∧ Aside0 (kq ≤ k) ∧ Drawn0 w w')
  case atStart => exact ⟨(0), (by first | rfl | (simp; done) | (simp [*]; done)), H', ⟨Nat.le_refl _⟩, by repeat (first | exact Drawn0.refl _ | apply Drawn0.step)⟩
  case round =>
    clear H'
    try clear p2
    obtain ⟨x8_1, rfl, HA, HK1, ⟨m1, rfl⟩⟩ := hrel
    cases gk with
    | zero => exact absurd HA.out (by simp [slices_Index_int_int.l0])
    | succ k1 =>
      have H := HA.out
      clear HA
      simp only [slices_Index_int_int.l0] at H
      by_cases c3 : x8_1 < (l0.length : Int)
      · rw [if_pos c3] at H
        have c3b0 : decide (x8_1 < (l0.length : Int)) = true := decide_eq_true c3
        clear c3
        by_cases c4 : 0 ≤ x8_1
        · rw [if_pos c4] at H
          have c4b0 : decide (0 ≤ x8_1) = true := decide_eq_true c4
          clear c4
          by_cases c5 : x8_1 < (l0.length : Int)
          · rw [if_pos c5] at H
            have c5b0 : decide (x8_1 < (l0.length : Int)) = true := decide_eq_true c5
            clear c5
            by_cases c6 : a1 = (rd l0 x8_1)
            · rw [if_pos c6] at H
              have c6b0 : (a1 == (rd l0 x8_1)) = true := beq_iff_eq.mpr c6
              have c6b1 : (a1 != (rd l0 x8_1)) = false := bne_eq_false_iff_eq.mpr c6
              clear c6
              obtain rfl := Option.some.inj H
              have p485 : 0 ≤ (x8_1 : Int) := of_decide_eq_true (by first | (with_reducible assumption) | assumption)
              have q485 : x8_1 < (l0.length : Int) := of_decide_eq_true (by first | (with_reducible assumption) | assumption)
              obtain ⟨ad485, e485, hx485_0⟩ := Kd.at_int HR0.out x8_1 p485 q485
              cases e485
              replace p485 := eq_true p485
              replace q485 := eq_true q485
              go_wp2
              go_ret
              exact ⟨by first | rfl | (simp; done) | (simp [*]; done), by repeat (first | exact Drawn0.refl _ | apply Drawn0.step)⟩
            · rw [if_neg c6] at H
              have c6b0 : (a1 == (rd l0 x8_1)) = false := beq_eq_false_iff_ne.mpr c6
              have c6b1 : (a1 != (rd l0 x8_1)) = true := bne_iff_ne.mpr c6
              have H' := Aside0.mk H
              clear H
              have p485 : 0 ≤ (x8_1 : Int) := of_decide_eq_true (by first | (with_reducible assumption) | assumption)
              have q485 : x8_1 < (l0.length : Int) := of_decide_eq_true (by first | (with_reducible assumption) | assumption)
              obtain ⟨ad485, e485, hx485_0⟩ := Kd.at_int HR0.out x8_1 p485 q485
              cases e485
              replace p485 := eq_true p485
              replace q485 := eq_true q485
              go_wp2
              go_roundg k1
              case measure => have := HK1.out; omega
              case rel => exact ⟨(wrap64 (x8_1 + 1)), (by first | rfl | (simp; done) | (simp [*]; done)), H', ⟨by have := HK1.out; omega⟩, by repeat (first | exact Drawn0.refl _ | apply Drawn0.step)⟩
          · rw [if_neg c5] at H
            exact absurd H (by simp)
        · rw [if_neg c4] at H
          exact absurd H (by simp)
      · rw [if_neg c3] at H
        have c3b0 : decide (x8_1 < (l0.length : Int)) = false := decide_eq_false c3
        clear c3
        obtain rfl := Option.some.inj H
        go_wp2
        go_ret
        exact ⟨by first | rfl | (simp; done) | (simp [*]; done), by repeat (first | exact Drawn0.refl _ | apply Drawn0.step)⟩

end Go.Proofs.Ytaofanhdmfdlmaa.Print

-- PRINTED by print.py (a twelfth state) out of the translation. Not trusted: Lean checks it.
namespace Go.Proofs.Ytaofanhdmfdlmaa.Print
open Go.RowKit Go.Proofs.YtaofanhdmfdlmaaW.PrintWords Go.Proofs.YtaofanhdmfdlmaaW.PrintLast Go.Proofs.YtaofanhdmfdlmaaW.PrintMore
attribute [local go_sem] max2_int min2_int max_two min_two max_three min_three max_four min_four   -- for this text's walks alone
set_option linter.unusedVariables false
set_option linter.unusedSimpArgs false

/-! ### slices_Contains_int_int: function 29 -/
def slices_Contains_int_int.f (k : Nat) (l0 : List Int) (a1 : Int) : Option (Bool) := (slices_Index_int_int.f k l0 a1).bind fun t486 => (some (decide (t486 ≥ 0)))
set_option maxHeartbeats 8000000 in
set_option maxRecDepth 100000 in
theorem slices_Contains_int_int.calls (k : Nat) (A0 : Option Addr) (c0 : Nat) (l0 : List Int) (a1 : Int) (r : Bool) (w : World) (hr0 : Kd.C (Kd.int .i64) w A0 l0.length l0) (hc0 : l0.length ≤ c0) (h : slices_Contains_int_int.f k l0 a1 = some r) :
    Calls Try.prog 29 #[.slice A0 l0.length c0, .int .i64 a1] w fun e w' => e = .returned (.bool r) ∧ Drawn0 w w' := by
  have HR0 := Aside0.mk hr0
  have HC0 := Aside0.mk hc0
  clear hr0 hc0
  have H : ((slices_Index_int_int.f k l0 a1).bind fun t486 => (some (decide (t486 ≥ 0)))) = some r := h
  clear h
  replace H := Option.bind_eq_some_iff.mp H
  obtain ⟨t486, A30, H⟩ := H
  replace H : (some (decide (t486 ≥ 0))) = some r := H
  have A3 := Aside0.mk A30
  clear A30
  obtain rfl := Option.some.inj H
  go_enter Try.func29, Try.ntmps29
  go_wp2_with (first | ((with_reducible refine gate_callee (f := 87) rfl ?_); refine goesL_ (some 7) rfl rfl Try.func87 (by kernel_rfl) rfl #[.slice A0 l0.length c0, .int .i64 a1] rfl (by (try simp only [List.map_toArray, List.map_cons, List.map_nil]); first | done | rfl | (simp only [List.length_drop, List.length_take]; rfl)) ?_; (with_reducible refine (slices_Index_int_int.calls k _ _ l0 a1 t486 _ ?side1 ?side2 A3.out).mono ?_); (case side1 => repeat (first | exact HR0.out | (with_reducible refine Kd.C_alloc ?_ _) | (with_reducible refine Kd.C_drewN ?_ _) | (with_reducible refine Kd.C_drew ?_))); (case side2 => exact HC0.out); rintro e w' ⟨rfl, ⟨nd, rfl⟩⟩; refine ⟨_, rfl, ?_⟩))
  go_ret
  exact ⟨by first | rfl | (simp; done) | (simp [*]; done), by repeat (first | exact Drawn0.refl _ | apply Drawn0.step)⟩

/-! ### downpourlaw18_few: function 30 -/
/-! ### downpourref12_Sizes: function 47 -/
end Go.Proofs.Ytaofanhdmfdlmaa.Print

/-
What is proved: slices.Values of a slice of ints, seen from a loop: its numbers come one by one. Condition: the rounds leave the slice as it is.
-/
namespace Go.Proofs.Ytaofanhdmfdlmaa.Print
open Go Go.RowKit Go.Proofs.YtaofanhdmfdlmaaW.PrintWords Go.Proofs.YtaofanhdmfdlmaaW.PrintLast Go.Proofs.YtaofanhdmfdlmaaW.PrintMore Go.Proofs.Ytaofanhdmfdlmaa.Rng
attribute [local go_sem] Oper.semAt_some
set_option linter.unusedVariables false

theorem cell_same {w w1 : World} {a : Addr} (h : w1.heap[a.block]? = w.heap[a.block]?) : w1.cell? a = w.cell? a := by
  unfold World.cell?
  rw [h]
theorem addr_block (a : Addr) (i : Nat) : (a.add i).block = a.block := by
  unfold Addr.add
  first | rfl | (split <;> rfl) | (cases a.idx <;> rfl)
set_option maxHeartbeats 4000000 in
set_option maxRecDepth 100000 in
theorem values_iter (m Bs : Nat) (hm : 1 ≤ m) (A : Option Addr) (c : Nat) (l : List Int) (w : World) (hBs : w.heap[Bs]? = some (.cells #[.slice A l.length c] 40 (0, 0))) (hc : Kd.C (Kd.int .i64) w A l.length l) (hl : l.length < 4611686018427387904) :
    Iter Fence.wide m Try.prog 104 #[.pointer (some ⟨Bs, 0, none⟩)] (fun i : Nat => #[.int .i64 (rd l i)]) (fun i => i < l.length) (fun i j => j = i + 1) (fun _ => False) (fun b => ∃ a, A = some a ∧ b = a.block ∧ 0 < l.length) (fun _ _ => True) 0 w := by
  intro L J Jx W hW hJ hJx _ hY h0
  have hlt : Bs < w.heap.size := (Array.getElem?_eq_some_iff.1 hBs).1
  have hb0 : W.heap[Bs]? = some (.cells #[.slice A l.length c] 40 (0, 0)) := (hW.block Bs hlt).trans hBs
  have hcc := (blk_cell hb0 0).trans rfl
  have HC := Aside0.mk (Kd.C_below hc hW)
  have HY := Aside0.mk hY
  have H0 := Aside0.mk h0
  have HL := Aside0.mk hl
  clear hY hJ hJx h0 hb0 hW hBs hlt hc hl
  refine callsIn_of_wp Try.func104 rfl trivial ?_ rfl
  simp only [Try.ntmps104, List.size_toArray, List.length_cons, List.length_nil, Nat.reduceAdd, Nat.reduceSub, Array.replicate_succ, Array.replicate_zero, List.push_toArray, List.append_toArray, List.nil_append, List.cons_append]
  gi_wp2
  clear hcc
  gi_loopg [7] l.length (fun kq v7 wr => ∃ i : Nat, v7 = .int .i64 (i : Int) ∧ Aside0 (i + kq = l.length) ∧ Aside0 (∀ a, A = some a → wr.heap[a.block]? = W.heap[a.block]?) ∧ Aside0 (J i wr))
  case atStart => exact ⟨0, rfl, ⟨Nat.zero_add _⟩, ⟨fun _ _ => rfl⟩, H0⟩
  case round =>
    obtain ⟨i, rfl, hk, hs, hj⟩ := hrel
    have hl1 := HL.out
    have hk1 := hk.out
    by_cases hi : i < l.length
    · have hib : decide ((i : Int) < (l.length : Int)) = true := decide_eq_true (by omega)
      have p0 : 0 ≤ (i : Int) := by omega
      have q0 : (i : Int) < (l.length : Int) := by omega
      obtain ⟨ad, e, hx⟩ := Kd.at_int HC.out (i : Int) p0 q0
      subst e
      rw [Int.toNat_natCast] at hx
      have hx2 : wr.cell? (ad.add i) = some (.int .i64 (rd l i)) := (cell_same (a := ad.add i) (by rw [addr_block]; exact hs.out ad rfl)).trans hx
      have hwr : wrap64 ((i : Int) + 1) = ((i + 1 : Nat) : Int) := by rw [IntWalk.wrap64_in _ (by omega)]; rfl
      have HK := Aside0.mk hk1
      have HI := Aside0.mk hi
      replace p0 := eq_true p0
      replace q0 := eq_true q0
      clear hx hk1 hi hl1
      gi_wp2
      obtain ⟨fn, tmps, assign, body, hy, hR⟩ := HY.out i _ hj.out HI.out
      rw [hy]
      rw [Oper.uponIn_round]
      refine ⟨fun _ => by have := hm; omega, hR.mono ?_⟩
      rintro e W4 (⟨rfl, hks, s', rfl, hj4⟩ | ⟨rfl, hx4⟩)
      · have HS4 := Aside0.mk (show ∀ a, some ad = some a → W4.heap[a.block]? = W.heap[a.block]? from fun a ha => (hks.2 a.block ⟨a, ha, rfl, by have := HI.out; omega⟩).trans (hs.out a ha))
        have HJ4 := Aside0.mk hj4
        clear hks hy hR hj4 hs hj hx2
        gi_wp2
        gi_roundg (gk - 1)
        case measure => have := HK.out; have := HI.out; omega
        case rel => exact ⟨i + 1, by first | rfl | (rw [hwr]) | (simp [hwr]), ⟨by have := HK.out; have := HI.out; omega⟩, HS4, HJ4⟩
      · clear hy hR
        have HX := Aside0.mk hx4
        clear hx4
        gi_wp2
        refine bodyPost_ret (results_none rfl _ _ _) rfl ?_
        exact ⟨⟨_, rfl⟩, .inr HX.out⟩
    · have hib : decide (i < l.length) = false := decide_eq_false hi
      have HI := Aside0.mk hi
      clear hi hk1 hl1
      gi_wp2
      refine bodyPost_end (results_none rfl _ _ _) rfl ?_
      exact ⟨⟨_, rfl⟩, .inl ⟨i, HI.out, hj.out⟩⟩
end Go.Proofs.Ytaofanhdmfdlmaa.Print

/-
What is proved: slices.Sort at []int sorts a row of the call's own in place (the library's sort, out of the shelf). Condition: the row is one of the call's own, shorter than 2^62.
-/
namespace Go.Proofs.Ytaofanhdmfdlmaa.Print
open Go Go.RowKit Go.Proofs.YtaofanhdmfdlmaaW.PrintWords Go.Proofs.YtaofanhdmfdlmaaW.PrintLast Go.Proofs.YtaofanhdmfdlmaaW.PrintMore Go.Sort
set_option linter.unusedVariables false

def slices_Sort_int_int.f (l0 : List Int) : Option (List Int) := if l0.length < 4611686018427387904 then some (l0.mergeSort fun x y => decide (x ≤ y)) else none

theorem sorti_block {w : World} {g n : Nat} {cur : Array Value} {t : TypeId} (d : Array Int) (h : w.heap[g]? = some (.cells cur t (0, 0))) (m : Nat) (os : Array Obj) :
    (grow (putRow (Value.int .i64) (Go.Sort.ahead w m) g 0 d) os).heap[g]? = some (.cells (putCells (Value.int .i64) 0 d cur) t (0, 0)) := by
  have hlt : g < w.heap.size := (Array.getElem?_eq_some_iff.1 h).1
  have h1 : (putRow (Value.int .i64) (Go.Sort.ahead w m) g 0 d).heap[g]? = some (.cells (putCells (Value.int .i64) 0 d cur) t (0, 0)) := by
    unfold putRow mapBlock Go.Sort.ahead
    simp only [Array.getElem?_modify, if_true, h, Option.map_some]
    rfl
  show ((putRow (Value.int .i64) (Go.Sort.ahead w m) g 0 d).heap ++ os)[g]? = _
  rw [Array.getElem?_append_left (by simp [Go.Sort.ahead]; exact hlt)]
  exact h1
theorem sorti_other {w : World} {g i : Nat} (d : Array Int) (m : Nat) (os : Array Obj) (hi : i < w.heap.size) (hne : i ≠ g) :
    (grow (putRow (Value.int .i64) (Go.Sort.ahead w m) g 0 d) os).heap[i]? = w.heap[i]? := by
  show ((putRow (Value.int .i64) (Go.Sort.ahead w m) g 0 d).heap ++ os)[i]? = _
  rw [Array.getElem?_append_left (by simp [Go.Sort.ahead]; exact hi)]
  unfold putRow mapBlock Go.Sort.ahead
  simp only [Array.getElem?_modify]
  rw [if_neg (Ne.symm hne)]
theorem sorti_size {w : World} {g : Nat} (d : Array Int) (m : Nat) (os : Array Obj) : w.heap.size ≤ (grow (putRow (Value.int .i64) (Go.Sort.ahead w m) g 0 d) os).heap.size := by
  show _ ≤ ((putRow (Value.int .i64) (Go.Sort.ahead w m) g 0 d).heap ++ os).size
  rw [Array.size_append]; simp [Go.Sort.ahead]
theorem sorti_cells (cur : Array Value) (l : List Int) (hn : l.length ≤ cur.size) : (putCells (Value.int .i64) 0 l.toArray cur).toList.take l.length = encs (Value.int .i64) l := by
  apply List.ext_getElem?
  intro k
  by_cases hk : k < l.length
  · rw [List.getElem?_take_of_lt hk]
    simp only [putCells, Array.getElem?_toList, Array.getElem?_mapIdx, encs, List.getElem?_map]
    rw [Array.getElem?_eq_getElem (by omega), List.getElem?_eq_getElem hk]
    simp [hk]
  · rw [List.getElem?_eq_none (by simp; omega), List.getElem?_eq_none (by simp [encs]; omega)]

theorem slices_Sort_int_int.calls (P0_ : Nat → Prop) (u9000_ : Value) (l0 : List Int) (r : List Int) (w0 w : World) (hB : Below w0.heap.size w0 w) (ho0 : Kd.R (Kd.int .i64) 3 w w0.heap.size P0_ u9000_ l0) (h : slices_Sort_int_int.f l0 = some r) :
    Calls Try.prog 84 #[u9000_] w fun e w' => e = .returned (.tuple #[]) ∧ Kd.R (Kd.int .i64) 3 w' w0.heap.size (fun k_ => (P0_ k_ ∨ w.heap.size ≤ k_)) u9000_ r ∧ Below w0.heap.size w0 w' ∧ Kept w w' (fun k_ => P0_ k_) := by
  unfold slices_Sort_int_int.f at h
  by_cases hlen : l0.length < 4611686018427387904
  case neg => rw [if_neg hlen] at h; cases h
  rw [if_pos hlen] at h
  obtain rfl := Option.some.inj h
  have ho := Kd.own_of_R ho0
  have hr1 : (l0.mergeSort fun x y => decide (x ≤ y)).length = l0.length := List.length_mergeSort _
  rcases ho.2 with ⟨rfl, hn⟩ | ⟨g, cap, cur, rfl, hg, hh, hnc, hcm, hcs, hcur⟩
  · have : l0 = [] := List.eq_nil_of_length_eq_zero hn
    subst this
    refine (Try.slices_Sort_int_none none 0 w).mono ?_
    rintro e w' ⟨rfl, rfl⟩
    refine ⟨rfl, ?_, hB, Nat.le_refl _, fun _ _ _ => rfl⟩
    simp only [List.mergeSort_nil]
    exact Kd.R_nil _ _ _ _ _
  · have hlt : g < w.heap.size := (Array.getElem?_eq_some_iff.1 hh).1
    have hsz : l0.length ≤ cur.size := by omega
    refine (Try.slices_Sort_int g 0 cap l0 w ?_ hlt hlen).mono ?_
    · intro j hj
      have hj' : j < l0.length := by simpa using hj
      refine ⟨?_, by simp [World.frozen?, hh]⟩
      have hc : cur[j]? = some (Value.int .i64 l0[j]) := by
        have h3 := congrArg (fun l => l[j]?) hcur
        simp only [Nat.mul_one] at h3
        rw [List.getElem?_take_of_lt hj'] at h3
        simpa [encs, hj'] using h3
      simp [World.cell?, hh, hc, hj']
    · rintro e w' ⟨rfl, m, os, rfl⟩
      have hb := sorti_block (n := 0) (l0.mergeSort fun x y => decide (x ≤ y)).toArray hh m os
      refine ⟨rfl, ?_, ?_, sorti_size _ _ _, fun i hi hS => sorti_other _ _ _ hi (fun e => hS (by subst e; exact ho0.1 _ rfl))⟩
      · refine Kd.R_of_own ⟨by rw [encs_length, Nat.mul_one], .inr ⟨g, cap, _, by rw [hr1], hg, hb, by rw [hr1]; exact hnc, hcm, by simp [putCells]; omega, ?_⟩⟩ (fun k hk => ?_)
        · rw [Nat.mul_one, hr1, ← hr1]; exact sorti_cells cur _ (by rw [hr1]; exact hsz)
        · have hk' : g = k := by simpa [Value.ownBlock] using hk
          subst hk'; exact .inl (ho0.1 _ rfl)
      · exact ⟨hB.os, hB.tape, hB.output, Nat.le_trans hB.size (sorti_size _ _ _), fun i hi => (sorti_other _ _ _ (Nat.lt_of_lt_of_le hi hB.size) (by omega)).trans (hB.block i hi)⟩
end Go.Proofs.Ytaofanhdmfdlmaa.Print

