import Derived.Test.YtaofanhdmfdlmaaOnce2
import Derived.Test.YtaofanhdmfdlmaaOnce0
import Derived.Test.YtaofanhdmfdlmaaOnce3
import Derived.Test.YtaofanhdmfdlmaaOnce4
import Derived.Test.YtaofanhdmfdlmaaOnce5
import Derived.Test.YtaofanhdmfdlmaaRows
import Derived.WalkKit
import Derived.ProofKit
import Derived.OpenShut
import Derived.ShutString
import Derived.ChangeOld
import Derived.Below
import Derived.SizedLaws
/-
What is proved: the numbers of a state, by the program and by the reference, are the same; a number is always found. Condition: the state is a uint64, 1 ≤ n ≤ 512.
-/
namespace Go.Proofs.Ytaofanhdmfdlmaa.Print
open Go Go.RowKit Go.Proofs.YtaofanhdmfdlmaaW.PrintWords Go.Proofs.YtaofanhdmfdlmaaW.PrintLast Go.Proofs.YtaofanhdmfdlmaaW.PrintMore
set_option linter.unusedVariables false

def M64 : Int := 18446744073709551616
theorem u64_wrap (x : Int) : IntKind.u64.wrap x = x % M64 := by rw [IntKind.wrap_u64]; rfl
theorem rb_nx_eq (c : Int) : rb_nx c = (c + 11400714819323198485) % M64 := u64_wrap _
theorem rb_nx_range (c : Int) : 0 ≤ rb_nx c ∧ rb_nx c < M64 := by rw [rb_nx_eq]; unfold M64; omega
def mixv (z : Int) : Int := (random_mixed.f z).getD 0
theorem rb_mx_eq (c : Int) : rb_mx c = mixv (rb_nx c) := rfl
theorem mixv_zero : mixv 0 = 0 := by decide +kernel
theorem rb_rest_range (n : Int) (h1 : 1 ≤ n) (h2 : n ≤ 512) : 0 ≤ rb_rest n ∧ rb_rest n < 512 := by
  unfold rb_rest rb_res
  split
  · omega
  · have z1 := Int.emod_nonneg 18446744073709551616 (show n ≠ 0 by omega); have z2 := Int.emod_lt_of_pos 18446744073709551616 (show 0 < n by omega); omega
theorem rb_acc_iff (n x : Int) (h1 : 1 ≤ n) (h2 : n ≤ 512) (hx : 0 ≤ x ∧ x < M64) : rb_acc n x = decide (x ≤ M64 - 1 - rb_rest n) := by
  have hr := rb_rest_range n h1 h2
  unfold rb_acc
  generalize rb_rest n = r at *
  rw [u64_wrap]
  unfold M64 at *
  rw [Bool.eq_iff_iff]
  simp only [Bool.or_eq_true, decide_eq_true_eq]
  omega
theorem rb_acc_zero (n : Int) (h1 : 1 ≤ n) (h2 : n ≤ 512) : rb_acc n 0 = true := by
  have hr := rb_rest_range n h1 h2
  rw [rb_acc_iff n 0 h1 h2 (by unfold M64; omega)]
  unfold M64; simp; omega
theorem rb_go_some (n : Int) (h1 : 1 ≤ n) (h2 : n ≤ 512) : ∀ (m k : Nat) (c : Int), 0 ≤ c → c < M64 → 1 ≤ m → m ≤ k → (c + m * 11400714819323198485) % M64 = 0 →
    ∃ s j, rb_go k c n = some (s, j) ∧ 0 ≤ j ∧ j < n ∧ 0 ≤ s ∧ s < M64 := by
  intro m
  induction m with
  | zero => intro k c _ _ h; omega
  | succ m ih =>
    intro k c hc0 hc1 _ hk he
    obtain ⟨k, rfl⟩ : ∃ j, k = j + 1 := ⟨k - 1, by omega⟩
    simp only [rb_go]
    by_cases ha : rb_acc n (rb_mx c) = true
    · rw [if_pos ha]
      exact ⟨_, _, rfl, Int.emod_nonneg _ (by omega), Int.emod_lt_of_pos _ (by omega), (rb_nx_range c).1, (rb_nx_range c).2⟩
    · rw [if_neg ha]
      rcases Nat.eq_zero_or_pos m with h0 | h0
      · subst h0
        exfalso; apply ha
        have : rb_nx c = 0 := by rw [rb_nx_eq, ← he]; congr 1
        rw [rb_mx_eq, this, mixv_zero]
        exact rb_acc_zero n h1 h2
      · refine ih k (rb_nx c) (rb_nx_range c).1 (rb_nx_range c).2 h0 (by omega) ?_
        rw [rb_nx_eq, ← he]
        unfold M64
        omega
/-- How many steps it is to the state 0. -/
def rb_way (c : Int) : Nat := if (18446744073709551616 - c) * 17428512612931826493 % M64 = 0 then 18446744073709551616 else ((18446744073709551616 - c) * 17428512612931826493 % M64).toNat
theorem rb_way_eq (c q r : Int) (h : (18446744073709551616 - c) * 17428512612931826493 = 18446744073709551616 * q + r) :
    c + r * 11400714819323198485 = 18446744073709551616 * (1 + (18446744073709551616 - c) * 10771413168148108919 - q * 11400714819323198485) := by omega
theorem rb_way_spec (c : Int) (h0 : 0 ≤ c) (h1 : c < M64) : 1 ≤ rb_way c ∧ rb_way c ≤ rb_fuel ∧ (c + rb_way c * 11400714819323198485) % M64 = 0 := by
  unfold M64 at h1
  have e := rb_way_eq c _ _ (Int.mul_ediv_add_emod ((18446744073709551616 - c) * 17428512612931826493) 18446744073709551616).symm
  have z1 := Int.emod_nonneg ((18446744073709551616 - c) * 17428512612931826493) (show (18446744073709551616 : Int) ≠ 0 by decide)
  have z2 := Int.emod_lt_of_pos ((18446744073709551616 - c) * 17428512612931826493) (show (0 : Int) < 18446744073709551616 by decide)
  unfold rb_way rb_fuel M64
  generalize (18446744073709551616 - c) * 17428512612931826493 / 18446744073709551616 = q at *
  generalize (18446744073709551616 - c) * 17428512612931826493 % 18446744073709551616 = r at *
  generalize 1 + (18446744073709551616 - c) * 10771413168148108919 - q * 11400714819323198485 = y at *
  by_cases h : r = 0
  · rw [if_pos h]
    refine ⟨by decide, by decide, ?_⟩
    subst h
    have e2 : c = 18446744073709551616 * y := by omega
    rw [e2]
    omega
  · rw [if_neg h]
    obtain ⟨m, rfl⟩ := Int.eq_ofNat_of_zero_le z1
    rw [Int.toNat_natCast]
    refine ⟨by omega, by omega, ?_⟩
    rw [e]
    exact Int.mul_emod_right _ _
theorem rb_total (c n : Int) (h0 : 0 ≤ c) (h1 : c < M64) (hn : 1 ≤ n) (hn2 : n ≤ 512) : ∃ s j, random_below.f c n = some (s, j) ∧ 0 ≤ j ∧ j < n ∧ 0 ≤ s ∧ s < M64 := by
  obtain ⟨a, b, d⟩ := rb_way_spec c h0 h1
  unfold random_below.f
  rw [if_pos ⟨hn, hn2⟩]
  exact rb_go_some n hn hn2 _ _ c h0 h1 a b d
end Go.Proofs.Ytaofanhdmfdlmaa.Print


namespace Go.Proofs.Ytaofanhdmfdlmaa.Print
open Go Go.RowKit Go.Proofs.YtaofanhdmfdlmaaW.PrintWords Go.Proofs.YtaofanhdmfdlmaaW.PrintLast Go.Proofs.YtaofanhdmfdlmaaW.PrintMore
set_option linter.unusedVariables false

theorem wrap64_in {x : Int} (h : -9223372036854775808 ≤ x ∧ x ≤ 9223372036854775807) : wrap64 x = x := IntWalk.wrap64_in x h
/-! ### orders -/
def ints (n : Nat) : List Int := (List.range n).map fun i : Nat => (i : Int)
theorem ints_length (n : Nat) : (ints n).length = n := by simp [ints]
theorem ints_succ (n : Nat) : ints (n + 1) = ints n ++ [(n : Int)] := by simp [ints, List.range_succ]
def shufB (c n : Int) : Int × Int := (random_below.f c n).getD (0, 0)
theorem shufB_spec (c n : Int) (h0 : 0 ≤ c) (h1 : c < M64) (hn : 1 ≤ n) (hn2 : n ≤ 512) : random_below.f c n = some (shufB c n) ∧ 0 ≤ (shufB c n).2 ∧ (shufB c n).2 < n ∧ 0 ≤ (shufB c n).1 ∧ (shufB c n).1 < M64 := by
  obtain ⟨s, j, h, a⟩ := rb_total c n h0 h1 hn hn2
  unfold shufB
  rw [h]
  exact ⟨rfl, a⟩
def swapAt (l : List Int) (i j : Int) : List Int := (l.set i.toNat (rd l j)).set j.toNat (rd l i)
def shuf : Nat → Int → List Int → Int × List Int
  | 0, c, l => (c, l)
  | i + 1, c, l => shuf i (shufB c ((i : Int) + 2)).1 (swapAt l ((i : Int) + 1) (shufB c ((i : Int) + 2)).2)
theorem swapAt_length (l : List Int) (i j : Int) : (swapAt l i j).length = l.length := by simp [swapAt]
theorem shuf_prog (n : Nat) (hn : n ≤ 512) : ∀ (i : Nat) (c : Int) (l : List Int), i < n → 0 ≤ c → c < M64 → l.length = n →
    Ev (fun k => random_Shuffle.l1 k c l i) ((shuf i c l).1, (shuf i c l).2, 0) := by
  intro i
  induction i with
  | zero => intro c l hi h0 h1 hl; exact Ev.step (f := fun _ => some (c, l, 0)) (fun k => by simp only [random_Shuffle.l1]; rw [if_neg (by simp)]) (Ev.now _)
  | succ i ih =>
    intro c l hi h0 h1 hl
    obtain ⟨hb, j0, j1, s0, s1⟩ := shufB_spec c ((i : Int) + 2) h0 h1 (by omega) (by omega)
    refine Ev.step (f := fun k => random_Shuffle.l1 k (shufB c ((i : Int) + 2)).1 (swapAt l ((i : Int) + 1) (shufB c ((i : Int) + 2)).2) i) (fun k => ?_) (ih _ _ (by omega) s0 s1 (by rw [swapAt_length, hl]))
    simp only [random_Shuffle.l1]
    rw [if_pos (by omega), wrap64_in (by omega), show (((i + 1 : Nat) : Int) + 1) = (i : Int) + 2 by omega, hb]
    simp only [Option.bind_some]
    rw [if_pos j0, if_pos (by omega), if_pos (by omega), if_pos (by omega), wrap64_in (by omega)]
    have e : ((i + 1 : Nat) : Int) = (i : Int) + 1 := by omega
    rw [e, show (i : Int) + 1 - 1 = i by omega]
    rfl
def shuffle (c : Int) (n : Nat) : Int × List Int := shuf (n - 1) c (ints n)
theorem rows_prog (c : Int) (n : Nat) (hn : n ≤ 512) {r : Int × List Int × Int} (h : Ev (fun k => random_Shuffle.l1 k c (ints n) ((n : Int) - 1)) r) : ∀ (d x : Nat), x + d = n →
    Ev (fun k => random_Shuffle.l0 k c n (ints x) n x) r := by
  intro d
  induction d with
  | zero =>
    intro x hx
    obtain rfl : x = n := by omega
    refine Ev.step (f := fun k => random_Shuffle.l1 k c (ints x) ((x : Int) - 1)) (fun k => ?_) h
    simp only [random_Shuffle.l0]
    rw [if_neg (by omega), wrap64_in (by omega)]
  | succ d ih =>
    intro x hx
    refine Ev.step (f := fun k => random_Shuffle.l0 k c n (ints (x + 1)) n ((x + 1 : Nat) : Int)) (fun k => ?_) (ih (x + 1) (by omega))
    simp only [random_Shuffle.l0]
    rw [if_pos (by omega), if_pos (by rw [ints_length]; omega), wrap64_in (by omega), ints_succ]
    rfl
theorem sized_eq (n : Int) : random_sized.f n = some (decide (1 ≤ n) && decide (n ≤ 512)) := by
  unfold random_sized.f
  by_cases h : n ≥ 1
  · rw [if_pos h, decide_eq_true (show 1 ≤ n from h)]; rfl
  · rw [if_neg h, decide_eq_false (show ¬ 1 ≤ n from h)]; rfl
theorem Shuffle_prog (c : Int) (n : Nat) (h0 : 0 ≤ c) (h1 : c < M64) (hn : 1 ≤ n) (hn2 : n ≤ 512) : Ev (fun k => random_Shuffle.f k c n) ((shuffle c n).1, (shuffle c n).2, 0) := by
  have h := shuf_prog n hn2 (n - 1) c (ints n) (by omega) h0 h1 (ints_length n)
  rw [show (((n - 1 : Nat)) : Int) = (n : Int) - 1 by omega] at h
  refine Ev.congr (fun k => ?_) (rows_prog c n hn2 h n 0 (by omega))
  unfold random_Shuffle.f
  rw [sized_eq, decide_eq_true (show (1 : Int) ≤ n by omega), decide_eq_true (show (n : Int) ≤ 512 by omega)]
  rfl
/-! ### what an order is -/
theorem swapAt_perm (l : List Int) (i j : Int) (hi : 0 ≤ i) (hi1 : i < l.length) (hj : 0 ≤ j) (hj1 : j < l.length) : (swapAt l i j).Perm l := by
  obtain ⟨a, rfl⟩ := Int.eq_ofNat_of_zero_le hi
  obtain ⟨b, rfl⟩ := Int.eq_ofNat_of_zero_le hj
  have ha : a < l.length := by omega
  have hb : b < l.length := by omega
  have e : swapAt l a b = (l.set a l[b]).set b l[a] := by
    unfold swapAt rd
    simp [List.getD_eq_getElem?_getD, ha, hb]
  rw [e]
  exact List.set_set_perm ha hb
theorem shuf_perm (n : Nat) (hn : n ≤ 512) : ∀ (i : Nat) (c : Int) (l : List Int), i < n → 0 ≤ c → c < M64 → l.length = n → (shuf i c l).2.Perm l ∧ 0 ≤ (shuf i c l).1 ∧ (shuf i c l).1 < M64 := by
  intro i
  induction i with
  | zero => intro c l _ h0 h1 _; exact ⟨List.Perm.refl _, h0, h1⟩
  | succ i ih =>
    intro c l hi h0 h1 hl
    obtain ⟨hb, j0, j1, s0, s1⟩ := shufB_spec c ((i : Int) + 2) h0 h1 (by omega) (by omega)
    have h := ih (shufB c ((i : Int) + 2)).1 (swapAt l ((i : Int) + 1) (shufB c ((i : Int) + 2)).2) (by omega) s0 s1 (by rw [swapAt_length, hl])
    exact ⟨h.1.trans (swapAt_perm l _ _ (by omega) (by omega) j0 (by omega)), h.2⟩
theorem shuffle_perm (c : Int) (n : Nat) (h0 : 0 ≤ c) (h1 : c < M64) (hn : 1 ≤ n) (hn2 : n ≤ 512) : (shuffle c n).2.Perm (ints n) := (shuf_perm n hn2 (n - 1) c (ints n) (by omega) h0 h1 (ints_length n)).1
end Go.Proofs.Ytaofanhdmfdlmaa.Print

namespace Go.Proofs.Ytaofanhdmfdlmaa.Print
open Go Go.RowKit Go.Proofs.YtaofanhdmfdlmaaW.PrintWords Go.Proofs.YtaofanhdmfdlmaaW.PrintLast Go.Proofs.YtaofanhdmfdlmaaW.PrintMore
set_option linter.unusedVariables false

theorem rd_get (l : List Int) (i : Nat) (h : i < l.length) : rd l (i : Int) = l[i] := by unfold rd; simp [List.getD_eq_getElem?_getD, h]
theorem ints_sorted (n : Nat) : (ints n).Pairwise (· < ·) := by
  unfold ints
  rw [List.pairwise_map]
  exact List.pairwise_lt_range.imp fun h => by omega
theorem ints_nodup (n : Nat) : (ints n).Nodup := (ints_sorted n).imp fun h => by omega
def few (l : List Int) (m : Nat) : List Int := (l.take m).mergeSort fun x y => decide (x ≤ y)
theorem few_filter (n : Nat) (l : List Int) (hp : l.Perm (ints n)) (m : Nat) : few l m = (ints n).filter fun x => decide (x ∈ l.take m) := by
  have hd : (l.take m).Nodup := (List.take_sublist m l).nodup (hp.nodup_iff.2 (ints_nodup n))
  have hd2 : ((ints n).filter fun x => decide (x ∈ l.take m)).Nodup := List.filter_sublist.nodup (ints_nodup n)
  have p1 : (few l m).Perm ((ints n).filter fun x => decide (x ∈ l.take m)) := by
    refine (List.mergeSort_perm _ _).trans ((List.perm_ext_iff_of_nodup hd hd2).2 fun a => ?_)
    rw [List.mem_filter, decide_eq_true_iff]
    exact ⟨fun h => ⟨hp.mem_iff.1 (List.mem_of_mem_take h), h⟩, fun h => h.2⟩
  refine List.Perm.eq_of_pairwise (le := fun a b : Int => a ≤ b) (fun a b _ _ h1 h2 => by omega) ?_ ?_ p1
  · have h := List.pairwise_mergeSort (le := fun x y : Int => decide (x ≤ y)) (fun a b c h1 h2 => by simp only [decide_eq_true_eq] at *; omega) (fun a b => by simp only [Bool.or_eq_true, decide_eq_true_eq]; omega) (l.take m)
    exact h.imp fun h => by simpa using h
  · exact ((ints_sorted n).sublist List.filter_sublist).imp fun h => by omega
theorem shuffle_length (c : Int) (n : Nat) (h0 : 0 ≤ c) (h1 : c < M64) (hn : 1 ≤ n) (hn2 : n ≤ 512) : (shuffle c n).2.length = n := by rw [(shuffle_perm c n h0 h1 hn hn2).length_eq, ints_length]
theorem Some_prog (c : Int) (n m : Nat) (h0 : 0 ≤ c) (h1 : c < M64) (hn : 1 ≤ n) (hn2 : n ≤ 512) (hm : m ≤ n) : Ev (fun k => random_Some.f k c n m) ((shuffle c n).1, few (shuffle c n).2 m, 0) := by
  have hl := shuffle_length c n h0 h1 hn hn2
  refine Ev.congr (f := fun k => (random_Shuffle.f k c n).bind fun t => if (m : Int).toNat ≤ t.2.1.length ∧ t.2.2 = 0 then (slices_Sort_int_int.f (t.2.1.take (m : Int).toNat)).bind fun m => some (t.1, m, 0) else none) (fun k => ?_) (Ev.bind (Shuffle_prog c n h0 h1 hn hn2) (Ev.congr (fun k => ?_) (Ev.now _)))
  · unfold random_Some.f
    rw [sized_eq, decide_eq_true (show (1 : Int) ≤ n by omega), decide_eq_true (show (n : Int) ≤ 512 by omega)]
    simp only [Bool.and_self, Option.bind_some]
    rw [if_neg (by rintro (h | h | h); cases h; omega; omega)]
  · rw [if_pos ⟨by simp only [Int.toNat_natCast]; omega, rfl⟩]
    unfold slices_Sort_int_int.f
    rw [if_pos (by rw [List.length_take]; omega), Int.toNat_natCast]
    rfl
theorem few_length (l : List Int) (m : Nat) : (few l m).length = min m l.length := by unfold few; rw [List.length_mergeSort, List.length_take]
end Go.Proofs.Ytaofanhdmfdlmaa.Print

namespace Go.Proofs.Ytaofanhdmfdlmaa.Print
open Go Go.RowKit Go.Proofs.YtaofanhdmfdlmaaW.PrintWords Go.Proofs.YtaofanhdmfdlmaaW.PrintLast Go.Proofs.YtaofanhdmfdlmaaW.PrintMore
set_option linter.unusedVariables false

theorem alive06 : Ev (fun k => downpourlaw06_alive.f k) true := by
  have hl := shuffle_length 5 1 (by decide) (by decide) (by decide) (by decide)
  have h := Shuffle_prog 5 1 (by decide) (by decide) (by decide) (by decide)
  refine Ev.bind (f := fun _ bt => if bt.2.2 = 0 then (some ((bt.2.1.length : Int) == 1)) else (some false)) h (Ev.congr (fun k => ?_) (Ev.now _))
  rw [if_pos rfl, hl]
  rfl
end Go.Proofs.Ytaofanhdmfdlmaa.Print
namespace Go.Proofs.Ytaofanhdmfdlmaa.Pure
open Go Go.RowKit Go.Proofs.YtaofanhdmfdlmaaW.PrintWords
end Go.Proofs.Ytaofanhdmfdlmaa.Pure

namespace Go.Proofs.Ytaofanhdmfdlmaa.Print
open Go Go.RowKit Go.Proofs.YtaofanhdmfdlmaaW.PrintWords Go.Proofs.YtaofanhdmfdlmaaW.PrintLast Go.Proofs.YtaofanhdmfdlmaaW.PrintMore
set_option linter.unusedVariables false

theorem few_all (n : Nat) (l : List Int) (hp : l.Perm (ints n)) : few l n = ints n := by
  have hl : l.length = n := by rw [hp.length_eq, ints_length]
  rw [few_filter n l hp n, List.take_of_length_le (by omega)]
  exact List.filter_eq_self.2 fun a ha => decide_eq_true (hp.mem_iff.2 ha)
theorem index_go (x : Int) (l : List Int) (hl : l.length ≤ 4096) : ∀ (d i : Nat), i + d = l.length → x ∈ l.drop i → ∃ j : Nat, Ev (fun k => slices_Index_int_int.l0 k l x l.length i) (j : Int) := by
  intro d
  induction d with
  | zero => intro i hi hx; rw [List.drop_eq_nil_of_le (by omega)] at hx; cases hx
  | succ d ih =>
    intro i hi hx
    have hlt : i < l.length := by omega
    have er := rd_get l i hlt
    by_cases hq : x = l[i]
    · refine ⟨i, Ev.step (f := fun _ => some (i : Int)) (fun k => ?_) (Ev.now _)⟩
      simp only [slices_Index_int_int.l0]
      rw [if_pos (by omega), if_pos (by omega), if_pos (by omega), er, if_pos hq]
    · rw [List.drop_eq_getElem_cons hlt, List.mem_cons] at hx
      obtain ⟨j, hj⟩ := ih (i + 1) (by omega) (hx.resolve_left hq)
      refine ⟨j, Ev.step (fun k => ?_) hj⟩
      simp only [slices_Index_int_int.l0]
      rw [if_pos (by omega), if_pos (by omega), if_pos (by omega), er, if_neg hq, wrap64_in (by omega)]
      rfl
theorem contains_ev (x : Int) (l : List Int) (hl : l.length ≤ 4096) (h : x ∈ l) : Ev (fun k => slices_Contains_int_int.f k l x) true := by
  obtain ⟨j, hj⟩ := index_go x l hl l.length 0 (by omega) h
  refine Ev.bind (g := fun k => slices_Index_int_int.f k l x) (f := fun _ t => some (decide (t ≥ 0))) (a := (j : Int)) hj (Ev.congr (fun k => ?_) (Ev.now _))
  rw [decide_eq_true (show (j : Int) ≥ 0 by omega)]
theorem tmod_pos (a b : Int) (hb : 0 < b) (hb2 : b ≤ 4096) : 0 ≤ Int.tmod (wrap64 (Int.tmod a b + b)) b ∧ Int.tmod (wrap64 (Int.tmod a b + b)) b < b := by
  have h1 := Int.tmod_lt_of_pos a hb
  have h2 := Int.lt_tmod_of_pos a hb
  rw [wrap64_in (by omega)]
  exact ⟨Int.tmod_nonneg _ (by omega), Int.tmod_lt_of_pos _ hb⟩
end Go.Proofs.Ytaofanhdmfdlmaa.Print
namespace Go.Proofs.Ytaofanhdmfdlmaa.Pure
open Go Go.RowKit Go.Proofs.YtaofanhdmfdlmaaW.PrintWords
end Go.Proofs.Ytaofanhdmfdlmaa.Pure

namespace Go.Proofs.Ytaofanhdmfdlmaa.Print
open Go Go.RowKit Go.Proofs.YtaofanhdmfdlmaaW.PrintWords Go.Proofs.YtaofanhdmfdlmaaW.PrintLast Go.Proofs.YtaofanhdmfdlmaaW.PrintMore
set_option linter.unusedVariables false

theorem sorted_ints (n : Nat) (l : List Int) (hp : l.Perm (ints n)) : (l.mergeSort fun x y => decide (x ≤ y)) = ints n := by
  have h := few_all n l hp
  unfold few at h
  rwa [List.take_of_length_le (by rw [hp.length_eq, ints_length]; exact Nat.le_refl _)] at h
theorem few_rise (n : Nat) (l : List Int) (hp : l.Perm (ints n)) (m : Nat) : (few l m).Pairwise (· < ·) := by
  rw [few_filter n l hp m]
  exact (ints_sorted n).filter _
theorem few_mem (n : Nat) (l : List Int) (hp : l.Perm (ints n)) (m : Nat) (x : Int) (h : x ∈ few l m) : 0 ≤ x ∧ x < n ∧ x ∈ l.take m := by
  rw [few_filter n l hp m, List.mem_filter, decide_eq_true_iff] at h
  obtain ⟨h1, h2⟩ := h
  unfold ints at h1
  obtain ⟨i, hi, rfl⟩ := List.mem_map.1 h1
  exact ⟨by omega, by have := List.mem_range.1 hi; omega, h2⟩
theorem Below_prog (c : Int) (n : Nat) (h0 : 0 ≤ c) (h1 : c < M64) (hn : 1 ≤ n) (hn2 : n ≤ 512) : random_Below.f c n = some ((shufB c n).1, (shufB c n).2, 0) := by
  unfold random_Below.f
  rw [sized_eq, decide_eq_true (show (1 : Int) ≤ n by omega), decide_eq_true (show (n : Int) ≤ 512 by omega), (shufB_spec c n h0 h1 (by omega) (by omega)).1]
  rfl
theorem once_end (c : Int) (n : Nat) (b : Int) (l f : List Int) (h0 : 0 ≤ c) (h1 : c < M64) (hn : 1 ≤ n) (hn2 : n ≤ 512) (i z : Int) (hi : ¬ i < z) : Ev (fun k => downpourlaw06_RandomOnce.l1 k c n b l f f z i) true := by
  have hs := shufB_spec c n h0 h1 (by omega) (by omega)
  refine Ev.step (f := fun _ => some true) (fun k => ?_) (Ev.now _)
  simp only [downpourlaw06_RandomOnce.l1]
  rw [if_neg hi, Below_prog c n h0 h1 hn hn2]
  simp only [Option.bind_some, if_true]
  rw [if_pos (show (shufB c n).2 ≥ 0 from hs.2.1), decide_eq_true hs.2.2.1]
theorem once_l1 (c : Int) (n b : Nat) (l f : List Int) (h0 : 0 ≤ c) (h1 : c < M64) (hn : 1 ≤ n) (hn2 : n ≤ 512) (hl : l.length = n) (hb : b ≤ n) (hf : f.length ≤ 512) (hr : f.Pairwise (· < ·)) (hm : ∀ x ∈ f, 0 ≤ x ∧ x < n ∧ x ∈ l.take b) :
    ∀ (d i : Nat), i + d = f.length → Ev (fun k => downpourlaw06_RandomOnce.l1 k c n b l f f f.length i) true := by
  intro d
  induction d with
  | zero => intro i hi; exact once_end c n b l f h0 h1 hn hn2 _ _ (by omega)
  | succ d ih =>
    intro i hi
    have hlt : i < f.length := by omega
    have er := rd_get f i hlt
    obtain ⟨m1, m2, m3⟩ := hm _ (List.getElem_mem hlt)
    have hc := contains_ev f[i] (l.take b) (by rw [List.length_take]; omega) m3
    refine Ev.step (f := fun k => (slices_Contains_int_int.f k (l.take b) f[i]).bind fun t => if t = true then downpourlaw06_RandomOnce.l1 k c n b l f f f.length ((i + 1 : Nat) : Int) else some false) (fun k => ?_)
      (Ev.bind hc (Ev.congr (fun k => if_pos rfl) (ih (i + 1) (by omega))))
    simp only [downpourlaw06_RandomOnce.l1]
    rw [if_pos (by omega), if_pos (by omega), if_pos (by omega), er, if_neg (by omega), if_neg (by omega), wrap64_in (by omega : -9223372036854775808 ≤ (i : Int) + 1 ∧ (i : Int) + 1 ≤ 9223372036854775807)]
    by_cases hz : i = 0
    · subst hz
      rw [if_neg (by omega), if_pos (by omega), if_pos (by omega)]
      rfl
    · rw [if_pos (by omega), wrap64_in (by omega : -9223372036854775808 ≤ (i : Int) - 1 ∧ (i : Int) - 1 ≤ 9223372036854775807), if_pos (by omega), if_pos (by omega)]
      have e2 : rd f ((i : Int) - 1) = f[i - 1] := by
        rw [show ((i : Int) - 1) = ((i - 1 : Nat) : Int) by omega]
        exact rd_get f (i - 1) (by omega)
      have hlt2 : f[i - 1] < f[i] := List.pairwise_iff_getElem.1 hr (i - 1) i (by omega) hlt (by omega)
      rw [e2, if_neg (by omega), if_pos (by omega), if_pos (by omega)]
      rfl
theorem once_l0 (c : Int) (n b : Nat) (l f : List Int) (hn2 : n ≤ 512) (h : Ev (fun k => downpourlaw06_RandomOnce.l1 k c n b l f f f.length 0) true) : ∀ (d i : Nat), i + d = n → Ev (fun k => downpourlaw06_RandomOnce.l0 k c n b l f (ints n) n i) true := by
  intro d
  induction d with
  | zero =>
    intro i hi
    refine Ev.step (fun k => ?_) h
    simp only [downpourlaw06_RandomOnce.l0]
    rw [if_neg (by omega)]
  | succ d ih =>
    intro i hi
    have hl := ints_length n
    have er : rd (ints n) (i : Int) = (i : Int) := by rw [rd_get (ints n) i (by omega)]; simp [ints]
    refine Ev.step (fun k => ?_) (ih (i + 1) (by omega))
    simp only [downpourlaw06_RandomOnce.l0]
    rw [if_pos (by omega), if_pos (by omega), if_pos (by omega), er, if_pos rfl, wrap64_in (by omega)]
    rfl
theorem once_pure (c a1 a2 : Int) (h0 : 0 ≤ c) (h1 : c < M64) : Ev (fun k => downpourlaw06_RandomOnce.f k c a1 a2) true := by
  unfold downpourlaw06_RandomOnce.f
  have b1 := tmod_pos a1 512 (by decide) (by decide)
  have b2 : 1 ≤ wrap64 (Int.tmod (wrap64 (Int.tmod a1 512 + 512)) 512 + 1) ∧ wrap64 (Int.tmod (wrap64 (Int.tmod a1 512 + 512)) 512 + 1) ≤ 512 := by rw [wrap64_in (by omega)]; omega
  generalize wrap64 (Int.tmod (wrap64 (Int.tmod a1 512 + 512)) 512 + 1) = n at b2 ⊢
  have e1 : wrap64 (n + 1) = n + 1 := wrap64_in (by omega)
  rw [e1]
  have b3 : 0 ≤ Int.tmod (wrap64 (wrap64 (Int.tmod a2 (n + 1) + n) + 1)) (n + 1) ∧ Int.tmod (wrap64 (wrap64 (Int.tmod a2 (n + 1) + n) + 1)) (n + 1) < n + 1 := by
    have z1 := Int.tmod_lt_of_pos a2 (show 0 < n + 1 by omega)
    have z2 := Int.lt_tmod_of_pos a2 (show 0 < n + 1 by omega)
    rw [wrap64_in (x := Int.tmod a2 (n + 1) + n) (by omega), wrap64_in (by omega)]
    exact ⟨Int.tmod_nonneg _ (by omega), Int.tmod_lt_of_pos _ (by omega)⟩
  generalize Int.tmod (wrap64 (wrap64 (Int.tmod a2 (n + 1) + n) + 1)) (n + 1) = m at b3 ⊢
  obtain ⟨a, rfl⟩ := Int.eq_ofNat_of_zero_le (show 0 ≤ n by omega)
  obtain ⟨b, rfl⟩ := Int.eq_ofNat_of_zero_le b3.1
  have hp := shuffle_perm c a h0 h1 (by omega) (by omega)
  have hl := shuffle_length c a h0 h1 (by omega) (by omega)
  have p1 := Shuffle_prog c a h0 h1 (by omega) (by omega)
  have p2 := Some_prog c a b h0 h1 (by omega) (by omega) (by omega)
  have l2 := few_length (shuffle c a).2 b
  refine Ev.congr (fun k => if_neg (by omega)) (Ev.bind p1 (Ev.bind p2 ?_))
  refine Ev.congr (fun k => (if_pos rfl).trans ((if_pos rfl).trans ((if_pos rfl).trans ((if_pos (by simp only []; omega)).trans (if_pos (by simp only []; omega)))))) ?_
  have la := ints_length a
  refine Ev.bind alive06 (Ev.step (f := fun k => downpourlaw06_RandomOnce.l0 k c a b (shuffle c a).2 (few (shuffle c a).2 b) (ints a) a 0) (fun k => ?_) ?_)
  · simp only [downpourlaw06_RandomOnce.j0]
    rw [if_neg (by decide)]
    unfold slices_Sorted_int.f
    rw [if_pos (by omega), sorted_ints a _ hp]
    simp only [Option.bind_some]
    rw [la]
  · exact once_l0 c a b _ _ (by omega) (once_l1 c a b _ _ h0 h1 (by omega) (by omega) hl (by omega) (by omega) (few_rise a _ hp b) (few_mem a _ hp b) _ 0 (Nat.zero_add _)) a 0 (by omega)
end Go.Proofs.Ytaofanhdmfdlmaa.Print
namespace Go.Proofs.Ytaofanhdmfdlmaa.Pure
open Go Go.RowKit Go.Proofs.YtaofanhdmfdlmaaW.PrintWords
theorem RandomOnce : Print.downpourlaw06_RandomOnce.Pure := by
  intro a0 a1 a2 w0 w1 w2
  have h := bounds_u64 w0
  exact Ev.rounds (Print.once_pure a0 a1 a2 (by omega) (by unfold Print.M64; omega))
end Go.Proofs.Ytaofanhdmfdlmaa.Pure

-- PRINTED by print.py: the row of the law downpourlaw06_RandomOnce, out of its Pure (the session's) and the printed walk. Not trusted: Lean checks it.
namespace Go.Proofs.Ytaofanhdmfdlmaa.randomOnce
open Go.ChangeShapes Go.WideShapes Go.ChangeAt Go.RowKit
open Go.ChangeMaps (open_string shut_string)
set_option linter.unusedVariables false
theorem own : ownKnob Try.prog.godebug = none := by kernel_rfl
set_option maxRecDepth 100000 in
theorem lifted (os : Os) (started : os.Started) (H : Type) (enc : TypeId × Value → H) :
    ReturnsInHanded {} Try.checked os 8 .any (Rows.randomOnceSpec.pre6 enc Try.prog Try.f8 Rows.randomOnceRow.domain false) (Rows.randomOnceSpec.post enc Try.prog Try.f8 false true false false) := by
  refine returnsInHanded_of_change_sized (C := Try.checked) own started (by kernel_rfl) Try.func8
    (ChangeSpec.witness6 (enc := enc) (C := Try.checked) false ⟨#[], #[.int .u64 0, .int .i64 0, .int .i64 0], []⟩ 8 (by kernel_rfl) (by kernel_rfl) (by kernel_rfl) (by kernel_rfl)) ?_
  intro W base args ds gs before hval0 hW hcnd hsz0 _
  have hsz : (DataW.weightsEach Try.prog (Try.f8.params.toList ++ Rows.randomOnceSpec.plain.varTypes Try.prog) (ds ++ gs)).all (· ≤ reachBytes) = true := hsz0
  have hval : ∀ (j : Nat) t v, Try.f8.params[j]? = some t → args[j]? = some v → Value.okWide Try.prog W .any base t v := hval0
  have hW' := hW
  obtain ⟨p, q, hA0, hV, rfl, hfz, hnd⟩ := hW
  have hA : DataW.TrodAll enc Try.prog W 0 (fun _ => true) true Try.f8.params.toList args.toList ds p := hA0
  rw [Try.params8] at hA hval hsz
  obtain ⟨v0, vs0, d0, ds0, p0, q0, hargs, rfl, rfl, h0, r0⟩ := trodAll_cons hA
  obtain ⟨v1, vs1, d1, ds1, p1, q1, rfl, rfl, rfl, h1, r1⟩ := trodAll_cons r0
  obtain ⟨v2, vs2, d2, ds2, p2, q2, rfl, rfl, rfl, h2, r2⟩ := trodAll_cons r1
  obtain ⟨rfl, rfl, rfl⟩ := trodAll_nil r2
  obtain rfl : args = #[v0, v1, v2] := by cases args; simp_all
  obtain ⟨rfl, rfl⟩ := trodVars_none hV
  obtain ⟨a0, rfl, rfl, rfl, w0⟩ := open_int Try.underlying25 (hval 0 25 v0 rfl rfl) h0
  obtain ⟨a1, rfl, rfl, rfl, w1⟩ := open_int Try.underlying3 (hval 1 3 v1 rfl rfl) h1
  obtain ⟨a2, rfl, rfl, rfl, w2⟩ := open_int Try.underlying3 (hval 2 3 v2 rfl rfl) h2
  clear hA0 hval0 hsz0 hsz
  refine (Print.downpourlaw06_RandomOnce.walk Pure.RandomOnce a0 a1 a2 W w0 w1 w2).mono fun e W' ⟨he, bel⟩ => ?_
  subst he
  exact ⟨_, rfl, _, _, _, [], _, [], hW', trodAll_mk1 (shut_bool Try.underlying4 _), (trodAll_cons_mk (shut_int Try.underlying25 w0) (trodAll_cons_mk (shut_int Try.underlying3 w1) (trodAll_cons_mk (shut_int Try.underlying3 w2) trodAll_mk0))), rfl, bel.frame _, fun h => by cases h⟩
theorem over : Rows.randomOnceRow.holds Try.pinned (OpenSpec.ofChange Rows.randomOnceSpec) :=
  OpenClaim.holds_of_wide 8 Try.f8 rfl rfl rfl rfl rfl rfl rfl ⟨rfl, rfl, rfl, rfl, rfl⟩ rfl rfl rfl rfl rfl (by kernel_rfl) Try.func8 (by kernel_rfl)
    (of_decide_eq_true (by kernel_rfl)) (by unfold Func.isWrapper; first | (rw [if_pos (by decide +kernel)]; kernel_rfl) | (rw [if_neg (by decide +kernel)]; exact ⟨rfl, rfl⟩))
    (fun os started H enc _ => lifted os started H enc)
theorem proved : Rows.RandomOnceSaid := over
end Go.Proofs.Ytaofanhdmfdlmaa.randomOnce
namespace Go.Proofs.Ytaofanhdmfdlmaa
/-- The row, under a short name, for the claim. -/
theorem randomOnce_holds : Rows.RandomOnceSaid := randomOnce.proved
end Go.Proofs.Ytaofanhdmfdlmaa

