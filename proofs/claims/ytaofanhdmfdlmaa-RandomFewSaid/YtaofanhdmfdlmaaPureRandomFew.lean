/-
What is proved: the plain law of RandomFew: for every state, number of rows and number asked for, some number of rounds tells true. Condition: none.
-/
import Derived.Test.YtaofanhdmfdlmaaPrint99
import Derived.Test.YtaofanhdmfdlmaaPureRandomOrders
namespace Go.Proofs.Ytaofanhdmfdlmaa.Print
open Go Go.RowKit Go.Proofs.YtaofanhdmfdlmaaW.PrintWords Go.Proofs.YtaofanhdmfdlmaaW.PrintLast Go.Proofs.YtaofanhdmfdlmaaW.PrintMore
set_option linter.unusedVariables false

theorem few_all (n : Nat) (l : List Int) (hp : l.Perm (ints n)) : few l n = ints n := by
  have hl : l.length = n := by rw [hp.length_eq, ints_length]
  rw [few_filter n l hp n, List.take_of_length_le (by omega)]
  exact List.filter_eq_self.2 fun a ha => decide_eq_true (hp.mem_iff.2 ha)
theorem few_more (n : Nat) (l : List Int) (hp : l.Perm (ints n)) (m : Nat) (x : Int) (h : x ∈ few l m) : x ∈ few l (m + 1) := by
  rw [few_filter n l hp m, List.mem_filter, decide_eq_true_iff] at h
  rw [few_filter n l hp (m + 1), List.mem_filter, decide_eq_true_iff]
  refine ⟨h.1, ?_⟩
  have e : l.take m = (l.take (m + 1)).take m := by rw [List.take_take, Nat.min_eq_left (by omega)]
  rw [e] at h
  exact List.mem_of_mem_take h.2
theorem index_go (x : Int) (l : List Int) (hl : l.length ≤ 4096) : ∀ (d i : Nat), i + d = l.length → x ∈ l.drop i → ∃ j : Nat, Ev (fun k => slices_Index_int_int.l0 k l x l.length i) (j : Int) := by
  intro d
  induction d with
  | zero => intro i hi hx; rw [List.drop_eq_nil_of_le (by omega)] at hx; cases hx
  | succ d ih =>
    intro i hi hx
    have hlt : i < l.length := by omega
    have er := rd_get l i hlt
    by_cases hq : x = l[i]
    · refine ⟨i, Ev.step (f := fun _ => some (i : Int)) (fun k => ?_) (Ev.now _)⟩
      simp only [slices_Index_int_int.l0]
      rw [if_pos (by omega), if_pos (by omega), if_pos (by omega), er, if_pos hq]
    · rw [List.drop_eq_getElem_cons hlt, List.mem_cons] at hx
      obtain ⟨j, hj⟩ := ih (i + 1) (by omega) (hx.resolve_left hq)
      refine ⟨j, Ev.step (fun k => ?_) hj⟩
      simp only [slices_Index_int_int.l0]
      rw [if_pos (by omega), if_pos (by omega), if_pos (by omega), er, if_neg hq, wrap64_in (by omega)]
      rfl
theorem contains_ev (x : Int) (l : List Int) (hl : l.length ≤ 4096) (h : x ∈ l) : Ev (fun k => slices_Contains_int_int.f k l x) true := by
  obtain ⟨j, hj⟩ := index_go x l hl l.length 0 (by omega) h
  refine Ev.bind (g := fun k => slices_Index_int_int.f k l x) (f := fun _ t => some (decide (t ≥ 0))) (a := (j : Int)) hj (Ev.congr (fun k => ?_) (Ev.now _))
  rw [decide_eq_true (show (j : Int) ≥ 0 by omega)]
theorem few_l1 (m : Int) (a b : List Int) (hab : ∀ x ∈ a, x ∈ b) (ha : a.length ≤ 4096) (hb : b.length ≤ 4096) (hm : (a.length : Int) = m) : ∀ (d i : Nat), i + d = a.length → Ev (fun k => downpourlaw06_RandomFew.l1 k m a b a a.length i) true := by
  intro d
  induction d with
  | zero =>
    intro i hi
    refine Ev.step (f := fun _ => some true) (fun k => ?_) (Ev.now _)
    simp only [downpourlaw06_RandomFew.l1]
    rw [if_neg (by omega), hm]
    simp
  | succ d ih =>
    intro i hi
    have hlt : i < a.length := by omega
    have er := rd_get a i hlt
    refine Ev.step (f := fun k => (slices_Contains_int_int.f k b a[i]).bind fun t => if t = true then downpourlaw06_RandomFew.l1 k m a b a a.length ((i + 1 : Nat) : Int) else some false) (fun k => ?_)
      (Ev.bind (contains_ev _ b hb (hab _ (List.getElem_mem hlt))) (Ev.congr (fun k => if_pos rfl) (ih (i + 1) (by omega))))
    simp only [downpourlaw06_RandomFew.l1]
    rw [if_pos (by omega), if_pos (by omega), if_pos (by omega), er, wrap64_in (by omega)]
    rfl
theorem few_l0 (m : Int) (a b : List Int) (n : Nat) (hn : n ≤ 4096) (h : Ev (fun k => downpourlaw06_RandomFew.l1 k m a b a a.length 0) true) : ∀ (d i : Nat), i + d = n → Ev (fun k => downpourlaw06_RandomFew.l0 k m a b (ints n) n i) true := by
  intro d
  induction d with
  | zero =>
    intro i hi
    refine Ev.step (fun k => ?_) h
    simp only [downpourlaw06_RandomFew.l0]
    rw [if_neg (by omega)]
  | succ d ih =>
    intro i hi
    have hl := ints_length n
    have er : rd (ints n) (i : Int) = (i : Int) := by rw [rd_get (ints n) i (by omega)]; simp [ints]
    refine Ev.step (fun k => ?_) (ih (i + 1) (by omega))
    simp only [downpourlaw06_RandomFew.l0]
    rw [if_pos (by omega), if_pos (by omega), if_pos (by omega), er, if_pos rfl, wrap64_in (by omega)]
    rfl
theorem tmod_pos (a b : Int) (hb : 0 < b) (hb2 : b ≤ 4096) : 0 ≤ Int.tmod (wrap64 (Int.tmod a b + b)) b ∧ Int.tmod (wrap64 (Int.tmod a b + b)) b < b := by
  have h1 := Int.tmod_lt_of_pos a hb
  have h2 := Int.lt_tmod_of_pos a hb
  rw [wrap64_in (by omega)]
  exact ⟨Int.tmod_nonneg _ (by omega), Int.tmod_lt_of_pos _ hb⟩
theorem few_pure (c a1 a2 : Int) (h0 : 0 ≤ c) (h1 : c < M64) : Ev (fun k => downpourlaw06_RandomFew.f k c a1 a2) true := by
  unfold downpourlaw06_RandomFew.f
  have b1 := tmod_pos a1 512 (by decide) (by decide)
  have b2 : 1 ≤ wrap64 (Int.tmod (wrap64 (Int.tmod a1 512 + 512)) 512 + 1) ∧ wrap64 (Int.tmod (wrap64 (Int.tmod a1 512 + 512)) 512 + 1) ≤ 512 := by rw [wrap64_in (by omega)]; omega
  generalize wrap64 (Int.tmod (wrap64 (Int.tmod a1 512 + 512)) 512 + 1) = n at b2 ⊢
  have b3 := tmod_pos a2 n (by omega) (by omega)
  generalize Int.tmod (wrap64 (Int.tmod a2 n + n)) n = m at b3 ⊢
  obtain ⟨a, rfl⟩ := Int.eq_ofNat_of_zero_le (show 0 ≤ n by omega)
  obtain ⟨b, rfl⟩ := Int.eq_ofNat_of_zero_le b3.1
  have hs : wrap64 ((b : Int) + 1) = ((b + 1 : Nat) : Int) := by rw [wrap64_in (by omega)]; rfl
  rw [hs]
  have hp := shuffle_perm c a h0 h1 (by omega) (by omega)
  have hl := shuffle_length c a h0 h1 (by omega) (by omega)
  have p0 := Some_prog c a 0 h0 h1 (by omega) (by omega) (by omega)
  have p1 := Some_prog c a a h0 h1 (by omega) (by omega) (by omega)
  have p2 := Some_prog c a b h0 h1 (by omega) (by omega) (by omega)
  have p3 := Some_prog c a (b + 1) h0 h1 (by omega) (by omega) (by omega)
  rw [show ((0 : Nat) : Int) = 0 from rfl] at p0
  have l0 := few_length (shuffle c a).2 0
  have l2 := few_length (shuffle c a).2 b
  have l3 := few_length (shuffle c a).2 (b + 1)
  rw [few_all a _ hp] at p1
  have la := ints_length a
  refine Ev.congr (fun k => if_neg (by omega)) (Ev.bind p0 (Ev.bind p1 (Ev.bind p2 (Ev.bind p3 ?_))))
  refine Ev.congr (fun k => (if_pos rfl).trans ((if_pos rfl).trans ((if_pos rfl).trans ((if_pos rfl).trans ((if_pos (by simp only []; omega)).trans ((if_pos (by simp only []; omega)).trans (if_pos (by simp only []; omega)))))))) ?_
  refine Ev.bind alive06 (Ev.step (f := fun k => downpourlaw06_RandomFew.l0 k b (few (shuffle c a).2 b) (few (shuffle c a).2 (b + 1)) (ints a) a 0) (fun k => ?_) ?_)
  · simp only [downpourlaw06_RandomFew.j0]
    rw [if_neg (by decide), la]
  · exact few_l0 b _ _ a (by omega) (few_l1 b _ _ (fun x hx => few_more a _ hp b x hx) (by omega) (by omega) (by omega) _ 0 (Nat.zero_add _)) a 0 (by omega)
end Go.Proofs.Ytaofanhdmfdlmaa.Print
namespace Go.Proofs.Ytaofanhdmfdlmaa.Pure
open Go Go.RowKit Go.Proofs.YtaofanhdmfdlmaaW.PrintWords
theorem RandomFew : Print.downpourlaw06_RandomFew.Pure := by
  intro a0 a1 a2 w0 w1 w2
  have h := bounds_u64 w0
  exact Ev.rounds (Print.few_pure a0 a1 a2 (by omega) (by unfold Print.M64; omega))
end Go.Proofs.Ytaofanhdmfdlmaa.Pure
