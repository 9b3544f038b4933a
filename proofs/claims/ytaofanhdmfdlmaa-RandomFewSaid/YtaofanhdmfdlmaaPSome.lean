/-
What is proved: so many of an order, by the program and by the reference, are the same; equal rows are found equal. Condition: the state is a uint64, 1 ≤ n ≤ 512, 0 ≤ m ≤ n.
-/
import Derived.Test.YtaofanhdmfdlmaaPShuf
import Derived.Test.YtaofanhdmfdlmaaSome
namespace Go.Proofs.Ytaofanhdmfdlmaa.Print
open Go Go.RowKit Go.Proofs.YtaofanhdmfdlmaaW.PrintWords Go.Proofs.YtaofanhdmfdlmaaW.PrintLast Go.Proofs.YtaofanhdmfdlmaaW.PrintMore
set_option linter.unusedVariables false

theorem rd_get (l : List Int) (i : Nat) (h : i < l.length) : rd l (i : Int) = l[i] := by unfold rd; simp [List.getD_eq_getElem?_getD, h]
theorem in_go (x : Int) (l : List Int) (hl : l.length ≤ 512) : ∀ (d i : Nat), i + d = l.length → Ev (fun k => downpourref06_in.l0 k x l l.length i) (decide (x ∈ l.drop i)) := by
  intro d
  induction d with
  | zero =>
    intro i hi
    refine Ev.step (f := fun _ => some (decide (x ∈ l.drop i))) (fun k => ?_) (Ev.now _)
    simp only [downpourref06_in.l0]
    rw [if_neg (by omega), List.drop_eq_nil_of_le (by omega)]
    simp
  | succ d ih =>
    intro i hi
    have hlt : i < l.length := by omega
    have e : l.drop i = l[i] :: l.drop (i + 1) := List.drop_eq_getElem_cons hlt
    have er := rd_get l i hlt
    by_cases hx : l[i] = x
    · refine Ev.step (f := fun _ => some (decide (x ∈ l.drop i))) (fun k => ?_) (Ev.now _)
      simp only [downpourref06_in.l0]
      rw [if_pos (by omega), if_pos (by omega), if_pos (by omega), er, if_pos hx, e]
      simp [hx]
    · have e2 : decide (x ∈ l.drop i) = decide (x ∈ l.drop (i + 1)) := decide_eq_decide.2 (by rw [e, List.mem_cons]; exact ⟨fun h => h.resolve_left (Ne.symm hx), .inr⟩)
      rw [e2]
      refine Ev.step (f := fun k => downpourref06_in.l0 k x l l.length ((i + 1 : Nat) : Int)) (fun k => ?_) (ih (i + 1) (by omega))
      simp only [downpourref06_in.l0]
      rw [if_pos (by omega), if_pos (by omega), if_pos (by omega), er, if_neg hx, wrap64_in (by omega)]
      rfl
theorem in_ev (x : Int) (l : List Int) (m : Nat) (hl : l.length ≤ 512) (hm : m ≤ l.length) : Ev (fun k => downpourref06_in.f k l m x) (decide (x ∈ l.take m)) := by
  have h := in_go x (l.take m) (by rw [List.length_take]; omega) (l.take m).length 0 (by omega)
  rw [List.drop_zero] at h
  refine Ev.congr (fun k => ?_) h
  unfold downpourref06_in.f
  rw [if_pos (by omega), if_pos (by omega)]
  rfl
theorem some_go (n : Nat) (hn : n ≤ 512) (s : Int) (l : List Int) (hl : l.length ≤ 512) (m : Nat) (hm : m ≤ l.length) : ∀ (d i : Nat) (acc : List Int), i + d = n → acc.length ≤ i →
    Ev (fun k => downpourref06_Some.l0 k n m i s l s acc) (s, acc ++ ((List.range' i d).map fun j : Nat => (j : Int)).filter fun x => decide (x ∈ l.take m)) := by
  intro d
  induction d with
  | zero =>
    intro i acc hi _
    refine Ev.step (f := fun _ => some (s, acc)) (fun k => ?_) (by simpa using Ev.now (s, acc))
    simp only [downpourref06_Some.l0]
    rw [if_neg (by omega)]
  | succ d ih =>
    intro i acc hi ha
    refine Ev.step (f := fun k => (downpourref06_in.f k l m i).bind fun t => if t = true then downpourref06_Some.l0 k n m ((i + 1 : Nat) : Int) s l s (acc ++ [(i : Int)]) else downpourref06_Some.l0 k n m ((i + 1 : Nat) : Int) s l s acc) (fun k => ?_) (Ev.bind (in_ev i l m hl hm) ?_)
    · simp only [downpourref06_Some.l0]
      rw [if_pos (by omega), wrap64_in (by omega)]
      congr 1
      funext t
      by_cases ht : t = true
      · rw [if_pos ht, if_pos (by omega), if_pos ht]; rfl
      · rw [if_neg ht, if_neg ht]; rfl
    · rw [List.range'_succ, List.map_cons]
      by_cases hx : (i : Int) ∈ l.take m
      · have e : decide ((i : Int) ∈ l.take m) = true := decide_eq_true hx
        rw [List.filter_cons, if_pos e]
        have h := ih (i + 1) (acc ++ [(i : Int)]) (by omega) (by rw [List.length_append, List.length_singleton]; omega)
        rw [List.append_assoc, List.singleton_append] at h
        exact Ev.congr (fun k => if_pos e) h
      · have e : decide ((i : Int) ∈ l.take m) = false := decide_eq_false hx
        rw [List.filter_cons, if_neg (by rw [e]; decide)]
        exact Ev.congr (fun k => if_neg (by rw [e]; decide)) (ih (i + 1) acc (by omega) (by omega))
theorem ints_sorted (n : Nat) : (ints n).Pairwise (· < ·) := by
  unfold ints
  rw [List.pairwise_map]
  exact List.pairwise_lt_range.imp fun h => by omega
theorem ints_nodup (n : Nat) : (ints n).Nodup := (ints_sorted n).imp fun h => by omega
def few (l : List Int) (m : Nat) : List Int := (l.take m).mergeSort fun x y => decide (x ≤ y)
theorem few_filter (n : Nat) (l : List Int) (hp : l.Perm (ints n)) (m : Nat) : few l m = (ints n).filter fun x => decide (x ∈ l.take m) := by
  have hd : (l.take m).Nodup := (List.take_sublist m l).nodup (hp.nodup_iff.2 (ints_nodup n))
  have hd2 : ((ints n).filter fun x => decide (x ∈ l.take m)).Nodup := List.filter_sublist.nodup (ints_nodup n)
  have p1 : (few l m).Perm ((ints n).filter fun x => decide (x ∈ l.take m)) := by
    refine (List.mergeSort_perm _ _).trans ((List.perm_ext_iff_of_nodup hd hd2).2 fun a => ?_)
    rw [List.mem_filter, decide_eq_true_iff]
    exact ⟨fun h => ⟨hp.mem_iff.1 (List.mem_of_mem_take h), h⟩, fun h => h.2⟩
  refine List.Perm.eq_of_pairwise (le := fun a b : Int => a ≤ b) (fun a b _ _ h1 h2 => by omega) ?_ ?_ p1
  · have h := List.pairwise_mergeSort (le := fun x y : Int => decide (x ≤ y)) (fun a b c h1 h2 => by simp only [decide_eq_true_eq] at *; omega) (fun a b => by simp only [Bool.or_eq_true, decide_eq_true_eq]; omega) (l.take m)
    exact h.imp fun h => by simpa using h
  · exact ((ints_sorted n).sublist List.filter_sublist).imp fun h => by omega
theorem ints_range' (n : Nat) : ((List.range' 0 n).map fun j : Nat => (j : Int)) = ints n := by unfold ints; rw [List.range_eq_range']
theorem shuffle_length (c : Int) (n : Nat) (h0 : 0 ≤ c) (h1 : c < M64) (hn : 1 ≤ n) (hn2 : n ≤ 512) : (shuffle c n).2.length = n := by rw [(shuffle_perm c n h0 h1 hn hn2).length_eq, ints_length]
theorem Some_ref (c : Int) (n m : Nat) (h0 : 0 ≤ c) (h1 : c < M64) (hn : 1 ≤ n) (hn2 : n ≤ 512) (hm : m ≤ n) : Ev (fun k => downpourref06_Some.f k c n m) ((shuffle c n).1, few (shuffle c n).2 m) := by
  have hp := shuffle_perm c n h0 h1 hn hn2
  have hl := shuffle_length c n h0 h1 hn hn2
  have h := some_go n hn2 (shuffle c n).1 (shuffle c n).2 (by omega) m (by omega) n 0 [] (by omega) (by simp)
  rw [ints_range', List.nil_append, ← few_filter n _ hp m] at h
  exact Ev.bind (f := fun k bt => downpourref06_Some.l0 k n m 0 bt.1 bt.2 bt.1 []) (Shuffle_ref c n h0 h1 hn hn2) h
theorem Some_prog (c : Int) (n m : Nat) (h0 : 0 ≤ c) (h1 : c < M64) (hn : 1 ≤ n) (hn2 : n ≤ 512) (hm : m ≤ n) : Ev (fun k => random_Some.f k c n m) ((shuffle c n).1, few (shuffle c n).2 m, 0) := by
  have hl := shuffle_length c n h0 h1 hn hn2
  refine Ev.congr (f := fun k => (random_Shuffle.f k c n).bind fun t => if (m : Int).toNat ≤ t.2.1.length ∧ t.2.2 = 0 then (slices_Sort_int_int.f (t.2.1.take (m : Int).toNat)).bind fun m => some (t.1, m, 0) else none) (fun k => ?_) (Ev.bind (Shuffle_prog c n h0 h1 hn hn2) (Ev.congr (fun k => ?_) (Ev.now _)))
  · unfold random_Some.f
    rw [sized_eq, decide_eq_true (show (1 : Int) ≤ n by omega), decide_eq_true (show (n : Int) ≤ 512 by omega)]
    simp only [Bool.and_self, Option.bind_some]
    rw [if_neg (by rintro (h | h | h); cases h; omega; omega)]
  · rw [if_pos ⟨by simp only [Int.toNat_natCast]; omega, rfl⟩]
    unfold slices_Sort_int_int.f
    rw [if_pos (by rw [List.length_take]; omega), Int.toNat_natCast]
    rfl
theorem Some_refused (c n m : Int) (h : ¬ (1 ≤ n ∧ n ≤ 512 ∧ 0 ≤ m ∧ m ≤ n)) (k : Nat) : random_Some.f k c n m = some (0, [], 2) := by
  unfold random_Some.f
  rw [sized_eq]
  simp only [Option.bind_some]
  rw [if_pos]
  rw [Bool.and_eq_false_iff]
  simp only [decide_eq_false_iff_not]
  omega
theorem numbers_go (l : List Int) (hl : l.length ≤ 4096) : ∀ (d i : Nat), i + d = l.length → Ev (fun k => downpourref01_Numbers.l0 k l l l.length i) true := by
  intro d
  induction d with
  | zero =>
    intro i hi
    refine Ev.step (f := fun _ => some true) (fun k => ?_) (Ev.now _)
    simp only [downpourref01_Numbers.l0]
    rw [if_neg (by omega)]
  | succ d ih =>
    intro i hi
    refine Ev.step (f := fun k => downpourref01_Numbers.l0 k l l l.length ((i + 1 : Nat) : Int)) (fun k => ?_) (ih (i + 1) (by omega))
    simp only [downpourref01_Numbers.l0]
    rw [if_pos (by omega), if_pos (by omega), if_pos (by omega), if_pos (by omega), if_pos trivial, wrap64_in (by omega)]
    rfl
theorem numbers_same (l : List Int) (hl : l.length ≤ 4096) : Ev (fun k => downpourref01_Numbers.f k l l) true :=
  Ev.congr (fun k => by unfold downpourref01_Numbers.f; rw [if_pos rfl]; rfl) (numbers_go l hl l.length 0 (by omega))
theorem few_length (l : List Int) (m : Nat) : (few l m).length = min m l.length := by unfold few; rw [List.length_mergeSort, List.length_take]
end Go.Proofs.Ytaofanhdmfdlmaa.Print
