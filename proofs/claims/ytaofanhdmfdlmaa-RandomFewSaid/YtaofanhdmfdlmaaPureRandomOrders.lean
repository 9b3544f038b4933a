/-
What is proved: the plain law of RandomOrders: for every state, number of rows and number asked for, some number of rounds tells true. Condition: none.
-/
import Derived.Test.YtaofanhdmfdlmaaPrint98
import Derived.Test.YtaofanhdmfdlmaaPSome
namespace Go.Proofs.Ytaofanhdmfdlmaa.Print
open Go Go.RowKit Go.Proofs.YtaofanhdmfdlmaaW.PrintWords Go.Proofs.YtaofanhdmfdlmaaW.PrintLast Go.Proofs.YtaofanhdmfdlmaaW.PrintMore
set_option linter.unusedVariables false

theorem alive06 : Ev (fun k => downpourlaw06_alive.f k) true := by
  have hl := shuffle_length 5 1 (by decide) (by decide) (by decide) (by decide)
  have h := Shuffle_prog 5 1 (by decide) (by decide) (by decide) (by decide)
  refine Ev.bind (f := fun _ bt => if bt.2.2 = 0 then (some ((bt.2.1.length : Int) == 1)) else (some false)) h (Ev.congr (fun k => ?_) (Ev.now _))
  rw [if_pos rfl, hl]
  rfl
theorem orders_j2_bad (c n m : Int) (b : Bool) (hb : b = true) : Ev (fun k => downpourlaw06_RandomOrders.j2 k c n m 0 [] 2 b) true := by
  subst hb
  exact Ev.step (fun k => by simp only [downpourlaw06_RandomOrders.j2]; rw [if_pos trivial, if_pos trivial, if_pos trivial]; rfl) (Ev.now _)
theorem orders_j1_bad (c : Int) (n : Nat) (m : Int) (h : ¬ (0 ≤ m ∧ m ≤ n)) : Ev (fun k => downpourlaw06_RandomOrders.j1 k c n m 0 [] 2 false) true := by
  by_cases hm : m < 0
  · refine Ev.step (fun k => ?_) (orders_j2_bad c n m true rfl)
    simp only [downpourlaw06_RandomOrders.j1]
    rw [if_neg (by decide), if_pos hm]
  · refine Ev.step (fun k => ?_) (orders_j2_bad c n m (decide (m > n)) (decide_eq_true (by omega)))
    simp only [downpourlaw06_RandomOrders.j1]
    rw [if_neg (by decide), if_neg hm]
theorem orders_j1_ok (c : Int) (n m : Nat) (h0 : 0 ≤ c) (h1 : c < M64) (hn : 1 ≤ n) (hn2 : n ≤ 512) (hm : m ≤ n) : Ev (fun k => downpourlaw06_RandomOrders.j1 k c n m (shuffle c n).1 (few (shuffle c n).2 m) 0 false) true := by
  have hl := shuffle_length c n h0 h1 hn hn2
  have hf := few_length (shuffle c n).2 m
  have h2 : Ev (fun k => downpourlaw06_RandomOrders.j2 k c n m (shuffle c n).1 (few (shuffle c n).2 m) 0 false) true := by
    refine Ev.step (f := fun k => (downpourref06_Some.f k c n m).bind fun bt => if (shuffle c n).1 = bt.1 then ((downpourref01_Numbers.f k (few (shuffle c n).2 m) bt.2).bind fun t => some t) else some false) (fun k => ?_) (Ev.bind (Some_ref c n m h0 h1 hn hn2 hm) (Ev.congr (fun k => if_pos rfl) (Ev.bind (numbers_same _ (by omega)) (Ev.now _))))
    simp only [downpourlaw06_RandomOrders.j2]
    rw [if_neg (by decide)]
    congr 1
  refine Ev.step (fun k => ?_) h2
  simp only [downpourlaw06_RandomOrders.j1]
  rw [if_neg (by decide), if_neg (by omega), show decide ((m : Int) > (n : Int)) = false from decide_eq_false (by omega)]
theorem orders_j0_bad (c n m : Int) (b : Bool) (hb : b = true) : Ev (fun k => downpourlaw06_RandomOrders.j0 k c n m 0 [] 2 0 [] 2 b) true := by
  subst hb
  refine Ev.step (f := fun k => (downpourlaw06_alive.f k).bind fun t => if t = true then some true else some false) (fun k => ?_) (Ev.bind alive06 (Ev.now _))
  simp only [downpourlaw06_RandomOrders.j0]
  rw [if_pos trivial]
  congr 1
  funext t
  cases t with
  | false => rfl
  | true =>
    have e : wrap64 0 = 0 := wrap64_in (by decide)
    simp [e]
theorem orders_j0_ok (c : Int) (n : Nat) (m s : Int) (l : List Int) (z : Int) (h0 : 0 ≤ c) (h1 : c < M64) (hn : 1 ≤ n) (hn2 : n ≤ 512) (h : Ev (fun k => downpourlaw06_RandomOrders.j1 k c n m s l z false) true) :
    Ev (fun k => downpourlaw06_RandomOrders.j0 k c n m (shuffle c n).1 (shuffle c n).2 0 s l z false) true := by
  have hl := shuffle_length c n h0 h1 hn hn2
  refine Ev.step (f := fun k => (downpourref06_Shuffle.f k c n).bind fun bt => if (shuffle c n).1 = bt.1 then ((downpourref01_Numbers.f k (shuffle c n).2 bt.2).bind fun t => if t = true then (downpourlaw06_alive.f k).bind fun u => downpourlaw06_RandomOrders.j1 k c n m s l z (!u) else downpourlaw06_RandomOrders.j1 k c n m s l z true) else downpourlaw06_RandomOrders.j1 k c n m s l z true) (fun k => ?_)
    (Ev.bind (Shuffle_ref c n h0 h1 hn hn2) (Ev.congr (fun k => if_pos rfl) (Ev.bind (numbers_same _ (by omega)) (Ev.congr (fun k => if_pos rfl) (Ev.bind alive06 h)))))
  simp only [downpourlaw06_RandomOrders.j0]
  rw [if_neg (by decide)]
  congr 1
theorem orders_pure (c n m : Int) (h0 : 0 ≤ c) (h1 : c < M64) : Ev (fun k => downpourlaw06_RandomOrders.f k c n m) true := by
  by_cases h : 1 ≤ n ∧ n ≤ 512
  · obtain ⟨a, rfl⟩ := Int.eq_ofNat_of_zero_le (show 0 ≤ n by omega)
    have e : ∀ (x0 x1 x2 x3 x4 x5 : _) (k : Nat), (if (a : Int) < 1 then downpourlaw06_RandomOrders.j0 k c a m x0 x1 x2 x3 x4 x5 true else downpourlaw06_RandomOrders.j0 k c a m x0 x1 x2 x3 x4 x5 (decide ((a : Int) > 512))) = downpourlaw06_RandomOrders.j0 k c a m x0 x1 x2 x3 x4 x5 false := fun _ _ _ _ _ _ k => by
      rw [if_neg (by omega), show decide ((a : Int) > 512) = false from decide_eq_false (by omega)]
    unfold downpourlaw06_RandomOrders.f
    refine Ev.bind (f := fun k bt461 => (random_Some.f k c a m).bind fun bt466 => if (a : Int) < 1 then downpourlaw06_RandomOrders.j0 k c a m bt461.1 bt461.2.1 bt461.2.2 bt466.1 bt466.2.1 bt466.2.2 true else downpourlaw06_RandomOrders.j0 k c a m bt461.1 bt461.2.1 bt461.2.2 bt466.1 bt466.2.1 bt466.2.2 (decide ((a : Int) > 512))) (Shuffle_prog c a h0 h1 (by omega) (by omega)) ?_
    by_cases hm : 0 ≤ m ∧ m ≤ a
    · obtain ⟨b, rfl⟩ := Int.eq_ofNat_of_zero_le hm.1
      refine Ev.bind (Some_prog c a b h0 h1 (by omega) (by omega) (by omega)) (Ev.congr (fun k => e _ _ _ _ _ _ k) ?_)
      exact orders_j0_ok c a b _ _ _ h0 h1 (by omega) (by omega) (orders_j1_ok c a b h0 h1 (by omega) (by omega) (by omega))
    · refine Ev.bind (Ev.congr (fun k => Some_refused c a m (by omega) k) (Ev.now _)) (Ev.congr (fun k => e _ _ _ _ _ _ k) ?_)
      exact orders_j0_ok c a m _ _ _ h0 h1 (by omega) (by omega) (orders_j1_bad c a m hm)
  · unfold downpourlaw06_RandomOrders.f
    refine Ev.bind (f := fun k bt461 => (random_Some.f k c n m).bind fun bt466 => if n < 1 then downpourlaw06_RandomOrders.j0 k c n m bt461.1 bt461.2.1 bt461.2.2 bt466.1 bt466.2.1 bt466.2.2 true else downpourlaw06_RandomOrders.j0 k c n m bt461.1 bt461.2.1 bt461.2.2 bt466.1 bt466.2.1 bt466.2.2 (decide (n > 512))) (Ev.congr (fun k => Shuffle_refused c n h k) (Ev.now _)) ?_
    refine Ev.bind (Ev.congr (fun k => Some_refused c n m (by omega) k) (Ev.now _)) ?_
    by_cases hn : n < 1
    · exact Ev.congr (fun k => if_pos hn) (orders_j0_bad c n m true rfl)
    · exact Ev.congr (fun k => if_neg hn) (orders_j0_bad c n m (decide (n > 512)) (decide_eq_true (by omega)))
end Go.Proofs.Ytaofanhdmfdlmaa.Print
namespace Go.Proofs.Ytaofanhdmfdlmaa.Pure
open Go Go.RowKit Go.Proofs.YtaofanhdmfdlmaaW.PrintWords
theorem RandomOrders : Print.downpourlaw06_RandomOrders.Pure := by
  intro a0 a1 a2 w0 w1 w2
  have h := bounds_u64 w0
  exact Ev.rounds (Print.orders_pure a0 a1 a2 (by omega) (by unfold Print.M64; omega))
end Go.Proofs.Ytaofanhdmfdlmaa.Pure
