import Derived.Test.YtaofanhdmfdlmaaNrows0
import Derived.Shelf.Abstract
import Derived.RegionTactic
import Derived.Deep.QuietTactic
import Derived.BigQuiet
import Derived.RangeFuncRecord
import Derived.RangeFuncNested
import Derived.RangeFuncBound
import Derived.RangeFuncCalls
import Derived.RangeFuncLeaves
import Derived.WalkKit
import Derived.OwnWalkIn
import Derived.TacticsInMore
import Derived.LoopNIn
import Derived.LoopIn
/-
What is proved: degree.Pick at a table whose sums rise: 1 more than how many sums are not above the number, modulo the last sum. Condition: 1 to 64 sums, the first above 0, rising.
-/
namespace Go.Proofs.Ytaofanhdmfdlmaa.Print
open Go Go.RowKit Go.Proofs.YtaofanhdmfdlmaaW.PrintWords Go.Proofs.YtaofanhdmfdlmaaW.PrintLast Go.Proofs.YtaofanhdmfdlmaaW.PrintMore
set_option linter.unusedVariables false
/-- 'table[i] > n'. -/
theorem pick1_calls (B1 B2 : Nat) (A : Option Addr) (c : Nat) (l : List Int) (n : Int) (i : Nat) (w : World) (hi : i < l.length) (hT : w.heap[B1]? = some (.cells #[.slice A l.length c] 88 (0, 0))) (hN : w.heap[B2]? = some (.cells #[.int .u64 n] 25 (0, 0))) (hC : Kd.C (Kd.int .u64) w A l.length l) :
    Calls Try.prog 165 #[.int .i64 (i : Int), .pointer (some ⟨B1, 0, none⟩), .pointer (some ⟨B2, 0, none⟩)] w fun e w' => e = .returned (.bool (decide (n < rd l i))) ∧ ∃ nd, w' = w.drewN nd := by
  have c1 : w.cell? ⟨B1, 0, none⟩ = some (.slice A l.length c) := (blk_cell hT 0).trans rfl
  have c2 : w.cell? ⟨B2, 0, none⟩ = some (.int .u64 n) := (blk_cell hN 0).trans rfl
  have p0 : 0 ≤ (i : Int) := by omega
  have q0 : (i : Int) < (l.length : Int) := by omega
  obtain ⟨ad, e, hx⟩ := Kd.at_int hC (i : Int) p0 q0
  cases e
  rw [Int.toNat_natCast] at hx
  have HI := Aside0.mk hi
  clear hT hN hC hi
  generalize rd l (i : Int) = y at *
  go_enter Try.func165, Try.ntmps165
  go_wp2
  go_quiet (fail)
  go_wp2
  go_ret
  exact ⟨rfl, _, rfl⟩
set_option maxHeartbeats 4000000 in
set_option maxRecDepth 100000 in
theorem search_calls (g : Nat) (lb : Array Value) (eg : ∀ args w, (callFunc g args).run Try.prog w = .ok (.enter g args) w) (n : Nat) (hn : n ≤ 4096) (p : Nat → Bool) (hmono : ∀ i j, i ≤ j → j < n → p i = true → p j = true) (w : World)
    (hp : ∀ W i, (∃ q, W = w.drewN q) → i < n → Calls Try.prog g (#[.int .i64 (i : Int)] ++ lb) W fun e W' => e = .returned (.bool (p i)) ∧ ∃ nd, W' = W.drewN nd) :
    Calls Try.prog 164 #[.int .i64 (n : Int), .func (.func g) #[] lb] w fun e w' => ∃ r : Nat, e = .returned (.int .i64 (r : Int)) ∧ r ≤ n ∧ (∀ i, i < r → p i = false) ∧ (∀ i, r ≤ i → i < n → p i = true) ∧ ∃ q, w' = w.drewN q := by
  have HP := Aside0.mk hp
  have HM := Aside0.mk hmono
  clear hp hmono
  go_enter Try.func164, Try.ntmps164
  go_wp2
  go_loopg [5, 6] n (fun gg v5 v6 wr => ∃ i j : Nat, v5 = .int .i64 (i : Int) ∧ v6 = .int .i64 (j : Int) ∧ i ≤ j ∧ j ≤ n ∧ j - i ≤ gg ∧ Aside0 (∀ k, k < i → p k = false) ∧ Aside0 (∀ k, j ≤ k → k < n → p k = true) ∧ Aside0 (∃ q, wr = w.drewN q))
  case atStart => exact ⟨0, n, rfl, rfl, Nat.zero_le _, Nat.le_refl _, by omega, ⟨fun k hk => absurd hk (Nat.not_lt_zero _)⟩, ⟨fun k h1 h2 => absurd h2 (by omega)⟩, ⟨⟨0, rfl⟩⟩⟩
  case round =>
    obtain ⟨i, j, rfl, rfl, hij, hjn, hg, H1, H2, HQ⟩ := hrel
    by_cases hlt : i < j
    · have hltb : decide (i < j) = true := decide_eq_true hlt
      have e1 : wrap64 ((i : Int) + (j : Int)) = (i : Int) + (j : Int) := IntWalk.wrap64_in _ (by omega)
      obtain ⟨h, hh⟩ : ∃ h : Nat, h = (i + j) / 2 := ⟨_, rfl⟩
      have hhe : ((i : Int) + (j : Int)) / 2 = (h : Int) := by omega
      have hcall := HP.out wr h HQ.out (by omega)
      have hwr : wrap64 ((h : Int) + 1) = ((h + 1 : Nat) : Int) := by rw [IntWalk.wrap64_in _ (by omega)]; rfl
      have b1 : h < n := by omega
      have b2 : i ≤ h := by omega
      have b3 : h < j := by omega
      have HB := Aside0.mk (And.intro b1 (And.intro b2 b3))
      have HHE := Aside0.mk hhe
      clear hh
      cases hq : p h with
      | true =>
        rw [hq] at hcall
        have HCALL := Aside0.mk hcall
        have HQ1 := Aside0.mk hq
        clear hcall hq
        go_wp2_with fail
        refine HCALL.out.mono ?_
        rintro e w' ⟨rfl, ⟨nd, rfl⟩⟩
        go_wp2
        go_roundg (gk - 1)
        case measure => omega
        case rel => exact ⟨i, h, rfl, by first | rfl | go_num, by omega, by omega, by omega, H1, ⟨fun k h1 h2 => HM.out h k h1 h2 HQ1.out⟩, ⟨by obtain ⟨q, rfl⟩ := HQ.out; exact ⟨_, World.drewN_drewN ..⟩⟩⟩
      | false =>
        rw [hq] at hcall
        have HCALL := Aside0.mk hcall
        have HQ1 := Aside0.mk hq
        clear hcall hq
        go_wp2_with fail
        refine HCALL.out.mono ?_
        rintro e w' ⟨rfl, ⟨nd, rfl⟩⟩
        go_wp2
        go_roundg (gk - 1)
        case measure => omega
        case rel => exact ⟨h + 1, j, by first | rfl | go_num | simp [hwr], rfl, by omega, by omega, by omega, ⟨fun k hk => by
          rcases Nat.lt_or_ge k (h + 1) with hk2 | hk2
          · cases hpk : p k with
            | false => rfl
            | true => have := HM.out k h (by omega) (by have := HB.out; omega) hpk; rw [HQ1.out] at this; cases this
          · omega⟩, H2, ⟨by obtain ⟨q, rfl⟩ := HQ.out; exact ⟨_, World.drewN_drewN ..⟩⟩⟩
    · have hltb : decide (i < j) = false := decide_eq_false hlt
      have HIJ := Aside0.mk (show i = j by omega)
      have HJN := Aside0.mk hjn
      clear hlt hij hjn hg
      go_wp2
      go_ret
      exact ⟨i, rfl, by have := HIJ.out; have := HJN.out; omega, H1.out, fun k h1 h2 => H2.out k (by have := HIJ.out; omega) h2, HQ.out⟩
def risesB (l : List Int) : Bool := (List.range (l.length - 1)).all fun i => decide (rd l i < rd l ((i : Int) + 1))
theorem rises_at {l : List Int} (h : risesB l = true) (i : Nat) (hi : i + 1 < l.length) : rd l i < rd l ((i : Int) + 1) := by
  unfold risesB at h
  exact of_decide_eq_true (List.all_eq_true.1 h i (List.mem_range.2 (by omega)))
theorem rises_le {l : List Int} (h : risesB l = true) : ∀ (d i : Nat), i + d < l.length → rd l i ≤ rd l ((i + d : Nat) : Int) := by
  intro d
  induction d with
  | zero => intro i _; exact Int.le_refl _
  | succ d ih =>
    intro i hi
    have h1 := ih i (by omega)
    have h2 := rises_at h (i + d) (by omega)
    rw [show (((i + d : Nat) : Int) + 1) = ((i + (d + 1) : Nat) : Int) by omega] at h2
    omega
theorem at_tail {ad : Addr} (i : Nat) : ad.add (i + 1) = (⟨ad.block, ad.off + 1 + i, none⟩ : Addr) := by
  unfold Addr.add
  rw [if_neg (by omega)]
  simp <;> omega
theorem findIdx_rd (l : List Int) (p : Int → Bool) (r : Nat) (hr : r ≤ l.length) (h1 : ∀ i, i < r → p (rd l (i : Int)) = false) (h2 : ∀ i, r ≤ i → i < l.length → p (rd l (i : Int)) = true) : l.findIdx p = r := by
  have er : ∀ i (h : i < l.length), rd l (i : Int) = l[i] := fun i h => by unfold rd; simp [List.getD_eq_getElem?_getD, h]
  rcases Nat.lt_or_ge r l.length with hlt | hge
  · rw [List.findIdx_eq hlt]
    refine ⟨by have := h2 r (Nat.le_refl _) hlt; rwa [er r hlt] at this, fun j hj => ?_⟩
    have := h1 j hj
    rwa [er j (by omega)] at this
  · obtain rfl : r = l.length := by omega
    rw [List.findIdx_eq_length]
    intro x hx
    obtain ⟨i, hi, rfl⟩ := List.mem_iff_getElem.1 hx
    have := h1 i hi
    rwa [er i hi] at this
def pickOk (l : List Int) (n : Int) : Bool := decide (1 ≤ l.length) && decide (l.length ≤ 64) && decide (0 < rd l 0) && risesB l && decide (0 ≤ n)
def degree_Pick.f (l0 : List Int) (a1 : Int) : Option (Int × Int) := if pickOk l0 a1 = true then some ((l0.findIdx fun x => decide (a1 % rd l0 ((l0.length : Int) - 1) < x) : Nat) + 1, 0) else none
set_option maxHeartbeats 8000000 in
set_option maxRecDepth 100000 in
theorem degree_Pick.calls (A0 : Option Addr) (c0 : Nat) (l0 : List Int) (a1 : Int) (r1 : Int) (r2 : Int) (w : World) (hr0 : Kd.C (Kd.int .u64) w A0 l0.length l0) (hc0 : l0.length ≤ c0) (h : degree_Pick.f l0 a1 = some (r1, r2)) :
    Calls Try.prog 136 #[.slice A0 l0.length c0, .int .u64 a1] w fun e w' => e = .returned (.tuple #[.int .i64 r1, .int .i64 r2]) ∧ Below w.heap.size w w' := by
  unfold degree_Pick.f at h
  by_cases hok : pickOk l0 a1 = true
  case neg => rw [if_neg hok] at h; cases h
  rw [if_pos hok] at h
  simp only [Option.some.injEq, Prod.mk.injEq] at h
  obtain ⟨rfl, rfl⟩ := h
  unfold pickOk at hok
  simp only [Bool.and_eq_true, decide_eq_true_eq] at hok
  obtain ⟨⟨⟨⟨hl1, hl2⟩, hz⟩, hrise⟩, hn0⟩ := hok
  have hlb : ((l0.length : Int) == 0) = false := beq_eq_false_iff_ne.mpr (by omega)
  have hgb : decide (64 < l0.length) = false := decide_eq_false (by omega)
  have hgb2 : decide ((l0.length : Int) > 64) = false := decide_eq_false (by omega)
  have hzb : (rd l0 0 == 0) = false := beq_eq_false_iff_ne.mpr (by omega)
  obtain ⟨ad, e, hx0⟩ := Kd.at_int hr0 0 (by omega) (by omega)
  cases e
  obtain ⟨w2, hw2⟩ : ∃ w2, w2 = ((w.alloc (.cells #[.slice (some ad) l0.length c0] 88)).alloc (.cells #[.int .u64 a1] 25)) := ⟨_, rfl⟩
  have B0 : w2.heap[w.heap.size]? = some (.cells #[.slice (some ad) l0.length c0] 88 (0, 0)) := by
    rw [hw2]; refine blk_alloc ?_ _; exact World.alloc_heap_new w _
  have B1 : w2.heap[w.heap.size + 1]? = some (.cells #[.int .u64 a1] 25 (0, 0)) := by
    rw [hw2]
    have := World.alloc_heap_new (w.alloc (.cells #[.slice (some ad) l0.length c0] 88)) (.cells #[.int .u64 a1] 25)
    rwa [World.size_alloc] at this
  have HB2 : Below w.heap.size w w2 := by rw [hw2]; exact below_alloc (below_alloc (Below.refl _ _) _) _
  have hC2 : Kd.C (Kd.int .u64) w2 (some ad) l0.length l0 := Kd.C_below hr0 HB2
  obtain ⟨ad', e', hx1⟩ := Kd.at_int hC2 0 (by omega) (by omega)
  cases e'
  have hxx : w2.cell? ad = some (.int .u64 (rd l0 0)) := hx1
  rw [hw2] at hxx
  have hl0 : 0 < l0.length := hl1
  clear hx0 hx1
  have HC2 := Aside0.mk hC2
  have HBLK0 := Aside0.mk B0
  have HBLK1 := Aside0.mk B1
  have HBE := Aside0.mk HB2
  have HW2 := Aside0.mk hw2
  clear hC2 B0 B1 HB2 hw2
  have HC := Aside0.mk hr0
  have HRISE := Aside0.mk hrise
  have HL1 := Aside0.mk hl1
  have HL2 := Aside0.mk hl2
  have HZ := Aside0.mk hz
  have HN := Aside0.mk hn0
  have HC0 := Aside0.mk hc0
  clear hr0 hrise hl1 hl2 hz hn0 hc0
  go_enter Try.func136, Try.ntmps136
  go_wp2
  · have hc1 : c0 = 1 := by assumption
    subst hc1
    rw [← HW2.out]
    obtain ⟨m, hm⟩ : ∃ m, l0.length - 1 = m := ⟨_, rfl⟩
    rw [hm]
    have HM := Aside0.mk hm
    clear hxx hl0 hlb hgb hgb2 hzb hm
    go_loopg [25] m (fun gg v25 wr => ∃ i : Nat, v25 = .int .i64 (i : Int) ∧ i ≤ m ∧ m - i ≤ gg ∧ wr = w2)
    case atStart => exact ⟨0, rfl, Nat.zero_le _, by omega, rfl⟩
    case round =>
      obtain ⟨i, rfl, him, hg, rfl⟩ := hrel
      by_cases hlt : i < m
      · (exfalso; have z1:=HM.out; have z2:=HC0.out; omega)
        all_goals
          have hltb : decide (i < m) = true := decide_eq_true hlt
          have hil : i < l0.length := by have := HM.out; omega
          have hil2 : i + 1 < l0.length := by have := HM.out; omega
          obtain ⟨_, e1, hxi⟩ := Kd.at_int HC2.out (i : Int) (by omega) (by omega)
          cases e1
          obtain ⟨_, e2, hxj⟩ := Kd.at_int HC2.out ((i + 1 : Nat) : Int) (by omega) (by omega)
          cases e2
          rw [Int.toNat_natCast] at hxi hxj
          rw [at_tail] at hxj
          have hb0 : wr.cell? ⟨w.heap.size, 0, none⟩ = some (.slice (some ad) l0.length 1) := (blk_cell HBLK0.out 0).trans rfl
          have hge : decide (rd l0 (i : Int) ≥ rd l0 ((i + 1 : Nat) : Int)) = false := decide_eq_false (by have := rises_at HRISE.out i hil2; rw [Int.natCast_add]; show ¬ _; simp; exact this)
          have hwr : wrap64 ((i : Int) + 1) = ((i + 1 : Nat) : Int) := by rw [IntWalk.wrap64_in _ (by have := HL2.out; omega)]; rfl
          have HLT := Aside0.mk hlt
          have HG := Aside0.mk hg
          generalize rd l0 (i : Int) = y1 at *
          generalize rd l0 ((i + 1 : Nat) : Int) = y2 at *
          clear hg him hil2
          go_wp2
          go_roundg (gk - 1)
          case measure => have := HG.out; have := HLT.out; omega
          case rel => exact ⟨i + 1, by first | rfl | go_num, by have := HLT.out; omega, by have := HG.out; have := HLT.out; omega, rfl⟩
      · have hltb : decide (i < m) = false := decide_eq_false hlt
        clear hlt him hg
        go_wp2
        have hb0 : wr.cell? ⟨w.heap.size, 0, none⟩ = some (.slice (some ad) l0.length 1) := (blk_cell HBLK0.out 0).trans rfl
        have hb1 : wr.cell? ⟨w.heap.size + 1, 0, none⟩ = some (.int .u64 a1) := (blk_cell HBLK1.out 0).trans rfl
        have hy1 := blk_frozen HBLK1.out 0
        have hml : m < l0.length := by have := HM.out; have := HL1.out; omega
        have hwm : wrap64 ((l0.length : Int) - 1) = (m : Int) := by have z1 := HM.out; have z2 := HL1.out; rw [IntWalk.wrap64_in _ (by have := HL2.out; omega)]; omega
        obtain ⟨_, e1, hxi⟩ := Kd.at_int HC2.out (m : Int) (by omega) (by omega)
        cases e1
        rw [Int.toNat_natCast] at hxi
        have hzp : 0 < rd l0 (m : Int) := by have := HZ.out; have := rises_le HRISE.out m 0 (by omega); rw [Nat.zero_add] at this; have e0 : rd l0 ((0 : Nat) : Int) = rd l0 0 := rfl; omega
        have HZP := Aside0.mk hzp
        have hzn : (rd l0 (m : Int) == 0) = false := beq_eq_false_iff_ne.mpr (by omega)
        have hLAST : rd l0 ((l0.length : Int) - 1) = rd l0 (m : Int) := by congr 1; have := HM.out; have := HL1.out; omega
        have HLAST := Aside0.mk hLAST
        clear hzp hLAST
        obtain ⟨z, hz⟩ : ∃ z, rd l0 (m : Int) = z := ⟨_, rfl⟩
        rw [hz] at HZP hzn hxi
        have HZZ := Aside0.mk hz
        have hzne : ¬ z = 0 := by have := HZP.out; omega
        have ht : Int.tmod a1 z = a1 % z := IntWalk.rem_in _ _ HN.out
        clear hz
        go_region
        obtain ⟨W9, hW9⟩ : ∃ W9, W9 = (wr.setCell ⟨w.heap.size + 1, 0, none⟩ (.int .u64 (a1 % z))).drew := ⟨_, rfl⟩
        rw [← hW9]
        have D0 : W9.heap[w.heap.size]? = some (.cells #[.slice (some ad) l0.length 1] 88 (0, 0)) := by rw [hW9]; exact blk_drew (blk_far HBLK0.out (by show w.heap.size ≠ w.heap.size + 1; omega) _)
        have D1 : W9.heap[w.heap.size + 1]? = some (.cells #[.int .u64 (a1 % z)] 25 (0, 0)) := by rw [hW9]; exact blk_drew (blk_put HBLK1.out 0 _ rfl)
        have DB : Below w.heap.size w W9 := by rw [hW9]; apply below_drew1; exact below_set HBE.out (by show w.heap.size ≤ w.heap.size + 1; omega)
        have DC : Kd.C (Kd.int .u64) W9 (some ad) l0.length l0 := Kd.C_below HC.out DB
        have hp : ∀ W i, (∃ q, W = W9.drewN q) → i < l0.length → Calls Try.prog 165 (#[.int .i64 (i : Int)] ++ #[.pointer (some ⟨w.heap.size, 0, none⟩), .pointer (some ⟨w.heap.size + 1, 0, none⟩)]) W fun e W' => e = .returned (.bool (decide (a1 % z < rd l0 (i : Int)))) ∧ ∃ nd, W' = W.drewN nd := by
          rintro W i ⟨q, rfl⟩ hi
          exact pick1_calls w.heap.size (w.heap.size + 1) (some ad) 1 l0 (a1 % z) i _ hi (blk_drewN D0 q) (blk_drewN D1 q) (Kd.C_drewN DC q)
        have hmono : ∀ i j, i ≤ j → j < l0.length → decide (a1 % z < rd l0 (i : Int)) = true → decide (a1 % z < rd l0 (j : Int)) = true := by
          intro i j hij hj h1
          have h2 := rises_le HRISE.out (j - i) i (by omega)
          rw [show i + (j - i) = j by omega] at h2
          have h3 := of_decide_eq_true h1
          exact decide_eq_true (by omega)
        have HS := search_calls 165 #[.pointer (some ⟨w.heap.size, 0, none⟩), .pointer (some ⟨w.heap.size + 1, 0, none⟩)] (enters_of Try.func165 (by kernel_rfl) rfl) l0.length (by have := HL2.out; omega) (fun i => decide (a1 % z < rd l0 (i : Int))) hmono W9 hp
        have HSS := Aside0.mk HS
        have hc9 : W9.cell? ⟨w.heap.size, 0, none⟩ = some (.slice (some ad) l0.length 1) := (blk_cell D0 0).trans rfl
        have HDB := Aside0.mk DB
        clear HS hmono hp DC DB D0 D1 hb0 hb1 hy1 hxi ht hzne hzn hwm hml
        clear hW9
        go_wp2_with fail
        refine HSS.out.mono ?_
        rintro e w' ⟨r, rfl, hr, hlo, hhi, ⟨q, rfl⟩⟩
        have hfi : l0.findIdx (fun x => decide (a1 % z < x)) = r := findIdx_rd _ _ _ hr hlo hhi
        have hw1 : wrap64 (1 + (r : Int)) = (r : Int) + 1 := by rw [IntWalk.wrap64_in _ (by have := HL2.out; omega)]; omega
        have HFI := Aside0.mk hfi
        clear hr hlo hhi hfi
        go_wp2
        go_ret2
        refine ⟨?_, ?_⟩
        · rw [HLAST.out, HZZ.out, HFI.out]; rw [hw1]; rfl
        · exact pw_below_drewN HDB.out _
  · skip
    rw [← HW2.out]
    obtain ⟨m, hm⟩ : ∃ m, l0.length - 1 = m := ⟨_, rfl⟩
    rw [hm]
    have HM := Aside0.mk hm
    clear hxx hl0 hlb hgb hgb2 hzb hm
    go_loopg [25] m (fun gg v25 wr => ∃ i : Nat, v25 = .int .i64 (i : Int) ∧ i ≤ m ∧ m - i ≤ gg ∧ wr = w2)
    case atStart => exact ⟨0, rfl, Nat.zero_le _, by omega, rfl⟩
    case round =>
      obtain ⟨i, rfl, him, hg, rfl⟩ := hrel
      by_cases hlt : i < m
      · skip
        all_goals
          have hltb : decide (i < m) = true := decide_eq_true hlt
          have hil : i < l0.length := by have := HM.out; omega
          have hil2 : i + 1 < l0.length := by have := HM.out; omega
          obtain ⟨_, e1, hxi⟩ := Kd.at_int HC2.out (i : Int) (by omega) (by omega)
          cases e1
          obtain ⟨_, e2, hxj⟩ := Kd.at_int HC2.out ((i + 1 : Nat) : Int) (by omega) (by omega)
          cases e2
          rw [Int.toNat_natCast] at hxi hxj
          rw [at_tail] at hxj
          have hb0 : wr.cell? ⟨w.heap.size, 0, none⟩ = some (.slice (some ad) l0.length c0) := (blk_cell HBLK0.out 0).trans rfl
          have hge : decide (rd l0 (i : Int) ≥ rd l0 ((i + 1 : Nat) : Int)) = false := decide_eq_false (by have := rises_at HRISE.out i hil2; rw [Int.natCast_add]; show ¬ _; simp; exact this)
          have hwr : wrap64 ((i : Int) + 1) = ((i + 1 : Nat) : Int) := by rw [IntWalk.wrap64_in _ (by have := HL2.out; omega)]; rfl
          have HLT := Aside0.mk hlt
          have HG := Aside0.mk hg
          generalize rd l0 (i : Int) = y1 at *
          generalize rd l0 ((i + 1 : Nat) : Int) = y2 at *
          clear hg him hil2
          go_wp2
          go_roundg (gk - 1)
          case measure => have := HG.out; have := HLT.out; omega
          case rel => exact ⟨i + 1, by first | rfl | go_num, by have := HLT.out; omega, by have := HG.out; have := HLT.out; omega, rfl⟩
      · have hltb : decide (i < m) = false := decide_eq_false hlt
        clear hlt him hg
        go_wp2
        have hb0 : wr.cell? ⟨w.heap.size, 0, none⟩ = some (.slice (some ad) l0.length c0) := (blk_cell HBLK0.out 0).trans rfl
        have hb1 : wr.cell? ⟨w.heap.size + 1, 0, none⟩ = some (.int .u64 a1) := (blk_cell HBLK1.out 0).trans rfl
        have hy1 := blk_frozen HBLK1.out 0
        have hml : m < l0.length := by have := HM.out; have := HL1.out; omega
        have hwm : wrap64 ((l0.length : Int) - 1) = (m : Int) := by have z1 := HM.out; have z2 := HL1.out; rw [IntWalk.wrap64_in _ (by have := HL2.out; omega)]; omega
        obtain ⟨_, e1, hxi⟩ := Kd.at_int HC2.out (m : Int) (by omega) (by omega)
        cases e1
        rw [Int.toNat_natCast] at hxi
        have hzp : 0 < rd l0 (m : Int) := by have := HZ.out; have := rises_le HRISE.out m 0 (by omega); rw [Nat.zero_add] at this; have e0 : rd l0 ((0 : Nat) : Int) = rd l0 0 := rfl; omega
        have HZP := Aside0.mk hzp
        have hzn : (rd l0 (m : Int) == 0) = false := beq_eq_false_iff_ne.mpr (by omega)
        have hLAST : rd l0 ((l0.length : Int) - 1) = rd l0 (m : Int) := by congr 1; have := HM.out; have := HL1.out; omega
        have HLAST := Aside0.mk hLAST
        clear hzp hLAST
        obtain ⟨z, hz⟩ : ∃ z, rd l0 (m : Int) = z := ⟨_, rfl⟩
        rw [hz] at HZP hzn hxi
        have HZZ := Aside0.mk hz
        have hzne : ¬ z = 0 := by have := HZP.out; omega
        have ht : Int.tmod a1 z = a1 % z := IntWalk.rem_in _ _ HN.out
        clear hz
        go_region
        obtain ⟨W9, hW9⟩ : ∃ W9, W9 = (wr.setCell ⟨w.heap.size + 1, 0, none⟩ (.int .u64 (a1 % z))).drew := ⟨_, rfl⟩
        rw [← hW9]
        have D0 : W9.heap[w.heap.size]? = some (.cells #[.slice (some ad) l0.length c0] 88 (0, 0)) := by rw [hW9]; exact blk_drew (blk_far HBLK0.out (by show w.heap.size ≠ w.heap.size + 1; omega) _)
        have D1 : W9.heap[w.heap.size + 1]? = some (.cells #[.int .u64 (a1 % z)] 25 (0, 0)) := by rw [hW9]; exact blk_drew (blk_put HBLK1.out 0 _ rfl)
        have DB : Below w.heap.size w W9 := by rw [hW9]; apply below_drew1; exact below_set HBE.out (by show w.heap.size ≤ w.heap.size + 1; omega)
        have DC : Kd.C (Kd.int .u64) W9 (some ad) l0.length l0 := Kd.C_below HC.out DB
        have hp : ∀ W i, (∃ q, W = W9.drewN q) → i < l0.length → Calls Try.prog 165 (#[.int .i64 (i : Int)] ++ #[.pointer (some ⟨w.heap.size, 0, none⟩), .pointer (some ⟨w.heap.size + 1, 0, none⟩)]) W fun e W' => e = .returned (.bool (decide (a1 % z < rd l0 (i : Int)))) ∧ ∃ nd, W' = W.drewN nd := by
          rintro W i ⟨q, rfl⟩ hi
          exact pick1_calls w.heap.size (w.heap.size + 1) (some ad) c0 l0 (a1 % z) i _ hi (blk_drewN D0 q) (blk_drewN D1 q) (Kd.C_drewN DC q)
        have hmono : ∀ i j, i ≤ j → j < l0.length → decide (a1 % z < rd l0 (i : Int)) = true → decide (a1 % z < rd l0 (j : Int)) = true := by
          intro i j hij hj h1
          have h2 := rises_le HRISE.out (j - i) i (by omega)
          rw [show i + (j - i) = j by omega] at h2
          have h3 := of_decide_eq_true h1
          exact decide_eq_true (by omega)
        have HS := search_calls 165 #[.pointer (some ⟨w.heap.size, 0, none⟩), .pointer (some ⟨w.heap.size + 1, 0, none⟩)] (enters_of Try.func165 (by kernel_rfl) rfl) l0.length (by have := HL2.out; omega) (fun i => decide (a1 % z < rd l0 (i : Int))) hmono W9 hp
        have HSS := Aside0.mk HS
        have hc9 : W9.cell? ⟨w.heap.size, 0, none⟩ = some (.slice (some ad) l0.length c0) := (blk_cell D0 0).trans rfl
        have HDB := Aside0.mk DB
        clear HS hmono hp DC DB D0 D1 hb0 hb1 hy1 hxi ht hzne hzn hwm hml
        clear hW9
        go_wp2_with fail
        refine HSS.out.mono ?_
        rintro e w' ⟨r, rfl, hr, hlo, hhi, ⟨q, rfl⟩⟩
        have hfi : l0.findIdx (fun x => decide (a1 % z < x)) = r := findIdx_rd _ _ _ hr hlo hhi
        have hw1 : wrap64 (1 + (r : Int)) = (r : Int) + 1 := by rw [IntWalk.wrap64_in _ (by have := HL2.out; omega)]; omega
        have HFI := Aside0.mk hfi
        clear hr hlo hhi hfi
        go_wp2
        go_ret2
        refine ⟨?_, ?_⟩
        · rw [HLAST.out, HZZ.out, HFI.out]; rw [hw1]; rfl
        · exact pw_below_drewN HDB.out _
end Go.Proofs.Ytaofanhdmfdlmaa.Print

-- PRINTED by print.py (a twelfth state) out of the translation. Not trusted: Lean checks it.
namespace Go.Proofs.Ytaofanhdmfdlmaa.Print
open Go.RowKit Go.Proofs.YtaofanhdmfdlmaaW.PrintWords Go.Proofs.YtaofanhdmfdlmaaW.PrintLast Go.Proofs.YtaofanhdmfdlmaaW.PrintMore
attribute [local go_sem] max2_int min2_int max_two min_two max_three min_three max_four min_four   -- for this text's walks alone
set_option linter.unusedVariables false
set_option linter.unusedSimpArgs false

theorem eqA27 (d : Nat) (w : World) (x0 y0 : Int) (x1 y1 : ByteArray) :
    (Op.equalIn (d + 2) 27 (.agg #[.int .u64 x0, .string x1]) (.agg #[.int .u64 y0, .string y1])).run Try.prog w = .ok (x0 == y0 && (x1.toList == y1.toList)) w := by
  refine eqA_of Try.underlying27 (by kernel_rfl) ?_
  refine eqf_cons (by rfl) (by go_simp; rfl) (by go_simp; rfl) (by go_simp) ?_
  exact eqf_last (by rfl) (by go_simp; rfl) (by go_simp; rfl) (by go_simp)
end Go.Proofs.Ytaofanhdmfdlmaa.Print

-- PRINTED by print.py (a twelfth state) out of the translation. Not trusted: Lean checks it.
namespace Go.Proofs.Ytaofanhdmfdlmaa.Print
open Go.RowKit Go.Proofs.YtaofanhdmfdlmaaW.PrintWords Go.Proofs.YtaofanhdmfdlmaaW.PrintLast Go.Proofs.YtaofanhdmfdlmaaW.PrintMore
attribute [local go_sem] max2_int min2_int max_two min_two max_three min_three max_four min_four   -- for this text's walks alone
set_option linter.unusedVariables false
set_option linter.unusedSimpArgs false

/-! ### downpourref13_Add: function 22 -/
/-! ### random_sized: function 82 -/
def random_sized.f (a0 : Int) : Option (Bool) := if a0 ≥ 1 then (some (decide (a0 ≤ 512))) else (some false)
set_option maxHeartbeats 8000000 in
set_option maxRecDepth 100000 in
theorem random_sized.calls (a0 : Int) (r : Bool) (w : World) (h : random_sized.f a0 = some r) :
    Calls Try.prog 82 #[.int .i64 a0] w fun e w' => e = .returned (.bool r) ∧ Drawn0 w w' := by
  have H : (if a0 ≥ 1 then (some (decide (a0 ≤ 512))) else (some false)) = some r := h
  clear h
  by_cases c2 : a0 ≥ 1
  · rw [if_pos c2] at H
    have c2b0 : decide (1 ≤ a0) = true := decide_eq_true c2
    clear c2
    obtain rfl := Option.some.inj H
    go_enter Try.func82, Try.ntmps82
    go_wp2
    go_ret
    exact ⟨by first | rfl | (simp; done) | (simp [*]; done), by repeat (first | exact Drawn0.refl _ | apply Drawn0.step)⟩
  · rw [if_neg c2] at H
    have c2b0 : decide (1 ≤ a0) = false := decide_eq_false c2
    clear c2
    obtain rfl := Option.some.inj H
    go_enter Try.func82, Try.ntmps82
    go_wp2
    go_ret
    exact ⟨by first | rfl | (simp; done) | (simp [*]; done), by repeat (first | exact Drawn0.refl _ | apply Drawn0.step)⟩

/-! ### downpourref06_Mixed: function 108 -/
def downpourref06_Mixed.f (a0 : Int) : Option (Int) := some (Go.bits .xor .u64 (IntKind.u64.wrap ((Go.bits .xor .u64 (IntKind.u64.wrap ((Go.bits .xor .u64 a0 (IntKind.u64.wrap (Int.tdiv a0 1073741824))) * 13787848793156543929)) (IntKind.u64.wrap (Int.tdiv (IntKind.u64.wrap ((Go.bits .xor .u64 a0 (IntKind.u64.wrap (Int.tdiv a0 1073741824))) * 13787848793156543929)) 134217728))) * 10723151780598845931)) (IntKind.u64.wrap (Int.tdiv (IntKind.u64.wrap ((Go.bits .xor .u64 (IntKind.u64.wrap ((Go.bits .xor .u64 a0 (IntKind.u64.wrap (Int.tdiv a0 1073741824))) * 13787848793156543929)) (IntKind.u64.wrap (Int.tdiv (IntKind.u64.wrap ((Go.bits .xor .u64 a0 (IntKind.u64.wrap (Int.tdiv a0 1073741824))) * 13787848793156543929)) 134217728))) * 10723151780598845931)) 2147483648)))
set_option maxHeartbeats 8000000 in
set_option maxRecDepth 100000 in
theorem downpourref06_Mixed.calls (a0 : Int) (r : Int) (w : World) (h : downpourref06_Mixed.f a0 = some r) :
    Calls Try.prog 108 #[.int .u64 a0] w fun e w' => e = .returned (.int .u64 r) ∧ Drawn0 w w' := by
  have H : (some (Go.bits .xor .u64 (IntKind.u64.wrap ((Go.bits .xor .u64 (IntKind.u64.wrap ((Go.bits .xor .u64 a0 (IntKind.u64.wrap (Int.tdiv a0 1073741824))) * 13787848793156543929)) (IntKind.u64.wrap (Int.tdiv (IntKind.u64.wrap ((Go.bits .xor .u64 a0 (IntKind.u64.wrap (Int.tdiv a0 1073741824))) * 13787848793156543929)) 134217728))) * 10723151780598845931)) (IntKind.u64.wrap (Int.tdiv (IntKind.u64.wrap ((Go.bits .xor .u64 (IntKind.u64.wrap ((Go.bits .xor .u64 a0 (IntKind.u64.wrap (Int.tdiv a0 1073741824))) * 13787848793156543929)) (IntKind.u64.wrap (Int.tdiv (IntKind.u64.wrap ((Go.bits .xor .u64 a0 (IntKind.u64.wrap (Int.tdiv a0 1073741824))) * 13787848793156543929)) 134217728))) * 10723151780598845931)) 2147483648)))) = some r := h
  clear h
  obtain rfl := Option.some.inj H
  go_enter Try.func108, Try.ntmps108
  go_wp2
  go_ret
  exact ⟨by first | rfl | (simp; done) | (simp [*]; done), by repeat (first | exact Drawn0.refl _ | apply Drawn0.step)⟩

/-! ### downpourref06_rest: function 124 -/
def downpourref06_rest.f (a0 : Int) : Option (Int) := if a0 = 0 then (none) else (some (Int.tmod (IntKind.u64.wrap (((18446744073709551615 : Int) % a0) + 1)) a0))
set_option maxHeartbeats 8000000 in
set_option maxRecDepth 100000 in
theorem downpourref06_rest.calls (a0 : Int) (r : Int) (w : World) (h : downpourref06_rest.f a0 = some r) :
    Calls Try.prog 124 #[.int .u64 a0] w fun e w' => e = .returned (.int .u64 r) ∧ Drawn0 w w' := by
  have H : (if a0 = 0 then (none) else (some (Int.tmod (IntKind.u64.wrap (((18446744073709551615 : Int) % a0) + 1)) a0))) = some r := h
  clear h
  by_cases c2 : a0 = 0
  · rw [if_pos c2] at H
    exact absurd H (by simp)
  · rw [if_neg c2] at H
    have c2b0 : (a0 == 0) = false := beq_eq_false_iff_ne.mpr c2
    have c2b1 : (a0 != 0) = true := bne_iff_ne.mpr c2
    obtain rfl := Option.some.inj H
    go_enter Try.func124, Try.ntmps124
    go_wp2
    go_ret
    exact ⟨by first | rfl | (simp; done) | (simp [*]; done), by repeat (first | exact Drawn0.refl _ | apply Drawn0.step)⟩

/-! ### downpourref06_Below: function 85 -/
def downpourref06_Below.l0 : Nat → Int → Int → Int → Option (Int × Int)
  | 0, _, _, _ => none
  | k + 1, x0, x1, x5 => (downpourref06_Mixed.f (IntKind.u64.wrap (x0 + 11400714819323198485))).bind fun t431 => (if t431 ≤ x5 then (if (IntKind.u64.wrap (x1)) = 0 then (none) else (some (IntKind.u64.wrap (x0 + 11400714819323198485), wrap64 (Int.tmod t431 (IntKind.u64.wrap (x1)))))) else (downpourref06_Below.l0 k (IntKind.u64.wrap (x0 + 11400714819323198485)) x1 x5))
def downpourref06_Below.f (k : Nat) (a0 : Int) (a1 : Int) : Option (Int × Int) := (downpourref06_rest.f (IntKind.u64.wrap (a1))).bind fun t430 => (downpourref06_Below.l0 k a0 a1 (IntKind.u64.wrap (18446744073709551615 - t430)))
theorem downpourref06_Below.mono_l : ∀ k, (∀ y0 y1 y2, LeO (downpourref06_Below.l0 k y0 y1 y2) (downpourref06_Below.l0 (k + 1) y0 y1 y2))
  | 0 => fun _ _ _ r h => by simp [downpourref06_Below.l0] at h
  | k + 1 => by
    have ih0 := downpourref06_Below.mono_l k
    · intro y0 y1 y2
      unfold downpourref06_Below.l0
      repeat' first
      | (with_reducible exact ih0 _ _ _)
      | (with_reducible exact LeO.refl _)
      | (with_reducible exact LeO.none _)
      | (with_reducible refine LeO.ite ?_ ?_)
      | (with_reducible refine LeO.bind ?_ (fun _ => ?_))
      | exact ih0 _ _ _
      | exact LeO.none _
      | refine LeO.ite ?_ ?_
      | refine LeO.bind ?_ (fun _ => ?_)
theorem downpourref06_Below.mono : ∀ a0 a1 k, LeO (downpourref06_Below.f k a0 a1) (downpourref06_Below.f (k + 1) a0 a1) := by
  intro a0 a1 k
  have ih0 := downpourref06_Below.mono_l k
  unfold downpourref06_Below.f
  repeat' first
      | (with_reducible exact ih0 _ _ _)
      | (with_reducible exact LeO.refl _)
      | (with_reducible exact LeO.none _)
      | (with_reducible refine LeO.ite ?_ ?_)
      | (with_reducible refine LeO.bind ?_ (fun _ => ?_))
      | exact ih0 _ _ _
      | exact LeO.none _
      | refine LeO.ite ?_ ?_
      | refine LeO.bind ?_ (fun _ => ?_)
set_option maxHeartbeats 8000000 in
set_option maxRecDepth 100000 in
theorem downpourref06_Below.calls (k : Nat) (a0 : Int) (a1 : Int) (r1 : Int) (r2 : Int) (w : World) (h : downpourref06_Below.f k a0 a1 = some (r1, r2)) :
    Calls Try.prog 85 #[.int .u64 a0, .int .i64 a1] w fun e w' => e = .returned (.agg #[.int .u64 r1, .int .i64 r2]) ∧ Below w.heap.size w w' := by
  have hu129 := Try.underlying129
  have HB := Aside0.mk (Below.refl w.heap.size w)
  have H : ((downpourref06_rest.f (IntKind.u64.wrap (a1))).bind fun t430 => (downpourref06_Below.l0 k a0 a1 (IntKind.u64.wrap (18446744073709551615 - t430)))) = some (r1, r2) := h
  clear h
  replace H := Option.bind_eq_some_iff.mp H
  obtain ⟨t430, A30, H⟩ := H
  replace H : (downpourref06_Below.l0 k a0 a1 (IntKind.u64.wrap (18446744073709551615 - t430))) = some (r1, r2) := H
  have A3 := Aside0.mk A30
  clear A30
  have H' := Aside0.mk H
  clear H
  go_enter Try.func85, Try.ntmps85
  go_wp2_with (first | ((with_reducible refine gate_dst (N := 4) rfl ?_); refine box_event ?hg (N := 4) ?hd (cs := #[.int .u64 0, .int .i64 0]) (t := 129) ?hr ?_; (case hd => rfl); (case hg => rfl); (case hr => first | (go_simp; done) | (go_simp; rfl)); intro gb429 hg w4 hbox hb; have n0_ := Aside0.mk (below_step (by repeat (first | (with_reducible first | exact HB.out | apply below_alloc | apply pw_below_drewN | apply below_drew1) | exact HB.out)) hb); have n1_ := Aside0.mk (hbox); have n2_ := Aside0.mk ((by rw [hg]; exact (below_size (by repeat (first | (with_reducible first | exact HB.out | apply below_alloc | apply pw_below_drewN | apply below_drew1) | exact HB.out))) : w.heap.size ≤ gb429)); have n3_ := Aside0.mk ((by rw [hg]; exact (below_size (by repeat (first | (with_reducible first | exact HB.out | apply below_alloc | apply pw_below_drewN | apply below_drew1) | exact HB.out))) : w.heap.size ≤ gb429)); clear HB; have HB := n0_; have BK429 := n1_; have GW429 := n2_; have GE429 := n3_; clear n0_ n1_ n2_ n3_; clear hb hbox hg) | ((with_reducible refine gate_callee (f := 124) rfl ?_); refine goesL_ (some 9) rfl rfl Try.func124 (by kernel_rfl) rfl #[.int .u64 (IntKind.u64.wrap (a1))] rfl (by (try simp only [List.map_toArray, List.map_cons, List.map_nil]); first | done | rfl | (simp only [List.length_drop, List.length_take]; rfl)) ?_; (with_reducible refine (downpourref06_rest.calls (IntKind.u64.wrap (a1)) t430 _ A3.out).mono ?_); rintro e w' ⟨rfl, ⟨nd, rfl⟩⟩; refine ⟨_, rfl, ?_⟩))
  go_loopg [0] k (fun kq v0 w' => ∃ (x0_1 : Int) (x430000_1 : Int) (x430001_1 : Int), v0 = .int .u64 x0_1 ∧ Aside0 (downpourref06_Below.l0 kq x0_1 a1 (IntKind.u64.wrap (18446744073709551615 - t430)) = some (r1, r2)) ∧ Aside0 (kq ≤ k) ∧ Aside0 (w'.heap[gb429]? = some (.cells #[.int .u64 x430000_1, .int .i64 x430001_1] 129 (0, 0))) ∧ Aside0 (Below w.heap.size w w'))
  case atStart => exact ⟨(a0), (0), (0), (by first | rfl | (simp; done) | (simp [*]; done)), H', ⟨Nat.le_refl _⟩, ⟨by (with_reducible repeat (first | refine blk_drewN ?_ _ | refine blk_drew ?_ | refine blk_alloc ?_ _)); exact BK429.out⟩, ⟨by repeat (first | (with_reducible first | exact HB.out | apply below_alloc | apply pw_below_drewN | apply below_drew1 | refine below_set ?_ GE429.out) | exact HB.out)⟩⟩
  case round =>
    clear H'
    try clear c1
    try clear p2
    obtain ⟨x0_1, x430000_1, x430001_1, rfl, HA, HK1, BK429, HB⟩ := hrel
    cases gk with
    | zero => exact absurd HA.out (by simp [downpourref06_Below.l0])
    | succ k1 =>
      have H := HA.out
      clear HA
      simp only [downpourref06_Below.l0] at H
      replace H := Option.bind_eq_some_iff.mp H
      obtain ⟨t431, A50, H⟩ := H
      replace H : (if t431 ≤ (IntKind.u64.wrap (18446744073709551615 - t430)) then (if (IntKind.u64.wrap (a1)) = 0 then (none) else (some (IntKind.u64.wrap (x0_1 + 11400714819323198485), wrap64 (Int.tmod t431 (IntKind.u64.wrap (a1)))))) else (downpourref06_Below.l0 k1 (IntKind.u64.wrap (x0_1 + 11400714819323198485)) a1 (IntKind.u64.wrap (18446744073709551615 - t430)))) = some (r1, r2) := H
      have A5 := Aside0.mk A50
      clear A50
      by_cases c6 : t431 ≤ (IntKind.u64.wrap (18446744073709551615 - t430))
      · rw [if_pos c6] at H
        have c6b0 : decide (t431 ≤ (IntKind.u64.wrap (18446744073709551615 - t430))) = true := decide_eq_true c6
        clear c6
        by_cases c7 : (IntKind.u64.wrap (a1)) = 0
        · rw [if_pos c7] at H
          exact absurd H (by simp)
        · rw [if_neg c7] at H
          have c7b0 : ((IntKind.u64.wrap (a1)) == 0) = false := beq_eq_false_iff_ne.mpr c7
          have c7b1 : ((IntKind.u64.wrap (a1)) != 0) = true := bne_iff_ne.mpr c7
          simp only [Option.some.injEq, Prod.mk.injEq] at H
          obtain ⟨rfl, rfl⟩ := H
          go_wp2_with (first | ((with_reducible refine gate_callee (f := 108) rfl ?_); refine goesL_ (some 14) rfl rfl Try.func108 (by kernel_rfl) rfl #[.int .u64 (IntKind.u64.wrap (x0_1 + 11400714819323198485))] rfl (by (try simp only [List.map_toArray, List.map_cons, List.map_nil]); first | done | rfl | (simp only [List.length_drop, List.length_take]; rfl)) ?_; (with_reducible refine (downpourref06_Mixed.calls (IntKind.u64.wrap (x0_1 + 11400714819323198485)) t431 _ A5.out).mono ?_); rintro e w' ⟨rfl, ⟨nd, rfl⟩⟩; refine ⟨_, rfl, ?_⟩; (try (rw [drewN_self wr]; generalize hq_ : World.drewN wr _ = wr; have n0_ : Aside0 (wr.heap[gb429]? = some (.cells #[.int .u64 x430000_1, .int .i64 x430001_1] 129 (0, 0))) := ⟨by rw [← hq_]; exact (by (with_reducible repeat (first | refine blk_drewN ?_ _ | refine blk_drew ?_ | refine blk_alloc ?_ _)); exact BK429.out)⟩; have n1_ : Aside0 (Below w.heap.size w wr) := ⟨by rw [← hq_]; exact (by repeat (first | (with_reducible first | exact HB.out | apply below_alloc | apply pw_below_drewN | apply below_drew1 | refine below_set ?_ GE429.out) | exact HB.out))⟩; clear BK429 HB hq_; have BK429 := n0_; have HB := n1_; clear n0_ n1_)); have hcz8_0 : wr.cell? ⟨gb429, 0, none⟩ = some (.int .u64 x430000_1) := (blk_cell BK429.out 0).trans rfl; have hcz8_1 : wr.cell? ⟨gb429, 1, none⟩ = some (.int .i64 x430001_1) := (blk_cell BK429.out 1).trans rfl; have hfz8_0 := blk_frozen BK429.out 0; have hfz8_1 := blk_frozen BK429.out 1))
          refine bodyPost_ret (results_cell_row rfl _ _ gb429 129 #[.int .u64 (IntKind.u64.wrap (x0_1 + 11400714819323198485)), .int .i64 (wrap64 (Int.tmod t431 (IntKind.u64.wrap (a1))))] (0, 0) _ rfl (by (with_reducible repeat (first | refine blk_drewN ?_ _ | refine blk_drew ?_ | refine blk_alloc ?_ _)); refine blk_put (cs := #[.int .u64 (IntKind.u64.wrap (x0_1 + 11400714819323198485)), .int .i64 x430001_1]) ?_ 1 _ rfl; (with_reducible repeat (first | refine blk_drewN ?_ _ | refine blk_drew ?_ | refine blk_alloc ?_ _)); refine blk_put (cs := #[.int .u64 x430000_1, .int .i64 x430001_1]) ?_ 0 _ rfl; (with_reducible repeat (first | refine blk_drewN ?_ _ | refine blk_drew ?_ | refine blk_alloc ?_ _)); exact BK429.out) Try.underlying129 rfl (by kernel_rfl)) rfl ?_
          exact ⟨by first | rfl | (simp [errW_none, errW_some] <;> rfl) | (simp [*, errW_none, errW_some] <;> rfl), by repeat (first | (with_reducible first | exact HB.out | apply below_alloc | apply pw_below_drewN | apply below_drew1 | refine below_set ?_ GE429.out) | exact HB.out)⟩
      · rw [if_neg c6] at H
        have c6b0 : decide (t431 ≤ (IntKind.u64.wrap (18446744073709551615 - t430))) = false := decide_eq_false c6
        clear c6
        have H' := Aside0.mk H
        clear H
        go_wp2_with (first | ((with_reducible refine gate_callee (f := 108) rfl ?_); refine goesL_ (some 14) rfl rfl Try.func108 (by kernel_rfl) rfl #[.int .u64 (IntKind.u64.wrap (x0_1 + 11400714819323198485))] rfl (by (try simp only [List.map_toArray, List.map_cons, List.map_nil]); first | done | rfl | (simp only [List.length_drop, List.length_take]; rfl)) ?_; (with_reducible refine (downpourref06_Mixed.calls (IntKind.u64.wrap (x0_1 + 11400714819323198485)) t431 _ A5.out).mono ?_); rintro e w' ⟨rfl, ⟨nd, rfl⟩⟩; refine ⟨_, rfl, ?_⟩))
        go_roundg k1
        case measure => have := HK1.out; omega
        case rel => exact ⟨(IntKind.u64.wrap (x0_1 + 11400714819323198485)), (x430000_1), (x430001_1), (by first | rfl | (simp; done) | (simp [*]; done)), H', ⟨by have := HK1.out; omega⟩, ⟨by (with_reducible repeat (first | refine blk_drewN ?_ _ | refine blk_drew ?_ | refine blk_alloc ?_ _)); exact BK429.out⟩, ⟨by repeat (first | (with_reducible first | exact HB.out | apply below_alloc | apply pw_below_drewN | apply below_drew1 | refine below_set ?_ GE429.out) | exact HB.out)⟩⟩

end Go.Proofs.Ytaofanhdmfdlmaa.Print

/-
What is proved: a law for 'for .. := range f' where the iterator's values hang on a ghost state that each round moves on (an iterator without an end,
one whose next value hangs on what the body did). Condition: the caller's invariant abides what the iterator changes between two rounds.
-/
set_option linter.unusedVariables false
namespace Go.Proofs.Ytaofanhdmfdlmaa.Rng
open Go Go.RowKit

/-- What may have turned between two looks at the loop's world: the blocks of It, new ones, and blocks from n0 on that are no cells. -/
structure Fr (It : Nat → Prop) (n0 : Nat) (W W' : World) : Prop where
  os : W'.os = W.os
  tape : W'.tape = W.tape
  output : W'.output = W.output
  size : W.heap.size ≤ W'.heap.size
  block : ∀ b, b < W.heap.size → ¬ It b → (b < n0 ∨ ∃ o, W.heap[b]? = some o ∧ o.isCells = true) → W'.heap[b]? = W.heap[b]?
/-- What an iterator does between two rounds. -/
structure ItStep (It : Nat → Prop) (W W' : World) : Prop where
  os : W'.os = W.os
  tape : W'.tape = W.tape
  output : W'.output = W.output
  size : W.heap.size ≤ W'.heap.size
  block : ∀ b, b < W.heap.size → ¬ It b → W'.heap[b]? = W.heap[b]?
/-- What a round keeps of the iterator's. -/
def Keeps (KS : Nat → Prop) (W W' : World) : Prop := W.heap.size ≤ W'.heap.size ∧ ∀ b, KS b → W'.heap[b]? = W.heap[b]?
theorem ItStep.fr {It : Nat → Prop} {W W' : World} (h : ItStep It W W') (n0 : Nat) : Fr It n0 W W' := ⟨h.os, h.tape, h.output, h.size, fun b hb hi _ => h.block b hb hi⟩
theorem ItStep.refl (It : Nat → Prop) (W : World) : ItStep It W W := ⟨rfl, rfl, rfl, Nat.le_refl _, fun _ _ _ => rfl⟩
theorem ItStep.trans {It : Nat → Prop} {A B C : World} (h : ItStep It A B) (k : ItStep It B C) : ItStep It A C :=
  ⟨k.os.trans h.os, k.tape.trans h.tape, k.output.trans h.output, Nat.le_trans h.size k.size, fun b hb hi => (k.block b (Nat.lt_of_lt_of_le hb h.size) hi).trans (h.block b hb hi)⟩
theorem ItStep.of_below {It : Nat → Prop} {A B : World} (h : Below A.heap.size A B) : ItStep It A B := ⟨h.os, h.tape, h.output, h.size, fun b hb _ => h.block b hb⟩
theorem ItStep.set {It : Nat → Prop} {A : World} {p : Addr} (hp : It p.block) (v : Value) : ItStep It A (A.setCell p v) :=
  ⟨rfl, rfl, rfl, by simp [World.setCell], fun b _ hi => Below.heap_setCell A p v b (fun e => hi (by rw [e]; exact hp))⟩

def bodyPost {σ : Type} (KS : Nat → Prop) (next : σ → σ → Prop) (I : σ → World → Prop) (Ix : Code → World → Prop) (s : σ) (W : World) : Exit → Act → World → Prop
  | .normal, _, W' => KeepsOthers W W' ∧ Keeps KS W W' ∧ ∃ s', next s s' ∧ I s' W'
  | .ret, _, W' => KeepsOthers W W' ∧ Ix .ret W'
  | .exit id, _, W' => KeepsOthers W W' ∧ Ix (.exit id) W'
  | .goto t, _, W' => KeepsOthers W W' ∧ Ix (.goto t) W'
  | .panic _, _, _ => False
  | .outgrown, _, _ => False

/-- AN ITERATOR, BY ITS GHOST STATE: at s it has more to tell or not; it tells encs s; a round moves s on to some next s'. Mem: what the caller's invariant says of the iterator's memory. -/
def Iter {σ : Type} (F : Fence) (n : Nat) (P : Program) (gf : Nat) (lb : Array Value) (encs : σ → Array Value) (more : σ → Prop) (next : σ → σ → Prop) (It KS : Nat → Prop) (Mem : σ → World → Prop) (s0 : σ) (w : World) : Prop :=
  ∀ (l : Nat) (J : σ → World → Prop) (Jx : World → Prop) (W : World), Below w.heap.size w W →
    (∀ s A B, J s A → ItStep It A B → J s B) → (∀ A B, Jx A → ItStep It A B → Jx B) → (∀ s A, J s A → Mem s A) →
    (∀ s A, J s A → more s → YieldAt F (n - 1) P l (encs s) A fun e B =>
      (e = .returned (.bool true) ∧ Keeps KS A B ∧ ∃ s', next s s' ∧ J s' B) ∨ (e = .returned (.bool false) ∧ Jx B)) →
    J s0 W →
    CallsIn F n P gf (#[.func (.yield l) #[] #[]] ++ lb) W fun e W' => (∃ v, e = .returned v) ∧ ((∃ s, ¬ more s ∧ J s W') ∨ Jx W')

theorem keeps_put {KS : Nat → Prop} (W : World) (l : Nat) (o : Obj) (h : ∀ b, KS b → b ≠ l) : Keeps KS W (W.putObj l o) :=
  ⟨by simp [World.putObj], fun b hb => World.putObj_heap_other (h b hb)⟩
theorem Keeps.trans {KS : Nat → Prop} {A B C : World} (h : Keeps KS A B) (k : Keeps KS B C) : Keeps KS A C := ⟨Nat.le_trans h.1 k.1, fun b hb => (k.2 b hb).trans (h.2 b hb)⟩
theorem fr_put {It : Nat → Prop} {n0 : Nat} {W : World} {l : Nat} {o : Obj} (o' : Obj) (hl : W.heap[l]? = some o) (ho : o.isCells = false) (hn : n0 ≤ l) : Fr It n0 W (W.putObj l o') :=
  ⟨rfl, rfl, rfl, by simp [World.putObj], fun b _ _ hc => World.putObj_heap_other (by
    rintro rfl
    rcases hc with hc | ⟨o2, h2, hc⟩
    · omega
    · rw [hl] at h2; cases h2; rw [ho] at hc; cases hc)⟩
theorem fr_alloc {It : Nat → Prop} {n0 : Nat} (W : World) (o : Obj) : Fr It n0 W (W.alloc o) :=
  ⟨rfl, rfl, rfl, by simp, fun b hb _ _ => Below.heap_alloc _ _ _ hb⟩

theorem Fr.below {It : Nat → Prop} {n0 B : Nat} {w W W' : World} (h : Fr It n0 W W') (hB : Below B w W) (hw : B ≤ w.heap.size) (hIt : ∀ b, It b → B ≤ b) (hn : B ≤ n0) : Below B w W' :=
  ⟨h.os.trans hB.os, h.tape.trans hB.tape, h.output.trans hB.output, Nat.le_trans hB.size h.size, fun b hb => (h.block b (Nat.lt_of_lt_of_le (Nat.lt_of_lt_of_le hb hw) hB.size) (fun hi => by have := hIt b hi; omega) (.inl (by omega))).trans (hB.block b hb)⟩
theorem Fr.blk {It : Nat → Prop} {n0 b : Nat} {W W' : World} {o : Obj} (h : Fr It n0 W W') (ho : W.heap[b]? = some o) (hi : ¬ It b) (hb : b < n0) : W'.heap[b]? = some o :=
  (h.block b (Array.getElem?_eq_some_iff.1 ho).1 hi (.inl hb)).trans ho
section
variable {F : Fence} {n : Nat} {P : Program}
theorem wpIn_rng {σ : Type} {g : Operand} {ps : Array Tmp} {assign body : Code} {Q : Exit → Act → World → Prop} {a : Act} {w : World}
    (hro : F.round = none) (h1 : 1 ≤ n) {gf : Nat} {lb : Array Value} (hg : a.eval g = .func (.func gf) #[] lb) (hFg : F.fn gf)
    (eg : ∀ args w, (callFunc gf args).run P w = .ok (.enter gf args) w)
    {encs : σ → Array Value} {more : σ → Prop} {next : σ → σ → Prop} {It KS : Nat → Prop} {Mem : σ → World → Prop} {s0 : σ}
    (hseq : Iter F (n - 1) P gf lb encs more next It KS Mem s0 w) (hps : ∀ s, (encs s).size = ps.size)
    (hIt : ∀ b, It b → b < w.heap.size) (hKS : ∀ b, KS b → b < w.heap.size)
    (I : σ → World → Prop) (Ix : Code → World → Prop)
    (hI : ∀ s A B, I s A → Fr It w.heap.size A B → I s B) (hIx : ∀ c A B, Ix c A → Fr It w.heap.size A B → Ix c B)
    (hM : ∀ s A, I s A → Mem s A) (h0 : I s0 w)
    (hround : ∀ (l : Nat) (s : σ) (W : World), I s W → more s → ∀ K : Act → World → Prop,
      (∀ a₁ : Act, (∀ W2, I s W2 → body.wpIn (F.inRound l) (n - 1 - 1) P (bodyPost KS next I Ix s W2) a₁ W2) → K a₁ W) →
      assign.wpIn (F.inRound l) (n - 1 - 1) P (Exit.then K (fun _ _ _ => False)) { tmps := (ps.zip (encs s)).foldl (fun t (p, v) => t.setIfInBounds p v) a.tmps, defers := [] } W)
    (hdone : ∀ (D : Nat) (s : σ) (W : World), w.heap.size ≤ D → ¬ more s → I s W → W.heap[D]? = some (.deferred (some [])) → Q .normal { a with defers := { target := .collected D, args := #[] } :: a.defers } W)
    (hstop : ∀ (D : Nat) (c : Code) (W : World), w.heap.size ≤ D → Ix c W → W.heap[D]? = some (.deferred (some [])) → c.wpIn F n P Q { a with defers := { target := .collected D, args := #[] } :: a.defers } W) :
    (Code.rangeFunc g ps assign body).wpIn F n P Q a w := by
  refine wpIn_rangeFunc fun fn hfn => ?_
  rw [hro]
  obtain ⟨rc, hrc⟩ : ∃ rc : LoopState → Option Code → Loop, rc = fun st pe => { state := st, pending := pe, fn, tmps := a.tmps, params := ps, assign, body, defers := w.heap.size } := ⟨_, rfl⟩
  obtain ⟨W1, hW1⟩ : ∃ W1, W1 = (w.alloc (.deferred (some []))).alloc (.loop (rc .ready none)) := ⟨_, rfl⟩
  have sz : W1.heap.size = w.heap.size + 2 := by rw [hW1]; simp
  have hL : W1.heap[w.heap.size + 1]? = some (.loop (rc .ready none)) := by
    have := World.alloc_heap_new (w.alloc (.deferred (some []))) (.loop (rc .ready none)); rw [World.size_alloc] at this; rw [hW1]; exact this
  have hD : W1.heap[w.heap.size]? = some (.deferred (some [])) := by
    rw [hW1]; exact (Below.heap_alloc _ _ _ (by simp)).trans (World.alloc_heap_new w _)
  have hB : Below w.heap.size w W1 := by rw [hW1]; exact ((Below.refl _ w).alloc (Nat.le_refl _) _).alloc (by simp) _
  have hI1 : I s0 W1 := by rw [hW1]; exact hI _ _ _ (hI _ _ _ h0 (fr_alloc _ _)) (fr_alloc _ _)
  refine ⟨w.heap.size + 1, [{ target := .collected w.heap.size, args := #[] }], W1, { target := .fn (.func gf) lb, args := #[.func (.yield (w.heap.size + 1)) #[] #[]] }, W1, gf,
    #[.func (.yield (w.heap.size + 1)) #[] #[]] ++ lb, W1, ?_, ?_, ?_, ?_, fun _ => h1, ?_⟩
  · rw [hW1, hrc]; exact run_enterLoop_outer _ _ _ _ _
  · simp only [resolve, hg]
    simp [go_sem]
  · intro f' hf'; simp [Target.leads] at hf'; subst hf'; exact hFg
  · simp [invoke, go_sem, eg]
  have nIt : ∀ b, w.heap.size ≤ b → ¬ It b := fun b hb h => by have := hIt b h; omega
  refine (hseq (w.heap.size + 1)
    (fun s W => I s W ∧ W.heap[w.heap.size + 1]? = some (.loop (rc .ready none)) ∧ W.heap[w.heap.size]? = some (.deferred (some [])))
    (fun W => ∃ c, Ix c W ∧ W.heap[w.heap.size + 1]? = some (.loop (rc .done (some c))) ∧ W.heap[w.heap.size]? = some (.deferred (some [])))
    W1 hB ?_ ?_ (fun s A h => hM s A h.1) ?_ ⟨hI1, hL, hD⟩).mono ?_
  · rintro s A B ⟨hi, hl, hd⟩ hs
    exact ⟨hI _ _ _ hi (hs.fr _), (hs.block _ (Array.getElem?_eq_some_iff.1 hl).1 (nIt _ (by omega))).trans hl, (hs.block _ (Array.getElem?_eq_some_iff.1 hd).1 (nIt _ (by omega))).trans hd⟩
  · rintro A B ⟨c, hi, hl, hd⟩ hs
    exact ⟨c, hIx _ _ _ hi (hs.fr _), (hs.block _ (Array.getElem?_eq_some_iff.1 hl).1 (nIt _ (by omega))).trans hl, (hs.block _ (Array.getElem?_eq_some_iff.1 hd).1 (nIt _ (by omega))).trans hd⟩
  · rintro s W ⟨hi, hl, hd⟩ hm
    have hy := run_yield (P := P) (args := encs s) hl (by rw [hrc]; exact hps s)
    rw [hrc] at hy
    refine ⟨fn, _, assign, body, hy, roundIn_of_wpIn hfn (hround _ s W hi hm _ fun a₁ hbody => ⟨_, run_beginRound hl (by rw [hrc]), ?_⟩)⟩
    obtain ⟨W2, hW2⟩ : ∃ W2, W2 = W.putObj (w.heap.size + 1) (.loop { rc .ready none with state := .busy }) := ⟨_, rfl⟩
    rw [← hW2]
    have hl2 : W2.heap[w.heap.size + 1]? = some (.loop { rc .ready none with state := .busy }) := by rw [hW2]; exact World.putObj_heap_same (Array.getElem?_eq_some_iff.1 hl).1
    have hd2 : W2.heap[w.heap.size]? = some (.deferred (some [])) := by rw [hW2]; exact (World.putObj_heap_other (by omega)).trans hd
    have hk2 : Keeps KS W W2 := by rw [hW2]; exact keeps_put _ _ _ fun b hb => by have := hKS b hb; omega
    have hi2 : I s W2 := by rw [hW2]; exact hI _ _ _ hi (fr_put _ hl rfl (by omega))
    refine wpIn_mono (hbody W2 hi2) ?_
    have fin : ∀ (jump : Option Code) (W3 : World), KeepsOthers W2 W3 → W3.heap[w.heap.size + 1]? = some (.loop { rc .ready none with state := .busy }) ∧
        (Instr.endRound (w.heap.size + 1) jump).run P W3 = .ok (.bool jump.isNone) (W3.putObj (w.heap.size + 1) (.loop (rc (if jump.isNone then .ready else .done) jump))) ∧
        (W3.putObj (w.heap.size + 1) (.loop (rc (if jump.isNone then .ready else .done) jump))).heap[w.heap.size + 1]? = some (.loop (rc (if jump.isNone then .ready else .done) jump)) ∧
        (W3.putObj (w.heap.size + 1) (.loop (rc (if jump.isNone then .ready else .done) jump))).heap[w.heap.size]? = some (.deferred (some [])) := fun jump W3 hk3 => by
      have hl3 := hk3.same _ _ hl2 rfl
      have he := run_endRound (P := P) jump hl3
      rw [hrc] at he ⊢
      rw [hrc] at hl3
      exact ⟨hl3, he, World.putObj_heap_same (Array.getElem?_eq_some_iff.1 hl3).1, (World.putObj_heap_other (by omega)).trans (hk3.same _ _ hd2 rfl)⟩
    have out : ∀ (c : Code) (W3 : World), KeepsOthers W2 W3 → Ix c W3 → ∃ v w', (Instr.endRound (w.heap.size + 1) (some c)).run P W3 = .ok v w' ∧
        ((Ending.returned v = .returned (.bool true) ∧ Keeps KS W w' ∧ ∃ s', next s s' ∧ (I s' w' ∧ w'.heap[w.heap.size + 1]? = some (.loop (rc .ready none)) ∧ w'.heap[w.heap.size]? = some (.deferred (some [])))) ∨
         (Ending.returned v = .returned (.bool false) ∧ ∃ c, Ix c w' ∧ w'.heap[w.heap.size + 1]? = some (.loop (rc .done (some c))) ∧ w'.heap[w.heap.size]? = some (.deferred (some [])))) := fun c W3 hk3 hx => by
      obtain ⟨hl3, hr, hl4, hd4⟩ := fin (some c) W3 hk3
      exact ⟨_, _, hr, .inr ⟨rfl, c, hIx _ _ _ hx (fr_put _ hl3 rfl (by omega)), hl4, hd4⟩⟩
    rintro e a3 W3 hp
    cases e with
    | normal =>
      obtain ⟨hk3, hks, s', hn, hi3⟩ := hp
      obtain ⟨hl3, hr, hl4, hd4⟩ := fin none W3 hk3
      exact ⟨_, _, hr, .inl ⟨rfl, hk2.trans (hks.trans (keeps_put _ _ _ fun b hb => by have := hKS b hb; omega)), s', hn, hI _ _ _ hi3 (fr_put _ hl3 rfl (by omega)), hl4, hd4⟩⟩
    | ret => exact out _ _ hp.1 hp.2
    | exit id => exact out _ _ hp.1 hp.2
    | goto t => exact out _ _ hp.1 hp.2
    | panic ch => exact hp.elim
    | outgrown => exact hp.elim
  · rintro e W2 ⟨⟨v, rfl⟩, (⟨s, hm, hi, hl, hd⟩ | ⟨c, hi, hl, hd⟩)⟩
    · exact ⟨none, _, by have := run_endLoop (P := P) hl (by rw [hrc]; simp); rw [hrc] at this; exact this, hdone _ s _ (Nat.le_refl _) hm (hI _ _ _ hi (fr_put _ hl rfl (by omega))) ((World.putObj_heap_other (by omega)).trans hd)⟩
    · exact ⟨some c, _, by have := run_endLoop (P := P) hl (by rw [hrc]; simp); rw [hrc] at this; exact this, hstop _ c _ (Nat.le_refl _) (hIx _ _ _ hi (fr_put _ hl rfl (by omega))) ((World.putObj_heap_other (by omega)).trans hd)⟩
end
end Go.Proofs.Ytaofanhdmfdlmaa.Rng

