import Derived.Test.YtaofanhdmfdlmaaTell11
import Derived.Test.YtaofanhdmfdlmaaTell12
import Derived.Test.YtaofanhdmfdlmaaRows
import Derived.WalkKit
import Derived.ProofKit
import Derived.OpenShut
import Derived.ShutString
import Derived.ChangeOld
import Derived.Below
import Derived.SizedLaws
/-
What is proved: the plain law of NeighboursTell. Condition: none.
-/
namespace Go.Proofs.Ytaofanhdmfdlmaa.Print
open Go Go.RowKit Go.Proofs.YtaofanhdmfdlmaaW.PrintWords Go.Proofs.YtaofanhdmfdlmaaW.PrintLast Go.Proofs.YtaofanhdmfdlmaaW.PrintMore
set_option linter.unusedVariables false
theorem tell_bad (k id : Int) (b : Bool) (hb : b = true) : Ev (fun K => downpourlaw08_NeighboursTell.j0 K k id [] 2 2 b 0 []) true := by
  subst hb
  refine Ev.step (f := fun K => (downpourlaw08_alive.f K).bind fun t => if t = true then ((downpourref01_Same.f K 0 [] 0 []).bind fun u => some u) else some false) (fun K => ?_) (Ev.bind alive08 (Ev.congr (fun K => if_pos rfl) (Ev.bind (same_ev 0 [] (by decide)) (Ev.now _))))
  simp only [downpourlaw08_NeighboursTell.j0]
  rw [if_pos trivial]
  congr 1
theorem tell_ok (k : Int) (n : Nat) (hk : k = (n : Int)) (h1 : 1 ≤ k) (h2 : k ≤ 64) (id : Int) (L : List Int) (hl : L.length ≤ 4096) (hm : ∀ p ∈ L, 0 ≤ p ∧ p < n) (hr : Ev (fun K => downpourref08_Places.f K k id) L) :
    Ev (fun K => downpourlaw08_NeighboursTell.j0 K k id L 0 0 false k [((orAll 0 L : Nat) : Int)]) true := by
  refine Ev.step (f := fun K => (downpourlaw08_alive.f K).bind fun t => if t = true then ((downpourref08_Places.f K k id).bind fun u => (downpourref01_Numbers.f K L u).bind fun v => if v = true then ((downpourref08_Row.f K k id).bind fun r => (downpourref01_Same.f K k [((orAll 0 L : Nat) : Int)] r.1 r.2).bind fun y => some y) else some false) else some false) (fun K => ?_)
    (Ev.bind alive08 (Ev.congr (fun K => if_pos rfl) (Ev.bind hr (Ev.bind (numbers_same L hl) (Ev.congr (fun K => if_pos rfl) (Ev.bind (RowRef_ev k n hk h1 h2 id L hl hm hr) (Ev.bind (same_ev k _ (by simp)) (Ev.now _))))))))
  simp only [downpourlaw08_NeighboursTell.j0]
  rw [if_neg (by decide)]
  congr 1
theorem tell_pure (k id : Int) (i0 : 0 ≤ id) (i1 : id < M64) : Ev (fun K => downpourlaw08_NeighboursTell.f K k id) true := by
  unfold downpourlaw08_NeighboursTell.f
  by_cases h : 1 ≤ k ∧ k ≤ 64
  · obtain ⟨n, hk⟩ : ∃ n : Nat, k = (n : Int) := ⟨k.toNat, by omega⟩
    obtain ⟨m, L, m1, m2, hl, hm, hp, hr⟩ := places_all k n hk h.1 h.2 id i0 i1
    have hp2 : Ev (fun K => neighbours_code_places.f K k (tabL k k.toNat) id) L := by rw [show k.toNat = n by omega]; exact hp
    refine Ev.bind (f := fun K bt850 => (neighbours_Row.f K k id).bind fun bt854 => if k < 1 then downpourlaw08_NeighboursTell.j0 K k id bt850.1 bt850.2 bt854.2.2 true bt854.1 bt854.2.1 else downpourlaw08_NeighboursTell.j0 K k id bt850.1 bt850.2 bt854.2.2 (decide (k > 64)) bt854.1 bt854.2.1) (Places_ev k h.1 h.2 id L hp2) ?_
    refine Ev.bind (Row_ev k n hk h.1 h.2 id L (by omega) hm hp2) (Ev.congr (fun K => ?_) (tell_ok k n hk h.1 h.2 id L (by omega) hm hr))
    rw [if_neg (by omega), decide_eq_false (by omega)]
  · refine Ev.bind (f := fun K bt850 => (neighbours_Row.f K k id).bind fun bt854 => if k < 1 then downpourlaw08_NeighboursTell.j0 K k id bt850.1 bt850.2 bt854.2.2 true bt854.1 bt854.2.1 else downpourlaw08_NeighboursTell.j0 K k id bt850.1 bt850.2 bt854.2.2 (decide (k > 64)) bt854.1 bt854.2.1) (Ev.congr (fun K => Places_bad k h id K) (Ev.now _)) ?_
    refine Ev.bind (Ev.congr (fun K => Row_bad k h id K) (Ev.now _)) ?_
    by_cases hn : k < 1
    · exact Ev.congr (fun K => if_pos hn) (tell_bad k id true rfl)
    · exact Ev.congr (fun K => if_neg hn) (tell_bad k id (decide (k > 64)) (decide_eq_true (by omega)))
end Go.Proofs.Ytaofanhdmfdlmaa.Print
namespace Go.Proofs.Ytaofanhdmfdlmaa.Pure
open Go Go.RowKit Go.Proofs.YtaofanhdmfdlmaaW.PrintWords
theorem NeighboursTell : Print.downpourlaw08_NeighboursTell.Pure := by
  intro a0 a1 w0 w1
  have h := bounds_u64 w1
  exact Ev.rounds (Print.tell_pure a0 a1 (by omega) (by unfold Print.M64; omega))
end Go.Proofs.Ytaofanhdmfdlmaa.Pure

-- PRINTED by print.py: the row of the law downpourlaw08_NeighboursTell, out of its Pure (the session's) and the printed walk. Not trusted: Lean checks it.
namespace Go.Proofs.Ytaofanhdmfdlmaa.neighboursTell
open Go.ChangeShapes Go.WideShapes Go.ChangeAt Go.RowKit
open Go.ChangeMaps (open_string shut_string)
set_option linter.unusedVariables false
theorem own : ownKnob Try.prog.godebug = none := by kernel_rfl
set_option maxRecDepth 100000 in
theorem lifted (os : Os) (started : os.Started) (H : Type) (enc : TypeId × Value → H) :
    ReturnsInHanded {} Try.checked os 9 .any (Rows.neighboursTellSpec.pre6 enc Try.prog Try.f9 Rows.neighboursTellRow.domain false) (Rows.neighboursTellSpec.post enc Try.prog Try.f9 false true false false) := by
  refine returnsInHanded_of_change_sized (C := Try.checked) own started (by kernel_rfl) Try.func9
    (ChangeSpec.witness6 (enc := enc) (C := Try.checked) false ⟨#[], #[.int .i64 0, .int .u64 0], []⟩ 8 (by kernel_rfl) (by kernel_rfl) (by kernel_rfl) (by kernel_rfl)) ?_
  intro W base args ds gs before hval0 hW hcnd hsz0 _
  have hsz : (DataW.weightsEach Try.prog (Try.f9.params.toList ++ Rows.neighboursTellSpec.plain.varTypes Try.prog) (ds ++ gs)).all (· ≤ reachBytes) = true := hsz0
  have hval : ∀ (j : Nat) t v, Try.f9.params[j]? = some t → args[j]? = some v → Value.okWide Try.prog W .any base t v := hval0
  have hW' := hW
  obtain ⟨p, q, hA0, hV, rfl, hfz, hnd⟩ := hW
  have hA : DataW.TrodAll enc Try.prog W 0 (fun _ => true) true Try.f9.params.toList args.toList ds p := hA0
  rw [Try.params9] at hA hval hsz
  obtain ⟨v0, vs0, d0, ds0, p0, q0, hargs, rfl, rfl, h0, r0⟩ := trodAll_cons hA
  obtain ⟨v1, vs1, d1, ds1, p1, q1, rfl, rfl, rfl, h1, r1⟩ := trodAll_cons r0
  obtain ⟨rfl, rfl, rfl⟩ := trodAll_nil r1
  obtain rfl : args = #[v0, v1] := by cases args; simp_all
  obtain ⟨rfl, rfl⟩ := trodVars_none hV
  obtain ⟨a0, rfl, rfl, rfl, w0⟩ := open_int Try.underlying3 (hval 0 3 v0 rfl rfl) h0
  obtain ⟨a1, rfl, rfl, rfl, w1⟩ := open_int Try.underlying25 (hval 1 25 v1 rfl rfl) h1
  clear hA0 hval0 hsz0 hsz
  refine (Print.downpourlaw08_NeighboursTell.walk Pure.NeighboursTell a0 a1 W w0 w1).mono fun e W' ⟨he, bel⟩ => ?_
  subst he
  exact ⟨_, rfl, _, _, _, [], _, [], hW', trodAll_mk1 (shut_bool Try.underlying4 _), (trodAll_cons_mk (shut_int Try.underlying3 w0) (trodAll_cons_mk (shut_int Try.underlying25 w1) trodAll_mk0)), rfl, bel.frame _, fun h => by cases h⟩
theorem over : Rows.neighboursTellRow.holds Try.pinned (OpenSpec.ofChange Rows.neighboursTellSpec) :=
  OpenClaim.holds_of_wide 9 Try.f9 rfl rfl rfl rfl rfl rfl rfl ⟨rfl, rfl, rfl, rfl, rfl⟩ rfl rfl rfl rfl rfl (by kernel_rfl) Try.func9 (by kernel_rfl)
    (of_decide_eq_true (by kernel_rfl)) (by unfold Func.isWrapper; first | (rw [if_pos (by decide +kernel)]; kernel_rfl) | (rw [if_neg (by decide +kernel)]; exact ⟨rfl, rfl⟩))
    (fun os started H enc _ => lifted os started H enc)
theorem proved : Rows.NeighboursTellSaid := over
end Go.Proofs.Ytaofanhdmfdlmaa.neighboursTell
namespace Go.Proofs.Ytaofanhdmfdlmaa
/-- The row, under a short name, for the claim. -/
theorem neighboursTell_holds : Rows.NeighboursTellSaid := neighboursTell.proved
end Go.Proofs.Ytaofanhdmfdlmaa

