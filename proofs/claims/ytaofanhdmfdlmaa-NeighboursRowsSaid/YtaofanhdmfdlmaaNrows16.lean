import Derived.Test.YtaofanhdmfdlmaaNrows14
import Derived.Test.YtaofanhdmfdlmaaNrows15
import Derived.Test.YtaofanhdmfdlmaaRows
import Derived.WalkKit
import Derived.ProofKit
import Derived.OpenShut
import Derived.ShutString
import Derived.ChangeOld
import Derived.Below
import Derived.SizedLaws
import Derived.Test.YtaofanhdmfdlmaaWSized
/-
What is proved: the plain law of NeighboursRows. Condition: none.
-/
namespace Go.Proofs.Ytaofanhdmfdlmaa.Print
open Go Go.RowKit Go.Proofs.YtaofanhdmfdlmaaW.PrintWords Go.Proofs.YtaofanhdmfdlmaaW.PrintLast Go.Proofs.YtaofanhdmfdlmaaW.PrintMore
set_option linter.unusedVariables false
theorem rdT90_get (l : List S90) (i : Nat) (h : i < l.length) : rd_T90 l (i : Int) = l[i] := by unfold rd_T90; simp [List.getD_eq_getElem?_getD, h]
theorem same3_go (n : Int) (l : List S90) (hl : l.length ≤ 4096) (hr : ∀ r ∈ l, r.f1.length ≤ 4096) : ∀ (d i : Nat), i + d = l.length → Ev (fun k => downpourref03_Same.l0 k l.length i n l n l) true := by
  intro d
  induction d with
  | zero =>
    intro i hi
    refine Ev.step (f := fun _ => some true) (fun k => ?_) (Ev.now _)
    simp only [downpourref03_Same.l0]
    rw [if_neg (by omega)]
  | succ d ih =>
    intro i hi
    have hlt : i < l.length := by omega
    refine Ev.step (f := fun k => (downpourref01_Same.f k (l[i]).f0 (l[i]).f1 (l[i]).f0 (l[i]).f1).bind fun t => if t = true then downpourref03_Same.l0 k l.length ((i + 1 : Nat) : Int) n l n l else some false) (fun k => ?_)
      (Ev.bind (same_ev (l[i]).f0 (l[i]).f1 (hr _ (List.getElem_mem hlt))) (Ev.congr (fun k => if_pos rfl) (ih (i + 1) (by omega))))
    simp only [downpourref03_Same.l0]
    rw [if_pos (by omega), if_pos (by omega), if_pos (by omega), if_pos (by omega), rdT90_get l i hlt, wrap64_in (by omega)]
    rfl
theorem same3_ev (n : Int) (l : List S90) (hl : l.length ≤ 4096) (hr : ∀ r ∈ l, r.f1.length ≤ 4096) : Ev (fun k => downpourref03_Same.f k n l n l) true := by
  refine Ev.congr (f := fun k => downpourref03_Same.j0 k false n l n l) (fun k => ?_) (Ev.step (fun k => ?_) (same3_go n l hl hr l.length 0 (by omega)))
  · unfold downpourref03_Same.f
    rw [if_pos rfl]
    simp
  · simp only [downpourref03_Same.j0]
    rw [if_neg (by decide)]
    rfl
theorem rows_go (k : Int) (n : Nat) (hk : k = (n : Int)) (h1 : 1 ≤ k) (h2 : k ≤ 64) (l : List Int) (hl : l.length ≤ 64) (hm : ∀ x ∈ l, 0 ≤ x ∧ x < M64) : ∀ (d i : Nat), i + d = l.length →
    ∃ R : List S90, R.length = d ∧ (∀ r ∈ R, r.f1.length ≤ 4096) ∧ ∀ acc : List S90, acc.length = i →
      Ev (fun K => neighbours_Rows.l0 K l l.length i k (tabL k k.toNat) k acc) (k, acc ++ R, 0) ∧ Ev (fun K => downpourref08_Rows.l0 K k l l.length i k acc) (k, acc ++ R) := by
  intro d
  induction d with
  | zero =>
    intro i hi
    refine ⟨[], rfl, fun r h => absurd h (by simp), fun acc ha => ⟨?_, ?_⟩⟩
    · rw [List.append_nil]
      refine Ev.step (f := fun _ => some (k, acc, 0)) (fun K => ?_) (Ev.now _)
      simp only [neighbours_Rows.l0]
      rw [if_neg (by omega)]
    · rw [List.append_nil]
      refine Ev.step (f := fun _ => some (k, acc)) (fun K => ?_) (Ev.now _)
      simp only [downpourref08_Rows.l0]
      rw [if_neg (by omega)]
  | succ d ih =>
    intro i hi
    have hlt : i < l.length := by omega
    have er := rd_get l i hlt
    have hx := hm _ (List.getElem_mem hlt)
    obtain ⟨m, L, m1, m2, hlen, hr, hp, hq⟩ := places_all k n hk h1 h2 l[i] hx.1 hx.2
    have hp2 : Ev (fun K => neighbours_code_places.f K k (tabL k k.toNat) l[i]) L := by rw [show k.toNat = n by omega]; exact hp
    have h3 := Of_prog n (by omega) (by omega) L (by omega) hr
    rw [← hk] at h3
    have h4 : Ev (fun K => neighbours_code_row.f K k (tabL k k.toNat) l[i]) (k, [((orAll 0 L : Nat) : Int)]) :=
      Ev.bind hp2 (Ev.bind (f := fun _ bt => some (bt.1, bt.2.1)) h3 (Ev.now _))
    have h5 := RowRef_ev k n hk h1 h2 l[i] L (by omega) hr hq
    obtain ⟨R, hR, hRr, hE⟩ := ih (i + 1) (by omega)
    refine ⟨⟨k, [((orAll 0 L : Nat) : Int)]⟩ :: R, by simp [hR], fun r h => ?_, fun acc ha => ?_⟩
    · rcases List.mem_cons.1 h with rfl | h
      · simp
      · exact hRr r h
    · obtain ⟨e1, e2⟩ := hE (acc ++ [⟨k, [((orAll 0 L : Nat) : Int)]⟩]) (by simp [ha])
      rw [List.append_assoc, List.singleton_append] at e1 e2
      refine ⟨?_, ?_⟩
      · refine Ev.step (f := fun K => (neighbours_code_row.f K k (tabL k k.toNat) l[i]).bind fun bt => neighbours_Rows.l0 K l l.length ((i + 1 : Nat) : Int) k (tabL k k.toNat) k (acc ++ [⟨bt.1, bt.2⟩])) (fun K => ?_) (Ev.bind h4 e1)
        simp only [neighbours_Rows.l0]
        rw [if_pos (by omega), if_pos (by omega), if_pos (by omega), er, wrap64_in (by omega)]
        congr 1
        funext bt
        rw [if_pos (by omega)]
        rfl
      · refine Ev.step (f := fun K => (downpourref08_Row.f K k l[i]).bind fun bt => downpourref08_Rows.l0 K k l l.length ((i + 1 : Nat) : Int) k (acc ++ [⟨bt.1, bt.2⟩])) (fun K => ?_) (Ev.bind h5 e2)
        simp only [downpourref08_Rows.l0]
        rw [if_pos (by omega), if_pos (by omega), if_pos (by omega), er, wrap64_in (by omega)]
        congr 1
        funext bt
        rw [if_pos (by omega)]
        rfl
theorem Rows_bad (k : Int) (l : List Int) (h : ¬ (1 ≤ k ∧ k ≤ 64) ∨ 64 < l.length) : Ev (fun K => neighbours_Rows.f K k l) (0, [], 2) := by
  have hj : ∀ t : List Int, ∀ b : Bool, b = true → Ev (fun K => neighbours_Rows.j0 K k l b k t) (0, [], 2) := fun t b hb => by
    subst hb
    refine Ev.step (f := fun _ => some (0, [], 2)) (fun K => ?_) (Ev.now _)
    simp only [neighbours_Rows.j0]
    rw [if_pos trivial]
  by_cases hk : 1 ≤ k ∧ k ≤ 64
  · refine Ev.congr (fun K => ?_) (hj (tabL k k.toNat) (decide ((l.length : Int) > 64)) (decide_eq_true (by omega)))
    unfold neighbours_Rows.f
    rw [of_ok k hk.1 hk.2, Option.bind_some, if_pos rfl]
  · refine Ev.congr (fun K => ?_) (hj [] true rfl)
    unfold neighbours_Rows.f
    rw [of_bad k hk, Option.bind_some, if_neg (show ¬ (2 : Int) = 0 by decide)]
theorem rows_ok (k : Int) (h1 : 1 ≤ k) (h2 : k ≤ 64) (l : List Int) (hl : l.length ≤ 64) (hm : ∀ x ∈ l, 0 ≤ x ∧ x < M64) : ∃ R : List S90, R.length ≤ 64 ∧ (∀ r ∈ R, r.f1.length ≤ 4096) ∧
    Ev (fun K => neighbours_Rows.f K k l) (k, R, 0) ∧ Ev (fun K => downpourref08_Rows.f K k l) (k, R) := by
  obtain ⟨n, hk⟩ : ∃ n : Nat, k = (n : Int) := ⟨k.toNat, by omega⟩
  obtain ⟨R, hR, hr, hE⟩ := rows_go k n hk h1 h2 l hl hm l.length 0 (by omega)
  obtain ⟨e1, e2⟩ := hE [] rfl
  rw [List.nil_append] at e1 e2
  refine ⟨R, by omega, hr, ?_, Ev.congr (fun K => rfl) e2⟩
  refine Ev.congr (fun K => ?_) (Ev.step (g := fun K => neighbours_Rows.j0 K k l false k (tabL k k.toNat)) (fun K => ?_) e1)
  · unfold neighbours_Rows.f
    rw [of_ok k h1 h2, Option.bind_some, if_pos rfl, decide_eq_false (by omega)]
  · simp only [neighbours_Rows.j0]
    rw [if_neg (by decide)]
    rfl
theorem rows_j_bad (k : Int) (l : List Int) (b : Bool) (hb : b = true) : Ev (fun K => downpourlaw08_NeighboursRows.j0 K k l 2 b 0 []) true := by
  subst hb
  refine Ev.step (f := fun K => (downpourlaw08_alive.f K).bind fun t => if t = true then ((downpourref03_Same.f K 0 [] 0 []).bind fun u => some u) else some false) (fun K => ?_) (Ev.bind alive08 (Ev.congr (fun K => if_pos rfl) (Ev.bind (same3_ev 0 [] (by decide) (fun r h => absurd h (by simp))) (Ev.now _))))
  simp only [downpourlaw08_NeighboursRows.j0]
  rw [if_pos trivial]
  congr 1
theorem rows_j_ok (k : Int) (l : List Int) (R : List S90) (hR : R.length ≤ 64) (hr : ∀ r ∈ R, r.f1.length ≤ 4096) (h : Ev (fun K => downpourref08_Rows.f K k l) (k, R)) : Ev (fun K => downpourlaw08_NeighboursRows.j0 K k l 0 false k R) true := by
  refine Ev.step (f := fun K => (downpourlaw08_alive.f K).bind fun t => if t = true then ((downpourref08_Rows.f K k l).bind fun bt => (downpourref03_Same.f K k R bt.1 bt.2).bind fun u => some u) else some false) (fun K => ?_)
    (Ev.bind alive08 (Ev.congr (fun K => if_pos rfl) (Ev.bind h (Ev.bind (same3_ev k R (by omega) hr) (Ev.now _)))))
  simp only [downpourlaw08_NeighboursRows.j0]
  rw [if_neg (by decide)]
  congr 1
theorem rows_pure (k : Int) (l : List Int) (hm : ∀ x ∈ l, 0 ≤ x ∧ x < M64) : Ev (fun K => downpourlaw08_NeighboursRows.f K k l) true := by
  unfold downpourlaw08_NeighboursRows.f
  by_cases h : (1 ≤ k ∧ k ≤ 64) ∧ l.length ≤ 64
  · obtain ⟨R, hR, hr, e1, e2⟩ := rows_ok k h.1.1 h.1.2 l h.2 hm
    refine Ev.bind e1 (Ev.congr (fun K => ?_) (rows_j_ok k l R hR hr e2))
    rw [if_neg (by omega), if_neg (by omega), decide_eq_false (by omega)]
  · refine Ev.bind (Rows_bad k l (by omega)) ?_
    by_cases c1 : k < 1
    · exact Ev.congr (fun K => if_pos c1) (rows_j_bad k l true rfl)
    · by_cases c2 : k > 64
      · exact Ev.congr (fun K => by rw [if_neg c1, if_pos c2]) (rows_j_bad k l true rfl)
      · exact Ev.congr (fun K => by rw [if_neg c1, if_neg c2]) (rows_j_bad k l (decide ((l.length : Int) > 64)) (decide_eq_true (by omega)))
end Go.Proofs.Ytaofanhdmfdlmaa.Print
namespace Go.Proofs.Ytaofanhdmfdlmaa.Pure
open Go Go.RowKit Go.Proofs.YtaofanhdmfdlmaaW.PrintWords
theorem NeighboursRows : Print.downpourlaw08_NeighboursRows.Pure := by
  intro a0 l1 w0 _ _ w1
  exact Ev.rounds (Print.rows_pure a0 l1 fun x hx => by have h := bounds_u64 (w1 x hx); exact ⟨h.1, by unfold Print.M64; omega⟩)
end Go.Proofs.Ytaofanhdmfdlmaa.Pure

-- PRINTED by print.py: the row of the law downpourlaw08_NeighboursRows, out of its Pure (the session's) and the printed walk. Not trusted: Lean checks it.
namespace Go.Proofs.Ytaofanhdmfdlmaa.neighboursRows
open Go.ChangeShapes Go.WideShapes Go.ChangeAt Go.RowKit
open Go.ChangeMaps (open_string shut_string)
set_option linter.unusedVariables false
theorem own : ownKnob Try.prog.godebug = none := by kernel_rfl
theorem laidOut : laidOutB Try.prog = true := by kernel_rfl
def IsRow (k : IntKind) (w : World) (a : Option Addr) (len cap : Nat) (zs : List Int) : Prop :=
  (a = none ∧ len = 0 ∧ cap = 0 ∧ zs = []) ∨
  ∃ x, a = some x ∧ len ≤ cap ∧ cap ≤ maxLen ∧ zs.length = cap ∧ (∀ i, i < zs.length → w.cell? (x.add i) = some (.int k (zs.getD i 0))) ∧ ∀ n ∈ zs, (Lit.int k n).wf = true
set_option maxRecDepth 100000 in
theorem lifted (os : Os) (started : os.Started) (H : Type) (enc : TypeId × Value → H) :
    ReturnsInHanded {} Try.checked os 10 .any (Rows.neighboursRowsSpec.pre6 enc Try.prog Try.f10 Rows.neighboursRowsRow.domain false) (Rows.neighboursRowsSpec.post enc Try.prog Try.f10 false true false false) := by
  refine returnsInHanded_of_change_sized (C := Try.checked) own started (by kernel_rfl) Try.func10
    (ChangeSpec.witness6 (enc := enc) (C := Try.checked) false ⟨#[], #[.int .i64 0, .slice none 0 0], []⟩ 8 (by kernel_rfl) (by kernel_rfl) (by kernel_rfl) (by kernel_rfl)) ?_
  intro W base args ds gs before hval0 hW hcnd hsz0 _
  have hsz : (DataW.weightsEach Try.prog (Try.f10.params.toList ++ Rows.neighboursRowsSpec.plain.varTypes Try.prog) (ds ++ gs)).all (· ≤ reachBytes) = true := hsz0
  have hval : ∀ (j : Nat) t v, Try.f10.params[j]? = some t → args[j]? = some v → Value.okWide Try.prog W .any base t v := hval0
  have hW' := hW
  obtain ⟨p, q, hA0, hV, rfl, hfz, hnd⟩ := hW
  have hA : DataW.TrodAll enc Try.prog W 0 (fun _ => true) true Try.f10.params.toList args.toList ds p := hA0
  rw [Try.params10] at hA hval hsz
  obtain ⟨v0, vs0, d0, ds0, p0, q0, hargs, rfl, rfl, h0, r0⟩ := trodAll_cons hA
  obtain ⟨v1, vs1, d1, ds1, p1, q1, rfl, rfl, rfl, h1, r1⟩ := trodAll_cons r0
  obtain ⟨rfl, rfl, rfl⟩ := trodAll_nil r1
  obtain rfl : args = #[v0, v1] := by cases args; simp_all
  obtain ⟨rfl, rfl⟩ := trodVars_none hV
  obtain ⟨a0, rfl, rfl, rfl, w0⟩ := open_int Try.underlying3 (hval 0 3 v0 rfl rfl) h0
  obtain ⟨a1, len1, cap1, rfl⟩ := okWide_slice Try.underlying88 (hval 1 88 v1 rfl rfl)
  have k1 := h1
  have lt1 : ∀ x ∈ p1, x.block < W.heap.size := by obtain ⟨m, hm⟩ := k1; exact DataW.trod_lt m _ _ _ hm
  obtain ⟨z1, w1⟩ : ∃ zs, IsRow .u64 W a1 len1 cap1 zs := by
    obtain ⟨fuel, hf⟩ := h1
    rcases open_ints Try.underlying88 Try.underlying25 (by kernel_rfl) hf with ⟨hcs, _⟩ | ⟨x, l, c, zs, hcs, _, hl, hm, hz, _, hcell, hwz⟩
    · simp [Value.cells] at hcs
      obtain ⟨rfl, rfl, rfl⟩ := hcs
      exact ⟨[], .inl ⟨rfl, rfl, rfl, rfl⟩⟩
    · simp [Value.cells] at hcs
      obtain ⟨rfl, rfl, rfl⟩ := hcs
      exact ⟨zs, .inr ⟨_, rfl, hl, hm, by simpa using hz, hcell, hwz⟩⟩
  have y1 : len1 * 8 ≤ 140737488351232 := Go.Proofs.YtaofanhdmfdlmaaW.PrintWords.sized_ints hsz (j := 1) (t := 88) rfl rfl Try.underlying88 Try.underlying25 (by kernel_rfl) (by kernel_rfl) h1
  clear hA0 hval0 hsz0 hsz
  refine (Print.downpourlaw08_NeighboursRows.walk Pure.NeighboursRows a0 a1 len1 cap1 z1 W w0 w1 y1).mono fun e W' ⟨he, bel⟩ => ?_
  subst he
  exact ⟨_, rfl, _, _, _, [], _, [], hW', trodAll_mk1 (shut_bool Try.underlying4 _), (trodAll_cons_mk (shut_int Try.underlying3 w0) (trodAll_cons_mk (Below.trod laidOut (by kernel_rfl) (of_decide_eq_true (by kernel_rfl)) k1 bel lt1) trodAll_mk0)), rfl, bel.frame _, fun h => by cases h⟩
theorem over : Rows.neighboursRowsRow.holds Try.pinned (OpenSpec.ofChange Rows.neighboursRowsSpec) :=
  OpenClaim.holds_of_wide 10 Try.f10 rfl rfl rfl rfl rfl rfl rfl ⟨rfl, rfl, rfl, rfl, rfl⟩ rfl rfl rfl rfl rfl (by kernel_rfl) Try.func10 (by kernel_rfl)
    (of_decide_eq_true (by kernel_rfl)) (by unfold Func.isWrapper; first | (rw [if_pos (by decide +kernel)]; kernel_rfl) | (rw [if_neg (by decide +kernel)]; exact ⟨rfl, rfl⟩))
    (fun os started H enc _ => lifted os started H enc)
theorem proved : Rows.NeighboursRowsSaid := over
end Go.Proofs.Ytaofanhdmfdlmaa.neighboursRows
namespace Go.Proofs.Ytaofanhdmfdlmaa
/-- The row, under a short name, for the claim. -/
theorem neighboursRows_holds : Rows.NeighboursRowsSaid := neighboursRows.proved
end Go.Proofs.Ytaofanhdmfdlmaa

