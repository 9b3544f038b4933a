/-
  No cell of these rows narrows 'for every input' (looked for: loops, veiled, ifaces, maps, wideKeys, modest, calm, conditions, laid).
  DERIVED. THE GIVEN ROWS OF THIS SEAT. 9 by the template 'for every input the law returns true; each argument reads behind the call as it read before'; 0 by the template 'total and deterministic' (their statements: YtaofanhdmfdlmaaTotals.lean).
  GIVEN WITH THE SEED: the statements are not yours to turn. If you find one false, say at which input.
  Laid BY PROGRAM, IN A SANDBOX (cutbox-rows.mjs): the forced cells as the released guide's own fill.sh prints them over the translation 16bad9c033112aaa… (all of the seat's roots in one cut). By AI agents, Wed Nov 11 2026. No macro, syntax, notation, axiom, sorry.
-/
import Derived.Test.YtaofanhdmfdlmaaChecked
import GoSem.Claim
import GoSem.ClaimJoined
import GoSem.ClaimMapViews
import Derived.JoinedTies
import Derived.KernelRfl
namespace Go.Proofs.Ytaofanhdmfdlmaa
/- THE CELL 'sum', in the pinned program and in every row, IS THE sha256 OF THE DUMP (.gsa) THAT YtaofanhdmfdlmaaProg.lean LOADS. Nothing in Lean hashes anything: it is a label: what it is worth is what the hold of that sum in a sandbox is worth. -/
noncomputable def Try.pinned : Pinned := { name := "ytaofanhdmfdlmaa", sum := "16bad9c033112aaa7bd84d0a927abfd5cf158dce42abbdcd2e0d5a1832d77cef", checked := Try.checked }
namespace Rows
def none {H : Type} : Left H := { results := [], args := [] }

/-- 'downpourlaw13.ShardAdds': WHATEVER THE INPUT: true; the input reads as it did. -/
def shardAddsSpec : ChangeSpec := { name := "shardAdds", fn := fun _ => fun
  | [d1, d2, d3, d4, d5, d6] => { results := [.lit (.bool true)], args := [d1, d2, d3, d4, d5, d6] }
  | _ => none }
def shardAddsRow : OpenClaim := { program := "ytaofanhdmfdlmaa", sum := "16bad9c033112aaa7bd84d0a927abfd5cf158dce42abbdcd2e0d5a1832d77cef", func := "downpour/downpourlaw13.ShardAdds", spec := "shardAdds", inPlace := ["slices.overlaps[downpour/api.Symbol]"], unfollowed := true, recurses := true, apart := false }
def ShardAddsSaid : Prop := shardAddsRow.holds Try.pinned (OpenSpec.ofChange shardAddsSpec)

/-- ITS FALSE NEIGHBOUR: 'it returns false'. Refute it at one input. -/
def shardAddsWrong : ChangeSpec := { name := "shardAdds", fn := fun _ => fun
  | [d1, d2, d3, d4, d5, d6] => { results := [.lit (.bool false)], args := [d1, d2, d3, d4, d5, d6] }
  | _ => none }
def ShardAddsWrongFalsely : Prop := shardAddsRow.holds Try.pinned (OpenSpec.ofChange shardAddsWrong)

/-- 'downpourlaw06.RandomOrders': WHATEVER THE INPUT: true; the input reads as it did. -/
def randomOrdersSpec : ChangeSpec := { name := "randomOrders", fn := fun _ => fun
  | [d1, d2, d3] => { results := [.lit (.bool true)], args := [d1, d2, d3] }
  | _ => none }
def randomOrdersRow : OpenClaim := { program := "ytaofanhdmfdlmaa", sum := "16bad9c033112aaa7bd84d0a927abfd5cf158dce42abbdcd2e0d5a1832d77cef", func := "downpour/downpourlaw06.RandomOrders", spec := "randomOrders", unfollowed := true, recurses := true, named := ["math/bits.divideError", "math/bits.overflowError"], apart := false }
def RandomOrdersSaid : Prop := randomOrdersRow.holds Try.pinned (OpenSpec.ofChange randomOrdersSpec)

/-- ITS FALSE NEIGHBOUR: 'it returns false'. Refute it at one input. -/
def randomOrdersWrong : ChangeSpec := { name := "randomOrders", fn := fun _ => fun
  | [d1, d2, d3] => { results := [.lit (.bool false)], args := [d1, d2, d3] }
  | _ => none }
def RandomOrdersWrongFalsely : Prop := randomOrdersRow.holds Try.pinned (OpenSpec.ofChange randomOrdersWrong)

/-- 'downpourlaw06.RandomFew': WHATEVER THE INPUT: true; the input reads as it did. -/
def randomFewSpec : ChangeSpec := { name := "randomFew", fn := fun _ => fun
  | [d1, d2, d3] => { results := [.lit (.bool true)], args := [d1, d2, d3] }
  | _ => none }
def randomFewRow : OpenClaim := { program := "ytaofanhdmfdlmaa", sum := "16bad9c033112aaa7bd84d0a927abfd5cf158dce42abbdcd2e0d5a1832d77cef", func := "downpour/downpourlaw06.RandomFew", spec := "randomFew", unfollowed := true, recurses := true, named := ["math/bits.divideError", "math/bits.overflowError"], apart := false }
def RandomFewSaid : Prop := randomFewRow.holds Try.pinned (OpenSpec.ofChange randomFewSpec)

/-- ITS FALSE NEIGHBOUR: 'it returns false'. Refute it at one input. -/
def randomFewWrong : ChangeSpec := { name := "randomFew", fn := fun _ => fun
  | [d1, d2, d3] => { results := [.lit (.bool false)], args := [d1, d2, d3] }
  | _ => none }
def RandomFewWrongFalsely : Prop := randomFewRow.holds Try.pinned (OpenSpec.ofChange randomFewWrong)

/-- 'downpourlaw18.ObjectOpens': WHATEVER THE INPUT: true; the input reads as it did. -/
def objectOpensSpec : ChangeSpec := { name := "objectOpens", fn := fun _ => fun
  | [d1, d2, d3] => { results := [.lit (.bool true)], args := [d1, d2, d3] }
  | _ => none }
def objectOpensRow : OpenClaim := { program := "ytaofanhdmfdlmaa", sum := "16bad9c033112aaa7bd84d0a927abfd5cf158dce42abbdcd2e0d5a1832d77cef", func := "downpour/downpourlaw18.ObjectOpens", spec := "objectOpens", unfollowed := true, recurses := true, apart := false }
def ObjectOpensSaid : Prop := objectOpensRow.holds Try.pinned (OpenSpec.ofChange objectOpensSpec)

/-- ITS FALSE NEIGHBOUR: 'it returns false'. Refute it at one input. -/
def objectOpensWrong : ChangeSpec := { name := "objectOpens", fn := fun _ => fun
  | [d1, d2, d3] => { results := [.lit (.bool false)], args := [d1, d2, d3] }
  | _ => none }
def ObjectOpensWrongFalsely : Prop := objectOpensRow.holds Try.pinned (OpenSpec.ofChange objectOpensWrong)

/-- 'downpourlaw12.EquationsAdd': WHATEVER THE INPUT: true; the input reads as it did. -/
def equationsAddSpec : ChangeSpec := { name := "equationsAdd", fn := fun _ => fun
  | [d1, d2, d3, d4, d5, d6] => { results := [.lit (.bool true)], args := [d1, d2, d3, d4, d5, d6] }
  | _ => none }
def equationsAddRow : OpenClaim := { program := "ytaofanhdmfdlmaa", sum := "16bad9c033112aaa7bd84d0a927abfd5cf158dce42abbdcd2e0d5a1832d77cef", func := "downpour/downpourlaw12.EquationsAdd", spec := "equationsAdd", unfollowed := true, recurses := true, apart := false }
def EquationsAddSaid : Prop := equationsAddRow.holds Try.pinned (OpenSpec.ofChange equationsAddSpec)

/-- ITS FALSE NEIGHBOUR: 'it returns false'. Refute it at one input. -/
def equationsAddWrong : ChangeSpec := { name := "equationsAdd", fn := fun _ => fun
  | [d1, d2, d3, d4, d5, d6] => { results := [.lit (.bool false)], args := [d1, d2, d3, d4, d5, d6] }
  | _ => none }
def EquationsAddWrongFalsely : Prop := equationsAddRow.holds Try.pinned (OpenSpec.ofChange equationsAddWrong)

/-- 'downpourlaw06.RandomOnce': WHATEVER THE INPUT: true; the input reads as it did. -/
def randomOnceSpec : ChangeSpec := { name := "randomOnce", fn := fun _ => fun
  | [d1, d2, d3] => { results := [.lit (.bool true)], args := [d1, d2, d3] }
  | _ => none }
def randomOnceRow : OpenClaim := { program := "ytaofanhdmfdlmaa", sum := "16bad9c033112aaa7bd84d0a927abfd5cf158dce42abbdcd2e0d5a1832d77cef", func := "downpour/downpourlaw06.RandomOnce", spec := "randomOnce", unfollowed := true, recurses := true, named := ["math/bits.divideError", "math/bits.overflowError"], apart := false }
def RandomOnceSaid : Prop := randomOnceRow.holds Try.pinned (OpenSpec.ofChange randomOnceSpec)

/-- ITS FALSE NEIGHBOUR: 'it returns false'. Refute it at one input. -/
def randomOnceWrong : ChangeSpec := { name := "randomOnce", fn := fun _ => fun
  | [d1, d2, d3] => { results := [.lit (.bool false)], args := [d1, d2, d3] }
  | _ => none }
def RandomOnceWrongFalsely : Prop := randomOnceRow.holds Try.pinned (OpenSpec.ofChange randomOnceWrong)

/-- 'downpourlaw08.NeighboursTell': WHATEVER THE INPUT: true; the input reads as it did. -/
def neighboursTellSpec : ChangeSpec := { name := "neighboursTell", fn := fun _ => fun
  | [d1, d2] => { results := [.lit (.bool true)], args := [d1, d2] }
  | _ => none }
def neighboursTellRow : OpenClaim := { program := "ytaofanhdmfdlmaa", sum := "16bad9c033112aaa7bd84d0a927abfd5cf158dce42abbdcd2e0d5a1832d77cef", func := "downpour/downpourlaw08.NeighboursTell", spec := "neighboursTell", unfollowed := true, recurses := true, named := ["math/bits.divideError", "math/bits.overflowError"], apart := false }
def NeighboursTellSaid : Prop := neighboursTellRow.holds Try.pinned (OpenSpec.ofChange neighboursTellSpec)

/-- ITS FALSE NEIGHBOUR: 'it returns false'. Refute it at one input. -/
def neighboursTellWrong : ChangeSpec := { name := "neighboursTell", fn := fun _ => fun
  | [d1, d2] => { results := [.lit (.bool false)], args := [d1, d2] }
  | _ => none }
def NeighboursTellWrongFalsely : Prop := neighboursTellRow.holds Try.pinned (OpenSpec.ofChange neighboursTellWrong)

/-- 'downpourlaw08.NeighboursRows': WHATEVER THE INPUT: true; the input reads as it did. -/
def neighboursRowsSpec : ChangeSpec := { name := "neighboursRows", fn := fun _ => fun
  | [d1, d2] => { results := [.lit (.bool true)], args := [d1, d2] }
  | _ => none }
def neighboursRowsRow : OpenClaim := { program := "ytaofanhdmfdlmaa", sum := "16bad9c033112aaa7bd84d0a927abfd5cf158dce42abbdcd2e0d5a1832d77cef", func := "downpour/downpourlaw08.NeighboursRows", spec := "neighboursRows", unfollowed := true, recurses := true, named := ["math/bits.divideError", "math/bits.overflowError"], apart := false }
def NeighboursRowsSaid : Prop := neighboursRowsRow.holds Try.pinned (OpenSpec.ofChange neighboursRowsSpec)

/-- ITS FALSE NEIGHBOUR: 'it returns false'. Refute it at one input. -/
def neighboursRowsWrong : ChangeSpec := { name := "neighboursRows", fn := fun _ => fun
  | [d1, d2] => { results := [.lit (.bool false)], args := [d1, d2] }
  | _ => none }
def NeighboursRowsWrongFalsely : Prop := neighboursRowsRow.holds Try.pinned (OpenSpec.ofChange neighboursRowsWrong)

/-- 'downpourlaw13.ShardTells': WHATEVER THE INPUT: true; the input reads as it did. -/
def shardTellsSpec : ChangeSpec := { name := "shardTells", fn := fun _ => fun
  | [d1, d2, d3] => { results := [.lit (.bool true)], args := [d1, d2, d3] }
  | _ => none }
def shardTellsRow : OpenClaim := { program := "ytaofanhdmfdlmaa", sum := "16bad9c033112aaa7bd84d0a927abfd5cf158dce42abbdcd2e0d5a1832d77cef", func := "downpour/downpourlaw13.ShardTells", spec := "shardTells", inPlace := ["slices.overlaps[downpour/api.Symbol]"], unfollowed := true, recurses := true, apart := false }
def ShardTellsSaid : Prop := shardTellsRow.holds Try.pinned (OpenSpec.ofChange shardTellsSpec)

/-- ITS FALSE NEIGHBOUR: 'it returns false'. Refute it at one input. -/
def shardTellsWrong : ChangeSpec := { name := "shardTells", fn := fun _ => fun
  | [d1, d2, d3] => { results := [.lit (.bool false)], args := [d1, d2, d3] }
  | _ => none }
def ShardTellsWrongFalsely : Prop := shardTellsRow.holds Try.pinned (OpenSpec.ofChange shardTellsWrong)

/- THE SECOND FORM. 'bulk': how many values and letters a reading holds, each counted each time it is reached (what is shared counts as often as it is met; a slice's spare places count too). A statement '..UptoSaid' is the law's where the arguments, and the package variables that the reading takes, are together of bulk at most 1048576: NARROWER than '..Said'. Prove '..Said' where nothing that the law and all that it calls make is longer than what came in: it says more and counts as full. Else prove '..UptoSaid'. A law counts once. -/
mutual
def uptoBulk {H : Type} : DataW H → Nat
  | .lit (.string bytes) => bytes.length + 1
  | .lit _ => 1
  | .nil => 1
  | .ptr d => uptoBulk d + 1
  | .slice elems spare => uptoBulkAll elems + uptoBulkAll spare + 1
  | .agg parts => uptoBulkAll parts + 1
  | .iface _ d => uptoBulk d + 1
  | .map entries => uptoBulkEntries entries + 1
  | .held _ => 1
def uptoBulkAll {H : Type} : List (DataW H) → Nat
  | [] => 0
  | d :: r => uptoBulk d + uptoBulkAll r
def uptoBulkEntries {H : Type} : List (Lit × DataW H) → Nat
  | [] => 0
  | x :: r => uptoBulkEntry x + uptoBulkEntries r
def uptoBulkEntry {H : Type} : Lit × DataW H → Nat
  | (.string bytes, d) => bytes.length + uptoBulk d + 1
  | (_, d) => uptoBulk d + 1
 end
def uptoSmall : (H : Type) → List (DataW H) → Bool := fun _ ds => decide (uptoBulkAll ds ≤ 1048576)
def OpenSpec.upto (s : _root_.Go.ChangeSpec) : _root_.Go.OpenSpec := { _root_.Go.OpenSpec.ofChange s with cond := some uptoSmall }

/-- 'downpourlaw13.ShardAdds', WHERE WHAT IT READS IS OF BULK AT MOST 1048576: true; the input reads as it did. -/
def shardAddsUptoRow : OpenClaim := { program := "ytaofanhdmfdlmaa", sum := "16bad9c033112aaa7bd84d0a927abfd5cf158dce42abbdcd2e0d5a1832d77cef", func := "downpour/downpourlaw13.ShardAdds", spec := "shardAdds", inPlace := ["slices.overlaps[downpour/api.Symbol]"], unfollowed := true, recurses := true, apart := false, narrowed := true }
def ShardAddsUptoSaid : Prop := shardAddsUptoRow.holds Try.pinned (OpenSpec.upto shardAddsSpec)

/-- 'downpourlaw06.RandomOrders', WHERE WHAT IT READS IS OF BULK AT MOST 1048576: true; the input reads as it did. -/
def randomOrdersUptoRow : OpenClaim := { program := "ytaofanhdmfdlmaa", sum := "16bad9c033112aaa7bd84d0a927abfd5cf158dce42abbdcd2e0d5a1832d77cef", func := "downpour/downpourlaw06.RandomOrders", spec := "randomOrders", unfollowed := true, recurses := true, named := ["math/bits.divideError", "math/bits.overflowError"], apart := false, narrowed := true }
def RandomOrdersUptoSaid : Prop := randomOrdersUptoRow.holds Try.pinned (OpenSpec.upto randomOrdersSpec)

/-- 'downpourlaw06.RandomFew', WHERE WHAT IT READS IS OF BULK AT MOST 1048576: true; the input reads as it did. -/
def randomFewUptoRow : OpenClaim := { program := "ytaofanhdmfdlmaa", sum := "16bad9c033112aaa7bd84d0a927abfd5cf158dce42abbdcd2e0d5a1832d77cef", func := "downpour/downpourlaw06.RandomFew", spec := "randomFew", unfollowed := true, recurses := true, named := ["math/bits.divideError", "math/bits.overflowError"], apart := false, narrowed := true }
def RandomFewUptoSaid : Prop := randomFewUptoRow.holds Try.pinned (OpenSpec.upto randomFewSpec)

/-- 'downpourlaw18.ObjectOpens', WHERE WHAT IT READS IS OF BULK AT MOST 1048576: true; the input reads as it did. -/
def objectOpensUptoRow : OpenClaim := { program := "ytaofanhdmfdlmaa", sum := "16bad9c033112aaa7bd84d0a927abfd5cf158dce42abbdcd2e0d5a1832d77cef", func := "downpour/downpourlaw18.ObjectOpens", spec := "objectOpens", unfollowed := true, recurses := true, apart := false, narrowed := true }
def ObjectOpensUptoSaid : Prop := objectOpensUptoRow.holds Try.pinned (OpenSpec.upto objectOpensSpec)

/-- 'downpourlaw12.EquationsAdd', WHERE WHAT IT READS IS OF BULK AT MOST 1048576: true; the input reads as it did. -/
def equationsAddUptoRow : OpenClaim := { program := "ytaofanhdmfdlmaa", sum := "16bad9c033112aaa7bd84d0a927abfd5cf158dce42abbdcd2e0d5a1832d77cef", func := "downpour/downpourlaw12.EquationsAdd", spec := "equationsAdd", unfollowed := true, recurses := true, apart := false, narrowed := true }
def EquationsAddUptoSaid : Prop := equationsAddUptoRow.holds Try.pinned (OpenSpec.upto equationsAddSpec)

/-- 'downpourlaw06.RandomOnce', WHERE WHAT IT READS IS OF BULK AT MOST 1048576: true; the input reads as it did. -/
def randomOnceUptoRow : OpenClaim := { program := "ytaofanhdmfdlmaa", sum := "16bad9c033112aaa7bd84d0a927abfd5cf158dce42abbdcd2e0d5a1832d77cef", func := "downpour/downpourlaw06.RandomOnce", spec := "randomOnce", unfollowed := true, recurses := true, named := ["math/bits.divideError", "math/bits.overflowError"], apart := false, narrowed := true }
def RandomOnceUptoSaid : Prop := randomOnceUptoRow.holds Try.pinned (OpenSpec.upto randomOnceSpec)

/-- 'downpourlaw08.NeighboursTell', WHERE WHAT IT READS IS OF BULK AT MOST 1048576: true; the input reads as it did. -/
def neighboursTellUptoRow : OpenClaim := { program := "ytaofanhdmfdlmaa", sum := "16bad9c033112aaa7bd84d0a927abfd5cf158dce42abbdcd2e0d5a1832d77cef", func := "downpour/downpourlaw08.NeighboursTell", spec := "neighboursTell", unfollowed := true, recurses := true, named := ["math/bits.divideError", "math/bits.overflowError"], apart := false, narrowed := true }
def NeighboursTellUptoSaid : Prop := neighboursTellUptoRow.holds Try.pinned (OpenSpec.upto neighboursTellSpec)

/-- 'downpourlaw08.NeighboursRows', WHERE WHAT IT READS IS OF BULK AT MOST 1048576: true; the input reads as it did. -/
def neighboursRowsUptoRow : OpenClaim := { program := "ytaofanhdmfdlmaa", sum := "16bad9c033112aaa7bd84d0a927abfd5cf158dce42abbdcd2e0d5a1832d77cef", func := "downpour/downpourlaw08.NeighboursRows", spec := "neighboursRows", unfollowed := true, recurses := true, named := ["math/bits.divideError", "math/bits.overflowError"], apart := false, narrowed := true }
def NeighboursRowsUptoSaid : Prop := neighboursRowsUptoRow.holds Try.pinned (OpenSpec.upto neighboursRowsSpec)

/-- 'downpourlaw13.ShardTells', WHERE WHAT IT READS IS OF BULK AT MOST 1048576: true; the input reads as it did. -/
def shardTellsUptoRow : OpenClaim := { program := "ytaofanhdmfdlmaa", sum := "16bad9c033112aaa7bd84d0a927abfd5cf158dce42abbdcd2e0d5a1832d77cef", func := "downpour/downpourlaw13.ShardTells", spec := "shardTells", inPlace := ["slices.overlaps[downpour/api.Symbol]"], unfollowed := true, recurses := true, apart := false, narrowed := true }
def ShardTellsUptoSaid : Prop := shardTellsUptoRow.holds Try.pinned (OpenSpec.upto shardTellsSpec)

end Rows
end Go.Proofs.Ytaofanhdmfdlmaa
