/-
  No cell of these rows narrows 'for every input' (looked for: loops, veiled, ifaces, maps, wideKeys, modest, calm, conditions, laid).
  DERIVED. THE GIVEN ROWS OF THIS SEAT. 3 by the template 'for every input the law returns true; each argument reads behind the call as it read before'; 0 by the template 'total and deterministic' (their statements: YteeopgpgbdhmhaaGreatTotals.lean).
  GIVEN WITH THE SEED: the statements are not yours to turn. If you find one false, say at which input.
  Laid BY PROGRAM, IN A SANDBOX (cutbox-rows.mjs): the forced cells as the released guide's own fill.sh prints them over the translation c0af936682c26799… (all of the seat's roots in one cut). By AI agents, Wed Nov 11 2026. No macro, syntax, notation, axiom, sorry.
-/
import Derived.Test.YteeopgpgbdhmhaaGreatChecked
import GoSem.Claim
import GoSem.ClaimJoined
import GoSem.ClaimMapViews
import Derived.JoinedTies
import Derived.KernelRfl
namespace Go.Proofs.YteeopgpgbdhmhaaGreat
/- THE CELL 'sum', in the pinned program and in every row, IS THE sha256 OF THE DUMP (.gsa) THAT YteeopgpgbdhmhaaGreatProg.lean LOADS. Nothing in Lean hashes anything: it is a label: what it is worth is what the hold of that sum in a sandbox is worth. -/
noncomputable def Tryz.pinned : Pinned := { name := "yteeopgpgbdhmhaagreat", sum := "c0af936682c26799e025d78bc152f5c2af7ef0c5f9dc5c32722fac93094490b2", checked := Tryz.checked }
namespace Rows
def none {H : Type} : Left H := { results := [], args := [] }

/-- 'forkledgerlaw9.EvidenceFinds': WHATEVER THE INPUT: true; the input reads as it did. -/
def evidenceFindsSpec : ChangeSpec := { name := "evidenceFinds", fn := fun _ => fun
  | [d1, d2] => { results := [.lit (.bool true)], args := [d1, d2] }
  | _ => none }
def evidenceFindsRow : OpenClaim := { program := "yteeopgpgbdhmhaagreat", sum := "c0af936682c26799e025d78bc152f5c2af7ef0c5f9dc5c32722fac93094490b2", func := "forkledger/forkledgerlaw9.EvidenceFinds", spec := "evidenceFinds", inPlace := ["internal/bytealg.Compare", "internal/reflectlite.ValueOf", "internal/reflectlite.Swapper", "(internal/reflectlite.Value).Len"], unfollowed := true, recurses := true, plainKeys := false, apart := false }
def EvidenceFindsSaid : Prop := evidenceFindsRow.holds Tryz.pinned (OpenSpec.ofChange evidenceFindsSpec)

/-- ITS FALSE NEIGHBOUR: 'it returns false'. Refute it at one input. -/
def evidenceFindsWrong : ChangeSpec := { name := "evidenceFinds", fn := fun _ => fun
  | [d1, d2] => { results := [.lit (.bool false)], args := [d1, d2] }
  | _ => none }
def EvidenceFindsWrongFalsely : Prop := evidenceFindsRow.holds Tryz.pinned (OpenSpec.ofChange evidenceFindsWrong)

/-- 'forkledgerlaw8.SignedVerifies': WHATEVER THE INPUT: true; the input reads as it did. -/
def signedVerifiesSpec : ChangeSpec := { name := "signedVerifies", fn := fun _ => fun
  | [d1, d2, d3, d4, d5, d6, d7, d8] => { results := [.lit (.bool true)], args := [d1, d2, d3, d4, d5, d6, d7, d8] }
  | _ => none }
def signedVerifiesRow : OpenClaim := { program := "yteeopgpgbdhmhaagreat", sum := "c0af936682c26799e025d78bc152f5c2af7ef0c5f9dc5c32722fac93094490b2", func := "forkledger/forkledgerlaw8.SignedVerifies", spec := "signedVerifies", inPlace := ["internal/bytealg.Compare", "internal/reflectlite.ValueOf", "internal/reflectlite.Swapper", "(internal/reflectlite.Value).Len"], unfollowed := true, recurses := true, plainKeys := false, apart := false }
def SignedVerifiesSaid : Prop := signedVerifiesRow.holds Tryz.pinned (OpenSpec.ofChange signedVerifiesSpec)

/-- ITS FALSE NEIGHBOUR: 'it returns false'. Refute it at one input. -/
def signedVerifiesWrong : ChangeSpec := { name := "signedVerifies", fn := fun _ => fun
  | [d1, d2, d3, d4, d5, d6, d7, d8] => { results := [.lit (.bool false)], args := [d1, d2, d3, d4, d5, d6, d7, d8] }
  | _ => none }
def SignedVerifiesWrongFalsely : Prop := signedVerifiesRow.holds Tryz.pinned (OpenSpec.ofChange signedVerifiesWrong)

/-- 'forkledgerlaw9.EvidenceValid': WHATEVER THE INPUT: true; the input reads as it did. -/
def evidenceValidSpec : ChangeSpec := { name := "evidenceValid", fn := fun _ => fun
  | [d1, d2, d3] => { results := [.lit (.bool true)], args := [d1, d2, d3] }
  | _ => none }
def evidenceValidRow : OpenClaim := { program := "yteeopgpgbdhmhaagreat", sum := "c0af936682c26799e025d78bc152f5c2af7ef0c5f9dc5c32722fac93094490b2", func := "forkledger/forkledgerlaw9.EvidenceValid", spec := "evidenceValid", inPlace := ["internal/bytealg.Compare", "internal/reflectlite.ValueOf", "internal/reflectlite.Swapper", "(internal/reflectlite.Value).Len"], unfollowed := true, recurses := true, plainKeys := false, apart := false }
def EvidenceValidSaid : Prop := evidenceValidRow.holds Tryz.pinned (OpenSpec.ofChange evidenceValidSpec)

/-- ITS FALSE NEIGHBOUR: 'it returns false'. Refute it at one input. -/
def evidenceValidWrong : ChangeSpec := { name := "evidenceValid", fn := fun _ => fun
  | [d1, d2, d3] => { results := [.lit (.bool false)], args := [d1, d2, d3] }
  | _ => none }
def EvidenceValidWrongFalsely : Prop := evidenceValidRow.holds Tryz.pinned (OpenSpec.ofChange evidenceValidWrong)

/- THE SECOND FORM. 'bulk': how many values and letters a reading holds, each counted each time it is reached (what is shared counts as often as it is met; a slice's spare places count too). A statement '..UptoSaid' is the law's where the arguments, and the package variables that the reading takes, are together of bulk at most 1048576: NARROWER than '..Said'. Prove '..Said' where nothing that the law and all that it calls make is longer than what came in: it says more and counts as full. Else prove '..UptoSaid'. A law counts once. -/
mutual
def uptoBulk {H : Type} : DataW H → Nat
  | .lit (.string bytes) => bytes.length + 1
  | .lit _ => 1
  | .nil => 1
  | .ptr d => uptoBulk d + 1
  | .slice elems spare => uptoBulkAll elems + uptoBulkAll spare + 1
  | .agg parts => uptoBulkAll parts + 1
  | .iface _ d => uptoBulk d + 1
  | .map entries => uptoBulkEntries entries + 1
  | .held _ => 1
def uptoBulkAll {H : Type} : List (DataW H) → Nat
  | [] => 0
  | d :: r => uptoBulk d + uptoBulkAll r
def uptoBulkEntries {H : Type} : List (Lit × DataW H) → Nat
  | [] => 0
  | x :: r => uptoBulkEntry x + uptoBulkEntries r
def uptoBulkEntry {H : Type} : Lit × DataW H → Nat
  | (.string bytes, d) => bytes.length + uptoBulk d + 1
  | (_, d) => uptoBulk d + 1
 end
def uptoSmall : (H : Type) → List (DataW H) → Bool := fun _ ds => decide (uptoBulkAll ds ≤ 1048576)
def OpenSpec.upto (s : _root_.Go.ChangeSpec) : _root_.Go.OpenSpec := { _root_.Go.OpenSpec.ofChange s with cond := some uptoSmall }

/-- 'forkledgerlaw9.EvidenceFinds', WHERE WHAT IT READS IS OF BULK AT MOST 1048576: true; the input reads as it did. -/
def evidenceFindsUptoRow : OpenClaim := { program := "yteeopgpgbdhmhaagreat", sum := "c0af936682c26799e025d78bc152f5c2af7ef0c5f9dc5c32722fac93094490b2", func := "forkledger/forkledgerlaw9.EvidenceFinds", spec := "evidenceFinds", inPlace := ["internal/bytealg.Compare", "internal/reflectlite.ValueOf", "internal/reflectlite.Swapper", "(internal/reflectlite.Value).Len"], unfollowed := true, recurses := true, plainKeys := false, apart := false, narrowed := true }
def EvidenceFindsUptoSaid : Prop := evidenceFindsUptoRow.holds Tryz.pinned (OpenSpec.upto evidenceFindsSpec)

/-- 'forkledgerlaw8.SignedVerifies', WHERE WHAT IT READS IS OF BULK AT MOST 1048576: true; the input reads as it did. -/
def signedVerifiesUptoRow : OpenClaim := { program := "yteeopgpgbdhmhaagreat", sum := "c0af936682c26799e025d78bc152f5c2af7ef0c5f9dc5c32722fac93094490b2", func := "forkledger/forkledgerlaw8.SignedVerifies", spec := "signedVerifies", inPlace := ["internal/bytealg.Compare", "internal/reflectlite.ValueOf", "internal/reflectlite.Swapper", "(internal/reflectlite.Value).Len"], unfollowed := true, recurses := true, plainKeys := false, apart := false, narrowed := true }
def SignedVerifiesUptoSaid : Prop := signedVerifiesUptoRow.holds Tryz.pinned (OpenSpec.upto signedVerifiesSpec)

/-- 'forkledgerlaw9.EvidenceValid', WHERE WHAT IT READS IS OF BULK AT MOST 1048576: true; the input reads as it did. -/
def evidenceValidUptoRow : OpenClaim := { program := "yteeopgpgbdhmhaagreat", sum := "c0af936682c26799e025d78bc152f5c2af7ef0c5f9dc5c32722fac93094490b2", func := "forkledger/forkledgerlaw9.EvidenceValid", spec := "evidenceValid", inPlace := ["internal/bytealg.Compare", "internal/reflectlite.ValueOf", "internal/reflectlite.Swapper", "(internal/reflectlite.Value).Len"], unfollowed := true, recurses := true, plainKeys := false, apart := false, narrowed := true }
def EvidenceValidUptoSaid : Prop := evidenceValidUptoRow.holds Tryz.pinned (OpenSpec.upto evidenceValidSpec)

end Rows
end Go.Proofs.YteeopgpgbdhmhaaGreat
