/-
  No cell of these rows narrows 'for every input' (looked for: loops, veiled, ifaces, maps, wideKeys, modest, calm, conditions, laid).
  DERIVED. THE GIVEN ROWS OF THIS SEAT. 12 by the template 'for every input the law returns true; each argument reads behind the call as it read before'; 0 by the template 'total and deterministic' (their statements: YtbkobjdeijdpgaaTotals.lean).
  GIVEN WITH THE SEED: the statements are not yours to turn. If you find one false, say at which input.
  Laid BY PROGRAM, IN A SANDBOX (cutbox-rows.mjs): the forced cells as the released guide's own fill.sh prints them over the translation cfbf2ea916e322c8… (all of the seat's roots in one cut). By AI agents, Wed Nov 11 2026. No macro, syntax, notation, axiom, sorry.
-/
import Derived.Test.YtbkobjdeijdpgaaChecked
import GoSem.Claim
import GoSem.ClaimJoined
import GoSem.ClaimMapViews
import Derived.JoinedTies
import Derived.KernelRfl
namespace Go.Proofs.Ytbkobjdeijdpgaa
/- THE CELL 'sum', in the pinned program and in every row, IS THE sha256 OF THE DUMP (.gsa) THAT YtbkobjdeijdpgaaProg.lean LOADS. Nothing in Lean hashes anything: it is a label: what it is worth is what the hold of that sum in a sandbox is worth. -/
noncomputable def Try.pinned : Pinned := { name := "ytbkobjdeijdpgaa", sum := "cfbf2ea916e322c831bb329f2e260ead83674f6fc21caed8e2aacb9a0c3f1d82", checked := Try.checked }
namespace Rows
def none {H : Type} : Left H := { results := [], args := [] }

/-- 'coterielaw02.KeyAheads': WHATEVER THE INPUT: true; the input reads as it did. -/
def keyAheadsSpec : ChangeSpec := { name := "keyAheads", fn := fun _ => fun
  | [d1, d2] => { results := [.lit (.bool true)], args := [d1, d2] }
  | _ => none }
def keyAheadsRow : OpenClaim := { program := "ytbkobjdeijdpgaa", sum := "cfbf2ea916e322c831bb329f2e260ead83674f6fc21caed8e2aacb9a0c3f1d82", func := "coterie/coterielaw02.KeyAheads", spec := "keyAheads", plainKeys := false, apart := false }
def KeyAheadsSaid : Prop := keyAheadsRow.holds Try.pinned (OpenSpec.ofChange keyAheadsSpec)

/-- ITS FALSE NEIGHBOUR: 'it returns false'. Refute it at one input. -/
def keyAheadsWrong : ChangeSpec := { name := "keyAheads", fn := fun _ => fun
  | [d1, d2] => { results := [.lit (.bool false)], args := [d1, d2] }
  | _ => none }
def KeyAheadsWrongFalsely : Prop := keyAheadsRow.holds Try.pinned (OpenSpec.ofChange keyAheadsWrong)

/-- 'coterielaw02.KeyChains': WHATEVER THE INPUT: true; the input reads as it did. -/
def keyChainsSpec : ChangeSpec := { name := "keyChains", fn := fun _ => fun
  | [d1, d2, d3] => { results := [.lit (.bool true)], args := [d1, d2, d3] }
  | _ => none }
def keyChainsRow : OpenClaim := { program := "ytbkobjdeijdpgaa", sum := "cfbf2ea916e322c831bb329f2e260ead83674f6fc21caed8e2aacb9a0c3f1d82", func := "coterie/coterielaw02.KeyChains", spec := "keyChains", plainKeys := false, apart := false }
def KeyChainsSaid : Prop := keyChainsRow.holds Try.pinned (OpenSpec.ofChange keyChainsSpec)

/-- ITS FALSE NEIGHBOUR: 'it returns false'. Refute it at one input. -/
def keyChainsWrong : ChangeSpec := { name := "keyChains", fn := fun _ => fun
  | [d1, d2, d3] => { results := [.lit (.bool false)], args := [d1, d2, d3] }
  | _ => none }
def KeyChainsWrongFalsely : Prop := keyChainsRow.holds Try.pinned (OpenSpec.ofChange keyChainsWrong)

/-- 'coterielaw02.KeyOpens': WHATEVER THE INPUT: true; the input reads as it did. -/
def keyOpensSpec : ChangeSpec := { name := "keyOpens", fn := fun _ => fun
  | [d1, d2, d3] => { results := [.lit (.bool true)], args := [d1, d2, d3] }
  | _ => none }
def keyOpensRow : OpenClaim := { program := "ytbkobjdeijdpgaa", sum := "cfbf2ea916e322c831bb329f2e260ead83674f6fc21caed8e2aacb9a0c3f1d82", func := "coterie/coterielaw02.KeyOpens", spec := "keyOpens", plainKeys := false, apart := false }
def KeyOpensSaid : Prop := keyOpensRow.holds Try.pinned (OpenSpec.ofChange keyOpensSpec)

/-- ITS FALSE NEIGHBOUR: 'it returns false'. Refute it at one input. -/
def keyOpensWrong : ChangeSpec := { name := "keyOpens", fn := fun _ => fun
  | [d1, d2, d3] => { results := [.lit (.bool false)], args := [d1, d2, d3] }
  | _ => none }
def KeyOpensWrongFalsely : Prop := keyOpensRow.holds Try.pinned (OpenSpec.ofChange keyOpensWrong)

/-- 'coterielaw20.NetPlays': WHATEVER THE INPUT: true; the input reads as it did. -/
def netPlaysSpec : ChangeSpec := { name := "netPlays", fn := fun _ => fun
  | [d] => { results := [.lit (.bool true)], args := [d] }
  | _ => none }
def netPlaysRow : OpenClaim := { program := "ytbkobjdeijdpgaa", sum := "cfbf2ea916e322c831bb329f2e260ead83674f6fc21caed8e2aacb9a0c3f1d82", func := "coterie/coterielaw20.NetPlays", spec := "netPlays", plainKeys := false, apart := false }
def NetPlaysSaid : Prop := netPlaysRow.holds Try.pinned (OpenSpec.ofChange netPlaysSpec)

/-- ITS FALSE NEIGHBOUR: 'it returns false'. Refute it at one input. -/
def netPlaysWrong : ChangeSpec := { name := "netPlays", fn := fun _ => fun
  | [d] => { results := [.lit (.bool false)], args := [d] }
  | _ => none }
def NetPlaysWrongFalsely : Prop := netPlaysRow.holds Try.pinned (OpenSpec.ofChange netPlaysWrong)

/-- 'coterielaw20.NetGrows': WHATEVER THE INPUT: true; the input reads as it did. -/
def netGrowsSpec : ChangeSpec := { name := "netGrows", fn := fun _ => fun
  | [d] => { results := [.lit (.bool true)], args := [d] }
  | _ => none }
def netGrowsRow : OpenClaim := { program := "ytbkobjdeijdpgaa", sum := "cfbf2ea916e322c831bb329f2e260ead83674f6fc21caed8e2aacb9a0c3f1d82", func := "coterie/coterielaw20.NetGrows", spec := "netGrows", plainKeys := false, apart := false }
def NetGrowsSaid : Prop := netGrowsRow.holds Try.pinned (OpenSpec.ofChange netGrowsSpec)

/-- ITS FALSE NEIGHBOUR: 'it returns false'. Refute it at one input. -/
def netGrowsWrong : ChangeSpec := { name := "netGrows", fn := fun _ => fun
  | [d] => { results := [.lit (.bool false)], args := [d] }
  | _ => none }
def NetGrowsWrongFalsely : Prop := netGrowsRow.holds Try.pinned (OpenSpec.ofChange netGrowsWrong)

/-- 'coterielaw20.NetApart': WHATEVER THE INPUT: true; the input reads as it did. -/
def netApartSpec : ChangeSpec := { name := "netApart", fn := fun _ => fun
  | [d] => { results := [.lit (.bool true)], args := [d] }
  | _ => none }
def netApartRow : OpenClaim := { program := "ytbkobjdeijdpgaa", sum := "cfbf2ea916e322c831bb329f2e260ead83674f6fc21caed8e2aacb9a0c3f1d82", func := "coterie/coterielaw20.NetApart", spec := "netApart", plainKeys := false, apart := false }
def NetApartSaid : Prop := netApartRow.holds Try.pinned (OpenSpec.ofChange netApartSpec)

/-- ITS FALSE NEIGHBOUR: 'it returns false'. Refute it at one input. -/
def netApartWrong : ChangeSpec := { name := "netApart", fn := fun _ => fun
  | [d] => { results := [.lit (.bool false)], args := [d] }
  | _ => none }
def NetApartWrongFalsely : Prop := netApartRow.holds Try.pinned (OpenSpec.ofChange netApartWrong)

/-- 'coterielaw02.KeyPacks': WHATEVER THE INPUT: true; the input reads as it did. -/
def keyPacksSpec : ChangeSpec := { name := "keyPacks", fn := fun _ => fun
  | [d1, d2] => { results := [.lit (.bool true)], args := [d1, d2] }
  | _ => none }
def keyPacksRow : OpenClaim := { program := "ytbkobjdeijdpgaa", sum := "cfbf2ea916e322c831bb329f2e260ead83674f6fc21caed8e2aacb9a0c3f1d82", func := "coterie/coterielaw02.KeyPacks", spec := "keyPacks", plainKeys := false, apart := false }
def KeyPacksSaid : Prop := keyPacksRow.holds Try.pinned (OpenSpec.ofChange keyPacksSpec)

/-- ITS FALSE NEIGHBOUR: 'it returns false'. Refute it at one input. -/
def keyPacksWrong : ChangeSpec := { name := "keyPacks", fn := fun _ => fun
  | [d1, d2] => { results := [.lit (.bool false)], args := [d1, d2] }
  | _ => none }
def KeyPacksWrongFalsely : Prop := keyPacksRow.holds Try.pinned (OpenSpec.ofChange keyPacksWrong)

/-- 'coterielaw02.KeyGives': WHATEVER THE INPUT: true; the input reads as it did. -/
def keyGivesSpec : ChangeSpec := { name := "keyGives", fn := fun _ => fun
  | [d1, d2] => { results := [.lit (.bool true)], args := [d1, d2] }
  | _ => none }
def keyGivesRow : OpenClaim := { program := "ytbkobjdeijdpgaa", sum := "cfbf2ea916e322c831bb329f2e260ead83674f6fc21caed8e2aacb9a0c3f1d82", func := "coterie/coterielaw02.KeyGives", spec := "keyGives", plainKeys := false, apart := false }
def KeyGivesSaid : Prop := keyGivesRow.holds Try.pinned (OpenSpec.ofChange keyGivesSpec)

/-- ITS FALSE NEIGHBOUR: 'it returns false'. Refute it at one input. -/
def keyGivesWrong : ChangeSpec := { name := "keyGives", fn := fun _ => fun
  | [d1, d2] => { results := [.lit (.bool false)], args := [d1, d2] }
  | _ => none }
def KeyGivesWrongFalsely : Prop := keyGivesRow.holds Try.pinned (OpenSpec.ofChange keyGivesWrong)

/-- 'coterielaw02.KeyOrder': WHATEVER THE INPUT: true; the input reads as it did. -/
def keyOrderSpec : ChangeSpec := { name := "keyOrder", fn := fun _ => fun
  | [d1, d2, d3] => { results := [.lit (.bool true)], args := [d1, d2, d3] }
  | _ => none }
def keyOrderRow : OpenClaim := { program := "ytbkobjdeijdpgaa", sum := "cfbf2ea916e322c831bb329f2e260ead83674f6fc21caed8e2aacb9a0c3f1d82", func := "coterie/coterielaw02.KeyOrder", spec := "keyOrder", plainKeys := false, apart := false }
def KeyOrderSaid : Prop := keyOrderRow.holds Try.pinned (OpenSpec.ofChange keyOrderSpec)

/-- ITS FALSE NEIGHBOUR: 'it returns false'. Refute it at one input. -/
def keyOrderWrong : ChangeSpec := { name := "keyOrder", fn := fun _ => fun
  | [d1, d2, d3] => { results := [.lit (.bool false)], args := [d1, d2, d3] }
  | _ => none }
def KeyOrderWrongFalsely : Prop := keyOrderRow.holds Try.pinned (OpenSpec.ofChange keyOrderWrong)

/-- 'coterielaw02.KeyWords': WHATEVER THE INPUT: true; the input reads as it did. -/
def keyWordsSpec : ChangeSpec := { name := "keyWords", fn := fun _ => fun
  | [d1, d2] => { results := [.lit (.bool true)], args := [d1, d2] }
  | _ => none }
def keyWordsRow : OpenClaim := { program := "ytbkobjdeijdpgaa", sum := "cfbf2ea916e322c831bb329f2e260ead83674f6fc21caed8e2aacb9a0c3f1d82", func := "coterie/coterielaw02.KeyWords", spec := "keyWords", plainKeys := false, apart := false }
def KeyWordsSaid : Prop := keyWordsRow.holds Try.pinned (OpenSpec.ofChange keyWordsSpec)

/-- ITS FALSE NEIGHBOUR: 'it returns false'. Refute it at one input. -/
def keyWordsWrong : ChangeSpec := { name := "keyWords", fn := fun _ => fun
  | [d1, d2] => { results := [.lit (.bool false)], args := [d1, d2] }
  | _ => none }
def KeyWordsWrongFalsely : Prop := keyWordsRow.holds Try.pinned (OpenSpec.ofChange keyWordsWrong)

/-- 'coterielaw19.KnowNothing': WHATEVER THE INPUT: true; the input reads as it did. -/
def knowNothingSpec : ChangeSpec := { name := "knowNothing", fn := fun _ => fun
  | [d1, d2] => { results := [.lit (.bool true)], args := [d1, d2] }
  | _ => none }
def knowNothingRow : OpenClaim := { program := "ytbkobjdeijdpgaa", sum := "cfbf2ea916e322c831bb329f2e260ead83674f6fc21caed8e2aacb9a0c3f1d82", func := "coterie/coterielaw19.KnowNothing", spec := "knowNothing", inPlace := ["maps.clone"], unfollowed := true, recurses := true, plainKeys := false, apart := false }
def KnowNothingSaid : Prop := knowNothingRow.holds Try.pinned (OpenSpec.ofChange knowNothingSpec)

/-- ITS FALSE NEIGHBOUR: 'it returns false'. Refute it at one input. -/
def knowNothingWrong : ChangeSpec := { name := "knowNothing", fn := fun _ => fun
  | [d1, d2] => { results := [.lit (.bool false)], args := [d1, d2] }
  | _ => none }
def KnowNothingWrongFalsely : Prop := knowNothingRow.holds Try.pinned (OpenSpec.ofChange knowNothingWrong)

/-- 'coterielaw19.KnowGrows': WHATEVER THE INPUT: true; the input reads as it did. -/
def knowGrowsSpec : ChangeSpec := { name := "knowGrows", fn := fun _ => fun
  | [d] => { results := [.lit (.bool true)], args := [d] }
  | _ => none }
def knowGrowsRow : OpenClaim := { program := "ytbkobjdeijdpgaa", sum := "cfbf2ea916e322c831bb329f2e260ead83674f6fc21caed8e2aacb9a0c3f1d82", func := "coterie/coterielaw19.KnowGrows", spec := "knowGrows", inPlace := ["maps.clone"], unfollowed := true, recurses := true, plainKeys := false, apart := false }
def KnowGrowsSaid : Prop := knowGrowsRow.holds Try.pinned (OpenSpec.ofChange knowGrowsSpec)

/-- ITS FALSE NEIGHBOUR: 'it returns false'. Refute it at one input. -/
def knowGrowsWrong : ChangeSpec := { name := "knowGrows", fn := fun _ => fun
  | [d] => { results := [.lit (.bool false)], args := [d] }
  | _ => none }
def KnowGrowsWrongFalsely : Prop := knowGrowsRow.holds Try.pinned (OpenSpec.ofChange knowGrowsWrong)

/- THE SECOND FORM. 'bulk': how many values and letters a reading holds, each counted each time it is reached (what is shared counts as often as it is met; a slice's spare places count too). A statement '..UptoSaid' is the law's where the arguments, and the package variables that the reading takes, are together of bulk at most 1048576: NARROWER than '..Said'. Prove '..Said' where nothing that the law and all that it calls make is longer than what came in: it says more and counts as full. Else prove '..UptoSaid'. A law counts once. -/
mutual
def uptoBulk {H : Type} : DataW H → Nat
  | .lit (.string bytes) => bytes.length + 1
  | .lit _ => 1
  | .nil => 1
  | .ptr d => uptoBulk d + 1
  | .slice elems spare => uptoBulkAll elems + uptoBulkAll spare + 1
  | .agg parts => uptoBulkAll parts + 1
  | .iface _ d => uptoBulk d + 1
  | .map entries => uptoBulkEntries entries + 1
  | .held _ => 1
def uptoBulkAll {H : Type} : List (DataW H) → Nat
  | [] => 0
  | d :: r => uptoBulk d + uptoBulkAll r
def uptoBulkEntries {H : Type} : List (Lit × DataW H) → Nat
  | [] => 0
  | x :: r => uptoBulkEntry x + uptoBulkEntries r
def uptoBulkEntry {H : Type} : Lit × DataW H → Nat
  | (.string bytes, d) => bytes.length + uptoBulk d + 1
  | (_, d) => uptoBulk d + 1
 end
def uptoSmall : (H : Type) → List (DataW H) → Bool := fun _ ds => decide (uptoBulkAll ds ≤ 1048576)
def OpenSpec.upto (s : _root_.Go.ChangeSpec) : _root_.Go.OpenSpec := { _root_.Go.OpenSpec.ofChange s with cond := some uptoSmall }

/-- 'coterielaw02.KeyAheads', WHERE WHAT IT READS IS OF BULK AT MOST 1048576: true; the input reads as it did. -/
def keyAheadsUptoRow : OpenClaim := { program := "ytbkobjdeijdpgaa", sum := "cfbf2ea916e322c831bb329f2e260ead83674f6fc21caed8e2aacb9a0c3f1d82", func := "coterie/coterielaw02.KeyAheads", spec := "keyAheads", plainKeys := false, apart := false, narrowed := true }
def KeyAheadsUptoSaid : Prop := keyAheadsUptoRow.holds Try.pinned (OpenSpec.upto keyAheadsSpec)

/-- 'coterielaw02.KeyChains', WHERE WHAT IT READS IS OF BULK AT MOST 1048576: true; the input reads as it did. -/
def keyChainsUptoRow : OpenClaim := { program := "ytbkobjdeijdpgaa", sum := "cfbf2ea916e322c831bb329f2e260ead83674f6fc21caed8e2aacb9a0c3f1d82", func := "coterie/coterielaw02.KeyChains", spec := "keyChains", plainKeys := false, apart := false, narrowed := true }
def KeyChainsUptoSaid : Prop := keyChainsUptoRow.holds Try.pinned (OpenSpec.upto keyChainsSpec)

/-- 'coterielaw02.KeyOpens', WHERE WHAT IT READS IS OF BULK AT MOST 1048576: true; the input reads as it did. -/
def keyOpensUptoRow : OpenClaim := { program := "ytbkobjdeijdpgaa", sum := "cfbf2ea916e322c831bb329f2e260ead83674f6fc21caed8e2aacb9a0c3f1d82", func := "coterie/coterielaw02.KeyOpens", spec := "keyOpens", plainKeys := false, apart := false, narrowed := true }
def KeyOpensUptoSaid : Prop := keyOpensUptoRow.holds Try.pinned (OpenSpec.upto keyOpensSpec)

/-- 'coterielaw20.NetPlays', WHERE WHAT IT READS IS OF BULK AT MOST 1048576: true; the input reads as it did. -/
def netPlaysUptoRow : OpenClaim := { program := "ytbkobjdeijdpgaa", sum := "cfbf2ea916e322c831bb329f2e260ead83674f6fc21caed8e2aacb9a0c3f1d82", func := "coterie/coterielaw20.NetPlays", spec := "netPlays", plainKeys := false, apart := false, narrowed := true }
def NetPlaysUptoSaid : Prop := netPlaysUptoRow.holds Try.pinned (OpenSpec.upto netPlaysSpec)

/-- 'coterielaw20.NetGrows', WHERE WHAT IT READS IS OF BULK AT MOST 1048576: true; the input reads as it did. -/
def netGrowsUptoRow : OpenClaim := { program := "ytbkobjdeijdpgaa", sum := "cfbf2ea916e322c831bb329f2e260ead83674f6fc21caed8e2aacb9a0c3f1d82", func := "coterie/coterielaw20.NetGrows", spec := "netGrows", plainKeys := false, apart := false, narrowed := true }
def NetGrowsUptoSaid : Prop := netGrowsUptoRow.holds Try.pinned (OpenSpec.upto netGrowsSpec)

/-- 'coterielaw20.NetApart', WHERE WHAT IT READS IS OF BULK AT MOST 1048576: true; the input reads as it did. -/
def netApartUptoRow : OpenClaim := { program := "ytbkobjdeijdpgaa", sum := "cfbf2ea916e322c831bb329f2e260ead83674f6fc21caed8e2aacb9a0c3f1d82", func := "coterie/coterielaw20.NetApart", spec := "netApart", plainKeys := false, apart := false, narrowed := true }
def NetApartUptoSaid : Prop := netApartUptoRow.holds Try.pinned (OpenSpec.upto netApartSpec)

/-- 'coterielaw02.KeyPacks', WHERE WHAT IT READS IS OF BULK AT MOST 1048576: true; the input reads as it did. -/
def keyPacksUptoRow : OpenClaim := { program := "ytbkobjdeijdpgaa", sum := "cfbf2ea916e322c831bb329f2e260ead83674f6fc21caed8e2aacb9a0c3f1d82", func := "coterie/coterielaw02.KeyPacks", spec := "keyPacks", plainKeys := false, apart := false, narrowed := true }
def KeyPacksUptoSaid : Prop := keyPacksUptoRow.holds Try.pinned (OpenSpec.upto keyPacksSpec)

/-- 'coterielaw02.KeyGives', WHERE WHAT IT READS IS OF BULK AT MOST 1048576: true; the input reads as it did. -/
def keyGivesUptoRow : OpenClaim := { program := "ytbkobjdeijdpgaa", sum := "cfbf2ea916e322c831bb329f2e260ead83674f6fc21caed8e2aacb9a0c3f1d82", func := "coterie/coterielaw02.KeyGives", spec := "keyGives", plainKeys := false, apart := false, narrowed := true }
def KeyGivesUptoSaid : Prop := keyGivesUptoRow.holds Try.pinned (OpenSpec.upto keyGivesSpec)

/-- 'coterielaw02.KeyOrder', WHERE WHAT IT READS IS OF BULK AT MOST 1048576: true; the input reads as it did. -/
def keyOrderUptoRow : OpenClaim := { program := "ytbkobjdeijdpgaa", sum := "cfbf2ea916e322c831bb329f2e260ead83674f6fc21caed8e2aacb9a0c3f1d82", func := "coterie/coterielaw02.KeyOrder", spec := "keyOrder", plainKeys := false, apart := false, narrowed := true }
def KeyOrderUptoSaid : Prop := keyOrderUptoRow.holds Try.pinned (OpenSpec.upto keyOrderSpec)

/-- 'coterielaw02.KeyWords', WHERE WHAT IT READS IS OF BULK AT MOST 1048576: true; the input reads as it did. -/
def keyWordsUptoRow : OpenClaim := { program := "ytbkobjdeijdpgaa", sum := "cfbf2ea916e322c831bb329f2e260ead83674f6fc21caed8e2aacb9a0c3f1d82", func := "coterie/coterielaw02.KeyWords", spec := "keyWords", plainKeys := false, apart := false, narrowed := true }
def KeyWordsUptoSaid : Prop := keyWordsUptoRow.holds Try.pinned (OpenSpec.upto keyWordsSpec)

/-- 'coterielaw19.KnowNothing', WHERE WHAT IT READS IS OF BULK AT MOST 1048576: true; the input reads as it did. -/
def knowNothingUptoRow : OpenClaim := { program := "ytbkobjdeijdpgaa", sum := "cfbf2ea916e322c831bb329f2e260ead83674f6fc21caed8e2aacb9a0c3f1d82", func := "coterie/coterielaw19.KnowNothing", spec := "knowNothing", inPlace := ["maps.clone"], unfollowed := true, recurses := true, plainKeys := false, apart := false, narrowed := true }
def KnowNothingUptoSaid : Prop := knowNothingUptoRow.holds Try.pinned (OpenSpec.upto knowNothingSpec)

/-- 'coterielaw19.KnowGrows', WHERE WHAT IT READS IS OF BULK AT MOST 1048576: true; the input reads as it did. -/
def knowGrowsUptoRow : OpenClaim := { program := "ytbkobjdeijdpgaa", sum := "cfbf2ea916e322c831bb329f2e260ead83674f6fc21caed8e2aacb9a0c3f1d82", func := "coterie/coterielaw19.KnowGrows", spec := "knowGrows", inPlace := ["maps.clone"], unfollowed := true, recurses := true, plainKeys := false, apart := false, narrowed := true }
def KnowGrowsUptoSaid : Prop := knowGrowsUptoRow.holds Try.pinned (OpenSpec.upto knowGrowsSpec)

end Rows
end Go.Proofs.Ytbkobjdeijdpgaa
