/-
  No cell of these rows narrows 'for every input' (looked for: loops, veiled, ifaces, maps, wideKeys, modest, calm, conditions, laid).
  DERIVED. THE GIVEN ROWS OF THIS SEAT. 5 by the template 'for every input the law returns true; each argument reads behind the call as it read before'; 0 by the template 'total and deterministic' (their statements: YtikbgoppmailjaaTotals.lean).
  GIVEN WITH THE SEED: the statements are not yours to turn. If you find one false, say at which input.
  Laid BY PROGRAM, IN A SANDBOX (cutbox-rows.mjs): the forced cells as the released guide's own fill.sh prints them over the translation 93f8043ff455b20c… (all of the seat's roots in one cut). By AI agents, Wed Nov 11 2026. No macro, syntax, notation, axiom, sorry.
-/
import Derived.Test.YtikbgoppmailjaaChecked
import GoSem.Claim
import GoSem.ClaimJoined
import GoSem.ClaimMapViews
import Derived.JoinedTies
import Derived.KernelRfl
namespace Go.Proofs.Ytikbgoppmailjaa
/- THE CELL 'sum', in the pinned program and in every row, IS THE sha256 OF THE DUMP (.gsa) THAT YtikbgoppmailjaaProg.lean LOADS. Nothing in Lean hashes anything: it is a label: what it is worth is what the hold of that sum in a sandbox is worth. -/
noncomputable def Try.pinned : Pinned := { name := "ytikbgoppmailjaa", sum := "93f8043ff455b20c84de9a63cb10e21be63b8089391de1c0374a16a5964fad01", checked := Try.checked }
namespace Rows
def none {H : Type} : Left H := { results := [], args := [] }

/-- 'remontoirlaw10.LeaseNumbers': WHATEVER THE INPUT: true; the input reads as it did. -/
def leaseNumbersSpec : ChangeSpec := { name := "leaseNumbers", fn := fun _ => fun
  | [d1, d2] => { results := [.lit (.bool true)], args := [d1, d2] }
  | _ => none }
def leaseNumbersRow : OpenClaim := { program := "ytikbgoppmailjaa", sum := "93f8043ff455b20c84de9a63cb10e21be63b8089391de1c0374a16a5964fad01", func := "remontoir/remontoirlaw10.LeaseNumbers", spec := "leaseNumbers", unfollowed := true, recurses := true, apart := false }
def LeaseNumbersSaid : Prop := leaseNumbersRow.holds Try.pinned (OpenSpec.ofChange leaseNumbersSpec)

/-- ITS FALSE NEIGHBOUR: 'it returns false'. Refute it at one input. -/
def leaseNumbersWrong : ChangeSpec := { name := "leaseNumbers", fn := fun _ => fun
  | [d1, d2] => { results := [.lit (.bool false)], args := [d1, d2] }
  | _ => none }
def LeaseNumbersWrongFalsely : Prop := leaseNumbersRow.holds Try.pinned (OpenSpec.ofChange leaseNumbersWrong)

/-- 'remontoirlaw10.LeaseOver': WHATEVER THE INPUT: true; the input reads as it did. -/
def leaseOverSpec : ChangeSpec := { name := "leaseOver", fn := fun _ => fun
  | [d1, d2] => { results := [.lit (.bool true)], args := [d1, d2] }
  | _ => none }
def leaseOverRow : OpenClaim := { program := "ytikbgoppmailjaa", sum := "93f8043ff455b20c84de9a63cb10e21be63b8089391de1c0374a16a5964fad01", func := "remontoir/remontoirlaw10.LeaseOver", spec := "leaseOver", unfollowed := true, recurses := true, apart := false }
def LeaseOverSaid : Prop := leaseOverRow.holds Try.pinned (OpenSpec.ofChange leaseOverSpec)

/-- ITS FALSE NEIGHBOUR: 'it returns false'. Refute it at one input. -/
def leaseOverWrong : ChangeSpec := { name := "leaseOver", fn := fun _ => fun
  | [d1, d2] => { results := [.lit (.bool false)], args := [d1, d2] }
  | _ => none }
def LeaseOverWrongFalsely : Prop := leaseOverRow.holds Try.pinned (OpenSpec.ofChange leaseOverWrong)

/-- 'remontoirlaw10.LeaseOnce': WHATEVER THE INPUT: true; the input reads as it did. -/
def leaseOnceSpec : ChangeSpec := { name := "leaseOnce", fn := fun _ => fun
  | [d1, d2] => { results := [.lit (.bool true)], args := [d1, d2] }
  | _ => none }
def leaseOnceRow : OpenClaim := { program := "ytikbgoppmailjaa", sum := "93f8043ff455b20c84de9a63cb10e21be63b8089391de1c0374a16a5964fad01", func := "remontoir/remontoirlaw10.LeaseOnce", spec := "leaseOnce", unfollowed := true, recurses := true, apart := false }
def LeaseOnceSaid : Prop := leaseOnceRow.holds Try.pinned (OpenSpec.ofChange leaseOnceSpec)

/-- ITS FALSE NEIGHBOUR: 'it returns false'. Refute it at one input. -/
def leaseOnceWrong : ChangeSpec := { name := "leaseOnce", fn := fun _ => fun
  | [d1, d2] => { results := [.lit (.bool false)], args := [d1, d2] }
  | _ => none }
def LeaseOnceWrongFalsely : Prop := leaseOnceRow.holds Try.pinned (OpenSpec.ofChange leaseOnceWrong)

/-- 'remontoirlaw10.LeasePlays': WHATEVER THE INPUT: true; the input reads as it did. -/
def leasePlaysSpec : ChangeSpec := { name := "leasePlays", fn := fun _ => fun
  | [d] => { results := [.lit (.bool true)], args := [d] }
  | _ => none }
def leasePlaysRow : OpenClaim := { program := "ytikbgoppmailjaa", sum := "93f8043ff455b20c84de9a63cb10e21be63b8089391de1c0374a16a5964fad01", func := "remontoir/remontoirlaw10.LeasePlays", spec := "leasePlays", unfollowed := true, recurses := true, apart := false }
def LeasePlaysSaid : Prop := leasePlaysRow.holds Try.pinned (OpenSpec.ofChange leasePlaysSpec)

/-- ITS FALSE NEIGHBOUR: 'it returns false'. Refute it at one input. -/
def leasePlaysWrong : ChangeSpec := { name := "leasePlays", fn := fun _ => fun
  | [d] => { results := [.lit (.bool false)], args := [d] }
  | _ => none }
def LeasePlaysWrongFalsely : Prop := leasePlaysRow.holds Try.pinned (OpenSpec.ofChange leasePlaysWrong)

/-- 'remontoirlaw10.LeaseNone': WHATEVER THE INPUT: true; the input reads as it did. -/
def leaseNoneSpec : ChangeSpec := { name := "leaseNone", fn := fun _ => fun
  | [d1, d2, d3] => { results := [.lit (.bool true)], args := [d1, d2, d3] }
  | _ => none }
def leaseNoneRow : OpenClaim := { program := "ytikbgoppmailjaa", sum := "93f8043ff455b20c84de9a63cb10e21be63b8089391de1c0374a16a5964fad01", func := "remontoir/remontoirlaw10.LeaseNone", spec := "leaseNone", unfollowed := true, recurses := true, apart := false }
def LeaseNoneSaid : Prop := leaseNoneRow.holds Try.pinned (OpenSpec.ofChange leaseNoneSpec)

/-- ITS FALSE NEIGHBOUR: 'it returns false'. Refute it at one input. -/
def leaseNoneWrong : ChangeSpec := { name := "leaseNone", fn := fun _ => fun
  | [d1, d2, d3] => { results := [.lit (.bool false)], args := [d1, d2, d3] }
  | _ => none }
def LeaseNoneWrongFalsely : Prop := leaseNoneRow.holds Try.pinned (OpenSpec.ofChange leaseNoneWrong)

/- THE SECOND FORM. 'bulk': how many values and letters a reading holds, each counted each time it is reached (what is shared counts as often as it is met; a slice's spare places count too). A statement '..UptoSaid' is the law's where the arguments, and the package variables that the reading takes, are together of bulk at most 1048576: NARROWER than '..Said'. Prove '..Said' where nothing that the law and all that it calls make is longer than what came in: it says more and counts as full. Else prove '..UptoSaid'. A law counts once. -/
mutual
def uptoBulk {H : Type} : DataW H → Nat
  | .lit (.string bytes) => bytes.length + 1
  | .lit _ => 1
  | .nil => 1
  | .ptr d => uptoBulk d + 1
  | .slice elems spare => uptoBulkAll elems + uptoBulkAll spare + 1
  | .agg parts => uptoBulkAll parts + 1
  | .iface _ d => uptoBulk d + 1
  | .map entries => uptoBulkEntries entries + 1
  | .held _ => 1
def uptoBulkAll {H : Type} : List (DataW H) → Nat
  | [] => 0
  | d :: r => uptoBulk d + uptoBulkAll r
def uptoBulkEntries {H : Type} : List (Lit × DataW H) → Nat
  | [] => 0
  | x :: r => uptoBulkEntry x + uptoBulkEntries r
def uptoBulkEntry {H : Type} : Lit × DataW H → Nat
  | (.string bytes, d) => bytes.length + uptoBulk d + 1
  | (_, d) => uptoBulk d + 1
 end
def uptoSmall : (H : Type) → List (DataW H) → Bool := fun _ ds => decide (uptoBulkAll ds ≤ 1048576)
def OpenSpec.upto (s : _root_.Go.ChangeSpec) : _root_.Go.OpenSpec := { _root_.Go.OpenSpec.ofChange s with cond := some uptoSmall }

/-- 'remontoirlaw10.LeaseNumbers', WHERE WHAT IT READS IS OF BULK AT MOST 1048576: true; the input reads as it did. -/
def leaseNumbersUptoRow : OpenClaim := { program := "ytikbgoppmailjaa", sum := "93f8043ff455b20c84de9a63cb10e21be63b8089391de1c0374a16a5964fad01", func := "remontoir/remontoirlaw10.LeaseNumbers", spec := "leaseNumbers", unfollowed := true, recurses := true, apart := false, narrowed := true }
def LeaseNumbersUptoSaid : Prop := leaseNumbersUptoRow.holds Try.pinned (OpenSpec.upto leaseNumbersSpec)

/-- 'remontoirlaw10.LeaseOver', WHERE WHAT IT READS IS OF BULK AT MOST 1048576: true; the input reads as it did. -/
def leaseOverUptoRow : OpenClaim := { program := "ytikbgoppmailjaa", sum := "93f8043ff455b20c84de9a63cb10e21be63b8089391de1c0374a16a5964fad01", func := "remontoir/remontoirlaw10.LeaseOver", spec := "leaseOver", unfollowed := true, recurses := true, apart := false, narrowed := true }
def LeaseOverUptoSaid : Prop := leaseOverUptoRow.holds Try.pinned (OpenSpec.upto leaseOverSpec)

/-- 'remontoirlaw10.LeaseOnce', WHERE WHAT IT READS IS OF BULK AT MOST 1048576: true; the input reads as it did. -/
def leaseOnceUptoRow : OpenClaim := { program := "ytikbgoppmailjaa", sum := "93f8043ff455b20c84de9a63cb10e21be63b8089391de1c0374a16a5964fad01", func := "remontoir/remontoirlaw10.LeaseOnce", spec := "leaseOnce", unfollowed := true, recurses := true, apart := false, narrowed := true }
def LeaseOnceUptoSaid : Prop := leaseOnceUptoRow.holds Try.pinned (OpenSpec.upto leaseOnceSpec)

/-- 'remontoirlaw10.LeasePlays', WHERE WHAT IT READS IS OF BULK AT MOST 1048576: true; the input reads as it did. -/
def leasePlaysUptoRow : OpenClaim := { program := "ytikbgoppmailjaa", sum := "93f8043ff455b20c84de9a63cb10e21be63b8089391de1c0374a16a5964fad01", func := "remontoir/remontoirlaw10.LeasePlays", spec := "leasePlays", unfollowed := true, recurses := true, apart := false, narrowed := true }
def LeasePlaysUptoSaid : Prop := leasePlaysUptoRow.holds Try.pinned (OpenSpec.upto leasePlaysSpec)

/-- 'remontoirlaw10.LeaseNone', WHERE WHAT IT READS IS OF BULK AT MOST 1048576: true; the input reads as it did. -/
def leaseNoneUptoRow : OpenClaim := { program := "ytikbgoppmailjaa", sum := "93f8043ff455b20c84de9a63cb10e21be63b8089391de1c0374a16a5964fad01", func := "remontoir/remontoirlaw10.LeaseNone", spec := "leaseNone", unfollowed := true, recurses := true, apart := false, narrowed := true }
def LeaseNoneUptoSaid : Prop := leaseNoneUptoRow.holds Try.pinned (OpenSpec.upto leaseNoneSpec)

end Rows
end Go.Proofs.Ytikbgoppmailjaa
