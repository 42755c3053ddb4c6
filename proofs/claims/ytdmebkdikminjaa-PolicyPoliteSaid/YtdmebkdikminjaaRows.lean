/-
  No cell of these rows narrows 'for every input' (looked for: loops, veiled, ifaces, maps, wideKeys, modest, calm, conditions, laid).
  DERIVED. THE GIVEN ROWS OF THIS SEAT. 6 by the template 'for every input the law returns true; each argument reads behind the call as it read before'; 0 by the template 'total and deterministic' (their statements: YtdmebkdikminjaaTotals.lean).
  GIVEN WITH THE SEED: the statements are not yours to turn. If you find one false, say at which input.
  Laid BY PROGRAM, IN A SANDBOX (cutbox-rows.mjs): the forced cells as the released guide's own fill.sh prints them over the translation 44e1e9253566e1d9… (all of the seat's roots in one cut). By AI agents, Wed Nov 11 2026. No macro, syntax, notation, axiom, sorry.
-/
import Derived.Test.YtdmebkdikminjaaChecked
import GoSem.Claim
import GoSem.ClaimJoined
import GoSem.ClaimMapViews
import Derived.JoinedTies
import Derived.KernelRfl
namespace Go.Proofs.Ytdmebkdikminjaa
/- THE CELL 'sum', in the pinned program and in every row, IS THE sha256 OF THE DUMP (.gsa) THAT YtdmebkdikminjaaProg.lean LOADS. Nothing in Lean hashes anything: it is a label: what it is worth is what the hold of that sum in a sandbox is worth. -/
noncomputable def Try.pinned : Pinned := { name := "ytdmebkdikminjaa", sum := "44e1e9253566e1d9bfc2397d14762521dd653844a6c52439ed925ddb4418344e", checked := Try.checked }
namespace Rows
def none {H : Type} : Left H := { results := [], args := [] }

/-- 'decorumlaw20.PolicyEligible': WHATEVER THE INPUT: true; the input reads as it did. -/
def policyEligibleSpec : ChangeSpec := { name := "policyEligible", fn := fun _ => fun
  | [d1, d2] => { results := [.lit (.bool true)], args := [d1, d2] }
  | _ => none }
def policyEligibleRow : OpenClaim := { program := "ytdmebkdikminjaa", sum := "44e1e9253566e1d9bfc2397d14762521dd653844a6c52439ed925ddb4418344e", func := "decorum/decorumlaw20.PolicyEligible", spec := "policyEligible", apart := false }
def PolicyEligibleSaid : Prop := policyEligibleRow.holds Try.pinned (OpenSpec.ofChange policyEligibleSpec)

/-- ITS FALSE NEIGHBOUR: 'it returns false'. Refute it at one input. -/
def policyEligibleWrong : ChangeSpec := { name := "policyEligible", fn := fun _ => fun
  | [d1, d2] => { results := [.lit (.bool false)], args := [d1, d2] }
  | _ => none }
def PolicyEligibleWrongFalsely : Prop := policyEligibleRow.holds Try.pinned (OpenSpec.ofChange policyEligibleWrong)

/-- 'decorumlaw20.PolicySends': WHATEVER THE INPUT: true; the input reads as it did. -/
def policySendsSpec : ChangeSpec := { name := "policySends", fn := fun _ => fun
  | [d1, d2, d3] => { results := [.lit (.bool true)], args := [d1, d2, d3] }
  | _ => none }
def policySendsRow : OpenClaim := { program := "ytdmebkdikminjaa", sum := "44e1e9253566e1d9bfc2397d14762521dd653844a6c52439ed925ddb4418344e", func := "decorum/decorumlaw20.PolicySends", spec := "policySends", apart := false }
def PolicySendsSaid : Prop := policySendsRow.holds Try.pinned (OpenSpec.ofChange policySendsSpec)

/-- ITS FALSE NEIGHBOUR: 'it returns false'. Refute it at one input. -/
def policySendsWrong : ChangeSpec := { name := "policySends", fn := fun _ => fun
  | [d1, d2, d3] => { results := [.lit (.bool false)], args := [d1, d2, d3] }
  | _ => none }
def PolicySendsWrongFalsely : Prop := policySendsRow.holds Try.pinned (OpenSpec.ofChange policySendsWrong)

/-- 'decorumlaw20.PolicyLearns': WHATEVER THE INPUT: true; the input reads as it did. -/
def policyLearnsSpec : ChangeSpec := { name := "policyLearns", fn := fun _ => fun
  | [d1, d2, d3, d4, d5, d6] => { results := [.lit (.bool true)], args := [d1, d2, d3, d4, d5, d6] }
  | _ => none }
def policyLearnsRow : OpenClaim := { program := "ytdmebkdikminjaa", sum := "44e1e9253566e1d9bfc2397d14762521dd653844a6c52439ed925ddb4418344e", func := "decorum/decorumlaw20.PolicyLearns", spec := "policyLearns", apart := false }
def PolicyLearnsSaid : Prop := policyLearnsRow.holds Try.pinned (OpenSpec.ofChange policyLearnsSpec)

/-- ITS FALSE NEIGHBOUR: 'it returns false'. Refute it at one input. -/
def policyLearnsWrong : ChangeSpec := { name := "policyLearns", fn := fun _ => fun
  | [d1, d2, d3, d4, d5, d6] => { results := [.lit (.bool false)], args := [d1, d2, d3, d4, d5, d6] }
  | _ => none }
def PolicyLearnsWrongFalsely : Prop := policyLearnsRow.holds Try.pinned (OpenSpec.ofChange policyLearnsWrong)

/-- 'decorumlaw20.PolicyAnswers': WHATEVER THE INPUT: true; the input reads as it did. -/
def policyAnswersSpec : ChangeSpec := { name := "policyAnswers", fn := fun _ => fun
  | [d1, d2, d3, d4, d5] => { results := [.lit (.bool true)], args := [d1, d2, d3, d4, d5] }
  | _ => none }
def policyAnswersRow : OpenClaim := { program := "ytdmebkdikminjaa", sum := "44e1e9253566e1d9bfc2397d14762521dd653844a6c52439ed925ddb4418344e", func := "decorum/decorumlaw20.PolicyAnswers", spec := "policyAnswers", apart := false }
def PolicyAnswersSaid : Prop := policyAnswersRow.holds Try.pinned (OpenSpec.ofChange policyAnswersSpec)

/-- ITS FALSE NEIGHBOUR: 'it returns false'. Refute it at one input. -/
def policyAnswersWrong : ChangeSpec := { name := "policyAnswers", fn := fun _ => fun
  | [d1, d2, d3, d4, d5] => { results := [.lit (.bool false)], args := [d1, d2, d3, d4, d5] }
  | _ => none }
def PolicyAnswersWrongFalsely : Prop := policyAnswersRow.holds Try.pinned (OpenSpec.ofChange policyAnswersWrong)

/-- 'decorumlaw20.PolicyPolite': WHATEVER THE INPUT: true; the input reads as it did. -/
def policyPoliteSpec : ChangeSpec := { name := "policyPolite", fn := fun _ => fun
  | [d1, d2, d3] => { results := [.lit (.bool true)], args := [d1, d2, d3] }
  | _ => none }
def policyPoliteRow : OpenClaim := { program := "ytdmebkdikminjaa", sum := "44e1e9253566e1d9bfc2397d14762521dd653844a6c52439ed925ddb4418344e", func := "decorum/decorumlaw20.PolicyPolite", spec := "policyPolite", apart := false }
def PolicyPoliteSaid : Prop := policyPoliteRow.holds Try.pinned (OpenSpec.ofChange policyPoliteSpec)

/-- ITS FALSE NEIGHBOUR: 'it returns false'. Refute it at one input. -/
def policyPoliteWrong : ChangeSpec := { name := "policyPolite", fn := fun _ => fun
  | [d1, d2, d3] => { results := [.lit (.bool false)], args := [d1, d2, d3] }
  | _ => none }
def PolicyPoliteWrongFalsely : Prop := policyPoliteRow.holds Try.pinned (OpenSpec.ofChange policyPoliteWrong)

/-- 'decorumlaw20.PolicyCalm': WHATEVER THE INPUT: true; the input reads as it did. -/
def policyCalmSpec : ChangeSpec := { name := "policyCalm", fn := fun _ => fun
  | [d1, d2, d3, d4] => { results := [.lit (.bool true)], args := [d1, d2, d3, d4] }
  | _ => none }
def policyCalmRow : OpenClaim := { program := "ytdmebkdikminjaa", sum := "44e1e9253566e1d9bfc2397d14762521dd653844a6c52439ed925ddb4418344e", func := "decorum/decorumlaw20.PolicyCalm", spec := "policyCalm", apart := false }
def PolicyCalmSaid : Prop := policyCalmRow.holds Try.pinned (OpenSpec.ofChange policyCalmSpec)

/-- ITS FALSE NEIGHBOUR: 'it returns false'. Refute it at one input. -/
def policyCalmWrong : ChangeSpec := { name := "policyCalm", fn := fun _ => fun
  | [d1, d2, d3, d4] => { results := [.lit (.bool false)], args := [d1, d2, d3, d4] }
  | _ => none }
def PolicyCalmWrongFalsely : Prop := policyCalmRow.holds Try.pinned (OpenSpec.ofChange policyCalmWrong)

/- THE SECOND FORM. 'bulk': how many values and letters a reading holds, each counted each time it is reached (what is shared counts as often as it is met; a slice's spare places count too). A statement '..UptoSaid' is the law's where the arguments, and the package variables that the reading takes, are together of bulk at most 1048576: NARROWER than '..Said'. Prove '..Said' where nothing that the law and all that it calls make is longer than what came in: it says more and counts as full. Else prove '..UptoSaid'. A law counts once. -/
mutual
def uptoBulk {H : Type} : DataW H → Nat
  | .lit (.string bytes) => bytes.length + 1
  | .lit _ => 1
  | .nil => 1
  | .ptr d => uptoBulk d + 1
  | .slice elems spare => uptoBulkAll elems + uptoBulkAll spare + 1
  | .agg parts => uptoBulkAll parts + 1
  | .iface _ d => uptoBulk d + 1
  | .map entries => uptoBulkEntries entries + 1
  | .held _ => 1
def uptoBulkAll {H : Type} : List (DataW H) → Nat
  | [] => 0
  | d :: r => uptoBulk d + uptoBulkAll r
def uptoBulkEntries {H : Type} : List (Lit × DataW H) → Nat
  | [] => 0
  | x :: r => uptoBulkEntry x + uptoBulkEntries r
def uptoBulkEntry {H : Type} : Lit × DataW H → Nat
  | (.string bytes, d) => bytes.length + uptoBulk d + 1
  | (_, d) => uptoBulk d + 1
 end
def uptoSmall : (H : Type) → List (DataW H) → Bool := fun _ ds => decide (uptoBulkAll ds ≤ 1048576)
def OpenSpec.upto (s : _root_.Go.ChangeSpec) : _root_.Go.OpenSpec := { _root_.Go.OpenSpec.ofChange s with cond := some uptoSmall }

/-- 'decorumlaw20.PolicyEligible', WHERE WHAT IT READS IS OF BULK AT MOST 1048576: true; the input reads as it did. -/
def policyEligibleUptoRow : OpenClaim := { program := "ytdmebkdikminjaa", sum := "44e1e9253566e1d9bfc2397d14762521dd653844a6c52439ed925ddb4418344e", func := "decorum/decorumlaw20.PolicyEligible", spec := "policyEligible", apart := false, narrowed := true }
def PolicyEligibleUptoSaid : Prop := policyEligibleUptoRow.holds Try.pinned (OpenSpec.upto policyEligibleSpec)

/-- 'decorumlaw20.PolicySends', WHERE WHAT IT READS IS OF BULK AT MOST 1048576: true; the input reads as it did. -/
def policySendsUptoRow : OpenClaim := { program := "ytdmebkdikminjaa", sum := "44e1e9253566e1d9bfc2397d14762521dd653844a6c52439ed925ddb4418344e", func := "decorum/decorumlaw20.PolicySends", spec := "policySends", apart := false, narrowed := true }
def PolicySendsUptoSaid : Prop := policySendsUptoRow.holds Try.pinned (OpenSpec.upto policySendsSpec)

/-- 'decorumlaw20.PolicyLearns', WHERE WHAT IT READS IS OF BULK AT MOST 1048576: true; the input reads as it did. -/
def policyLearnsUptoRow : OpenClaim := { program := "ytdmebkdikminjaa", sum := "44e1e9253566e1d9bfc2397d14762521dd653844a6c52439ed925ddb4418344e", func := "decorum/decorumlaw20.PolicyLearns", spec := "policyLearns", apart := false, narrowed := true }
def PolicyLearnsUptoSaid : Prop := policyLearnsUptoRow.holds Try.pinned (OpenSpec.upto policyLearnsSpec)

/-- 'decorumlaw20.PolicyAnswers', WHERE WHAT IT READS IS OF BULK AT MOST 1048576: true; the input reads as it did. -/
def policyAnswersUptoRow : OpenClaim := { program := "ytdmebkdikminjaa", sum := "44e1e9253566e1d9bfc2397d14762521dd653844a6c52439ed925ddb4418344e", func := "decorum/decorumlaw20.PolicyAnswers", spec := "policyAnswers", apart := false, narrowed := true }
def PolicyAnswersUptoSaid : Prop := policyAnswersUptoRow.holds Try.pinned (OpenSpec.upto policyAnswersSpec)

/-- 'decorumlaw20.PolicyPolite', WHERE WHAT IT READS IS OF BULK AT MOST 1048576: true; the input reads as it did. -/
def policyPoliteUptoRow : OpenClaim := { program := "ytdmebkdikminjaa", sum := "44e1e9253566e1d9bfc2397d14762521dd653844a6c52439ed925ddb4418344e", func := "decorum/decorumlaw20.PolicyPolite", spec := "policyPolite", apart := false, narrowed := true }
def PolicyPoliteUptoSaid : Prop := policyPoliteUptoRow.holds Try.pinned (OpenSpec.upto policyPoliteSpec)

/-- 'decorumlaw20.PolicyCalm', WHERE WHAT IT READS IS OF BULK AT MOST 1048576: true; the input reads as it did. -/
def policyCalmUptoRow : OpenClaim := { program := "ytdmebkdikminjaa", sum := "44e1e9253566e1d9bfc2397d14762521dd653844a6c52439ed925ddb4418344e", func := "decorum/decorumlaw20.PolicyCalm", spec := "policyCalm", apart := false, narrowed := true }
def PolicyCalmUptoSaid : Prop := policyCalmUptoRow.holds Try.pinned (OpenSpec.upto policyCalmSpec)

end Rows
end Go.Proofs.Ytdmebkdikminjaa
