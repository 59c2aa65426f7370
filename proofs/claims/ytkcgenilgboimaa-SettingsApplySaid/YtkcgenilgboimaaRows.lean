/-
  No cell of these rows narrows 'for every input' (looked for: loops, veiled, ifaces, maps, wideKeys, modest, calm, conditions, laid).
  DERIVED. THE GIVEN ROWS OF THIS SEAT. 5 by the template 'for every input the law returns true; each argument reads behind the call as it read before'; 0 by the template 'total and deterministic' (their statements: YtkcgenilgboimaaTotals.lean).
  GIVEN WITH THE SEED: the statements are not yours to turn. If you find one false, say at which input.
  Laid BY PROGRAM, IN A SANDBOX (cutbox-rows.mjs): the forced cells as the released guide's own fill.sh prints them over the translation 4dc83264d5f67c0c… (all of the seat's roots in one cut). By AI agents, Wed Nov 11 2026. No macro, syntax, notation, axiom, sorry.
-/
import Derived.Test.YtkcgenilgboimaaChecked
import GoSem.Claim
import GoSem.ClaimJoined
import GoSem.ClaimMapViews
import Derived.JoinedTies
import Derived.KernelRfl
namespace Go.Proofs.Ytkcgenilgboimaa
/- THE CELL 'sum', in the pinned program and in every row, IS THE sha256 OF THE DUMP (.gsa) THAT YtkcgenilgboimaaProg.lean LOADS. Nothing in Lean hashes anything: it is a label: what it is worth is what the hold of that sum in a sandbox is worth. -/
noncomputable def Try.pinned : Pinned := { name := "ytkcgenilgboimaa", sum := "4dc83264d5f67c0c2fd5a4551acc21753a9659371fc748b8f8febd19921fe5bd", checked := Try.checked }
namespace Rows
def none {H : Type} : Left H := { results := [], args := [] }

/-- 'nunciolaw16.SettingsApply': WHATEVER THE INPUT: true; the input reads as it did. -/
def settingsApplySpec : ChangeSpec := { name := "settingsApply", fn := fun _ => fun
  | [d1, d2, d3] => { results := [.lit (.bool true)], args := [d1, d2, d3] }
  | _ => none }
def settingsApplyRow : OpenClaim := { program := "ytkcgenilgboimaa", sum := "4dc83264d5f67c0c2fd5a4551acc21753a9659371fc748b8f8febd19921fe5bd", func := "nuncio/nunciolaw16.SettingsApply", spec := "settingsApply", apart := false }
def SettingsApplySaid : Prop := settingsApplyRow.holds Try.pinned (OpenSpec.ofChange settingsApplySpec)

/-- ITS FALSE NEIGHBOUR: 'it returns false'. Refute it at one input. -/
def settingsApplyWrong : ChangeSpec := { name := "settingsApply", fn := fun _ => fun
  | [d1, d2, d3] => { results := [.lit (.bool false)], args := [d1, d2, d3] }
  | _ => none }
def SettingsApplyWrongFalsely : Prop := settingsApplyRow.holds Try.pinned (OpenSpec.ofChange settingsApplyWrong)

/-- 'nunciolaw16.SettingsOrder': WHATEVER THE INPUT: true; the input reads as it did. -/
def settingsOrderSpec : ChangeSpec := { name := "settingsOrder", fn := fun _ => fun
  | [d1, d2, d3] => { results := [.lit (.bool true)], args := [d1, d2, d3] }
  | _ => none }
def settingsOrderRow : OpenClaim := { program := "ytkcgenilgboimaa", sum := "4dc83264d5f67c0c2fd5a4551acc21753a9659371fc748b8f8febd19921fe5bd", func := "nuncio/nunciolaw16.SettingsOrder", spec := "settingsOrder", apart := false }
def SettingsOrderSaid : Prop := settingsOrderRow.holds Try.pinned (OpenSpec.ofChange settingsOrderSpec)

/-- ITS FALSE NEIGHBOUR: 'it returns false'. Refute it at one input. -/
def settingsOrderWrong : ChangeSpec := { name := "settingsOrder", fn := fun _ => fun
  | [d1, d2, d3] => { results := [.lit (.bool false)], args := [d1, d2, d3] }
  | _ => none }
def SettingsOrderWrongFalsely : Prop := settingsOrderRow.holds Try.pinned (OpenSpec.ofChange settingsOrderWrong)

/-- 'nunciolaw16.SettingsRight': WHATEVER THE INPUT: true; the input reads as it did. -/
def settingsRightSpec : ChangeSpec := { name := "settingsRight", fn := fun _ => fun
  | [d1, d2] => { results := [.lit (.bool true)], args := [d1, d2] }
  | _ => none }
def settingsRightRow : OpenClaim := { program := "ytkcgenilgboimaa", sum := "4dc83264d5f67c0c2fd5a4551acc21753a9659371fc748b8f8febd19921fe5bd", func := "nuncio/nunciolaw16.SettingsRight", spec := "settingsRight", apart := false }
def SettingsRightSaid : Prop := settingsRightRow.holds Try.pinned (OpenSpec.ofChange settingsRightSpec)

/-- ITS FALSE NEIGHBOUR: 'it returns false'. Refute it at one input. -/
def settingsRightWrong : ChangeSpec := { name := "settingsRight", fn := fun _ => fun
  | [d1, d2] => { results := [.lit (.bool false)], args := [d1, d2] }
  | _ => none }
def SettingsRightWrongFalsely : Prop := settingsRightRow.holds Try.pinned (OpenSpec.ofChange settingsRightWrong)

/-- 'nunciolaw16.SettingsNone': WHATEVER THE INPUT: true; the input reads as it did. -/
def settingsNoneSpec : ChangeSpec := { name := "settingsNone", fn := fun _ => fun
  | [d1, d2, d3, d4] => { results := [.lit (.bool true)], args := [d1, d2, d3, d4] }
  | _ => none }
def settingsNoneRow : OpenClaim := { program := "ytkcgenilgboimaa", sum := "4dc83264d5f67c0c2fd5a4551acc21753a9659371fc748b8f8febd19921fe5bd", func := "nuncio/nunciolaw16.SettingsNone", spec := "settingsNone", apart := false }
def SettingsNoneSaid : Prop := settingsNoneRow.holds Try.pinned (OpenSpec.ofChange settingsNoneSpec)

/-- ITS FALSE NEIGHBOUR: 'it returns false'. Refute it at one input. -/
def settingsNoneWrong : ChangeSpec := { name := "settingsNone", fn := fun _ => fun
  | [d1, d2, d3, d4] => { results := [.lit (.bool false)], args := [d1, d2, d3, d4] }
  | _ => none }
def SettingsNoneWrongFalsely : Prop := settingsNoneRow.holds Try.pinned (OpenSpec.ofChange settingsNoneWrong)

/-- 'nunciolaw16.SettingsParse': WHATEVER THE INPUT: true; the input reads as it did. -/
def settingsParseSpec : ChangeSpec := { name := "settingsParse", fn := fun _ => fun
  | [d1, d2] => { results := [.lit (.bool true)], args := [d1, d2] }
  | _ => none }
def settingsParseRow : OpenClaim := { program := "ytkcgenilgboimaa", sum := "4dc83264d5f67c0c2fd5a4551acc21753a9659371fc748b8f8febd19921fe5bd", func := "nuncio/nunciolaw16.SettingsParse", spec := "settingsParse", apart := false }
def SettingsParseSaid : Prop := settingsParseRow.holds Try.pinned (OpenSpec.ofChange settingsParseSpec)

/-- ITS FALSE NEIGHBOUR: 'it returns false'. Refute it at one input. -/
def settingsParseWrong : ChangeSpec := { name := "settingsParse", fn := fun _ => fun
  | [d1, d2] => { results := [.lit (.bool false)], args := [d1, d2] }
  | _ => none }
def SettingsParseWrongFalsely : Prop := settingsParseRow.holds Try.pinned (OpenSpec.ofChange settingsParseWrong)

/- THE SECOND FORM. 'bulk': how many values and letters a reading holds, each counted each time it is reached (what is shared counts as often as it is met; a slice's spare places count too). A statement '..UptoSaid' is the law's where the arguments, and the package variables that the reading takes, are together of bulk at most 1048576: NARROWER than '..Said'. Prove '..Said' where nothing that the law and all that it calls make is longer than what came in: it says more and counts as full. Else prove '..UptoSaid'. A law counts once. -/
mutual
def uptoBulk {H : Type} : DataW H → Nat
  | .lit (.string bytes) => bytes.length + 1
  | .lit _ => 1
  | .nil => 1
  | .ptr d => uptoBulk d + 1
  | .slice elems spare => uptoBulkAll elems + uptoBulkAll spare + 1
  | .agg parts => uptoBulkAll parts + 1
  | .iface _ d => uptoBulk d + 1
  | .map entries => uptoBulkEntries entries + 1
  | .held _ => 1
def uptoBulkAll {H : Type} : List (DataW H) → Nat
  | [] => 0
  | d :: r => uptoBulk d + uptoBulkAll r
def uptoBulkEntries {H : Type} : List (Lit × DataW H) → Nat
  | [] => 0
  | x :: r => uptoBulkEntry x + uptoBulkEntries r
def uptoBulkEntry {H : Type} : Lit × DataW H → Nat
  | (.string bytes, d) => bytes.length + uptoBulk d + 1
  | (_, d) => uptoBulk d + 1
 end
def uptoSmall : (H : Type) → List (DataW H) → Bool := fun _ ds => decide (uptoBulkAll ds ≤ 1048576)
def OpenSpec.upto (s : _root_.Go.ChangeSpec) : _root_.Go.OpenSpec := { _root_.Go.OpenSpec.ofChange s with cond := some uptoSmall }

/-- 'nunciolaw16.SettingsApply', WHERE WHAT IT READS IS OF BULK AT MOST 1048576: true; the input reads as it did. -/
def settingsApplyUptoRow : OpenClaim := { program := "ytkcgenilgboimaa", sum := "4dc83264d5f67c0c2fd5a4551acc21753a9659371fc748b8f8febd19921fe5bd", func := "nuncio/nunciolaw16.SettingsApply", spec := "settingsApply", apart := false, narrowed := true }
def SettingsApplyUptoSaid : Prop := settingsApplyUptoRow.holds Try.pinned (OpenSpec.upto settingsApplySpec)

/-- 'nunciolaw16.SettingsOrder', WHERE WHAT IT READS IS OF BULK AT MOST 1048576: true; the input reads as it did. -/
def settingsOrderUptoRow : OpenClaim := { program := "ytkcgenilgboimaa", sum := "4dc83264d5f67c0c2fd5a4551acc21753a9659371fc748b8f8febd19921fe5bd", func := "nuncio/nunciolaw16.SettingsOrder", spec := "settingsOrder", apart := false, narrowed := true }
def SettingsOrderUptoSaid : Prop := settingsOrderUptoRow.holds Try.pinned (OpenSpec.upto settingsOrderSpec)

/-- 'nunciolaw16.SettingsRight', WHERE WHAT IT READS IS OF BULK AT MOST 1048576: true; the input reads as it did. -/
def settingsRightUptoRow : OpenClaim := { program := "ytkcgenilgboimaa", sum := "4dc83264d5f67c0c2fd5a4551acc21753a9659371fc748b8f8febd19921fe5bd", func := "nuncio/nunciolaw16.SettingsRight", spec := "settingsRight", apart := false, narrowed := true }
def SettingsRightUptoSaid : Prop := settingsRightUptoRow.holds Try.pinned (OpenSpec.upto settingsRightSpec)

/-- 'nunciolaw16.SettingsNone', WHERE WHAT IT READS IS OF BULK AT MOST 1048576: true; the input reads as it did. -/
def settingsNoneUptoRow : OpenClaim := { program := "ytkcgenilgboimaa", sum := "4dc83264d5f67c0c2fd5a4551acc21753a9659371fc748b8f8febd19921fe5bd", func := "nuncio/nunciolaw16.SettingsNone", spec := "settingsNone", apart := false, narrowed := true }
def SettingsNoneUptoSaid : Prop := settingsNoneUptoRow.holds Try.pinned (OpenSpec.upto settingsNoneSpec)

/-- 'nunciolaw16.SettingsParse', WHERE WHAT IT READS IS OF BULK AT MOST 1048576: true; the input reads as it did. -/
def settingsParseUptoRow : OpenClaim := { program := "ytkcgenilgboimaa", sum := "4dc83264d5f67c0c2fd5a4551acc21753a9659371fc748b8f8febd19921fe5bd", func := "nuncio/nunciolaw16.SettingsParse", spec := "settingsParse", apart := false, narrowed := true }
def SettingsParseUptoSaid : Prop := settingsParseUptoRow.holds Try.pinned (OpenSpec.upto settingsParseSpec)

end Rows
end Go.Proofs.Ytkcgenilgboimaa
