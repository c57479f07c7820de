/- Readings of steps and values, with the ranges of their numbers. -/
import Derived.Test.YtekgdmhdkhgpjaaGreatDoorProg
import Derived.Test.YtekgdmhdkhgpjaaGreatDoorSD
import Derived.KernelRfl
set_option linter.unusedSimpArgs false
set_option linter.unusedVariables false
namespace Go.Proofs.YtekgdmhdkhgpjaaGreatDoor.am
open Go Go.RowKit
set_option linter.unusedVariables false
structure Val.Wf1 (v:Val):Prop where
  k0:-9223372036854775808 ≤ v.kind
  k1:v.kind < 9223372036854775808
  n0:-9223372036854775808 ≤ v.n
  n1:v.n < 9223372036854775808
  s:v.s.length < 9223372036854775808
  names:v.names.length < 9223372036854775808
  name:∀ x ∈ v.names,x.length < 9223372036854775808
  ids:v.ids.length < 9223372036854775808
  id:∀ x ∈ v.ids,0 ≤ x ∧ x < 18446744073709551616
  parts:v.parts.length < 9223372036854775808
inductive Val.Wf:Val → Prop
  | mk (v:Val) (one:v.Wf1) (all:∀ p ∈ v.parts,Val.Wf p):Val.Wf v
theorem Val.Wf.one {v:Val} (h:v.Wf):v.Wf1:=by cases h; assumption
theorem Val.Wf.all {v:Val} (h:v.Wf):∀ p ∈ v.parts,Val.Wf p:=by cases h; assumption
section
variable {H:Type} {enc:TypeId × Value → H} {W:World} {base:Nat} {sp:Nat → Bool} {held:Bool}
theorem rv_str {W:World} (s:ByteArray):RVd W (.str s.data.toList) (.string s):=fun _ _ => .str s
end
end Go.Proofs.YtekgdmhdkhgpjaaGreatDoor.am
