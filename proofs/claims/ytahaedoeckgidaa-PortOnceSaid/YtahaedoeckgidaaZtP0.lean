/- PortOnce, the plain law: what is reckoned. -/
import Derived.Test.YtahaedoeckgidaaZtM
import Derived.KernelRfl
set_option linter.unusedVariables false
namespace Go.Sw.PO
def tx (n : Nat) : Str := [116, UInt8.ofNat n]
def dm (n : Nat) : Str := match port_Pack 68 n (tx n) with | some (s, _) => s | none => []
def am (n : Nat) : Str := match port_Pack 65 n [] with | some (s, _) => s | none => []
def good (n : Nat) : Bool :=
  (port_Pack 68 n (tx n) == some (dm n, 0)) && (port_Pack 65 n [] == some (am n, 0)) && (port_Unpack (dm n) == some (68, (n : Int), tx n, 0)) && (port_Unpack (am n) == some (65, (n : Int), [], 0))
def goods : Nat → Bool
  | 0 => true
  | n + 1 => good n && goods n
theorem awake : switchboardlaw23_awake = some true := by kernel_rfl
theorem goods251 : goods 251 = true := by kernel_rfl
end Go.Sw.PO
