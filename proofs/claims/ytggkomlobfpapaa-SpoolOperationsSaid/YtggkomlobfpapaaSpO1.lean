/- The arguments of the laws: strings. -/
import Derived.ChangeMaps5
import Derived.Test.YtggkomlobfpapaaSpTab
import Derived.Test.YtggkomlobfpapaaSLB
import Derived.Test.YtggkomlobfpapaaSLC
namespace Go.Proofs.Try
open Go.ChangeShapes Go.WideShapes Go.RowKit Go.SL
section
variable {H : Type} {enc : TypeId × Value → H} {W : World}
theorem bytes_list (b : ByteArray) : ∃ l : List UInt8, b = ⟨l.toArray⟩ := ⟨b.data.toList, by cases b; simp⟩
end
end Go.Proofs.Try
