/- More tables of the types of this seat: strings. -/
import Derived.Test.YtfohgbcjhmmpeaaDoorSw
namespace Go.Proofs.YtfohgbcjhmmpeaaDoor
instance : TT 9 := ⟨by kernel_rfl⟩
instance : TT 10 := ⟨by kernel_rfl⟩
instance : TT 11 := ⟨by kernel_rfl⟩
end Go.Proofs.YtfohgbcjhmmpeaaDoor
