/- More tables of the types of this seat: strings. -/
import Derived.Test.YthogepcblloaiaaDoorSw
namespace Go.Proofs.YthogepcblloaiaaDoor
instance : TT 9 := ⟨by kernel_rfl⟩
instance : TT 10 := ⟨by kernel_rfl⟩
instance : TT 11 := ⟨by kernel_rfl⟩
instance : PT 15 77 := ⟨by kernel_rfl, by kernel_rfl⟩
instance : PT 16 80 := ⟨by kernel_rfl, by kernel_rfl⟩
instance : PT 17 88 := ⟨by kernel_rfl, by kernel_rfl⟩
instance : PT 48 58 := ⟨by kernel_rfl, by kernel_rfl⟩
instance : PT 67 5 := ⟨by kernel_rfl, by kernel_rfl⟩
instance : PT 68 70 := ⟨by kernel_rfl, by kernel_rfl⟩
end Go.Proofs.YthogepcblloaiaaDoor
