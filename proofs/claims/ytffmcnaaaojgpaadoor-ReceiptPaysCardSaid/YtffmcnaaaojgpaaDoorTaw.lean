/- More tables of the types of this seat: strings. -/
import Derived.Test.YtffmcnaaaojgpaaDoorSw
namespace Go.Proofs.YtffmcnaaaojgpaaDoor
instance : TT 9 := ⟨by kernel_rfl⟩
instance : TT 10 := ⟨by kernel_rfl⟩
instance : TT 11 := ⟨by kernel_rfl⟩
instance : PT 15 179 := ⟨by kernel_rfl, by kernel_rfl⟩
instance : PT 16 182 := ⟨by kernel_rfl, by kernel_rfl⟩
instance : PT 17 189 := ⟨by kernel_rfl, by kernel_rfl⟩
instance : PT 38 26 := ⟨by kernel_rfl, by kernel_rfl⟩
instance : PT 69 71 := ⟨by kernel_rfl, by kernel_rfl⟩
instance : PT 90 32 := ⟨by kernel_rfl, by kernel_rfl⟩
instance : PT 91 30 := ⟨by kernel_rfl, by kernel_rfl⟩
instance : PT 92 3 := ⟨by kernel_rfl, by kernel_rfl⟩
instance : PT 110 5 := ⟨by kernel_rfl, by kernel_rfl⟩
instance : PT 155 166 := ⟨by kernel_rfl, by kernel_rfl⟩
instance : PT 173 175 := ⟨by kernel_rfl, by kernel_rfl⟩
end Go.Proofs.YtffmcnaaaojgpaaDoor
