/- More tables of the types of this seat: strings. -/
import Derived.Test.YtdlihlfknedpfaaSw
namespace Go.Proofs.Ytdlihlfknedpfaa
instance : TT 9 := ⟨by kernel_rfl⟩
instance : TT 10 := ⟨by kernel_rfl⟩
instance : TT 11 := ⟨by kernel_rfl⟩
instance : PT 15 121 := ⟨by kernel_rfl, by kernel_rfl⟩
instance : PT 16 124 := ⟨by kernel_rfl, by kernel_rfl⟩
instance : PT 17 132 := ⟨by kernel_rfl, by kernel_rfl⟩
instance : PT 23 78 := ⟨by kernel_rfl, by kernel_rfl⟩
instance : PT 24 68 := ⟨by kernel_rfl, by kernel_rfl⟩
instance : PT 81 80 := ⟨by kernel_rfl, by kernel_rfl⟩
instance : PT 109 76 := ⟨by kernel_rfl, by kernel_rfl⟩
instance : PT 114 3 := ⟨by kernel_rfl, by kernel_rfl⟩
instance : PT 116 110 := ⟨by kernel_rfl, by kernel_rfl⟩
instance : PT 128 5 := ⟨by kernel_rfl, by kernel_rfl⟩
end Go.Proofs.Ytdlihlfknedpfaa
