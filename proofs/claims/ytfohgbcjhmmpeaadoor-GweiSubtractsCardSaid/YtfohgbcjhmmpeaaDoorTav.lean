/- More tables of the types of this seat. -/
import Derived.Test.YtfohgbcjhmmpeaaDoorTab
import Derived.Test.YtfohgbcjhmmpeaaDoorSv
namespace Go.Proofs.YtfohgbcjhmmpeaaDoor
instance : IK 2 .i64 := ⟨by kernel_rfl⟩
instance : IK 3 .i64 := ⟨by kernel_rfl⟩
instance : BT 4 := ⟨by kernel_rfl⟩
instance : IK 5 .u8 := ⟨by kernel_rfl⟩
instance : IK 6 .u8 := ⟨by kernel_rfl⟩
instance : BP 7 [(0, 1), (1, 1), (2, 1), (3, 1)] := ⟨by kernel_rfl⟩
instance : BP 8 [(0, 1), (1, 1), (2, 1), (3, 1)] := ⟨by kernel_rfl⟩
instance : IK 12 .u64 := ⟨by kernel_rfl⟩
instance : BP 13 [(0, 1), (1, 1)] := ⟨by kernel_rfl⟩
instance : BP 14 [(0, 1), (1, 1)] := ⟨by kernel_rfl⟩
instance : BP 18 [(0, 1)] := ⟨by kernel_rfl⟩
instance : BP 19 [(0, 1)] := ⟨by kernel_rfl⟩
instance : IK 21 .i32 := ⟨by kernel_rfl⟩
instance : IK 22 .u64 := ⟨by kernel_rfl⟩
instance : IK 44 .u64 := ⟨by kernel_rfl⟩
instance : IK 56 .u32 := ⟨by kernel_rfl⟩
instance : BP 65 [(0, 1), (1, 1), (2, 1), (3, 1)] := ⟨by kernel_rfl⟩
instance : BP 66 [(0, 1), (1, 1), (2, 1), (3, 1)] := ⟨by kernel_rfl⟩
instance : BP 68 [(0, 0)] := ⟨by kernel_rfl⟩
instance : BP 69 [(0, 0)] := ⟨by kernel_rfl⟩
instance : IK 71 .u8 := ⟨by kernel_rfl⟩
instance : IK 72 .u8 := ⟨by kernel_rfl⟩
instance : IK 75 .i32 := ⟨by kernel_rfl⟩
instance : IK 76 .i32 := ⟨by kernel_rfl⟩
instance : BP 77 [(0, 1), (1, 1), (2, 1), (3, 1), (4, 1), (5, 1), (6, 1), (7, 1), (8, 1), (9, 1), (10, 1)] := ⟨by kernel_rfl⟩
instance : BP 78 [(0, 1), (1, 1), (2, 1), (3, 1), (4, 1), (5, 1), (6, 1), (7, 1), (8, 1), (9, 1), (10, 1)] := ⟨by kernel_rfl⟩
instance : BP 79 [(0, 1)] := ⟨by kernel_rfl⟩
instance : BP 80 [(0, 1)] := ⟨by kernel_rfl⟩
end Go.Proofs.YtfohgbcjhmmpeaaDoor
