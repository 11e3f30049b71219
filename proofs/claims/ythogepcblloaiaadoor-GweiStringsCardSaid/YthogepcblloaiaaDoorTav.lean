/- More tables of the types of this seat. -/
import Derived.Test.YthogepcblloaiaaDoorTab
import Derived.Test.YthogepcblloaiaaDoorSv
namespace Go.Proofs.YthogepcblloaiaaDoor
instance : IK 2 .i64 := ⟨by kernel_rfl⟩
instance : IK 3 .i64 := ⟨by kernel_rfl⟩
instance : BT 4 := ⟨by kernel_rfl⟩
instance : IK 5 .u8 := ⟨by kernel_rfl⟩
instance : IK 6 .u8 := ⟨by kernel_rfl⟩
instance : BP 7 [(0, 1), (1, 1), (2, 1), (3, 1)] := ⟨by kernel_rfl⟩
instance : BP 8 [(0, 1), (1, 1), (2, 1), (3, 1)] := ⟨by kernel_rfl⟩
instance : IK 12 .u64 := ⟨by kernel_rfl⟩
instance : BP 13 [(0, 1), (1, 1)] := ⟨by kernel_rfl⟩
instance : BP 14 [(0, 1), (1, 1)] := ⟨by kernel_rfl⟩
instance : BP 18 [(0, 1)] := ⟨by kernel_rfl⟩
instance : BP 19 [(0, 1)] := ⟨by kernel_rfl⟩
instance : IK 21 .i32 := ⟨by kernel_rfl⟩
instance : IK 22 .u64 := ⟨by kernel_rfl⟩
instance : IK 42 .u64 := ⟨by kernel_rfl⟩
instance : IK 44 .i64 := ⟨by kernel_rfl⟩
instance : BP 57 [(0, 1), (1, 1), (2, 1)] := ⟨by kernel_rfl⟩
instance : BP 58 [(0, 1), (1, 1), (2, 1)] := ⟨by kernel_rfl⟩
instance : IK 63 .u32 := ⟨by kernel_rfl⟩
instance : BP 69 [(0, 1)] := ⟨by kernel_rfl⟩
instance : BP 70 [(0, 1)] := ⟨by kernel_rfl⟩
instance : BP 76 [(0, 1), (1, 1), (2, 1), (3, 1)] := ⟨by kernel_rfl⟩
instance : BP 77 [(0, 1), (1, 1), (2, 1), (3, 1)] := ⟨by kernel_rfl⟩
instance : BP 79 [(0, 0)] := ⟨by kernel_rfl⟩
instance : BP 80 [(0, 0)] := ⟨by kernel_rfl⟩
instance : IK 82 .u8 := ⟨by kernel_rfl⟩
instance : IK 83 .u8 := ⟨by kernel_rfl⟩
instance : IK 85 .i32 := ⟨by kernel_rfl⟩
instance : IK 86 .i32 := ⟨by kernel_rfl⟩
instance : BP 87 [(0, 1), (1, 1), (2, 1), (3, 1), (4, 1), (5, 1), (6, 1), (7, 1), (8, 1), (9, 1), (10, 1)] := ⟨by kernel_rfl⟩
instance : BP 88 [(0, 1), (1, 1), (2, 1), (3, 1), (4, 1), (5, 1), (6, 1), (7, 1), (8, 1), (9, 1), (10, 1)] := ⟨by kernel_rfl⟩
end Go.Proofs.YthogepcblloaiaaDoor
