/- More tables of the types of this seat. -/
import Derived.Test.YtfohgbcjhmmpeaaTab
import Derived.Test.YtfohgbcjhmmpeaaSv
namespace Go.Proofs.Ytfohgbcjhmmpeaa
instance : IK 2 .i64 := ⟨by kernel_rfl⟩
instance : IK 3 .i64 := ⟨by kernel_rfl⟩
instance : BT 4 := ⟨by kernel_rfl⟩
instance : IK 5 .u8 := ⟨by kernel_rfl⟩
instance : IK 6 .u8 := ⟨by kernel_rfl⟩
instance : BP 7 [(0, 1), (1, 1), (2, 1), (3, 1)] := ⟨by kernel_rfl⟩
instance : BP 8 [(0, 1), (1, 1), (2, 1), (3, 1)] := ⟨by kernel_rfl⟩
instance : IK 12 .u64 := ⟨by kernel_rfl⟩
instance : BP 13 [(0, 1), (1, 1)] := ⟨by kernel_rfl⟩
instance : BP 14 [(0, 1), (1, 1)] := ⟨by kernel_rfl⟩
instance : BP 18 [(0, 1)] := ⟨by kernel_rfl⟩
instance : BP 19 [(0, 1)] := ⟨by kernel_rfl⟩
instance : IK 21 .i32 := ⟨by kernel_rfl⟩
instance : IK 22 .u64 := ⟨by kernel_rfl⟩
instance : BP 27 [(0, 1), (1, 1), (2, 1), (3, 1), (4, 1), (5, 1), (6, 1)] := ⟨by kernel_rfl⟩
instance : BP 28 [(0, 1), (1, 1), (2, 1), (3, 1), (4, 1), (5, 1), (6, 1)] := ⟨by kernel_rfl⟩
instance : BP 29 [(0, 1), (1, 1), (2, 1), (3, 1), (4, 1), (5, 1), (6, 1), (7, 1), (8, 1), (9, 1), (10, 1), (11, 1), (12, 1), (13, 1), (14, 1), (15, 1), (16, 1), (17, 1), (18, 1), (19, 1)] := ⟨by kernel_rfl⟩
instance : BP 30 [(0, 1), (1, 1), (2, 1), (3, 1), (4, 1), (5, 1), (6, 1), (7, 1), (8, 1), (9, 1), (10, 1), (11, 1), (12, 1), (13, 1), (14, 1), (15, 1), (16, 1), (17, 1), (18, 1), (19, 1)] := ⟨by kernel_rfl⟩
instance : IK 32 .i64 := ⟨by kernel_rfl⟩
instance : IK 47 .u16 := ⟨by kernel_rfl⟩
instance : IK 78 .u64 := ⟨by kernel_rfl⟩
instance : BP 82 [(0, 1), (1, 1)] := ⟨by kernel_rfl⟩
instance : BP 83 [(0, 1), (1, 1)] := ⟨by kernel_rfl⟩
instance : BP 87 [(0, 1), (1, 1), (2, 1), (3, 1)] := ⟨by kernel_rfl⟩
instance : BP 88 [(0, 1), (1, 1), (2, 1), (3, 1)] := ⟨by kernel_rfl⟩
instance : BP 90 [(0, 0)] := ⟨by kernel_rfl⟩
instance : BP 91 [(0, 0)] := ⟨by kernel_rfl⟩
instance : IK 92 .u32 := ⟨by kernel_rfl⟩
instance : IK 93 .u8 := ⟨by kernel_rfl⟩
instance : IK 94 .u8 := ⟨by kernel_rfl⟩
instance : IK 97 .i32 := ⟨by kernel_rfl⟩
instance : IK 98 .i32 := ⟨by kernel_rfl⟩
instance : BP 99 [(0, 1), (1, 1), (2, 1), (3, 1), (4, 1), (5, 1), (6, 1), (7, 1), (8, 1), (9, 1), (10, 1)] := ⟨by kernel_rfl⟩
instance : BP 100 [(0, 1), (1, 1), (2, 1), (3, 1), (4, 1), (5, 1), (6, 1), (7, 1), (8, 1), (9, 1), (10, 1)] := ⟨by kernel_rfl⟩
instance : BP 101 [(0, 1)] := ⟨by kernel_rfl⟩
instance : BP 102 [(0, 1)] := ⟨by kernel_rfl⟩
end Go.Proofs.Ytfohgbcjhmmpeaa
