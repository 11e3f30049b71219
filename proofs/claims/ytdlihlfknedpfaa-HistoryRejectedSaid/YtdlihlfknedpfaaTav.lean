/- More tables of the types of this seat. -/
import Derived.Test.YtdlihlfknedpfaaTab
import Derived.Test.YtdlihlfknedpfaaSv
namespace Go.Proofs.Ytdlihlfknedpfaa
instance : IK 2 .i64 := ⟨by kernel_rfl⟩
instance : IK 3 .i64 := ⟨by kernel_rfl⟩
instance : BT 4 := ⟨by kernel_rfl⟩
instance : IK 5 .u8 := ⟨by kernel_rfl⟩
instance : IK 6 .u8 := ⟨by kernel_rfl⟩
instance : BP 7 [(0, 1), (1, 1), (2, 1), (3, 1)] := ⟨by kernel_rfl⟩
instance : BP 8 [(0, 1), (1, 1), (2, 1), (3, 1)] := ⟨by kernel_rfl⟩
instance : IK 12 .u64 := ⟨by kernel_rfl⟩
instance : BP 13 [(0, 1), (1, 1)] := ⟨by kernel_rfl⟩
instance : BP 14 [(0, 1), (1, 1)] := ⟨by kernel_rfl⟩
instance : BP 18 [(0, 1)] := ⟨by kernel_rfl⟩
instance : BP 19 [(0, 1)] := ⟨by kernel_rfl⟩
instance : IK 21 .i32 := ⟨by kernel_rfl⟩
instance : IK 34 .u64 := ⟨by kernel_rfl⟩
instance : BP 35 [(0, 1), (1, 1), (2, 1), (3, 1), (4, 1), (5, 1), (6, 1)] := ⟨by kernel_rfl⟩
instance : BP 36 [(0, 1), (1, 1), (2, 1), (3, 1), (4, 1), (5, 1), (6, 1)] := ⟨by kernel_rfl⟩
instance : BP 39 [(0, 1), (1, 1), (2, 1), (3, 1), (4, 1), (5, 1), (6, 1)] := ⟨by kernel_rfl⟩
instance : BP 45 [(0, 1), (1, 1), (2, 1)] := ⟨by kernel_rfl⟩
instance : BP 46 [(0, 1), (1, 1), (2, 1)] := ⟨by kernel_rfl⟩
instance : BP 51 [(0, 1), (1, 1), (2, 1)] := ⟨by kernel_rfl⟩
instance : BP 52 [(0, 1), (1, 1), (2, 1)] := ⟨by kernel_rfl⟩
instance : BP 56 [(0, 1), (1, 1), (2, 1), (3, 1)] := ⟨by kernel_rfl⟩
instance : BP 57 [(0, 1), (1, 1), (2, 1), (3, 1)] := ⟨by kernel_rfl⟩
instance : IK 58 .i64 := ⟨by kernel_rfl⟩
instance : BP 59 [(0, 1), (1, 1), (2, 1), (3, 1), (4, 1), (5, 1), (6, 1), (7, 1), (8, 1)] := ⟨by kernel_rfl⟩
instance : BP 60 [(0, 1), (1, 1), (2, 1), (3, 1), (4, 1), (5, 1), (6, 1), (7, 1), (8, 1)] := ⟨by kernel_rfl⟩
instance : BP 61 [(0, 4), (4, 9)] := ⟨by kernel_rfl⟩
instance : BP 62 [(0, 4), (4, 9)] := ⟨by kernel_rfl⟩
instance : BP 67 [(0, 1), (1, 1)] := ⟨by kernel_rfl⟩
instance : BP 68 [(0, 1), (1, 1)] := ⟨by kernel_rfl⟩
instance : BP 75 [(0, 1), (1, 1)] := ⟨by kernel_rfl⟩
instance : BP 76 [(0, 1), (1, 1)] := ⟨by kernel_rfl⟩
instance : BP 77 [(0, 2), (2, 1), (3, 1), (4, 1)] := ⟨by kernel_rfl⟩
instance : BP 78 [(0, 2), (2, 1), (3, 1), (4, 1)] := ⟨by kernel_rfl⟩
instance : BP 79 [(0, 7), (7, 1), (8, 1), (9, 1), (10, 1), (11, 1)] := ⟨by kernel_rfl⟩
instance : BP 80 [(0, 7), (7, 1), (8, 1), (9, 1), (10, 1), (11, 1)] := ⟨by kernel_rfl⟩
instance : IK 85 .u64 := ⟨by kernel_rfl⟩
instance : IK 97 .i64 := ⟨by kernel_rfl⟩
instance : IK 106 .u32 := ⟨by kernel_rfl⟩
instance : IK 110 .u64 := ⟨by kernel_rfl⟩
instance : BP 120 [(0, 1), (1, 1), (2, 1), (3, 1)] := ⟨by kernel_rfl⟩
instance : BP 121 [(0, 1), (1, 1), (2, 1), (3, 1)] := ⟨by kernel_rfl⟩
instance : BP 123 [(0, 0)] := ⟨by kernel_rfl⟩
instance : BP 124 [(0, 0)] := ⟨by kernel_rfl⟩
instance : IK 125 .u8 := ⟨by kernel_rfl⟩
instance : IK 126 .u8 := ⟨by kernel_rfl⟩
instance : IK 129 .i32 := ⟨by kernel_rfl⟩
instance : IK 130 .i32 := ⟨by kernel_rfl⟩
instance : BP 131 [(0, 1), (1, 1), (2, 1), (3, 1), (4, 1), (5, 1), (6, 1), (7, 1), (8, 1), (9, 1), (10, 1)] := ⟨by kernel_rfl⟩
instance : BP 132 [(0, 1), (1, 1), (2, 1), (3, 1), (4, 1), (5, 1), (6, 1), (7, 1), (8, 1), (9, 1), (10, 1)] := ⟨by kernel_rfl⟩
end Go.Proofs.Ytdlihlfknedpfaa
