/- More tables of the types of this seat. -/
import Derived.Test.YtffmcnaaaojgpaaDoorTab
import Derived.Test.YtffmcnaaaojgpaaDoorSv
namespace Go.Proofs.YtffmcnaaaojgpaaDoor
instance : IK 2 .i64 := ⟨by kernel_rfl⟩
instance : IK 3 .i64 := ⟨by kernel_rfl⟩
instance : BT 4 := ⟨by kernel_rfl⟩
instance : IK 5 .u8 := ⟨by kernel_rfl⟩
instance : IK 6 .u8 := ⟨by kernel_rfl⟩
instance : BP 7 [(0, 1), (1, 1), (2, 1), (3, 1)] := ⟨by kernel_rfl⟩
instance : BP 8 [(0, 1), (1, 1), (2, 1), (3, 1)] := ⟨by kernel_rfl⟩
instance : IK 12 .u64 := ⟨by kernel_rfl⟩
instance : BP 13 [(0, 1), (1, 1)] := ⟨by kernel_rfl⟩
instance : BP 14 [(0, 1), (1, 1)] := ⟨by kernel_rfl⟩
instance : BP 18 [(0, 1)] := ⟨by kernel_rfl⟩
instance : BP 19 [(0, 1)] := ⟨by kernel_rfl⟩
instance : IK 21 .i32 := ⟨by kernel_rfl⟩
instance : IK 22 .i64 := ⟨by kernel_rfl⟩
instance : BP 25 [(0, 1), (1, 1), (2, 1), (3, 1), (4, 1), (5, 1), (6, 1), (7, 1), (8, 1)] := ⟨by kernel_rfl⟩
instance : BP 26 [(0, 1), (1, 1), (2, 1), (3, 1), (4, 1), (5, 1), (6, 1), (7, 1), (8, 1)] := ⟨by kernel_rfl⟩
instance : IK 30 .u64 := ⟨by kernel_rfl⟩
instance : BP 31 [(0, 1), (1, 1), (2, 1), (3, 1)] := ⟨by kernel_rfl⟩
instance : BP 32 [(0, 1), (1, 1), (2, 1), (3, 1)] := ⟨by kernel_rfl⟩
instance : BP 40 [(0, 1), (1, 1), (2, 1)] := ⟨by kernel_rfl⟩
instance : BP 41 [(0, 1), (1, 1), (2, 1)] := ⟨by kernel_rfl⟩
instance : BP 43 [(0, 1), (1, 1), (2, 1)] := ⟨by kernel_rfl⟩
instance : BP 44 [(0, 1), (1, 1), (2, 1)] := ⟨by kernel_rfl⟩
instance : BP 70 [(0, 1), (1, 1)] := ⟨by kernel_rfl⟩
instance : BP 71 [(0, 1), (1, 1)] := ⟨by kernel_rfl⟩
instance : IK 121 .u64 := ⟨by kernel_rfl⟩
instance : BP 132 [(0, 1), (1, 1), (2, 1)] := ⟨by kernel_rfl⟩
instance : BP 133 [(0, 1), (1, 1), (2, 1)] := ⟨by kernel_rfl⟩
instance : IK 138 .u32 := ⟨by kernel_rfl⟩
instance : IK 153 .i64 := ⟨by kernel_rfl⟩
instance : BP 165 [(0, 1), (1, 1), (2, 1)] := ⟨by kernel_rfl⟩
instance : BP 166 [(0, 1), (1, 1), (2, 1)] := ⟨by kernel_rfl⟩
instance : BP 170 [(0, 1), (1, 1)] := ⟨by kernel_rfl⟩
instance : BP 171 [(0, 1), (1, 1)] := ⟨by kernel_rfl⟩
instance : BP 174 [(0, 1)] := ⟨by kernel_rfl⟩
instance : BP 175 [(0, 1)] := ⟨by kernel_rfl⟩
instance : BP 178 [(0, 1), (1, 1), (2, 1), (3, 1)] := ⟨by kernel_rfl⟩
instance : BP 179 [(0, 1), (1, 1), (2, 1), (3, 1)] := ⟨by kernel_rfl⟩
instance : BP 181 [(0, 0)] := ⟨by kernel_rfl⟩
instance : BP 182 [(0, 0)] := ⟨by kernel_rfl⟩
instance : IK 183 .u8 := ⟨by kernel_rfl⟩
instance : IK 184 .u8 := ⟨by kernel_rfl⟩
instance : IK 186 .i32 := ⟨by kernel_rfl⟩
instance : IK 187 .i32 := ⟨by kernel_rfl⟩
instance : BP 188 [(0, 1), (1, 1), (2, 1), (3, 1), (4, 1), (5, 1), (6, 1), (7, 1), (8, 1), (9, 1), (10, 1)] := ⟨by kernel_rfl⟩
instance : BP 189 [(0, 1), (1, 1), (2, 1), (3, 1), (4, 1), (5, 1), (6, 1), (7, 1), (8, 1), (9, 1), (10, 1)] := ⟨by kernel_rfl⟩
end Go.Proofs.YtffmcnaaaojgpaaDoor
