/- The table of the types, printed by program; no condition. -/
import Derived.Test.YtnfmpddhcjkjbaaGreatDoorSh
import Derived.Test.YtnfmpddhcjkjbaaGreatDoorProg
namespace Go.Proofs.YtnfmpddhcjkjbaaGreatDoor
open Go Go.SX
def ti2 : TI := { row := false, size := 1, zero := #[.int .i64 0], kind := 4, ik := .i64 }
theorem tok2 : TIok Tryz.prog 2 ti2 := ⟨by kernel_rfl, ⟨_, Tryz.underlying2, rfl, rfl⟩, by kernel_rfl, by kernel_rfl⟩
def ti3 : TI := { row := false, size := 1, zero := #[.int .i64 0], kind := 4, ik := .i64 }
theorem tok3 : TIok Tryz.prog 3 ti3 := ⟨by kernel_rfl, ⟨_, Tryz.underlying3, rfl, rfl⟩, by kernel_rfl, by kernel_rfl⟩
def ti4 : TI := { row := false, size := 1, zero := #[.bool false], kind := 5 }
theorem tok4 : TIok Tryz.prog 4 ti4 := ⟨by kernel_rfl, ⟨_, Tryz.underlying4, rfl, rfl⟩, by kernel_rfl, by kernel_rfl⟩
def ti5 : TI := { row := false, size := 1, zero := #[.int .u8 0], kind := 4, ik := .u8 }
theorem tok5 : TIok Tryz.prog 5 ti5 := ⟨by kernel_rfl, ⟨_, Tryz.underlying5, rfl, rfl⟩, by kernel_rfl, by kernel_rfl⟩
def ti9 : TI := { row := false, size := 1, zero := #[.string ByteArray.empty], kind := 0 }
theorem tok9 : TIok Tryz.prog 9 ti9 := ⟨by kernel_rfl, ⟨_, Tryz.underlying9, rfl, trivial⟩, by kernel_rfl, by kernel_rfl⟩
def ti12 : TI := { row := false, size := 1, zero := #[.int .u64 0], kind := 4, ik := .u64 }
theorem tok12 : TIok Tryz.prog 12 ti12 := ⟨by kernel_rfl, ⟨_, Tryz.underlying12, rfl, rfl⟩, by kernel_rfl, by kernel_rfl⟩
def ti13 : TI := { row := true, size := 2, zero := #[.string ByteArray.empty, .int .u64 0], kind := 1, fields := [(0, 9), (1, 12)] }
theorem tok13 : TIok Tryz.prog 13 ti13 := ⟨by kernel_rfl, ⟨_, Tryz.underlying13, rfl, ⟨_, rfl, rfl⟩⟩, by kernel_rfl, by kernel_rfl⟩
def ti21 : TI := { row := false, size := 1, zero := #[.int .i32 0], kind := 4, ik := .i32 }
theorem tok21 : TIok Tryz.prog 21 ti21 := ⟨by kernel_rfl, ⟨_, Tryz.underlying21, rfl, rfl⟩, by kernel_rfl, by kernel_rfl⟩
def ti22 : TI := { row := false, size := 1, zero := #[.int .u32 0], kind := 4, ik := .u32 }
theorem tok22 : TIok Tryz.prog 22 ti22 := ⟨by kernel_rfl, ⟨_, Tryz.underlying22, rfl, rfl⟩, by kernel_rfl, by kernel_rfl⟩
def ti23 : TI := { row := true, size := 32, zero := (Array.replicate 32 (.int .u32 0)), kind := 2, len := 32, elem := 22 }
theorem tok23 : TIok Tryz.prog 23 ti23 := ⟨by kernel_rfl, ⟨_, Tryz.underlying23, rfl, rfl⟩, by kernel_rfl, by kernel_rfl⟩
def ti24 : TI := { row := true, size := 33, zero := #[.bool false, .int .u32 0, .int .u32 0, .int .u32 0, .int .u32 0, .int .u32 0, .int .u32 0, .int .u32 0, .int .u32 0, .int .u32 0, .int .u32 0, .int .u32 0, .int .u32 0, .int .u32 0, .int .u32 0, .int .u32 0, .int .u32 0, .int .u32 0, .int .u32 0, .int .u32 0, .int .u32 0, .int .u32 0, .int .u32 0, .int .u32 0, .int .u32 0, .int .u32 0, .int .u32 0, .int .u32 0, .int .u32 0, .int .u32 0, .int .u32 0, .int .u32 0, .int .u32 0], kind := 1, fields := [(0, 4), (1, 23)] }
theorem tok24 : TIok Tryz.prog 24 ti24 := ⟨by kernel_rfl, ⟨_, Tryz.underlying24, rfl, ⟨_, rfl, rfl⟩⟩, by kernel_rfl, by kernel_rfl⟩
def ti25 : TI := { row := true, size := 33, zero := #[.bool false, .int .u32 0, .int .u32 0, .int .u32 0, .int .u32 0, .int .u32 0, .int .u32 0, .int .u32 0, .int .u32 0, .int .u32 0, .int .u32 0, .int .u32 0, .int .u32 0, .int .u32 0, .int .u32 0, .int .u32 0, .int .u32 0, .int .u32 0, .int .u32 0, .int .u32 0, .int .u32 0, .int .u32 0, .int .u32 0, .int .u32 0, .int .u32 0, .int .u32 0, .int .u32 0, .int .u32 0, .int .u32 0, .int .u32 0, .int .u32 0, .int .u32 0, .int .u32 0], kind := 1, fields := [(0, 4), (1, 23)] }
theorem tok25 : TIok Tryz.prog 25 ti25 := ⟨by kernel_rfl, ⟨_, Tryz.underlying25, rfl, ⟨_, rfl, rfl⟩⟩, by kernel_rfl, by kernel_rfl⟩
def ti26 : TI := { row := true, size := 66, zero := #[.bool false, .int .u32 0, .int .u32 0, .int .u32 0, .int .u32 0, .int .u32 0, .int .u32 0, .int .u32 0, .int .u32 0, .int .u32 0, .int .u32 0, .int .u32 0, .int .u32 0, .int .u32 0, .int .u32 0, .int .u32 0, .int .u32 0, .int .u32 0, .int .u32 0, .int .u32 0, .int .u32 0, .int .u32 0, .int .u32 0, .int .u32 0, .int .u32 0, .int .u32 0, .int .u32 0, .int .u32 0, .int .u32 0, .int .u32 0, .int .u32 0, .int .u32 0, .int .u32 0, .bool false, .int .u32 0, .int .u32 0, .int .u32 0, .int .u32 0, .int .u32 0, .int .u32 0, .int .u32 0, .int .u32 0, .int .u32 0, .int .u32 0, .int .u32 0, .int .u32 0, .int .u32 0, .int .u32 0, .int .u32 0, .int .u32 0, .int .u32 0, .int .u32 0, .int .u32 0, .int .u32 0, .int .u32 0, .int .u32 0, .int .u32 0, .int .u32 0, .int .u32 0, .int .u32 0, .int .u32 0, .int .u32 0, .int .u32 0, .int .u32 0, .int .u32 0, .int .u32 0], kind := 1, fields := [(0, 25), (33, 25)] }
theorem tok26 : TIok Tryz.prog 26 ti26 := ⟨by kernel_rfl, ⟨_, Tryz.underlying26, rfl, ⟨_, rfl, rfl⟩⟩, by kernel_rfl, by kernel_rfl⟩
def ti27 : TI := { row := true, size := 66, zero := #[.bool false, .int .u32 0, .int .u32 0, .int .u32 0, .int .u32 0, .int .u32 0, .int .u32 0, .int .u32 0, .int .u32 0, .int .u32 0, .int .u32 0, .int .u32 0, .int .u32 0, .int .u32 0, .int .u32 0, .int .u32 0, .int .u32 0, .int .u32 0, .int .u32 0, .int .u32 0, .int .u32 0, .int .u32 0, .int .u32 0, .int .u32 0, .int .u32 0, .int .u32 0, .int .u32 0, .int .u32 0, .int .u32 0, .int .u32 0, .int .u32 0, .int .u32 0, .int .u32 0, .bool false, .int .u32 0, .int .u32 0, .int .u32 0, .int .u32 0, .int .u32 0, .int .u32 0, .int .u32 0, .int .u32 0, .int .u32 0, .int .u32 0, .int .u32 0, .int .u32 0, .int .u32 0, .int .u32 0, .int .u32 0, .int .u32 0, .int .u32 0, .int .u32 0, .int .u32 0, .int .u32 0, .int .u32 0, .int .u32 0, .int .u32 0, .int .u32 0, .int .u32 0, .int .u32 0, .int .u32 0, .int .u32 0, .int .u32 0, .int .u32 0, .int .u32 0, .int .u32 0], kind := 1, fields := [(0, 25), (33, 25)] }
theorem tok27 : TIok Tryz.prog 27 ti27 := ⟨by kernel_rfl, ⟨_, Tryz.underlying27, rfl, ⟨_, rfl, rfl⟩⟩, by kernel_rfl, by kernel_rfl⟩
def ti28 : TI := { row := true, size := 76, zero := #[.int .i64 0, .string ByteArray.empty, .string ByteArray.empty, .string ByteArray.empty, .int .i64 0, .int .i64 0, .int .i64 0, .bool false, .int .u32 0, .int .u32 0, .int .u32 0, .int .u32 0, .int .u32 0, .int .u32 0, .int .u32 0, .int .u32 0, .int .u32 0, .int .u32 0, .int .u32 0, .int .u32 0, .int .u32 0, .int .u32 0, .int .u32 0, .int .u32 0, .int .u32 0, .int .u32 0, .int .u32 0, .int .u32 0, .int .u32 0, .int .u32 0, .int .u32 0, .int .u32 0, .int .u32 0, .int .u32 0, .int .u32 0, .int .u32 0, .int .u32 0, .int .u32 0, .int .u32 0, .int .u32 0, .bool false, .int .u32 0, .int .u32 0, .int .u32 0, .int .u32 0, .int .u32 0, .int .u32 0, .int .u32 0, .int .u32 0, .int .u32 0, .int .u32 0, .int .u32 0, .int .u32 0, .int .u32 0, .int .u32 0, .int .u32 0, .int .u32 0, .int .u32 0, .int .u32 0, .int .u32 0, .int .u32 0, .int .u32 0, .int .u32 0, .int .u32 0, .int .u32 0, .int .u32 0, .int .u32 0, .int .u32 0, .int .u32 0, .int .u32 0, .int .u32 0, .int .u32 0, .int .u32 0, .string ByteArray.empty, .int .i64 0, .bool false], kind := 1, fields := [(0, 3), (1, 9), (2, 9), (3, 9), (4, 3), (5, 3), (6, 3), (7, 27), (73, 9), (74, 3), (75, 4)] }
theorem tok28 : TIok Tryz.prog 28 ti28 := ⟨by kernel_rfl, ⟨_, Tryz.underlying28, rfl, ⟨_, rfl, rfl⟩⟩, by kernel_rfl, by kernel_rfl⟩
def ti29 : TI := { row := true, size := 76, zero := #[.int .i64 0, .string ByteArray.empty, .string ByteArray.empty, .string ByteArray.empty, .int .i64 0, .int .i64 0, .int .i64 0, .bool false, .int .u32 0, .int .u32 0, .int .u32 0, .int .u32 0, .int .u32 0, .int .u32 0, .int .u32 0, .int .u32 0, .int .u32 0, .int .u32 0, .int .u32 0, .int .u32 0, .int .u32 0, .int .u32 0, .int .u32 0, .int .u32 0, .int .u32 0, .int .u32 0, .int .u32 0, .int .u32 0, .int .u32 0, .int .u32 0, .int .u32 0, .int .u32 0, .int .u32 0, .int .u32 0, .int .u32 0, .int .u32 0, .int .u32 0, .int .u32 0, .int .u32 0, .int .u32 0, .bool false, .int .u32 0, .int .u32 0, .int .u32 0, .int .u32 0, .int .u32 0, .int .u32 0, .int .u32 0, .int .u32 0, .int .u32 0, .int .u32 0, .int .u32 0, .int .u32 0, .int .u32 0, .int .u32 0, .int .u32 0, .int .u32 0, .int .u32 0, .int .u32 0, .int .u32 0, .int .u32 0, .int .u32 0, .int .u32 0, .int .u32 0, .int .u32 0, .int .u32 0, .int .u32 0, .int .u32 0, .int .u32 0, .int .u32 0, .int .u32 0, .int .u32 0, .int .u32 0, .string ByteArray.empty, .int .i64 0, .bool false], kind := 1, fields := [(0, 3), (1, 9), (2, 9), (3, 9), (4, 3), (5, 3), (6, 3), (7, 27), (73, 9), (74, 3), (75, 4)] }
theorem tok29 : TIok Tryz.prog 29 ti29 := ⟨by kernel_rfl, ⟨_, Tryz.underlying29, rfl, ⟨_, rfl, rfl⟩⟩, by kernel_rfl, by kernel_rfl⟩
def ti30 : TI := { row := true, size := 3, zero := #[.string ByteArray.empty, .int .i64 0, .int .i64 0], kind := 1, fields := [(0, 9), (1, 3), (2, 3)] }
theorem tok30 : TIok Tryz.prog 30 ti30 := ⟨by kernel_rfl, ⟨_, Tryz.underlying30, rfl, ⟨_, rfl, rfl⟩⟩, by kernel_rfl, by kernel_rfl⟩
def ti31 : TI := { row := true, size := 3, zero := #[.string ByteArray.empty, .int .i64 0, .int .i64 0], kind := 1, fields := [(0, 9), (1, 3), (2, 3)] }
theorem tok31 : TIok Tryz.prog 31 ti31 := ⟨by kernel_rfl, ⟨_, Tryz.underlying31, rfl, ⟨_, rfl, rfl⟩⟩, by kernel_rfl, by kernel_rfl⟩
def ti32 : TI := { row := false, size := 1, zero := #[.int .i64 0], kind := 4, ik := .i64 }
theorem tok32 : TIok Tryz.prog 32 ti32 := ⟨by kernel_rfl, ⟨_, Tryz.underlying32, rfl, rfl⟩, by kernel_rfl, by kernel_rfl⟩
def ti37 : TI := { row := false, size := 1, zero := #[.nilFunc], kind := 0 }
theorem tok37 : TIok Tryz.prog 37 ti37 := ⟨by kernel_rfl, ⟨_, Tryz.underlying37, rfl, trivial⟩, by kernel_rfl, by kernel_rfl⟩
def ti39 : TI := { row := false, size := 1, zero := #[.slice none 0 0], kind := 3, elem := 3 }
theorem tok39 : TIok Tryz.prog 39 ti39 := ⟨by kernel_rfl, ⟨_, Tryz.underlying39, rfl, rfl⟩, by kernel_rfl, by kernel_rfl⟩
def ti40 : TI := { row := false, size := 1, zero := #[.pointer none], kind := 0 }
theorem tok40 : TIok Tryz.prog 40 ti40 := ⟨by kernel_rfl, ⟨_, Tryz.underlying40, rfl, trivial⟩, by kernel_rfl, by kernel_rfl⟩
def ti41 : TI := { row := true, size := 2, zero := #[.slice none 0 0, .int .i64 0], kind := 1, fields := [(0, 39), (1, 3)] }
theorem tok41 : TIok Tryz.prog 41 ti41 := ⟨by kernel_rfl, ⟨_, Tryz.underlying41, rfl, ⟨_, rfl, rfl⟩⟩, by kernel_rfl, by kernel_rfl⟩
def ti42 : TI := { row := true, size := 2, zero := #[.slice none 0 0, .int .i64 0], kind := 1, fields := [(0, 39), (1, 3)] }
theorem tok42 : TIok Tryz.prog 42 ti42 := ⟨by kernel_rfl, ⟨_, Tryz.underlying42, rfl, ⟨_, rfl, rfl⟩⟩, by kernel_rfl, by kernel_rfl⟩
def ti66 : TI := { row := false, size := 1, zero := #[.slice none 0 0], kind := 3, elem := 29 }
theorem tok66 : TIok Tryz.prog 66 ti66 := ⟨by kernel_rfl, ⟨_, Tryz.underlying66, rfl, rfl⟩, by kernel_rfl, by kernel_rfl⟩
def ti73 : TI := { row := false, size := 1, zero := #[.pointer none], kind := 0 }
theorem tok73 : TIok Tryz.prog 73 ti73 := ⟨by kernel_rfl, ⟨_, Tryz.underlying73, rfl, trivial⟩, by kernel_rfl, by kernel_rfl⟩
def ti76 : TI := { row := true, size := 76, zero := #[.int .i64 0, .string ByteArray.empty, .string ByteArray.empty, .string ByteArray.empty, .int .i64 0, .int .i64 0, .int .i64 0, .bool false, .int .u32 0, .int .u32 0, .int .u32 0, .int .u32 0, .int .u32 0, .int .u32 0, .int .u32 0, .int .u32 0, .int .u32 0, .int .u32 0, .int .u32 0, .int .u32 0, .int .u32 0, .int .u32 0, .int .u32 0, .int .u32 0, .int .u32 0, .int .u32 0, .int .u32 0, .int .u32 0, .int .u32 0, .int .u32 0, .int .u32 0, .int .u32 0, .int .u32 0, .int .u32 0, .int .u32 0, .int .u32 0, .int .u32 0, .int .u32 0, .int .u32 0, .int .u32 0, .bool false, .int .u32 0, .int .u32 0, .int .u32 0, .int .u32 0, .int .u32 0, .int .u32 0, .int .u32 0, .int .u32 0, .int .u32 0, .int .u32 0, .int .u32 0, .int .u32 0, .int .u32 0, .int .u32 0, .int .u32 0, .int .u32 0, .int .u32 0, .int .u32 0, .int .u32 0, .int .u32 0, .int .u32 0, .int .u32 0, .int .u32 0, .int .u32 0, .int .u32 0, .int .u32 0, .int .u32 0, .int .u32 0, .int .u32 0, .int .u32 0, .int .u32 0, .int .u32 0, .string ByteArray.empty, .int .i64 0, .bool false], kind := 1, fields := [(0, 29)] }
theorem tok76 : TIok Tryz.prog 76 ti76 := ⟨by kernel_rfl, ⟨_, Tryz.underlying76, rfl, ⟨_, rfl, rfl⟩⟩, by kernel_rfl, by kernel_rfl⟩
def ti77 : TI := { row := true, size := 76, zero := #[.int .i64 0, .string ByteArray.empty, .string ByteArray.empty, .string ByteArray.empty, .int .i64 0, .int .i64 0, .int .i64 0, .bool false, .int .u32 0, .int .u32 0, .int .u32 0, .int .u32 0, .int .u32 0, .int .u32 0, .int .u32 0, .int .u32 0, .int .u32 0, .int .u32 0, .int .u32 0, .int .u32 0, .int .u32 0, .int .u32 0, .int .u32 0, .int .u32 0, .int .u32 0, .int .u32 0, .int .u32 0, .int .u32 0, .int .u32 0, .int .u32 0, .int .u32 0, .int .u32 0, .int .u32 0, .int .u32 0, .int .u32 0, .int .u32 0, .int .u32 0, .int .u32 0, .int .u32 0, .int .u32 0, .bool false, .int .u32 0, .int .u32 0, .int .u32 0, .int .u32 0, .int .u32 0, .int .u32 0, .int .u32 0, .int .u32 0, .int .u32 0, .int .u32 0, .int .u32 0, .int .u32 0, .int .u32 0, .int .u32 0, .int .u32 0, .int .u32 0, .int .u32 0, .int .u32 0, .int .u32 0, .int .u32 0, .int .u32 0, .int .u32 0, .int .u32 0, .int .u32 0, .int .u32 0, .int .u32 0, .int .u32 0, .int .u32 0, .int .u32 0, .int .u32 0, .int .u32 0, .int .u32 0, .string ByteArray.empty, .int .i64 0, .bool false], kind := 1, fields := [(0, 29)] }
theorem tok77 : TIok Tryz.prog 77 ti77 := ⟨by kernel_rfl, ⟨_, Tryz.underlying77, rfl, ⟨_, rfl, rfl⟩⟩, by kernel_rfl, by kernel_rfl⟩
def ti78 : TI := { row := true, size := 76, zero := #[.int .i64 0, .string ByteArray.empty, .string ByteArray.empty, .string ByteArray.empty, .int .i64 0, .int .i64 0, .int .i64 0, .bool false, .int .u32 0, .int .u32 0, .int .u32 0, .int .u32 0, .int .u32 0, .int .u32 0, .int .u32 0, .int .u32 0, .int .u32 0, .int .u32 0, .int .u32 0, .int .u32 0, .int .u32 0, .int .u32 0, .int .u32 0, .int .u32 0, .int .u32 0, .int .u32 0, .int .u32 0, .int .u32 0, .int .u32 0, .int .u32 0, .int .u32 0, .int .u32 0, .int .u32 0, .int .u32 0, .int .u32 0, .int .u32 0, .int .u32 0, .int .u32 0, .int .u32 0, .int .u32 0, .bool false, .int .u32 0, .int .u32 0, .int .u32 0, .int .u32 0, .int .u32 0, .int .u32 0, .int .u32 0, .int .u32 0, .int .u32 0, .int .u32 0, .int .u32 0, .int .u32 0, .int .u32 0, .int .u32 0, .int .u32 0, .int .u32 0, .int .u32 0, .int .u32 0, .int .u32 0, .int .u32 0, .int .u32 0, .int .u32 0, .int .u32 0, .int .u32 0, .int .u32 0, .int .u32 0, .int .u32 0, .int .u32 0, .int .u32 0, .int .u32 0, .int .u32 0, .int .u32 0, .string ByteArray.empty, .int .i64 0, .bool false], kind := 1, fields := [(0, 77)] }
theorem tok78 : TIok Tryz.prog 78 ti78 := ⟨by kernel_rfl, ⟨_, Tryz.underlying78, rfl, ⟨_, rfl, rfl⟩⟩, by kernel_rfl, by kernel_rfl⟩
def ti79 : TI := { row := true, size := 76, zero := #[.int .i64 0, .string ByteArray.empty, .string ByteArray.empty, .string ByteArray.empty, .int .i64 0, .int .i64 0, .int .i64 0, .bool false, .int .u32 0, .int .u32 0, .int .u32 0, .int .u32 0, .int .u32 0, .int .u32 0, .int .u32 0, .int .u32 0, .int .u32 0, .int .u32 0, .int .u32 0, .int .u32 0, .int .u32 0, .int .u32 0, .int .u32 0, .int .u32 0, .int .u32 0, .int .u32 0, .int .u32 0, .int .u32 0, .int .u32 0, .int .u32 0, .int .u32 0, .int .u32 0, .int .u32 0, .int .u32 0, .int .u32 0, .int .u32 0, .int .u32 0, .int .u32 0, .int .u32 0, .int .u32 0, .bool false, .int .u32 0, .int .u32 0, .int .u32 0, .int .u32 0, .int .u32 0, .int .u32 0, .int .u32 0, .int .u32 0, .int .u32 0, .int .u32 0, .int .u32 0, .int .u32 0, .int .u32 0, .int .u32 0, .int .u32 0, .int .u32 0, .int .u32 0, .int .u32 0, .int .u32 0, .int .u32 0, .int .u32 0, .int .u32 0, .int .u32 0, .int .u32 0, .int .u32 0, .int .u32 0, .int .u32 0, .int .u32 0, .int .u32 0, .int .u32 0, .int .u32 0, .int .u32 0, .string ByteArray.empty, .int .i64 0, .bool false], kind := 1, fields := [(0, 77)] }
theorem tok79 : TIok Tryz.prog 79 ti79 := ⟨by kernel_rfl, ⟨_, Tryz.underlying79, rfl, ⟨_, rfl, rfl⟩⟩, by kernel_rfl, by kernel_rfl⟩
def ti94 : TI := { row := false, size := 1, zero := #[.slice none 0 0], kind := 3, elem := 27 }
theorem tok94 : TIok Tryz.prog 94 ti94 := ⟨by kernel_rfl, ⟨_, Tryz.underlying94, rfl, rfl⟩, by kernel_rfl, by kernel_rfl⟩
def ti104 : TI := { row := true, size := 64, zero := (Array.replicate 64 (.int .u32 0)), kind := 2, len := 64, elem := 22 }
theorem tok104 : TIok Tryz.prog 104 ti104 := ⟨by kernel_rfl, ⟨_, Tryz.underlying104, rfl, rfl⟩, by kernel_rfl, by kernel_rfl⟩
def ti106 : TI := { row := false, size := 1, zero := #[.int .u64 0], kind := 4, ik := .u64 }
theorem tok106 : TIok Tryz.prog 106 ti106 := ⟨by kernel_rfl, ⟨_, Tryz.underlying106, rfl, rfl⟩, by kernel_rfl, by kernel_rfl⟩
def ti107 : TI := { row := false, size := 1, zero := #[.int .u64 0], kind := 4, ik := .u64 }
theorem tok107 : TIok Tryz.prog 107 ti107 := ⟨by kernel_rfl, ⟨_, Tryz.underlying107, rfl, rfl⟩, by kernel_rfl, by kernel_rfl⟩
def ti117 : TI := { row := false, size := 1, zero := #[.slice none 0 0], kind := 3, elem := 140 }
theorem tok117 : TIok Tryz.prog 117 ti117 := ⟨by kernel_rfl, ⟨_, Tryz.underlying117, rfl, rfl⟩, by kernel_rfl, by kernel_rfl⟩
def ti120 : TI := { row := false, size := 1, zero := #[.slice none 0 0], kind := 3, elem := 9 }
theorem tok120 : TIok Tryz.prog 120 ti120 := ⟨by kernel_rfl, ⟨_, Tryz.underlying120, rfl, rfl⟩, by kernel_rfl, by kernel_rfl⟩
def ti121 : TI := { row := true, size := 32, zero := (Array.replicate 32 (.int .u32 0)), kind := 2, len := 32, elem := 22 }
theorem tok121 : TIok Tryz.prog 121 ti121 := ⟨by kernel_rfl, ⟨_, Tryz.underlying121, rfl, rfl⟩, by kernel_rfl, by kernel_rfl⟩
def ti129 : TI := { row := false, size := 1, zero := #[.nilFunc], kind := 0 }
theorem tok129 : TIok Tryz.prog 129 ti129 := ⟨by kernel_rfl, ⟨_, Tryz.underlying129, rfl, trivial⟩, by kernel_rfl, by kernel_rfl⟩
def ti136 : TI := { row := false, size := 1, zero := #[.map none], kind := 0 }
theorem tok136 : TIok Tryz.prog 136 ti136 := ⟨by kernel_rfl, ⟨_, Tryz.underlying136, rfl, trivial⟩, by kernel_rfl, by kernel_rfl⟩
def ti139 : TI := { row := true, size := 3, zero := #[.string ByteArray.empty, .int .i64 0, .bool false], kind := 1, fields := [(0, 9), (1, 3), (2, 4)] }
theorem tok139 : TIok Tryz.prog 139 ti139 := ⟨by kernel_rfl, ⟨_, Tryz.underlying139, rfl, ⟨_, rfl, rfl⟩⟩, by kernel_rfl, by kernel_rfl⟩
def ti140 : TI := { row := true, size := 3, zero := #[.string ByteArray.empty, .int .i64 0, .bool false], kind := 1, fields := [(0, 9), (1, 3), (2, 4)] }
theorem tok140 : TIok Tryz.prog 140 ti140 := ⟨by kernel_rfl, ⟨_, Tryz.underlying140, rfl, ⟨_, rfl, rfl⟩⟩, by kernel_rfl, by kernel_rfl⟩
def ti146 : TI := { row := false, size := 1, zero := #[.pointer none], kind := 0 }
theorem tok146 : TIok Tryz.prog 146 ti146 := ⟨by kernel_rfl, ⟨_, Tryz.underlying146, rfl, trivial⟩, by kernel_rfl, by kernel_rfl⟩
def ti152 : TI := { row := true, size := 35, zero := #[.bool false, .int .u32 0, .int .u32 0, .int .u32 0, .int .u32 0, .int .u32 0, .int .u32 0, .int .u32 0, .int .u32 0, .int .u32 0, .int .u32 0, .int .u32 0, .int .u32 0, .int .u32 0, .int .u32 0, .int .u32 0, .int .u32 0, .int .u32 0, .int .u32 0, .int .u32 0, .int .u32 0, .int .u32 0, .int .u32 0, .int .u32 0, .int .u32 0, .int .u32 0, .int .u32 0, .int .u32 0, .int .u32 0, .int .u32 0, .int .u32 0, .int .u32 0, .int .u32 0, .int .i64 0, .bool false], kind := 1, fields := [(0, 25), (33, 3), (34, 4)] }
theorem tok152 : TIok Tryz.prog 152 ti152 := ⟨by kernel_rfl, ⟨_, Tryz.underlying152, rfl, ⟨_, rfl, rfl⟩⟩, by kernel_rfl, by kernel_rfl⟩
def ti153 : TI := { row := true, size := 35, zero := #[.bool false, .int .u32 0, .int .u32 0, .int .u32 0, .int .u32 0, .int .u32 0, .int .u32 0, .int .u32 0, .int .u32 0, .int .u32 0, .int .u32 0, .int .u32 0, .int .u32 0, .int .u32 0, .int .u32 0, .int .u32 0, .int .u32 0, .int .u32 0, .int .u32 0, .int .u32 0, .int .u32 0, .int .u32 0, .int .u32 0, .int .u32 0, .int .u32 0, .int .u32 0, .int .u32 0, .int .u32 0, .int .u32 0, .int .u32 0, .int .u32 0, .int .u32 0, .int .u32 0, .int .i64 0, .bool false], kind := 1, fields := [(0, 25), (33, 3), (34, 4)] }
theorem tok153 : TIok Tryz.prog 153 ti153 := ⟨by kernel_rfl, ⟨_, Tryz.underlying153, rfl, ⟨_, rfl, rfl⟩⟩, by kernel_rfl, by kernel_rfl⟩
def ti164 : TI := { row := false, size := 1, zero := #[.slice none 0 0], kind := 3, elem := 22 }
theorem tok164 : TIok Tryz.prog 164 ti164 := ⟨by kernel_rfl, ⟨_, Tryz.underlying164, rfl, rfl⟩, by kernel_rfl, by kernel_rfl⟩
def ti167 : TI := { row := true, size := 33, zero := (Array.replicate 33 (.int .u32 0)), kind := 2, len := 33, elem := 22 }
theorem tok167 : TIok Tryz.prog 167 ti167 := ⟨by kernel_rfl, ⟨_, Tryz.underlying167, rfl, rfl⟩, by kernel_rfl, by kernel_rfl⟩
def ti175 : TI := { row := false, size := 1, zero := #[.int .i64 0], kind := 4, ik := .i64 }
theorem tok175 : TIok Tryz.prog 175 ti175 := ⟨by kernel_rfl, ⟨_, Tryz.underlying175, rfl, rfl⟩, by kernel_rfl, by kernel_rfl⟩
def ti189 : TI := { row := false, size := 1, zero := #[.int .u64 0], kind := 4, ik := .u64 }
theorem tok189 : TIok Tryz.prog 189 ti189 := ⟨by kernel_rfl, ⟨_, Tryz.underlying189, rfl, rfl⟩, by kernel_rfl, by kernel_rfl⟩
def ti193 : TI := { row := false, size := 1, zero := #[.pointer none], kind := 0 }
theorem tok193 : TIok Tryz.prog 193 ti193 := ⟨by kernel_rfl, ⟨_, Tryz.underlying193, rfl, trivial⟩, by kernel_rfl, by kernel_rfl⟩
def ti195 : TI := { row := false, size := 1, zero := #[.slice none 0 0], kind := 3, elem := 5 }
theorem tok195 : TIok Tryz.prog 195 ti195 := ⟨by kernel_rfl, ⟨_, Tryz.underlying195, rfl, rfl⟩, by kernel_rfl, by kernel_rfl⟩
def ti198 : TI := { row := true, size := 256, zero := (Array.replicate 256 (.bool false)), kind := 2, len := 256, elem := 4 }
theorem tok198 : TIok Tryz.prog 198 ti198 := ⟨by kernel_rfl, ⟨_, Tryz.underlying198, rfl, rfl⟩, by kernel_rfl, by kernel_rfl⟩
def ti199 : TI := { row := true, size := 256, zero := (Array.replicate 256 (.bool false)), kind := 2, len := 256, elem := 4 }
theorem tok199 : TIok Tryz.prog 199 ti199 := ⟨by kernel_rfl, ⟨_, Tryz.underlying199, rfl, rfl⟩, by kernel_rfl, by kernel_rfl⟩
def ti205 : TI := { row := false, size := 1, zero := #[.nilIface], kind := 0 }
theorem tok205 : TIok Tryz.prog 205 ti205 := ⟨by kernel_rfl, ⟨_, Tryz.underlying205, rfl, trivial⟩, by kernel_rfl, by kernel_rfl⟩
def ti206 : TI := { row := false, size := 1, zero := #[.pointer none], kind := 0 }
theorem tok206 : TIok Tryz.prog 206 ti206 := ⟨by kernel_rfl, ⟨_, Tryz.underlying206, rfl, trivial⟩, by kernel_rfl, by kernel_rfl⟩
def ti214 : TI := { row := true, size := 2, zero := #[.pointer none, .slice none 0 0], kind := 1, fields := [(0, 212), (1, 195)] }
theorem tok214 : TIok Tryz.prog 214 ti214 := ⟨by kernel_rfl, ⟨_, Tryz.underlying214, rfl, ⟨_, rfl, rfl⟩⟩, by kernel_rfl, by kernel_rfl⟩
def ti224 : TI := { row := false, size := 1, zero := #[.pointer none], kind := 0 }
theorem tok224 : TIok Tryz.prog 224 ti224 := ⟨by kernel_rfl, ⟨_, Tryz.underlying224, rfl, trivial⟩, by kernel_rfl, by kernel_rfl⟩
def ti232 : TI := { row := true, size := 256, zero := (Array.replicate 256 (.int .u8 0)), kind := 2, len := 256, elem := 5 }
theorem tok232 : TIok Tryz.prog 232 ti232 := ⟨by kernel_rfl, ⟨_, Tryz.underlying232, rfl, rfl⟩, by kernel_rfl, by kernel_rfl⟩
def ti233 : TI := { row := true, size := 2, zero := #[.int .u8 0, .int .u8 0], kind := 1, fields := [(0, 5), (1, 5)] }
theorem tok233 : TIok Tryz.prog 233 ti233 := ⟨by kernel_rfl, ⟨_, Tryz.underlying233, rfl, ⟨_, rfl, rfl⟩⟩, by kernel_rfl, by kernel_rfl⟩
def ti249 : TI := { row := true, size := 1, zero := #[.string ByteArray.empty], kind := 1, fields := [(0, 9)] }
theorem tok249 : TIok Tryz.prog 249 ti249 := ⟨by kernel_rfl, ⟨_, Tryz.underlying249, rfl, ⟨_, rfl, rfl⟩⟩, by kernel_rfl, by kernel_rfl⟩
def tt_0 : TypeId → Option TI
  | 2 => some ti2
  | 3 => some ti3
  | 4 => some ti4
  | 5 => some ti5
  | 9 => some ti9
  | 12 => some ti12
  | 13 => some ti13
  | 21 => some ti21
  | 22 => some ti22
  | 23 => some ti23
  | 24 => some ti24
  | 25 => some ti25
  | 26 => some ti26
  | 27 => some ti27
  | 28 => some ti28
  | 29 => some ti29
  | _ => none
theorem tt_0_ok : TTok Tryz.prog tt_0 := by
  intro ty i h
  unfold tt_0 at h
  split at h
  · cases h; exact tok2
  · cases h; exact tok3
  · cases h; exact tok4
  · cases h; exact tok5
  · cases h; exact tok9
  · cases h; exact tok12
  · cases h; exact tok13
  · cases h; exact tok21
  · cases h; exact tok22
  · cases h; exact tok23
  · cases h; exact tok24
  · cases h; exact tok25
  · cases h; exact tok26
  · cases h; exact tok27
  · cases h; exact tok28
  · cases h; exact tok29
  · cases h
def tt_1 : TypeId → Option TI
  | 30 => some ti30
  | 31 => some ti31
  | 32 => some ti32
  | 37 => some ti37
  | 39 => some ti39
  | 40 => some ti40
  | 41 => some ti41
  | 42 => some ti42
  | 66 => some ti66
  | 73 => some ti73
  | 76 => some ti76
  | 77 => some ti77
  | 78 => some ti78
  | 79 => some ti79
  | 94 => some ti94
  | 104 => some ti104
  | _ => none
theorem tt_1_ok : TTok Tryz.prog tt_1 := by
  intro ty i h
  unfold tt_1 at h
  split at h
  · cases h; exact tok30
  · cases h; exact tok31
  · cases h; exact tok32
  · cases h; exact tok37
  · cases h; exact tok39
  · cases h; exact tok40
  · cases h; exact tok41
  · cases h; exact tok42
  · cases h; exact tok66
  · cases h; exact tok73
  · cases h; exact tok76
  · cases h; exact tok77
  · cases h; exact tok78
  · cases h; exact tok79
  · cases h; exact tok94
  · cases h; exact tok104
  · cases h
def tt_2 : TypeId → Option TI
  | 106 => some ti106
  | 107 => some ti107
  | 117 => some ti117
  | 120 => some ti120
  | 121 => some ti121
  | 129 => some ti129
  | 136 => some ti136
  | 139 => some ti139
  | 140 => some ti140
  | 146 => some ti146
  | 152 => some ti152
  | 153 => some ti153
  | 164 => some ti164
  | 167 => some ti167
  | 175 => some ti175
  | 189 => some ti189
  | _ => none
theorem tt_2_ok : TTok Tryz.prog tt_2 := by
  intro ty i h
  unfold tt_2 at h
  split at h
  · cases h; exact tok106
  · cases h; exact tok107
  · cases h; exact tok117
  · cases h; exact tok120
  · cases h; exact tok121
  · cases h; exact tok129
  · cases h; exact tok136
  · cases h; exact tok139
  · cases h; exact tok140
  · cases h; exact tok146
  · cases h; exact tok152
  · cases h; exact tok153
  · cases h; exact tok164
  · cases h; exact tok167
  · cases h; exact tok175
  · cases h; exact tok189
  · cases h
def tt_3 : TypeId → Option TI
  | 193 => some ti193
  | 195 => some ti195
  | 198 => some ti198
  | 199 => some ti199
  | 205 => some ti205
  | 206 => some ti206
  | 214 => some ti214
  | 224 => some ti224
  | 232 => some ti232
  | 233 => some ti233
  | 249 => some ti249
  | _ => none
theorem tt_3_ok : TTok Tryz.prog tt_3 := by
  intro ty i h
  unfold tt_3 at h
  split at h
  · cases h; exact tok193
  · cases h; exact tok195
  · cases h; exact tok198
  · cases h; exact tok199
  · cases h; exact tok205
  · cases h; exact tok206
  · cases h; exact tok214
  · cases h; exact tok224
  · cases h; exact tok232
  · cases h; exact tok233
  · cases h; exact tok249
  · cases h
def tt (ty : TypeId) : Option TI :=
  if Nat.ble ty 29 then tt_0 ty else
  if Nat.ble ty 104 then tt_1 ty else
  if Nat.ble ty 189 then tt_2 ty else
  tt_3 ty
theorem tt_ok : TTok Tryz.prog tt := by
  intro ty i h
  unfold tt at h
  split at h
  · exact tt_0_ok ty i h
  split at h
  · exact tt_1_ok ty i h
  split at h
  · exact tt_2_ok ty i h
  exact tt_3_ok ty i h
theorem mixed : Tryz.prog.follows .mixedOrders = true := by kernel_rfl
end Go.Proofs.YtnfmpddhcjkjbaaGreatDoor
