/- The table of the types, printed by program. Where each function lies in the program, printed by program; no condition. -/
import Derived.Test.YtinojijgeabfnaaGreatDoorP8
import Derived.Test.YtinojijgeabfnaaGreatDoorProg
namespace Go.Proofs.YtinojijgeabfnaaGreatDoor
open Go Go.SX
def ti2 : TI := { row := false, size := 1, zero := #[.int .i64 0], kind := 4, ik := .i64 }
theorem tok2 : TIok Tryz.prog 2 ti2 := ⟨by kernel_rfl, ⟨_, Tryz.underlying2, rfl, rfl⟩, by kernel_rfl, by kernel_rfl⟩
def ti3 : TI := { row := false, size := 1, zero := #[.int .i64 0], kind := 4, ik := .i64 }
theorem tok3 : TIok Tryz.prog 3 ti3 := ⟨by kernel_rfl, ⟨_, Tryz.underlying3, rfl, rfl⟩, by kernel_rfl, by kernel_rfl⟩
def ti4 : TI := { row := false, size := 1, zero := #[.bool false], kind := 5 }
theorem tok4 : TIok Tryz.prog 4 ti4 := ⟨by kernel_rfl, ⟨_, Tryz.underlying4, rfl, rfl⟩, by kernel_rfl, by kernel_rfl⟩
def ti5 : TI := { row := false, size := 1, zero := #[.int .u8 0], kind := 4, ik := .u8 }
theorem tok5 : TIok Tryz.prog 5 ti5 := ⟨by kernel_rfl, ⟨_, Tryz.underlying5, rfl, rfl⟩, by kernel_rfl, by kernel_rfl⟩
def ti9 : TI := { row := false, size := 1, zero := #[.string ByteArray.empty], kind := 0 }
theorem tok9 : TIok Tryz.prog 9 ti9 := ⟨by kernel_rfl, ⟨_, Tryz.underlying9, rfl, trivial⟩, by kernel_rfl, by kernel_rfl⟩
def ti12 : TI := { row := false, size := 1, zero := #[.int .u64 0], kind := 4, ik := .u64 }
theorem tok12 : TIok Tryz.prog 12 ti12 := ⟨by kernel_rfl, ⟨_, Tryz.underlying12, rfl, rfl⟩, by kernel_rfl, by kernel_rfl⟩
def ti13 : TI := { row := true, size := 2, zero := #[.string ByteArray.empty, .int .u64 0], kind := 1, fields := [(0, 9), (1, 12)] }
theorem tok13 : TIok Tryz.prog 13 ti13 := ⟨by kernel_rfl, ⟨_, Tryz.underlying13, rfl, ⟨_, rfl, rfl⟩⟩, by kernel_rfl, by kernel_rfl⟩
def ti21 : TI := { row := false, size := 1, zero := #[.int .i32 0], kind := 4, ik := .i32 }
theorem tok21 : TIok Tryz.prog 21 ti21 := ⟨by kernel_rfl, ⟨_, Tryz.underlying21, rfl, rfl⟩, by kernel_rfl, by kernel_rfl⟩
def ti22 : TI := { row := false, size := 1, zero := #[.slice none 0 0], kind := 3, elem := 40 }
theorem tok22 : TIok Tryz.prog 22 ti22 := ⟨by kernel_rfl, ⟨_, Tryz.underlying22, rfl, rfl⟩, by kernel_rfl, by kernel_rfl⟩
def ti23 : TI := { row := false, size := 1, zero := #[.slice none 0 0], kind := 3, elem := 9 }
theorem tok23 : TIok Tryz.prog 23 ti23 := ⟨by kernel_rfl, ⟨_, Tryz.underlying23, rfl, rfl⟩, by kernel_rfl, by kernel_rfl⟩
def ti24 : TI := { row := false, size := 1, zero := #[.int .u32 0], kind := 4, ik := .u32 }
theorem tok24 : TIok Tryz.prog 24 ti24 := ⟨by kernel_rfl, ⟨_, Tryz.underlying24, rfl, rfl⟩, by kernel_rfl, by kernel_rfl⟩
def ti25 : TI := { row := true, size := 32, zero := (Array.replicate 32 (.int .u32 0)), kind := 2, len := 32, elem := 24 }
theorem tok25 : TIok Tryz.prog 25 ti25 := ⟨by kernel_rfl, ⟨_, Tryz.underlying25, rfl, rfl⟩, by kernel_rfl, by kernel_rfl⟩
def ti26 : TI := { row := true, size := 33, zero := #[.bool false, .int .u32 0, .int .u32 0, .int .u32 0, .int .u32 0, .int .u32 0, .int .u32 0, .int .u32 0, .int .u32 0, .int .u32 0, .int .u32 0, .int .u32 0, .int .u32 0, .int .u32 0, .int .u32 0, .int .u32 0, .int .u32 0, .int .u32 0, .int .u32 0, .int .u32 0, .int .u32 0, .int .u32 0, .int .u32 0, .int .u32 0, .int .u32 0, .int .u32 0, .int .u32 0, .int .u32 0, .int .u32 0, .int .u32 0, .int .u32 0, .int .u32 0, .int .u32 0], kind := 1, fields := [(0, 4), (1, 25)] }
theorem tok26 : TIok Tryz.prog 26 ti26 := ⟨by kernel_rfl, ⟨_, Tryz.underlying26, rfl, ⟨_, rfl, rfl⟩⟩, by kernel_rfl, by kernel_rfl⟩
def ti27 : TI := { row := true, size := 33, zero := #[.bool false, .int .u32 0, .int .u32 0, .int .u32 0, .int .u32 0, .int .u32 0, .int .u32 0, .int .u32 0, .int .u32 0, .int .u32 0, .int .u32 0, .int .u32 0, .int .u32 0, .int .u32 0, .int .u32 0, .int .u32 0, .int .u32 0, .int .u32 0, .int .u32 0, .int .u32 0, .int .u32 0, .int .u32 0, .int .u32 0, .int .u32 0, .int .u32 0, .int .u32 0, .int .u32 0, .int .u32 0, .int .u32 0, .int .u32 0, .int .u32 0, .int .u32 0, .int .u32 0], kind := 1, fields := [(0, 4), (1, 25)] }
theorem tok27 : TIok Tryz.prog 27 ti27 := ⟨by kernel_rfl, ⟨_, Tryz.underlying27, rfl, ⟨_, rfl, rfl⟩⟩, by kernel_rfl, by kernel_rfl⟩
def ti28 : TI := { row := true, size := 66, zero := #[.bool false, .int .u32 0, .int .u32 0, .int .u32 0, .int .u32 0, .int .u32 0, .int .u32 0, .int .u32 0, .int .u32 0, .int .u32 0, .int .u32 0, .int .u32 0, .int .u32 0, .int .u32 0, .int .u32 0, .int .u32 0, .int .u32 0, .int .u32 0, .int .u32 0, .int .u32 0, .int .u32 0, .int .u32 0, .int .u32 0, .int .u32 0, .int .u32 0, .int .u32 0, .int .u32 0, .int .u32 0, .int .u32 0, .int .u32 0, .int .u32 0, .int .u32 0, .int .u32 0, .bool false, .int .u32 0, .int .u32 0, .int .u32 0, .int .u32 0, .int .u32 0, .int .u32 0, .int .u32 0, .int .u32 0, .int .u32 0, .int .u32 0, .int .u32 0, .int .u32 0, .int .u32 0, .int .u32 0, .int .u32 0, .int .u32 0, .int .u32 0, .int .u32 0, .int .u32 0, .int .u32 0, .int .u32 0, .int .u32 0, .int .u32 0, .int .u32 0, .int .u32 0, .int .u32 0, .int .u32 0, .int .u32 0, .int .u32 0, .int .u32 0, .int .u32 0, .int .u32 0], kind := 1, fields := [(0, 27), (33, 27)] }
theorem tok28 : TIok Tryz.prog 28 ti28 := ⟨by kernel_rfl, ⟨_, Tryz.underlying28, rfl, ⟨_, rfl, rfl⟩⟩, by kernel_rfl, by kernel_rfl⟩
def ti29 : TI := { row := true, size := 66, zero := #[.bool false, .int .u32 0, .int .u32 0, .int .u32 0, .int .u32 0, .int .u32 0, .int .u32 0, .int .u32 0, .int .u32 0, .int .u32 0, .int .u32 0, .int .u32 0, .int .u32 0, .int .u32 0, .int .u32 0, .int .u32 0, .int .u32 0, .int .u32 0, .int .u32 0, .int .u32 0, .int .u32 0, .int .u32 0, .int .u32 0, .int .u32 0, .int .u32 0, .int .u32 0, .int .u32 0, .int .u32 0, .int .u32 0, .int .u32 0, .int .u32 0, .int .u32 0, .int .u32 0, .bool false, .int .u32 0, .int .u32 0, .int .u32 0, .int .u32 0, .int .u32 0, .int .u32 0, .int .u32 0, .int .u32 0, .int .u32 0, .int .u32 0, .int .u32 0, .int .u32 0, .int .u32 0, .int .u32 0, .int .u32 0, .int .u32 0, .int .u32 0, .int .u32 0, .int .u32 0, .int .u32 0, .int .u32 0, .int .u32 0, .int .u32 0, .int .u32 0, .int .u32 0, .int .u32 0, .int .u32 0, .int .u32 0, .int .u32 0, .int .u32 0, .int .u32 0, .int .u32 0], kind := 1, fields := [(0, 27), (33, 27)] }
theorem tok29 : TIok Tryz.prog 29 ti29 := ⟨by kernel_rfl, ⟨_, Tryz.underlying29, rfl, ⟨_, rfl, rfl⟩⟩, by kernel_rfl, by kernel_rfl⟩
def ti30 : TI := { row := true, size := 68, zero := #[.slice none 0 0, .bool false, .int .u32 0, .int .u32 0, .int .u32 0, .int .u32 0, .int .u32 0, .int .u32 0, .int .u32 0, .int .u32 0, .int .u32 0, .int .u32 0, .int .u32 0, .int .u32 0, .int .u32 0, .int .u32 0, .int .u32 0, .int .u32 0, .int .u32 0, .int .u32 0, .int .u32 0, .int .u32 0, .int .u32 0, .int .u32 0, .int .u32 0, .int .u32 0, .int .u32 0, .int .u32 0, .int .u32 0, .int .u32 0, .int .u32 0, .int .u32 0, .int .u32 0, .int .u32 0, .bool false, .int .u32 0, .int .u32 0, .int .u32 0, .int .u32 0, .int .u32 0, .int .u32 0, .int .u32 0, .int .u32 0, .int .u32 0, .int .u32 0, .int .u32 0, .int .u32 0, .int .u32 0, .int .u32 0, .int .u32 0, .int .u32 0, .int .u32 0, .int .u32 0, .int .u32 0, .int .u32 0, .int .u32 0, .int .u32 0, .int .u32 0, .int .u32 0, .int .u32 0, .int .u32 0, .int .u32 0, .int .u32 0, .int .u32 0, .int .u32 0, .int .u32 0, .int .u32 0, .int .i64 0], kind := 1, fields := [(0, 23), (1, 29), (67, 3)] }
theorem tok30 : TIok Tryz.prog 30 ti30 := ⟨by kernel_rfl, ⟨_, Tryz.underlying30, rfl, ⟨_, rfl, rfl⟩⟩, by kernel_rfl, by kernel_rfl⟩
def ti31 : TI := { row := true, size := 68, zero := #[.slice none 0 0, .bool false, .int .u32 0, .int .u32 0, .int .u32 0, .int .u32 0, .int .u32 0, .int .u32 0, .int .u32 0, .int .u32 0, .int .u32 0, .int .u32 0, .int .u32 0, .int .u32 0, .int .u32 0, .int .u32 0, .int .u32 0, .int .u32 0, .int .u32 0, .int .u32 0, .int .u32 0, .int .u32 0, .int .u32 0, .int .u32 0, .int .u32 0, .int .u32 0, .int .u32 0, .int .u32 0, .int .u32 0, .int .u32 0, .int .u32 0, .int .u32 0, .int .u32 0, .int .u32 0, .bool false, .int .u32 0, .int .u32 0, .int .u32 0, .int .u32 0, .int .u32 0, .int .u32 0, .int .u32 0, .int .u32 0, .int .u32 0, .int .u32 0, .int .u32 0, .int .u32 0, .int .u32 0, .int .u32 0, .int .u32 0, .int .u32 0, .int .u32 0, .int .u32 0, .int .u32 0, .int .u32 0, .int .u32 0, .int .u32 0, .int .u32 0, .int .u32 0, .int .u32 0, .int .u32 0, .int .u32 0, .int .u32 0, .int .u32 0, .int .u32 0, .int .u32 0, .int .u32 0, .int .i64 0], kind := 1, fields := [(0, 23), (1, 29), (67, 3)] }
theorem tok31 : TIok Tryz.prog 31 ti31 := ⟨by kernel_rfl, ⟨_, Tryz.underlying31, rfl, ⟨_, rfl, rfl⟩⟩, by kernel_rfl, by kernel_rfl⟩
def ti32 : TI := { row := true, size := 70, zero := #[.string ByteArray.empty, .string ByteArray.empty, .int .i64 0, .bool false, .int .u32 0, .int .u32 0, .int .u32 0, .int .u32 0, .int .u32 0, .int .u32 0, .int .u32 0, .int .u32 0, .int .u32 0, .int .u32 0, .int .u32 0, .int .u32 0, .int .u32 0, .int .u32 0, .int .u32 0, .int .u32 0, .int .u32 0, .int .u32 0, .int .u32 0, .int .u32 0, .int .u32 0, .int .u32 0, .int .u32 0, .int .u32 0, .int .u32 0, .int .u32 0, .int .u32 0, .int .u32 0, .int .u32 0, .int .u32 0, .int .u32 0, .int .u32 0, .bool false, .int .u32 0, .int .u32 0, .int .u32 0, .int .u32 0, .int .u32 0, .int .u32 0, .int .u32 0, .int .u32 0, .int .u32 0, .int .u32 0, .int .u32 0, .int .u32 0, .int .u32 0, .int .u32 0, .int .u32 0, .int .u32 0, .int .u32 0, .int .u32 0, .int .u32 0, .int .u32 0, .int .u32 0, .int .u32 0, .int .u32 0, .int .u32 0, .int .u32 0, .int .u32 0, .int .u32 0, .int .u32 0, .int .u32 0, .int .u32 0, .int .u32 0, .int .u32 0, .slice none 0 0], kind := 1, fields := [(0, 9), (1, 9), (2, 3), (3, 29), (69, 23)] }
theorem tok32 : TIok Tryz.prog 32 ti32 := ⟨by kernel_rfl, ⟨_, Tryz.underlying32, rfl, ⟨_, rfl, rfl⟩⟩, by kernel_rfl, by kernel_rfl⟩
def ti33 : TI := { row := true, size := 70, zero := #[.string ByteArray.empty, .string ByteArray.empty, .int .i64 0, .bool false, .int .u32 0, .int .u32 0, .int .u32 0, .int .u32 0, .int .u32 0, .int .u32 0, .int .u32 0, .int .u32 0, .int .u32 0, .int .u32 0, .int .u32 0, .int .u32 0, .int .u32 0, .int .u32 0, .int .u32 0, .int .u32 0, .int .u32 0, .int .u32 0, .int .u32 0, .int .u32 0, .int .u32 0, .int .u32 0, .int .u32 0, .int .u32 0, .int .u32 0, .int .u32 0, .int .u32 0, .int .u32 0, .int .u32 0, .int .u32 0, .int .u32 0, .int .u32 0, .bool false, .int .u32 0, .int .u32 0, .int .u32 0, .int .u32 0, .int .u32 0, .int .u32 0, .int .u32 0, .int .u32 0, .int .u32 0, .int .u32 0, .int .u32 0, .int .u32 0, .int .u32 0, .int .u32 0, .int .u32 0, .int .u32 0, .int .u32 0, .int .u32 0, .int .u32 0, .int .u32 0, .int .u32 0, .int .u32 0, .int .u32 0, .int .u32 0, .int .u32 0, .int .u32 0, .int .u32 0, .int .u32 0, .int .u32 0, .int .u32 0, .int .u32 0, .int .u32 0, .slice none 0 0], kind := 1, fields := [(0, 9), (1, 9), (2, 3), (3, 29), (69, 23)] }
theorem tok33 : TIok Tryz.prog 33 ti33 := ⟨by kernel_rfl, ⟨_, Tryz.underlying33, rfl, ⟨_, rfl, rfl⟩⟩, by kernel_rfl, by kernel_rfl⟩
def ti34 : TI := { row := false, size := 1, zero := #[.int .i64 0], kind := 4, ik := .i64 }
theorem tok34 : TIok Tryz.prog 34 ti34 := ⟨by kernel_rfl, ⟨_, Tryz.underlying34, rfl, rfl⟩, by kernel_rfl, by kernel_rfl⟩
def ti39 : TI := { row := true, size := 72, zero := #[.string ByteArray.empty, .string ByteArray.empty, .string ByteArray.empty, .int .i64 0, .bool false, .int .u32 0, .int .u32 0, .int .u32 0, .int .u32 0, .int .u32 0, .int .u32 0, .int .u32 0, .int .u32 0, .int .u32 0, .int .u32 0, .int .u32 0, .int .u32 0, .int .u32 0, .int .u32 0, .int .u32 0, .int .u32 0, .int .u32 0, .int .u32 0, .int .u32 0, .int .u32 0, .int .u32 0, .int .u32 0, .int .u32 0, .int .u32 0, .int .u32 0, .int .u32 0, .int .u32 0, .int .u32 0, .int .u32 0, .int .u32 0, .int .u32 0, .int .u32 0, .bool false, .int .u32 0, .int .u32 0, .int .u32 0, .int .u32 0, .int .u32 0, .int .u32 0, .int .u32 0, .int .u32 0, .int .u32 0, .int .u32 0, .int .u32 0, .int .u32 0, .int .u32 0, .int .u32 0, .int .u32 0, .int .u32 0, .int .u32 0, .int .u32 0, .int .u32 0, .int .u32 0, .int .u32 0, .int .u32 0, .int .u32 0, .int .u32 0, .int .u32 0, .int .u32 0, .int .u32 0, .int .u32 0, .int .u32 0, .int .u32 0, .int .u32 0, .int .u32 0, .int .i64 0, .bool false], kind := 1, fields := [(0, 9), (1, 9), (2, 9), (3, 3), (4, 29), (70, 3), (71, 4)] }
theorem tok39 : TIok Tryz.prog 39 ti39 := ⟨by kernel_rfl, ⟨_, Tryz.underlying39, rfl, ⟨_, rfl, rfl⟩⟩, by kernel_rfl, by kernel_rfl⟩
def ti40 : TI := { row := true, size := 72, zero := #[.string ByteArray.empty, .string ByteArray.empty, .string ByteArray.empty, .int .i64 0, .bool false, .int .u32 0, .int .u32 0, .int .u32 0, .int .u32 0, .int .u32 0, .int .u32 0, .int .u32 0, .int .u32 0, .int .u32 0, .int .u32 0, .int .u32 0, .int .u32 0, .int .u32 0, .int .u32 0, .int .u32 0, .int .u32 0, .int .u32 0, .int .u32 0, .int .u32 0, .int .u32 0, .int .u32 0, .int .u32 0, .int .u32 0, .int .u32 0, .int .u32 0, .int .u32 0, .int .u32 0, .int .u32 0, .int .u32 0, .int .u32 0, .int .u32 0, .int .u32 0, .bool false, .int .u32 0, .int .u32 0, .int .u32 0, .int .u32 0, .int .u32 0, .int .u32 0, .int .u32 0, .int .u32 0, .int .u32 0, .int .u32 0, .int .u32 0, .int .u32 0, .int .u32 0, .int .u32 0, .int .u32 0, .int .u32 0, .int .u32 0, .int .u32 0, .int .u32 0, .int .u32 0, .int .u32 0, .int .u32 0, .int .u32 0, .int .u32 0, .int .u32 0, .int .u32 0, .int .u32 0, .int .u32 0, .int .u32 0, .int .u32 0, .int .u32 0, .int .u32 0, .int .i64 0, .bool false], kind := 1, fields := [(0, 9), (1, 9), (2, 9), (3, 3), (4, 29), (70, 3), (71, 4)] }
theorem tok40 : TIok Tryz.prog 40 ti40 := ⟨by kernel_rfl, ⟨_, Tryz.underlying40, rfl, ⟨_, rfl, rfl⟩⟩, by kernel_rfl, by kernel_rfl⟩
def ti41 : TI := { row := false, size := 1, zero := #[.nilFunc], kind := 0 }
theorem tok41 : TIok Tryz.prog 41 ti41 := ⟨by kernel_rfl, ⟨_, Tryz.underlying41, rfl, trivial⟩, by kernel_rfl, by kernel_rfl⟩
def ti45 : TI := { row := false, size := 1, zero := #[.slice none 0 0], kind := 3, elem := 3 }
theorem tok45 : TIok Tryz.prog 45 ti45 := ⟨by kernel_rfl, ⟨_, Tryz.underlying45, rfl, rfl⟩, by kernel_rfl, by kernel_rfl⟩
def ti46 : TI := { row := false, size := 1, zero := #[.pointer none], kind := 0 }
theorem tok46 : TIok Tryz.prog 46 ti46 := ⟨by kernel_rfl, ⟨_, Tryz.underlying46, rfl, trivial⟩, by kernel_rfl, by kernel_rfl⟩
def ti47 : TI := { row := true, size := 2, zero := #[.slice none 0 0, .int .i64 0], kind := 1, fields := [(0, 45), (1, 3)] }
theorem tok47 : TIok Tryz.prog 47 ti47 := ⟨by kernel_rfl, ⟨_, Tryz.underlying47, rfl, ⟨_, rfl, rfl⟩⟩, by kernel_rfl, by kernel_rfl⟩
def ti48 : TI := { row := true, size := 2, zero := #[.slice none 0 0, .int .i64 0], kind := 1, fields := [(0, 45), (1, 3)] }
theorem tok48 : TIok Tryz.prog 48 ti48 := ⟨by kernel_rfl, ⟨_, Tryz.underlying48, rfl, ⟨_, rfl, rfl⟩⟩, by kernel_rfl, by kernel_rfl⟩
def ti95 : TI := { row := false, size := 1, zero := #[.slice none 0 0], kind := 3, elem := 29 }
theorem tok95 : TIok Tryz.prog 95 ti95 := ⟨by kernel_rfl, ⟨_, Tryz.underlying95, rfl, rfl⟩, by kernel_rfl, by kernel_rfl⟩
def ti109 : TI := { row := false, size := 1, zero := #[.slice none 0 0], kind := 3, elem := 134 }
theorem tok109 : TIok Tryz.prog 109 ti109 := ⟨by kernel_rfl, ⟨_, Tryz.underlying109, rfl, rfl⟩, by kernel_rfl, by kernel_rfl⟩
def ti126 : TI := { row := false, size := 1, zero := #[.nilFunc], kind := 0 }
theorem tok126 : TIok Tryz.prog 126 ti126 := ⟨by kernel_rfl, ⟨_, Tryz.underlying126, rfl, trivial⟩, by kernel_rfl, by kernel_rfl⟩
def ti129 : TI := { row := false, size := 1, zero := #[.map none], kind := 0 }
theorem tok129 : TIok Tryz.prog 129 ti129 := ⟨by kernel_rfl, ⟨_, Tryz.underlying129, rfl, trivial⟩, by kernel_rfl, by kernel_rfl⟩
def ti133 : TI := { row := true, size := 3, zero := #[.string ByteArray.empty, .int .i64 0, .bool false], kind := 1, fields := [(0, 9), (1, 3), (2, 4)] }
theorem tok133 : TIok Tryz.prog 133 ti133 := ⟨by kernel_rfl, ⟨_, Tryz.underlying133, rfl, ⟨_, rfl, rfl⟩⟩, by kernel_rfl, by kernel_rfl⟩
def ti134 : TI := { row := true, size := 3, zero := #[.string ByteArray.empty, .int .i64 0, .bool false], kind := 1, fields := [(0, 9), (1, 3), (2, 4)] }
theorem tok134 : TIok Tryz.prog 134 ti134 := ⟨by kernel_rfl, ⟨_, Tryz.underlying134, rfl, ⟨_, rfl, rfl⟩⟩, by kernel_rfl, by kernel_rfl⟩
def ti147 : TI := { row := true, size := 32, zero := (Array.replicate 32 (.int .u32 0)), kind := 2, len := 32, elem := 24 }
theorem tok147 : TIok Tryz.prog 147 ti147 := ⟨by kernel_rfl, ⟨_, Tryz.underlying147, rfl, rfl⟩, by kernel_rfl, by kernel_rfl⟩
def ti151 : TI := { row := false, size := 1, zero := #[.pointer none], kind := 0 }
theorem tok151 : TIok Tryz.prog 151 ti151 := ⟨by kernel_rfl, ⟨_, Tryz.underlying151, rfl, trivial⟩, by kernel_rfl, by kernel_rfl⟩
def ti152 : TI := { row := false, size := 1, zero := #[.int .u64 0], kind := 4, ik := .u64 }
theorem tok152 : TIok Tryz.prog 152 ti152 := ⟨by kernel_rfl, ⟨_, Tryz.underlying152, rfl, rfl⟩, by kernel_rfl, by kernel_rfl⟩
def ti154 : TI := { row := false, size := 1, zero := #[.int .u64 0], kind := 4, ik := .u64 }
theorem tok154 : TIok Tryz.prog 154 ti154 := ⟨by kernel_rfl, ⟨_, Tryz.underlying154, rfl, rfl⟩, by kernel_rfl, by kernel_rfl⟩
def ti157 : TI := { row := true, size := 64, zero := (Array.replicate 64 (.int .u32 0)), kind := 2, len := 64, elem := 24 }
theorem tok157 : TIok Tryz.prog 157 ti157 := ⟨by kernel_rfl, ⟨_, Tryz.underlying157, rfl, rfl⟩, by kernel_rfl, by kernel_rfl⟩
def ti173 : TI := { row := false, size := 1, zero := #[.slice none 0 0], kind := 3, elem := 5 }
theorem tok173 : TIok Tryz.prog 173 ti173 := ⟨by kernel_rfl, ⟨_, Tryz.underlying173, rfl, rfl⟩, by kernel_rfl, by kernel_rfl⟩
def ti177 : TI := { row := true, size := 256, zero := (Array.replicate 256 (.bool false)), kind := 2, len := 256, elem := 4 }
theorem tok177 : TIok Tryz.prog 177 ti177 := ⟨by kernel_rfl, ⟨_, Tryz.underlying177, rfl, rfl⟩, by kernel_rfl, by kernel_rfl⟩
def ti178 : TI := { row := true, size := 256, zero := (Array.replicate 256 (.bool false)), kind := 2, len := 256, elem := 4 }
theorem tok178 : TIok Tryz.prog 178 ti178 := ⟨by kernel_rfl, ⟨_, Tryz.underlying178, rfl, rfl⟩, by kernel_rfl, by kernel_rfl⟩
def ti192 : TI := { row := false, size := 1, zero := #[.int .i64 0], kind := 4, ik := .i64 }
theorem tok192 : TIok Tryz.prog 192 ti192 := ⟨by kernel_rfl, ⟨_, Tryz.underlying192, rfl, rfl⟩, by kernel_rfl, by kernel_rfl⟩
def ti201 : TI := { row := true, size := 2, zero := #[.int .i64 0, .int .i64 0], kind := 1, fields := [(0, 3), (1, 3)] }
theorem tok201 : TIok Tryz.prog 201 ti201 := ⟨by kernel_rfl, ⟨_, Tryz.underlying201, rfl, ⟨_, rfl, rfl⟩⟩, by kernel_rfl, by kernel_rfl⟩
def ti202 : TI := { row := false, size := 1, zero := #[.slice none 0 0], kind := 3, elem := 201 }
theorem tok202 : TIok Tryz.prog 202 ti202 := ⟨by kernel_rfl, ⟨_, Tryz.underlying202, rfl, rfl⟩, by kernel_rfl, by kernel_rfl⟩
def ti204 : TI := { row := true, size := 33, zero := (Array.replicate 33 (.int .u32 0)), kind := 2, len := 33, elem := 24 }
theorem tok204 : TIok Tryz.prog 204 ti204 := ⟨by kernel_rfl, ⟨_, Tryz.underlying204, rfl, rfl⟩, by kernel_rfl, by kernel_rfl⟩
def ti212 : TI := { row := true, size := 2, zero := #[.pointer none, .slice none 0 0], kind := 1, fields := [(0, 210), (1, 173)] }
theorem tok212 : TIok Tryz.prog 212 ti212 := ⟨by kernel_rfl, ⟨_, Tryz.underlying212, rfl, ⟨_, rfl, rfl⟩⟩, by kernel_rfl, by kernel_rfl⟩
def ti215 : TI := { row := false, size := 1, zero := #[.nilIface], kind := 0 }
theorem tok215 : TIok Tryz.prog 215 ti215 := ⟨by kernel_rfl, ⟨_, Tryz.underlying215, rfl, trivial⟩, by kernel_rfl, by kernel_rfl⟩
def ti222 : TI := { row := false, size := 1, zero := #[.slice none 0 0], kind := 3, elem := 24 }
theorem tok222 : TIok Tryz.prog 222 ti222 := ⟨by kernel_rfl, ⟨_, Tryz.underlying222, rfl, rfl⟩, by kernel_rfl, by kernel_rfl⟩
def ti229 : TI := { row := false, size := 1, zero := #[.int .u64 0], kind := 4, ik := .u64 }
theorem tok229 : TIok Tryz.prog 229 ti229 := ⟨by kernel_rfl, ⟨_, Tryz.underlying229, rfl, rfl⟩, by kernel_rfl, by kernel_rfl⟩
def ti233 : TI := { row := false, size := 1, zero := #[.pointer none], kind := 0 }
theorem tok233 : TIok Tryz.prog 233 ti233 := ⟨by kernel_rfl, ⟨_, Tryz.underlying233, rfl, trivial⟩, by kernel_rfl, by kernel_rfl⟩
def ti238 : TI := { row := false, size := 1, zero := #[.pointer none], kind := 0 }
theorem tok238 : TIok Tryz.prog 238 ti238 := ⟨by kernel_rfl, ⟨_, Tryz.underlying238, rfl, trivial⟩, by kernel_rfl, by kernel_rfl⟩
def ti242 : TI := { row := false, size := 1, zero := #[.pointer none], kind := 0 }
theorem tok242 : TIok Tryz.prog 242 ti242 := ⟨by kernel_rfl, ⟨_, Tryz.underlying242, rfl, trivial⟩, by kernel_rfl, by kernel_rfl⟩
def ti251 : TI := { row := true, size := 256, zero := (Array.replicate 256 (.int .u8 0)), kind := 2, len := 256, elem := 5 }
theorem tok251 : TIok Tryz.prog 251 ti251 := ⟨by kernel_rfl, ⟨_, Tryz.underlying251, rfl, rfl⟩, by kernel_rfl, by kernel_rfl⟩
def ti252 : TI := { row := true, size := 2, zero := #[.int .u8 0, .int .u8 0], kind := 1, fields := [(0, 5), (1, 5)] }
theorem tok252 : TIok Tryz.prog 252 ti252 := ⟨by kernel_rfl, ⟨_, Tryz.underlying252, rfl, ⟨_, rfl, rfl⟩⟩, by kernel_rfl, by kernel_rfl⟩
def ti268 : TI := { row := true, size := 1, zero := #[.string ByteArray.empty], kind := 1, fields := [(0, 9)] }
theorem tok268 : TIok Tryz.prog 268 ti268 := ⟨by kernel_rfl, ⟨_, Tryz.underlying268, rfl, ⟨_, rfl, rfl⟩⟩, by kernel_rfl, by kernel_rfl⟩
def tt_0 : TypeId → Option TI
  | 2 => some ti2
  | 3 => some ti3
  | 4 => some ti4
  | 5 => some ti5
  | 9 => some ti9
  | 12 => some ti12
  | 13 => some ti13
  | 21 => some ti21
  | 22 => some ti22
  | 23 => some ti23
  | 24 => some ti24
  | 25 => some ti25
  | 26 => some ti26
  | 27 => some ti27
  | 28 => some ti28
  | 29 => some ti29
  | _ => none
theorem tt_0_ok : TTok Tryz.prog tt_0 := by
  intro ty i h
  unfold tt_0 at h
  split at h
  · cases h; exact tok2
  · cases h; exact tok3
  · cases h; exact tok4
  · cases h; exact tok5
  · cases h; exact tok9
  · cases h; exact tok12
  · cases h; exact tok13
  · cases h; exact tok21
  · cases h; exact tok22
  · cases h; exact tok23
  · cases h; exact tok24
  · cases h; exact tok25
  · cases h; exact tok26
  · cases h; exact tok27
  · cases h; exact tok28
  · cases h; exact tok29
  · cases h
def tt_1 : TypeId → Option TI
  | 30 => some ti30
  | 31 => some ti31
  | 32 => some ti32
  | 33 => some ti33
  | 34 => some ti34
  | 39 => some ti39
  | 40 => some ti40
  | 41 => some ti41
  | 45 => some ti45
  | 46 => some ti46
  | 47 => some ti47
  | 48 => some ti48
  | 95 => some ti95
  | 109 => some ti109
  | 126 => some ti126
  | 129 => some ti129
  | _ => none
theorem tt_1_ok : TTok Tryz.prog tt_1 := by
  intro ty i h
  unfold tt_1 at h
  split at h
  · cases h; exact tok30
  · cases h; exact tok31
  · cases h; exact tok32
  · cases h; exact tok33
  · cases h; exact tok34
  · cases h; exact tok39
  · cases h; exact tok40
  · cases h; exact tok41
  · cases h; exact tok45
  · cases h; exact tok46
  · cases h; exact tok47
  · cases h; exact tok48
  · cases h; exact tok95
  · cases h; exact tok109
  · cases h; exact tok126
  · cases h; exact tok129
  · cases h
def tt_2 : TypeId → Option TI
  | 133 => some ti133
  | 134 => some ti134
  | 147 => some ti147
  | 151 => some ti151
  | 152 => some ti152
  | 154 => some ti154
  | 157 => some ti157
  | 173 => some ti173
  | 177 => some ti177
  | 178 => some ti178
  | 192 => some ti192
  | 201 => some ti201
  | 202 => some ti202
  | 204 => some ti204
  | 212 => some ti212
  | 215 => some ti215
  | _ => none
theorem tt_2_ok : TTok Tryz.prog tt_2 := by
  intro ty i h
  unfold tt_2 at h
  split at h
  · cases h; exact tok133
  · cases h; exact tok134
  · cases h; exact tok147
  · cases h; exact tok151
  · cases h; exact tok152
  · cases h; exact tok154
  · cases h; exact tok157
  · cases h; exact tok173
  · cases h; exact tok177
  · cases h; exact tok178
  · cases h; exact tok192
  · cases h; exact tok201
  · cases h; exact tok202
  · cases h; exact tok204
  · cases h; exact tok212
  · cases h; exact tok215
  · cases h
def tt_3 : TypeId → Option TI
  | 222 => some ti222
  | 229 => some ti229
  | 233 => some ti233
  | 238 => some ti238
  | 242 => some ti242
  | 251 => some ti251
  | 252 => some ti252
  | 268 => some ti268
  | _ => none
theorem tt_3_ok : TTok Tryz.prog tt_3 := by
  intro ty i h
  unfold tt_3 at h
  split at h
  · cases h; exact tok222
  · cases h; exact tok229
  · cases h; exact tok233
  · cases h; exact tok238
  · cases h; exact tok242
  · cases h; exact tok251
  · cases h; exact tok252
  · cases h; exact tok268
  · cases h
def tt (ty : TypeId) : Option TI :=
  if Nat.ble ty 29 then tt_0 ty else
  if Nat.ble ty 129 then tt_1 ty else
  if Nat.ble ty 215 then tt_2 ty else
  tt_3 ty
theorem tt_ok : TTok Tryz.prog tt := by
  intro ty i h
  unfold tt at h
  split at h
  · exact tt_0_ok ty i h
  split at h
  · exact tt_1_ok ty i h
  split at h
  · exact tt_2_ok ty i h
  exact tt_3_ok ty i h
theorem mixed : Tryz.prog.follows .mixedOrders = true := by kernel_rfl
end Go.Proofs.YtinojijgeabfnaaGreatDoor
namespace Go.Proofs.YtinojijgeabfnaaGreatDoor
open Go Go.SX
theorem at7 : FnOk Tryz.prog 7 Tryz.f7 := ⟨Tryz.func7, rfl, rfl, rfl, by kernel_rfl⟩
theorem at10 : FnOk Tryz.prog 10 Tryz.f10 := ⟨Tryz.func10, rfl, rfl, rfl, by kernel_rfl⟩
theorem at12 : FnOk Tryz.prog 12 Tryz.f12 := ⟨Tryz.func12, rfl, rfl, rfl, by kernel_rfl⟩
theorem at14 : FnOk Tryz.prog 14 Tryz.f14 := ⟨Tryz.func14, rfl, rfl, rfl, by kernel_rfl⟩
theorem at15 : FnOk Tryz.prog 15 Tryz.f15 := ⟨Tryz.func15, rfl, rfl, rfl, by kernel_rfl⟩
theorem at17 : FnOk Tryz.prog 17 Tryz.f17 := ⟨Tryz.func17, rfl, rfl, rfl, by kernel_rfl⟩
theorem at19 : FnOk Tryz.prog 19 Tryz.f19 := ⟨Tryz.func19, rfl, rfl, rfl, by kernel_rfl⟩
theorem at20 : FnOk Tryz.prog 20 Tryz.f20 := ⟨Tryz.func20, rfl, rfl, rfl, by kernel_rfl⟩
theorem at21 : FnOk Tryz.prog 21 Tryz.f21 := ⟨Tryz.func21, rfl, rfl, rfl, by kernel_rfl⟩
theorem at22 : FnOk Tryz.prog 22 Tryz.f22 := ⟨Tryz.func22, rfl, rfl, rfl, by kernel_rfl⟩
theorem at23 : FnOk Tryz.prog 23 Tryz.f23 := ⟨Tryz.func23, rfl, rfl, rfl, by kernel_rfl⟩
theorem at25 : FnOk Tryz.prog 25 Tryz.f25 := ⟨Tryz.func25, rfl, rfl, rfl, by kernel_rfl⟩
theorem at26 : FnOk Tryz.prog 26 Tryz.f26 := ⟨Tryz.func26, rfl, rfl, rfl, by kernel_rfl⟩
theorem at27 : FnOk Tryz.prog 27 Tryz.f27 := ⟨Tryz.func27, rfl, rfl, rfl, by kernel_rfl⟩
theorem at28 : FnOk Tryz.prog 28 Tryz.f28 := ⟨Tryz.func28, rfl, rfl, rfl, by kernel_rfl⟩
theorem at30 : FnOk Tryz.prog 30 Tryz.f30 := ⟨Tryz.func30, rfl, rfl, rfl, by kernel_rfl⟩
theorem at31 : FnOk Tryz.prog 31 Tryz.f31 := ⟨Tryz.func31, rfl, rfl, rfl, by kernel_rfl⟩
theorem at32 : FnOk Tryz.prog 32 Tryz.f32 := ⟨Tryz.func32, rfl, rfl, rfl, by kernel_rfl⟩
theorem at33 : FnOk Tryz.prog 33 Tryz.f33 := ⟨Tryz.func33, rfl, rfl, rfl, by kernel_rfl⟩
theorem at35 : FnOk Tryz.prog 35 Tryz.f35 := ⟨Tryz.func35, rfl, rfl, rfl, by kernel_rfl⟩
theorem at37 : FnOk Tryz.prog 37 Tryz.f37 := ⟨Tryz.func37, rfl, rfl, rfl, by kernel_rfl⟩
theorem at38 : FnOk Tryz.prog 38 Tryz.f38 := ⟨Tryz.func38, rfl, rfl, rfl, by kernel_rfl⟩
theorem at39 : FnOk Tryz.prog 39 Tryz.f39 := ⟨Tryz.func39, rfl, rfl, rfl, by kernel_rfl⟩
theorem at40 : FnOk Tryz.prog 40 Tryz.f40 := ⟨Tryz.func40, rfl, rfl, rfl, by kernel_rfl⟩
theorem at41 : FnOk Tryz.prog 41 Tryz.f41 := ⟨Tryz.func41, rfl, rfl, rfl, by kernel_rfl⟩
theorem at42 : FnOk Tryz.prog 42 Tryz.f42 := ⟨Tryz.func42, rfl, rfl, rfl, by kernel_rfl⟩
theorem at44 : FnOk Tryz.prog 44 Tryz.f44 := ⟨Tryz.func44, rfl, rfl, rfl, by kernel_rfl⟩
theorem at45 : FnOk Tryz.prog 45 Tryz.f45 := ⟨Tryz.func45, rfl, rfl, rfl, by kernel_rfl⟩
theorem at49 : FnOk Tryz.prog 49 Tryz.f49 := ⟨Tryz.func49, rfl, rfl, rfl, by kernel_rfl⟩
theorem at50 : FnOk Tryz.prog 50 Tryz.f50 := ⟨Tryz.func50, rfl, rfl, rfl, by kernel_rfl⟩
theorem at51 : FnOk Tryz.prog 51 Tryz.f51 := ⟨Tryz.func51, rfl, rfl, rfl, by kernel_rfl⟩
theorem at52 : FnOk Tryz.prog 52 Tryz.f52 := ⟨Tryz.func52, rfl, rfl, rfl, by kernel_rfl⟩
theorem at53 : FnOk Tryz.prog 53 Tryz.f53 := ⟨Tryz.func53, rfl, rfl, rfl, by kernel_rfl⟩
theorem at54 : FnOk Tryz.prog 54 Tryz.f54 := ⟨Tryz.func54, rfl, rfl, rfl, by kernel_rfl⟩
theorem at55 : FnOk Tryz.prog 55 Tryz.f55 := ⟨Tryz.func55, rfl, rfl, rfl, by kernel_rfl⟩
theorem at57 : FnOk Tryz.prog 57 Tryz.f57 := ⟨Tryz.func57, rfl, rfl, rfl, by kernel_rfl⟩
theorem at58 : FnOk Tryz.prog 58 Tryz.f58 := ⟨Tryz.func58, rfl, rfl, rfl, by kernel_rfl⟩
theorem at59 : FnOk Tryz.prog 59 Tryz.f59 := ⟨Tryz.func59, rfl, rfl, rfl, by kernel_rfl⟩
theorem at61 : FnOk Tryz.prog 61 Tryz.f61 := ⟨Tryz.func61, rfl, rfl, rfl, by kernel_rfl⟩
theorem at62 : FnOk Tryz.prog 62 Tryz.f62 := ⟨Tryz.func62, rfl, rfl, rfl, by kernel_rfl⟩
theorem at63 : FnOk Tryz.prog 63 Tryz.f63 := ⟨Tryz.func63, rfl, rfl, rfl, by kernel_rfl⟩
theorem at64 : FnOk Tryz.prog 64 Tryz.f64 := ⟨Tryz.func64, rfl, rfl, rfl, by kernel_rfl⟩
theorem at65 : FnOk Tryz.prog 65 Tryz.f65 := ⟨Tryz.func65, rfl, rfl, rfl, by kernel_rfl⟩
theorem at66 : FnOk Tryz.prog 66 Tryz.f66 := ⟨Tryz.func66, rfl, rfl, rfl, by kernel_rfl⟩
theorem at67 : FnOk Tryz.prog 67 Tryz.f67 := ⟨Tryz.func67, rfl, rfl, rfl, by kernel_rfl⟩
theorem at68 : FnOk Tryz.prog 68 Tryz.f68 := ⟨Tryz.func68, rfl, rfl, rfl, by kernel_rfl⟩
theorem at69 : FnOk Tryz.prog 69 Tryz.f69 := ⟨Tryz.func69, rfl, rfl, rfl, by kernel_rfl⟩
theorem at70 : FnOk Tryz.prog 70 Tryz.f70 := ⟨Tryz.func70, rfl, rfl, rfl, by kernel_rfl⟩
theorem at71 : FnOk Tryz.prog 71 Tryz.f71 := ⟨Tryz.func71, rfl, rfl, rfl, by kernel_rfl⟩
theorem at72 : FnOk Tryz.prog 72 Tryz.f72 := ⟨Tryz.func72, rfl, rfl, rfl, by kernel_rfl⟩
theorem at73 : FnOk Tryz.prog 73 Tryz.f73 := ⟨Tryz.func73, rfl, rfl, rfl, by kernel_rfl⟩
theorem at74 : FnOk Tryz.prog 74 Tryz.f74 := ⟨Tryz.func74, rfl, rfl, rfl, by kernel_rfl⟩
theorem at75 : FnOk Tryz.prog 75 Tryz.f75 := ⟨Tryz.func75, rfl, rfl, rfl, by kernel_rfl⟩
theorem at76 : FnOk Tryz.prog 76 Tryz.f76 := ⟨Tryz.func76, rfl, rfl, rfl, by kernel_rfl⟩
theorem at77 : FnOk Tryz.prog 77 Tryz.f77 := ⟨Tryz.func77, rfl, rfl, rfl, by kernel_rfl⟩
theorem at78 : FnOk Tryz.prog 78 Tryz.f78 := ⟨Tryz.func78, rfl, rfl, rfl, by kernel_rfl⟩
theorem at82 : FnOk Tryz.prog 82 Tryz.f82 := ⟨Tryz.func82, rfl, rfl, rfl, by kernel_rfl⟩
theorem at83 : FnOk Tryz.prog 83 Tryz.f83 := ⟨Tryz.func83, rfl, rfl, rfl, by kernel_rfl⟩
theorem at84 : FnOk Tryz.prog 84 Tryz.f84 := ⟨Tryz.func84, rfl, rfl, rfl, by kernel_rfl⟩
theorem at85 : FnOk Tryz.prog 85 Tryz.f85 := ⟨Tryz.func85, rfl, rfl, rfl, by kernel_rfl⟩
theorem at86 : FnOk Tryz.prog 86 Tryz.f86 := ⟨Tryz.func86, rfl, rfl, rfl, by kernel_rfl⟩
theorem at87 : FnOk Tryz.prog 87 Tryz.f87 := ⟨Tryz.func87, rfl, rfl, rfl, by kernel_rfl⟩
theorem at88 : FnOk Tryz.prog 88 Tryz.f88 := ⟨Tryz.func88, rfl, rfl, rfl, by kernel_rfl⟩
theorem at92 : FnOk Tryz.prog 92 Tryz.f92 := ⟨Tryz.func92, rfl, rfl, rfl, by kernel_rfl⟩
theorem at93 : FnOk Tryz.prog 93 Tryz.f93 := ⟨Tryz.func93, rfl, rfl, rfl, by kernel_rfl⟩
theorem at94 : FnOk Tryz.prog 94 Tryz.f94 := ⟨Tryz.func94, rfl, rfl, rfl, by kernel_rfl⟩
theorem at95 : FnOk Tryz.prog 95 Tryz.f95 := ⟨Tryz.func95, rfl, rfl, rfl, by kernel_rfl⟩
theorem at96 : FnOk Tryz.prog 96 Tryz.f96 := ⟨Tryz.func96, rfl, rfl, rfl, by kernel_rfl⟩
theorem at97 : FnOk Tryz.prog 97 Tryz.f97 := ⟨Tryz.func97, rfl, rfl, rfl, by kernel_rfl⟩
theorem at98 : FnOk Tryz.prog 98 Tryz.f98 := ⟨Tryz.func98, rfl, rfl, rfl, by kernel_rfl⟩
theorem at99 : FnOk Tryz.prog 99 Tryz.f99 := ⟨Tryz.func99, rfl, rfl, rfl, by kernel_rfl⟩
theorem at100 : FnOk Tryz.prog 100 Tryz.f100 := ⟨Tryz.func100, rfl, rfl, rfl, by kernel_rfl⟩
theorem at101 : FnOk Tryz.prog 101 Tryz.f101 := ⟨Tryz.func101, rfl, rfl, rfl, by kernel_rfl⟩
theorem at102 : FnOk Tryz.prog 102 Tryz.f102 := ⟨Tryz.func102, rfl, rfl, rfl, by kernel_rfl⟩
theorem at103 : FnOk Tryz.prog 103 Tryz.f103 := ⟨Tryz.func103, rfl, rfl, rfl, by kernel_rfl⟩
theorem at104 : FnOk Tryz.prog 104 Tryz.f104 := ⟨Tryz.func104, rfl, rfl, rfl, by kernel_rfl⟩
theorem at105 : FnOk Tryz.prog 105 Tryz.f105 := ⟨Tryz.func105, rfl, rfl, rfl, by kernel_rfl⟩
theorem at106 : FnOk Tryz.prog 106 Tryz.f106 := ⟨Tryz.func106, rfl, rfl, rfl, by kernel_rfl⟩
theorem at107 : FnOk Tryz.prog 107 Tryz.f107 := ⟨Tryz.func107, rfl, rfl, rfl, by kernel_rfl⟩
theorem at108 : FnOk Tryz.prog 108 Tryz.f108 := ⟨Tryz.func108, rfl, rfl, rfl, by kernel_rfl⟩
theorem at109 : FnOk Tryz.prog 109 Tryz.f109 := ⟨Tryz.func109, rfl, rfl, rfl, by kernel_rfl⟩
theorem at110 : FnOk Tryz.prog 110 Tryz.f110 := ⟨Tryz.func110, rfl, rfl, rfl, by kernel_rfl⟩
theorem at111 : FnOk Tryz.prog 111 Tryz.f111 := ⟨Tryz.func111, rfl, rfl, rfl, by kernel_rfl⟩
theorem at116 : FnOk Tryz.prog 116 Tryz.f116 := ⟨Tryz.func116, rfl, rfl, rfl, by kernel_rfl⟩
theorem at117 : FnOk Tryz.prog 117 Tryz.f117 := ⟨Tryz.func117, rfl, rfl, rfl, by kernel_rfl⟩
theorem at118 : FnOk Tryz.prog 118 Tryz.f118 := ⟨Tryz.func118, rfl, rfl, rfl, by kernel_rfl⟩
theorem at119 : FnOk Tryz.prog 119 Tryz.f119 := ⟨Tryz.func119, rfl, rfl, rfl, by kernel_rfl⟩
theorem at120 : FnOk Tryz.prog 120 Tryz.f120 := ⟨Tryz.func120, rfl, rfl, rfl, by kernel_rfl⟩
theorem at121 : FnOk Tryz.prog 121 Tryz.f121 := ⟨Tryz.func121, rfl, rfl, rfl, by kernel_rfl⟩
theorem at122 : FnOk Tryz.prog 122 Tryz.f122 := ⟨Tryz.func122, rfl, rfl, rfl, by kernel_rfl⟩
theorem at123 : FnOk Tryz.prog 123 Tryz.f123 := ⟨Tryz.func123, rfl, rfl, rfl, by kernel_rfl⟩
theorem at124 : FnOk Tryz.prog 124 Tryz.f124 := ⟨Tryz.func124, rfl, rfl, rfl, by kernel_rfl⟩
theorem at125 : FnOk Tryz.prog 125 Tryz.f125 := ⟨Tryz.func125, rfl, rfl, rfl, by kernel_rfl⟩
theorem at126 : FnOk Tryz.prog 126 Tryz.f126 := ⟨Tryz.func126, rfl, rfl, rfl, by kernel_rfl⟩
theorem at127 : FnOk Tryz.prog 127 Tryz.f127 := ⟨Tryz.func127, rfl, rfl, rfl, by kernel_rfl⟩
theorem at128 : FnOk Tryz.prog 128 Tryz.f128 := ⟨Tryz.func128, rfl, rfl, rfl, by kernel_rfl⟩
theorem at129 : FnOk Tryz.prog 129 Tryz.f129 := ⟨Tryz.func129, rfl, rfl, rfl, by kernel_rfl⟩
theorem at134 : FnOk Tryz.prog 134 Tryz.f134 := ⟨Tryz.func134, rfl, rfl, rfl, by kernel_rfl⟩
theorem at135 : FnOk Tryz.prog 135 Tryz.f135 := ⟨Tryz.func135, rfl, rfl, rfl, by kernel_rfl⟩
theorem at136 : FnOk Tryz.prog 136 Tryz.f136 := ⟨Tryz.func136, rfl, rfl, rfl, by kernel_rfl⟩
theorem at137 : FnOk Tryz.prog 137 Tryz.f137 := ⟨Tryz.func137, rfl, rfl, rfl, by kernel_rfl⟩
theorem at138 : FnOk Tryz.prog 138 Tryz.f138 := ⟨Tryz.func138, rfl, rfl, rfl, by kernel_rfl⟩
theorem at139 : FnOk Tryz.prog 139 Tryz.f139 := ⟨Tryz.func139, rfl, rfl, rfl, by kernel_rfl⟩
theorem at141 : FnOk Tryz.prog 141 Tryz.f141 := ⟨Tryz.func141, rfl, rfl, rfl, by kernel_rfl⟩
theorem at142 : FnOk Tryz.prog 142 Tryz.f142 := ⟨Tryz.func142, rfl, rfl, rfl, by kernel_rfl⟩
theorem at143 : FnOk Tryz.prog 143 Tryz.f143 := ⟨Tryz.func143, rfl, rfl, rfl, by kernel_rfl⟩
theorem at144 : FnOk Tryz.prog 144 Tryz.f144 := ⟨Tryz.func144, rfl, rfl, rfl, by kernel_rfl⟩
theorem at145 : FnOk Tryz.prog 145 Tryz.f145 := ⟨Tryz.func145, rfl, rfl, rfl, by kernel_rfl⟩
theorem at146 : FnOk Tryz.prog 146 Tryz.f146 := ⟨Tryz.func146, rfl, rfl, rfl, by kernel_rfl⟩
theorem at147 : FnOk Tryz.prog 147 Tryz.f147 := ⟨Tryz.func147, rfl, rfl, rfl, by kernel_rfl⟩
theorem at150 : FnOk Tryz.prog 150 Tryz.f150 := ⟨Tryz.func150, rfl, rfl, rfl, by kernel_rfl⟩
theorem at157 : FnOk Tryz.prog 157 Tryz.f157 := ⟨Tryz.func157, rfl, rfl, rfl, by kernel_rfl⟩
theorem at158 : FnOk Tryz.prog 158 Tryz.f158 := ⟨Tryz.func158, rfl, rfl, rfl, by kernel_rfl⟩
theorem at159 : FnOk Tryz.prog 159 Tryz.f159 := ⟨Tryz.func159, rfl, rfl, rfl, by kernel_rfl⟩
theorem at160 : FnOk Tryz.prog 160 Tryz.f160 := ⟨Tryz.func160, rfl, rfl, rfl, by kernel_rfl⟩
theorem at161 : FnOk Tryz.prog 161 Tryz.f161 := ⟨Tryz.func161, rfl, rfl, rfl, by kernel_rfl⟩
theorem at162 : FnOk Tryz.prog 162 Tryz.f162 := ⟨Tryz.func162, rfl, rfl, rfl, by kernel_rfl⟩
theorem at163 : FnOk Tryz.prog 163 Tryz.f163 := ⟨Tryz.func163, rfl, rfl, rfl, by kernel_rfl⟩
theorem at164 : FnOk Tryz.prog 164 Tryz.f164 := ⟨Tryz.func164, rfl, rfl, rfl, by kernel_rfl⟩
theorem at168 : FnOk Tryz.prog 168 Tryz.f168 := ⟨Tryz.func168, rfl, rfl, rfl, by kernel_rfl⟩
theorem at171 : FnOk Tryz.prog 171 Tryz.f171 := ⟨Tryz.func171, rfl, rfl, rfl, by kernel_rfl⟩
theorem at172 : FnOk Tryz.prog 172 Tryz.f172 := ⟨Tryz.func172, rfl, rfl, rfl, by kernel_rfl⟩
theorem at173 : FnOk Tryz.prog 173 Tryz.f173 := ⟨Tryz.func173, rfl, rfl, rfl, by kernel_rfl⟩
theorem at174 : FnOk Tryz.prog 174 Tryz.f174 := ⟨Tryz.func174, rfl, rfl, rfl, by kernel_rfl⟩
theorem at176 : FnOk Tryz.prog 176 Tryz.f176 := ⟨Tryz.func176, rfl, rfl, rfl, by kernel_rfl⟩
theorem at177 : FnOk Tryz.prog 177 Tryz.f177 := ⟨Tryz.func177, rfl, rfl, rfl, by kernel_rfl⟩
theorem at178 : FnOk Tryz.prog 178 Tryz.f178 := ⟨Tryz.func178, rfl, rfl, rfl, by kernel_rfl⟩
theorem at179 : FnOk Tryz.prog 179 Tryz.f179 := ⟨Tryz.func179, rfl, rfl, rfl, by kernel_rfl⟩
theorem at180 : FnOk Tryz.prog 180 Tryz.f180 := ⟨Tryz.func180, rfl, rfl, rfl, by kernel_rfl⟩
theorem at190 : FnOk Tryz.prog 190 Tryz.f190 := ⟨Tryz.func190, rfl, rfl, rfl, by kernel_rfl⟩
theorem at192 : FnOk Tryz.prog 192 Tryz.f192 := ⟨Tryz.func192, rfl, rfl, rfl, by kernel_rfl⟩
theorem at196 : FnOk Tryz.prog 196 Tryz.f196 := ⟨Tryz.func196, rfl, rfl, rfl, by kernel_rfl⟩
theorem at197 : FnOk Tryz.prog 197 Tryz.f197 := ⟨Tryz.func197, rfl, rfl, rfl, by kernel_rfl⟩
theorem at198 : FnOk Tryz.prog 198 Tryz.f198 := ⟨Tryz.func198, rfl, rfl, rfl, by kernel_rfl⟩
theorem at199 : FnOk Tryz.prog 199 Tryz.f199 := ⟨Tryz.func199, rfl, rfl, rfl, by kernel_rfl⟩
theorem at200 : FnOk Tryz.prog 200 Tryz.f200 := ⟨Tryz.func200, rfl, rfl, rfl, by kernel_rfl⟩
theorem at201 : FnOk Tryz.prog 201 Tryz.f201 := ⟨Tryz.func201, rfl, rfl, rfl, by kernel_rfl⟩
theorem at202 : FnOk Tryz.prog 202 Tryz.f202 := ⟨Tryz.func202, rfl, rfl, rfl, by kernel_rfl⟩
theorem at203 : FnOk Tryz.prog 203 Tryz.f203 := ⟨Tryz.func203, rfl, rfl, rfl, by kernel_rfl⟩
theorem at204 : FnOk Tryz.prog 204 Tryz.f204 := ⟨Tryz.func204, rfl, rfl, rfl, by kernel_rfl⟩
theorem at223 : FnOk Tryz.prog 223 Tryz.f223 := ⟨Tryz.func223, rfl, rfl, rfl, by kernel_rfl⟩
theorem at224 : FnOk Tryz.prog 224 Tryz.f224 := ⟨Tryz.func224, rfl, rfl, rfl, by kernel_rfl⟩
theorem at225 : FnOk Tryz.prog 225 Tryz.f225 := ⟨Tryz.func225, rfl, rfl, rfl, by kernel_rfl⟩
theorem at228 : FnOk Tryz.prog 228 Tryz.f228 := ⟨Tryz.func228, rfl, rfl, rfl, by kernel_rfl⟩
theorem at241 : FnOk Tryz.prog 241 Tryz.f241 := ⟨Tryz.func241, rfl, rfl, rfl, by kernel_rfl⟩
end Go.Proofs.YtinojijgeabfnaaGreatDoor
