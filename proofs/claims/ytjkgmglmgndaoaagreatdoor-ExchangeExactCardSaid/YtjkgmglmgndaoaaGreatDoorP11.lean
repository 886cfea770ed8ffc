/- The table of the types, printed by program. Where each function lies in the program, printed by program; no condition. -/
import Derived.Test.YtjkgmglmgndaoaaGreatDoorP9
import Derived.Test.YtjkgmglmgndaoaaGreatDoorProg
namespace Go.Proofs.YtjkgmglmgndaoaaGreatDoor
open Go Go.SX
def ti2 : TI := { row := false, size := 1, zero := #[.int .i64 0], kind := 4, ik := .i64 }
theorem tok2 : TIok Tryz.prog 2 ti2 := ⟨by kernel_rfl, ⟨_, Tryz.underlying2, rfl, rfl⟩, by kernel_rfl, by kernel_rfl⟩
def ti3 : TI := { row := false, size := 1, zero := #[.int .i64 0], kind := 4, ik := .i64 }
theorem tok3 : TIok Tryz.prog 3 ti3 := ⟨by kernel_rfl, ⟨_, Tryz.underlying3, rfl, rfl⟩, by kernel_rfl, by kernel_rfl⟩
def ti4 : TI := { row := false, size := 1, zero := #[.bool false], kind := 5 }
theorem tok4 : TIok Tryz.prog 4 ti4 := ⟨by kernel_rfl, ⟨_, Tryz.underlying4, rfl, rfl⟩, by kernel_rfl, by kernel_rfl⟩
def ti5 : TI := { row := false, size := 1, zero := #[.int .u8 0], kind := 4, ik := .u8 }
theorem tok5 : TIok Tryz.prog 5 ti5 := ⟨by kernel_rfl, ⟨_, Tryz.underlying5, rfl, rfl⟩, by kernel_rfl, by kernel_rfl⟩
def ti9 : TI := { row := false, size := 1, zero := #[.string ByteArray.empty], kind := 0 }
theorem tok9 : TIok Tryz.prog 9 ti9 := ⟨by kernel_rfl, ⟨_, Tryz.underlying9, rfl, trivial⟩, by kernel_rfl, by kernel_rfl⟩
def ti12 : TI := { row := false, size := 1, zero := #[.int .u64 0], kind := 4, ik := .u64 }
theorem tok12 : TIok Tryz.prog 12 ti12 := ⟨by kernel_rfl, ⟨_, Tryz.underlying12, rfl, rfl⟩, by kernel_rfl, by kernel_rfl⟩
def ti13 : TI := { row := true, size := 2, zero := #[.string ByteArray.empty, .int .u64 0], kind := 1, fields := [(0, 9), (1, 12)] }
theorem tok13 : TIok Tryz.prog 13 ti13 := ⟨by kernel_rfl, ⟨_, Tryz.underlying13, rfl, ⟨_, rfl, rfl⟩⟩, by kernel_rfl, by kernel_rfl⟩
def ti21 : TI := { row := false, size := 1, zero := #[.int .i32 0], kind := 4, ik := .i32 }
theorem tok21 : TIok Tryz.prog 21 ti21 := ⟨by kernel_rfl, ⟨_, Tryz.underlying21, rfl, rfl⟩, by kernel_rfl, by kernel_rfl⟩
def ti22 : TI := { row := false, size := 1, zero := #[.slice none 0 0], kind := 3, elem := 51 }
theorem tok22 : TIok Tryz.prog 22 ti22 := ⟨by kernel_rfl, ⟨_, Tryz.underlying22, rfl, rfl⟩, by kernel_rfl, by kernel_rfl⟩
def ti23 : TI := { row := false, size := 1, zero := #[.slice none 0 0], kind := 3, elem := 9 }
theorem tok23 : TIok Tryz.prog 23 ti23 := ⟨by kernel_rfl, ⟨_, Tryz.underlying23, rfl, rfl⟩, by kernel_rfl, by kernel_rfl⟩
def ti24 : TI := { row := false, size := 1, zero := #[.int .u32 0], kind := 4, ik := .u32 }
theorem tok24 : TIok Tryz.prog 24 ti24 := ⟨by kernel_rfl, ⟨_, Tryz.underlying24, rfl, rfl⟩, by kernel_rfl, by kernel_rfl⟩
def ti25 : TI := { row := true, size := 32, zero := (Array.replicate 32 (.int .u32 0)), kind := 2, len := 32, elem := 24 }
theorem tok25 : TIok Tryz.prog 25 ti25 := ⟨by kernel_rfl, ⟨_, Tryz.underlying25, rfl, rfl⟩, by kernel_rfl, by kernel_rfl⟩
def ti26 : TI := { row := true, size := 33, zero := #[.bool false, .int .u32 0, .int .u32 0, .int .u32 0, .int .u32 0, .int .u32 0, .int .u32 0, .int .u32 0, .int .u32 0, .int .u32 0, .int .u32 0, .int .u32 0, .int .u32 0, .int .u32 0, .int .u32 0, .int .u32 0, .int .u32 0, .int .u32 0, .int .u32 0, .int .u32 0, .int .u32 0, .int .u32 0, .int .u32 0, .int .u32 0, .int .u32 0, .int .u32 0, .int .u32 0, .int .u32 0, .int .u32 0, .int .u32 0, .int .u32 0, .int .u32 0, .int .u32 0], kind := 1, fields := [(0, 4), (1, 25)] }
theorem tok26 : TIok Tryz.prog 26 ti26 := ⟨by kernel_rfl, ⟨_, Tryz.underlying26, rfl, ⟨_, rfl, rfl⟩⟩, by kernel_rfl, by kernel_rfl⟩
def ti27 : TI := { row := true, size := 33, zero := #[.bool false, .int .u32 0, .int .u32 0, .int .u32 0, .int .u32 0, .int .u32 0, .int .u32 0, .int .u32 0, .int .u32 0, .int .u32 0, .int .u32 0, .int .u32 0, .int .u32 0, .int .u32 0, .int .u32 0, .int .u32 0, .int .u32 0, .int .u32 0, .int .u32 0, .int .u32 0, .int .u32 0, .int .u32 0, .int .u32 0, .int .u32 0, .int .u32 0, .int .u32 0, .int .u32 0, .int .u32 0, .int .u32 0, .int .u32 0, .int .u32 0, .int .u32 0, .int .u32 0], kind := 1, fields := [(0, 4), (1, 25)] }
theorem tok27 : TIok Tryz.prog 27 ti27 := ⟨by kernel_rfl, ⟨_, Tryz.underlying27, rfl, ⟨_, rfl, rfl⟩⟩, by kernel_rfl, by kernel_rfl⟩
def ti28 : TI := { row := true, size := 66, zero := #[.bool false, .int .u32 0, .int .u32 0, .int .u32 0, .int .u32 0, .int .u32 0, .int .u32 0, .int .u32 0, .int .u32 0, .int .u32 0, .int .u32 0, .int .u32 0, .int .u32 0, .int .u32 0, .int .u32 0, .int .u32 0, .int .u32 0, .int .u32 0, .int .u32 0, .int .u32 0, .int .u32 0, .int .u32 0, .int .u32 0, .int .u32 0, .int .u32 0, .int .u32 0, .int .u32 0, .int .u32 0, .int .u32 0, .int .u32 0, .int .u32 0, .int .u32 0, .int .u32 0, .bool false, .int .u32 0, .int .u32 0, .int .u32 0, .int .u32 0, .int .u32 0, .int .u32 0, .int .u32 0, .int .u32 0, .int .u32 0, .int .u32 0, .int .u32 0, .int .u32 0, .int .u32 0, .int .u32 0, .int .u32 0, .int .u32 0, .int .u32 0, .int .u32 0, .int .u32 0, .int .u32 0, .int .u32 0, .int .u32 0, .int .u32 0, .int .u32 0, .int .u32 0, .int .u32 0, .int .u32 0, .int .u32 0, .int .u32 0, .int .u32 0, .int .u32 0, .int .u32 0], kind := 1, fields := [(0, 27), (33, 27)] }
theorem tok28 : TIok Tryz.prog 28 ti28 := ⟨by kernel_rfl, ⟨_, Tryz.underlying28, rfl, ⟨_, rfl, rfl⟩⟩, by kernel_rfl, by kernel_rfl⟩
def ti29 : TI := { row := true, size := 66, zero := #[.bool false, .int .u32 0, .int .u32 0, .int .u32 0, .int .u32 0, .int .u32 0, .int .u32 0, .int .u32 0, .int .u32 0, .int .u32 0, .int .u32 0, .int .u32 0, .int .u32 0, .int .u32 0, .int .u32 0, .int .u32 0, .int .u32 0, .int .u32 0, .int .u32 0, .int .u32 0, .int .u32 0, .int .u32 0, .int .u32 0, .int .u32 0, .int .u32 0, .int .u32 0, .int .u32 0, .int .u32 0, .int .u32 0, .int .u32 0, .int .u32 0, .int .u32 0, .int .u32 0, .bool false, .int .u32 0, .int .u32 0, .int .u32 0, .int .u32 0, .int .u32 0, .int .u32 0, .int .u32 0, .int .u32 0, .int .u32 0, .int .u32 0, .int .u32 0, .int .u32 0, .int .u32 0, .int .u32 0, .int .u32 0, .int .u32 0, .int .u32 0, .int .u32 0, .int .u32 0, .int .u32 0, .int .u32 0, .int .u32 0, .int .u32 0, .int .u32 0, .int .u32 0, .int .u32 0, .int .u32 0, .int .u32 0, .int .u32 0, .int .u32 0, .int .u32 0, .int .u32 0], kind := 1, fields := [(0, 27), (33, 27)] }
theorem tok29 : TIok Tryz.prog 29 ti29 := ⟨by kernel_rfl, ⟨_, Tryz.underlying29, rfl, ⟨_, rfl, rfl⟩⟩, by kernel_rfl, by kernel_rfl⟩
def ti30 : TI := { row := true, size := 68, zero := #[.slice none 0 0, .bool false, .int .u32 0, .int .u32 0, .int .u32 0, .int .u32 0, .int .u32 0, .int .u32 0, .int .u32 0, .int .u32 0, .int .u32 0, .int .u32 0, .int .u32 0, .int .u32 0, .int .u32 0, .int .u32 0, .int .u32 0, .int .u32 0, .int .u32 0, .int .u32 0, .int .u32 0, .int .u32 0, .int .u32 0, .int .u32 0, .int .u32 0, .int .u32 0, .int .u32 0, .int .u32 0, .int .u32 0, .int .u32 0, .int .u32 0, .int .u32 0, .int .u32 0, .int .u32 0, .bool false, .int .u32 0, .int .u32 0, .int .u32 0, .int .u32 0, .int .u32 0, .int .u32 0, .int .u32 0, .int .u32 0, .int .u32 0, .int .u32 0, .int .u32 0, .int .u32 0, .int .u32 0, .int .u32 0, .int .u32 0, .int .u32 0, .int .u32 0, .int .u32 0, .int .u32 0, .int .u32 0, .int .u32 0, .int .u32 0, .int .u32 0, .int .u32 0, .int .u32 0, .int .u32 0, .int .u32 0, .int .u32 0, .int .u32 0, .int .u32 0, .int .u32 0, .int .u32 0, .int .i64 0], kind := 1, fields := [(0, 23), (1, 29), (67, 3)] }
theorem tok30 : TIok Tryz.prog 30 ti30 := ⟨by kernel_rfl, ⟨_, Tryz.underlying30, rfl, ⟨_, rfl, rfl⟩⟩, by kernel_rfl, by kernel_rfl⟩
def ti31 : TI := { row := true, size := 68, zero := #[.slice none 0 0, .bool false, .int .u32 0, .int .u32 0, .int .u32 0, .int .u32 0, .int .u32 0, .int .u32 0, .int .u32 0, .int .u32 0, .int .u32 0, .int .u32 0, .int .u32 0, .int .u32 0, .int .u32 0, .int .u32 0, .int .u32 0, .int .u32 0, .int .u32 0, .int .u32 0, .int .u32 0, .int .u32 0, .int .u32 0, .int .u32 0, .int .u32 0, .int .u32 0, .int .u32 0, .int .u32 0, .int .u32 0, .int .u32 0, .int .u32 0, .int .u32 0, .int .u32 0, .int .u32 0, .bool false, .int .u32 0, .int .u32 0, .int .u32 0, .int .u32 0, .int .u32 0, .int .u32 0, .int .u32 0, .int .u32 0, .int .u32 0, .int .u32 0, .int .u32 0, .int .u32 0, .int .u32 0, .int .u32 0, .int .u32 0, .int .u32 0, .int .u32 0, .int .u32 0, .int .u32 0, .int .u32 0, .int .u32 0, .int .u32 0, .int .u32 0, .int .u32 0, .int .u32 0, .int .u32 0, .int .u32 0, .int .u32 0, .int .u32 0, .int .u32 0, .int .u32 0, .int .u32 0, .int .i64 0], kind := 1, fields := [(0, 23), (1, 29), (67, 3)] }
theorem tok31 : TIok Tryz.prog 31 ti31 := ⟨by kernel_rfl, ⟨_, Tryz.underlying31, rfl, ⟨_, rfl, rfl⟩⟩, by kernel_rfl, by kernel_rfl⟩
def ti32 : TI := { row := false, size := 1, zero := #[.int .i64 0], kind := 4, ik := .i64 }
theorem tok32 : TIok Tryz.prog 32 ti32 := ⟨by kernel_rfl, ⟨_, Tryz.underlying32, rfl, rfl⟩, by kernel_rfl, by kernel_rfl⟩
def ti37 : TI := { row := false, size := 1, zero := #[.nilFunc], kind := 0 }
theorem tok37 : TIok Tryz.prog 37 ti37 := ⟨by kernel_rfl, ⟨_, Tryz.underlying37, rfl, trivial⟩, by kernel_rfl, by kernel_rfl⟩
def ti39 : TI := { row := false, size := 1, zero := #[.slice none 0 0], kind := 3, elem := 3 }
theorem tok39 : TIok Tryz.prog 39 ti39 := ⟨by kernel_rfl, ⟨_, Tryz.underlying39, rfl, rfl⟩, by kernel_rfl, by kernel_rfl⟩
def ti40 : TI := { row := false, size := 1, zero := #[.pointer none], kind := 0 }
theorem tok40 : TIok Tryz.prog 40 ti40 := ⟨by kernel_rfl, ⟨_, Tryz.underlying40, rfl, trivial⟩, by kernel_rfl, by kernel_rfl⟩
def ti41 : TI := { row := true, size := 2, zero := #[.slice none 0 0, .int .i64 0], kind := 1, fields := [(0, 39), (1, 3)] }
theorem tok41 : TIok Tryz.prog 41 ti41 := ⟨by kernel_rfl, ⟨_, Tryz.underlying41, rfl, ⟨_, rfl, rfl⟩⟩, by kernel_rfl, by kernel_rfl⟩
def ti42 : TI := { row := true, size := 2, zero := #[.slice none 0 0, .int .i64 0], kind := 1, fields := [(0, 39), (1, 3)] }
theorem tok42 : TIok Tryz.prog 42 ti42 := ⟨by kernel_rfl, ⟨_, Tryz.underlying42, rfl, ⟨_, rfl, rfl⟩⟩, by kernel_rfl, by kernel_rfl⟩
def ti50 : TI := { row := true, size := 72, zero := #[.string ByteArray.empty, .string ByteArray.empty, .string ByteArray.empty, .int .i64 0, .bool false, .int .u32 0, .int .u32 0, .int .u32 0, .int .u32 0, .int .u32 0, .int .u32 0, .int .u32 0, .int .u32 0, .int .u32 0, .int .u32 0, .int .u32 0, .int .u32 0, .int .u32 0, .int .u32 0, .int .u32 0, .int .u32 0, .int .u32 0, .int .u32 0, .int .u32 0, .int .u32 0, .int .u32 0, .int .u32 0, .int .u32 0, .int .u32 0, .int .u32 0, .int .u32 0, .int .u32 0, .int .u32 0, .int .u32 0, .int .u32 0, .int .u32 0, .int .u32 0, .bool false, .int .u32 0, .int .u32 0, .int .u32 0, .int .u32 0, .int .u32 0, .int .u32 0, .int .u32 0, .int .u32 0, .int .u32 0, .int .u32 0, .int .u32 0, .int .u32 0, .int .u32 0, .int .u32 0, .int .u32 0, .int .u32 0, .int .u32 0, .int .u32 0, .int .u32 0, .int .u32 0, .int .u32 0, .int .u32 0, .int .u32 0, .int .u32 0, .int .u32 0, .int .u32 0, .int .u32 0, .int .u32 0, .int .u32 0, .int .u32 0, .int .u32 0, .int .u32 0, .int .i64 0, .bool false], kind := 1, fields := [(0, 9), (1, 9), (2, 9), (3, 3), (4, 29), (70, 3), (71, 4)] }
theorem tok50 : TIok Tryz.prog 50 ti50 := ⟨by kernel_rfl, ⟨_, Tryz.underlying50, rfl, ⟨_, rfl, rfl⟩⟩, by kernel_rfl, by kernel_rfl⟩
def ti51 : TI := { row := true, size := 72, zero := #[.string ByteArray.empty, .string ByteArray.empty, .string ByteArray.empty, .int .i64 0, .bool false, .int .u32 0, .int .u32 0, .int .u32 0, .int .u32 0, .int .u32 0, .int .u32 0, .int .u32 0, .int .u32 0, .int .u32 0, .int .u32 0, .int .u32 0, .int .u32 0, .int .u32 0, .int .u32 0, .int .u32 0, .int .u32 0, .int .u32 0, .int .u32 0, .int .u32 0, .int .u32 0, .int .u32 0, .int .u32 0, .int .u32 0, .int .u32 0, .int .u32 0, .int .u32 0, .int .u32 0, .int .u32 0, .int .u32 0, .int .u32 0, .int .u32 0, .int .u32 0, .bool false, .int .u32 0, .int .u32 0, .int .u32 0, .int .u32 0, .int .u32 0, .int .u32 0, .int .u32 0, .int .u32 0, .int .u32 0, .int .u32 0, .int .u32 0, .int .u32 0, .int .u32 0, .int .u32 0, .int .u32 0, .int .u32 0, .int .u32 0, .int .u32 0, .int .u32 0, .int .u32 0, .int .u32 0, .int .u32 0, .int .u32 0, .int .u32 0, .int .u32 0, .int .u32 0, .int .u32 0, .int .u32 0, .int .u32 0, .int .u32 0, .int .u32 0, .int .u32 0, .int .i64 0, .bool false], kind := 1, fields := [(0, 9), (1, 9), (2, 9), (3, 3), (4, 29), (70, 3), (71, 4)] }
theorem tok51 : TIok Tryz.prog 51 ti51 := ⟨by kernel_rfl, ⟨_, Tryz.underlying51, rfl, ⟨_, rfl, rfl⟩⟩, by kernel_rfl, by kernel_rfl⟩
def ti56 : TI := { row := true, size := 70, zero := #[.string ByteArray.empty, .string ByteArray.empty, .int .i64 0, .bool false, .int .u32 0, .int .u32 0, .int .u32 0, .int .u32 0, .int .u32 0, .int .u32 0, .int .u32 0, .int .u32 0, .int .u32 0, .int .u32 0, .int .u32 0, .int .u32 0, .int .u32 0, .int .u32 0, .int .u32 0, .int .u32 0, .int .u32 0, .int .u32 0, .int .u32 0, .int .u32 0, .int .u32 0, .int .u32 0, .int .u32 0, .int .u32 0, .int .u32 0, .int .u32 0, .int .u32 0, .int .u32 0, .int .u32 0, .int .u32 0, .int .u32 0, .int .u32 0, .bool false, .int .u32 0, .int .u32 0, .int .u32 0, .int .u32 0, .int .u32 0, .int .u32 0, .int .u32 0, .int .u32 0, .int .u32 0, .int .u32 0, .int .u32 0, .int .u32 0, .int .u32 0, .int .u32 0, .int .u32 0, .int .u32 0, .int .u32 0, .int .u32 0, .int .u32 0, .int .u32 0, .int .u32 0, .int .u32 0, .int .u32 0, .int .u32 0, .int .u32 0, .int .u32 0, .int .u32 0, .int .u32 0, .int .u32 0, .int .u32 0, .int .u32 0, .int .u32 0, .slice none 0 0], kind := 1, fields := [(0, 9), (1, 9), (2, 3), (3, 29), (69, 23)] }
theorem tok56 : TIok Tryz.prog 56 ti56 := ⟨by kernel_rfl, ⟨_, Tryz.underlying56, rfl, ⟨_, rfl, rfl⟩⟩, by kernel_rfl, by kernel_rfl⟩
def ti57 : TI := { row := true, size := 70, zero := #[.string ByteArray.empty, .string ByteArray.empty, .int .i64 0, .bool false, .int .u32 0, .int .u32 0, .int .u32 0, .int .u32 0, .int .u32 0, .int .u32 0, .int .u32 0, .int .u32 0, .int .u32 0, .int .u32 0, .int .u32 0, .int .u32 0, .int .u32 0, .int .u32 0, .int .u32 0, .int .u32 0, .int .u32 0, .int .u32 0, .int .u32 0, .int .u32 0, .int .u32 0, .int .u32 0, .int .u32 0, .int .u32 0, .int .u32 0, .int .u32 0, .int .u32 0, .int .u32 0, .int .u32 0, .int .u32 0, .int .u32 0, .int .u32 0, .bool false, .int .u32 0, .int .u32 0, .int .u32 0, .int .u32 0, .int .u32 0, .int .u32 0, .int .u32 0, .int .u32 0, .int .u32 0, .int .u32 0, .int .u32 0, .int .u32 0, .int .u32 0, .int .u32 0, .int .u32 0, .int .u32 0, .int .u32 0, .int .u32 0, .int .u32 0, .int .u32 0, .int .u32 0, .int .u32 0, .int .u32 0, .int .u32 0, .int .u32 0, .int .u32 0, .int .u32 0, .int .u32 0, .int .u32 0, .int .u32 0, .int .u32 0, .int .u32 0, .slice none 0 0], kind := 1, fields := [(0, 9), (1, 9), (2, 3), (3, 29), (69, 23)] }
theorem tok57 : TIok Tryz.prog 57 ti57 := ⟨by kernel_rfl, ⟨_, Tryz.underlying57, rfl, ⟨_, rfl, rfl⟩⟩, by kernel_rfl, by kernel_rfl⟩
def ti65 : TI := { row := true, size := 71, zero := #[.slice none 0 0, .slice none 0 0, .bool false, .int .u32 0, .int .u32 0, .int .u32 0, .int .u32 0, .int .u32 0, .int .u32 0, .int .u32 0, .int .u32 0, .int .u32 0, .int .u32 0, .int .u32 0, .int .u32 0, .int .u32 0, .int .u32 0, .int .u32 0, .int .u32 0, .int .u32 0, .int .u32 0, .int .u32 0, .int .u32 0, .int .u32 0, .int .u32 0, .int .u32 0, .int .u32 0, .int .u32 0, .int .u32 0, .int .u32 0, .int .u32 0, .int .u32 0, .int .u32 0, .int .u32 0, .int .u32 0, .bool false, .int .u32 0, .int .u32 0, .int .u32 0, .int .u32 0, .int .u32 0, .int .u32 0, .int .u32 0, .int .u32 0, .int .u32 0, .int .u32 0, .int .u32 0, .int .u32 0, .int .u32 0, .int .u32 0, .int .u32 0, .int .u32 0, .int .u32 0, .int .u32 0, .int .u32 0, .int .u32 0, .int .u32 0, .int .u32 0, .int .u32 0, .int .u32 0, .int .u32 0, .int .u32 0, .int .u32 0, .int .u32 0, .int .u32 0, .int .u32 0, .int .u32 0, .int .u32 0, .int .i64 0, .int .i64 0, .int .i64 0], kind := 1, fields := [(0, 22), (1, 31), (69, 3), (70, 3)] }
theorem tok65 : TIok Tryz.prog 65 ti65 := ⟨by kernel_rfl, ⟨_, Tryz.underlying65, rfl, ⟨_, rfl, rfl⟩⟩, by kernel_rfl, by kernel_rfl⟩
def ti66 : TI := { row := true, size := 71, zero := #[.slice none 0 0, .slice none 0 0, .bool false, .int .u32 0, .int .u32 0, .int .u32 0, .int .u32 0, .int .u32 0, .int .u32 0, .int .u32 0, .int .u32 0, .int .u32 0, .int .u32 0, .int .u32 0, .int .u32 0, .int .u32 0, .int .u32 0, .int .u32 0, .int .u32 0, .int .u32 0, .int .u32 0, .int .u32 0, .int .u32 0, .int .u32 0, .int .u32 0, .int .u32 0, .int .u32 0, .int .u32 0, .int .u32 0, .int .u32 0, .int .u32 0, .int .u32 0, .int .u32 0, .int .u32 0, .int .u32 0, .bool false, .int .u32 0, .int .u32 0, .int .u32 0, .int .u32 0, .int .u32 0, .int .u32 0, .int .u32 0, .int .u32 0, .int .u32 0, .int .u32 0, .int .u32 0, .int .u32 0, .int .u32 0, .int .u32 0, .int .u32 0, .int .u32 0, .int .u32 0, .int .u32 0, .int .u32 0, .int .u32 0, .int .u32 0, .int .u32 0, .int .u32 0, .int .u32 0, .int .u32 0, .int .u32 0, .int .u32 0, .int .u32 0, .int .u32 0, .int .u32 0, .int .u32 0, .int .u32 0, .int .i64 0, .int .i64 0, .int .i64 0], kind := 1, fields := [(0, 22), (1, 31), (69, 3), (70, 3)] }
theorem tok66 : TIok Tryz.prog 66 ti66 := ⟨by kernel_rfl, ⟨_, Tryz.underlying66, rfl, ⟨_, rfl, rfl⟩⟩, by kernel_rfl, by kernel_rfl⟩
def ti91 : TI := { row := false, size := 1, zero := #[.slice none 0 0], kind := 3, elem := 29 }
theorem tok91 : TIok Tryz.prog 91 ti91 := ⟨by kernel_rfl, ⟨_, Tryz.underlying91, rfl, rfl⟩, by kernel_rfl, by kernel_rfl⟩
def ti118 : TI := { row := false, size := 1, zero := #[.int .u64 0], kind := 4, ik := .u64 }
theorem tok118 : TIok Tryz.prog 118 ti118 := ⟨by kernel_rfl, ⟨_, Tryz.underlying118, rfl, rfl⟩, by kernel_rfl, by kernel_rfl⟩
def ti120 : TI := { row := false, size := 1, zero := #[.int .u64 0], kind := 4, ik := .u64 }
theorem tok120 : TIok Tryz.prog 120 ti120 := ⟨by kernel_rfl, ⟨_, Tryz.underlying120, rfl, rfl⟩, by kernel_rfl, by kernel_rfl⟩
def ti122 : TI := { row := false, size := 1, zero := #[.slice none 0 0], kind := 3, elem := 158 }
theorem tok122 : TIok Tryz.prog 122 ti122 := ⟨by kernel_rfl, ⟨_, Tryz.underlying122, rfl, rfl⟩, by kernel_rfl, by kernel_rfl⟩
def ti131 : TI := { row := true, size := 32, zero := (Array.replicate 32 (.int .u32 0)), kind := 2, len := 32, elem := 24 }
theorem tok131 : TIok Tryz.prog 131 ti131 := ⟨by kernel_rfl, ⟨_, Tryz.underlying131, rfl, rfl⟩, by kernel_rfl, by kernel_rfl⟩
def ti138 : TI := { row := true, size := 64, zero := (Array.replicate 64 (.int .u32 0)), kind := 2, len := 64, elem := 24 }
theorem tok138 : TIok Tryz.prog 138 ti138 := ⟨by kernel_rfl, ⟨_, Tryz.underlying138, rfl, rfl⟩, by kernel_rfl, by kernel_rfl⟩
def ti142 : TI := { row := false, size := 1, zero := #[.nilFunc], kind := 0 }
theorem tok142 : TIok Tryz.prog 142 ti142 := ⟨by kernel_rfl, ⟨_, Tryz.underlying142, rfl, trivial⟩, by kernel_rfl, by kernel_rfl⟩
def ti148 : TI := { row := false, size := 1, zero := #[.pointer none], kind := 0 }
theorem tok148 : TIok Tryz.prog 148 ti148 := ⟨by kernel_rfl, ⟨_, Tryz.underlying148, rfl, trivial⟩, by kernel_rfl, by kernel_rfl⟩
def ti152 : TI := { row := true, size := 35, zero := #[.bool false, .int .u32 0, .int .u32 0, .int .u32 0, .int .u32 0, .int .u32 0, .int .u32 0, .int .u32 0, .int .u32 0, .int .u32 0, .int .u32 0, .int .u32 0, .int .u32 0, .int .u32 0, .int .u32 0, .int .u32 0, .int .u32 0, .int .u32 0, .int .u32 0, .int .u32 0, .int .u32 0, .int .u32 0, .int .u32 0, .int .u32 0, .int .u32 0, .int .u32 0, .int .u32 0, .int .u32 0, .int .u32 0, .int .u32 0, .int .u32 0, .int .u32 0, .int .u32 0, .int .i64 0, .bool false], kind := 1, fields := [(0, 27), (33, 3), (34, 4)] }
theorem tok152 : TIok Tryz.prog 152 ti152 := ⟨by kernel_rfl, ⟨_, Tryz.underlying152, rfl, ⟨_, rfl, rfl⟩⟩, by kernel_rfl, by kernel_rfl⟩
def ti153 : TI := { row := true, size := 35, zero := #[.bool false, .int .u32 0, .int .u32 0, .int .u32 0, .int .u32 0, .int .u32 0, .int .u32 0, .int .u32 0, .int .u32 0, .int .u32 0, .int .u32 0, .int .u32 0, .int .u32 0, .int .u32 0, .int .u32 0, .int .u32 0, .int .u32 0, .int .u32 0, .int .u32 0, .int .u32 0, .int .u32 0, .int .u32 0, .int .u32 0, .int .u32 0, .int .u32 0, .int .u32 0, .int .u32 0, .int .u32 0, .int .u32 0, .int .u32 0, .int .u32 0, .int .u32 0, .int .u32 0, .int .i64 0, .bool false], kind := 1, fields := [(0, 27), (33, 3), (34, 4)] }
theorem tok153 : TIok Tryz.prog 153 ti153 := ⟨by kernel_rfl, ⟨_, Tryz.underlying153, rfl, ⟨_, rfl, rfl⟩⟩, by kernel_rfl, by kernel_rfl⟩
def ti157 : TI := { row := true, size := 3, zero := #[.string ByteArray.empty, .int .i64 0, .bool false], kind := 1, fields := [(0, 9), (1, 3), (2, 4)] }
theorem tok157 : TIok Tryz.prog 157 ti157 := ⟨by kernel_rfl, ⟨_, Tryz.underlying157, rfl, ⟨_, rfl, rfl⟩⟩, by kernel_rfl, by kernel_rfl⟩
def ti158 : TI := { row := true, size := 3, zero := #[.string ByteArray.empty, .int .i64 0, .bool false], kind := 1, fields := [(0, 9), (1, 3), (2, 4)] }
theorem tok158 : TIok Tryz.prog 158 ti158 := ⟨by kernel_rfl, ⟨_, Tryz.underlying158, rfl, ⟨_, rfl, rfl⟩⟩, by kernel_rfl, by kernel_rfl⟩
def ti170 : TI := { row := false, size := 1, zero := #[.map none], kind := 0 }
theorem tok170 : TIok Tryz.prog 170 ti170 := ⟨by kernel_rfl, ⟨_, Tryz.underlying170, rfl, trivial⟩, by kernel_rfl, by kernel_rfl⟩
def ti178 : TI := { row := true, size := 33, zero := (Array.replicate 33 (.int .u32 0)), kind := 2, len := 33, elem := 24 }
theorem tok178 : TIok Tryz.prog 178 ti178 := ⟨by kernel_rfl, ⟨_, Tryz.underlying178, rfl, rfl⟩, by kernel_rfl, by kernel_rfl⟩
def ti198 : TI := { row := false, size := 1, zero := #[.slice none 0 0], kind := 3, elem := 24 }
theorem tok198 : TIok Tryz.prog 198 ti198 := ⟨by kernel_rfl, ⟨_, Tryz.underlying198, rfl, rfl⟩, by kernel_rfl, by kernel_rfl⟩
def ti199 : TI := { row := false, size := 1, zero := #[.slice none 0 0], kind := 3, elem := 5 }
theorem tok199 : TIok Tryz.prog 199 ti199 := ⟨by kernel_rfl, ⟨_, Tryz.underlying199, rfl, rfl⟩, by kernel_rfl, by kernel_rfl⟩
def ti200 : TI := { row := true, size := 2, zero := #[.int .i64 0, .int .i64 0], kind := 1, fields := [(0, 3), (1, 3)] }
theorem tok200 : TIok Tryz.prog 200 ti200 := ⟨by kernel_rfl, ⟨_, Tryz.underlying200, rfl, ⟨_, rfl, rfl⟩⟩, by kernel_rfl, by kernel_rfl⟩
def ti201 : TI := { row := false, size := 1, zero := #[.slice none 0 0], kind := 3, elem := 200 }
theorem tok201 : TIok Tryz.prog 201 ti201 := ⟨by kernel_rfl, ⟨_, Tryz.underlying201, rfl, rfl⟩, by kernel_rfl, by kernel_rfl⟩
def ti204 : TI := { row := true, size := 256, zero := (Array.replicate 256 (.bool false)), kind := 2, len := 256, elem := 4 }
theorem tok204 : TIok Tryz.prog 204 ti204 := ⟨by kernel_rfl, ⟨_, Tryz.underlying204, rfl, rfl⟩, by kernel_rfl, by kernel_rfl⟩
def ti205 : TI := { row := true, size := 256, zero := (Array.replicate 256 (.bool false)), kind := 2, len := 256, elem := 4 }
theorem tok205 : TIok Tryz.prog 205 ti205 := ⟨by kernel_rfl, ⟨_, Tryz.underlying205, rfl, rfl⟩, by kernel_rfl, by kernel_rfl⟩
def ti216 : TI := { row := false, size := 1, zero := #[.int .i64 0], kind := 4, ik := .i64 }
theorem tok216 : TIok Tryz.prog 216 ti216 := ⟨by kernel_rfl, ⟨_, Tryz.underlying216, rfl, rfl⟩, by kernel_rfl, by kernel_rfl⟩
def ti224 : TI := { row := false, size := 1, zero := #[.nilIface], kind := 0 }
theorem tok224 : TIok Tryz.prog 224 ti224 := ⟨by kernel_rfl, ⟨_, Tryz.underlying224, rfl, trivial⟩, by kernel_rfl, by kernel_rfl⟩
def ti230 : TI := { row := true, size := 2, zero := #[.pointer none, .slice none 0 0], kind := 1, fields := [(0, 228), (1, 199)] }
theorem tok230 : TIok Tryz.prog 230 ti230 := ⟨by kernel_rfl, ⟨_, Tryz.underlying230, rfl, ⟨_, rfl, rfl⟩⟩, by kernel_rfl, by kernel_rfl⟩
def ti239 : TI := { row := false, size := 1, zero := #[.int .u64 0], kind := 4, ik := .u64 }
theorem tok239 : TIok Tryz.prog 239 ti239 := ⟨by kernel_rfl, ⟨_, Tryz.underlying239, rfl, rfl⟩, by kernel_rfl, by kernel_rfl⟩
def ti243 : TI := { row := false, size := 1, zero := #[.pointer none], kind := 0 }
theorem tok243 : TIok Tryz.prog 243 ti243 := ⟨by kernel_rfl, ⟨_, Tryz.underlying243, rfl, trivial⟩, by kernel_rfl, by kernel_rfl⟩
def ti248 : TI := { row := false, size := 1, zero := #[.pointer none], kind := 0 }
theorem tok248 : TIok Tryz.prog 248 ti248 := ⟨by kernel_rfl, ⟨_, Tryz.underlying248, rfl, trivial⟩, by kernel_rfl, by kernel_rfl⟩
def ti250 : TI := { row := false, size := 1, zero := #[.pointer none], kind := 0 }
theorem tok250 : TIok Tryz.prog 250 ti250 := ⟨by kernel_rfl, ⟨_, Tryz.underlying250, rfl, trivial⟩, by kernel_rfl, by kernel_rfl⟩
def ti259 : TI := { row := true, size := 256, zero := (Array.replicate 256 (.int .u8 0)), kind := 2, len := 256, elem := 5 }
theorem tok259 : TIok Tryz.prog 259 ti259 := ⟨by kernel_rfl, ⟨_, Tryz.underlying259, rfl, rfl⟩, by kernel_rfl, by kernel_rfl⟩
def ti260 : TI := { row := true, size := 2, zero := #[.int .u8 0, .int .u8 0], kind := 1, fields := [(0, 5), (1, 5)] }
theorem tok260 : TIok Tryz.prog 260 ti260 := ⟨by kernel_rfl, ⟨_, Tryz.underlying260, rfl, ⟨_, rfl, rfl⟩⟩, by kernel_rfl, by kernel_rfl⟩
def ti276 : TI := { row := true, size := 1, zero := #[.string ByteArray.empty], kind := 1, fields := [(0, 9)] }
theorem tok276 : TIok Tryz.prog 276 ti276 := ⟨by kernel_rfl, ⟨_, Tryz.underlying276, rfl, ⟨_, rfl, rfl⟩⟩, by kernel_rfl, by kernel_rfl⟩
def tt_0 : TypeId → Option TI
  | 2 => some ti2
  | 3 => some ti3
  | 4 => some ti4
  | 5 => some ti5
  | 9 => some ti9
  | 12 => some ti12
  | 13 => some ti13
  | 21 => some ti21
  | 22 => some ti22
  | 23 => some ti23
  | 24 => some ti24
  | 25 => some ti25
  | 26 => some ti26
  | 27 => some ti27
  | 28 => some ti28
  | 29 => some ti29
  | _ => none
theorem tt_0_ok : TTok Tryz.prog tt_0 := by
  intro ty i h
  unfold tt_0 at h
  split at h
  · cases h; exact tok2
  · cases h; exact tok3
  · cases h; exact tok4
  · cases h; exact tok5
  · cases h; exact tok9
  · cases h; exact tok12
  · cases h; exact tok13
  · cases h; exact tok21
  · cases h; exact tok22
  · cases h; exact tok23
  · cases h; exact tok24
  · cases h; exact tok25
  · cases h; exact tok26
  · cases h; exact tok27
  · cases h; exact tok28
  · cases h; exact tok29
  · cases h
def tt_1 : TypeId → Option TI
  | 30 => some ti30
  | 31 => some ti31
  | 32 => some ti32
  | 37 => some ti37
  | 39 => some ti39
  | 40 => some ti40
  | 41 => some ti41
  | 42 => some ti42
  | 50 => some ti50
  | 51 => some ti51
  | 56 => some ti56
  | 57 => some ti57
  | 65 => some ti65
  | 66 => some ti66
  | 91 => some ti91
  | 118 => some ti118
  | _ => none
theorem tt_1_ok : TTok Tryz.prog tt_1 := by
  intro ty i h
  unfold tt_1 at h
  split at h
  · cases h; exact tok30
  · cases h; exact tok31
  · cases h; exact tok32
  · cases h; exact tok37
  · cases h; exact tok39
  · cases h; exact tok40
  · cases h; exact tok41
  · cases h; exact tok42
  · cases h; exact tok50
  · cases h; exact tok51
  · cases h; exact tok56
  · cases h; exact tok57
  · cases h; exact tok65
  · cases h; exact tok66
  · cases h; exact tok91
  · cases h; exact tok118
  · cases h
def tt_2 : TypeId → Option TI
  | 120 => some ti120
  | 122 => some ti122
  | 131 => some ti131
  | 138 => some ti138
  | 142 => some ti142
  | 148 => some ti148
  | 152 => some ti152
  | 153 => some ti153
  | 157 => some ti157
  | 158 => some ti158
  | 170 => some ti170
  | 178 => some ti178
  | 198 => some ti198
  | 199 => some ti199
  | 200 => some ti200
  | 201 => some ti201
  | _ => none
theorem tt_2_ok : TTok Tryz.prog tt_2 := by
  intro ty i h
  unfold tt_2 at h
  split at h
  · cases h; exact tok120
  · cases h; exact tok122
  · cases h; exact tok131
  · cases h; exact tok138
  · cases h; exact tok142
  · cases h; exact tok148
  · cases h; exact tok152
  · cases h; exact tok153
  · cases h; exact tok157
  · cases h; exact tok158
  · cases h; exact tok170
  · cases h; exact tok178
  · cases h; exact tok198
  · cases h; exact tok199
  · cases h; exact tok200
  · cases h; exact tok201
  · cases h
def tt_3 : TypeId → Option TI
  | 204 => some ti204
  | 205 => some ti205
  | 216 => some ti216
  | 224 => some ti224
  | 230 => some ti230
  | 239 => some ti239
  | 243 => some ti243
  | 248 => some ti248
  | 250 => some ti250
  | 259 => some ti259
  | 260 => some ti260
  | 276 => some ti276
  | _ => none
theorem tt_3_ok : TTok Tryz.prog tt_3 := by
  intro ty i h
  unfold tt_3 at h
  split at h
  · cases h; exact tok204
  · cases h; exact tok205
  · cases h; exact tok216
  · cases h; exact tok224
  · cases h; exact tok230
  · cases h; exact tok239
  · cases h; exact tok243
  · cases h; exact tok248
  · cases h; exact tok250
  · cases h; exact tok259
  · cases h; exact tok260
  · cases h; exact tok276
  · cases h
def tt (ty : TypeId) : Option TI :=
  if Nat.ble ty 29 then tt_0 ty else
  if Nat.ble ty 118 then tt_1 ty else
  if Nat.ble ty 201 then tt_2 ty else
  tt_3 ty
theorem tt_ok : TTok Tryz.prog tt := by
  intro ty i h
  unfold tt at h
  split at h
  · exact tt_0_ok ty i h
  split at h
  · exact tt_1_ok ty i h
  split at h
  · exact tt_2_ok ty i h
  exact tt_3_ok ty i h
theorem mixed : Tryz.prog.follows .mixedOrders = true := by kernel_rfl
end Go.Proofs.YtjkgmglmgndaoaaGreatDoor
namespace Go.Proofs.YtjkgmglmgndaoaaGreatDoor
open Go Go.SX
theorem at3 : FnOk Tryz.prog 3 Tryz.f3 := ⟨Tryz.func3, rfl, rfl, rfl, by kernel_rfl⟩
theorem at11 : FnOk Tryz.prog 11 Tryz.f11 := ⟨Tryz.func11, rfl, rfl, rfl, by kernel_rfl⟩
theorem at12 : FnOk Tryz.prog 12 Tryz.f12 := ⟨Tryz.func12, rfl, rfl, rfl, by kernel_rfl⟩
theorem at13 : FnOk Tryz.prog 13 Tryz.f13 := ⟨Tryz.func13, rfl, rfl, rfl, by kernel_rfl⟩
theorem at14 : FnOk Tryz.prog 14 Tryz.f14 := ⟨Tryz.func14, rfl, rfl, rfl, by kernel_rfl⟩
theorem at15 : FnOk Tryz.prog 15 Tryz.f15 := ⟨Tryz.func15, rfl, rfl, rfl, by kernel_rfl⟩
theorem at23 : FnOk Tryz.prog 23 Tryz.f23 := ⟨Tryz.func23, rfl, rfl, rfl, by kernel_rfl⟩
theorem at24 : FnOk Tryz.prog 24 Tryz.f24 := ⟨Tryz.func24, rfl, rfl, rfl, by kernel_rfl⟩
theorem at25 : FnOk Tryz.prog 25 Tryz.f25 := ⟨Tryz.func25, rfl, rfl, rfl, by kernel_rfl⟩
theorem at26 : FnOk Tryz.prog 26 Tryz.f26 := ⟨Tryz.func26, rfl, rfl, rfl, by kernel_rfl⟩
theorem at28 : FnOk Tryz.prog 28 Tryz.f28 := ⟨Tryz.func28, rfl, rfl, rfl, by kernel_rfl⟩
theorem at29 : FnOk Tryz.prog 29 Tryz.f29 := ⟨Tryz.func29, rfl, rfl, rfl, by kernel_rfl⟩
theorem at35 : FnOk Tryz.prog 35 Tryz.f35 := ⟨Tryz.func35, rfl, rfl, rfl, by kernel_rfl⟩
theorem at36 : FnOk Tryz.prog 36 Tryz.f36 := ⟨Tryz.func36, rfl, rfl, rfl, by kernel_rfl⟩
theorem at37 : FnOk Tryz.prog 37 Tryz.f37 := ⟨Tryz.func37, rfl, rfl, rfl, by kernel_rfl⟩
theorem at38 : FnOk Tryz.prog 38 Tryz.f38 := ⟨Tryz.func38, rfl, rfl, rfl, by kernel_rfl⟩
theorem at39 : FnOk Tryz.prog 39 Tryz.f39 := ⟨Tryz.func39, rfl, rfl, rfl, by kernel_rfl⟩
theorem at40 : FnOk Tryz.prog 40 Tryz.f40 := ⟨Tryz.func40, rfl, rfl, rfl, by kernel_rfl⟩
theorem at41 : FnOk Tryz.prog 41 Tryz.f41 := ⟨Tryz.func41, rfl, rfl, rfl, by kernel_rfl⟩
theorem at47 : FnOk Tryz.prog 47 Tryz.f47 := ⟨Tryz.func47, rfl, rfl, rfl, by kernel_rfl⟩
theorem at48 : FnOk Tryz.prog 48 Tryz.f48 := ⟨Tryz.func48, rfl, rfl, rfl, by kernel_rfl⟩
theorem at49 : FnOk Tryz.prog 49 Tryz.f49 := ⟨Tryz.func49, rfl, rfl, rfl, by kernel_rfl⟩
theorem at50 : FnOk Tryz.prog 50 Tryz.f50 := ⟨Tryz.func50, rfl, rfl, rfl, by kernel_rfl⟩
theorem at51 : FnOk Tryz.prog 51 Tryz.f51 := ⟨Tryz.func51, rfl, rfl, rfl, by kernel_rfl⟩
theorem at53 : FnOk Tryz.prog 53 Tryz.f53 := ⟨Tryz.func53, rfl, rfl, rfl, by kernel_rfl⟩
theorem at54 : FnOk Tryz.prog 54 Tryz.f54 := ⟨Tryz.func54, rfl, rfl, rfl, by kernel_rfl⟩
theorem at55 : FnOk Tryz.prog 55 Tryz.f55 := ⟨Tryz.func55, rfl, rfl, rfl, by kernel_rfl⟩
theorem at56 : FnOk Tryz.prog 56 Tryz.f56 := ⟨Tryz.func56, rfl, rfl, rfl, by kernel_rfl⟩
theorem at57 : FnOk Tryz.prog 57 Tryz.f57 := ⟨Tryz.func57, rfl, rfl, rfl, by kernel_rfl⟩
theorem at58 : FnOk Tryz.prog 58 Tryz.f58 := ⟨Tryz.func58, rfl, rfl, rfl, by kernel_rfl⟩
theorem at59 : FnOk Tryz.prog 59 Tryz.f59 := ⟨Tryz.func59, rfl, rfl, rfl, by kernel_rfl⟩
theorem at60 : FnOk Tryz.prog 60 Tryz.f60 := ⟨Tryz.func60, rfl, rfl, rfl, by kernel_rfl⟩
theorem at61 : FnOk Tryz.prog 61 Tryz.f61 := ⟨Tryz.func61, rfl, rfl, rfl, by kernel_rfl⟩
theorem at62 : FnOk Tryz.prog 62 Tryz.f62 := ⟨Tryz.func62, rfl, rfl, rfl, by kernel_rfl⟩
theorem at64 : FnOk Tryz.prog 64 Tryz.f64 := ⟨Tryz.func64, rfl, rfl, rfl, by kernel_rfl⟩
theorem at66 : FnOk Tryz.prog 66 Tryz.f66 := ⟨Tryz.func66, rfl, rfl, rfl, by kernel_rfl⟩
theorem at67 : FnOk Tryz.prog 67 Tryz.f67 := ⟨Tryz.func67, rfl, rfl, rfl, by kernel_rfl⟩
theorem at68 : FnOk Tryz.prog 68 Tryz.f68 := ⟨Tryz.func68, rfl, rfl, rfl, by kernel_rfl⟩
theorem at69 : FnOk Tryz.prog 69 Tryz.f69 := ⟨Tryz.func69, rfl, rfl, rfl, by kernel_rfl⟩
theorem at70 : FnOk Tryz.prog 70 Tryz.f70 := ⟨Tryz.func70, rfl, rfl, rfl, by kernel_rfl⟩
theorem at71 : FnOk Tryz.prog 71 Tryz.f71 := ⟨Tryz.func71, rfl, rfl, rfl, by kernel_rfl⟩
theorem at72 : FnOk Tryz.prog 72 Tryz.f72 := ⟨Tryz.func72, rfl, rfl, rfl, by kernel_rfl⟩
theorem at73 : FnOk Tryz.prog 73 Tryz.f73 := ⟨Tryz.func73, rfl, rfl, rfl, by kernel_rfl⟩
theorem at74 : FnOk Tryz.prog 74 Tryz.f74 := ⟨Tryz.func74, rfl, rfl, rfl, by kernel_rfl⟩
theorem at75 : FnOk Tryz.prog 75 Tryz.f75 := ⟨Tryz.func75, rfl, rfl, rfl, by kernel_rfl⟩
theorem at76 : FnOk Tryz.prog 76 Tryz.f76 := ⟨Tryz.func76, rfl, rfl, rfl, by kernel_rfl⟩
theorem at77 : FnOk Tryz.prog 77 Tryz.f77 := ⟨Tryz.func77, rfl, rfl, rfl, by kernel_rfl⟩
theorem at78 : FnOk Tryz.prog 78 Tryz.f78 := ⟨Tryz.func78, rfl, rfl, rfl, by kernel_rfl⟩
theorem at79 : FnOk Tryz.prog 79 Tryz.f79 := ⟨Tryz.func79, rfl, rfl, rfl, by kernel_rfl⟩
theorem at80 : FnOk Tryz.prog 80 Tryz.f80 := ⟨Tryz.func80, rfl, rfl, rfl, by kernel_rfl⟩
theorem at81 : FnOk Tryz.prog 81 Tryz.f81 := ⟨Tryz.func81, rfl, rfl, rfl, by kernel_rfl⟩
theorem at82 : FnOk Tryz.prog 82 Tryz.f82 := ⟨Tryz.func82, rfl, rfl, rfl, by kernel_rfl⟩
theorem at83 : FnOk Tryz.prog 83 Tryz.f83 := ⟨Tryz.func83, rfl, rfl, rfl, by kernel_rfl⟩
theorem at84 : FnOk Tryz.prog 84 Tryz.f84 := ⟨Tryz.func84, rfl, rfl, rfl, by kernel_rfl⟩
theorem at85 : FnOk Tryz.prog 85 Tryz.f85 := ⟨Tryz.func85, rfl, rfl, rfl, by kernel_rfl⟩
theorem at86 : FnOk Tryz.prog 86 Tryz.f86 := ⟨Tryz.func86, rfl, rfl, rfl, by kernel_rfl⟩
theorem at87 : FnOk Tryz.prog 87 Tryz.f87 := ⟨Tryz.func87, rfl, rfl, rfl, by kernel_rfl⟩
theorem at88 : FnOk Tryz.prog 88 Tryz.f88 := ⟨Tryz.func88, rfl, rfl, rfl, by kernel_rfl⟩
theorem at89 : FnOk Tryz.prog 89 Tryz.f89 := ⟨Tryz.func89, rfl, rfl, rfl, by kernel_rfl⟩
theorem at90 : FnOk Tryz.prog 90 Tryz.f90 := ⟨Tryz.func90, rfl, rfl, rfl, by kernel_rfl⟩
theorem at91 : FnOk Tryz.prog 91 Tryz.f91 := ⟨Tryz.func91, rfl, rfl, rfl, by kernel_rfl⟩
theorem at92 : FnOk Tryz.prog 92 Tryz.f92 := ⟨Tryz.func92, rfl, rfl, rfl, by kernel_rfl⟩
theorem at93 : FnOk Tryz.prog 93 Tryz.f93 := ⟨Tryz.func93, rfl, rfl, rfl, by kernel_rfl⟩
theorem at94 : FnOk Tryz.prog 94 Tryz.f94 := ⟨Tryz.func94, rfl, rfl, rfl, by kernel_rfl⟩
theorem at95 : FnOk Tryz.prog 95 Tryz.f95 := ⟨Tryz.func95, rfl, rfl, rfl, by kernel_rfl⟩
theorem at96 : FnOk Tryz.prog 96 Tryz.f96 := ⟨Tryz.func96, rfl, rfl, rfl, by kernel_rfl⟩
theorem at97 : FnOk Tryz.prog 97 Tryz.f97 := ⟨Tryz.func97, rfl, rfl, rfl, by kernel_rfl⟩
theorem at98 : FnOk Tryz.prog 98 Tryz.f98 := ⟨Tryz.func98, rfl, rfl, rfl, by kernel_rfl⟩
theorem at99 : FnOk Tryz.prog 99 Tryz.f99 := ⟨Tryz.func99, rfl, rfl, rfl, by kernel_rfl⟩
theorem at100 : FnOk Tryz.prog 100 Tryz.f100 := ⟨Tryz.func100, rfl, rfl, rfl, by kernel_rfl⟩
theorem at101 : FnOk Tryz.prog 101 Tryz.f101 := ⟨Tryz.func101, rfl, rfl, rfl, by kernel_rfl⟩
theorem at102 : FnOk Tryz.prog 102 Tryz.f102 := ⟨Tryz.func102, rfl, rfl, rfl, by kernel_rfl⟩
theorem at104 : FnOk Tryz.prog 104 Tryz.f104 := ⟨Tryz.func104, rfl, rfl, rfl, by kernel_rfl⟩
theorem at105 : FnOk Tryz.prog 105 Tryz.f105 := ⟨Tryz.func105, rfl, rfl, rfl, by kernel_rfl⟩
theorem at106 : FnOk Tryz.prog 106 Tryz.f106 := ⟨Tryz.func106, rfl, rfl, rfl, by kernel_rfl⟩
theorem at107 : FnOk Tryz.prog 107 Tryz.f107 := ⟨Tryz.func107, rfl, rfl, rfl, by kernel_rfl⟩
theorem at108 : FnOk Tryz.prog 108 Tryz.f108 := ⟨Tryz.func108, rfl, rfl, rfl, by kernel_rfl⟩
theorem at109 : FnOk Tryz.prog 109 Tryz.f109 := ⟨Tryz.func109, rfl, rfl, rfl, by kernel_rfl⟩
theorem at110 : FnOk Tryz.prog 110 Tryz.f110 := ⟨Tryz.func110, rfl, rfl, rfl, by kernel_rfl⟩
theorem at111 : FnOk Tryz.prog 111 Tryz.f111 := ⟨Tryz.func111, rfl, rfl, rfl, by kernel_rfl⟩
theorem at112 : FnOk Tryz.prog 112 Tryz.f112 := ⟨Tryz.func112, rfl, rfl, rfl, by kernel_rfl⟩
theorem at113 : FnOk Tryz.prog 113 Tryz.f113 := ⟨Tryz.func113, rfl, rfl, rfl, by kernel_rfl⟩
theorem at114 : FnOk Tryz.prog 114 Tryz.f114 := ⟨Tryz.func114, rfl, rfl, rfl, by kernel_rfl⟩
theorem at115 : FnOk Tryz.prog 115 Tryz.f115 := ⟨Tryz.func115, rfl, rfl, rfl, by kernel_rfl⟩
theorem at116 : FnOk Tryz.prog 116 Tryz.f116 := ⟨Tryz.func116, rfl, rfl, rfl, by kernel_rfl⟩
theorem at117 : FnOk Tryz.prog 117 Tryz.f117 := ⟨Tryz.func117, rfl, rfl, rfl, by kernel_rfl⟩
theorem at118 : FnOk Tryz.prog 118 Tryz.f118 := ⟨Tryz.func118, rfl, rfl, rfl, by kernel_rfl⟩
theorem at119 : FnOk Tryz.prog 119 Tryz.f119 := ⟨Tryz.func119, rfl, rfl, rfl, by kernel_rfl⟩
theorem at120 : FnOk Tryz.prog 120 Tryz.f120 := ⟨Tryz.func120, rfl, rfl, rfl, by kernel_rfl⟩
theorem at121 : FnOk Tryz.prog 121 Tryz.f121 := ⟨Tryz.func121, rfl, rfl, rfl, by kernel_rfl⟩
theorem at122 : FnOk Tryz.prog 122 Tryz.f122 := ⟨Tryz.func122, rfl, rfl, rfl, by kernel_rfl⟩
theorem at123 : FnOk Tryz.prog 123 Tryz.f123 := ⟨Tryz.func123, rfl, rfl, rfl, by kernel_rfl⟩
theorem at124 : FnOk Tryz.prog 124 Tryz.f124 := ⟨Tryz.func124, rfl, rfl, rfl, by kernel_rfl⟩
theorem at125 : FnOk Tryz.prog 125 Tryz.f125 := ⟨Tryz.func125, rfl, rfl, rfl, by kernel_rfl⟩
theorem at126 : FnOk Tryz.prog 126 Tryz.f126 := ⟨Tryz.func126, rfl, rfl, rfl, by kernel_rfl⟩
theorem at127 : FnOk Tryz.prog 127 Tryz.f127 := ⟨Tryz.func127, rfl, rfl, rfl, by kernel_rfl⟩
theorem at128 : FnOk Tryz.prog 128 Tryz.f128 := ⟨Tryz.func128, rfl, rfl, rfl, by kernel_rfl⟩
theorem at129 : FnOk Tryz.prog 129 Tryz.f129 := ⟨Tryz.func129, rfl, rfl, rfl, by kernel_rfl⟩
theorem at130 : FnOk Tryz.prog 130 Tryz.f130 := ⟨Tryz.func130, rfl, rfl, rfl, by kernel_rfl⟩
theorem at131 : FnOk Tryz.prog 131 Tryz.f131 := ⟨Tryz.func131, rfl, rfl, rfl, by kernel_rfl⟩
theorem at132 : FnOk Tryz.prog 132 Tryz.f132 := ⟨Tryz.func132, rfl, rfl, rfl, by kernel_rfl⟩
theorem at133 : FnOk Tryz.prog 133 Tryz.f133 := ⟨Tryz.func133, rfl, rfl, rfl, by kernel_rfl⟩
theorem at134 : FnOk Tryz.prog 134 Tryz.f134 := ⟨Tryz.func134, rfl, rfl, rfl, by kernel_rfl⟩
theorem at135 : FnOk Tryz.prog 135 Tryz.f135 := ⟨Tryz.func135, rfl, rfl, rfl, by kernel_rfl⟩
theorem at136 : FnOk Tryz.prog 136 Tryz.f136 := ⟨Tryz.func136, rfl, rfl, rfl, by kernel_rfl⟩
theorem at137 : FnOk Tryz.prog 137 Tryz.f137 := ⟨Tryz.func137, rfl, rfl, rfl, by kernel_rfl⟩
theorem at138 : FnOk Tryz.prog 138 Tryz.f138 := ⟨Tryz.func138, rfl, rfl, rfl, by kernel_rfl⟩
theorem at139 : FnOk Tryz.prog 139 Tryz.f139 := ⟨Tryz.func139, rfl, rfl, rfl, by kernel_rfl⟩
theorem at140 : FnOk Tryz.prog 140 Tryz.f140 := ⟨Tryz.func140, rfl, rfl, rfl, by kernel_rfl⟩
theorem at141 : FnOk Tryz.prog 141 Tryz.f141 := ⟨Tryz.func141, rfl, rfl, rfl, by kernel_rfl⟩
theorem at142 : FnOk Tryz.prog 142 Tryz.f142 := ⟨Tryz.func142, rfl, rfl, rfl, by kernel_rfl⟩
theorem at143 : FnOk Tryz.prog 143 Tryz.f143 := ⟨Tryz.func143, rfl, rfl, rfl, by kernel_rfl⟩
theorem at144 : FnOk Tryz.prog 144 Tryz.f144 := ⟨Tryz.func144, rfl, rfl, rfl, by kernel_rfl⟩
theorem at145 : FnOk Tryz.prog 145 Tryz.f145 := ⟨Tryz.func145, rfl, rfl, rfl, by kernel_rfl⟩
theorem at146 : FnOk Tryz.prog 146 Tryz.f146 := ⟨Tryz.func146, rfl, rfl, rfl, by kernel_rfl⟩
theorem at147 : FnOk Tryz.prog 147 Tryz.f147 := ⟨Tryz.func147, rfl, rfl, rfl, by kernel_rfl⟩
theorem at148 : FnOk Tryz.prog 148 Tryz.f148 := ⟨Tryz.func148, rfl, rfl, rfl, by kernel_rfl⟩
theorem at149 : FnOk Tryz.prog 149 Tryz.f149 := ⟨Tryz.func149, rfl, rfl, rfl, by kernel_rfl⟩
theorem at150 : FnOk Tryz.prog 150 Tryz.f150 := ⟨Tryz.func150, rfl, rfl, rfl, by kernel_rfl⟩
theorem at151 : FnOk Tryz.prog 151 Tryz.f151 := ⟨Tryz.func151, rfl, rfl, rfl, by kernel_rfl⟩
theorem at152 : FnOk Tryz.prog 152 Tryz.f152 := ⟨Tryz.func152, rfl, rfl, rfl, by kernel_rfl⟩
theorem at153 : FnOk Tryz.prog 153 Tryz.f153 := ⟨Tryz.func153, rfl, rfl, rfl, by kernel_rfl⟩
theorem at154 : FnOk Tryz.prog 154 Tryz.f154 := ⟨Tryz.func154, rfl, rfl, rfl, by kernel_rfl⟩
theorem at155 : FnOk Tryz.prog 155 Tryz.f155 := ⟨Tryz.func155, rfl, rfl, rfl, by kernel_rfl⟩
theorem at156 : FnOk Tryz.prog 156 Tryz.f156 := ⟨Tryz.func156, rfl, rfl, rfl, by kernel_rfl⟩
theorem at157 : FnOk Tryz.prog 157 Tryz.f157 := ⟨Tryz.func157, rfl, rfl, rfl, by kernel_rfl⟩
theorem at158 : FnOk Tryz.prog 158 Tryz.f158 := ⟨Tryz.func158, rfl, rfl, rfl, by kernel_rfl⟩
theorem at159 : FnOk Tryz.prog 159 Tryz.f159 := ⟨Tryz.func159, rfl, rfl, rfl, by kernel_rfl⟩
theorem at160 : FnOk Tryz.prog 160 Tryz.f160 := ⟨Tryz.func160, rfl, rfl, rfl, by kernel_rfl⟩
theorem at161 : FnOk Tryz.prog 161 Tryz.f161 := ⟨Tryz.func161, rfl, rfl, rfl, by kernel_rfl⟩
theorem at162 : FnOk Tryz.prog 162 Tryz.f162 := ⟨Tryz.func162, rfl, rfl, rfl, by kernel_rfl⟩
theorem at163 : FnOk Tryz.prog 163 Tryz.f163 := ⟨Tryz.func163, rfl, rfl, rfl, by kernel_rfl⟩
theorem at164 : FnOk Tryz.prog 164 Tryz.f164 := ⟨Tryz.func164, rfl, rfl, rfl, by kernel_rfl⟩
theorem at165 : FnOk Tryz.prog 165 Tryz.f165 := ⟨Tryz.func165, rfl, rfl, rfl, by kernel_rfl⟩
theorem at166 : FnOk Tryz.prog 166 Tryz.f166 := ⟨Tryz.func166, rfl, rfl, rfl, by kernel_rfl⟩
theorem at167 : FnOk Tryz.prog 167 Tryz.f167 := ⟨Tryz.func167, rfl, rfl, rfl, by kernel_rfl⟩
theorem at168 : FnOk Tryz.prog 168 Tryz.f168 := ⟨Tryz.func168, rfl, rfl, rfl, by kernel_rfl⟩
theorem at169 : FnOk Tryz.prog 169 Tryz.f169 := ⟨Tryz.func169, rfl, rfl, rfl, by kernel_rfl⟩
theorem at171 : FnOk Tryz.prog 171 Tryz.f171 := ⟨Tryz.func171, rfl, rfl, rfl, by kernel_rfl⟩
theorem at172 : FnOk Tryz.prog 172 Tryz.f172 := ⟨Tryz.func172, rfl, rfl, rfl, by kernel_rfl⟩
theorem at173 : FnOk Tryz.prog 173 Tryz.f173 := ⟨Tryz.func173, rfl, rfl, rfl, by kernel_rfl⟩
theorem at174 : FnOk Tryz.prog 174 Tryz.f174 := ⟨Tryz.func174, rfl, rfl, rfl, by kernel_rfl⟩
theorem at175 : FnOk Tryz.prog 175 Tryz.f175 := ⟨Tryz.func175, rfl, rfl, rfl, by kernel_rfl⟩
theorem at176 : FnOk Tryz.prog 176 Tryz.f176 := ⟨Tryz.func176, rfl, rfl, rfl, by kernel_rfl⟩
theorem at177 : FnOk Tryz.prog 177 Tryz.f177 := ⟨Tryz.func177, rfl, rfl, rfl, by kernel_rfl⟩
theorem at178 : FnOk Tryz.prog 178 Tryz.f178 := ⟨Tryz.func178, rfl, rfl, rfl, by kernel_rfl⟩
theorem at179 : FnOk Tryz.prog 179 Tryz.f179 := ⟨Tryz.func179, rfl, rfl, rfl, by kernel_rfl⟩
theorem at180 : FnOk Tryz.prog 180 Tryz.f180 := ⟨Tryz.func180, rfl, rfl, rfl, by kernel_rfl⟩
theorem at181 : FnOk Tryz.prog 181 Tryz.f181 := ⟨Tryz.func181, rfl, rfl, rfl, by kernel_rfl⟩
theorem at182 : FnOk Tryz.prog 182 Tryz.f182 := ⟨Tryz.func182, rfl, rfl, rfl, by kernel_rfl⟩
theorem at183 : FnOk Tryz.prog 183 Tryz.f183 := ⟨Tryz.func183, rfl, rfl, rfl, by kernel_rfl⟩
theorem at184 : FnOk Tryz.prog 184 Tryz.f184 := ⟨Tryz.func184, rfl, rfl, rfl, by kernel_rfl⟩
theorem at185 : FnOk Tryz.prog 185 Tryz.f185 := ⟨Tryz.func185, rfl, rfl, rfl, by kernel_rfl⟩
theorem at186 : FnOk Tryz.prog 186 Tryz.f186 := ⟨Tryz.func186, rfl, rfl, rfl, by kernel_rfl⟩
theorem at187 : FnOk Tryz.prog 187 Tryz.f187 := ⟨Tryz.func187, rfl, rfl, rfl, by kernel_rfl⟩
theorem at188 : FnOk Tryz.prog 188 Tryz.f188 := ⟨Tryz.func188, rfl, rfl, rfl, by kernel_rfl⟩
theorem at189 : FnOk Tryz.prog 189 Tryz.f189 := ⟨Tryz.func189, rfl, rfl, rfl, by kernel_rfl⟩
theorem at190 : FnOk Tryz.prog 190 Tryz.f190 := ⟨Tryz.func190, rfl, rfl, rfl, by kernel_rfl⟩
theorem at191 : FnOk Tryz.prog 191 Tryz.f191 := ⟨Tryz.func191, rfl, rfl, rfl, by kernel_rfl⟩
theorem at192 : FnOk Tryz.prog 192 Tryz.f192 := ⟨Tryz.func192, rfl, rfl, rfl, by kernel_rfl⟩
theorem at193 : FnOk Tryz.prog 193 Tryz.f193 := ⟨Tryz.func193, rfl, rfl, rfl, by kernel_rfl⟩
theorem at194 : FnOk Tryz.prog 194 Tryz.f194 := ⟨Tryz.func194, rfl, rfl, rfl, by kernel_rfl⟩
theorem at195 : FnOk Tryz.prog 195 Tryz.f195 := ⟨Tryz.func195, rfl, rfl, rfl, by kernel_rfl⟩
theorem at196 : FnOk Tryz.prog 196 Tryz.f196 := ⟨Tryz.func196, rfl, rfl, rfl, by kernel_rfl⟩
theorem at197 : FnOk Tryz.prog 197 Tryz.f197 := ⟨Tryz.func197, rfl, rfl, rfl, by kernel_rfl⟩
theorem at198 : FnOk Tryz.prog 198 Tryz.f198 := ⟨Tryz.func198, rfl, rfl, rfl, by kernel_rfl⟩
theorem at199 : FnOk Tryz.prog 199 Tryz.f199 := ⟨Tryz.func199, rfl, rfl, rfl, by kernel_rfl⟩
theorem at200 : FnOk Tryz.prog 200 Tryz.f200 := ⟨Tryz.func200, rfl, rfl, rfl, by kernel_rfl⟩
theorem at201 : FnOk Tryz.prog 201 Tryz.f201 := ⟨Tryz.func201, rfl, rfl, rfl, by kernel_rfl⟩
theorem at202 : FnOk Tryz.prog 202 Tryz.f202 := ⟨Tryz.func202, rfl, rfl, rfl, by kernel_rfl⟩
theorem at203 : FnOk Tryz.prog 203 Tryz.f203 := ⟨Tryz.func203, rfl, rfl, rfl, by kernel_rfl⟩
theorem at204 : FnOk Tryz.prog 204 Tryz.f204 := ⟨Tryz.func204, rfl, rfl, rfl, by kernel_rfl⟩
theorem at205 : FnOk Tryz.prog 205 Tryz.f205 := ⟨Tryz.func205, rfl, rfl, rfl, by kernel_rfl⟩
theorem at206 : FnOk Tryz.prog 206 Tryz.f206 := ⟨Tryz.func206, rfl, rfl, rfl, by kernel_rfl⟩
theorem at207 : FnOk Tryz.prog 207 Tryz.f207 := ⟨Tryz.func207, rfl, rfl, rfl, by kernel_rfl⟩
theorem at208 : FnOk Tryz.prog 208 Tryz.f208 := ⟨Tryz.func208, rfl, rfl, rfl, by kernel_rfl⟩
theorem at209 : FnOk Tryz.prog 209 Tryz.f209 := ⟨Tryz.func209, rfl, rfl, rfl, by kernel_rfl⟩
theorem at213 : FnOk Tryz.prog 213 Tryz.f213 := ⟨Tryz.func213, rfl, rfl, rfl, by kernel_rfl⟩
theorem at214 : FnOk Tryz.prog 214 Tryz.f214 := ⟨Tryz.func214, rfl, rfl, rfl, by kernel_rfl⟩
theorem at215 : FnOk Tryz.prog 215 Tryz.f215 := ⟨Tryz.func215, rfl, rfl, rfl, by kernel_rfl⟩
theorem at216 : FnOk Tryz.prog 216 Tryz.f216 := ⟨Tryz.func216, rfl, rfl, rfl, by kernel_rfl⟩
theorem at217 : FnOk Tryz.prog 217 Tryz.f217 := ⟨Tryz.func217, rfl, rfl, rfl, by kernel_rfl⟩
theorem at221 : FnOk Tryz.prog 221 Tryz.f221 := ⟨Tryz.func221, rfl, rfl, rfl, by kernel_rfl⟩
theorem at222 : FnOk Tryz.prog 222 Tryz.f222 := ⟨Tryz.func222, rfl, rfl, rfl, by kernel_rfl⟩
theorem at223 : FnOk Tryz.prog 223 Tryz.f223 := ⟨Tryz.func223, rfl, rfl, rfl, by kernel_rfl⟩
theorem at224 : FnOk Tryz.prog 224 Tryz.f224 := ⟨Tryz.func224, rfl, rfl, rfl, by kernel_rfl⟩
theorem at225 : FnOk Tryz.prog 225 Tryz.f225 := ⟨Tryz.func225, rfl, rfl, rfl, by kernel_rfl⟩
theorem at226 : FnOk Tryz.prog 226 Tryz.f226 := ⟨Tryz.func226, rfl, rfl, rfl, by kernel_rfl⟩
theorem at238 : FnOk Tryz.prog 238 Tryz.f238 := ⟨Tryz.func238, rfl, rfl, rfl, by kernel_rfl⟩
theorem at239 : FnOk Tryz.prog 239 Tryz.f239 := ⟨Tryz.func239, rfl, rfl, rfl, by kernel_rfl⟩
theorem at240 : FnOk Tryz.prog 240 Tryz.f240 := ⟨Tryz.func240, rfl, rfl, rfl, by kernel_rfl⟩
theorem at241 : FnOk Tryz.prog 241 Tryz.f241 := ⟨Tryz.func241, rfl, rfl, rfl, by kernel_rfl⟩
theorem at242 : FnOk Tryz.prog 242 Tryz.f242 := ⟨Tryz.func242, rfl, rfl, rfl, by kernel_rfl⟩
theorem at243 : FnOk Tryz.prog 243 Tryz.f243 := ⟨Tryz.func243, rfl, rfl, rfl, by kernel_rfl⟩
theorem at251 : FnOk Tryz.prog 251 Tryz.f251 := ⟨Tryz.func251, rfl, rfl, rfl, by kernel_rfl⟩
theorem at252 : FnOk Tryz.prog 252 Tryz.f252 := ⟨Tryz.func252, rfl, rfl, rfl, by kernel_rfl⟩
theorem at253 : FnOk Tryz.prog 253 Tryz.f253 := ⟨Tryz.func253, rfl, rfl, rfl, by kernel_rfl⟩
theorem at260 : FnOk Tryz.prog 260 Tryz.f260 := ⟨Tryz.func260, rfl, rfl, rfl, by kernel_rfl⟩
theorem at262 : FnOk Tryz.prog 262 Tryz.f262 := ⟨Tryz.func262, rfl, rfl, rfl, by kernel_rfl⟩
end Go.Proofs.YtjkgmglmgndaoaaGreatDoor
