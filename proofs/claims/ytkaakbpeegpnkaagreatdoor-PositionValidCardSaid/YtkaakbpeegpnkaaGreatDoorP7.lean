/- The table of the types, printed by program; no condition. -/
import Derived.Test.YtkaakbpeegpnkaaGreatDoorProg
import Derived.Test.YtkaakbpeegpnkaaGreatDoorP6
namespace Go.Proofs.YtkaakbpeegpnkaaGreatDoor
open Go Go.SX
def ti1:TI:={ row:=false,size:=1,zero:=#[.nilFunc],kind:=0 }
theorem tok1:TIok Tryz.prog 1 ti1:=⟨by kernel_rfl,⟨_,Tryz.underlying1,rfl,trivial⟩,by kernel_rfl,by kernel_rfl⟩
def ti2:TI:={ row:=false,size:=1,zero:=#[.int .i64 0],kind:=4,ik:=.i64 }
theorem tok2:TIok Tryz.prog 2 ti2:=⟨by kernel_rfl,⟨_,Tryz.underlying2,rfl,rfl⟩,by kernel_rfl,by kernel_rfl⟩
def ti3:TI:={ row:=false,size:=1,zero:=#[.int .i64 0],kind:=4,ik:=.i64 }
theorem tok3:TIok Tryz.prog 3 ti3:=⟨by kernel_rfl,⟨_,Tryz.underlying3,rfl,rfl⟩,by kernel_rfl,by kernel_rfl⟩
def ti4:TI:={ row:=false,size:=1,zero:=#[.bool false],kind:=5 }
theorem tok4:TIok Tryz.prog 4 ti4:=⟨by kernel_rfl,⟨_,Tryz.underlying4,rfl,rfl⟩,by kernel_rfl,by kernel_rfl⟩
def ti5:TI:={ row:=false,size:=1,zero:=#[.int .u8 0],kind:=4,ik:=.u8 }
theorem tok5:TIok Tryz.prog 5 ti5:=⟨by kernel_rfl,⟨_,Tryz.underlying5,rfl,rfl⟩,by kernel_rfl,by kernel_rfl⟩
def ti6:TI:={ row:=false,size:=1,zero:=#[.int .u8 0],kind:=4,ik:=.u8 }
theorem tok6:TIok Tryz.prog 6 ti6:=⟨by kernel_rfl,⟨_,Tryz.underlying6,rfl,rfl⟩,by kernel_rfl,by kernel_rfl⟩
def ti7:TI:={ row:=true,size:=4,zero:=#[.int .i64 0,.int .i64 0,.bool false,.int .u8 0],kind:=1,fields:=[(0,2),(1,3),(2,4),(3,6)] }
theorem tok7:TIok Tryz.prog 7 ti7:=⟨by kernel_rfl,⟨_,Tryz.underlying7,rfl,⟨_,rfl,rfl⟩⟩,by kernel_rfl,by kernel_rfl⟩
def ti8:TI:={ row:=true,size:=4,zero:=#[.int .i64 0,.int .i64 0,.bool false,.int .u8 0],kind:=1,fields:=[(0,2),(1,3),(2,4),(3,6)] }
theorem tok8:TIok Tryz.prog 8 ti8:=⟨by kernel_rfl,⟨_,Tryz.underlying8,rfl,⟨_,rfl,rfl⟩⟩,by kernel_rfl,by kernel_rfl⟩
def ti9:TI:={ row:=false,size:=1,zero:=#[.string ByteArray.empty],kind:=0 }
theorem tok9:TIok Tryz.prog 9 ti9:=⟨by kernel_rfl,⟨_,Tryz.underlying9,rfl,trivial⟩,by kernel_rfl,by kernel_rfl⟩
def ti10:TI:={ row:=false,size:=1,zero:=#[.string ByteArray.empty],kind:=0 }
theorem tok10:TIok Tryz.prog 10 ti10:=⟨by kernel_rfl,⟨_,Tryz.underlying10,rfl,trivial⟩,by kernel_rfl,by kernel_rfl⟩
def ti11:TI:={ row:=false,size:=1,zero:=#[.string ByteArray.empty],kind:=0 }
theorem tok11:TIok Tryz.prog 11 ti11:=⟨by kernel_rfl,⟨_,Tryz.underlying11,rfl,trivial⟩,by kernel_rfl,by kernel_rfl⟩
def ti12:TI:={ row:=false,size:=1,zero:=#[.int .u64 0],kind:=4,ik:=.u64 }
theorem tok12:TIok Tryz.prog 12 ti12:=⟨by kernel_rfl,⟨_,Tryz.underlying12,rfl,rfl⟩,by kernel_rfl,by kernel_rfl⟩
def ti13:TI:={ row:=true,size:=2,zero:=#[.string ByteArray.empty,.int .u64 0],kind:=1,fields:=[(0,9),(1,12)] }
theorem tok13:TIok Tryz.prog 13 ti13:=⟨by kernel_rfl,⟨_,Tryz.underlying13,rfl,⟨_,rfl,rfl⟩⟩,by kernel_rfl,by kernel_rfl⟩
def ti14:TI:={ row:=true,size:=2,zero:=#[.string ByteArray.empty,.int .u64 0],kind:=1,fields:=[(0,9),(1,12)] }
theorem tok14:TIok Tryz.prog 14 ti14:=⟨by kernel_rfl,⟨_,Tryz.underlying14,rfl,⟨_,rfl,rfl⟩⟩,by kernel_rfl,by kernel_rfl⟩
def ti15:TI:={ row:=false,size:=1,zero:=#[.pointer none],kind:=0 }
theorem tok15:TIok Tryz.prog 15 ti15:=⟨by kernel_rfl,⟨_,Tryz.underlying15,rfl,trivial⟩,by kernel_rfl,by kernel_rfl⟩
def ti16:TI:={ row:=false,size:=1,zero:=#[.pointer none],kind:=0 }
theorem tok16:TIok Tryz.prog 16 ti16:=⟨by kernel_rfl,⟨_,Tryz.underlying16,rfl,trivial⟩,by kernel_rfl,by kernel_rfl⟩
def ti17:TI:={ row:=false,size:=1,zero:=#[.pointer none],kind:=0 }
theorem tok17:TIok Tryz.prog 17 ti17:=⟨by kernel_rfl,⟨_,Tryz.underlying17,rfl,trivial⟩,by kernel_rfl,by kernel_rfl⟩
def ti18:TI:={ row:=true,size:=1,zero:=#[.pointer none],kind:=1,fields:=[(0,17)] }
theorem tok18:TIok Tryz.prog 18 ti18:=⟨by kernel_rfl,⟨_,Tryz.underlying18,rfl,⟨_,rfl,rfl⟩⟩,by kernel_rfl,by kernel_rfl⟩
def ti19:TI:={ row:=true,size:=1,zero:=#[.pointer none],kind:=1,fields:=[(0,17)] }
theorem tok19:TIok Tryz.prog 19 ti19:=⟨by kernel_rfl,⟨_,Tryz.underlying19,rfl,⟨_,rfl,rfl⟩⟩,by kernel_rfl,by kernel_rfl⟩
def ti20:TI:={ row:=false,size:=1,zero:=#[.nilIface],kind:=0 }
theorem tok20:TIok Tryz.prog 20 ti20:=⟨by kernel_rfl,⟨_,Tryz.underlying20,rfl,trivial⟩,by kernel_rfl,by kernel_rfl⟩
def ti21:TI:={ row:=false,size:=1,zero:=#[.int .i32 0],kind:=4,ik:=.i32 }
theorem tok21:TIok Tryz.prog 21 ti21:=⟨by kernel_rfl,⟨_,Tryz.underlying21,rfl,rfl⟩,by kernel_rfl,by kernel_rfl⟩
def ti22:TI:={ row:=false,size:=1,zero:=#[.slice none 0 0],kind:=3,elem:=47 }
theorem tok22:TIok Tryz.prog 22 ti22:=⟨by kernel_rfl,⟨_,Tryz.underlying22,rfl,rfl⟩,by kernel_rfl,by kernel_rfl⟩
def ti23:TI:={ row:=false,size:=1,zero:=#[.slice none 0 0],kind:=3,elem:=61 }
theorem tok23:TIok Tryz.prog 23 ti23:=⟨by kernel_rfl,⟨_,Tryz.underlying23,rfl,rfl⟩,by kernel_rfl,by kernel_rfl⟩
def ti24:TI:={ row:=false,size:=1,zero:=#[.int .i64 0],kind:=4,ik:=.i64 }
theorem tok24:TIok Tryz.prog 24 ti24:=⟨by kernel_rfl,⟨_,Tryz.underlying24,rfl,rfl⟩,by kernel_rfl,by kernel_rfl⟩
def ti26:TI:={ row:=false,size:=1,zero:=#[.nilFunc],kind:=0 }
theorem tok26:TIok Tryz.prog 26 ti26:=⟨by kernel_rfl,⟨_,Tryz.underlying26,rfl,trivial⟩,by kernel_rfl,by kernel_rfl⟩
def ti27:TI:={ row:=false,size:=1,zero:=#[.slice none 0 0],kind:=3,elem:=90 }
theorem tok27:TIok Tryz.prog 27 ti27:=⟨by kernel_rfl,⟨_,Tryz.underlying27,rfl,rfl⟩,by kernel_rfl,by kernel_rfl⟩
def ti28:TI:={ row:=false,size:=1,zero:=#[.slice none 0 0],kind:=3,elem:=85 }
theorem tok28:TIok Tryz.prog 28 ti28:=⟨by kernel_rfl,⟨_,Tryz.underlying28,rfl,rfl⟩,by kernel_rfl,by kernel_rfl⟩
def ti29:TI:={ row:=true,size:=3,zero:=#[.slice none 0 0,.slice none 0 0,.slice none 0 0],kind:=1,fields:=[(0,27),(1,28),(2,28)] }
theorem tok29:TIok Tryz.prog 29 ti29:=⟨by kernel_rfl,⟨_,Tryz.underlying29,rfl,⟨_,rfl,rfl⟩⟩,by kernel_rfl,by kernel_rfl⟩
def ti30:TI:={ row:=true,size:=3,zero:=#[.slice none 0 0,.slice none 0 0,.slice none 0 0],kind:=1,fields:=[(0,27),(1,28),(2,28)] }
theorem tok30:TIok Tryz.prog 30 ti30:=⟨by kernel_rfl,⟨_,Tryz.underlying30,rfl,⟨_,rfl,rfl⟩⟩,by kernel_rfl,by kernel_rfl⟩
def ti32:TI:={ row:=false,size:=1,zero:=#[.nilFunc],kind:=0 }
theorem tok32:TIok Tryz.prog 32 ti32:=⟨by kernel_rfl,⟨_,Tryz.underlying32,rfl,trivial⟩,by kernel_rfl,by kernel_rfl⟩
def ti33:TI:={ row:=false,size:=1,zero:=#[.nilFunc],kind:=0 }
theorem tok33:TIok Tryz.prog 33 ti33:=⟨by kernel_rfl,⟨_,Tryz.underlying33,rfl,trivial⟩,by kernel_rfl,by kernel_rfl⟩
def ti34:TI:={ row:=false,size:=1,zero:=#[.nilFunc],kind:=0 }
theorem tok34:TIok Tryz.prog 34 ti34:=⟨by kernel_rfl,⟨_,Tryz.underlying34,rfl,trivial⟩,by kernel_rfl,by kernel_rfl⟩
def ti35:TI:={ row:=false,size:=1,zero:=#[.nilFunc],kind:=0 }
theorem tok35:TIok Tryz.prog 35 ti35:=⟨by kernel_rfl,⟨_,Tryz.underlying35,rfl,trivial⟩,by kernel_rfl,by kernel_rfl⟩
def ti36:TI:={ row:=false,size:=1,zero:=#[.nilFunc],kind:=0 }
theorem tok36:TIok Tryz.prog 36 ti36:=⟨by kernel_rfl,⟨_,Tryz.underlying36,rfl,trivial⟩,by kernel_rfl,by kernel_rfl⟩
def ti37:TI:={ row:=false,size:=1,zero:=#[.nilFunc],kind:=0 }
theorem tok37:TIok Tryz.prog 37 ti37:=⟨by kernel_rfl,⟨_,Tryz.underlying37,rfl,trivial⟩,by kernel_rfl,by kernel_rfl⟩
def ti38:TI:={ row:=false,size:=1,zero:=#[.nilFunc],kind:=0 }
theorem tok38:TIok Tryz.prog 38 ti38:=⟨by kernel_rfl,⟨_,Tryz.underlying38,rfl,trivial⟩,by kernel_rfl,by kernel_rfl⟩
def ti39:TI:={ row:=false,size:=1,zero:=#[.nilFunc],kind:=0 }
theorem tok39:TIok Tryz.prog 39 ti39:=⟨by kernel_rfl,⟨_,Tryz.underlying39,rfl,trivial⟩,by kernel_rfl,by kernel_rfl⟩
def ti40:TI:={ row:=false,size:=1,zero:=#[.nilFunc],kind:=0 }
theorem tok40:TIok Tryz.prog 40 ti40:=⟨by kernel_rfl,⟨_,Tryz.underlying40,rfl,trivial⟩,by kernel_rfl,by kernel_rfl⟩
def ti41:TI:={ row:=false,size:=1,zero:=#[.slice none 0 0],kind:=3,elem:=3 }
theorem tok41:TIok Tryz.prog 41 ti41:=⟨by kernel_rfl,⟨_,Tryz.underlying41,rfl,rfl⟩,by kernel_rfl,by kernel_rfl⟩
def ti43:TI:={ row:=false,size:=1,zero:=#[.nilFunc],kind:=0 }
theorem tok43:TIok Tryz.prog 43 ti43:=⟨by kernel_rfl,⟨_,Tryz.underlying43,rfl,trivial⟩,by kernel_rfl,by kernel_rfl⟩
def ti44:TI:={ row:=false,size:=1,zero:=#[.slice none 0 0],kind:=3,elem:=103 }
theorem tok44:TIok Tryz.prog 44 ti44:=⟨by kernel_rfl,⟨_,Tryz.underlying44,rfl,rfl⟩,by kernel_rfl,by kernel_rfl⟩
def ti45:TI:={ row:=false,size:=1,zero:=#[.nilFunc],kind:=0 }
theorem tok45:TIok Tryz.prog 45 ti45:=⟨by kernel_rfl,⟨_,Tryz.underlying45,rfl,trivial⟩,by kernel_rfl,by kernel_rfl⟩
def ti46:TI:={ row:=true,size:=10,zero:=#[.int .i64 0,.string ByteArray.empty,.int .i64 0,.int .i64 0,.string ByteArray.empty,.int .i64 0,.int .i64 0,.string ByteArray.empty,.int .i64 0,.bool false],kind:=1,fields:=[(0,3),(1,9),(2,3),(3,3),(4,9),(5,3),(6,3),(7,9),(8,3),(9,4)] }
theorem tok46:TIok Tryz.prog 46 ti46:=⟨by kernel_rfl,⟨_,Tryz.underlying46,rfl,⟨_,rfl,rfl⟩⟩,by kernel_rfl,by kernel_rfl⟩
def ti47:TI:={ row:=true,size:=10,zero:=#[.int .i64 0,.string ByteArray.empty,.int .i64 0,.int .i64 0,.string ByteArray.empty,.int .i64 0,.int .i64 0,.string ByteArray.empty,.int .i64 0,.bool false],kind:=1,fields:=[(0,3),(1,9),(2,3),(3,3),(4,9),(5,3),(6,3),(7,9),(8,3),(9,4)] }
theorem tok47:TIok Tryz.prog 47 ti47:=⟨by kernel_rfl,⟨_,Tryz.underlying47,rfl,⟨_,rfl,rfl⟩⟩,by kernel_rfl,by kernel_rfl⟩
def ti49:TI:={ row:=false,size:=1,zero:=#[.nilFunc],kind:=0 }
theorem tok49:TIok Tryz.prog 49 ti49:=⟨by kernel_rfl,⟨_,Tryz.underlying49,rfl,trivial⟩,by kernel_rfl,by kernel_rfl⟩
def ti50:TI:={ row:=false,size:=1,zero:=#[.nilFunc],kind:=0 }
theorem tok50:TIok Tryz.prog 50 ti50:=⟨by kernel_rfl,⟨_,Tryz.underlying50,rfl,trivial⟩,by kernel_rfl,by kernel_rfl⟩
def ti51:TI:={ row:=false,size:=1,zero:=#[.nilFunc],kind:=0 }
theorem tok51:TIok Tryz.prog 51 ti51:=⟨by kernel_rfl,⟨_,Tryz.underlying51,rfl,trivial⟩,by kernel_rfl,by kernel_rfl⟩
def ti52:TI:={ row:=false,size:=1,zero:=#[.nilFunc],kind:=0 }
theorem tok52:TIok Tryz.prog 52 ti52:=⟨by kernel_rfl,⟨_,Tryz.underlying52,rfl,trivial⟩,by kernel_rfl,by kernel_rfl⟩
def ti53:TI:={ row:=false,size:=1,zero:=#[.nilFunc],kind:=0 }
theorem tok53:TIok Tryz.prog 53 ti53:=⟨by kernel_rfl,⟨_,Tryz.underlying53,rfl,trivial⟩,by kernel_rfl,by kernel_rfl⟩
def ti54:TI:={ row:=false,size:=1,zero:=#[.int .u32 0],kind:=4,ik:=.u32 }
theorem tok54:TIok Tryz.prog 54 ti54:=⟨by kernel_rfl,⟨_,Tryz.underlying54,rfl,rfl⟩,by kernel_rfl,by kernel_rfl⟩
def ti55:TI:={ row:=true,size:=32,zero:=(Array.replicate 32 (.int .u32 0)),kind:=2,len:=32,elem:=54 }
theorem tok55:TIok Tryz.prog 55 ti55:=⟨by kernel_rfl,⟨_,Tryz.underlying55,rfl,rfl⟩,by kernel_rfl,by kernel_rfl⟩
def ti56:TI:={ row:=true,size:=33,zero:=#[.bool false,.int .u32 0,.int .u32 0,.int .u32 0,.int .u32 0,.int .u32 0,.int .u32 0,.int .u32 0,.int .u32 0,.int .u32 0,.int .u32 0,.int .u32 0,.int .u32 0,.int .u32 0,.int .u32 0,.int .u32 0,.int .u32 0,.int .u32 0,.int .u32 0,.int .u32 0,.int .u32 0,.int .u32 0,.int .u32 0,.int .u32 0,.int .u32 0,.int .u32 0,.int .u32 0,.int .u32 0,.int .u32 0,.int .u32 0,.int .u32 0,.int .u32 0,.int .u32 0],kind:=1,fields:=[(0,4),(1,55)] }
theorem tok56:TIok Tryz.prog 56 ti56:=⟨by kernel_rfl,⟨_,Tryz.underlying56,rfl,⟨_,rfl,rfl⟩⟩,by kernel_rfl,by kernel_rfl⟩
def ti57:TI:={ row:=true,size:=33,zero:=#[.bool false,.int .u32 0,.int .u32 0,.int .u32 0,.int .u32 0,.int .u32 0,.int .u32 0,.int .u32 0,.int .u32 0,.int .u32 0,.int .u32 0,.int .u32 0,.int .u32 0,.int .u32 0,.int .u32 0,.int .u32 0,.int .u32 0,.int .u32 0,.int .u32 0,.int .u32 0,.int .u32 0,.int .u32 0,.int .u32 0,.int .u32 0,.int .u32 0,.int .u32 0,.int .u32 0,.int .u32 0,.int .u32 0,.int .u32 0,.int .u32 0,.int .u32 0,.int .u32 0],kind:=1,fields:=[(0,4),(1,55)] }
theorem tok57:TIok Tryz.prog 57 ti57:=⟨by kernel_rfl,⟨_,Tryz.underlying57,rfl,⟨_,rfl,rfl⟩⟩,by kernel_rfl,by kernel_rfl⟩
def ti58:TI:={ row:=true,size:=66,zero:=#[.bool false,.int .u32 0,.int .u32 0,.int .u32 0,.int .u32 0,.int .u32 0,.int .u32 0,.int .u32 0,.int .u32 0,.int .u32 0,.int .u32 0,.int .u32 0,.int .u32 0,.int .u32 0,.int .u32 0,.int .u32 0,.int .u32 0,.int .u32 0,.int .u32 0,.int .u32 0,.int .u32 0,.int .u32 0,.int .u32 0,.int .u32 0,.int .u32 0,.int .u32 0,.int .u32 0,.int .u32 0,.int .u32 0,.int .u32 0,.int .u32 0,.int .u32 0,.int .u32 0,.bool false,.int .u32 0,.int .u32 0,.int .u32 0,.int .u32 0,.int .u32 0,.int .u32 0,.int .u32 0,.int .u32 0,.int .u32 0,.int .u32 0,.int .u32 0,.int .u32 0,.int .u32 0,.int .u32 0,.int .u32 0,.int .u32 0,.int .u32 0,.int .u32 0,.int .u32 0,.int .u32 0,.int .u32 0,.int .u32 0,.int .u32 0,.int .u32 0,.int .u32 0,.int .u32 0,.int .u32 0,.int .u32 0,.int .u32 0,.int .u32 0,.int .u32 0,.int .u32 0],kind:=1,fields:=[(0,57),(33,57)] }
theorem tok58:TIok Tryz.prog 58 ti58:=⟨by kernel_rfl,⟨_,Tryz.underlying58,rfl,⟨_,rfl,rfl⟩⟩,by kernel_rfl,by kernel_rfl⟩
def ti59:TI:={ row:=true,size:=66,zero:=#[.bool false,.int .u32 0,.int .u32 0,.int .u32 0,.int .u32 0,.int .u32 0,.int .u32 0,.int .u32 0,.int .u32 0,.int .u32 0,.int .u32 0,.int .u32 0,.int .u32 0,.int .u32 0,.int .u32 0,.int .u32 0,.int .u32 0,.int .u32 0,.int .u32 0,.int .u32 0,.int .u32 0,.int .u32 0,.int .u32 0,.int .u32 0,.int .u32 0,.int .u32 0,.int .u32 0,.int .u32 0,.int .u32 0,.int .u32 0,.int .u32 0,.int .u32 0,.int .u32 0,.bool false,.int .u32 0,.int .u32 0,.int .u32 0,.int .u32 0,.int .u32 0,.int .u32 0,.int .u32 0,.int .u32 0,.int .u32 0,.int .u32 0,.int .u32 0,.int .u32 0,.int .u32 0,.int .u32 0,.int .u32 0,.int .u32 0,.int .u32 0,.int .u32 0,.int .u32 0,.int .u32 0,.int .u32 0,.int .u32 0,.int .u32 0,.int .u32 0,.int .u32 0,.int .u32 0,.int .u32 0,.int .u32 0,.int .u32 0,.int .u32 0,.int .u32 0,.int .u32 0],kind:=1,fields:=[(0,57),(33,57)] }
theorem tok59:TIok Tryz.prog 59 ti59:=⟨by kernel_rfl,⟨_,Tryz.underlying59,rfl,⟨_,rfl,rfl⟩⟩,by kernel_rfl,by kernel_rfl⟩
def ti60:TI:={ row:=true,size:=76,zero:=#[.int .i64 0,.string ByteArray.empty,.string ByteArray.empty,.string ByteArray.empty,.int .i64 0,.int .i64 0,.int .i64 0,.bool false,.int .u32 0,.int .u32 0,.int .u32 0,.int .u32 0,.int .u32 0,.int .u32 0,.int .u32 0,.int .u32 0,.int .u32 0,.int .u32 0,.int .u32 0,.int .u32 0,.int .u32 0,.int .u32 0,.int .u32 0,.int .u32 0,.int .u32 0,.int .u32 0,.int .u32 0,.int .u32 0,.int .u32 0,.int .u32 0,.int .u32 0,.int .u32 0,.int .u32 0,.int .u32 0,.int .u32 0,.int .u32 0,.int .u32 0,.int .u32 0,.int .u32 0,.int .u32 0,.bool false,.int .u32 0,.int .u32 0,.int .u32 0,.int .u32 0,.int .u32 0,.int .u32 0,.int .u32 0,.int .u32 0,.int .u32 0,.int .u32 0,.int .u32 0,.int .u32 0,.int .u32 0,.int .u32 0,.int .u32 0,.int .u32 0,.int .u32 0,.int .u32 0,.int .u32 0,.int .u32 0,.int .u32 0,.int .u32 0,.int .u32 0,.int .u32 0,.int .u32 0,.int .u32 0,.int .u32 0,.int .u32 0,.int .u32 0,.int .u32 0,.int .u32 0,.int .u32 0,.string ByteArray.empty,.int .i64 0,.bool false],kind:=1,fields:=[(0,3),(1,9),(2,9),(3,9),(4,3),(5,3),(6,3),(7,59),(73,9),(74,3),(75,4)] }
theorem tok60:TIok Tryz.prog 60 ti60:=⟨by kernel_rfl,⟨_,Tryz.underlying60,rfl,⟨_,rfl,rfl⟩⟩,by kernel_rfl,by kernel_rfl⟩
def ti61:TI:={ row:=true,size:=76,zero:=#[.int .i64 0,.string ByteArray.empty,.string ByteArray.empty,.string ByteArray.empty,.int .i64 0,.int .i64 0,.int .i64 0,.bool false,.int .u32 0,.int .u32 0,.int .u32 0,.int .u32 0,.int .u32 0,.int .u32 0,.int .u32 0,.int .u32 0,.int .u32 0,.int .u32 0,.int .u32 0,.int .u32 0,.int .u32 0,.int .u32 0,.int .u32 0,.int .u32 0,.int .u32 0,.int .u32 0,.int .u32 0,.int .u32 0,.int .u32 0,.int .u32 0,.int .u32 0,.int .u32 0,.int .u32 0,.int .u32 0,.int .u32 0,.int .u32 0,.int .u32 0,.int .u32 0,.int .u32 0,.int .u32 0,.bool false,.int .u32 0,.int .u32 0,.int .u32 0,.int .u32 0,.int .u32 0,.int .u32 0,.int .u32 0,.int .u32 0,.int .u32 0,.int .u32 0,.int .u32 0,.int .u32 0,.int .u32 0,.int .u32 0,.int .u32 0,.int .u32 0,.int .u32 0,.int .u32 0,.int .u32 0,.int .u32 0,.int .u32 0,.int .u32 0,.int .u32 0,.int .u32 0,.int .u32 0,.int .u32 0,.int .u32 0,.int .u32 0,.int .u32 0,.int .u32 0,.int .u32 0,.int .u32 0,.string ByteArray.empty,.int .i64 0,.bool false],kind:=1,fields:=[(0,3),(1,9),(2,9),(3,9),(4,3),(5,3),(6,3),(7,59),(73,9),(74,3),(75,4)] }
theorem tok61:TIok Tryz.prog 61 ti61:=⟨by kernel_rfl,⟨_,Tryz.underlying61,rfl,⟨_,rfl,rfl⟩⟩,by kernel_rfl,by kernel_rfl⟩
def ti62:TI:={ row:=false,size:=1,zero:=#[.nilFunc],kind:=0 }
theorem tok62:TIok Tryz.prog 62 ti62:=⟨by kernel_rfl,⟨_,Tryz.underlying62,rfl,trivial⟩,by kernel_rfl,by kernel_rfl⟩
def ti63:TI:={ row:=false,size:=1,zero:=#[.pointer none],kind:=0 }
theorem tok63:TIok Tryz.prog 63 ti63:=⟨by kernel_rfl,⟨_,Tryz.underlying63,rfl,trivial⟩,by kernel_rfl,by kernel_rfl⟩
def ti64:TI:={ row:=false,size:=1,zero:=#[.nilFunc],kind:=0 }
theorem tok64:TIok Tryz.prog 64 ti64:=⟨by kernel_rfl,⟨_,Tryz.underlying64,rfl,trivial⟩,by kernel_rfl,by kernel_rfl⟩
def ti65:TI:={ row:=false,size:=1,zero:=#[.slice none 0 0],kind:=3,elem:=120 }
theorem tok65:TIok Tryz.prog 65 ti65:=⟨by kernel_rfl,⟨_,Tryz.underlying65,rfl,rfl⟩,by kernel_rfl,by kernel_rfl⟩
def ti66:TI:={ row:=true,size:=2,zero:=#[.nilFunc,.slice none 0 0],kind:=1,fields:=[(0,64),(1,65)] }
theorem tok66:TIok Tryz.prog 66 ti66:=⟨by kernel_rfl,⟨_,Tryz.underlying66,rfl,⟨_,rfl,rfl⟩⟩,by kernel_rfl,by kernel_rfl⟩
def ti67:TI:={ row:=true,size:=2,zero:=#[.nilFunc,.slice none 0 0],kind:=1,fields:=[(0,64),(1,65)] }
theorem tok67:TIok Tryz.prog 67 ti67:=⟨by kernel_rfl,⟨_,Tryz.underlying67,rfl,⟨_,rfl,rfl⟩⟩,by kernel_rfl,by kernel_rfl⟩
def ti68:TI:={ row:=false,size:=1,zero:=#[.nilFunc],kind:=0 }
theorem tok68:TIok Tryz.prog 68 ti68:=⟨by kernel_rfl,⟨_,Tryz.underlying68,rfl,trivial⟩,by kernel_rfl,by kernel_rfl⟩
def ti69:TI:={ row:=false,size:=1,zero:=#[.slice none 0 0],kind:=3,elem:=163 }
theorem tok69:TIok Tryz.prog 69 ti69:=⟨by kernel_rfl,⟨_,Tryz.underlying69,rfl,rfl⟩,by kernel_rfl,by kernel_rfl⟩
def ti70:TI:={ row:=true,size:=2,zero:=#[.nilFunc,.slice none 0 0],kind:=1,fields:=[(0,68),(1,69)] }
theorem tok70:TIok Tryz.prog 70 ti70:=⟨by kernel_rfl,⟨_,Tryz.underlying70,rfl,⟨_,rfl,rfl⟩⟩,by kernel_rfl,by kernel_rfl⟩
def ti71:TI:={ row:=true,size:=2,zero:=#[.nilFunc,.slice none 0 0],kind:=1,fields:=[(0,68),(1,69)] }
theorem tok71:TIok Tryz.prog 71 ti71:=⟨by kernel_rfl,⟨_,Tryz.underlying71,rfl,⟨_,rfl,rfl⟩⟩,by kernel_rfl,by kernel_rfl⟩
def ti72:TI:={ row:=true,size:=7,zero:=#[.nilFunc,.slice none 0 0,.nilFunc,.slice none 0 0,.nilFunc,.slice none 0 0,.int .i64 0],kind:=1,fields:=[(0,67),(2,71),(4,71),(6,3)] }
theorem tok72:TIok Tryz.prog 72 ti72:=⟨by kernel_rfl,⟨_,Tryz.underlying72,rfl,⟨_,rfl,rfl⟩⟩,by kernel_rfl,by kernel_rfl⟩
def ti73:TI:={ row:=true,size:=7,zero:=#[.nilFunc,.slice none 0 0,.nilFunc,.slice none 0 0,.nilFunc,.slice none 0 0,.int .i64 0],kind:=1,fields:=[(0,67),(2,71),(4,71),(6,3)] }
theorem tok73:TIok Tryz.prog 73 ti73:=⟨by kernel_rfl,⟨_,Tryz.underlying73,rfl,⟨_,rfl,rfl⟩⟩,by kernel_rfl,by kernel_rfl⟩
def ti74:TI:={ row:=false,size:=1,zero:=#[.nilFunc],kind:=0 }
theorem tok74:TIok Tryz.prog 74 ti74:=⟨by kernel_rfl,⟨_,Tryz.underlying74,rfl,trivial⟩,by kernel_rfl,by kernel_rfl⟩
def ti75:TI:={ row:=false,size:=1,zero:=#[.nilFunc],kind:=0 }
theorem tok75:TIok Tryz.prog 75 ti75:=⟨by kernel_rfl,⟨_,Tryz.underlying75,rfl,trivial⟩,by kernel_rfl,by kernel_rfl⟩
def ti76:TI:={ row:=false,size:=1,zero:=#[.nilFunc],kind:=0 }
theorem tok76:TIok Tryz.prog 76 ti76:=⟨by kernel_rfl,⟨_,Tryz.underlying76,rfl,trivial⟩,by kernel_rfl,by kernel_rfl⟩
def ti77:TI:={ row:=false,size:=1,zero:=#[.nilFunc],kind:=0 }
theorem tok77:TIok Tryz.prog 77 ti77:=⟨by kernel_rfl,⟨_,Tryz.underlying77,rfl,trivial⟩,by kernel_rfl,by kernel_rfl⟩
def ti78:TI:={ row:=false,size:=1,zero:=#[.nilFunc],kind:=0 }
theorem tok78:TIok Tryz.prog 78 ti78:=⟨by kernel_rfl,⟨_,Tryz.underlying78,rfl,trivial⟩,by kernel_rfl,by kernel_rfl⟩
def ti79:TI:={ row:=false,size:=1,zero:=#[.nilFunc],kind:=0 }
theorem tok79:TIok Tryz.prog 79 ti79:=⟨by kernel_rfl,⟨_,Tryz.underlying79,rfl,trivial⟩,by kernel_rfl,by kernel_rfl⟩
def ti80:TI:={ row:=false,size:=1,zero:=#[.pointer none],kind:=0 }
theorem tok80:TIok Tryz.prog 80 ti80:=⟨by kernel_rfl,⟨_,Tryz.underlying80,rfl,trivial⟩,by kernel_rfl,by kernel_rfl⟩
def ti81:TI:={ row:=false,size:=1,zero:=#[.nilFunc],kind:=0 }
theorem tok81:TIok Tryz.prog 81 ti81:=⟨by kernel_rfl,⟨_,Tryz.underlying81,rfl,trivial⟩,by kernel_rfl,by kernel_rfl⟩
def ti82:TI:={ row:=false,size:=1,zero:=#[.nilFunc],kind:=0 }
theorem tok82:TIok Tryz.prog 82 ti82:=⟨by kernel_rfl,⟨_,Tryz.underlying82,rfl,trivial⟩,by kernel_rfl,by kernel_rfl⟩
def ti83:TI:={ row:=false,size:=1,zero:=#[.nilFunc],kind:=0 }
theorem tok83:TIok Tryz.prog 83 ti83:=⟨by kernel_rfl,⟨_,Tryz.underlying83,rfl,trivial⟩,by kernel_rfl,by kernel_rfl⟩
def ti84:TI:={ row:=true,size:=3,zero:=#[.string ByteArray.empty,.int .i64 0,.int .i64 0],kind:=1,fields:=[(0,9),(1,3),(2,3)] }
theorem tok84:TIok Tryz.prog 84 ti84:=⟨by kernel_rfl,⟨_,Tryz.underlying84,rfl,⟨_,rfl,rfl⟩⟩,by kernel_rfl,by kernel_rfl⟩
def ti85:TI:={ row:=true,size:=3,zero:=#[.string ByteArray.empty,.int .i64 0,.int .i64 0],kind:=1,fields:=[(0,9),(1,3),(2,3)] }
theorem tok85:TIok Tryz.prog 85 ti85:=⟨by kernel_rfl,⟨_,Tryz.underlying85,rfl,⟨_,rfl,rfl⟩⟩,by kernel_rfl,by kernel_rfl⟩
def ti86:TI:={ row:=false,size:=1,zero:=#[.nilFunc],kind:=0 }
theorem tok86:TIok Tryz.prog 86 ti86:=⟨by kernel_rfl,⟨_,Tryz.underlying86,rfl,trivial⟩,by kernel_rfl,by kernel_rfl⟩
def ti87:TI:={ row:=false,size:=1,zero:=#[.nilFunc],kind:=0 }
theorem tok87:TIok Tryz.prog 87 ti87:=⟨by kernel_rfl,⟨_,Tryz.underlying87,rfl,trivial⟩,by kernel_rfl,by kernel_rfl⟩
def ti88:TI:={ row:=false,size:=1,zero:=#[.nilFunc],kind:=0 }
theorem tok88:TIok Tryz.prog 88 ti88:=⟨by kernel_rfl,⟨_,Tryz.underlying88,rfl,trivial⟩,by kernel_rfl,by kernel_rfl⟩
def ti89:TI:={ row:=true,size:=2,zero:=#[.string ByteArray.empty,.int .i64 0],kind:=1,fields:=[(0,9),(1,3)] }
theorem tok89:TIok Tryz.prog 89 ti89:=⟨by kernel_rfl,⟨_,Tryz.underlying89,rfl,⟨_,rfl,rfl⟩⟩,by kernel_rfl,by kernel_rfl⟩
def ti90:TI:={ row:=true,size:=2,zero:=#[.string ByteArray.empty,.int .i64 0],kind:=1,fields:=[(0,9),(1,3)] }
theorem tok90:TIok Tryz.prog 90 ti90:=⟨by kernel_rfl,⟨_,Tryz.underlying90,rfl,⟨_,rfl,rfl⟩⟩,by kernel_rfl,by kernel_rfl⟩
def ti91:TI:={ row:=false,size:=1,zero:=#[.nilFunc],kind:=0 }
theorem tok91:TIok Tryz.prog 91 ti91:=⟨by kernel_rfl,⟨_,Tryz.underlying91,rfl,trivial⟩,by kernel_rfl,by kernel_rfl⟩
def ti92:TI:={ row:=false,size:=1,zero:=#[.nilFunc],kind:=0 }
theorem tok92:TIok Tryz.prog 92 ti92:=⟨by kernel_rfl,⟨_,Tryz.underlying92,rfl,trivial⟩,by kernel_rfl,by kernel_rfl⟩
def ti93:TI:={ row:=false,size:=1,zero:=#[.slice none 0 0],kind:=3,elem:=28 }
theorem tok93:TIok Tryz.prog 93 ti93:=⟨by kernel_rfl,⟨_,Tryz.underlying93,rfl,rfl⟩,by kernel_rfl,by kernel_rfl⟩
def ti94:TI:={ row:=true,size:=2,zero:=#[.string ByteArray.empty,.int .i64 0],kind:=1,fields:=[(0,9),(1,3)] }
theorem tok94:TIok Tryz.prog 94 ti94:=⟨by kernel_rfl,⟨_,Tryz.underlying94,rfl,⟨_,rfl,rfl⟩⟩,by kernel_rfl,by kernel_rfl⟩
def ti95:TI:={ row:=true,size:=2,zero:=#[.string ByteArray.empty,.int .i64 0],kind:=1,fields:=[(0,9),(1,3)] }
theorem tok95:TIok Tryz.prog 95 ti95:=⟨by kernel_rfl,⟨_,Tryz.underlying95,rfl,⟨_,rfl,rfl⟩⟩,by kernel_rfl,by kernel_rfl⟩
def ti96:TI:={ row:=false,size:=1,zero:=#[.nilFunc],kind:=0 }
theorem tok96:TIok Tryz.prog 96 ti96:=⟨by kernel_rfl,⟨_,Tryz.underlying96,rfl,trivial⟩,by kernel_rfl,by kernel_rfl⟩
def ti97:TI:={ row:=false,size:=1,zero:=#[.nilFunc],kind:=0 }
theorem tok97:TIok Tryz.prog 97 ti97:=⟨by kernel_rfl,⟨_,Tryz.underlying97,rfl,trivial⟩,by kernel_rfl,by kernel_rfl⟩
def ti98:TI:={ row:=false,size:=1,zero:=#[.nilFunc],kind:=0 }
theorem tok98:TIok Tryz.prog 98 ti98:=⟨by kernel_rfl,⟨_,Tryz.underlying98,rfl,trivial⟩,by kernel_rfl,by kernel_rfl⟩
def ti99:TI:={ row:=false,size:=1,zero:=#[.map none],kind:=0 }
theorem tok99:TIok Tryz.prog 99 ti99:=⟨by kernel_rfl,⟨_,Tryz.underlying99,rfl,trivial⟩,by kernel_rfl,by kernel_rfl⟩
def ti100:TI:={ row:=false,size:=1,zero:=#[.nilFunc],kind:=0 }
theorem tok100:TIok Tryz.prog 100 ti100:=⟨by kernel_rfl,⟨_,Tryz.underlying100,rfl,trivial⟩,by kernel_rfl,by kernel_rfl⟩
def ti101:TI:={ row:=false,size:=1,zero:=#[.nilFunc],kind:=0 }
theorem tok101:TIok Tryz.prog 101 ti101:=⟨by kernel_rfl,⟨_,Tryz.underlying101,rfl,trivial⟩,by kernel_rfl,by kernel_rfl⟩
def ti102:TI:={ row:=true,size:=3,zero:=#[.string ByteArray.empty,.int .i64 0,.bool false],kind:=1,fields:=[(0,9),(1,3),(2,4)] }
theorem tok102:TIok Tryz.prog 102 ti102:=⟨by kernel_rfl,⟨_,Tryz.underlying102,rfl,⟨_,rfl,rfl⟩⟩,by kernel_rfl,by kernel_rfl⟩
def ti103:TI:={ row:=true,size:=3,zero:=#[.string ByteArray.empty,.int .i64 0,.bool false],kind:=1,fields:=[(0,9),(1,3),(2,4)] }
theorem tok103:TIok Tryz.prog 103 ti103:=⟨by kernel_rfl,⟨_,Tryz.underlying103,rfl,⟨_,rfl,rfl⟩⟩,by kernel_rfl,by kernel_rfl⟩
def ti104:TI:={ row:=false,size:=1,zero:=#[.nilFunc],kind:=0 }
theorem tok104:TIok Tryz.prog 104 ti104:=⟨by kernel_rfl,⟨_,Tryz.underlying104,rfl,trivial⟩,by kernel_rfl,by kernel_rfl⟩
def ti105:TI:={ row:=false,size:=1,zero:=#[.nilFunc],kind:=0 }
theorem tok105:TIok Tryz.prog 105 ti105:=⟨by kernel_rfl,⟨_,Tryz.underlying105,rfl,trivial⟩,by kernel_rfl,by kernel_rfl⟩
def ti106:TI:={ row:=false,size:=1,zero:=#[.nilFunc],kind:=0 }
theorem tok106:TIok Tryz.prog 106 ti106:=⟨by kernel_rfl,⟨_,Tryz.underlying106,rfl,trivial⟩,by kernel_rfl,by kernel_rfl⟩
def ti107:TI:={ row:=false,size:=1,zero:=#[.nilFunc],kind:=0 }
theorem tok107:TIok Tryz.prog 107 ti107:=⟨by kernel_rfl,⟨_,Tryz.underlying107,rfl,trivial⟩,by kernel_rfl,by kernel_rfl⟩
def ti108:TI:={ row:=false,size:=1,zero:=#[.nilFunc],kind:=0 }
theorem tok108:TIok Tryz.prog 108 ti108:=⟨by kernel_rfl,⟨_,Tryz.underlying108,rfl,trivial⟩,by kernel_rfl,by kernel_rfl⟩
def ti109:TI:={ row:=false,size:=1,zero:=#[.nilFunc],kind:=0 }
theorem tok109:TIok Tryz.prog 109 ti109:=⟨by kernel_rfl,⟨_,Tryz.underlying109,rfl,trivial⟩,by kernel_rfl,by kernel_rfl⟩
def ti110:TI:={ row:=false,size:=1,zero:=#[.nilFunc],kind:=0 }
theorem tok110:TIok Tryz.prog 110 ti110:=⟨by kernel_rfl,⟨_,Tryz.underlying110,rfl,trivial⟩,by kernel_rfl,by kernel_rfl⟩
def ti111:TI:={ row:=false,size:=1,zero:=#[.nilFunc],kind:=0 }
theorem tok111:TIok Tryz.prog 111 ti111:=⟨by kernel_rfl,⟨_,Tryz.underlying111,rfl,trivial⟩,by kernel_rfl,by kernel_rfl⟩
def ti112:TI:={ row:=true,size:=3,zero:=#[.string ByteArray.empty,.int .i64 0,.int .i64 0],kind:=1,fields:=[(0,9),(1,3),(2,3)] }
theorem tok112:TIok Tryz.prog 112 ti112:=⟨by kernel_rfl,⟨_,Tryz.underlying112,rfl,⟨_,rfl,rfl⟩⟩,by kernel_rfl,by kernel_rfl⟩
def ti113:TI:={ row:=true,size:=3,zero:=#[.string ByteArray.empty,.int .i64 0,.int .i64 0],kind:=1,fields:=[(0,9),(1,3),(2,3)] }
theorem tok113:TIok Tryz.prog 113 ti113:=⟨by kernel_rfl,⟨_,Tryz.underlying113,rfl,⟨_,rfl,rfl⟩⟩,by kernel_rfl,by kernel_rfl⟩
def ti115:TI:={ row:=false,size:=1,zero:=#[.nilFunc],kind:=0 }
theorem tok115:TIok Tryz.prog 115 ti115:=⟨by kernel_rfl,⟨_,Tryz.underlying115,rfl,trivial⟩,by kernel_rfl,by kernel_rfl⟩
def ti116:TI:={ row:=false,size:=1,zero:=#[.nilFunc],kind:=0 }
theorem tok116:TIok Tryz.prog 116 ti116:=⟨by kernel_rfl,⟨_,Tryz.underlying116,rfl,trivial⟩,by kernel_rfl,by kernel_rfl⟩
def ti117:TI:={ row:=false,size:=1,zero:=#[.nilFunc],kind:=0 }
theorem tok117:TIok Tryz.prog 117 ti117:=⟨by kernel_rfl,⟨_,Tryz.underlying117,rfl,trivial⟩,by kernel_rfl,by kernel_rfl⟩
def ti118:TI:={ row:=false,size:=1,zero:=#[.nilFunc],kind:=0 }
theorem tok118:TIok Tryz.prog 118 ti118:=⟨by kernel_rfl,⟨_,Tryz.underlying118,rfl,trivial⟩,by kernel_rfl,by kernel_rfl⟩
def ti119:TI:={ row:=true,size:=2,zero:=#[.string ByteArray.empty,.int .i64 0],kind:=1,fields:=[(0,9),(1,3)] }
theorem tok119:TIok Tryz.prog 119 ti119:=⟨by kernel_rfl,⟨_,Tryz.underlying119,rfl,⟨_,rfl,rfl⟩⟩,by kernel_rfl,by kernel_rfl⟩
def ti120:TI:={ row:=true,size:=2,zero:=#[.string ByteArray.empty,.int .i64 0],kind:=1,fields:=[(0,9),(1,3)] }
theorem tok120:TIok Tryz.prog 120 ti120:=⟨by kernel_rfl,⟨_,Tryz.underlying120,rfl,⟨_,rfl,rfl⟩⟩,by kernel_rfl,by kernel_rfl⟩
def ti122:TI:={ row:=false,size:=1,zero:=#[.nilFunc],kind:=0 }
theorem tok122:TIok Tryz.prog 122 ti122:=⟨by kernel_rfl,⟨_,Tryz.underlying122,rfl,trivial⟩,by kernel_rfl,by kernel_rfl⟩
def ti123:TI:={ row:=false,size:=1,zero:=#[.nilFunc],kind:=0 }
theorem tok123:TIok Tryz.prog 123 ti123:=⟨by kernel_rfl,⟨_,Tryz.underlying123,rfl,trivial⟩,by kernel_rfl,by kernel_rfl⟩
def ti124:TI:={ row:=false,size:=1,zero:=#[.nilFunc],kind:=0 }
theorem tok124:TIok Tryz.prog 124 ti124:=⟨by kernel_rfl,⟨_,Tryz.underlying124,rfl,trivial⟩,by kernel_rfl,by kernel_rfl⟩
def ti125:TI:={ row:=false,size:=1,zero:=#[.nilFunc],kind:=0 }
theorem tok125:TIok Tryz.prog 125 ti125:=⟨by kernel_rfl,⟨_,Tryz.underlying125,rfl,trivial⟩,by kernel_rfl,by kernel_rfl⟩
def ti126:TI:={ row:=false,size:=1,zero:=#[.nilFunc],kind:=0 }
theorem tok126:TIok Tryz.prog 126 ti126:=⟨by kernel_rfl,⟨_,Tryz.underlying126,rfl,trivial⟩,by kernel_rfl,by kernel_rfl⟩
def ti128:TI:={ row:=false,size:=1,zero:=#[.nilFunc],kind:=0 }
theorem tok128:TIok Tryz.prog 128 ti128:=⟨by kernel_rfl,⟨_,Tryz.underlying128,rfl,trivial⟩,by kernel_rfl,by kernel_rfl⟩
def ti129:TI:={ row:=false,size:=1,zero:=#[.nilFunc],kind:=0 }
theorem tok129:TIok Tryz.prog 129 ti129:=⟨by kernel_rfl,⟨_,Tryz.underlying129,rfl,trivial⟩,by kernel_rfl,by kernel_rfl⟩
def ti130:TI:={ row:=false,size:=1,zero:=#[.nilFunc],kind:=0 }
theorem tok130:TIok Tryz.prog 130 ti130:=⟨by kernel_rfl,⟨_,Tryz.underlying130,rfl,trivial⟩,by kernel_rfl,by kernel_rfl⟩
def ti131:TI:={ row:=false,size:=1,zero:=#[.nilFunc],kind:=0 }
theorem tok131:TIok Tryz.prog 131 ti131:=⟨by kernel_rfl,⟨_,Tryz.underlying131,rfl,trivial⟩,by kernel_rfl,by kernel_rfl⟩
def ti132:TI:={ row:=false,size:=1,zero:=#[.nilFunc],kind:=0 }
theorem tok132:TIok Tryz.prog 132 ti132:=⟨by kernel_rfl,⟨_,Tryz.underlying132,rfl,trivial⟩,by kernel_rfl,by kernel_rfl⟩
def ti133:TI:={ row:=false,size:=1,zero:=#[.nilFunc],kind:=0 }
theorem tok133:TIok Tryz.prog 133 ti133:=⟨by kernel_rfl,⟨_,Tryz.underlying133,rfl,trivial⟩,by kernel_rfl,by kernel_rfl⟩
def ti134:TI:={ row:=false,size:=1,zero:=#[.nilFunc],kind:=0 }
theorem tok134:TIok Tryz.prog 134 ti134:=⟨by kernel_rfl,⟨_,Tryz.underlying134,rfl,trivial⟩,by kernel_rfl,by kernel_rfl⟩
def ti135:TI:={ row:=false,size:=1,zero:=#[.nilFunc],kind:=0 }
theorem tok135:TIok Tryz.prog 135 ti135:=⟨by kernel_rfl,⟨_,Tryz.underlying135,rfl,trivial⟩,by kernel_rfl,by kernel_rfl⟩
def ti136:TI:={ row:=false,size:=1,zero:=#[.int .u64 0],kind:=4,ik:=.u64 }
theorem tok136:TIok Tryz.prog 136 ti136:=⟨by kernel_rfl,⟨_,Tryz.underlying136,rfl,rfl⟩,by kernel_rfl,by kernel_rfl⟩
def ti137:TI:={ row:=true,size:=76,zero:=#[.int .i64 0,.string ByteArray.empty,.string ByteArray.empty,.string ByteArray.empty,.int .i64 0,.int .i64 0,.int .i64 0,.bool false,.int .u32 0,.int .u32 0,.int .u32 0,.int .u32 0,.int .u32 0,.int .u32 0,.int .u32 0,.int .u32 0,.int .u32 0,.int .u32 0,.int .u32 0,.int .u32 0,.int .u32 0,.int .u32 0,.int .u32 0,.int .u32 0,.int .u32 0,.int .u32 0,.int .u32 0,.int .u32 0,.int .u32 0,.int .u32 0,.int .u32 0,.int .u32 0,.int .u32 0,.int .u32 0,.int .u32 0,.int .u32 0,.int .u32 0,.int .u32 0,.int .u32 0,.int .u32 0,.bool false,.int .u32 0,.int .u32 0,.int .u32 0,.int .u32 0,.int .u32 0,.int .u32 0,.int .u32 0,.int .u32 0,.int .u32 0,.int .u32 0,.int .u32 0,.int .u32 0,.int .u32 0,.int .u32 0,.int .u32 0,.int .u32 0,.int .u32 0,.int .u32 0,.int .u32 0,.int .u32 0,.int .u32 0,.int .u32 0,.int .u32 0,.int .u32 0,.int .u32 0,.int .u32 0,.int .u32 0,.int .u32 0,.int .u32 0,.int .u32 0,.int .u32 0,.int .u32 0,.string ByteArray.empty,.int .i64 0,.bool false],kind:=1,fields:=[(0,61)] }
theorem tok137:TIok Tryz.prog 137 ti137:=⟨by kernel_rfl,⟨_,Tryz.underlying137,rfl,⟨_,rfl,rfl⟩⟩,by kernel_rfl,by kernel_rfl⟩
def ti138:TI:={ row:=true,size:=76,zero:=#[.int .i64 0,.string ByteArray.empty,.string ByteArray.empty,.string ByteArray.empty,.int .i64 0,.int .i64 0,.int .i64 0,.bool false,.int .u32 0,.int .u32 0,.int .u32 0,.int .u32 0,.int .u32 0,.int .u32 0,.int .u32 0,.int .u32 0,.int .u32 0,.int .u32 0,.int .u32 0,.int .u32 0,.int .u32 0,.int .u32 0,.int .u32 0,.int .u32 0,.int .u32 0,.int .u32 0,.int .u32 0,.int .u32 0,.int .u32 0,.int .u32 0,.int .u32 0,.int .u32 0,.int .u32 0,.int .u32 0,.int .u32 0,.int .u32 0,.int .u32 0,.int .u32 0,.int .u32 0,.int .u32 0,.bool false,.int .u32 0,.int .u32 0,.int .u32 0,.int .u32 0,.int .u32 0,.int .u32 0,.int .u32 0,.int .u32 0,.int .u32 0,.int .u32 0,.int .u32 0,.int .u32 0,.int .u32 0,.int .u32 0,.int .u32 0,.int .u32 0,.int .u32 0,.int .u32 0,.int .u32 0,.int .u32 0,.int .u32 0,.int .u32 0,.int .u32 0,.int .u32 0,.int .u32 0,.int .u32 0,.int .u32 0,.int .u32 0,.int .u32 0,.int .u32 0,.int .u32 0,.int .u32 0,.string ByteArray.empty,.int .i64 0,.bool false],kind:=1,fields:=[(0,61)] }
theorem tok138:TIok Tryz.prog 138 ti138:=⟨by kernel_rfl,⟨_,Tryz.underlying138,rfl,⟨_,rfl,rfl⟩⟩,by kernel_rfl,by kernel_rfl⟩
def ti139:TI:={ row:=false,size:=1,zero:=#[.nilFunc],kind:=0 }
theorem tok139:TIok Tryz.prog 139 ti139:=⟨by kernel_rfl,⟨_,Tryz.underlying139,rfl,trivial⟩,by kernel_rfl,by kernel_rfl⟩
def ti140:TI:={ row:=false,size:=1,zero:=#[.nilFunc],kind:=0 }
theorem tok140:TIok Tryz.prog 140 ti140:=⟨by kernel_rfl,⟨_,Tryz.underlying140,rfl,trivial⟩,by kernel_rfl,by kernel_rfl⟩
def ti141:TI:={ row:=false,size:=1,zero:=#[.nilFunc],kind:=0 }
theorem tok141:TIok Tryz.prog 141 ti141:=⟨by kernel_rfl,⟨_,Tryz.underlying141,rfl,trivial⟩,by kernel_rfl,by kernel_rfl⟩
def ti142:TI:={ row:=false,size:=1,zero:=#[.nilFunc],kind:=0 }
theorem tok142:TIok Tryz.prog 142 ti142:=⟨by kernel_rfl,⟨_,Tryz.underlying142,rfl,trivial⟩,by kernel_rfl,by kernel_rfl⟩
def ti143:TI:={ row:=false,size:=1,zero:=#[.pointer none],kind:=0 }
theorem tok143:TIok Tryz.prog 143 ti143:=⟨by kernel_rfl,⟨_,Tryz.underlying143,rfl,trivial⟩,by kernel_rfl,by kernel_rfl⟩
def ti145:TI:={ row:=false,size:=1,zero:=#[.nilFunc],kind:=0 }
theorem tok145:TIok Tryz.prog 145 ti145:=⟨by kernel_rfl,⟨_,Tryz.underlying145,rfl,trivial⟩,by kernel_rfl,by kernel_rfl⟩
def ti146:TI:={ row:=true,size:=76,zero:=#[.int .i64 0,.string ByteArray.empty,.string ByteArray.empty,.string ByteArray.empty,.int .i64 0,.int .i64 0,.int .i64 0,.bool false,.int .u32 0,.int .u32 0,.int .u32 0,.int .u32 0,.int .u32 0,.int .u32 0,.int .u32 0,.int .u32 0,.int .u32 0,.int .u32 0,.int .u32 0,.int .u32 0,.int .u32 0,.int .u32 0,.int .u32 0,.int .u32 0,.int .u32 0,.int .u32 0,.int .u32 0,.int .u32 0,.int .u32 0,.int .u32 0,.int .u32 0,.int .u32 0,.int .u32 0,.int .u32 0,.int .u32 0,.int .u32 0,.int .u32 0,.int .u32 0,.int .u32 0,.int .u32 0,.bool false,.int .u32 0,.int .u32 0,.int .u32 0,.int .u32 0,.int .u32 0,.int .u32 0,.int .u32 0,.int .u32 0,.int .u32 0,.int .u32 0,.int .u32 0,.int .u32 0,.int .u32 0,.int .u32 0,.int .u32 0,.int .u32 0,.int .u32 0,.int .u32 0,.int .u32 0,.int .u32 0,.int .u32 0,.int .u32 0,.int .u32 0,.int .u32 0,.int .u32 0,.int .u32 0,.int .u32 0,.int .u32 0,.int .u32 0,.int .u32 0,.int .u32 0,.int .u32 0,.string ByteArray.empty,.int .i64 0,.bool false],kind:=1,fields:=[(0,138)] }
theorem tok146:TIok Tryz.prog 146 ti146:=⟨by kernel_rfl,⟨_,Tryz.underlying146,rfl,⟨_,rfl,rfl⟩⟩,by kernel_rfl,by kernel_rfl⟩
def ti147:TI:={ row:=true,size:=76,zero:=#[.int .i64 0,.string ByteArray.empty,.string ByteArray.empty,.string ByteArray.empty,.int .i64 0,.int .i64 0,.int .i64 0,.bool false,.int .u32 0,.int .u32 0,.int .u32 0,.int .u32 0,.int .u32 0,.int .u32 0,.int .u32 0,.int .u32 0,.int .u32 0,.int .u32 0,.int .u32 0,.int .u32 0,.int .u32 0,.int .u32 0,.int .u32 0,.int .u32 0,.int .u32 0,.int .u32 0,.int .u32 0,.int .u32 0,.int .u32 0,.int .u32 0,.int .u32 0,.int .u32 0,.int .u32 0,.int .u32 0,.int .u32 0,.int .u32 0,.int .u32 0,.int .u32 0,.int .u32 0,.int .u32 0,.bool false,.int .u32 0,.int .u32 0,.int .u32 0,.int .u32 0,.int .u32 0,.int .u32 0,.int .u32 0,.int .u32 0,.int .u32 0,.int .u32 0,.int .u32 0,.int .u32 0,.int .u32 0,.int .u32 0,.int .u32 0,.int .u32 0,.int .u32 0,.int .u32 0,.int .u32 0,.int .u32 0,.int .u32 0,.int .u32 0,.int .u32 0,.int .u32 0,.int .u32 0,.int .u32 0,.int .u32 0,.int .u32 0,.int .u32 0,.int .u32 0,.int .u32 0,.int .u32 0,.string ByteArray.empty,.int .i64 0,.bool false],kind:=1,fields:=[(0,138)] }
theorem tok147:TIok Tryz.prog 147 ti147:=⟨by kernel_rfl,⟨_,Tryz.underlying147,rfl,⟨_,rfl,rfl⟩⟩,by kernel_rfl,by kernel_rfl⟩
def ti149:TI:={ row:=false,size:=1,zero:=#[.nilFunc],kind:=0 }
theorem tok149:TIok Tryz.prog 149 ti149:=⟨by kernel_rfl,⟨_,Tryz.underlying149,rfl,trivial⟩,by kernel_rfl,by kernel_rfl⟩
def ti151:TI:={ row:=false,size:=1,zero:=#[.nilFunc],kind:=0 }
theorem tok151:TIok Tryz.prog 151 ti151:=⟨by kernel_rfl,⟨_,Tryz.underlying151,rfl,trivial⟩,by kernel_rfl,by kernel_rfl⟩
def ti152:TI:={ row:=false,size:=1,zero:=#[.nilFunc],kind:=0 }
theorem tok152:TIok Tryz.prog 152 ti152:=⟨by kernel_rfl,⟨_,Tryz.underlying152,rfl,trivial⟩,by kernel_rfl,by kernel_rfl⟩
def ti153:TI:={ row:=false,size:=1,zero:=#[.nilFunc],kind:=0 }
theorem tok153:TIok Tryz.prog 153 ti153:=⟨by kernel_rfl,⟨_,Tryz.underlying153,rfl,trivial⟩,by kernel_rfl,by kernel_rfl⟩
def ti155:TI:={ row:=false,size:=1,zero:=#[.nilFunc],kind:=0 }
theorem tok155:TIok Tryz.prog 155 ti155:=⟨by kernel_rfl,⟨_,Tryz.underlying155,rfl,trivial⟩,by kernel_rfl,by kernel_rfl⟩
def ti156:TI:={ row:=false,size:=1,zero:=#[.nilFunc],kind:=0 }
theorem tok156:TIok Tryz.prog 156 ti156:=⟨by kernel_rfl,⟨_,Tryz.underlying156,rfl,trivial⟩,by kernel_rfl,by kernel_rfl⟩
def ti157:TI:={ row:=false,size:=1,zero:=#[.nilFunc],kind:=0 }
theorem tok157:TIok Tryz.prog 157 ti157:=⟨by kernel_rfl,⟨_,Tryz.underlying157,rfl,trivial⟩,by kernel_rfl,by kernel_rfl⟩
def ti158:TI:={ row:=false,size:=1,zero:=#[.nilFunc],kind:=0 }
theorem tok158:TIok Tryz.prog 158 ti158:=⟨by kernel_rfl,⟨_,Tryz.underlying158,rfl,trivial⟩,by kernel_rfl,by kernel_rfl⟩
def ti159:TI:={ row:=false,size:=1,zero:=#[.pointer none],kind:=0 }
theorem tok159:TIok Tryz.prog 159 ti159:=⟨by kernel_rfl,⟨_,Tryz.underlying159,rfl,trivial⟩,by kernel_rfl,by kernel_rfl⟩
def ti160:TI:={ row:=false,size:=1,zero:=#[.nilFunc],kind:=0 }
theorem tok160:TIok Tryz.prog 160 ti160:=⟨by kernel_rfl,⟨_,Tryz.underlying160,rfl,trivial⟩,by kernel_rfl,by kernel_rfl⟩
def ti161:TI:={ row:=false,size:=1,zero:=#[.nilFunc],kind:=0 }
theorem tok161:TIok Tryz.prog 161 ti161:=⟨by kernel_rfl,⟨_,Tryz.underlying161,rfl,trivial⟩,by kernel_rfl,by kernel_rfl⟩
def ti162:TI:={ row:=true,size:=3,zero:=#[.string ByteArray.empty,.int .i64 0,.int .i64 0],kind:=1,fields:=[(0,95),(2,3)] }
theorem tok162:TIok Tryz.prog 162 ti162:=⟨by kernel_rfl,⟨_,Tryz.underlying162,rfl,⟨_,rfl,rfl⟩⟩,by kernel_rfl,by kernel_rfl⟩
def ti163:TI:={ row:=true,size:=3,zero:=#[.string ByteArray.empty,.int .i64 0,.int .i64 0],kind:=1,fields:=[(0,95),(2,3)] }
theorem tok163:TIok Tryz.prog 163 ti163:=⟨by kernel_rfl,⟨_,Tryz.underlying163,rfl,⟨_,rfl,rfl⟩⟩,by kernel_rfl,by kernel_rfl⟩
def ti164:TI:={ row:=false,size:=1,zero:=#[.nilFunc],kind:=0 }
theorem tok164:TIok Tryz.prog 164 ti164:=⟨by kernel_rfl,⟨_,Tryz.underlying164,rfl,trivial⟩,by kernel_rfl,by kernel_rfl⟩
def ti165:TI:={ row:=false,size:=1,zero:=#[.nilFunc],kind:=0 }
theorem tok165:TIok Tryz.prog 165 ti165:=⟨by kernel_rfl,⟨_,Tryz.underlying165,rfl,trivial⟩,by kernel_rfl,by kernel_rfl⟩
def ti166:TI:={ row:=false,size:=1,zero:=#[.nilFunc],kind:=0 }
theorem tok166:TIok Tryz.prog 166 ti166:=⟨by kernel_rfl,⟨_,Tryz.underlying166,rfl,trivial⟩,by kernel_rfl,by kernel_rfl⟩
def ti168:TI:={ row:=false,size:=1,zero:=#[.nilFunc],kind:=0 }
theorem tok168:TIok Tryz.prog 168 ti168:=⟨by kernel_rfl,⟨_,Tryz.underlying168,rfl,trivial⟩,by kernel_rfl,by kernel_rfl⟩
def ti169:TI:={ row:=false,size:=1,zero:=#[.nilFunc],kind:=0 }
theorem tok169:TIok Tryz.prog 169 ti169:=⟨by kernel_rfl,⟨_,Tryz.underlying169,rfl,trivial⟩,by kernel_rfl,by kernel_rfl⟩
def ti171:TI:={ row:=false,size:=1,zero:=#[.nilFunc],kind:=0 }
theorem tok171:TIok Tryz.prog 171 ti171:=⟨by kernel_rfl,⟨_,Tryz.underlying171,rfl,trivial⟩,by kernel_rfl,by kernel_rfl⟩
def ti172:TI:={ row:=false,size:=1,zero:=#[.nilFunc],kind:=0 }
theorem tok172:TIok Tryz.prog 172 ti172:=⟨by kernel_rfl,⟨_,Tryz.underlying172,rfl,trivial⟩,by kernel_rfl,by kernel_rfl⟩
def ti173:TI:={ row:=false,size:=1,zero:=#[.nilFunc],kind:=0 }
theorem tok173:TIok Tryz.prog 173 ti173:=⟨by kernel_rfl,⟨_,Tryz.underlying173,rfl,trivial⟩,by kernel_rfl,by kernel_rfl⟩
def ti174:TI:={ row:=false,size:=1,zero:=#[.int .i64 0],kind:=4,ik:=.i64 }
theorem tok174:TIok Tryz.prog 174 ti174:=⟨by kernel_rfl,⟨_,Tryz.underlying174,rfl,rfl⟩,by kernel_rfl,by kernel_rfl⟩
def ti176:TI:={ row:=false,size:=1,zero:=#[.nilFunc],kind:=0 }
theorem tok176:TIok Tryz.prog 176 ti176:=⟨by kernel_rfl,⟨_,Tryz.underlying176,rfl,trivial⟩,by kernel_rfl,by kernel_rfl⟩
def ti177:TI:={ row:=false,size:=1,zero:=#[.nilFunc],kind:=0 }
theorem tok177:TIok Tryz.prog 177 ti177:=⟨by kernel_rfl,⟨_,Tryz.underlying177,rfl,trivial⟩,by kernel_rfl,by kernel_rfl⟩
def ti178:TI:={ row:=false,size:=1,zero:=#[.nilFunc],kind:=0 }
theorem tok178:TIok Tryz.prog 178 ti178:=⟨by kernel_rfl,⟨_,Tryz.underlying178,rfl,trivial⟩,by kernel_rfl,by kernel_rfl⟩
def ti179:TI:={ row:=false,size:=1,zero:=#[.nilFunc],kind:=0 }
theorem tok179:TIok Tryz.prog 179 ti179:=⟨by kernel_rfl,⟨_,Tryz.underlying179,rfl,trivial⟩,by kernel_rfl,by kernel_rfl⟩
def ti180:TI:={ row:=false,size:=1,zero:=#[.nilFunc],kind:=0 }
theorem tok180:TIok Tryz.prog 180 ti180:=⟨by kernel_rfl,⟨_,Tryz.underlying180,rfl,trivial⟩,by kernel_rfl,by kernel_rfl⟩
def ti181:TI:={ row:=false,size:=1,zero:=#[.nilFunc],kind:=0 }
theorem tok181:TIok Tryz.prog 181 ti181:=⟨by kernel_rfl,⟨_,Tryz.underlying181,rfl,trivial⟩,by kernel_rfl,by kernel_rfl⟩
def ti182:TI:={ row:=false,size:=1,zero:=#[.nilFunc],kind:=0 }
theorem tok182:TIok Tryz.prog 182 ti182:=⟨by kernel_rfl,⟨_,Tryz.underlying182,rfl,trivial⟩,by kernel_rfl,by kernel_rfl⟩
def ti183:TI:={ row:=false,size:=1,zero:=#[.int .u64 0],kind:=4,ik:=.u64 }
theorem tok183:TIok Tryz.prog 183 ti183:=⟨by kernel_rfl,⟨_,Tryz.underlying183,rfl,rfl⟩,by kernel_rfl,by kernel_rfl⟩
def ti184:TI:={ row:=false,size:=1,zero:=#[.nilFunc],kind:=0 }
theorem tok184:TIok Tryz.prog 184 ti184:=⟨by kernel_rfl,⟨_,Tryz.underlying184,rfl,trivial⟩,by kernel_rfl,by kernel_rfl⟩
def ti185:TI:={ row:=false,size:=1,zero:=#[.nilFunc],kind:=0 }
theorem tok185:TIok Tryz.prog 185 ti185:=⟨by kernel_rfl,⟨_,Tryz.underlying185,rfl,trivial⟩,by kernel_rfl,by kernel_rfl⟩
def ti186:TI:={ row:=false,size:=1,zero:=#[.nilFunc],kind:=0 }
theorem tok186:TIok Tryz.prog 186 ti186:=⟨by kernel_rfl,⟨_,Tryz.underlying186,rfl,trivial⟩,by kernel_rfl,by kernel_rfl⟩
def ti187:TI:={ row:=false,size:=1,zero:=#[.nilFunc],kind:=0 }
theorem tok187:TIok Tryz.prog 187 ti187:=⟨by kernel_rfl,⟨_,Tryz.underlying187,rfl,trivial⟩,by kernel_rfl,by kernel_rfl⟩
def ti188:TI:={ row:=true,size:=32,zero:=(Array.replicate 32 (.int .u32 0)),kind:=2,len:=32,elem:=54 }
theorem tok188:TIok Tryz.prog 188 ti188:=⟨by kernel_rfl,⟨_,Tryz.underlying188,rfl,rfl⟩,by kernel_rfl,by kernel_rfl⟩
def ti190:TI:={ row:=false,size:=1,zero:=#[.nilFunc],kind:=0 }
theorem tok190:TIok Tryz.prog 190 ti190:=⟨by kernel_rfl,⟨_,Tryz.underlying190,rfl,trivial⟩,by kernel_rfl,by kernel_rfl⟩
def ti191:TI:={ row:=false,size:=1,zero:=#[.nilFunc],kind:=0 }
theorem tok191:TIok Tryz.prog 191 ti191:=⟨by kernel_rfl,⟨_,Tryz.underlying191,rfl,trivial⟩,by kernel_rfl,by kernel_rfl⟩
def ti192:TI:={ row:=false,size:=1,zero:=#[.nilFunc],kind:=0 }
theorem tok192:TIok Tryz.prog 192 ti192:=⟨by kernel_rfl,⟨_,Tryz.underlying192,rfl,trivial⟩,by kernel_rfl,by kernel_rfl⟩
def ti193:TI:={ row:=false,size:=1,zero:=#[.nilFunc],kind:=0 }
theorem tok193:TIok Tryz.prog 193 ti193:=⟨by kernel_rfl,⟨_,Tryz.underlying193,rfl,trivial⟩,by kernel_rfl,by kernel_rfl⟩
def ti194:TI:={ row:=false,size:=1,zero:=#[.nilFunc],kind:=0 }
theorem tok194:TIok Tryz.prog 194 ti194:=⟨by kernel_rfl,⟨_,Tryz.underlying194,rfl,trivial⟩,by kernel_rfl,by kernel_rfl⟩
def ti195:TI:={ row:=false,size:=1,zero:=#[.nilFunc],kind:=0 }
theorem tok195:TIok Tryz.prog 195 ti195:=⟨by kernel_rfl,⟨_,Tryz.underlying195,rfl,trivial⟩,by kernel_rfl,by kernel_rfl⟩
def ti196:TI:={ row:=false,size:=1,zero:=#[.nilFunc],kind:=0 }
theorem tok196:TIok Tryz.prog 196 ti196:=⟨by kernel_rfl,⟨_,Tryz.underlying196,rfl,trivial⟩,by kernel_rfl,by kernel_rfl⟩
def ti197:TI:={ row:=false,size:=1,zero:=#[.nilFunc],kind:=0 }
theorem tok197:TIok Tryz.prog 197 ti197:=⟨by kernel_rfl,⟨_,Tryz.underlying197,rfl,trivial⟩,by kernel_rfl,by kernel_rfl⟩
def ti198:TI:={ row:=false,size:=1,zero:=#[.nilFunc],kind:=0 }
theorem tok198:TIok Tryz.prog 198 ti198:=⟨by kernel_rfl,⟨_,Tryz.underlying198,rfl,trivial⟩,by kernel_rfl,by kernel_rfl⟩
def ti199:TI:={ row:=false,size:=1,zero:=#[.nilFunc],kind:=0 }
theorem tok199:TIok Tryz.prog 199 ti199:=⟨by kernel_rfl,⟨_,Tryz.underlying199,rfl,trivial⟩,by kernel_rfl,by kernel_rfl⟩
def ti200:TI:={ row:=false,size:=1,zero:=#[.nilFunc],kind:=0 }
theorem tok200:TIok Tryz.prog 200 ti200:=⟨by kernel_rfl,⟨_,Tryz.underlying200,rfl,trivial⟩,by kernel_rfl,by kernel_rfl⟩
def ti201:TI:={ row:=false,size:=1,zero:=#[.nilFunc],kind:=0 }
theorem tok201:TIok Tryz.prog 201 ti201:=⟨by kernel_rfl,⟨_,Tryz.underlying201,rfl,trivial⟩,by kernel_rfl,by kernel_rfl⟩
def ti202:TI:={ row:=false,size:=1,zero:=#[.nilFunc],kind:=0 }
theorem tok202:TIok Tryz.prog 202 ti202:=⟨by kernel_rfl,⟨_,Tryz.underlying202,rfl,trivial⟩,by kernel_rfl,by kernel_rfl⟩
def ti203:TI:={ row:=true,size:=64,zero:=(Array.replicate 64 (.int .u32 0)),kind:=2,len:=64,elem:=54 }
theorem tok203:TIok Tryz.prog 203 ti203:=⟨by kernel_rfl,⟨_,Tryz.underlying203,rfl,rfl⟩,by kernel_rfl,by kernel_rfl⟩
def ti204:TI:={ row:=false,size:=1,zero:=#[.nilFunc],kind:=0 }
theorem tok204:TIok Tryz.prog 204 ti204:=⟨by kernel_rfl,⟨_,Tryz.underlying204,rfl,trivial⟩,by kernel_rfl,by kernel_rfl⟩
def ti205:TI:={ row:=false,size:=1,zero:=#[.nilFunc],kind:=0 }
theorem tok205:TIok Tryz.prog 205 ti205:=⟨by kernel_rfl,⟨_,Tryz.underlying205,rfl,trivial⟩,by kernel_rfl,by kernel_rfl⟩
def ti206:TI:={ row:=false,size:=1,zero:=#[.nilFunc],kind:=0 }
theorem tok206:TIok Tryz.prog 206 ti206:=⟨by kernel_rfl,⟨_,Tryz.underlying206,rfl,trivial⟩,by kernel_rfl,by kernel_rfl⟩
def ti208:TI:={ row:=false,size:=1,zero:=#[.nilFunc],kind:=0 }
theorem tok208:TIok Tryz.prog 208 ti208:=⟨by kernel_rfl,⟨_,Tryz.underlying208,rfl,trivial⟩,by kernel_rfl,by kernel_rfl⟩
def ti209:TI:={ row:=false,size:=1,zero:=#[.nilFunc],kind:=0 }
theorem tok209:TIok Tryz.prog 209 ti209:=⟨by kernel_rfl,⟨_,Tryz.underlying209,rfl,trivial⟩,by kernel_rfl,by kernel_rfl⟩
def ti211:TI:={ row:=false,size:=1,zero:=#[.nilFunc],kind:=0 }
theorem tok211:TIok Tryz.prog 211 ti211:=⟨by kernel_rfl,⟨_,Tryz.underlying211,rfl,trivial⟩,by kernel_rfl,by kernel_rfl⟩
def ti212:TI:={ row:=false,size:=1,zero:=#[.nilFunc],kind:=0 }
theorem tok212:TIok Tryz.prog 212 ti212:=⟨by kernel_rfl,⟨_,Tryz.underlying212,rfl,trivial⟩,by kernel_rfl,by kernel_rfl⟩
def ti213:TI:={ row:=false,size:=1,zero:=#[.int .u64 0],kind:=4,ik:=.u64 }
theorem tok213:TIok Tryz.prog 213 ti213:=⟨by kernel_rfl,⟨_,Tryz.underlying213,rfl,rfl⟩,by kernel_rfl,by kernel_rfl⟩
def ti214:TI:={ row:=false,size:=1,zero:=#[.nilFunc],kind:=0 }
theorem tok214:TIok Tryz.prog 214 ti214:=⟨by kernel_rfl,⟨_,Tryz.underlying214,rfl,trivial⟩,by kernel_rfl,by kernel_rfl⟩
def ti215:TI:={ row:=false,size:=1,zero:=#[.nilFunc],kind:=0 }
theorem tok215:TIok Tryz.prog 215 ti215:=⟨by kernel_rfl,⟨_,Tryz.underlying215,rfl,trivial⟩,by kernel_rfl,by kernel_rfl⟩
def ti216:TI:={ row:=false,size:=1,zero:=#[.nilFunc],kind:=0 }
theorem tok216:TIok Tryz.prog 216 ti216:=⟨by kernel_rfl,⟨_,Tryz.underlying216,rfl,trivial⟩,by kernel_rfl,by kernel_rfl⟩
def ti217:TI:={ row:=false,size:=1,zero:=#[.pointer none],kind:=0 }
theorem tok217:TIok Tryz.prog 217 ti217:=⟨by kernel_rfl,⟨_,Tryz.underlying217,rfl,trivial⟩,by kernel_rfl,by kernel_rfl⟩
def ti218:TI:={ row:=false,size:=1,zero:=#[.nilFunc],kind:=0 }
theorem tok218:TIok Tryz.prog 218 ti218:=⟨by kernel_rfl,⟨_,Tryz.underlying218,rfl,trivial⟩,by kernel_rfl,by kernel_rfl⟩
def ti220:TI:={ row:=false,size:=1,zero:=#[.nilFunc],kind:=0 }
theorem tok220:TIok Tryz.prog 220 ti220:=⟨by kernel_rfl,⟨_,Tryz.underlying220,rfl,trivial⟩,by kernel_rfl,by kernel_rfl⟩
def ti221:TI:={ row:=false,size:=1,zero:=#[.nilFunc],kind:=0 }
theorem tok221:TIok Tryz.prog 221 ti221:=⟨by kernel_rfl,⟨_,Tryz.underlying221,rfl,trivial⟩,by kernel_rfl,by kernel_rfl⟩
def ti222:TI:={ row:=false,size:=1,zero:=#[.nilFunc],kind:=0 }
theorem tok222:TIok Tryz.prog 222 ti222:=⟨by kernel_rfl,⟨_,Tryz.underlying222,rfl,trivial⟩,by kernel_rfl,by kernel_rfl⟩
def ti223:TI:={ row:=false,size:=1,zero:=#[.nilFunc],kind:=0 }
theorem tok223:TIok Tryz.prog 223 ti223:=⟨by kernel_rfl,⟨_,Tryz.underlying223,rfl,trivial⟩,by kernel_rfl,by kernel_rfl⟩
def ti225:TI:={ row:=false,size:=1,zero:=#[.nilFunc],kind:=0 }
theorem tok225:TIok Tryz.prog 225 ti225:=⟨by kernel_rfl,⟨_,Tryz.underlying225,rfl,trivial⟩,by kernel_rfl,by kernel_rfl⟩
def ti226:TI:={ row:=false,size:=1,zero:=#[.pointer none],kind:=0 }
theorem tok226:TIok Tryz.prog 226 ti226:=⟨by kernel_rfl,⟨_,Tryz.underlying226,rfl,trivial⟩,by kernel_rfl,by kernel_rfl⟩
def ti228:TI:={ row:=false,size:=1,zero:=#[.nilFunc],kind:=0 }
theorem tok228:TIok Tryz.prog 228 ti228:=⟨by kernel_rfl,⟨_,Tryz.underlying228,rfl,trivial⟩,by kernel_rfl,by kernel_rfl⟩
def ti229:TI:={ row:=false,size:=1,zero:=#[.nilFunc],kind:=0 }
theorem tok229:TIok Tryz.prog 229 ti229:=⟨by kernel_rfl,⟨_,Tryz.underlying229,rfl,trivial⟩,by kernel_rfl,by kernel_rfl⟩
def ti230:TI:={ row:=false,size:=1,zero:=#[.nilFunc],kind:=0 }
theorem tok230:TIok Tryz.prog 230 ti230:=⟨by kernel_rfl,⟨_,Tryz.underlying230,rfl,trivial⟩,by kernel_rfl,by kernel_rfl⟩
def ti232:TI:={ row:=false,size:=1,zero:=#[.nilFunc],kind:=0 }
theorem tok232:TIok Tryz.prog 232 ti232:=⟨by kernel_rfl,⟨_,Tryz.underlying232,rfl,trivial⟩,by kernel_rfl,by kernel_rfl⟩
def ti233:TI:={ row:=false,size:=1,zero:=#[.nilFunc],kind:=0 }
theorem tok233:TIok Tryz.prog 233 ti233:=⟨by kernel_rfl,⟨_,Tryz.underlying233,rfl,trivial⟩,by kernel_rfl,by kernel_rfl⟩
def ti234:TI:={ row:=false,size:=1,zero:=#[.nilFunc],kind:=0 }
theorem tok234:TIok Tryz.prog 234 ti234:=⟨by kernel_rfl,⟨_,Tryz.underlying234,rfl,trivial⟩,by kernel_rfl,by kernel_rfl⟩
def ti235:TI:={ row:=true,size:=35,zero:=#[.bool false,.int .u32 0,.int .u32 0,.int .u32 0,.int .u32 0,.int .u32 0,.int .u32 0,.int .u32 0,.int .u32 0,.int .u32 0,.int .u32 0,.int .u32 0,.int .u32 0,.int .u32 0,.int .u32 0,.int .u32 0,.int .u32 0,.int .u32 0,.int .u32 0,.int .u32 0,.int .u32 0,.int .u32 0,.int .u32 0,.int .u32 0,.int .u32 0,.int .u32 0,.int .u32 0,.int .u32 0,.int .u32 0,.int .u32 0,.int .u32 0,.int .u32 0,.int .u32 0,.int .i64 0,.bool false],kind:=1,fields:=[(0,57),(33,3),(34,4)] }
theorem tok235:TIok Tryz.prog 235 ti235:=⟨by kernel_rfl,⟨_,Tryz.underlying235,rfl,⟨_,rfl,rfl⟩⟩,by kernel_rfl,by kernel_rfl⟩
def ti236:TI:={ row:=true,size:=35,zero:=#[.bool false,.int .u32 0,.int .u32 0,.int .u32 0,.int .u32 0,.int .u32 0,.int .u32 0,.int .u32 0,.int .u32 0,.int .u32 0,.int .u32 0,.int .u32 0,.int .u32 0,.int .u32 0,.int .u32 0,.int .u32 0,.int .u32 0,.int .u32 0,.int .u32 0,.int .u32 0,.int .u32 0,.int .u32 0,.int .u32 0,.int .u32 0,.int .u32 0,.int .u32 0,.int .u32 0,.int .u32 0,.int .u32 0,.int .u32 0,.int .u32 0,.int .u32 0,.int .u32 0,.int .i64 0,.bool false],kind:=1,fields:=[(0,57),(33,3),(34,4)] }
theorem tok236:TIok Tryz.prog 236 ti236:=⟨by kernel_rfl,⟨_,Tryz.underlying236,rfl,⟨_,rfl,rfl⟩⟩,by kernel_rfl,by kernel_rfl⟩
def ti237:TI:={ row:=false,size:=1,zero:=#[.nilFunc],kind:=0 }
theorem tok237:TIok Tryz.prog 237 ti237:=⟨by kernel_rfl,⟨_,Tryz.underlying237,rfl,trivial⟩,by kernel_rfl,by kernel_rfl⟩
def ti238:TI:={ row:=false,size:=1,zero:=#[.nilFunc],kind:=0 }
theorem tok238:TIok Tryz.prog 238 ti238:=⟨by kernel_rfl,⟨_,Tryz.underlying238,rfl,trivial⟩,by kernel_rfl,by kernel_rfl⟩
def ti239:TI:={ row:=false,size:=1,zero:=#[.nilFunc],kind:=0 }
theorem tok239:TIok Tryz.prog 239 ti239:=⟨by kernel_rfl,⟨_,Tryz.underlying239,rfl,trivial⟩,by kernel_rfl,by kernel_rfl⟩
def ti240:TI:={ row:=false,size:=1,zero:=#[.nilFunc],kind:=0 }
theorem tok240:TIok Tryz.prog 240 ti240:=⟨by kernel_rfl,⟨_,Tryz.underlying240,rfl,trivial⟩,by kernel_rfl,by kernel_rfl⟩
def ti241:TI:={ row:=false,size:=1,zero:=#[.nilFunc],kind:=0 }
theorem tok241:TIok Tryz.prog 241 ti241:=⟨by kernel_rfl,⟨_,Tryz.underlying241,rfl,trivial⟩,by kernel_rfl,by kernel_rfl⟩
def ti242:TI:={ row:=false,size:=1,zero:=#[.nilFunc],kind:=0 }
theorem tok242:TIok Tryz.prog 242 ti242:=⟨by kernel_rfl,⟨_,Tryz.underlying242,rfl,trivial⟩,by kernel_rfl,by kernel_rfl⟩
def ti243:TI:={ row:=false,size:=1,zero:=#[.nilFunc],kind:=0 }
theorem tok243:TIok Tryz.prog 243 ti243:=⟨by kernel_rfl,⟨_,Tryz.underlying243,rfl,trivial⟩,by kernel_rfl,by kernel_rfl⟩
def ti244:TI:={ row:=false,size:=1,zero:=#[.nilFunc],kind:=0 }
theorem tok244:TIok Tryz.prog 244 ti244:=⟨by kernel_rfl,⟨_,Tryz.underlying244,rfl,trivial⟩,by kernel_rfl,by kernel_rfl⟩
def ti245:TI:={ row:=false,size:=1,zero:=#[.pointer none],kind:=0 }
theorem tok245:TIok Tryz.prog 245 ti245:=⟨by kernel_rfl,⟨_,Tryz.underlying245,rfl,trivial⟩,by kernel_rfl,by kernel_rfl⟩
def ti247:TI:={ row:=false,size:=1,zero:=#[.nilFunc],kind:=0 }
theorem tok247:TIok Tryz.prog 247 ti247:=⟨by kernel_rfl,⟨_,Tryz.underlying247,rfl,trivial⟩,by kernel_rfl,by kernel_rfl⟩
def ti249:TI:={ row:=false,size:=1,zero:=#[.nilFunc],kind:=0 }
theorem tok249:TIok Tryz.prog 249 ti249:=⟨by kernel_rfl,⟨_,Tryz.underlying249,rfl,trivial⟩,by kernel_rfl,by kernel_rfl⟩
def ti250:TI:={ row:=false,size:=1,zero:=#[.nilFunc],kind:=0 }
theorem tok250:TIok Tryz.prog 250 ti250:=⟨by kernel_rfl,⟨_,Tryz.underlying250,rfl,trivial⟩,by kernel_rfl,by kernel_rfl⟩
def ti252:TI:={ row:=false,size:=1,zero:=#[.nilFunc],kind:=0 }
theorem tok252:TIok Tryz.prog 252 ti252:=⟨by kernel_rfl,⟨_,Tryz.underlying252,rfl,trivial⟩,by kernel_rfl,by kernel_rfl⟩
def ti253:TI:={ row:=false,size:=1,zero:=#[.nilFunc],kind:=0 }
theorem tok253:TIok Tryz.prog 253 ti253:=⟨by kernel_rfl,⟨_,Tryz.underlying253,rfl,trivial⟩,by kernel_rfl,by kernel_rfl⟩
def ti254:TI:={ row:=false,size:=1,zero:=#[.slice none 0 0],kind:=3,elem:=54 }
theorem tok254:TIok Tryz.prog 254 ti254:=⟨by kernel_rfl,⟨_,Tryz.underlying254,rfl,rfl⟩,by kernel_rfl,by kernel_rfl⟩
def ti255:TI:={ row:=false,size:=1,zero:=#[.nilFunc],kind:=0 }
theorem tok255:TIok Tryz.prog 255 ti255:=⟨by kernel_rfl,⟨_,Tryz.underlying255,rfl,trivial⟩,by kernel_rfl,by kernel_rfl⟩
def ti256:TI:={ row:=false,size:=1,zero:=#[.nilFunc],kind:=0 }
theorem tok256:TIok Tryz.prog 256 ti256:=⟨by kernel_rfl,⟨_,Tryz.underlying256,rfl,trivial⟩,by kernel_rfl,by kernel_rfl⟩
def ti257:TI:={ row:=true,size:=33,zero:=(Array.replicate 33 (.int .u32 0)),kind:=2,len:=33,elem:=54 }
theorem tok257:TIok Tryz.prog 257 ti257:=⟨by kernel_rfl,⟨_,Tryz.underlying257,rfl,rfl⟩,by kernel_rfl,by kernel_rfl⟩
def ti259:TI:={ row:=false,size:=1,zero:=#[.nilFunc],kind:=0 }
theorem tok259:TIok Tryz.prog 259 ti259:=⟨by kernel_rfl,⟨_,Tryz.underlying259,rfl,trivial⟩,by kernel_rfl,by kernel_rfl⟩
def ti260:TI:={ row:=false,size:=1,zero:=#[.nilFunc],kind:=0 }
theorem tok260:TIok Tryz.prog 260 ti260:=⟨by kernel_rfl,⟨_,Tryz.underlying260,rfl,trivial⟩,by kernel_rfl,by kernel_rfl⟩
def ti261:TI:={ row:=false,size:=1,zero:=#[.nilFunc],kind:=0 }
theorem tok261:TIok Tryz.prog 261 ti261:=⟨by kernel_rfl,⟨_,Tryz.underlying261,rfl,trivial⟩,by kernel_rfl,by kernel_rfl⟩
def ti262:TI:={ row:=false,size:=1,zero:=#[.nilFunc],kind:=0 }
theorem tok262:TIok Tryz.prog 262 ti262:=⟨by kernel_rfl,⟨_,Tryz.underlying262,rfl,trivial⟩,by kernel_rfl,by kernel_rfl⟩
def ti263:TI:={ row:=false,size:=1,zero:=#[.nilFunc],kind:=0 }
theorem tok263:TIok Tryz.prog 263 ti263:=⟨by kernel_rfl,⟨_,Tryz.underlying263,rfl,trivial⟩,by kernel_rfl,by kernel_rfl⟩
def ti265:TI:={ row:=false,size:=1,zero:=#[.nilFunc],kind:=0 }
theorem tok265:TIok Tryz.prog 265 ti265:=⟨by kernel_rfl,⟨_,Tryz.underlying265,rfl,trivial⟩,by kernel_rfl,by kernel_rfl⟩
def ti266:TI:={ row:=false,size:=1,zero:=#[.nilFunc],kind:=0 }
theorem tok266:TIok Tryz.prog 266 ti266:=⟨by kernel_rfl,⟨_,Tryz.underlying266,rfl,trivial⟩,by kernel_rfl,by kernel_rfl⟩
def ti268:TI:={ row:=false,size:=1,zero:=#[.nilFunc],kind:=0 }
theorem tok268:TIok Tryz.prog 268 ti268:=⟨by kernel_rfl,⟨_,Tryz.underlying268,rfl,trivial⟩,by kernel_rfl,by kernel_rfl⟩
def ti269:TI:={ row:=false,size:=1,zero:=#[.nilFunc],kind:=0 }
theorem tok269:TIok Tryz.prog 269 ti269:=⟨by kernel_rfl,⟨_,Tryz.underlying269,rfl,trivial⟩,by kernel_rfl,by kernel_rfl⟩
def ti270:TI:={ row:=false,size:=1,zero:=#[.slice none 0 0],kind:=3,elem:=5 }
theorem tok270:TIok Tryz.prog 270 ti270:=⟨by kernel_rfl,⟨_,Tryz.underlying270,rfl,rfl⟩,by kernel_rfl,by kernel_rfl⟩
def ti271:TI:={ row:=false,size:=1,zero:=#[.nilFunc],kind:=0 }
theorem tok271:TIok Tryz.prog 271 ti271:=⟨by kernel_rfl,⟨_,Tryz.underlying271,rfl,trivial⟩,by kernel_rfl,by kernel_rfl⟩
def ti272:TI:={ row:=false,size:=1,zero:=#[.nilFunc],kind:=0 }
theorem tok272:TIok Tryz.prog 272 ti272:=⟨by kernel_rfl,⟨_,Tryz.underlying272,rfl,trivial⟩,by kernel_rfl,by kernel_rfl⟩
def ti273:TI:={ row:=true,size:=256,zero:=(Array.replicate 256 (.bool false)),kind:=2,len:=256,elem:=4 }
theorem tok273:TIok Tryz.prog 273 ti273:=⟨by kernel_rfl,⟨_,Tryz.underlying273,rfl,rfl⟩,by kernel_rfl,by kernel_rfl⟩
def ti274:TI:={ row:=true,size:=256,zero:=(Array.replicate 256 (.bool false)),kind:=2,len:=256,elem:=4 }
theorem tok274:TIok Tryz.prog 274 ti274:=⟨by kernel_rfl,⟨_,Tryz.underlying274,rfl,rfl⟩,by kernel_rfl,by kernel_rfl⟩
def ti276:TI:={ row:=false,size:=1,zero:=#[.nilFunc],kind:=0 }
theorem tok276:TIok Tryz.prog 276 ti276:=⟨by kernel_rfl,⟨_,Tryz.underlying276,rfl,trivial⟩,by kernel_rfl,by kernel_rfl⟩
def ti277:TI:={ row:=false,size:=1,zero:=#[.nilFunc],kind:=0 }
theorem tok277:TIok Tryz.prog 277 ti277:=⟨by kernel_rfl,⟨_,Tryz.underlying277,rfl,trivial⟩,by kernel_rfl,by kernel_rfl⟩
def ti278:TI:={ row:=false,size:=1,zero:=#[.pointer none],kind:=0 }
theorem tok278:TIok Tryz.prog 278 ti278:=⟨by kernel_rfl,⟨_,Tryz.underlying278,rfl,trivial⟩,by kernel_rfl,by kernel_rfl⟩
def ti279:TI:={ row:=false,size:=1,zero:=#[.nilFunc],kind:=0 }
theorem tok279:TIok Tryz.prog 279 ti279:=⟨by kernel_rfl,⟨_,Tryz.underlying279,rfl,trivial⟩,by kernel_rfl,by kernel_rfl⟩
def ti281:TI:={ row:=false,size:=1,zero:=#[.nilFunc],kind:=0 }
theorem tok281:TIok Tryz.prog 281 ti281:=⟨by kernel_rfl,⟨_,Tryz.underlying281,rfl,trivial⟩,by kernel_rfl,by kernel_rfl⟩
def ti282:TI:={ row:=false,size:=1,zero:=#[.pointer none],kind:=0 }
theorem tok282:TIok Tryz.prog 282 ti282:=⟨by kernel_rfl,⟨_,Tryz.underlying282,rfl,trivial⟩,by kernel_rfl,by kernel_rfl⟩
def ti283:TI:={ row:=true,size:=2,zero:=#[.pointer none,.slice none 0 0],kind:=1,fields:=[(0,282),(1,270)] }
theorem tok283:TIok Tryz.prog 283 ti283:=⟨by kernel_rfl,⟨_,Tryz.underlying283,rfl,⟨_,rfl,rfl⟩⟩,by kernel_rfl,by kernel_rfl⟩
def ti284:TI:={ row:=true,size:=2,zero:=#[.pointer none,.slice none 0 0],kind:=1,fields:=[(0,282),(1,270)] }
theorem tok284:TIok Tryz.prog 284 ti284:=⟨by kernel_rfl,⟨_,Tryz.underlying284,rfl,⟨_,rfl,rfl⟩⟩,by kernel_rfl,by kernel_rfl⟩
def ti285:TI:={ row:=false,size:=1,zero:=#[.nilFunc],kind:=0 }
theorem tok285:TIok Tryz.prog 285 ti285:=⟨by kernel_rfl,⟨_,Tryz.underlying285,rfl,trivial⟩,by kernel_rfl,by kernel_rfl⟩
def ti286:TI:={ row:=false,size:=1,zero:=#[.nilIface],kind:=0 }
theorem tok286:TIok Tryz.prog 286 ti286:=⟨by kernel_rfl,⟨_,Tryz.underlying286,rfl,trivial⟩,by kernel_rfl,by kernel_rfl⟩
def ti287:TI:={ row:=false,size:=1,zero:=#[.nilIface],kind:=0 }
theorem tok287:TIok Tryz.prog 287 ti287:=⟨by kernel_rfl,⟨_,Tryz.underlying287,rfl,trivial⟩,by kernel_rfl,by kernel_rfl⟩
def ti289:TI:={ row:=false,size:=1,zero:=#[.nilFunc],kind:=0 }
theorem tok289:TIok Tryz.prog 289 ti289:=⟨by kernel_rfl,⟨_,Tryz.underlying289,rfl,trivial⟩,by kernel_rfl,by kernel_rfl⟩
def ti291:TI:={ row:=false,size:=1,zero:=#[.nilFunc],kind:=0 }
theorem tok291:TIok Tryz.prog 291 ti291:=⟨by kernel_rfl,⟨_,Tryz.underlying291,rfl,trivial⟩,by kernel_rfl,by kernel_rfl⟩
def ti292:TI:={ row:=false,size:=1,zero:=#[.nilFunc],kind:=0 }
theorem tok292:TIok Tryz.prog 292 ti292:=⟨by kernel_rfl,⟨_,Tryz.underlying292,rfl,trivial⟩,by kernel_rfl,by kernel_rfl⟩
def ti293:TI:={ row:=false,size:=1,zero:=#[.nilFunc],kind:=0 }
theorem tok293:TIok Tryz.prog 293 ti293:=⟨by kernel_rfl,⟨_,Tryz.underlying293,rfl,trivial⟩,by kernel_rfl,by kernel_rfl⟩
def ti295:TI:={ row:=false,size:=1,zero:=#[.nilFunc],kind:=0 }
theorem tok295:TIok Tryz.prog 295 ti295:=⟨by kernel_rfl,⟨_,Tryz.underlying295,rfl,trivial⟩,by kernel_rfl,by kernel_rfl⟩
def ti296:TI:={ row:=false,size:=1,zero:=#[.pointer none],kind:=0 }
theorem tok296:TIok Tryz.prog 296 ti296:=⟨by kernel_rfl,⟨_,Tryz.underlying296,rfl,trivial⟩,by kernel_rfl,by kernel_rfl⟩
def ti297:TI:={ row:=false,size:=1,zero:=#[.nilFunc],kind:=0 }
theorem tok297:TIok Tryz.prog 297 ti297:=⟨by kernel_rfl,⟨_,Tryz.underlying297,rfl,trivial⟩,by kernel_rfl,by kernel_rfl⟩
def ti299:TI:={ row:=false,size:=1,zero:=#[.nilFunc],kind:=0 }
theorem tok299:TIok Tryz.prog 299 ti299:=⟨by kernel_rfl,⟨_,Tryz.underlying299,rfl,trivial⟩,by kernel_rfl,by kernel_rfl⟩
def ti300:TI:={ row:=false,size:=1,zero:=#[.nilFunc],kind:=0 }
theorem tok300:TIok Tryz.prog 300 ti300:=⟨by kernel_rfl,⟨_,Tryz.underlying300,rfl,trivial⟩,by kernel_rfl,by kernel_rfl⟩
def ti301:TI:={ row:=false,size:=1,zero:=#[.nilFunc],kind:=0 }
theorem tok301:TIok Tryz.prog 301 ti301:=⟨by kernel_rfl,⟨_,Tryz.underlying301,rfl,trivial⟩,by kernel_rfl,by kernel_rfl⟩
def ti302:TI:={ row:=false,size:=1,zero:=#[.nilFunc],kind:=0 }
theorem tok302:TIok Tryz.prog 302 ti302:=⟨by kernel_rfl,⟨_,Tryz.underlying302,rfl,trivial⟩,by kernel_rfl,by kernel_rfl⟩
def ti303:TI:={ row:=true,size:=256,zero:=(Array.replicate 256 (.int .u8 0)),kind:=2,len:=256,elem:=5 }
theorem tok303:TIok Tryz.prog 303 ti303:=⟨by kernel_rfl,⟨_,Tryz.underlying303,rfl,rfl⟩,by kernel_rfl,by kernel_rfl⟩
def ti304:TI:={ row:=true,size:=2,zero:=#[.int .u8 0,.int .u8 0],kind:=1,fields:=[(0,5),(1,5)] }
theorem tok304:TIok Tryz.prog 304 ti304:=⟨by kernel_rfl,⟨_,Tryz.underlying304,rfl,⟨_,rfl,rfl⟩⟩,by kernel_rfl,by kernel_rfl⟩
def ti305:TI:={ row:=true,size:=2,zero:=#[.int .u8 0,.int .u8 0],kind:=1,fields:=[(0,5),(1,5)] }
theorem tok305:TIok Tryz.prog 305 ti305:=⟨by kernel_rfl,⟨_,Tryz.underlying305,rfl,⟨_,rfl,rfl⟩⟩,by kernel_rfl,by kernel_rfl⟩
def ti306:TI:={ row:=true,size:=32,zero:=(Array.replicate 32 (.int .u8 0)),kind:=2,len:=16,elem:=305 }
theorem tok306:TIok Tryz.prog 306 ti306:=⟨by kernel_rfl,⟨_,Tryz.underlying306,rfl,rfl⟩,by kernel_rfl,by kernel_rfl⟩
def ti307:TI:={ row:=false,size:=1,zero:=#[.pointer none],kind:=0 }
theorem tok307:TIok Tryz.prog 307 ti307:=⟨by kernel_rfl,⟨_,Tryz.underlying307,rfl,trivial⟩,by kernel_rfl,by kernel_rfl⟩
def ti308:TI:={ row:=true,size:=4,zero:=#[.pointer none,.pointer none,.pointer none,.string ByteArray.empty],kind:=1,fields:=[(0,17),(1,17),(2,17),(3,9)] }
theorem tok308:TIok Tryz.prog 308 ti308:=⟨by kernel_rfl,⟨_,Tryz.underlying308,rfl,⟨_,rfl,rfl⟩⟩,by kernel_rfl,by kernel_rfl⟩
def ti309:TI:={ row:=true,size:=4,zero:=#[.pointer none,.pointer none,.pointer none,.string ByteArray.empty],kind:=1,fields:=[(0,17),(1,17),(2,17),(3,9)] }
theorem tok309:TIok Tryz.prog 309 ti309:=⟨by kernel_rfl,⟨_,Tryz.underlying309,rfl,⟨_,rfl,rfl⟩⟩,by kernel_rfl,by kernel_rfl⟩
def ti310:TI:={ row:=true,size:=0,zero:=#[],kind:=2,len:=0,elem:=16 }
theorem tok310:TIok Tryz.prog 310 ti310:=⟨by kernel_rfl,⟨_,Tryz.underlying310,rfl,rfl⟩,by kernel_rfl,by kernel_rfl⟩
def ti311:TI:={ row:=true,size:=0,zero:=#[],kind:=1,fields:=[(0,310)] }
theorem tok311:TIok Tryz.prog 311 ti311:=⟨by kernel_rfl,⟨_,Tryz.underlying311,rfl,⟨_,rfl,rfl⟩⟩,by kernel_rfl,by kernel_rfl⟩
def ti312:TI:={ row:=true,size:=0,zero:=#[],kind:=1,fields:=[(0,310)] }
theorem tok312:TIok Tryz.prog 312 ti312:=⟨by kernel_rfl,⟨_,Tryz.underlying312,rfl,⟨_,rfl,rfl⟩⟩,by kernel_rfl,by kernel_rfl⟩
def ti313:TI:={ row:=false,size:=1,zero:=#[.int .u8 0],kind:=4,ik:=.u8 }
theorem tok313:TIok Tryz.prog 313 ti313:=⟨by kernel_rfl,⟨_,Tryz.underlying313,rfl,rfl⟩,by kernel_rfl,by kernel_rfl⟩
def ti314:TI:={ row:=false,size:=1,zero:=#[.int .u8 0],kind:=4,ik:=.u8 }
theorem tok314:TIok Tryz.prog 314 ti314:=⟨by kernel_rfl,⟨_,Tryz.underlying314,rfl,rfl⟩,by kernel_rfl,by kernel_rfl⟩
def ti315:TI:={ row:=false,size:=1,zero:=#[.nilFunc],kind:=0 }
theorem tok315:TIok Tryz.prog 315 ti315:=⟨by kernel_rfl,⟨_,Tryz.underlying315,rfl,trivial⟩,by kernel_rfl,by kernel_rfl⟩
def ti316:TI:={ row:=false,size:=1,zero:=#[.int .i32 0],kind:=4,ik:=.i32 }
theorem tok316:TIok Tryz.prog 316 ti316:=⟨by kernel_rfl,⟨_,Tryz.underlying316,rfl,rfl⟩,by kernel_rfl,by kernel_rfl⟩
def ti317:TI:={ row:=false,size:=1,zero:=#[.int .i32 0],kind:=4,ik:=.i32 }
theorem tok317:TIok Tryz.prog 317 ti317:=⟨by kernel_rfl,⟨_,Tryz.underlying317,rfl,rfl⟩,by kernel_rfl,by kernel_rfl⟩
def ti318:TI:={ row:=true,size:=11,zero:=#[.int .u64 0,.int .u64 0,.int .u32 0,.int .u8 0,.int .u8 0,.int .u8 0,.int .u8 0,.nilFunc,.pointer none,.int .i32 0,.int .i32 0],kind:=1,fields:=[(0,12),(1,12),(2,54),(3,313),(4,5),(5,5),(6,314),(7,315),(8,296),(9,316),(10,317)] }
theorem tok318:TIok Tryz.prog 318 ti318:=⟨by kernel_rfl,⟨_,Tryz.underlying318,rfl,⟨_,rfl,rfl⟩⟩,by kernel_rfl,by kernel_rfl⟩
def ti319:TI:={ row:=true,size:=11,zero:=#[.int .u64 0,.int .u64 0,.int .u32 0,.int .u8 0,.int .u8 0,.int .u8 0,.int .u8 0,.nilFunc,.pointer none,.int .i32 0,.int .i32 0],kind:=1,fields:=[(0,12),(1,12),(2,54),(3,313),(4,5),(5,5),(6,314),(7,315),(8,296),(9,316),(10,317)] }
theorem tok319:TIok Tryz.prog 319 ti319:=⟨by kernel_rfl,⟨_,Tryz.underlying319,rfl,⟨_,rfl,rfl⟩⟩,by kernel_rfl,by kernel_rfl⟩
def ti320:TI:={ row:=false,size:=1,zero:=#[.nilFunc],kind:=0 }
theorem tok320:TIok Tryz.prog 320 ti320:=⟨by kernel_rfl,⟨_,Tryz.underlying320,rfl,trivial⟩,by kernel_rfl,by kernel_rfl⟩
def ti321:TI:={ row:=true,size:=1,zero:=#[.string ByteArray.empty],kind:=1,fields:=[(0,9)] }
theorem tok321:TIok Tryz.prog 321 ti321:=⟨by kernel_rfl,⟨_,Tryz.underlying321,rfl,⟨_,rfl,rfl⟩⟩,by kernel_rfl,by kernel_rfl⟩
def ti322:TI:={ row:=true,size:=1,zero:=#[.string ByteArray.empty],kind:=1,fields:=[(0,9)] }
theorem tok322:TIok Tryz.prog 322 ti322:=⟨by kernel_rfl,⟨_,Tryz.underlying322,rfl,⟨_,rfl,rfl⟩⟩,by kernel_rfl,by kernel_rfl⟩
def tt_0:TypeId→Option TI
 | 1=>some ti1
 | 2=>some ti2
 | 3=>some ti3
 | 4=>some ti4
 | 5=>some ti5
 | 6=>some ti6
 | 7=>some ti7
 | 8=>some ti8
 | 9=>some ti9
 | 10=>some ti10
 | 11=>some ti11
 | 12=>some ti12
 | 13=>some ti13
 | 14=>some ti14
 | 15=>some ti15
 | 16=>some ti16
 | _=>none
theorem tt_0_ok:TTok Tryz.prog tt_0:=by
 intro ty i h
 unfold tt_0 at h
 split at h
 ·cases h;exact tok1
 ·cases h;exact tok2
 ·cases h;exact tok3
 ·cases h;exact tok4
 ·cases h;exact tok5
 ·cases h;exact tok6
 ·cases h;exact tok7
 ·cases h;exact tok8
 ·cases h;exact tok9
 ·cases h;exact tok10
 ·cases h;exact tok11
 ·cases h;exact tok12
 ·cases h;exact tok13
 ·cases h;exact tok14
 ·cases h;exact tok15
 ·cases h;exact tok16
 ·cases h
def tt_1:TypeId→Option TI
 | 17=>some ti17
 | 18=>some ti18
 | 19=>some ti19
 | 20=>some ti20
 | 21=>some ti21
 | 22=>some ti22
 | 23=>some ti23
 | 24=>some ti24
 | 26=>some ti26
 | 27=>some ti27
 | 28=>some ti28
 | 29=>some ti29
 | 30=>some ti30
 | 32=>some ti32
 | 33=>some ti33
 | 34=>some ti34
 | _=>none
theorem tt_1_ok:TTok Tryz.prog tt_1:=by
 intro ty i h
 unfold tt_1 at h
 split at h
 ·cases h;exact tok17
 ·cases h;exact tok18
 ·cases h;exact tok19
 ·cases h;exact tok20
 ·cases h;exact tok21
 ·cases h;exact tok22
 ·cases h;exact tok23
 ·cases h;exact tok24
 ·cases h;exact tok26
 ·cases h;exact tok27
 ·cases h;exact tok28
 ·cases h;exact tok29
 ·cases h;exact tok30
 ·cases h;exact tok32
 ·cases h;exact tok33
 ·cases h;exact tok34
 ·cases h
def tt_2:TypeId→Option TI
 | 35=>some ti35
 | 36=>some ti36
 | 37=>some ti37
 | 38=>some ti38
 | 39=>some ti39
 | 40=>some ti40
 | 41=>some ti41
 | 43=>some ti43
 | 44=>some ti44
 | 45=>some ti45
 | 46=>some ti46
 | 47=>some ti47
 | 49=>some ti49
 | 50=>some ti50
 | 51=>some ti51
 | 52=>some ti52
 | _=>none
theorem tt_2_ok:TTok Tryz.prog tt_2:=by
 intro ty i h
 unfold tt_2 at h
 split at h
 ·cases h;exact tok35
 ·cases h;exact tok36
 ·cases h;exact tok37
 ·cases h;exact tok38
 ·cases h;exact tok39
 ·cases h;exact tok40
 ·cases h;exact tok41
 ·cases h;exact tok43
 ·cases h;exact tok44
 ·cases h;exact tok45
 ·cases h;exact tok46
 ·cases h;exact tok47
 ·cases h;exact tok49
 ·cases h;exact tok50
 ·cases h;exact tok51
 ·cases h;exact tok52
 ·cases h
def tt_3:TypeId→Option TI
 | 53=>some ti53
 | 54=>some ti54
 | 55=>some ti55
 | 56=>some ti56
 | 57=>some ti57
 | 58=>some ti58
 | 59=>some ti59
 | 60=>some ti60
 | 61=>some ti61
 | 62=>some ti62
 | 63=>some ti63
 | 64=>some ti64
 | 65=>some ti65
 | 66=>some ti66
 | 67=>some ti67
 | 68=>some ti68
 | _=>none
theorem tt_3_ok:TTok Tryz.prog tt_3:=by
 intro ty i h
 unfold tt_3 at h
 split at h
 ·cases h;exact tok53
 ·cases h;exact tok54
 ·cases h;exact tok55
 ·cases h;exact tok56
 ·cases h;exact tok57
 ·cases h;exact tok58
 ·cases h;exact tok59
 ·cases h;exact tok60
 ·cases h;exact tok61
 ·cases h;exact tok62
 ·cases h;exact tok63
 ·cases h;exact tok64
 ·cases h;exact tok65
 ·cases h;exact tok66
 ·cases h;exact tok67
 ·cases h;exact tok68
 ·cases h
def tt_4:TypeId→Option TI
 | 69=>some ti69
 | 70=>some ti70
 | 71=>some ti71
 | 72=>some ti72
 | 73=>some ti73
 | 74=>some ti74
 | 75=>some ti75
 | 76=>some ti76
 | 77=>some ti77
 | 78=>some ti78
 | 79=>some ti79
 | 80=>some ti80
 | 81=>some ti81
 | 82=>some ti82
 | 83=>some ti83
 | 84=>some ti84
 | _=>none
theorem tt_4_ok:TTok Tryz.prog tt_4:=by
 intro ty i h
 unfold tt_4 at h
 split at h
 ·cases h;exact tok69
 ·cases h;exact tok70
 ·cases h;exact tok71
 ·cases h;exact tok72
 ·cases h;exact tok73
 ·cases h;exact tok74
 ·cases h;exact tok75
 ·cases h;exact tok76
 ·cases h;exact tok77
 ·cases h;exact tok78
 ·cases h;exact tok79
 ·cases h;exact tok80
 ·cases h;exact tok81
 ·cases h;exact tok82
 ·cases h;exact tok83
 ·cases h;exact tok84
 ·cases h
def tt_5:TypeId→Option TI
 | 85=>some ti85
 | 86=>some ti86
 | 87=>some ti87
 | 88=>some ti88
 | 89=>some ti89
 | 90=>some ti90
 | 91=>some ti91
 | 92=>some ti92
 | 93=>some ti93
 | 94=>some ti94
 | 95=>some ti95
 | 96=>some ti96
 | 97=>some ti97
 | 98=>some ti98
 | 99=>some ti99
 | 100=>some ti100
 | _=>none
theorem tt_5_ok:TTok Tryz.prog tt_5:=by
 intro ty i h
 unfold tt_5 at h
 split at h
 ·cases h;exact tok85
 ·cases h;exact tok86
 ·cases h;exact tok87
 ·cases h;exact tok88
 ·cases h;exact tok89
 ·cases h;exact tok90
 ·cases h;exact tok91
 ·cases h;exact tok92
 ·cases h;exact tok93
 ·cases h;exact tok94
 ·cases h;exact tok95
 ·cases h;exact tok96
 ·cases h;exact tok97
 ·cases h;exact tok98
 ·cases h;exact tok99
 ·cases h;exact tok100
 ·cases h
def tt_6:TypeId→Option TI
 | 101=>some ti101
 | 102=>some ti102
 | 103=>some ti103
 | 104=>some ti104
 | 105=>some ti105
 | 106=>some ti106
 | 107=>some ti107
 | 108=>some ti108
 | 109=>some ti109
 | 110=>some ti110
 | 111=>some ti111
 | 112=>some ti112
 | 113=>some ti113
 | 115=>some ti115
 | 116=>some ti116
 | 117=>some ti117
 | _=>none
theorem tt_6_ok:TTok Tryz.prog tt_6:=by
 intro ty i h
 unfold tt_6 at h
 split at h
 ·cases h;exact tok101
 ·cases h;exact tok102
 ·cases h;exact tok103
 ·cases h;exact tok104
 ·cases h;exact tok105
 ·cases h;exact tok106
 ·cases h;exact tok107
 ·cases h;exact tok108
 ·cases h;exact tok109
 ·cases h;exact tok110
 ·cases h;exact tok111
 ·cases h;exact tok112
 ·cases h;exact tok113
 ·cases h;exact tok115
 ·cases h;exact tok116
 ·cases h;exact tok117
 ·cases h
def tt_7:TypeId→Option TI
 | 118=>some ti118
 | 119=>some ti119
 | 120=>some ti120
 | 122=>some ti122
 | 123=>some ti123
 | 124=>some ti124
 | 125=>some ti125
 | 126=>some ti126
 | 128=>some ti128
 | 129=>some ti129
 | 130=>some ti130
 | 131=>some ti131
 | 132=>some ti132
 | 133=>some ti133
 | 134=>some ti134
 | 135=>some ti135
 | _=>none
theorem tt_7_ok:TTok Tryz.prog tt_7:=by
 intro ty i h
 unfold tt_7 at h
 split at h
 ·cases h;exact tok118
 ·cases h;exact tok119
 ·cases h;exact tok120
 ·cases h;exact tok122
 ·cases h;exact tok123
 ·cases h;exact tok124
 ·cases h;exact tok125
 ·cases h;exact tok126
 ·cases h;exact tok128
 ·cases h;exact tok129
 ·cases h;exact tok130
 ·cases h;exact tok131
 ·cases h;exact tok132
 ·cases h;exact tok133
 ·cases h;exact tok134
 ·cases h;exact tok135
 ·cases h
def tt_8:TypeId→Option TI
 | 136=>some ti136
 | 137=>some ti137
 | 138=>some ti138
 | 139=>some ti139
 | 140=>some ti140
 | 141=>some ti141
 | 142=>some ti142
 | 143=>some ti143
 | 145=>some ti145
 | 146=>some ti146
 | 147=>some ti147
 | 149=>some ti149
 | 151=>some ti151
 | 152=>some ti152
 | 153=>some ti153
 | 155=>some ti155
 | _=>none
theorem tt_8_ok:TTok Tryz.prog tt_8:=by
 intro ty i h
 unfold tt_8 at h
 split at h
 ·cases h;exact tok136
 ·cases h;exact tok137
 ·cases h;exact tok138
 ·cases h;exact tok139
 ·cases h;exact tok140
 ·cases h;exact tok141
 ·cases h;exact tok142
 ·cases h;exact tok143
 ·cases h;exact tok145
 ·cases h;exact tok146
 ·cases h;exact tok147
 ·cases h;exact tok149
 ·cases h;exact tok151
 ·cases h;exact tok152
 ·cases h;exact tok153
 ·cases h;exact tok155
 ·cases h
def tt_9:TypeId→Option TI
 | 156=>some ti156
 | 157=>some ti157
 | 158=>some ti158
 | 159=>some ti159
 | 160=>some ti160
 | 161=>some ti161
 | 162=>some ti162
 | 163=>some ti163
 | 164=>some ti164
 | 165=>some ti165
 | 166=>some ti166
 | 168=>some ti168
 | 169=>some ti169
 | 171=>some ti171
 | 172=>some ti172
 | 173=>some ti173
 | _=>none
theorem tt_9_ok:TTok Tryz.prog tt_9:=by
 intro ty i h
 unfold tt_9 at h
 split at h
 ·cases h;exact tok156
 ·cases h;exact tok157
 ·cases h;exact tok158
 ·cases h;exact tok159
 ·cases h;exact tok160
 ·cases h;exact tok161
 ·cases h;exact tok162
 ·cases h;exact tok163
 ·cases h;exact tok164
 ·cases h;exact tok165
 ·cases h;exact tok166
 ·cases h;exact tok168
 ·cases h;exact tok169
 ·cases h;exact tok171
 ·cases h;exact tok172
 ·cases h;exact tok173
 ·cases h
def tt_10:TypeId→Option TI
 | 174=>some ti174
 | 176=>some ti176
 | 177=>some ti177
 | 178=>some ti178
 | 179=>some ti179
 | 180=>some ti180
 | 181=>some ti181
 | 182=>some ti182
 | 183=>some ti183
 | 184=>some ti184
 | 185=>some ti185
 | 186=>some ti186
 | 187=>some ti187
 | 188=>some ti188
 | 190=>some ti190
 | 191=>some ti191
 | _=>none
theorem tt_10_ok:TTok Tryz.prog tt_10:=by
 intro ty i h
 unfold tt_10 at h
 split at h
 ·cases h;exact tok174
 ·cases h;exact tok176
 ·cases h;exact tok177
 ·cases h;exact tok178
 ·cases h;exact tok179
 ·cases h;exact tok180
 ·cases h;exact tok181
 ·cases h;exact tok182
 ·cases h;exact tok183
 ·cases h;exact tok184
 ·cases h;exact tok185
 ·cases h;exact tok186
 ·cases h;exact tok187
 ·cases h;exact tok188
 ·cases h;exact tok190
 ·cases h;exact tok191
 ·cases h
def tt_11:TypeId→Option TI
 | 192=>some ti192
 | 193=>some ti193
 | 194=>some ti194
 | 195=>some ti195
 | 196=>some ti196
 | 197=>some ti197
 | 198=>some ti198
 | 199=>some ti199
 | 200=>some ti200
 | 201=>some ti201
 | 202=>some ti202
 | 203=>some ti203
 | 204=>some ti204
 | 205=>some ti205
 | 206=>some ti206
 | 208=>some ti208
 | _=>none
theorem tt_11_ok:TTok Tryz.prog tt_11:=by
 intro ty i h
 unfold tt_11 at h
 split at h
 ·cases h;exact tok192
 ·cases h;exact tok193
 ·cases h;exact tok194
 ·cases h;exact tok195
 ·cases h;exact tok196
 ·cases h;exact tok197
 ·cases h;exact tok198
 ·cases h;exact tok199
 ·cases h;exact tok200
 ·cases h;exact tok201
 ·cases h;exact tok202
 ·cases h;exact tok203
 ·cases h;exact tok204
 ·cases h;exact tok205
 ·cases h;exact tok206
 ·cases h;exact tok208
 ·cases h
def tt_12:TypeId→Option TI
 | 209=>some ti209
 | 211=>some ti211
 | 212=>some ti212
 | 213=>some ti213
 | 214=>some ti214
 | 215=>some ti215
 | 216=>some ti216
 | 217=>some ti217
 | 218=>some ti218
 | 220=>some ti220
 | 221=>some ti221
 | 222=>some ti222
 | 223=>some ti223
 | 225=>some ti225
 | 226=>some ti226
 | 228=>some ti228
 | _=>none
theorem tt_12_ok:TTok Tryz.prog tt_12:=by
 intro ty i h
 unfold tt_12 at h
 split at h
 ·cases h;exact tok209
 ·cases h;exact tok211
 ·cases h;exact tok212
 ·cases h;exact tok213
 ·cases h;exact tok214
 ·cases h;exact tok215
 ·cases h;exact tok216
 ·cases h;exact tok217
 ·cases h;exact tok218
 ·cases h;exact tok220
 ·cases h;exact tok221
 ·cases h;exact tok222
 ·cases h;exact tok223
 ·cases h;exact tok225
 ·cases h;exact tok226
 ·cases h;exact tok228
 ·cases h
def tt_13:TypeId→Option TI
 | 229=>some ti229
 | 230=>some ti230
 | 232=>some ti232
 | 233=>some ti233
 | 234=>some ti234
 | 235=>some ti235
 | 236=>some ti236
 | 237=>some ti237
 | 238=>some ti238
 | 239=>some ti239
 | 240=>some ti240
 | 241=>some ti241
 | 242=>some ti242
 | 243=>some ti243
 | 244=>some ti244
 | 245=>some ti245
 | _=>none
theorem tt_13_ok:TTok Tryz.prog tt_13:=by
 intro ty i h
 unfold tt_13 at h
 split at h
 ·cases h;exact tok229
 ·cases h;exact tok230
 ·cases h;exact tok232
 ·cases h;exact tok233
 ·cases h;exact tok234
 ·cases h;exact tok235
 ·cases h;exact tok236
 ·cases h;exact tok237
 ·cases h;exact tok238
 ·cases h;exact tok239
 ·cases h;exact tok240
 ·cases h;exact tok241
 ·cases h;exact tok242
 ·cases h;exact tok243
 ·cases h;exact tok244
 ·cases h;exact tok245
 ·cases h
def tt_14:TypeId→Option TI
 | 247=>some ti247
 | 249=>some ti249
 | 250=>some ti250
 | 252=>some ti252
 | 253=>some ti253
 | 254=>some ti254
 | 255=>some ti255
 | 256=>some ti256
 | 257=>some ti257
 | 259=>some ti259
 | 260=>some ti260
 | 261=>some ti261
 | 262=>some ti262
 | 263=>some ti263
 | 265=>some ti265
 | 266=>some ti266
 | _=>none
theorem tt_14_ok:TTok Tryz.prog tt_14:=by
 intro ty i h
 unfold tt_14 at h
 split at h
 ·cases h;exact tok247
 ·cases h;exact tok249
 ·cases h;exact tok250
 ·cases h;exact tok252
 ·cases h;exact tok253
 ·cases h;exact tok254
 ·cases h;exact tok255
 ·cases h;exact tok256
 ·cases h;exact tok257
 ·cases h;exact tok259
 ·cases h;exact tok260
 ·cases h;exact tok261
 ·cases h;exact tok262
 ·cases h;exact tok263
 ·cases h;exact tok265
 ·cases h;exact tok266
 ·cases h
def tt_15:TypeId→Option TI
 | 268=>some ti268
 | 269=>some ti269
 | 270=>some ti270
 | 271=>some ti271
 | 272=>some ti272
 | 273=>some ti273
 | 274=>some ti274
 | 276=>some ti276
 | 277=>some ti277
 | 278=>some ti278
 | 279=>some ti279
 | 281=>some ti281
 | 282=>some ti282
 | 283=>some ti283
 | 284=>some ti284
 | 285=>some ti285
 | _=>none
theorem tt_15_ok:TTok Tryz.prog tt_15:=by
 intro ty i h
 unfold tt_15 at h
 split at h
 ·cases h;exact tok268
 ·cases h;exact tok269
 ·cases h;exact tok270
 ·cases h;exact tok271
 ·cases h;exact tok272
 ·cases h;exact tok273
 ·cases h;exact tok274
 ·cases h;exact tok276
 ·cases h;exact tok277
 ·cases h;exact tok278
 ·cases h;exact tok279
 ·cases h;exact tok281
 ·cases h;exact tok282
 ·cases h;exact tok283
 ·cases h;exact tok284
 ·cases h;exact tok285
 ·cases h
def tt_16:TypeId→Option TI
 | 286=>some ti286
 | 287=>some ti287
 | 289=>some ti289
 | 291=>some ti291
 | 292=>some ti292
 | 293=>some ti293
 | 295=>some ti295
 | 296=>some ti296
 | 297=>some ti297
 | 299=>some ti299
 | 300=>some ti300
 | 301=>some ti301
 | 302=>some ti302
 | 303=>some ti303
 | 304=>some ti304
 | 305=>some ti305
 | _=>none
theorem tt_16_ok:TTok Tryz.prog tt_16:=by
 intro ty i h
 unfold tt_16 at h
 split at h
 ·cases h;exact tok286
 ·cases h;exact tok287
 ·cases h;exact tok289
 ·cases h;exact tok291
 ·cases h;exact tok292
 ·cases h;exact tok293
 ·cases h;exact tok295
 ·cases h;exact tok296
 ·cases h;exact tok297
 ·cases h;exact tok299
 ·cases h;exact tok300
 ·cases h;exact tok301
 ·cases h;exact tok302
 ·cases h;exact tok303
 ·cases h;exact tok304
 ·cases h;exact tok305
 ·cases h
def tt_17:TypeId→Option TI
 | 306=>some ti306
 | 307=>some ti307
 | 308=>some ti308
 | 309=>some ti309
 | 310=>some ti310
 | 311=>some ti311
 | 312=>some ti312
 | 313=>some ti313
 | 314=>some ti314
 | 315=>some ti315
 | 316=>some ti316
 | 317=>some ti317
 | 318=>some ti318
 | 319=>some ti319
 | 320=>some ti320
 | 321=>some ti321
 | _=>none
theorem tt_17_ok:TTok Tryz.prog tt_17:=by
 intro ty i h
 unfold tt_17 at h
 split at h
 ·cases h;exact tok306
 ·cases h;exact tok307
 ·cases h;exact tok308
 ·cases h;exact tok309
 ·cases h;exact tok310
 ·cases h;exact tok311
 ·cases h;exact tok312
 ·cases h;exact tok313
 ·cases h;exact tok314
 ·cases h;exact tok315
 ·cases h;exact tok316
 ·cases h;exact tok317
 ·cases h;exact tok318
 ·cases h;exact tok319
 ·cases h;exact tok320
 ·cases h;exact tok321
 ·cases h
def tt_18:TypeId→Option TI
 | 322=>some ti322
 | _=>none
theorem tt_18_ok:TTok Tryz.prog tt_18:=by
 intro ty i h
 unfold tt_18 at h
 split at h
 ·cases h;exact tok322
 ·cases h
def tt (ty:TypeId):Option TI :=
 if Nat.ble ty 16 then tt_0 ty else
 if Nat.ble ty 34 then tt_1 ty else
 if Nat.ble ty 52 then tt_2 ty else
 if Nat.ble ty 68 then tt_3 ty else
 if Nat.ble ty 84 then tt_4 ty else
 if Nat.ble ty 100 then tt_5 ty else
 if Nat.ble ty 117 then tt_6 ty else
 if Nat.ble ty 135 then tt_7 ty else
 if Nat.ble ty 155 then tt_8 ty else
 if Nat.ble ty 173 then tt_9 ty else
 if Nat.ble ty 191 then tt_10 ty else
 if Nat.ble ty 208 then tt_11 ty else
 if Nat.ble ty 228 then tt_12 ty else
 if Nat.ble ty 245 then tt_13 ty else
 if Nat.ble ty 266 then tt_14 ty else
 if Nat.ble ty 285 then tt_15 ty else
 if Nat.ble ty 305 then tt_16 ty else
 if Nat.ble ty 321 then tt_17 ty else
 tt_18 ty
theorem tt_ok:TTok Tryz.prog tt:=by
 intro ty i h
 unfold tt at h
 by_cases h0:Nat.ble ty 16=true
 ·rw [if_pos h0] at h;exact tt_0_ok ty i h
 rw [if_neg h0] at h
 by_cases h1:Nat.ble ty 34=true
 ·rw [if_pos h1] at h;exact tt_1_ok ty i h
 rw [if_neg h1] at h
 by_cases h2:Nat.ble ty 52=true
 ·rw [if_pos h2] at h;exact tt_2_ok ty i h
 rw [if_neg h2] at h
 by_cases h3:Nat.ble ty 68=true
 ·rw [if_pos h3] at h;exact tt_3_ok ty i h
 rw [if_neg h3] at h
 by_cases h4:Nat.ble ty 84=true
 ·rw [if_pos h4] at h;exact tt_4_ok ty i h
 rw [if_neg h4] at h
 by_cases h5:Nat.ble ty 100=true
 ·rw [if_pos h5] at h;exact tt_5_ok ty i h
 rw [if_neg h5] at h
 by_cases h6:Nat.ble ty 117=true
 ·rw [if_pos h6] at h;exact tt_6_ok ty i h
 rw [if_neg h6] at h
 by_cases h7:Nat.ble ty 135=true
 ·rw [if_pos h7] at h;exact tt_7_ok ty i h
 rw [if_neg h7] at h
 by_cases h8:Nat.ble ty 155=true
 ·rw [if_pos h8] at h;exact tt_8_ok ty i h
 rw [if_neg h8] at h
 by_cases h9:Nat.ble ty 173=true
 ·rw [if_pos h9] at h;exact tt_9_ok ty i h
 rw [if_neg h9] at h
 by_cases h10:Nat.ble ty 191=true
 ·rw [if_pos h10] at h;exact tt_10_ok ty i h
 rw [if_neg h10] at h
 by_cases h11:Nat.ble ty 208=true
 ·rw [if_pos h11] at h;exact tt_11_ok ty i h
 rw [if_neg h11] at h
 by_cases h12:Nat.ble ty 228=true
 ·rw [if_pos h12] at h;exact tt_12_ok ty i h
 rw [if_neg h12] at h
 by_cases h13:Nat.ble ty 245=true
 ·rw [if_pos h13] at h;exact tt_13_ok ty i h
 rw [if_neg h13] at h
 by_cases h14:Nat.ble ty 266=true
 ·rw [if_pos h14] at h;exact tt_14_ok ty i h
 rw [if_neg h14] at h
 by_cases h15:Nat.ble ty 285=true
 ·rw [if_pos h15] at h;exact tt_15_ok ty i h
 rw [if_neg h15] at h
 by_cases h16:Nat.ble ty 305=true
 ·rw [if_pos h16] at h;exact tt_16_ok ty i h
 rw [if_neg h16] at h
 by_cases h17:Nat.ble ty 321=true
 ·rw [if_pos h17] at h;exact tt_17_ok ty i h
 rw [if_neg h17] at h
 exact tt_18_ok ty i h
theorem mixed:Tryz.prog.follows .mixedOrders=true:=by kernel_rfl
end Go.Proofs.YtkaakbpeegpnkaaGreatDoor
