/- The table of the types, printed by program. Where each function lies in the program, printed by program; no condition. -/
import Derived.Test.YtofllflnmmjijaaGreatDoorProg
import Derived.Test.YtofllflnmmjijaaGreatDoorP9
set_option maxRecDepth 100000
set_option maxHeartbeats 4000000
namespace Go.Proofs.YtofllflnmmjijaaGreatDoor
open Go Go.SX
def ti3:TI:={ row:=false,size:=1,zero:=#[.int .i64 0],kind:=4,ik:=.i64 }
def ti4:TI:={ row:=false,size:=1,zero:=#[.bool false],kind:=5 }
def ti5:TI:={ row:=false,size:=1,zero:=#[.int .u8 0],kind:=4,ik:=.u8 }
def ti7:TI:={ row:=true,size:=4,zero:=#[.int .i64 0,.int .i64 0,.bool false,.int .u8 0],kind:=1,fields:=[(0,2),(1,3),(2,4),(3,6)] }
def ti8:TI:={ row:=true,size:=4,zero:=#[.int .i64 0,.int .i64 0,.bool false,.int .u8 0],kind:=1,fields:=[(0,2),(1,3),(2,4),(3,6)] }
def ti9:TI:={ row:=false,size:=1,zero:=#[.string ByteArray.empty],kind:=0 }
def ti13:TI:={ row:=true,size:=2,zero:=#[.string ByteArray.empty,.int .u64 0],kind:=1,fields:=[(0,9),(1,12)] }
def ti14:TI:={ row:=true,size:=2,zero:=#[.string ByteArray.empty,.int .u64 0],kind:=1,fields:=[(0,9),(1,12)] }
def ti18:TI:={ row:=true,size:=1,zero:=#[.pointer none],kind:=1,fields:=[(0,17)] }
def ti19:TI:={ row:=true,size:=1,zero:=#[.pointer none],kind:=1,fields:=[(0,17)] }
def ti23:TI:={ row:=false,size:=1,zero:=#[.slice none 0 0],kind:=3,elem:=78 }
def ti24:TI:={ row:=true,size:=3,zero:=#[.slice none 0 0,.slice none 0 0,.slice none 0 0],kind:=1,fields:=[(0,22),(1,23),(2,23)] }
def ti25:TI:={ row:=true,size:=3,zero:=#[.slice none 0 0,.slice none 0 0,.slice none 0 0],kind:=1,fields:=[(0,22),(1,23),(2,23)] }
def ti26:TI:={ row:=false,size:=1,zero:=#[.slice none 0 0],kind:=3,elem:=80 }
def ti28:TI:={ row:=false,size:=1,zero:=#[.int .u32 0],kind:=4,ik:=.u32 }
def ti29:TI:={ row:=true,size:=32,zero:=(Array.replicate 32 (.int .u32 0)),kind:=2,len:=32,elem:=28 }
def ti30:TI:={ row:=true,size:=33,zero:=#[.bool false,.int .u32 0,.int .u32 0,.int .u32 0,.int .u32 0,.int .u32 0,.int .u32 0,.int .u32 0,.int .u32 0,.int .u32 0,.int .u32 0,.int .u32 0,.int .u32 0,.int .u32 0,.int .u32 0,.int .u32 0,.int .u32 0,.int .u32 0,.int .u32 0,.int .u32 0,.int .u32 0,.int .u32 0,.int .u32 0,.int .u32 0,.int .u32 0,.int .u32 0,.int .u32 0,.int .u32 0,.int .u32 0,.int .u32 0,.int .u32 0,.int .u32 0,.int .u32 0],kind:=1,fields:=[(0,4),(1,29)] }
def ti31:TI:={ row:=true,size:=33,zero:=#[.bool false,.int .u32 0,.int .u32 0,.int .u32 0,.int .u32 0,.int .u32 0,.int .u32 0,.int .u32 0,.int .u32 0,.int .u32 0,.int .u32 0,.int .u32 0,.int .u32 0,.int .u32 0,.int .u32 0,.int .u32 0,.int .u32 0,.int .u32 0,.int .u32 0,.int .u32 0,.int .u32 0,.int .u32 0,.int .u32 0,.int .u32 0,.int .u32 0,.int .u32 0,.int .u32 0,.int .u32 0,.int .u32 0,.int .u32 0,.int .u32 0,.int .u32 0,.int .u32 0],kind:=1,fields:=[(0,4),(1,29)] }
def ti32:TI:={ row:=true,size:=66,zero:=#[.bool false,.int .u32 0,.int .u32 0,.int .u32 0,.int .u32 0,.int .u32 0,.int .u32 0,.int .u32 0,.int .u32 0,.int .u32 0,.int .u32 0,.int .u32 0,.int .u32 0,.int .u32 0,.int .u32 0,.int .u32 0,.int .u32 0,.int .u32 0,.int .u32 0,.int .u32 0,.int .u32 0,.int .u32 0,.int .u32 0,.int .u32 0,.int .u32 0,.int .u32 0,.int .u32 0,.int .u32 0,.int .u32 0,.int .u32 0,.int .u32 0,.int .u32 0,.int .u32 0,.bool false,.int .u32 0,.int .u32 0,.int .u32 0,.int .u32 0,.int .u32 0,.int .u32 0,.int .u32 0,.int .u32 0,.int .u32 0,.int .u32 0,.int .u32 0,.int .u32 0,.int .u32 0,.int .u32 0,.int .u32 0,.int .u32 0,.int .u32 0,.int .u32 0,.int .u32 0,.int .u32 0,.int .u32 0,.int .u32 0,.int .u32 0,.int .u32 0,.int .u32 0,.int .u32 0,.int .u32 0,.int .u32 0,.int .u32 0,.int .u32 0,.int .u32 0,.int .u32 0],kind:=1,fields:=[(0,31),(33,31)] }
def ti33:TI:={ row:=true,size:=66,zero:=#[.bool false,.int .u32 0,.int .u32 0,.int .u32 0,.int .u32 0,.int .u32 0,.int .u32 0,.int .u32 0,.int .u32 0,.int .u32 0,.int .u32 0,.int .u32 0,.int .u32 0,.int .u32 0,.int .u32 0,.int .u32 0,.int .u32 0,.int .u32 0,.int .u32 0,.int .u32 0,.int .u32 0,.int .u32 0,.int .u32 0,.int .u32 0,.int .u32 0,.int .u32 0,.int .u32 0,.int .u32 0,.int .u32 0,.int .u32 0,.int .u32 0,.int .u32 0,.int .u32 0,.bool false,.int .u32 0,.int .u32 0,.int .u32 0,.int .u32 0,.int .u32 0,.int .u32 0,.int .u32 0,.int .u32 0,.int .u32 0,.int .u32 0,.int .u32 0,.int .u32 0,.int .u32 0,.int .u32 0,.int .u32 0,.int .u32 0,.int .u32 0,.int .u32 0,.int .u32 0,.int .u32 0,.int .u32 0,.int .u32 0,.int .u32 0,.int .u32 0,.int .u32 0,.int .u32 0,.int .u32 0,.int .u32 0,.int .u32 0,.int .u32 0,.int .u32 0,.int .u32 0],kind:=1,fields:=[(0,31),(33,31)] }
def ti34:TI:={ row:=true,size:=68,zero:=#[.slice none 0 0,.bool false,.int .u32 0,.int .u32 0,.int .u32 0,.int .u32 0,.int .u32 0,.int .u32 0,.int .u32 0,.int .u32 0,.int .u32 0,.int .u32 0,.int .u32 0,.int .u32 0,.int .u32 0,.int .u32 0,.int .u32 0,.int .u32 0,.int .u32 0,.int .u32 0,.int .u32 0,.int .u32 0,.int .u32 0,.int .u32 0,.int .u32 0,.int .u32 0,.int .u32 0,.int .u32 0,.int .u32 0,.int .u32 0,.int .u32 0,.int .u32 0,.int .u32 0,.int .u32 0,.bool false,.int .u32 0,.int .u32 0,.int .u32 0,.int .u32 0,.int .u32 0,.int .u32 0,.int .u32 0,.int .u32 0,.int .u32 0,.int .u32 0,.int .u32 0,.int .u32 0,.int .u32 0,.int .u32 0,.int .u32 0,.int .u32 0,.int .u32 0,.int .u32 0,.int .u32 0,.int .u32 0,.int .u32 0,.int .u32 0,.int .u32 0,.int .u32 0,.int .u32 0,.int .u32 0,.int .u32 0,.int .u32 0,.int .u32 0,.int .u32 0,.int .u32 0,.int .u32 0,.int .i64 0],kind:=1,fields:=[(0,27),(1,33),(67,3)] }
def ti35:TI:={ row:=true,size:=68,zero:=#[.slice none 0 0,.bool false,.int .u32 0,.int .u32 0,.int .u32 0,.int .u32 0,.int .u32 0,.int .u32 0,.int .u32 0,.int .u32 0,.int .u32 0,.int .u32 0,.int .u32 0,.int .u32 0,.int .u32 0,.int .u32 0,.int .u32 0,.int .u32 0,.int .u32 0,.int .u32 0,.int .u32 0,.int .u32 0,.int .u32 0,.int .u32 0,.int .u32 0,.int .u32 0,.int .u32 0,.int .u32 0,.int .u32 0,.int .u32 0,.int .u32 0,.int .u32 0,.int .u32 0,.int .u32 0,.bool false,.int .u32 0,.int .u32 0,.int .u32 0,.int .u32 0,.int .u32 0,.int .u32 0,.int .u32 0,.int .u32 0,.int .u32 0,.int .u32 0,.int .u32 0,.int .u32 0,.int .u32 0,.int .u32 0,.int .u32 0,.int .u32 0,.int .u32 0,.int .u32 0,.int .u32 0,.int .u32 0,.int .u32 0,.int .u32 0,.int .u32 0,.int .u32 0,.int .u32 0,.int .u32 0,.int .u32 0,.int .u32 0,.int .u32 0,.int .u32 0,.int .u32 0,.int .u32 0,.int .i64 0],kind:=1,fields:=[(0,27),(1,33),(67,3)] }
def ti38:TI:={ row:=true,size:=78,zero:=#[.string ByteArray.empty,.string ByteArray.empty,.int .i64 0,.int .i64 0,.slice none 0 0,.slice none 0 0,.slice none 0 0,.slice none 0 0,.slice none 0 0,.bool false,.int .u32 0,.int .u32 0,.int .u32 0,.int .u32 0,.int .u32 0,.int .u32 0,.int .u32 0,.int .u32 0,.int .u32 0,.int .u32 0,.int .u32 0,.int .u32 0,.int .u32 0,.int .u32 0,.int .u32 0,.int .u32 0,.int .u32 0,.int .u32 0,.int .u32 0,.int .u32 0,.int .u32 0,.int .u32 0,.int .u32 0,.int .u32 0,.int .u32 0,.int .u32 0,.int .u32 0,.int .u32 0,.int .u32 0,.int .u32 0,.int .u32 0,.int .u32 0,.bool false,.int .u32 0,.int .u32 0,.int .u32 0,.int .u32 0,.int .u32 0,.int .u32 0,.int .u32 0,.int .u32 0,.int .u32 0,.int .u32 0,.int .u32 0,.int .u32 0,.int .u32 0,.int .u32 0,.int .u32 0,.int .u32 0,.int .u32 0,.int .u32 0,.int .u32 0,.int .u32 0,.int .u32 0,.int .u32 0,.int .u32 0,.int .u32 0,.int .u32 0,.int .u32 0,.int .u32 0,.int .u32 0,.int .u32 0,.int .u32 0,.int .u32 0,.int .u32 0,.int .i64 0,.slice none 0 0,.slice none 0 0],kind:=1,fields:=[(0,9),(1,9),(2,3),(3,3),(4,25),(7,26),(8,35),(76,36),(77,37)] }
def ti39:TI:={ row:=true,size:=78,zero:=#[.string ByteArray.empty,.string ByteArray.empty,.int .i64 0,.int .i64 0,.slice none 0 0,.slice none 0 0,.slice none 0 0,.slice none 0 0,.slice none 0 0,.bool false,.int .u32 0,.int .u32 0,.int .u32 0,.int .u32 0,.int .u32 0,.int .u32 0,.int .u32 0,.int .u32 0,.int .u32 0,.int .u32 0,.int .u32 0,.int .u32 0,.int .u32 0,.int .u32 0,.int .u32 0,.int .u32 0,.int .u32 0,.int .u32 0,.int .u32 0,.int .u32 0,.int .u32 0,.int .u32 0,.int .u32 0,.int .u32 0,.int .u32 0,.int .u32 0,.int .u32 0,.int .u32 0,.int .u32 0,.int .u32 0,.int .u32 0,.int .u32 0,.bool false,.int .u32 0,.int .u32 0,.int .u32 0,.int .u32 0,.int .u32 0,.int .u32 0,.int .u32 0,.int .u32 0,.int .u32 0,.int .u32 0,.int .u32 0,.int .u32 0,.int .u32 0,.int .u32 0,.int .u32 0,.int .u32 0,.int .u32 0,.int .u32 0,.int .u32 0,.int .u32 0,.int .u32 0,.int .u32 0,.int .u32 0,.int .u32 0,.int .u32 0,.int .u32 0,.int .u32 0,.int .u32 0,.int .u32 0,.int .u32 0,.int .u32 0,.int .u32 0,.int .i64 0,.slice none 0 0,.slice none 0 0],kind:=1,fields:=[(0,9),(1,9),(2,3),(3,3),(4,25),(7,26),(8,35),(76,36),(77,37)] }
def ti41:TI:={ row:=true,size:=5,zero:=#[.string ByteArray.empty,.int .i64 0,.int .i64 0,.slice none 0 0,.int .i64 0],kind:=1,fields:=[(0,9),(1,3),(2,3),(3,40),(4,3)] }
def ti42:TI:={ row:=true,size:=5,zero:=#[.string ByteArray.empty,.int .i64 0,.int .i64 0,.slice none 0 0,.int .i64 0],kind:=1,fields:=[(0,9),(1,3),(2,3),(3,40),(4,3)] }
def ti59:TI:={ row:=true,size:=137,zero:=#[.int .i64 0,.string ByteArray.empty,.int .i64 0,.int .i64 0,.bool false,.int .u32 0,.int .u32 0,.int .u32 0,.int .u32 0,.int .u32 0,.int .u32 0,.int .u32 0,.int .u32 0,.int .u32 0,.int .u32 0,.int .u32 0,.int .u32 0,.int .u32 0,.int .u32 0,.int .u32 0,.int .u32 0,.int .u32 0,.int .u32 0,.int .u32 0,.int .u32 0,.int .u32 0,.int .u32 0,.int .u32 0,.int .u32 0,.int .u32 0,.int .u32 0,.int .u32 0,.int .u32 0,.int .u32 0,.int .u32 0,.int .u32 0,.int .u32 0,.bool false,.int .u32 0,.int .u32 0,.int .u32 0,.int .u32 0,.int .u32 0,.int .u32 0,.int .u32 0,.int .u32 0,.int .u32 0,.int .u32 0,.int .u32 0,.int .u32 0,.int .u32 0,.int .u32 0,.int .u32 0,.int .u32 0,.int .u32 0,.int .u32 0,.int .u32 0,.int .u32 0,.int .u32 0,.int .u32 0,.int .u32 0,.int .u32 0,.int .u32 0,.int .u32 0,.int .u32 0,.int .u32 0,.int .u32 0,.int .u32 0,.int .u32 0,.int .u32 0,.bool false,.int .u32 0,.int .u32 0,.int .u32 0,.int .u32 0,.int .u32 0,.int .u32 0,.int .u32 0,.int .u32 0,.int .u32 0,.int .u32 0,.int .u32 0,.int .u32 0,.int .u32 0,.int .u32 0,.int .u32 0,.int .u32 0,.int .u32 0,.int .u32 0,.int .u32 0,.int .u32 0,.int .u32 0,.int .u32 0,.int .u32 0,.int .u32 0,.int .u32 0,.int .u32 0,.int .u32 0,.int .u32 0,.int .u32 0,.int .u32 0,.int .u32 0,.int .u32 0,.bool false,.int .u32 0,.int .u32 0,.int .u32 0,.int .u32 0,.int .u32 0,.int .u32 0,.int .u32 0,.int .u32 0,.int .u32 0,.int .u32 0,.int .u32 0,.int .u32 0,.int .u32 0,.int .u32 0,.int .u32 0,.int .u32 0,.int .u32 0,.int .u32 0,.int .u32 0,.int .u32 0,.int .u32 0,.int .u32 0,.int .u32 0,.int .u32 0,.int .u32 0,.int .u32 0,.int .u32 0,.int .u32 0,.int .u32 0,.int .u32 0,.int .u32 0,.int .u32 0,.int .i64 0],kind:=1,fields:=[(0,3),(1,9),(2,3),(3,3),(4,33),(70,33),(136,3)] }
def ti60:TI:={ row:=true,size:=137,zero:=#[.int .i64 0,.string ByteArray.empty,.int .i64 0,.int .i64 0,.bool false,.int .u32 0,.int .u32 0,.int .u32 0,.int .u32 0,.int .u32 0,.int .u32 0,.int .u32 0,.int .u32 0,.int .u32 0,.int .u32 0,.int .u32 0,.int .u32 0,.int .u32 0,.int .u32 0,.int .u32 0,.int .u32 0,.int .u32 0,.int .u32 0,.int .u32 0,.int .u32 0,.int .u32 0,.int .u32 0,.int .u32 0,.int .u32 0,.int .u32 0,.int .u32 0,.int .u32 0,.int .u32 0,.int .u32 0,.int .u32 0,.int .u32 0,.int .u32 0,.bool false,.int .u32 0,.int .u32 0,.int .u32 0,.int .u32 0,.int .u32 0,.int .u32 0,.int .u32 0,.int .u32 0,.int .u32 0,.int .u32 0,.int .u32 0,.int .u32 0,.int .u32 0,.int .u32 0,.int .u32 0,.int .u32 0,.int .u32 0,.int .u32 0,.int .u32 0,.int .u32 0,.int .u32 0,.int .u32 0,.int .u32 0,.int .u32 0,.int .u32 0,.int .u32 0,.int .u32 0,.int .u32 0,.int .u32 0,.int .u32 0,.int .u32 0,.int .u32 0,.bool false,.int .u32 0,.int .u32 0,.int .u32 0,.int .u32 0,.int .u32 0,.int .u32 0,.int .u32 0,.int .u32 0,.int .u32 0,.int .u32 0,.int .u32 0,.int .u32 0,.int .u32 0,.int .u32 0,.int .u32 0,.int .u32 0,.int .u32 0,.int .u32 0,.int .u32 0,.int .u32 0,.int .u32 0,.int .u32 0,.int .u32 0,.int .u32 0,.int .u32 0,.int .u32 0,.int .u32 0,.int .u32 0,.int .u32 0,.int .u32 0,.int .u32 0,.int .u32 0,.bool false,.int .u32 0,.int .u32 0,.int .u32 0,.int .u32 0,.int .u32 0,.int .u32 0,.int .u32 0,.int .u32 0,.int .u32 0,.int .u32 0,.int .u32 0,.int .u32 0,.int .u32 0,.int .u32 0,.int .u32 0,.int .u32 0,.int .u32 0,.int .u32 0,.int .u32 0,.int .u32 0,.int .u32 0,.int .u32 0,.int .u32 0,.int .u32 0,.int .u32 0,.int .u32 0,.int .u32 0,.int .u32 0,.int .u32 0,.int .u32 0,.int .u32 0,.int .u32 0,.int .i64 0],kind:=1,fields:=[(0,3),(1,9),(2,3),(3,3),(4,33),(70,33),(136,3)] }
def ti70:TI:={ row:=true,size:=136,zero:=#[.string ByteArray.empty,.bool false,.int .u32 0,.int .u32 0,.int .u32 0,.int .u32 0,.int .u32 0,.int .u32 0,.int .u32 0,.int .u32 0,.int .u32 0,.int .u32 0,.int .u32 0,.int .u32 0,.int .u32 0,.int .u32 0,.int .u32 0,.int .u32 0,.int .u32 0,.int .u32 0,.int .u32 0,.int .u32 0,.int .u32 0,.int .u32 0,.int .u32 0,.int .u32 0,.int .u32 0,.int .u32 0,.int .u32 0,.int .u32 0,.int .u32 0,.int .u32 0,.int .u32 0,.int .u32 0,.bool false,.int .u32 0,.int .u32 0,.int .u32 0,.int .u32 0,.int .u32 0,.int .u32 0,.int .u32 0,.int .u32 0,.int .u32 0,.int .u32 0,.int .u32 0,.int .u32 0,.int .u32 0,.int .u32 0,.int .u32 0,.int .u32 0,.int .u32 0,.int .u32 0,.int .u32 0,.int .u32 0,.int .u32 0,.int .u32 0,.int .u32 0,.int .u32 0,.int .u32 0,.int .u32 0,.int .u32 0,.int .u32 0,.int .u32 0,.int .u32 0,.int .u32 0,.int .u32 0,.int .i64 0,.bool false,.int .u32 0,.int .u32 0,.int .u32 0,.int .u32 0,.int .u32 0,.int .u32 0,.int .u32 0,.int .u32 0,.int .u32 0,.int .u32 0,.int .u32 0,.int .u32 0,.int .u32 0,.int .u32 0,.int .u32 0,.int .u32 0,.int .u32 0,.int .u32 0,.int .u32 0,.int .u32 0,.int .u32 0,.int .u32 0,.int .u32 0,.int .u32 0,.int .u32 0,.int .u32 0,.int .u32 0,.int .u32 0,.int .u32 0,.int .u32 0,.int .u32 0,.int .u32 0,.bool false,.int .u32 0,.int .u32 0,.int .u32 0,.int .u32 0,.int .u32 0,.int .u32 0,.int .u32 0,.int .u32 0,.int .u32 0,.int .u32 0,.int .u32 0,.int .u32 0,.int .u32 0,.int .u32 0,.int .u32 0,.int .u32 0,.int .u32 0,.int .u32 0,.int .u32 0,.int .u32 0,.int .u32 0,.int .u32 0,.int .u32 0,.int .u32 0,.int .u32 0,.int .u32 0,.int .u32 0,.int .u32 0,.int .u32 0,.int .u32 0,.int .u32 0,.int .u32 0,.int .i64 0,.int .i64 0],kind:=1,fields:=[(0,9),(1,33),(67,3),(68,33),(134,3),(135,3)] }
def ti71:TI:={ row:=true,size:=136,zero:=#[.string ByteArray.empty,.bool false,.int .u32 0,.int .u32 0,.int .u32 0,.int .u32 0,.int .u32 0,.int .u32 0,.int .u32 0,.int .u32 0,.int .u32 0,.int .u32 0,.int .u32 0,.int .u32 0,.int .u32 0,.int .u32 0,.int .u32 0,.int .u32 0,.int .u32 0,.int .u32 0,.int .u32 0,.int .u32 0,.int .u32 0,.int .u32 0,.int .u32 0,.int .u32 0,.int .u32 0,.int .u32 0,.int .u32 0,.int .u32 0,.int .u32 0,.int .u32 0,.int .u32 0,.int .u32 0,.bool false,.int .u32 0,.int .u32 0,.int .u32 0,.int .u32 0,.int .u32 0,.int .u32 0,.int .u32 0,.int .u32 0,.int .u32 0,.int .u32 0,.int .u32 0,.int .u32 0,.int .u32 0,.int .u32 0,.int .u32 0,.int .u32 0,.int .u32 0,.int .u32 0,.int .u32 0,.int .u32 0,.int .u32 0,.int .u32 0,.int .u32 0,.int .u32 0,.int .u32 0,.int .u32 0,.int .u32 0,.int .u32 0,.int .u32 0,.int .u32 0,.int .u32 0,.int .u32 0,.int .i64 0,.bool false,.int .u32 0,.int .u32 0,.int .u32 0,.int .u32 0,.int .u32 0,.int .u32 0,.int .u32 0,.int .u32 0,.int .u32 0,.int .u32 0,.int .u32 0,.int .u32 0,.int .u32 0,.int .u32 0,.int .u32 0,.int .u32 0,.int .u32 0,.int .u32 0,.int .u32 0,.int .u32 0,.int .u32 0,.int .u32 0,.int .u32 0,.int .u32 0,.int .u32 0,.int .u32 0,.int .u32 0,.int .u32 0,.int .u32 0,.int .u32 0,.int .u32 0,.int .u32 0,.bool false,.int .u32 0,.int .u32 0,.int .u32 0,.int .u32 0,.int .u32 0,.int .u32 0,.int .u32 0,.int .u32 0,.int .u32 0,.int .u32 0,.int .u32 0,.int .u32 0,.int .u32 0,.int .u32 0,.int .u32 0,.int .u32 0,.int .u32 0,.int .u32 0,.int .u32 0,.int .u32 0,.int .u32 0,.int .u32 0,.int .u32 0,.int .u32 0,.int .u32 0,.int .u32 0,.int .u32 0,.int .u32 0,.int .u32 0,.int .u32 0,.int .u32 0,.int .u32 0,.int .i64 0,.int .i64 0],kind:=1,fields:=[(0,9),(1,33),(67,3),(68,33),(134,3),(135,3)] }
def ti75:TI:={ row:=true,size:=2,zero:=#[.string ByteArray.empty,.int .i64 0],kind:=1,fields:=[(0,9),(1,3)] }
def ti76:TI:={ row:=true,size:=2,zero:=#[.string ByteArray.empty,.int .i64 0],kind:=1,fields:=[(0,9),(1,3)] }
def ti77:TI:={ row:=true,size:=3,zero:=#[.string ByteArray.empty,.int .i64 0,.int .i64 0],kind:=1,fields:=[(0,9),(1,3),(2,3)] }
def ti78:TI:={ row:=true,size:=3,zero:=#[.string ByteArray.empty,.int .i64 0,.int .i64 0],kind:=1,fields:=[(0,9),(1,3),(2,3)] }
def ti79:TI:={ row:=true,size:=72,zero:=#[.string ByteArray.empty,.string ByteArray.empty,.string ByteArray.empty,.int .i64 0,.bool false,.int .u32 0,.int .u32 0,.int .u32 0,.int .u32 0,.int .u32 0,.int .u32 0,.int .u32 0,.int .u32 0,.int .u32 0,.int .u32 0,.int .u32 0,.int .u32 0,.int .u32 0,.int .u32 0,.int .u32 0,.int .u32 0,.int .u32 0,.int .u32 0,.int .u32 0,.int .u32 0,.int .u32 0,.int .u32 0,.int .u32 0,.int .u32 0,.int .u32 0,.int .u32 0,.int .u32 0,.int .u32 0,.int .u32 0,.int .u32 0,.int .u32 0,.int .u32 0,.bool false,.int .u32 0,.int .u32 0,.int .u32 0,.int .u32 0,.int .u32 0,.int .u32 0,.int .u32 0,.int .u32 0,.int .u32 0,.int .u32 0,.int .u32 0,.int .u32 0,.int .u32 0,.int .u32 0,.int .u32 0,.int .u32 0,.int .u32 0,.int .u32 0,.int .u32 0,.int .u32 0,.int .u32 0,.int .u32 0,.int .u32 0,.int .u32 0,.int .u32 0,.int .u32 0,.int .u32 0,.int .u32 0,.int .u32 0,.int .u32 0,.int .u32 0,.int .u32 0,.int .i64 0,.bool false],kind:=1,fields:=[(0,9),(1,9),(2,9),(3,3),(4,33),(70,3),(71,4)] }
def ti80:TI:={ row:=true,size:=72,zero:=#[.string ByteArray.empty,.string ByteArray.empty,.string ByteArray.empty,.int .i64 0,.bool false,.int .u32 0,.int .u32 0,.int .u32 0,.int .u32 0,.int .u32 0,.int .u32 0,.int .u32 0,.int .u32 0,.int .u32 0,.int .u32 0,.int .u32 0,.int .u32 0,.int .u32 0,.int .u32 0,.int .u32 0,.int .u32 0,.int .u32 0,.int .u32 0,.int .u32 0,.int .u32 0,.int .u32 0,.int .u32 0,.int .u32 0,.int .u32 0,.int .u32 0,.int .u32 0,.int .u32 0,.int .u32 0,.int .u32 0,.int .u32 0,.int .u32 0,.int .u32 0,.bool false,.int .u32 0,.int .u32 0,.int .u32 0,.int .u32 0,.int .u32 0,.int .u32 0,.int .u32 0,.int .u32 0,.int .u32 0,.int .u32 0,.int .u32 0,.int .u32 0,.int .u32 0,.int .u32 0,.int .u32 0,.int .u32 0,.int .u32 0,.int .u32 0,.int .u32 0,.int .u32 0,.int .u32 0,.int .u32 0,.int .u32 0,.int .u32 0,.int .u32 0,.int .u32 0,.int .u32 0,.int .u32 0,.int .u32 0,.int .u32 0,.int .u32 0,.int .u32 0,.int .i64 0,.bool false],kind:=1,fields:=[(0,9),(1,9),(2,9),(3,3),(4,33),(70,3),(71,4)] }
def ti96:TI:={ row:=true,size:=2,zero:=#[.string ByteArray.empty,.int .i64 0],kind:=1,fields:=[(0,9),(1,3)] }
def ti97:TI:={ row:=true,size:=4,zero:=#[.string ByteArray.empty,.int .i64 0,.int .i64 0,.int .i64 0],kind:=1,fields:=[(0,78),(3,3)] }
def ti98:TI:={ row:=true,size:=4,zero:=#[.string ByteArray.empty,.int .i64 0,.int .i64 0,.int .i64 0],kind:=1,fields:=[(0,78),(3,3)] }
def ti99:TI:={ row:=true,size:=136,zero:=#[.string ByteArray.empty,.bool false,.int .u32 0,.int .u32 0,.int .u32 0,.int .u32 0,.int .u32 0,.int .u32 0,.int .u32 0,.int .u32 0,.int .u32 0,.int .u32 0,.int .u32 0,.int .u32 0,.int .u32 0,.int .u32 0,.int .u32 0,.int .u32 0,.int .u32 0,.int .u32 0,.int .u32 0,.int .u32 0,.int .u32 0,.int .u32 0,.int .u32 0,.int .u32 0,.int .u32 0,.int .u32 0,.int .u32 0,.int .u32 0,.int .u32 0,.int .u32 0,.int .u32 0,.int .u32 0,.bool false,.int .u32 0,.int .u32 0,.int .u32 0,.int .u32 0,.int .u32 0,.int .u32 0,.int .u32 0,.int .u32 0,.int .u32 0,.int .u32 0,.int .u32 0,.int .u32 0,.int .u32 0,.int .u32 0,.int .u32 0,.int .u32 0,.int .u32 0,.int .u32 0,.int .u32 0,.int .u32 0,.int .u32 0,.int .u32 0,.int .u32 0,.int .u32 0,.int .u32 0,.int .u32 0,.int .u32 0,.int .u32 0,.int .u32 0,.int .u32 0,.int .u32 0,.int .u32 0,.int .i64 0,.bool false,.int .u32 0,.int .u32 0,.int .u32 0,.int .u32 0,.int .u32 0,.int .u32 0,.int .u32 0,.int .u32 0,.int .u32 0,.int .u32 0,.int .u32 0,.int .u32 0,.int .u32 0,.int .u32 0,.int .u32 0,.int .u32 0,.int .u32 0,.int .u32 0,.int .u32 0,.int .u32 0,.int .u32 0,.int .u32 0,.int .u32 0,.int .u32 0,.int .u32 0,.int .u32 0,.int .u32 0,.int .u32 0,.int .u32 0,.int .u32 0,.int .u32 0,.int .u32 0,.bool false,.int .u32 0,.int .u32 0,.int .u32 0,.int .u32 0,.int .u32 0,.int .u32 0,.int .u32 0,.int .u32 0,.int .u32 0,.int .u32 0,.int .u32 0,.int .u32 0,.int .u32 0,.int .u32 0,.int .u32 0,.int .u32 0,.int .u32 0,.int .u32 0,.int .u32 0,.int .u32 0,.int .u32 0,.int .u32 0,.int .u32 0,.int .u32 0,.int .u32 0,.int .u32 0,.int .u32 0,.int .u32 0,.int .u32 0,.int .u32 0,.int .u32 0,.int .u32 0,.int .i64 0,.int .i64 0],kind:=1,fields:=[(0,9),(1,33),(67,3),(68,33),(134,3),(135,3)] }
def ti100:TI:={ row:=true,size:=71,zero:=#[.slice none 0 0,.slice none 0 0,.bool false,.int .u32 0,.int .u32 0,.int .u32 0,.int .u32 0,.int .u32 0,.int .u32 0,.int .u32 0,.int .u32 0,.int .u32 0,.int .u32 0,.int .u32 0,.int .u32 0,.int .u32 0,.int .u32 0,.int .u32 0,.int .u32 0,.int .u32 0,.int .u32 0,.int .u32 0,.int .u32 0,.int .u32 0,.int .u32 0,.int .u32 0,.int .u32 0,.int .u32 0,.int .u32 0,.int .u32 0,.int .u32 0,.int .u32 0,.int .u32 0,.int .u32 0,.int .u32 0,.bool false,.int .u32 0,.int .u32 0,.int .u32 0,.int .u32 0,.int .u32 0,.int .u32 0,.int .u32 0,.int .u32 0,.int .u32 0,.int .u32 0,.int .u32 0,.int .u32 0,.int .u32 0,.int .u32 0,.int .u32 0,.int .u32 0,.int .u32 0,.int .u32 0,.int .u32 0,.int .u32 0,.int .u32 0,.int .u32 0,.int .u32 0,.int .u32 0,.int .u32 0,.int .u32 0,.int .u32 0,.int .u32 0,.int .u32 0,.int .u32 0,.int .u32 0,.int .u32 0,.int .i64 0,.int .i64 0,.int .i64 0],kind:=1,fields:=[(0,26),(1,35),(69,3),(70,3)] }
def ti101:TI:={ row:=true,size:=71,zero:=#[.slice none 0 0,.slice none 0 0,.bool false,.int .u32 0,.int .u32 0,.int .u32 0,.int .u32 0,.int .u32 0,.int .u32 0,.int .u32 0,.int .u32 0,.int .u32 0,.int .u32 0,.int .u32 0,.int .u32 0,.int .u32 0,.int .u32 0,.int .u32 0,.int .u32 0,.int .u32 0,.int .u32 0,.int .u32 0,.int .u32 0,.int .u32 0,.int .u32 0,.int .u32 0,.int .u32 0,.int .u32 0,.int .u32 0,.int .u32 0,.int .u32 0,.int .u32 0,.int .u32 0,.int .u32 0,.int .u32 0,.bool false,.int .u32 0,.int .u32 0,.int .u32 0,.int .u32 0,.int .u32 0,.int .u32 0,.int .u32 0,.int .u32 0,.int .u32 0,.int .u32 0,.int .u32 0,.int .u32 0,.int .u32 0,.int .u32 0,.int .u32 0,.int .u32 0,.int .u32 0,.int .u32 0,.int .u32 0,.int .u32 0,.int .u32 0,.int .u32 0,.int .u32 0,.int .u32 0,.int .u32 0,.int .u32 0,.int .u32 0,.int .u32 0,.int .u32 0,.int .u32 0,.int .u32 0,.int .u32 0,.int .i64 0,.int .i64 0,.int .i64 0],kind:=1,fields:=[(0,26),(1,35),(69,3),(70,3)] }
def ti114:TI:={ row:=true,size:=2,zero:=#[.string ByteArray.empty,.int .i64 0],kind:=1,fields:=[(0,9),(1,3)] }
def ti115:TI:={ row:=true,size:=2,zero:=#[.string ByteArray.empty,.int .i64 0],kind:=1,fields:=[(0,9),(1,3)] }
def ti126:TI:={ row:=true,size:=68,zero:=#[.string ByteArray.empty,.string ByteArray.empty,.bool false,.int .u32 0,.int .u32 0,.int .u32 0,.int .u32 0,.int .u32 0,.int .u32 0,.int .u32 0,.int .u32 0,.int .u32 0,.int .u32 0,.int .u32 0,.int .u32 0,.int .u32 0,.int .u32 0,.int .u32 0,.int .u32 0,.int .u32 0,.int .u32 0,.int .u32 0,.int .u32 0,.int .u32 0,.int .u32 0,.int .u32 0,.int .u32 0,.int .u32 0,.int .u32 0,.int .u32 0,.int .u32 0,.int .u32 0,.int .u32 0,.int .u32 0,.int .u32 0,.bool false,.int .u32 0,.int .u32 0,.int .u32 0,.int .u32 0,.int .u32 0,.int .u32 0,.int .u32 0,.int .u32 0,.int .u32 0,.int .u32 0,.int .u32 0,.int .u32 0,.int .u32 0,.int .u32 0,.int .u32 0,.int .u32 0,.int .u32 0,.int .u32 0,.int .u32 0,.int .u32 0,.int .u32 0,.int .u32 0,.int .u32 0,.int .u32 0,.int .u32 0,.int .u32 0,.int .u32 0,.int .u32 0,.int .u32 0,.int .u32 0,.int .u32 0,.int .u32 0],kind:=1,fields:=[(0,9),(1,9),(2,33)] }
def ti127:TI:={ row:=true,size:=68,zero:=#[.string ByteArray.empty,.string ByteArray.empty,.bool false,.int .u32 0,.int .u32 0,.int .u32 0,.int .u32 0,.int .u32 0,.int .u32 0,.int .u32 0,.int .u32 0,.int .u32 0,.int .u32 0,.int .u32 0,.int .u32 0,.int .u32 0,.int .u32 0,.int .u32 0,.int .u32 0,.int .u32 0,.int .u32 0,.int .u32 0,.int .u32 0,.int .u32 0,.int .u32 0,.int .u32 0,.int .u32 0,.int .u32 0,.int .u32 0,.int .u32 0,.int .u32 0,.int .u32 0,.int .u32 0,.int .u32 0,.int .u32 0,.bool false,.int .u32 0,.int .u32 0,.int .u32 0,.int .u32 0,.int .u32 0,.int .u32 0,.int .u32 0,.int .u32 0,.int .u32 0,.int .u32 0,.int .u32 0,.int .u32 0,.int .u32 0,.int .u32 0,.int .u32 0,.int .u32 0,.int .u32 0,.int .u32 0,.int .u32 0,.int .u32 0,.int .u32 0,.int .u32 0,.int .u32 0,.int .u32 0,.int .u32 0,.int .u32 0,.int .u32 0,.int .u32 0,.int .u32 0,.int .u32 0,.int .u32 0,.int .u32 0],kind:=1,fields:=[(0,9),(1,9),(2,33)] }
def ti134:TI:={ row:=true,size:=68,zero:=#[.string ByteArray.empty,.bool false,.int .u32 0,.int .u32 0,.int .u32 0,.int .u32 0,.int .u32 0,.int .u32 0,.int .u32 0,.int .u32 0,.int .u32 0,.int .u32 0,.int .u32 0,.int .u32 0,.int .u32 0,.int .u32 0,.int .u32 0,.int .u32 0,.int .u32 0,.int .u32 0,.int .u32 0,.int .u32 0,.int .u32 0,.int .u32 0,.int .u32 0,.int .u32 0,.int .u32 0,.int .u32 0,.int .u32 0,.int .u32 0,.int .u32 0,.int .u32 0,.int .u32 0,.int .u32 0,.bool false,.int .u32 0,.int .u32 0,.int .u32 0,.int .u32 0,.int .u32 0,.int .u32 0,.int .u32 0,.int .u32 0,.int .u32 0,.int .u32 0,.int .u32 0,.int .u32 0,.int .u32 0,.int .u32 0,.int .u32 0,.int .u32 0,.int .u32 0,.int .u32 0,.int .u32 0,.int .u32 0,.int .u32 0,.int .u32 0,.int .u32 0,.int .u32 0,.int .u32 0,.int .u32 0,.int .u32 0,.int .u32 0,.int .u32 0,.int .u32 0,.int .u32 0,.int .u32 0,.int .i64 0],kind:=1,fields:=[(0,9),(1,33),(67,3)] }
def ti135:TI:={ row:=true,size:=68,zero:=#[.string ByteArray.empty,.bool false,.int .u32 0,.int .u32 0,.int .u32 0,.int .u32 0,.int .u32 0,.int .u32 0,.int .u32 0,.int .u32 0,.int .u32 0,.int .u32 0,.int .u32 0,.int .u32 0,.int .u32 0,.int .u32 0,.int .u32 0,.int .u32 0,.int .u32 0,.int .u32 0,.int .u32 0,.int .u32 0,.int .u32 0,.int .u32 0,.int .u32 0,.int .u32 0,.int .u32 0,.int .u32 0,.int .u32 0,.int .u32 0,.int .u32 0,.int .u32 0,.int .u32 0,.int .u32 0,.bool false,.int .u32 0,.int .u32 0,.int .u32 0,.int .u32 0,.int .u32 0,.int .u32 0,.int .u32 0,.int .u32 0,.int .u32 0,.int .u32 0,.int .u32 0,.int .u32 0,.int .u32 0,.int .u32 0,.int .u32 0,.int .u32 0,.int .u32 0,.int .u32 0,.int .u32 0,.int .u32 0,.int .u32 0,.int .u32 0,.int .u32 0,.int .u32 0,.int .u32 0,.int .u32 0,.int .u32 0,.int .u32 0,.int .u32 0,.int .u32 0,.int .u32 0,.int .u32 0,.int .i64 0],kind:=1,fields:=[(0,9),(1,33),(67,3)] }
def ti149:TI:={ row:=true,size:=32,zero:=(Array.replicate 32 (.int .u32 0)),kind:=2,len:=32,elem:=28 }
def ti153:TI:={ row:=true,size:=64,zero:=(Array.replicate 64 (.int .u32 0)),kind:=2,len:=64,elem:=28 }
def ti160:TI:={ row:=true,size:=70,zero:=#[.string ByteArray.empty,.string ByteArray.empty,.int .i64 0,.bool false,.int .u32 0,.int .u32 0,.int .u32 0,.int .u32 0,.int .u32 0,.int .u32 0,.int .u32 0,.int .u32 0,.int .u32 0,.int .u32 0,.int .u32 0,.int .u32 0,.int .u32 0,.int .u32 0,.int .u32 0,.int .u32 0,.int .u32 0,.int .u32 0,.int .u32 0,.int .u32 0,.int .u32 0,.int .u32 0,.int .u32 0,.int .u32 0,.int .u32 0,.int .u32 0,.int .u32 0,.int .u32 0,.int .u32 0,.int .u32 0,.int .u32 0,.int .u32 0,.bool false,.int .u32 0,.int .u32 0,.int .u32 0,.int .u32 0,.int .u32 0,.int .u32 0,.int .u32 0,.int .u32 0,.int .u32 0,.int .u32 0,.int .u32 0,.int .u32 0,.int .u32 0,.int .u32 0,.int .u32 0,.int .u32 0,.int .u32 0,.int .u32 0,.int .u32 0,.int .u32 0,.int .u32 0,.int .u32 0,.int .u32 0,.int .u32 0,.int .u32 0,.int .u32 0,.int .u32 0,.int .u32 0,.int .u32 0,.int .u32 0,.int .u32 0,.int .u32 0,.slice none 0 0],kind:=1,fields:=[(0,9),(1,9),(2,3),(3,33),(69,27)] }
def ti161:TI:={ row:=true,size:=70,zero:=#[.string ByteArray.empty,.string ByteArray.empty,.int .i64 0,.bool false,.int .u32 0,.int .u32 0,.int .u32 0,.int .u32 0,.int .u32 0,.int .u32 0,.int .u32 0,.int .u32 0,.int .u32 0,.int .u32 0,.int .u32 0,.int .u32 0,.int .u32 0,.int .u32 0,.int .u32 0,.int .u32 0,.int .u32 0,.int .u32 0,.int .u32 0,.int .u32 0,.int .u32 0,.int .u32 0,.int .u32 0,.int .u32 0,.int .u32 0,.int .u32 0,.int .u32 0,.int .u32 0,.int .u32 0,.int .u32 0,.int .u32 0,.int .u32 0,.bool false,.int .u32 0,.int .u32 0,.int .u32 0,.int .u32 0,.int .u32 0,.int .u32 0,.int .u32 0,.int .u32 0,.int .u32 0,.int .u32 0,.int .u32 0,.int .u32 0,.int .u32 0,.int .u32 0,.int .u32 0,.int .u32 0,.int .u32 0,.int .u32 0,.int .u32 0,.int .u32 0,.int .u32 0,.int .u32 0,.int .u32 0,.int .u32 0,.int .u32 0,.int .u32 0,.int .u32 0,.int .u32 0,.int .u32 0,.int .u32 0,.int .u32 0,.int .u32 0,.slice none 0 0],kind:=1,fields:=[(0,9),(1,9),(2,3),(3,33),(69,27)] }
def ti168:TI:={ row:=true,size:=3,zero:=#[.string ByteArray.empty,.int .i64 0,.bool false],kind:=1,fields:=[(0,9),(1,3),(2,4)] }
def ti169:TI:={ row:=true,size:=3,zero:=#[.string ByteArray.empty,.int .i64 0,.bool false],kind:=1,fields:=[(0,9),(1,3),(2,4)] }
def ti191:TI:={ row:=true,size:=35,zero:=#[.bool false,.int .u32 0,.int .u32 0,.int .u32 0,.int .u32 0,.int .u32 0,.int .u32 0,.int .u32 0,.int .u32 0,.int .u32 0,.int .u32 0,.int .u32 0,.int .u32 0,.int .u32 0,.int .u32 0,.int .u32 0,.int .u32 0,.int .u32 0,.int .u32 0,.int .u32 0,.int .u32 0,.int .u32 0,.int .u32 0,.int .u32 0,.int .u32 0,.int .u32 0,.int .u32 0,.int .u32 0,.int .u32 0,.int .u32 0,.int .u32 0,.int .u32 0,.int .u32 0,.int .i64 0,.bool false],kind:=1,fields:=[(0,31),(33,3),(34,4)] }
def ti192:TI:={ row:=true,size:=35,zero:=#[.bool false,.int .u32 0,.int .u32 0,.int .u32 0,.int .u32 0,.int .u32 0,.int .u32 0,.int .u32 0,.int .u32 0,.int .u32 0,.int .u32 0,.int .u32 0,.int .u32 0,.int .u32 0,.int .u32 0,.int .u32 0,.int .u32 0,.int .u32 0,.int .u32 0,.int .u32 0,.int .u32 0,.int .u32 0,.int .u32 0,.int .u32 0,.int .u32 0,.int .u32 0,.int .u32 0,.int .u32 0,.int .u32 0,.int .u32 0,.int .u32 0,.int .u32 0,.int .u32 0,.int .i64 0,.bool false],kind:=1,fields:=[(0,31),(33,3),(34,4)] }
def ti218:TI:={ row:=true,size:=4,zero:=(Array.replicate 4 (.string ByteArray.empty)),kind:=2,len:=4,elem:=9 }
def ti224:TI:={ row:=true,size:=33,zero:=(Array.replicate 33 (.int .u32 0)),kind:=2,len:=33,elem:=28 }
def ti241:TI:={ row:=true,size:=2,zero:=#[.int .i64 0,.int .i64 0],kind:=1,fields:=[(0,3),(1,3)] }
def ti245:TI:={ row:=true,size:=256,zero:=(Array.replicate 256 (.bool false)),kind:=2,len:=256,elem:=4 }
def ti246:TI:={ row:=true,size:=256,zero:=(Array.replicate 256 (.bool false)),kind:=2,len:=256,elem:=4 }
def ti266:TI:={ row:=true,size:=2,zero:=#[.pointer none,.slice none 0 0],kind:=1,fields:=[(0,265),(1,240)] }
def ti267:TI:={ row:=true,size:=2,zero:=#[.pointer none,.slice none 0 0],kind:=1,fields:=[(0,265),(1,240)] }
def ti298:TI:={ row:=true,size:=256,zero:=(Array.replicate 256 (.int .u8 0)),kind:=2,len:=256,elem:=5 }
def ti299:TI:={ row:=true,size:=2,zero:=#[.int .u8 0,.int .u8 0],kind:=1,fields:=[(0,5),(1,5)] }
def ti300:TI:={ row:=true,size:=2,zero:=#[.int .u8 0,.int .u8 0],kind:=1,fields:=[(0,5),(1,5)] }
def ti301:TI:={ row:=true,size:=32,zero:=(Array.replicate 32 (.int .u8 0)),kind:=2,len:=16,elem:=300 }
def ti323:TI:={ row:=true,size:=4,zero:=#[.pointer none,.pointer none,.pointer none,.string ByteArray.empty],kind:=1,fields:=[(0,17),(1,17),(2,17),(3,9)] }
def ti324:TI:={ row:=true,size:=4,zero:=#[.pointer none,.pointer none,.pointer none,.string ByteArray.empty],kind:=1,fields:=[(0,17),(1,17),(2,17),(3,9)] }
def ti325:TI:={ row:=true,size:=0,zero:=#[],kind:=2,len:=0,elem:=16 }
def ti326:TI:={ row:=true,size:=0,zero:=#[],kind:=1,fields:=[(0,325)] }
def ti327:TI:={ row:=true,size:=0,zero:=#[],kind:=1,fields:=[(0,325)] }
def ti333:TI:={ row:=true,size:=11,zero:=#[.int .u64 0,.int .u64 0,.int .u32 0,.int .u8 0,.int .u8 0,.int .u8 0,.int .u8 0,.nilFunc,.pointer none,.int .i32 0,.int .i32 0],kind:=1,fields:=[(0,12),(1,12),(2,28),(3,328),(4,5),(5,5),(6,329),(7,330),(8,284),(9,331),(10,332)] }
def ti334:TI:={ row:=true,size:=11,zero:=#[.int .u64 0,.int .u64 0,.int .u32 0,.int .u8 0,.int .u8 0,.int .u8 0,.int .u8 0,.nilFunc,.pointer none,.int .i32 0,.int .i32 0],kind:=1,fields:=[(0,12),(1,12),(2,28),(3,328),(4,5),(5,5),(6,329),(7,330),(8,284),(9,331),(10,332)] }
def ti335:TI:={ row:=true,size:=1,zero:=#[.string ByteArray.empty],kind:=1,fields:=[(0,9)] }
def ti336:TI:={ row:=true,size:=1,zero:=#[.string ByteArray.empty],kind:=1,fields:=[(0,9)] }
def tt_0:TypeId→Option TI
 | 1=>some (tV .nilFunc)
 | 2=>some (tI .i64)
 | 3=>some ti3
 | 4=>some ti4
 | 5=>some ti5
 | 6=>some (tI .u8)
 | 7=>some ti7
 | 8=>some ti8
 | 9=>some ti9
 | 10=>some (tV (.string ByteArray.empty))
 | 11=>some (tV (.string ByteArray.empty))
 | 12=>some (tI .u64)
 | 13=>some ti13
 | 14=>some ti14
 | 15=>some (tV (.pointer none))
 | 16=>some (tV (.pointer none))
 | _=>none
def tt_1:TypeId→Option TI
 | 17=>some (tV (.pointer none))
 | 18=>some ti18
 | 19=>some ti19
 | 20=>some (tV .nilIface)
 | 21=>some (tI .i32)
 | 22=>some (tS 76)
 | 23=>some ti23
 | 24=>some ti24
 | 25=>some ti25
 | 26=>some ti26
 | 27=>some (tS 9)
 | 28=>some ti28
 | 29=>some ti29
 | 30=>some ti30
 | 31=>some ti31
 | 32=>some ti32
 | _=>none
def tt_2:TypeId→Option TI
 | 33=>some ti33
 | 34=>some ti34
 | 35=>some ti35
 | 36=>some (tS 127)
 | 37=>some (tS 71)
 | 38=>some ti38
 | 39=>some ti39
 | 40=>some (tS 60)
 | 41=>some ti41
 | 42=>some ti42
 | 43=>some (tI .i64)
 | 45=>some (tV .nilFunc)
 | 46=>some (tV .nilFunc)
 | 47=>some (tV .nilFunc)
 | 48=>some (tV .nilFunc)
 | 49=>some (tV .nilFunc)
 | _=>none
def tt_3:TypeId→Option TI
 | 51=>some (tV .nilFunc)
 | 52=>some (tV .nilFunc)
 | 53=>some (tV .nilFunc)
 | 54=>some (tV .nilFunc)
 | 55=>some (tS 58)
 | 56=>some (tV .nilFunc)
 | 57=>some (tV .nilIface)
 | 58=>some (tV .nilIface)
 | 59=>some ti59
 | 60=>some ti60
 | 62=>some (tV .nilFunc)
 | 64=>some (tV .nilFunc)
 | 65=>some (tV .nilFunc)
 | 66=>some (tV .nilFunc)
 | 67=>some (tV (.pointer none))
 | 68=>some (tV .nilFunc)
 | _=>none
def tt_4:TypeId→Option TI
 | 69=>some (tV .nilFunc)
 | 70=>some ti70
 | 71=>some ti71
 | 72=>some (tV .nilFunc)
 | 73=>some (tV .nilFunc)
 | 74=>some (tV .nilFunc)
 | 75=>some ti75
 | 76=>some ti76
 | 77=>some ti77
 | 78=>some ti78
 | 79=>some ti79
 | 80=>some ti80
 | 81=>some (tV .nilFunc)
 | 82=>some (tV .nilFunc)
 | 83=>some (tV .nilFunc)
 | 84=>some (tV .nilFunc)
 | _=>none
def tt_5:TypeId→Option TI
 | 85=>some (tV .nilFunc)
 | 86=>some (tV .nilFunc)
 | 87=>some (tV .nilFunc)
 | 88=>some (tV .nilFunc)
 | 89=>some (tV .nilFunc)
 | 90=>some (tV .nilFunc)
 | 91=>some (tV .nilFunc)
 | 92=>some (tV .nilFunc)
 | 93=>some (tV .nilFunc)
 | 95=>some (tV .nilFunc)
 | 96=>some ti96
 | 97=>some ti97
 | 98=>some ti98
 | 99=>some ti99
 | 100=>some ti100
 | 101=>some ti101
 | _=>none
def tt_6:TypeId→Option TI
 | 102=>some (tV .nilFunc)
 | 103=>some (tV .nilFunc)
 | 105=>some (tV .nilFunc)
 | 107=>some (tV .nilFunc)
 | 108=>some (tV .nilFunc)
 | 109=>some (tV .nilFunc)
 | 110=>some (tV .nilFunc)
 | 111=>some (tV .nilFunc)
 | 112=>some (tS 23)
 | 113=>some (tV .nilFunc)
 | 114=>some ti114
 | 115=>some ti115
 | 116=>some (tV .nilFunc)
 | 117=>some (tV .nilFunc)
 | 118=>some (tV .nilFunc)
 | 119=>some (tV .nilFunc)
 | _=>none
def tt_7:TypeId→Option TI
 | 120=>some (tS 169)
 | 121=>some (tV .nilFunc)
 | 122=>some (tV .nilFunc)
 | 124=>some (tV .nilFunc)
 | 125=>some (tV .nilFunc)
 | 126=>some ti126
 | 127=>some ti127
 | 128=>some (tV .nilFunc)
 | 129=>some (tV .nilFunc)
 | 130=>some (tV .nilFunc)
 | 131=>some (tV .nilFunc)
 | 133=>some (tV .nilFunc)
 | 134=>some ti134
 | 135=>some ti135
 | 136=>some (tV .nilFunc)
 | 137=>some (tV .nilFunc)
 | _=>none
def tt_8:TypeId→Option TI
 | 138=>some (tV .nilFunc)
 | 139=>some (tV .nilFunc)
 | 140=>some (tV .nilFunc)
 | 141=>some (tV .nilFunc)
 | 142=>some (tV .nilFunc)
 | 143=>some (tV .nilFunc)
 | 144=>some (tV .nilFunc)
 | 145=>some (tV .nilFunc)
 | 146=>some (tI .u64)
 | 147=>some (tV .nilFunc)
 | 148=>some (tI .u64)
 | 149=>some ti149
 | 150=>some (tV .nilFunc)
 | 152=>some (tV .nilFunc)
 | 153=>some ti153
 | 154=>some (tV .nilFunc)
 | _=>none
def tt_9:TypeId→Option TI
 | 155=>some (tV .nilFunc)
 | 157=>some (tV .nilFunc)
 | 158=>some (tV .nilFunc)
 | 159=>some (tV .nilFunc)
 | 160=>some ti160
 | 161=>some ti161
 | 163=>some (tV .nilFunc)
 | 164=>some (tV .nilFunc)
 | 165=>some (tV .nilFunc)
 | 166=>some (tV .nilFunc)
 | 167=>some (tV .nilFunc)
 | 168=>some ti168
 | 169=>some ti169
 | 170=>some (tV .nilFunc)
 | 171=>some (tV .nilFunc)
 | 172=>some (tV .nilFunc)
 | _=>none
def tt_10:TypeId→Option TI
 | 173=>some (tV .nilFunc)
 | 174=>some (tV .nilFunc)
 | 175=>some (tV .nilFunc)
 | 176=>some (tV .nilFunc)
 | 177=>some (tV .nilFunc)
 | 178=>some (tV .nilFunc)
 | 179=>some (tV .nilFunc)
 | 180=>some (tV .nilFunc)
 | 182=>some (tV .nilFunc)
 | 184=>some (tV .nilFunc)
 | 185=>some (tV (.pointer none))
 | 187=>some (tV .nilFunc)
 | 188=>some (tV .nilFunc)
 | 190=>some (tV .nilFunc)
 | 191=>some ti191
 | 192=>some ti192
 | _=>none
def tt_11:TypeId→Option TI
 | 193=>some (tV .nilFunc)
 | 194=>some (tV .nilFunc)
 | 195=>some (tV .nilFunc)
 | 197=>some (tV .nilFunc)
 | 198=>some (tV .nilFunc)
 | 200=>some (tV .nilFunc)
 | 201=>some (tV .nilFunc)
 | 202=>some (tV .nilFunc)
 | 203=>some (tV .nilFunc)
 | 205=>some (tV .nilFunc)
 | 206=>some (tV .nilFunc)
 | 207=>some (tV .nilFunc)
 | 208=>some (tV .nilFunc)
 | 209=>some (tV .nilFunc)
 | 210=>some (tS 3)
 | 212=>some (tV .nilFunc)
 | _=>none
def tt_12:TypeId→Option TI
 | 213=>some (tV .nilFunc)
 | 215=>some (tV .nilFunc)
 | 216=>some (tV .nilFunc)
 | 217=>some (tV .nilFunc)
 | 218=>some ti218
 | 219=>some (tV .nilFunc)
 | 221=>some (tV .nilFunc)
 | 222=>some (tV .nilFunc)
 | 223=>some (tV .nilFunc)
 | 224=>some ti224
 | 226=>some (tV .nilFunc)
 | 227=>some (tV .nilFunc)
 | 228=>some (tS 28)
 | 229=>some (tV .nilFunc)
 | 230=>some (tV .nilFunc)
 | 231=>some (tV .nilFunc)
 | _=>none
def tt_13:TypeId→Option TI
 | 232=>some (tV .nilFunc)
 | 233=>some (tV .nilFunc)
 | 234=>some (tV .nilFunc)
 | 235=>some (tV .nilFunc)
 | 236=>some (tV .nilFunc)
 | 238=>some (tV .nilFunc)
 | 239=>some (tS 33)
 | 240=>some (tS 5)
 | 241=>some ti241
 | 242=>some (tS 241)
 | 243=>some (tV .nilFunc)
 | 244=>some (tV .nilFunc)
 | 245=>some ti245
 | 246=>some ti246
 | 248=>some (tV .nilFunc)
 | 249=>some (tV .nilFunc)
 | _=>none
def tt_14:TypeId→Option TI
 | 250=>some (tV (.pointer none))
 | 252=>some (tV .nilFunc)
 | 253=>some (tV .nilFunc)
 | 254=>some (tV .nilFunc)
 | 255=>some (tV .nilFunc)
 | 256=>some (tV .nilFunc)
 | 257=>some (tV .nilFunc)
 | 258=>some (tV .nilFunc)
 | 260=>some (tV .nilFunc)
 | 261=>some (tV .nilFunc)
 | 262=>some (tV .nilFunc)
 | 264=>some (tV .nilFunc)
 | 265=>some (tV (.pointer none))
 | 266=>some ti266
 | 267=>some ti267
 | 268=>some (tV .nilFunc)
 | _=>none
def tt_15:TypeId→Option TI
 | 269=>some (tV .nilIface)
 | 270=>some (tV .nilIface)
 | 272=>some (tV .nilFunc)
 | 273=>some (tV .nilFunc)
 | 275=>some (tV .nilFunc)
 | 276=>some (tV .nilFunc)
 | 277=>some (tV .nilFunc)
 | 278=>some (tV .nilFunc)
 | 279=>some (tV .nilFunc)
 | 280=>some (tV .nilFunc)
 | 281=>some (tV .nilFunc)
 | 283=>some (tV .nilFunc)
 | 284=>some (tV (.pointer none))
 | 285=>some (tV .nilFunc)
 | 286=>some (tV .nilFunc)
 | 287=>some (tV .nilFunc)
 | _=>none
def tt_16:TypeId→Option TI
 | 289=>some (tV .nilFunc)
 | 290=>some (tV .nilFunc)
 | 291=>some (tV .nilFunc)
 | 292=>some (tV .nilFunc)
 | 293=>some (tV (.map none))
 | 294=>some (tV .nilFunc)
 | 295=>some (tV .nilFunc)
 | 296=>some (tV .nilFunc)
 | 297=>some (tV .nilFunc)
 | 298=>some ti298
 | 299=>some ti299
 | 300=>some ti300
 | 301=>some ti301
 | 302=>some (tV .nilFunc)
 | 303=>some (tV .nilFunc)
 | 304=>some (tV .nilFunc)
 | _=>none
def tt_17:TypeId→Option TI
 | 305=>some (tI .i64)
 | 307=>some (tV .nilFunc)
 | 308=>some (tV .nilFunc)
 | 309=>some (tV .nilFunc)
 | 310=>some (tV .nilFunc)
 | 311=>some (tV .nilFunc)
 | 312=>some (tV .nilFunc)
 | 313=>some (tI .u64)
 | 314=>some (tV .nilFunc)
 | 315=>some (tV .nilFunc)
 | 316=>some (tV .nilFunc)
 | 317=>some (tV (.pointer none))
 | 318=>some (tV .nilFunc)
 | 319=>some (tV (.pointer none))
 | 321=>some (tV .nilFunc)
 | 322=>some (tV (.pointer none))
 | _=>none
def tt_18:TypeId→Option TI
 | 323=>some ti323
 | 324=>some ti324
 | 325=>some ti325
 | 326=>some ti326
 | 327=>some ti327
 | 328=>some (tI .u8)
 | 329=>some (tI .u8)
 | 330=>some (tV .nilFunc)
 | 331=>some (tI .i32)
 | 332=>some (tI .i32)
 | 333=>some ti333
 | 334=>some ti334
 | 335=>some ti335
 | 336=>some ti336
 | _=>none
def tt (ty:TypeId):Option TI :=
 if Nat.ble 337 ty then none else
 if Nat.ble ty 16 then tt_0 ty else
 if Nat.ble ty 32 then tt_1 ty else
 if Nat.ble ty 49 then tt_2 ty else
 if Nat.ble ty 68 then tt_3 ty else
 if Nat.ble ty 84 then tt_4 ty else
 if Nat.ble ty 101 then tt_5 ty else
 if Nat.ble ty 119 then tt_6 ty else
 if Nat.ble ty 137 then tt_7 ty else
 if Nat.ble ty 154 then tt_8 ty else
 if Nat.ble ty 172 then tt_9 ty else
 if Nat.ble ty 192 then tt_10 ty else
 if Nat.ble ty 212 then tt_11 ty else
 if Nat.ble ty 231 then tt_12 ty else
 if Nat.ble ty 249 then tt_13 ty else
 if Nat.ble ty 268 then tt_14 ty else
 if Nat.ble ty 287 then tt_15 ty else
 if Nat.ble ty 304 then tt_16 ty else
 if Nat.ble ty 322 then tt_17 ty else
 tt_18 ty
theorem tt_ok:TTok Tryz.prog tt:=tt_of 337 (fun _ h=>if_pos (Nat.ble_eq_true_of_le h)) (by kernel_rfl)
theorem tok3:TIok Tryz.prog 3 ti3:=tt_ok 3 _ rfl
theorem tok4:TIok Tryz.prog 4 ti4:=tt_ok 4 _ rfl
theorem tok9:TIok Tryz.prog 9 ti9:=tt_ok 9 _ rfl
theorem tok28:TIok Tryz.prog 28 ti28:=tt_ok 28 _ rfl
theorem tok29:TIok Tryz.prog 29 ti29:=tt_ok 29 _ rfl
theorem tok31:TIok Tryz.prog 31 ti31:=tt_ok 31 _ rfl
theorem tok33:TIok Tryz.prog 33 ti33:=tt_ok 33 _ rfl
theorem mixed:Tryz.prog.follows .mixedOrders=true:=by kernel_rfl
set_option maxRecDepth 100000
theorem at4:FnOk Tryz.prog 4 Tryz.f4:=⟨Tryz.func4,rfl,rfl,rfl,by kernel_rfl⟩
theorem at5:FnOk Tryz.prog 5 Tryz.f5:=⟨Tryz.func5,rfl,rfl,rfl,by kernel_rfl⟩
theorem at6:FnOk Tryz.prog 6 Tryz.f6:=⟨Tryz.func6,rfl,rfl,rfl,by kernel_rfl⟩
theorem at8:FnOk Tryz.prog 8 Tryz.f8:=⟨Tryz.func8,rfl,rfl,rfl,by kernel_rfl⟩
theorem at9:FnOk Tryz.prog 9 Tryz.f9:=⟨Tryz.func9,rfl,rfl,rfl,by kernel_rfl⟩
theorem at12:FnOk Tryz.prog 12 Tryz.f12:=⟨Tryz.func12,rfl,rfl,rfl,by kernel_rfl⟩
theorem at13:FnOk Tryz.prog 13 Tryz.f13:=⟨Tryz.func13,rfl,rfl,rfl,by kernel_rfl⟩
theorem at14:FnOk Tryz.prog 14 Tryz.f14:=⟨Tryz.func14,rfl,rfl,rfl,by kernel_rfl⟩
theorem at15:FnOk Tryz.prog 15 Tryz.f15:=⟨Tryz.func15,rfl,rfl,rfl,by kernel_rfl⟩
theorem at16:FnOk Tryz.prog 16 Tryz.f16:=⟨Tryz.func16,rfl,rfl,rfl,by kernel_rfl⟩
theorem at17:FnOk Tryz.prog 17 Tryz.f17:=⟨Tryz.func17,rfl,rfl,rfl,by kernel_rfl⟩
theorem at18:FnOk Tryz.prog 18 Tryz.f18:=⟨Tryz.func18,rfl,rfl,rfl,by kernel_rfl⟩
theorem at25:FnOk Tryz.prog 25 Tryz.f25:=⟨Tryz.func25,rfl,rfl,rfl,by kernel_rfl⟩
theorem at26:FnOk Tryz.prog 26 Tryz.f26:=⟨Tryz.func26,rfl,rfl,rfl,by kernel_rfl⟩
theorem at27:FnOk Tryz.prog 27 Tryz.f27:=⟨Tryz.func27,rfl,rfl,rfl,by kernel_rfl⟩
theorem at28:FnOk Tryz.prog 28 Tryz.f28:=⟨Tryz.func28,rfl,rfl,rfl,by kernel_rfl⟩
theorem at29:FnOk Tryz.prog 29 Tryz.f29:=⟨Tryz.func29,rfl,rfl,rfl,by kernel_rfl⟩
theorem at30:FnOk Tryz.prog 30 Tryz.f30:=⟨Tryz.func30,rfl,rfl,rfl,by kernel_rfl⟩
theorem at31:FnOk Tryz.prog 31 Tryz.f31:=⟨Tryz.func31,rfl,rfl,rfl,by kernel_rfl⟩
theorem at32:FnOk Tryz.prog 32 Tryz.f32:=⟨Tryz.func32,rfl,rfl,rfl,by kernel_rfl⟩
theorem at33:FnOk Tryz.prog 33 Tryz.f33:=⟨Tryz.func33,rfl,rfl,rfl,by kernel_rfl⟩
theorem at34:FnOk Tryz.prog 34 Tryz.f34:=⟨Tryz.func34,rfl,rfl,rfl,by kernel_rfl⟩
theorem at35:FnOk Tryz.prog 35 Tryz.f35:=⟨Tryz.func35,rfl,rfl,rfl,by kernel_rfl⟩
theorem at41:FnOk Tryz.prog 41 Tryz.f41:=⟨Tryz.func41,rfl,rfl,rfl,by kernel_rfl⟩
theorem at42:FnOk Tryz.prog 42 Tryz.f42:=⟨Tryz.func42,rfl,rfl,rfl,by kernel_rfl⟩
theorem at43:FnOk Tryz.prog 43 Tryz.f43:=⟨Tryz.func43,rfl,rfl,rfl,by kernel_rfl⟩
theorem at44:FnOk Tryz.prog 44 Tryz.f44:=⟨Tryz.func44,rfl,rfl,rfl,by kernel_rfl⟩
theorem at45:FnOk Tryz.prog 45 Tryz.f45:=⟨Tryz.func45,rfl,rfl,rfl,by kernel_rfl⟩
theorem at46:FnOk Tryz.prog 46 Tryz.f46:=⟨Tryz.func46,rfl,rfl,rfl,by kernel_rfl⟩
theorem at47:FnOk Tryz.prog 47 Tryz.f47:=⟨Tryz.func47,rfl,rfl,rfl,by kernel_rfl⟩
theorem at48:FnOk Tryz.prog 48 Tryz.f48:=⟨Tryz.func48,rfl,rfl,rfl,by kernel_rfl⟩
theorem at49:FnOk Tryz.prog 49 Tryz.f49:=⟨Tryz.func49,rfl,rfl,rfl,by kernel_rfl⟩
theorem at50:FnOk Tryz.prog 50 Tryz.f50:=⟨Tryz.func50,rfl,rfl,rfl,by kernel_rfl⟩
theorem at51:FnOk Tryz.prog 51 Tryz.f51:=⟨Tryz.func51,rfl,rfl,rfl,by kernel_rfl⟩
theorem at52:FnOk Tryz.prog 52 Tryz.f52:=⟨Tryz.func52,rfl,rfl,rfl,by kernel_rfl⟩
theorem at53:FnOk Tryz.prog 53 Tryz.f53:=⟨Tryz.func53,rfl,rfl,rfl,by kernel_rfl⟩
theorem at57:FnOk Tryz.prog 57 Tryz.f57:=⟨Tryz.func57,rfl,rfl,rfl,by kernel_rfl⟩
theorem at58:FnOk Tryz.prog 58 Tryz.f58:=⟨Tryz.func58,rfl,rfl,rfl,by kernel_rfl⟩
theorem at59:FnOk Tryz.prog 59 Tryz.f59:=⟨Tryz.func59,rfl,rfl,rfl,by kernel_rfl⟩
theorem at60:FnOk Tryz.prog 60 Tryz.f60:=⟨Tryz.func60,rfl,rfl,rfl,by kernel_rfl⟩
theorem at61:FnOk Tryz.prog 61 Tryz.f61:=⟨Tryz.func61,rfl,rfl,rfl,by kernel_rfl⟩
theorem at62:FnOk Tryz.prog 62 Tryz.f62:=⟨Tryz.func62,rfl,rfl,rfl,by kernel_rfl⟩
theorem at63:FnOk Tryz.prog 63 Tryz.f63:=⟨Tryz.func63,rfl,rfl,rfl,by kernel_rfl⟩
theorem at64:FnOk Tryz.prog 64 Tryz.f64:=⟨Tryz.func64,rfl,rfl,rfl,by kernel_rfl⟩
theorem at65:FnOk Tryz.prog 65 Tryz.f65:=⟨Tryz.func65,rfl,rfl,rfl,by kernel_rfl⟩
theorem at66:FnOk Tryz.prog 66 Tryz.f66:=⟨Tryz.func66,rfl,rfl,rfl,by kernel_rfl⟩
theorem at67:FnOk Tryz.prog 67 Tryz.f67:=⟨Tryz.func67,rfl,rfl,rfl,by kernel_rfl⟩
theorem at68:FnOk Tryz.prog 68 Tryz.f68:=⟨Tryz.func68,rfl,rfl,rfl,by kernel_rfl⟩
theorem at69:FnOk Tryz.prog 69 Tryz.f69:=⟨Tryz.func69,rfl,rfl,rfl,by kernel_rfl⟩
theorem at70:FnOk Tryz.prog 70 Tryz.f70:=⟨Tryz.func70,rfl,rfl,rfl,by kernel_rfl⟩
theorem at71:FnOk Tryz.prog 71 Tryz.f71:=⟨Tryz.func71,rfl,rfl,rfl,by kernel_rfl⟩
theorem at72:FnOk Tryz.prog 72 Tryz.f72:=⟨Tryz.func72,rfl,rfl,rfl,by kernel_rfl⟩
theorem at73:FnOk Tryz.prog 73 Tryz.f73:=⟨Tryz.func73,rfl,rfl,rfl,by kernel_rfl⟩
theorem at74:FnOk Tryz.prog 74 Tryz.f74:=⟨Tryz.func74,rfl,rfl,rfl,by kernel_rfl⟩
theorem at75:FnOk Tryz.prog 75 Tryz.f75:=⟨Tryz.func75,rfl,rfl,rfl,by kernel_rfl⟩
theorem at76:FnOk Tryz.prog 76 Tryz.f76:=⟨Tryz.func76,rfl,rfl,rfl,by kernel_rfl⟩
theorem at77:FnOk Tryz.prog 77 Tryz.f77:=⟨Tryz.func77,rfl,rfl,rfl,by kernel_rfl⟩
theorem at78:FnOk Tryz.prog 78 Tryz.f78:=⟨Tryz.func78,rfl,rfl,rfl,by kernel_rfl⟩
theorem at79:FnOk Tryz.prog 79 Tryz.f79:=⟨Tryz.func79,rfl,rfl,rfl,by kernel_rfl⟩
theorem at80:FnOk Tryz.prog 80 Tryz.f80:=⟨Tryz.func80,rfl,rfl,rfl,by kernel_rfl⟩
theorem at81:FnOk Tryz.prog 81 Tryz.f81:=⟨Tryz.func81,rfl,rfl,rfl,by kernel_rfl⟩
theorem at90:FnOk Tryz.prog 90 Tryz.f90:=⟨Tryz.func90,rfl,rfl,rfl,by kernel_rfl⟩
theorem at91:FnOk Tryz.prog 91 Tryz.f91:=⟨Tryz.func91,rfl,rfl,rfl,by kernel_rfl⟩
theorem at92:FnOk Tryz.prog 92 Tryz.f92:=⟨Tryz.func92,rfl,rfl,rfl,by kernel_rfl⟩
theorem at93:FnOk Tryz.prog 93 Tryz.f93:=⟨Tryz.func93,rfl,rfl,rfl,by kernel_rfl⟩
theorem at94:FnOk Tryz.prog 94 Tryz.f94:=⟨Tryz.func94,rfl,rfl,rfl,by kernel_rfl⟩
theorem at95:FnOk Tryz.prog 95 Tryz.f95:=⟨Tryz.func95,rfl,rfl,rfl,by kernel_rfl⟩
theorem at96:FnOk Tryz.prog 96 Tryz.f96:=⟨Tryz.func96,rfl,rfl,rfl,by kernel_rfl⟩
theorem at97:FnOk Tryz.prog 97 Tryz.f97:=⟨Tryz.func97,rfl,rfl,rfl,by kernel_rfl⟩
theorem at98:FnOk Tryz.prog 98 Tryz.f98:=⟨Tryz.func98,rfl,rfl,rfl,by kernel_rfl⟩
theorem at99:FnOk Tryz.prog 99 Tryz.f99:=⟨Tryz.func99,rfl,rfl,rfl,by kernel_rfl⟩
theorem at100:FnOk Tryz.prog 100 Tryz.f100:=⟨Tryz.func100,rfl,rfl,rfl,by kernel_rfl⟩
theorem at101:FnOk Tryz.prog 101 Tryz.f101:=⟨Tryz.func101,rfl,rfl,rfl,by kernel_rfl⟩
theorem at102:FnOk Tryz.prog 102 Tryz.f102:=⟨Tryz.func102,rfl,rfl,rfl,by kernel_rfl⟩
theorem at103:FnOk Tryz.prog 103 Tryz.f103:=⟨Tryz.func103,rfl,rfl,rfl,by kernel_rfl⟩
theorem at104:FnOk Tryz.prog 104 Tryz.f104:=⟨Tryz.func104,rfl,rfl,rfl,by kernel_rfl⟩
theorem at105:FnOk Tryz.prog 105 Tryz.f105:=⟨Tryz.func105,rfl,rfl,rfl,by kernel_rfl⟩
theorem at106:FnOk Tryz.prog 106 Tryz.f106:=⟨Tryz.func106,rfl,rfl,rfl,by kernel_rfl⟩
theorem at107:FnOk Tryz.prog 107 Tryz.f107:=⟨Tryz.func107,rfl,rfl,rfl,by kernel_rfl⟩
theorem at108:FnOk Tryz.prog 108 Tryz.f108:=⟨Tryz.func108,rfl,rfl,rfl,by kernel_rfl⟩
theorem at109:FnOk Tryz.prog 109 Tryz.f109:=⟨Tryz.func109,rfl,rfl,rfl,by kernel_rfl⟩
theorem at110:FnOk Tryz.prog 110 Tryz.f110:=⟨Tryz.func110,rfl,rfl,rfl,by kernel_rfl⟩
theorem at111:FnOk Tryz.prog 111 Tryz.f111:=⟨Tryz.func111,rfl,rfl,rfl,by kernel_rfl⟩
theorem at114:FnOk Tryz.prog 114 Tryz.f114:=⟨Tryz.func114,rfl,rfl,rfl,by kernel_rfl⟩
theorem at115:FnOk Tryz.prog 115 Tryz.f115:=⟨Tryz.func115,rfl,rfl,rfl,by kernel_rfl⟩
theorem at116:FnOk Tryz.prog 116 Tryz.f116:=⟨Tryz.func116,rfl,rfl,rfl,by kernel_rfl⟩
theorem at117:FnOk Tryz.prog 117 Tryz.f117:=⟨Tryz.func117,rfl,rfl,rfl,by kernel_rfl⟩
theorem at118:FnOk Tryz.prog 118 Tryz.f118:=⟨Tryz.func118,rfl,rfl,rfl,by kernel_rfl⟩
theorem at119:FnOk Tryz.prog 119 Tryz.f119:=⟨Tryz.func119,rfl,rfl,rfl,by kernel_rfl⟩
theorem at120:FnOk Tryz.prog 120 Tryz.f120:=⟨Tryz.func120,rfl,rfl,rfl,by kernel_rfl⟩
theorem at121:FnOk Tryz.prog 121 Tryz.f121:=⟨Tryz.func121,rfl,rfl,rfl,by kernel_rfl⟩
theorem at122:FnOk Tryz.prog 122 Tryz.f122:=⟨Tryz.func122,rfl,rfl,rfl,by kernel_rfl⟩
theorem at123:FnOk Tryz.prog 123 Tryz.f123:=⟨Tryz.func123,rfl,rfl,rfl,by kernel_rfl⟩
theorem at124:FnOk Tryz.prog 124 Tryz.f124:=⟨Tryz.func124,rfl,rfl,rfl,by kernel_rfl⟩
theorem at125:FnOk Tryz.prog 125 Tryz.f125:=⟨Tryz.func125,rfl,rfl,rfl,by kernel_rfl⟩
theorem at126:FnOk Tryz.prog 126 Tryz.f126:=⟨Tryz.func126,rfl,rfl,rfl,by kernel_rfl⟩
theorem at127:FnOk Tryz.prog 127 Tryz.f127:=⟨Tryz.func127,rfl,rfl,rfl,by kernel_rfl⟩
theorem at128:FnOk Tryz.prog 128 Tryz.f128:=⟨Tryz.func128,rfl,rfl,rfl,by kernel_rfl⟩
theorem at129:FnOk Tryz.prog 129 Tryz.f129:=⟨Tryz.func129,rfl,rfl,rfl,by kernel_rfl⟩
theorem at130:FnOk Tryz.prog 130 Tryz.f130:=⟨Tryz.func130,rfl,rfl,rfl,by kernel_rfl⟩
theorem at140:FnOk Tryz.prog 140 Tryz.f140:=⟨Tryz.func140,rfl,rfl,rfl,by kernel_rfl⟩
theorem at143:FnOk Tryz.prog 143 Tryz.f143:=⟨Tryz.func143,rfl,rfl,rfl,by kernel_rfl⟩
theorem at144:FnOk Tryz.prog 144 Tryz.f144:=⟨Tryz.func144,rfl,rfl,rfl,by kernel_rfl⟩
theorem at145:FnOk Tryz.prog 145 Tryz.f145:=⟨Tryz.func145,rfl,rfl,rfl,by kernel_rfl⟩
theorem at146:FnOk Tryz.prog 146 Tryz.f146:=⟨Tryz.func146,rfl,rfl,rfl,by kernel_rfl⟩
theorem at147:FnOk Tryz.prog 147 Tryz.f147:=⟨Tryz.func147,rfl,rfl,rfl,by kernel_rfl⟩
theorem at148:FnOk Tryz.prog 148 Tryz.f148:=⟨Tryz.func148,rfl,rfl,rfl,by kernel_rfl⟩
theorem at149:FnOk Tryz.prog 149 Tryz.f149:=⟨Tryz.func149,rfl,rfl,rfl,by kernel_rfl⟩
theorem at150:FnOk Tryz.prog 150 Tryz.f150:=⟨Tryz.func150,rfl,rfl,rfl,by kernel_rfl⟩
theorem at151:FnOk Tryz.prog 151 Tryz.f151:=⟨Tryz.func151,rfl,rfl,rfl,by kernel_rfl⟩
theorem at152:FnOk Tryz.prog 152 Tryz.f152:=⟨Tryz.func152,rfl,rfl,rfl,by kernel_rfl⟩
theorem at153:FnOk Tryz.prog 153 Tryz.f153:=⟨Tryz.func153,rfl,rfl,rfl,by kernel_rfl⟩
theorem at154:FnOk Tryz.prog 154 Tryz.f154:=⟨Tryz.func154,rfl,rfl,rfl,by kernel_rfl⟩
theorem at155:FnOk Tryz.prog 155 Tryz.f155:=⟨Tryz.func155,rfl,rfl,rfl,by kernel_rfl⟩
theorem at156:FnOk Tryz.prog 156 Tryz.f156:=⟨Tryz.func156,rfl,rfl,rfl,by kernel_rfl⟩
theorem at157:FnOk Tryz.prog 157 Tryz.f157:=⟨Tryz.func157,rfl,rfl,rfl,by kernel_rfl⟩
theorem at158:FnOk Tryz.prog 158 Tryz.f158:=⟨Tryz.func158,rfl,rfl,rfl,by kernel_rfl⟩
theorem at159:FnOk Tryz.prog 159 Tryz.f159:=⟨Tryz.func159,rfl,rfl,rfl,by kernel_rfl⟩
theorem at160:FnOk Tryz.prog 160 Tryz.f160:=⟨Tryz.func160,rfl,rfl,rfl,by kernel_rfl⟩
theorem at161:FnOk Tryz.prog 161 Tryz.f161:=⟨Tryz.func161,rfl,rfl,rfl,by kernel_rfl⟩
theorem at162:FnOk Tryz.prog 162 Tryz.f162:=⟨Tryz.func162,rfl,rfl,rfl,by kernel_rfl⟩
theorem at163:FnOk Tryz.prog 163 Tryz.f163:=⟨Tryz.func163,rfl,rfl,rfl,by kernel_rfl⟩
theorem at164:FnOk Tryz.prog 164 Tryz.f164:=⟨Tryz.func164,rfl,rfl,rfl,by kernel_rfl⟩
theorem at165:FnOk Tryz.prog 165 Tryz.f165:=⟨Tryz.func165,rfl,rfl,rfl,by kernel_rfl⟩
theorem at168:FnOk Tryz.prog 168 Tryz.f168:=⟨Tryz.func168,rfl,rfl,rfl,by kernel_rfl⟩
theorem at171:FnOk Tryz.prog 171 Tryz.f171:=⟨Tryz.func171,rfl,rfl,rfl,by kernel_rfl⟩
theorem at172:FnOk Tryz.prog 172 Tryz.f172:=⟨Tryz.func172,rfl,rfl,rfl,by kernel_rfl⟩
theorem at173:FnOk Tryz.prog 173 Tryz.f173:=⟨Tryz.func173,rfl,rfl,rfl,by kernel_rfl⟩
theorem at174:FnOk Tryz.prog 174 Tryz.f174:=⟨Tryz.func174,rfl,rfl,rfl,by kernel_rfl⟩
theorem at175:FnOk Tryz.prog 175 Tryz.f175:=⟨Tryz.func175,rfl,rfl,rfl,by kernel_rfl⟩
theorem at176:FnOk Tryz.prog 176 Tryz.f176:=⟨Tryz.func176,rfl,rfl,rfl,by kernel_rfl⟩
theorem at177:FnOk Tryz.prog 177 Tryz.f177:=⟨Tryz.func177,rfl,rfl,rfl,by kernel_rfl⟩
theorem at178:FnOk Tryz.prog 178 Tryz.f178:=⟨Tryz.func178,rfl,rfl,rfl,by kernel_rfl⟩
theorem at179:FnOk Tryz.prog 179 Tryz.f179:=⟨Tryz.func179,rfl,rfl,rfl,by kernel_rfl⟩
theorem at180:FnOk Tryz.prog 180 Tryz.f180:=⟨Tryz.func180,rfl,rfl,rfl,by kernel_rfl⟩
theorem at181:FnOk Tryz.prog 181 Tryz.f181:=⟨Tryz.func181,rfl,rfl,rfl,by kernel_rfl⟩
theorem at187:FnOk Tryz.prog 187 Tryz.f187:=⟨Tryz.func187,rfl,rfl,rfl,by kernel_rfl⟩
theorem at188:FnOk Tryz.prog 188 Tryz.f188:=⟨Tryz.func188,rfl,rfl,rfl,by kernel_rfl⟩
theorem at189:FnOk Tryz.prog 189 Tryz.f189:=⟨Tryz.func189,rfl,rfl,rfl,by kernel_rfl⟩
theorem at190:FnOk Tryz.prog 190 Tryz.f190:=⟨Tryz.func190,rfl,rfl,rfl,by kernel_rfl⟩
theorem at191:FnOk Tryz.prog 191 Tryz.f191:=⟨Tryz.func191,rfl,rfl,rfl,by kernel_rfl⟩
theorem at192:FnOk Tryz.prog 192 Tryz.f192:=⟨Tryz.func192,rfl,rfl,rfl,by kernel_rfl⟩
theorem at193:FnOk Tryz.prog 193 Tryz.f193:=⟨Tryz.func193,rfl,rfl,rfl,by kernel_rfl⟩
theorem at194:FnOk Tryz.prog 194 Tryz.f194:=⟨Tryz.func194,rfl,rfl,rfl,by kernel_rfl⟩
theorem at195:FnOk Tryz.prog 195 Tryz.f195:=⟨Tryz.func195,rfl,rfl,rfl,by kernel_rfl⟩
theorem at196:FnOk Tryz.prog 196 Tryz.f196:=⟨Tryz.func196,rfl,rfl,rfl,by kernel_rfl⟩
theorem at197:FnOk Tryz.prog 197 Tryz.f197:=⟨Tryz.func197,rfl,rfl,rfl,by kernel_rfl⟩
theorem at198:FnOk Tryz.prog 198 Tryz.f198:=⟨Tryz.func198,rfl,rfl,rfl,by kernel_rfl⟩
theorem at199:FnOk Tryz.prog 199 Tryz.f199:=⟨Tryz.func199,rfl,rfl,rfl,by kernel_rfl⟩
theorem at200:FnOk Tryz.prog 200 Tryz.f200:=⟨Tryz.func200,rfl,rfl,rfl,by kernel_rfl⟩
theorem at201:FnOk Tryz.prog 201 Tryz.f201:=⟨Tryz.func201,rfl,rfl,rfl,by kernel_rfl⟩
theorem at202:FnOk Tryz.prog 202 Tryz.f202:=⟨Tryz.func202,rfl,rfl,rfl,by kernel_rfl⟩
theorem at203:FnOk Tryz.prog 203 Tryz.f203:=⟨Tryz.func203,rfl,rfl,rfl,by kernel_rfl⟩
theorem at204:FnOk Tryz.prog 204 Tryz.f204:=⟨Tryz.func204,rfl,rfl,rfl,by kernel_rfl⟩
theorem at205:FnOk Tryz.prog 205 Tryz.f205:=⟨Tryz.func205,rfl,rfl,rfl,by kernel_rfl⟩
theorem at206:FnOk Tryz.prog 206 Tryz.f206:=⟨Tryz.func206,rfl,rfl,rfl,by kernel_rfl⟩
theorem at207:FnOk Tryz.prog 207 Tryz.f207:=⟨Tryz.func207,rfl,rfl,rfl,by kernel_rfl⟩
theorem at208:FnOk Tryz.prog 208 Tryz.f208:=⟨Tryz.func208,rfl,rfl,rfl,by kernel_rfl⟩
theorem at209:FnOk Tryz.prog 209 Tryz.f209:=⟨Tryz.func209,rfl,rfl,rfl,by kernel_rfl⟩
theorem at210:FnOk Tryz.prog 210 Tryz.f210:=⟨Tryz.func210,rfl,rfl,rfl,by kernel_rfl⟩
theorem at213:FnOk Tryz.prog 213 Tryz.f213:=⟨Tryz.func213,rfl,rfl,rfl,by kernel_rfl⟩
theorem at214:FnOk Tryz.prog 214 Tryz.f214:=⟨Tryz.func214,rfl,rfl,rfl,by kernel_rfl⟩
theorem at217:FnOk Tryz.prog 217 Tryz.f217:=⟨Tryz.func217,rfl,rfl,rfl,by kernel_rfl⟩
theorem at218:FnOk Tryz.prog 218 Tryz.f218:=⟨Tryz.func218,rfl,rfl,rfl,by kernel_rfl⟩
theorem at219:FnOk Tryz.prog 219 Tryz.f219:=⟨Tryz.func219,rfl,rfl,rfl,by kernel_rfl⟩
theorem at220:FnOk Tryz.prog 220 Tryz.f220:=⟨Tryz.func220,rfl,rfl,rfl,by kernel_rfl⟩
theorem at229:FnOk Tryz.prog 229 Tryz.f229:=⟨Tryz.func229,rfl,rfl,rfl,by kernel_rfl⟩
theorem at230:FnOk Tryz.prog 230 Tryz.f230:=⟨Tryz.func230,rfl,rfl,rfl,by kernel_rfl⟩
theorem at231:FnOk Tryz.prog 231 Tryz.f231:=⟨Tryz.func231,rfl,rfl,rfl,by kernel_rfl⟩
theorem at232:FnOk Tryz.prog 232 Tryz.f232:=⟨Tryz.func232,rfl,rfl,rfl,by kernel_rfl⟩
theorem at233:FnOk Tryz.prog 233 Tryz.f233:=⟨Tryz.func233,rfl,rfl,rfl,by kernel_rfl⟩
theorem at234:FnOk Tryz.prog 234 Tryz.f234:=⟨Tryz.func234,rfl,rfl,rfl,by kernel_rfl⟩
theorem at235:FnOk Tryz.prog 235 Tryz.f235:=⟨Tryz.func235,rfl,rfl,rfl,by kernel_rfl⟩
theorem at236:FnOk Tryz.prog 236 Tryz.f236:=⟨Tryz.func236,rfl,rfl,rfl,by kernel_rfl⟩
theorem at238:FnOk Tryz.prog 238 Tryz.f238:=⟨Tryz.func238,rfl,rfl,rfl,by kernel_rfl⟩
theorem at239:FnOk Tryz.prog 239 Tryz.f239:=⟨Tryz.func239,rfl,rfl,rfl,by kernel_rfl⟩
theorem at240:FnOk Tryz.prog 240 Tryz.f240:=⟨Tryz.func240,rfl,rfl,rfl,by kernel_rfl⟩
theorem at241:FnOk Tryz.prog 241 Tryz.f241:=⟨Tryz.func241,rfl,rfl,rfl,by kernel_rfl⟩
theorem at242:FnOk Tryz.prog 242 Tryz.f242:=⟨Tryz.func242,rfl,rfl,rfl,by kernel_rfl⟩
theorem at243:FnOk Tryz.prog 243 Tryz.f243:=⟨Tryz.func243,rfl,rfl,rfl,by kernel_rfl⟩
theorem at244:FnOk Tryz.prog 244 Tryz.f244:=⟨Tryz.func244,rfl,rfl,rfl,by kernel_rfl⟩
theorem at245:FnOk Tryz.prog 245 Tryz.f245:=⟨Tryz.func245,rfl,rfl,rfl,by kernel_rfl⟩
theorem at246:FnOk Tryz.prog 246 Tryz.f246:=⟨Tryz.func246,rfl,rfl,rfl,by kernel_rfl⟩
theorem at257:FnOk Tryz.prog 257 Tryz.f257:=⟨Tryz.func257,rfl,rfl,rfl,by kernel_rfl⟩
theorem at258:FnOk Tryz.prog 258 Tryz.f258:=⟨Tryz.func258,rfl,rfl,rfl,by kernel_rfl⟩
theorem at259:FnOk Tryz.prog 259 Tryz.f259:=⟨Tryz.func259,rfl,rfl,rfl,by kernel_rfl⟩
theorem at260:FnOk Tryz.prog 260 Tryz.f260:=⟨Tryz.func260,rfl,rfl,rfl,by kernel_rfl⟩
theorem at262:FnOk Tryz.prog 262 Tryz.f262:=⟨Tryz.func262,rfl,rfl,rfl,by kernel_rfl⟩
theorem at264:FnOk Tryz.prog 264 Tryz.f264:=⟨Tryz.func264,rfl,rfl,rfl,by kernel_rfl⟩
theorem at270:FnOk Tryz.prog 270 Tryz.f270:=⟨Tryz.func270,rfl,rfl,rfl,by kernel_rfl⟩
theorem at271:FnOk Tryz.prog 271 Tryz.f271:=⟨Tryz.func271,rfl,rfl,rfl,by kernel_rfl⟩
theorem at272:FnOk Tryz.prog 272 Tryz.f272:=⟨Tryz.func272,rfl,rfl,rfl,by kernel_rfl⟩
theorem at280:FnOk Tryz.prog 280 Tryz.f280:=⟨Tryz.func280,rfl,rfl,rfl,by kernel_rfl⟩
theorem at281:FnOk Tryz.prog 281 Tryz.f281:=⟨Tryz.func281,rfl,rfl,rfl,by kernel_rfl⟩
theorem at282:FnOk Tryz.prog 282 Tryz.f282:=⟨Tryz.func282,rfl,rfl,rfl,by kernel_rfl⟩
theorem at284:FnOk Tryz.prog 284 Tryz.f284:=⟨Tryz.func284,rfl,rfl,rfl,by kernel_rfl⟩
theorem at322:FnOk Tryz.prog 322 Tryz.f322:=⟨Tryz.func322,rfl,rfl,rfl,by kernel_rfl⟩
theorem at323:FnOk Tryz.prog 323 Tryz.f323:=⟨Tryz.func323,rfl,rfl,rfl,by kernel_rfl⟩
theorem at324:FnOk Tryz.prog 324 Tryz.f324:=⟨Tryz.func324,rfl,rfl,rfl,by kernel_rfl⟩
theorem at325:FnOk Tryz.prog 325 Tryz.f325:=⟨Tryz.func325,rfl,rfl,rfl,by kernel_rfl⟩
theorem at326:FnOk Tryz.prog 326 Tryz.f326:=⟨Tryz.func326,rfl,rfl,rfl,by kernel_rfl⟩
theorem at327:FnOk Tryz.prog 327 Tryz.f327:=⟨Tryz.func327,rfl,rfl,rfl,by kernel_rfl⟩
end Go.Proofs.YtofllflnmmjijaaGreatDoor
