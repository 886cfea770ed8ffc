/- The table of the types, printed by program. Where each function lies in the program, printed by program; no condition. -/
import Derived.Test.YtjkgmglmgndaoaaGreatDoorProg
import Derived.Test.YtjkgmglmgndaoaaGreatDoorP8
set_option maxRecDepth 100000
set_option maxHeartbeats 4000000
namespace Go.Proofs.YtjkgmglmgndaoaaGreatDoor
open Go Go.SX
def ti3:TI:={ row:=false,size:=1,zero:=#[.int .i64 0],kind:=4,ik:=.i64 }
def ti4:TI:={ row:=false,size:=1,zero:=#[.bool false],kind:=5 }
def ti5:TI:={ row:=false,size:=1,zero:=#[.int .u8 0],kind:=4,ik:=.u8 }
def ti7:TI:={ row:=true,size:=4,zero:=#[.int .i64 0,.int .i64 0,.bool false,.int .u8 0],kind:=1,fields:=[(0,2),(1,3),(2,4),(3,6)] }
def ti8:TI:={ row:=true,size:=4,zero:=#[.int .i64 0,.int .i64 0,.bool false,.int .u8 0],kind:=1,fields:=[(0,2),(1,3),(2,4),(3,6)] }
def ti9:TI:={ row:=false,size:=1,zero:=#[.string ByteArray.empty],kind:=0 }
def ti13:TI:={ row:=true,size:=2,zero:=#[.string ByteArray.empty,.int .u64 0],kind:=1,fields:=[(0,9),(1,12)] }
def ti14:TI:={ row:=true,size:=2,zero:=#[.string ByteArray.empty,.int .u64 0],kind:=1,fields:=[(0,9),(1,12)] }
def ti18:TI:={ row:=true,size:=1,zero:=#[.pointer none],kind:=1,fields:=[(0,17)] }
def ti19:TI:={ row:=true,size:=1,zero:=#[.pointer none],kind:=1,fields:=[(0,17)] }
def ti22:TI:={ row:=false,size:=1,zero:=#[.slice none 0 0],kind:=3,elem:=51 }
def ti24:TI:={ row:=false,size:=1,zero:=#[.int .u32 0],kind:=4,ik:=.u32 }
def ti25:TI:={ row:=true,size:=32,zero:=(Array.replicate 32 (.int .u32 0)),kind:=2,len:=32,elem:=24 }
def ti26:TI:={ row:=true,size:=33,zero:=#[.bool false,.int .u32 0,.int .u32 0,.int .u32 0,.int .u32 0,.int .u32 0,.int .u32 0,.int .u32 0,.int .u32 0,.int .u32 0,.int .u32 0,.int .u32 0,.int .u32 0,.int .u32 0,.int .u32 0,.int .u32 0,.int .u32 0,.int .u32 0,.int .u32 0,.int .u32 0,.int .u32 0,.int .u32 0,.int .u32 0,.int .u32 0,.int .u32 0,.int .u32 0,.int .u32 0,.int .u32 0,.int .u32 0,.int .u32 0,.int .u32 0,.int .u32 0,.int .u32 0],kind:=1,fields:=[(0,4),(1,25)] }
def ti27:TI:={ row:=true,size:=33,zero:=#[.bool false,.int .u32 0,.int .u32 0,.int .u32 0,.int .u32 0,.int .u32 0,.int .u32 0,.int .u32 0,.int .u32 0,.int .u32 0,.int .u32 0,.int .u32 0,.int .u32 0,.int .u32 0,.int .u32 0,.int .u32 0,.int .u32 0,.int .u32 0,.int .u32 0,.int .u32 0,.int .u32 0,.int .u32 0,.int .u32 0,.int .u32 0,.int .u32 0,.int .u32 0,.int .u32 0,.int .u32 0,.int .u32 0,.int .u32 0,.int .u32 0,.int .u32 0,.int .u32 0],kind:=1,fields:=[(0,4),(1,25)] }
def ti28:TI:={ row:=true,size:=66,zero:=#[.bool false,.int .u32 0,.int .u32 0,.int .u32 0,.int .u32 0,.int .u32 0,.int .u32 0,.int .u32 0,.int .u32 0,.int .u32 0,.int .u32 0,.int .u32 0,.int .u32 0,.int .u32 0,.int .u32 0,.int .u32 0,.int .u32 0,.int .u32 0,.int .u32 0,.int .u32 0,.int .u32 0,.int .u32 0,.int .u32 0,.int .u32 0,.int .u32 0,.int .u32 0,.int .u32 0,.int .u32 0,.int .u32 0,.int .u32 0,.int .u32 0,.int .u32 0,.int .u32 0,.bool false,.int .u32 0,.int .u32 0,.int .u32 0,.int .u32 0,.int .u32 0,.int .u32 0,.int .u32 0,.int .u32 0,.int .u32 0,.int .u32 0,.int .u32 0,.int .u32 0,.int .u32 0,.int .u32 0,.int .u32 0,.int .u32 0,.int .u32 0,.int .u32 0,.int .u32 0,.int .u32 0,.int .u32 0,.int .u32 0,.int .u32 0,.int .u32 0,.int .u32 0,.int .u32 0,.int .u32 0,.int .u32 0,.int .u32 0,.int .u32 0,.int .u32 0,.int .u32 0],kind:=1,fields:=[(0,27),(33,27)] }
def ti29:TI:={ row:=true,size:=66,zero:=#[.bool false,.int .u32 0,.int .u32 0,.int .u32 0,.int .u32 0,.int .u32 0,.int .u32 0,.int .u32 0,.int .u32 0,.int .u32 0,.int .u32 0,.int .u32 0,.int .u32 0,.int .u32 0,.int .u32 0,.int .u32 0,.int .u32 0,.int .u32 0,.int .u32 0,.int .u32 0,.int .u32 0,.int .u32 0,.int .u32 0,.int .u32 0,.int .u32 0,.int .u32 0,.int .u32 0,.int .u32 0,.int .u32 0,.int .u32 0,.int .u32 0,.int .u32 0,.int .u32 0,.bool false,.int .u32 0,.int .u32 0,.int .u32 0,.int .u32 0,.int .u32 0,.int .u32 0,.int .u32 0,.int .u32 0,.int .u32 0,.int .u32 0,.int .u32 0,.int .u32 0,.int .u32 0,.int .u32 0,.int .u32 0,.int .u32 0,.int .u32 0,.int .u32 0,.int .u32 0,.int .u32 0,.int .u32 0,.int .u32 0,.int .u32 0,.int .u32 0,.int .u32 0,.int .u32 0,.int .u32 0,.int .u32 0,.int .u32 0,.int .u32 0,.int .u32 0,.int .u32 0],kind:=1,fields:=[(0,27),(33,27)] }
def ti30:TI:={ row:=true,size:=68,zero:=#[.slice none 0 0,.bool false,.int .u32 0,.int .u32 0,.int .u32 0,.int .u32 0,.int .u32 0,.int .u32 0,.int .u32 0,.int .u32 0,.int .u32 0,.int .u32 0,.int .u32 0,.int .u32 0,.int .u32 0,.int .u32 0,.int .u32 0,.int .u32 0,.int .u32 0,.int .u32 0,.int .u32 0,.int .u32 0,.int .u32 0,.int .u32 0,.int .u32 0,.int .u32 0,.int .u32 0,.int .u32 0,.int .u32 0,.int .u32 0,.int .u32 0,.int .u32 0,.int .u32 0,.int .u32 0,.bool false,.int .u32 0,.int .u32 0,.int .u32 0,.int .u32 0,.int .u32 0,.int .u32 0,.int .u32 0,.int .u32 0,.int .u32 0,.int .u32 0,.int .u32 0,.int .u32 0,.int .u32 0,.int .u32 0,.int .u32 0,.int .u32 0,.int .u32 0,.int .u32 0,.int .u32 0,.int .u32 0,.int .u32 0,.int .u32 0,.int .u32 0,.int .u32 0,.int .u32 0,.int .u32 0,.int .u32 0,.int .u32 0,.int .u32 0,.int .u32 0,.int .u32 0,.int .u32 0,.int .i64 0],kind:=1,fields:=[(0,23),(1,29),(67,3)] }
def ti31:TI:={ row:=true,size:=68,zero:=#[.slice none 0 0,.bool false,.int .u32 0,.int .u32 0,.int .u32 0,.int .u32 0,.int .u32 0,.int .u32 0,.int .u32 0,.int .u32 0,.int .u32 0,.int .u32 0,.int .u32 0,.int .u32 0,.int .u32 0,.int .u32 0,.int .u32 0,.int .u32 0,.int .u32 0,.int .u32 0,.int .u32 0,.int .u32 0,.int .u32 0,.int .u32 0,.int .u32 0,.int .u32 0,.int .u32 0,.int .u32 0,.int .u32 0,.int .u32 0,.int .u32 0,.int .u32 0,.int .u32 0,.int .u32 0,.bool false,.int .u32 0,.int .u32 0,.int .u32 0,.int .u32 0,.int .u32 0,.int .u32 0,.int .u32 0,.int .u32 0,.int .u32 0,.int .u32 0,.int .u32 0,.int .u32 0,.int .u32 0,.int .u32 0,.int .u32 0,.int .u32 0,.int .u32 0,.int .u32 0,.int .u32 0,.int .u32 0,.int .u32 0,.int .u32 0,.int .u32 0,.int .u32 0,.int .u32 0,.int .u32 0,.int .u32 0,.int .u32 0,.int .u32 0,.int .u32 0,.int .u32 0,.int .u32 0,.int .i64 0],kind:=1,fields:=[(0,23),(1,29),(67,3)] }
def ti41:TI:={ row:=true,size:=2,zero:=#[.slice none 0 0,.int .i64 0],kind:=1,fields:=[(0,39),(1,3)] }
def ti42:TI:={ row:=true,size:=2,zero:=#[.slice none 0 0,.int .i64 0],kind:=1,fields:=[(0,39),(1,3)] }
def ti50:TI:={ row:=true,size:=72,zero:=#[.string ByteArray.empty,.string ByteArray.empty,.string ByteArray.empty,.int .i64 0,.bool false,.int .u32 0,.int .u32 0,.int .u32 0,.int .u32 0,.int .u32 0,.int .u32 0,.int .u32 0,.int .u32 0,.int .u32 0,.int .u32 0,.int .u32 0,.int .u32 0,.int .u32 0,.int .u32 0,.int .u32 0,.int .u32 0,.int .u32 0,.int .u32 0,.int .u32 0,.int .u32 0,.int .u32 0,.int .u32 0,.int .u32 0,.int .u32 0,.int .u32 0,.int .u32 0,.int .u32 0,.int .u32 0,.int .u32 0,.int .u32 0,.int .u32 0,.int .u32 0,.bool false,.int .u32 0,.int .u32 0,.int .u32 0,.int .u32 0,.int .u32 0,.int .u32 0,.int .u32 0,.int .u32 0,.int .u32 0,.int .u32 0,.int .u32 0,.int .u32 0,.int .u32 0,.int .u32 0,.int .u32 0,.int .u32 0,.int .u32 0,.int .u32 0,.int .u32 0,.int .u32 0,.int .u32 0,.int .u32 0,.int .u32 0,.int .u32 0,.int .u32 0,.int .u32 0,.int .u32 0,.int .u32 0,.int .u32 0,.int .u32 0,.int .u32 0,.int .u32 0,.int .i64 0,.bool false],kind:=1,fields:=[(0,9),(1,9),(2,9),(3,3),(4,29),(70,3),(71,4)] }
def ti51:TI:={ row:=true,size:=72,zero:=#[.string ByteArray.empty,.string ByteArray.empty,.string ByteArray.empty,.int .i64 0,.bool false,.int .u32 0,.int .u32 0,.int .u32 0,.int .u32 0,.int .u32 0,.int .u32 0,.int .u32 0,.int .u32 0,.int .u32 0,.int .u32 0,.int .u32 0,.int .u32 0,.int .u32 0,.int .u32 0,.int .u32 0,.int .u32 0,.int .u32 0,.int .u32 0,.int .u32 0,.int .u32 0,.int .u32 0,.int .u32 0,.int .u32 0,.int .u32 0,.int .u32 0,.int .u32 0,.int .u32 0,.int .u32 0,.int .u32 0,.int .u32 0,.int .u32 0,.int .u32 0,.bool false,.int .u32 0,.int .u32 0,.int .u32 0,.int .u32 0,.int .u32 0,.int .u32 0,.int .u32 0,.int .u32 0,.int .u32 0,.int .u32 0,.int .u32 0,.int .u32 0,.int .u32 0,.int .u32 0,.int .u32 0,.int .u32 0,.int .u32 0,.int .u32 0,.int .u32 0,.int .u32 0,.int .u32 0,.int .u32 0,.int .u32 0,.int .u32 0,.int .u32 0,.int .u32 0,.int .u32 0,.int .u32 0,.int .u32 0,.int .u32 0,.int .u32 0,.int .u32 0,.int .i64 0,.bool false],kind:=1,fields:=[(0,9),(1,9),(2,9),(3,3),(4,29),(70,3),(71,4)] }
def ti56:TI:={ row:=true,size:=70,zero:=#[.string ByteArray.empty,.string ByteArray.empty,.int .i64 0,.bool false,.int .u32 0,.int .u32 0,.int .u32 0,.int .u32 0,.int .u32 0,.int .u32 0,.int .u32 0,.int .u32 0,.int .u32 0,.int .u32 0,.int .u32 0,.int .u32 0,.int .u32 0,.int .u32 0,.int .u32 0,.int .u32 0,.int .u32 0,.int .u32 0,.int .u32 0,.int .u32 0,.int .u32 0,.int .u32 0,.int .u32 0,.int .u32 0,.int .u32 0,.int .u32 0,.int .u32 0,.int .u32 0,.int .u32 0,.int .u32 0,.int .u32 0,.int .u32 0,.bool false,.int .u32 0,.int .u32 0,.int .u32 0,.int .u32 0,.int .u32 0,.int .u32 0,.int .u32 0,.int .u32 0,.int .u32 0,.int .u32 0,.int .u32 0,.int .u32 0,.int .u32 0,.int .u32 0,.int .u32 0,.int .u32 0,.int .u32 0,.int .u32 0,.int .u32 0,.int .u32 0,.int .u32 0,.int .u32 0,.int .u32 0,.int .u32 0,.int .u32 0,.int .u32 0,.int .u32 0,.int .u32 0,.int .u32 0,.int .u32 0,.int .u32 0,.int .u32 0,.slice none 0 0],kind:=1,fields:=[(0,9),(1,9),(2,3),(3,29),(69,23)] }
def ti57:TI:={ row:=true,size:=70,zero:=#[.string ByteArray.empty,.string ByteArray.empty,.int .i64 0,.bool false,.int .u32 0,.int .u32 0,.int .u32 0,.int .u32 0,.int .u32 0,.int .u32 0,.int .u32 0,.int .u32 0,.int .u32 0,.int .u32 0,.int .u32 0,.int .u32 0,.int .u32 0,.int .u32 0,.int .u32 0,.int .u32 0,.int .u32 0,.int .u32 0,.int .u32 0,.int .u32 0,.int .u32 0,.int .u32 0,.int .u32 0,.int .u32 0,.int .u32 0,.int .u32 0,.int .u32 0,.int .u32 0,.int .u32 0,.int .u32 0,.int .u32 0,.int .u32 0,.bool false,.int .u32 0,.int .u32 0,.int .u32 0,.int .u32 0,.int .u32 0,.int .u32 0,.int .u32 0,.int .u32 0,.int .u32 0,.int .u32 0,.int .u32 0,.int .u32 0,.int .u32 0,.int .u32 0,.int .u32 0,.int .u32 0,.int .u32 0,.int .u32 0,.int .u32 0,.int .u32 0,.int .u32 0,.int .u32 0,.int .u32 0,.int .u32 0,.int .u32 0,.int .u32 0,.int .u32 0,.int .u32 0,.int .u32 0,.int .u32 0,.int .u32 0,.int .u32 0,.slice none 0 0],kind:=1,fields:=[(0,9),(1,9),(2,3),(3,29),(69,23)] }
def ti65:TI:={ row:=true,size:=71,zero:=#[.slice none 0 0,.slice none 0 0,.bool false,.int .u32 0,.int .u32 0,.int .u32 0,.int .u32 0,.int .u32 0,.int .u32 0,.int .u32 0,.int .u32 0,.int .u32 0,.int .u32 0,.int .u32 0,.int .u32 0,.int .u32 0,.int .u32 0,.int .u32 0,.int .u32 0,.int .u32 0,.int .u32 0,.int .u32 0,.int .u32 0,.int .u32 0,.int .u32 0,.int .u32 0,.int .u32 0,.int .u32 0,.int .u32 0,.int .u32 0,.int .u32 0,.int .u32 0,.int .u32 0,.int .u32 0,.int .u32 0,.bool false,.int .u32 0,.int .u32 0,.int .u32 0,.int .u32 0,.int .u32 0,.int .u32 0,.int .u32 0,.int .u32 0,.int .u32 0,.int .u32 0,.int .u32 0,.int .u32 0,.int .u32 0,.int .u32 0,.int .u32 0,.int .u32 0,.int .u32 0,.int .u32 0,.int .u32 0,.int .u32 0,.int .u32 0,.int .u32 0,.int .u32 0,.int .u32 0,.int .u32 0,.int .u32 0,.int .u32 0,.int .u32 0,.int .u32 0,.int .u32 0,.int .u32 0,.int .u32 0,.int .i64 0,.int .i64 0,.int .i64 0],kind:=1,fields:=[(0,22),(1,31),(69,3),(70,3)] }
def ti66:TI:={ row:=true,size:=71,zero:=#[.slice none 0 0,.slice none 0 0,.bool false,.int .u32 0,.int .u32 0,.int .u32 0,.int .u32 0,.int .u32 0,.int .u32 0,.int .u32 0,.int .u32 0,.int .u32 0,.int .u32 0,.int .u32 0,.int .u32 0,.int .u32 0,.int .u32 0,.int .u32 0,.int .u32 0,.int .u32 0,.int .u32 0,.int .u32 0,.int .u32 0,.int .u32 0,.int .u32 0,.int .u32 0,.int .u32 0,.int .u32 0,.int .u32 0,.int .u32 0,.int .u32 0,.int .u32 0,.int .u32 0,.int .u32 0,.int .u32 0,.bool false,.int .u32 0,.int .u32 0,.int .u32 0,.int .u32 0,.int .u32 0,.int .u32 0,.int .u32 0,.int .u32 0,.int .u32 0,.int .u32 0,.int .u32 0,.int .u32 0,.int .u32 0,.int .u32 0,.int .u32 0,.int .u32 0,.int .u32 0,.int .u32 0,.int .u32 0,.int .u32 0,.int .u32 0,.int .u32 0,.int .u32 0,.int .u32 0,.int .u32 0,.int .u32 0,.int .u32 0,.int .u32 0,.int .u32 0,.int .u32 0,.int .u32 0,.int .u32 0,.int .i64 0,.int .i64 0,.int .i64 0],kind:=1,fields:=[(0,22),(1,31),(69,3),(70,3)] }
def ti131:TI:={ row:=true,size:=32,zero:=(Array.replicate 32 (.int .u32 0)),kind:=2,len:=32,elem:=24 }
def ti138:TI:={ row:=true,size:=64,zero:=(Array.replicate 64 (.int .u32 0)),kind:=2,len:=64,elem:=24 }
def ti152:TI:={ row:=true,size:=35,zero:=#[.bool false,.int .u32 0,.int .u32 0,.int .u32 0,.int .u32 0,.int .u32 0,.int .u32 0,.int .u32 0,.int .u32 0,.int .u32 0,.int .u32 0,.int .u32 0,.int .u32 0,.int .u32 0,.int .u32 0,.int .u32 0,.int .u32 0,.int .u32 0,.int .u32 0,.int .u32 0,.int .u32 0,.int .u32 0,.int .u32 0,.int .u32 0,.int .u32 0,.int .u32 0,.int .u32 0,.int .u32 0,.int .u32 0,.int .u32 0,.int .u32 0,.int .u32 0,.int .u32 0,.int .i64 0,.bool false],kind:=1,fields:=[(0,27),(33,3),(34,4)] }
def ti153:TI:={ row:=true,size:=35,zero:=#[.bool false,.int .u32 0,.int .u32 0,.int .u32 0,.int .u32 0,.int .u32 0,.int .u32 0,.int .u32 0,.int .u32 0,.int .u32 0,.int .u32 0,.int .u32 0,.int .u32 0,.int .u32 0,.int .u32 0,.int .u32 0,.int .u32 0,.int .u32 0,.int .u32 0,.int .u32 0,.int .u32 0,.int .u32 0,.int .u32 0,.int .u32 0,.int .u32 0,.int .u32 0,.int .u32 0,.int .u32 0,.int .u32 0,.int .u32 0,.int .u32 0,.int .u32 0,.int .u32 0,.int .i64 0,.bool false],kind:=1,fields:=[(0,27),(33,3),(34,4)] }
def ti157:TI:={ row:=true,size:=3,zero:=#[.string ByteArray.empty,.int .i64 0,.bool false],kind:=1,fields:=[(0,9),(1,3),(2,4)] }
def ti158:TI:={ row:=true,size:=3,zero:=#[.string ByteArray.empty,.int .i64 0,.bool false],kind:=1,fields:=[(0,9),(1,3),(2,4)] }
def ti178:TI:={ row:=true,size:=33,zero:=(Array.replicate 33 (.int .u32 0)),kind:=2,len:=33,elem:=24 }
def ti200:TI:={ row:=true,size:=2,zero:=#[.int .i64 0,.int .i64 0],kind:=1,fields:=[(0,3),(1,3)] }
def ti204:TI:={ row:=true,size:=256,zero:=(Array.replicate 256 (.bool false)),kind:=2,len:=256,elem:=4 }
def ti205:TI:={ row:=true,size:=256,zero:=(Array.replicate 256 (.bool false)),kind:=2,len:=256,elem:=4 }
def ti229:TI:={ row:=true,size:=2,zero:=#[.pointer none,.slice none 0 0],kind:=1,fields:=[(0,228),(1,199)] }
def ti230:TI:={ row:=true,size:=2,zero:=#[.pointer none,.slice none 0 0],kind:=1,fields:=[(0,228),(1,199)] }
def ti259:TI:={ row:=true,size:=256,zero:=(Array.replicate 256 (.int .u8 0)),kind:=2,len:=256,elem:=5 }
def ti260:TI:={ row:=true,size:=2,zero:=#[.int .u8 0,.int .u8 0],kind:=1,fields:=[(0,5),(1,5)] }
def ti261:TI:={ row:=true,size:=2,zero:=#[.int .u8 0,.int .u8 0],kind:=1,fields:=[(0,5),(1,5)] }
def ti262:TI:={ row:=true,size:=32,zero:=(Array.replicate 32 (.int .u8 0)),kind:=2,len:=16,elem:=261 }
def ti264:TI:={ row:=true,size:=4,zero:=#[.pointer none,.pointer none,.pointer none,.string ByteArray.empty],kind:=1,fields:=[(0,17),(1,17),(2,17),(3,9)] }
def ti265:TI:={ row:=true,size:=4,zero:=#[.pointer none,.pointer none,.pointer none,.string ByteArray.empty],kind:=1,fields:=[(0,17),(1,17),(2,17),(3,9)] }
def ti266:TI:={ row:=true,size:=0,zero:=#[],kind:=2,len:=0,elem:=16 }
def ti267:TI:={ row:=true,size:=0,zero:=#[],kind:=1,fields:=[(0,266)] }
def ti268:TI:={ row:=true,size:=0,zero:=#[],kind:=1,fields:=[(0,266)] }
def ti274:TI:={ row:=true,size:=11,zero:=#[.int .u64 0,.int .u64 0,.int .u32 0,.int .u8 0,.int .u8 0,.int .u8 0,.int .u8 0,.nilFunc,.pointer none,.int .i32 0,.int .i32 0],kind:=1,fields:=[(0,12),(1,12),(2,24),(3,269),(4,5),(5,5),(6,270),(7,271),(8,248),(9,272),(10,273)] }
def ti275:TI:={ row:=true,size:=11,zero:=#[.int .u64 0,.int .u64 0,.int .u32 0,.int .u8 0,.int .u8 0,.int .u8 0,.int .u8 0,.nilFunc,.pointer none,.int .i32 0,.int .i32 0],kind:=1,fields:=[(0,12),(1,12),(2,24),(3,269),(4,5),(5,5),(6,270),(7,271),(8,248),(9,272),(10,273)] }
def ti276:TI:={ row:=true,size:=1,zero:=#[.string ByteArray.empty],kind:=1,fields:=[(0,9)] }
def ti277:TI:={ row:=true,size:=1,zero:=#[.string ByteArray.empty],kind:=1,fields:=[(0,9)] }
def tt_0:TypeId→Option TI
 | 1=>some (tV .nilFunc)
 | 2=>some (tI .i64)
 | 3=>some ti3
 | 4=>some ti4
 | 5=>some ti5
 | 6=>some (tI .u8)
 | 7=>some ti7
 | 8=>some ti8
 | 9=>some ti9
 | 10=>some (tV (.string ByteArray.empty))
 | 11=>some (tV (.string ByteArray.empty))
 | 12=>some (tI .u64)
 | 13=>some ti13
 | 14=>some ti14
 | 15=>some (tV (.pointer none))
 | 16=>some (tV (.pointer none))
 | _=>none
def tt_1:TypeId→Option TI
 | 17=>some (tV (.pointer none))
 | 18=>some ti18
 | 19=>some ti19
 | 20=>some (tV .nilIface)
 | 21=>some (tI .i32)
 | 22=>some ti22
 | 23=>some (tS 9)
 | 24=>some ti24
 | 25=>some ti25
 | 26=>some ti26
 | 27=>some ti27
 | 28=>some ti28
 | 29=>some ti29
 | 30=>some ti30
 | 31=>some ti31
 | 32=>some (tI .i64)
 | _=>none
def tt_2:TypeId→Option TI
 | 34=>some (tV .nilFunc)
 | 36=>some (tV .nilFunc)
 | 37=>some (tV .nilFunc)
 | 38=>some (tV .nilFunc)
 | 39=>some (tS 3)
 | 40=>some (tV (.pointer none))
 | 41=>some ti41
 | 42=>some ti42
 | 43=>some (tV .nilFunc)
 | 44=>some (tV .nilFunc)
 | 45=>some (tV .nilFunc)
 | 46=>some (tV .nilFunc)
 | 47=>some (tV .nilFunc)
 | 48=>some (tV .nilFunc)
 | 49=>some (tV .nilFunc)
 | 50=>some ti50
 | _=>none
def tt_3:TypeId→Option TI
 | 51=>some ti51
 | 52=>some (tV .nilFunc)
 | 53=>some (tV .nilFunc)
 | 54=>some (tV .nilFunc)
 | 55=>some (tV .nilFunc)
 | 56=>some ti56
 | 57=>some ti57
 | 59=>some (tV .nilFunc)
 | 61=>some (tV .nilFunc)
 | 62=>some (tV .nilFunc)
 | 63=>some (tV .nilFunc)
 | 64=>some (tV .nilFunc)
 | 65=>some ti65
 | 66=>some ti66
 | 67=>some (tV .nilFunc)
 | 69=>some (tV .nilFunc)
 | _=>none
def tt_4:TypeId→Option TI
 | 70=>some (tV .nilFunc)
 | 71=>some (tV .nilFunc)
 | 72=>some (tV .nilFunc)
 | 73=>some (tV .nilFunc)
 | 74=>some (tV .nilFunc)
 | 75=>some (tV .nilFunc)
 | 76=>some (tV .nilFunc)
 | 77=>some (tV .nilFunc)
 | 78=>some (tV .nilFunc)
 | 79=>some (tV .nilFunc)
 | 80=>some (tV .nilFunc)
 | 81=>some (tV .nilFunc)
 | 83=>some (tV .nilFunc)
 | 84=>some (tV .nilFunc)
 | 85=>some (tV .nilFunc)
 | 86=>some (tV .nilFunc)
 | _=>none
def tt_5:TypeId→Option TI
 | 87=>some (tV .nilFunc)
 | 88=>some (tV .nilFunc)
 | 89=>some (tV .nilFunc)
 | 90=>some (tV .nilFunc)
 | 91=>some (tS 29)
 | 92=>some (tV .nilFunc)
 | 93=>some (tV .nilFunc)
 | 94=>some (tV .nilFunc)
 | 95=>some (tV .nilFunc)
 | 96=>some (tV .nilFunc)
 | 97=>some (tV .nilFunc)
 | 98=>some (tV .nilFunc)
 | 99=>some (tV .nilFunc)
 | 100=>some (tV .nilFunc)
 | 102=>some (tV .nilFunc)
 | 104=>some (tV .nilFunc)
 | _=>none
def tt_6:TypeId→Option TI
 | 105=>some (tV .nilFunc)
 | 106=>some (tV .nilFunc)
 | 107=>some (tV .nilFunc)
 | 108=>some (tV .nilFunc)
 | 109=>some (tV .nilFunc)
 | 110=>some (tV .nilFunc)
 | 111=>some (tV .nilFunc)
 | 112=>some (tV .nilFunc)
 | 113=>some (tV .nilFunc)
 | 114=>some (tV .nilFunc)
 | 116=>some (tV .nilFunc)
 | 117=>some (tV .nilFunc)
 | 118=>some (tI .u64)
 | 119=>some (tV .nilFunc)
 | 120=>some (tI .u64)
 | 121=>some (tV .nilFunc)
 | _=>none
def tt_7:TypeId→Option TI
 | 122=>some (tS 158)
 | 123=>some (tV .nilFunc)
 | 124=>some (tV .nilFunc)
 | 126=>some (tV .nilFunc)
 | 127=>some (tV .nilFunc)
 | 128=>some (tV .nilFunc)
 | 129=>some (tV .nilFunc)
 | 130=>some (tV .nilFunc)
 | 131=>some ti131
 | 132=>some (tV .nilFunc)
 | 134=>some (tV .nilFunc)
 | 135=>some (tV .nilFunc)
 | 137=>some (tV .nilFunc)
 | 138=>some ti138
 | 140=>some (tV .nilFunc)
 | 141=>some (tV .nilFunc)
 | _=>none
def tt_8:TypeId→Option TI
 | 142=>some (tV .nilFunc)
 | 143=>some (tV .nilFunc)
 | 145=>some (tV .nilFunc)
 | 147=>some (tV .nilFunc)
 | 148=>some (tV (.pointer none))
 | 150=>some (tV .nilFunc)
 | 151=>some (tV .nilFunc)
 | 152=>some ti152
 | 153=>some ti153
 | 154=>some (tV .nilFunc)
 | 155=>some (tV .nilFunc)
 | 156=>some (tV .nilFunc)
 | 157=>some ti157
 | 158=>some ti158
 | 159=>some (tV .nilFunc)
 | 160=>some (tV .nilFunc)
 | _=>none
def tt_9:TypeId→Option TI
 | 161=>some (tV .nilFunc)
 | 162=>some (tV .nilFunc)
 | 163=>some (tV .nilFunc)
 | 165=>some (tV .nilFunc)
 | 166=>some (tV .nilFunc)
 | 167=>some (tV .nilFunc)
 | 168=>some (tV .nilFunc)
 | 169=>some (tV .nilFunc)
 | 170=>some (tV (.map none))
 | 171=>some (tV .nilFunc)
 | 172=>some (tV .nilFunc)
 | 173=>some (tV .nilFunc)
 | 174=>some (tV .nilFunc)
 | 175=>some (tV .nilFunc)
 | 176=>some (tV .nilFunc)
 | 177=>some (tV .nilFunc)
 | _=>none
def tt_10:TypeId→Option TI
 | 178=>some ti178
 | 180=>some (tV .nilFunc)
 | 182=>some (tV .nilFunc)
 | 183=>some (tV .nilFunc)
 | 184=>some (tV .nilFunc)
 | 186=>some (tV .nilFunc)
 | 187=>some (tV .nilFunc)
 | 189=>some (tV .nilFunc)
 | 190=>some (tV .nilFunc)
 | 191=>some (tV .nilFunc)
 | 193=>some (tV .nilFunc)
 | 194=>some (tV .nilFunc)
 | 195=>some (tV .nilFunc)
 | 196=>some (tV .nilFunc)
 | 197=>some (tV .nilFunc)
 | 198=>some (tS 24)
 | _=>none
def tt_11:TypeId→Option TI
 | 199=>some (tS 5)
 | 200=>some ti200
 | 201=>some (tS 200)
 | 202=>some (tV .nilFunc)
 | 203=>some (tV .nilFunc)
 | 204=>some ti204
 | 205=>some ti205
 | 207=>some (tV .nilFunc)
 | 208=>some (tV .nilFunc)
 | 209=>some (tV (.pointer none))
 | 211=>some (tV .nilFunc)
 | 212=>some (tV .nilFunc)
 | 213=>some (tV .nilFunc)
 | 214=>some (tV .nilFunc)
 | 215=>some (tV .nilFunc)
 | 216=>some (tI .i64)
 | _=>none
def tt_12:TypeId→Option TI
 | 218=>some (tV .nilFunc)
 | 219=>some (tV .nilFunc)
 | 220=>some (tV .nilFunc)
 | 221=>some (tV .nilFunc)
 | 222=>some (tV .nilFunc)
 | 223=>some (tV .nilIface)
 | 224=>some (tV .nilIface)
 | 225=>some (tV .nilFunc)
 | 227=>some (tV .nilFunc)
 | 228=>some (tV (.pointer none))
 | 229=>some ti229
 | 230=>some ti230
 | 231=>some (tV .nilFunc)
 | 233=>some (tV .nilFunc)
 | 234=>some (tV .nilFunc)
 | 236=>some (tV .nilFunc)
 | _=>none
def tt_13:TypeId→Option TI
 | 237=>some (tV .nilFunc)
 | 238=>some (tV .nilFunc)
 | 239=>some (tI .u64)
 | 240=>some (tV .nilFunc)
 | 241=>some (tV .nilFunc)
 | 242=>some (tV .nilFunc)
 | 243=>some (tV (.pointer none))
 | 244=>some (tV .nilFunc)
 | 245=>some (tV .nilFunc)
 | 247=>some (tV .nilFunc)
 | 248=>some (tV (.pointer none))
 | 249=>some (tV .nilFunc)
 | 250=>some (tV (.pointer none))
 | 252=>some (tV .nilFunc)
 | 254=>some (tV .nilFunc)
 | 255=>some (tV .nilFunc)
 | _=>none
def tt_14:TypeId→Option TI
 | 256=>some (tV .nilFunc)
 | 257=>some (tV .nilFunc)
 | 258=>some (tV .nilFunc)
 | 259=>some ti259
 | 260=>some ti260
 | 261=>some ti261
 | 262=>some ti262
 | 263=>some (tV (.pointer none))
 | 264=>some ti264
 | 265=>some ti265
 | 266=>some ti266
 | 267=>some ti267
 | 268=>some ti268
 | 269=>some (tI .u8)
 | 270=>some (tI .u8)
 | 271=>some (tV .nilFunc)
 | _=>none
def tt_15:TypeId→Option TI
 | 272=>some (tI .i32)
 | 273=>some (tI .i32)
 | 274=>some ti274
 | 275=>some ti275
 | 276=>some ti276
 | 277=>some ti277
 | _=>none
def tt (ty:TypeId):Option TI :=
 if Nat.ble 278 ty then none else
 if Nat.ble ty 16 then tt_0 ty else
 if Nat.ble ty 32 then tt_1 ty else
 if Nat.ble ty 50 then tt_2 ty else
 if Nat.ble ty 69 then tt_3 ty else
 if Nat.ble ty 86 then tt_4 ty else
 if Nat.ble ty 104 then tt_5 ty else
 if Nat.ble ty 121 then tt_6 ty else
 if Nat.ble ty 141 then tt_7 ty else
 if Nat.ble ty 160 then tt_8 ty else
 if Nat.ble ty 177 then tt_9 ty else
 if Nat.ble ty 198 then tt_10 ty else
 if Nat.ble ty 216 then tt_11 ty else
 if Nat.ble ty 236 then tt_12 ty else
 if Nat.ble ty 255 then tt_13 ty else
 if Nat.ble ty 271 then tt_14 ty else
 tt_15 ty
theorem tt_ok:TTok Tryz.prog tt:=tt_of 278 (fun _ h=>if_pos (Nat.ble_eq_true_of_le h)) (by kernel_rfl)
theorem tok3:TIok Tryz.prog 3 ti3:=tt_ok 3 _ rfl
theorem tok4:TIok Tryz.prog 4 ti4:=tt_ok 4 _ rfl
theorem tok24:TIok Tryz.prog 24 ti24:=tt_ok 24 _ rfl
theorem tok25:TIok Tryz.prog 25 ti25:=tt_ok 25 _ rfl
theorem tok27:TIok Tryz.prog 27 ti27:=tt_ok 27 _ rfl
theorem tok29:TIok Tryz.prog 29 ti29:=tt_ok 29 _ rfl
theorem mixed:Tryz.prog.follows .mixedOrders=true:=by kernel_rfl
set_option maxRecDepth 100000
theorem at3:FnOk Tryz.prog 3 Tryz.f3:=⟨Tryz.func3,rfl,rfl,rfl,by kernel_rfl⟩
theorem at4:FnOk Tryz.prog 4 Tryz.f4:=⟨Tryz.func4,rfl,rfl,rfl,by kernel_rfl⟩
theorem at5:FnOk Tryz.prog 5 Tryz.f5:=⟨Tryz.func5,rfl,rfl,rfl,by kernel_rfl⟩
theorem at6:FnOk Tryz.prog 6 Tryz.f6:=⟨Tryz.func6,rfl,rfl,rfl,by kernel_rfl⟩
theorem at7:FnOk Tryz.prog 7 Tryz.f7:=⟨Tryz.func7,rfl,rfl,rfl,by kernel_rfl⟩
theorem at8:FnOk Tryz.prog 8 Tryz.f8:=⟨Tryz.func8,rfl,rfl,rfl,by kernel_rfl⟩
theorem at9:FnOk Tryz.prog 9 Tryz.f9:=⟨Tryz.func9,rfl,rfl,rfl,by kernel_rfl⟩
theorem at10:FnOk Tryz.prog 10 Tryz.f10:=⟨Tryz.func10,rfl,rfl,rfl,by kernel_rfl⟩
theorem at11:FnOk Tryz.prog 11 Tryz.f11:=⟨Tryz.func11,rfl,rfl,rfl,by kernel_rfl⟩
theorem at12:FnOk Tryz.prog 12 Tryz.f12:=⟨Tryz.func12,rfl,rfl,rfl,by kernel_rfl⟩
theorem at13:FnOk Tryz.prog 13 Tryz.f13:=⟨Tryz.func13,rfl,rfl,rfl,by kernel_rfl⟩
theorem at14:FnOk Tryz.prog 14 Tryz.f14:=⟨Tryz.func14,rfl,rfl,rfl,by kernel_rfl⟩
theorem at15:FnOk Tryz.prog 15 Tryz.f15:=⟨Tryz.func15,rfl,rfl,rfl,by kernel_rfl⟩
theorem at16:FnOk Tryz.prog 16 Tryz.f16:=⟨Tryz.func16,rfl,rfl,rfl,by kernel_rfl⟩
theorem at17:FnOk Tryz.prog 17 Tryz.f17:=⟨Tryz.func17,rfl,rfl,rfl,by kernel_rfl⟩
theorem at18:FnOk Tryz.prog 18 Tryz.f18:=⟨Tryz.func18,rfl,rfl,rfl,by kernel_rfl⟩
theorem at19:FnOk Tryz.prog 19 Tryz.f19:=⟨Tryz.func19,rfl,rfl,rfl,by kernel_rfl⟩
theorem at20:FnOk Tryz.prog 20 Tryz.f20:=⟨Tryz.func20,rfl,rfl,rfl,by kernel_rfl⟩
theorem at21:FnOk Tryz.prog 21 Tryz.f21:=⟨Tryz.func21,rfl,rfl,rfl,by kernel_rfl⟩
theorem at22:FnOk Tryz.prog 22 Tryz.f22:=⟨Tryz.func22,rfl,rfl,rfl,by kernel_rfl⟩
theorem at23:FnOk Tryz.prog 23 Tryz.f23:=⟨Tryz.func23,rfl,rfl,rfl,by kernel_rfl⟩
theorem at24:FnOk Tryz.prog 24 Tryz.f24:=⟨Tryz.func24,rfl,rfl,rfl,by kernel_rfl⟩
theorem at25:FnOk Tryz.prog 25 Tryz.f25:=⟨Tryz.func25,rfl,rfl,rfl,by kernel_rfl⟩
theorem at26:FnOk Tryz.prog 26 Tryz.f26:=⟨Tryz.func26,rfl,rfl,rfl,by kernel_rfl⟩
theorem at27:FnOk Tryz.prog 27 Tryz.f27:=⟨Tryz.func27,rfl,rfl,rfl,by kernel_rfl⟩
theorem at28:FnOk Tryz.prog 28 Tryz.f28:=⟨Tryz.func28,rfl,rfl,rfl,by kernel_rfl⟩
theorem at29:FnOk Tryz.prog 29 Tryz.f29:=⟨Tryz.func29,rfl,rfl,rfl,by kernel_rfl⟩
theorem at30:FnOk Tryz.prog 30 Tryz.f30:=⟨Tryz.func30,rfl,rfl,rfl,by kernel_rfl⟩
theorem at31:FnOk Tryz.prog 31 Tryz.f31:=⟨Tryz.func31,rfl,rfl,rfl,by kernel_rfl⟩
theorem at32:FnOk Tryz.prog 32 Tryz.f32:=⟨Tryz.func32,rfl,rfl,rfl,by kernel_rfl⟩
theorem at33:FnOk Tryz.prog 33 Tryz.f33:=⟨Tryz.func33,rfl,rfl,rfl,by kernel_rfl⟩
theorem at34:FnOk Tryz.prog 34 Tryz.f34:=⟨Tryz.func34,rfl,rfl,rfl,by kernel_rfl⟩
theorem at35:FnOk Tryz.prog 35 Tryz.f35:=⟨Tryz.func35,rfl,rfl,rfl,by kernel_rfl⟩
theorem at36:FnOk Tryz.prog 36 Tryz.f36:=⟨Tryz.func36,rfl,rfl,rfl,by kernel_rfl⟩
theorem at37:FnOk Tryz.prog 37 Tryz.f37:=⟨Tryz.func37,rfl,rfl,rfl,by kernel_rfl⟩
theorem at38:FnOk Tryz.prog 38 Tryz.f38:=⟨Tryz.func38,rfl,rfl,rfl,by kernel_rfl⟩
theorem at39:FnOk Tryz.prog 39 Tryz.f39:=⟨Tryz.func39,rfl,rfl,rfl,by kernel_rfl⟩
theorem at40:FnOk Tryz.prog 40 Tryz.f40:=⟨Tryz.func40,rfl,rfl,rfl,by kernel_rfl⟩
theorem at41:FnOk Tryz.prog 41 Tryz.f41:=⟨Tryz.func41,rfl,rfl,rfl,by kernel_rfl⟩
theorem at42:FnOk Tryz.prog 42 Tryz.f42:=⟨Tryz.func42,rfl,rfl,rfl,by kernel_rfl⟩
theorem at43:FnOk Tryz.prog 43 Tryz.f43:=⟨Tryz.func43,rfl,rfl,rfl,by kernel_rfl⟩
theorem at44:FnOk Tryz.prog 44 Tryz.f44:=⟨Tryz.func44,rfl,rfl,rfl,by kernel_rfl⟩
theorem at45:FnOk Tryz.prog 45 Tryz.f45:=⟨Tryz.func45,rfl,rfl,rfl,by kernel_rfl⟩
theorem at46:FnOk Tryz.prog 46 Tryz.f46:=⟨Tryz.func46,rfl,rfl,rfl,by kernel_rfl⟩
theorem at47:FnOk Tryz.prog 47 Tryz.f47:=⟨Tryz.func47,rfl,rfl,rfl,by kernel_rfl⟩
theorem at48:FnOk Tryz.prog 48 Tryz.f48:=⟨Tryz.func48,rfl,rfl,rfl,by kernel_rfl⟩
theorem at49:FnOk Tryz.prog 49 Tryz.f49:=⟨Tryz.func49,rfl,rfl,rfl,by kernel_rfl⟩
theorem at50:FnOk Tryz.prog 50 Tryz.f50:=⟨Tryz.func50,rfl,rfl,rfl,by kernel_rfl⟩
theorem at51:FnOk Tryz.prog 51 Tryz.f51:=⟨Tryz.func51,rfl,rfl,rfl,by kernel_rfl⟩
theorem at52:FnOk Tryz.prog 52 Tryz.f52:=⟨Tryz.func52,rfl,rfl,rfl,by kernel_rfl⟩
theorem at53:FnOk Tryz.prog 53 Tryz.f53:=⟨Tryz.func53,rfl,rfl,rfl,by kernel_rfl⟩
theorem at54:FnOk Tryz.prog 54 Tryz.f54:=⟨Tryz.func54,rfl,rfl,rfl,by kernel_rfl⟩
theorem at55:FnOk Tryz.prog 55 Tryz.f55:=⟨Tryz.func55,rfl,rfl,rfl,by kernel_rfl⟩
theorem at56:FnOk Tryz.prog 56 Tryz.f56:=⟨Tryz.func56,rfl,rfl,rfl,by kernel_rfl⟩
theorem at57:FnOk Tryz.prog 57 Tryz.f57:=⟨Tryz.func57,rfl,rfl,rfl,by kernel_rfl⟩
theorem at58:FnOk Tryz.prog 58 Tryz.f58:=⟨Tryz.func58,rfl,rfl,rfl,by kernel_rfl⟩
theorem at59:FnOk Tryz.prog 59 Tryz.f59:=⟨Tryz.func59,rfl,rfl,rfl,by kernel_rfl⟩
theorem at60:FnOk Tryz.prog 60 Tryz.f60:=⟨Tryz.func60,rfl,rfl,rfl,by kernel_rfl⟩
theorem at61:FnOk Tryz.prog 61 Tryz.f61:=⟨Tryz.func61,rfl,rfl,rfl,by kernel_rfl⟩
theorem at62:FnOk Tryz.prog 62 Tryz.f62:=⟨Tryz.func62,rfl,rfl,rfl,by kernel_rfl⟩
theorem at63:FnOk Tryz.prog 63 Tryz.f63:=⟨Tryz.func63,rfl,rfl,rfl,by kernel_rfl⟩
theorem at64:FnOk Tryz.prog 64 Tryz.f64:=⟨Tryz.func64,rfl,rfl,rfl,by kernel_rfl⟩
theorem at65:FnOk Tryz.prog 65 Tryz.f65:=⟨Tryz.func65,rfl,rfl,rfl,by kernel_rfl⟩
theorem at66:FnOk Tryz.prog 66 Tryz.f66:=⟨Tryz.func66,rfl,rfl,rfl,by kernel_rfl⟩
theorem at67:FnOk Tryz.prog 67 Tryz.f67:=⟨Tryz.func67,rfl,rfl,rfl,by kernel_rfl⟩
theorem at68:FnOk Tryz.prog 68 Tryz.f68:=⟨Tryz.func68,rfl,rfl,rfl,by kernel_rfl⟩
theorem at69:FnOk Tryz.prog 69 Tryz.f69:=⟨Tryz.func69,rfl,rfl,rfl,by kernel_rfl⟩
theorem at70:FnOk Tryz.prog 70 Tryz.f70:=⟨Tryz.func70,rfl,rfl,rfl,by kernel_rfl⟩
theorem at71:FnOk Tryz.prog 71 Tryz.f71:=⟨Tryz.func71,rfl,rfl,rfl,by kernel_rfl⟩
theorem at72:FnOk Tryz.prog 72 Tryz.f72:=⟨Tryz.func72,rfl,rfl,rfl,by kernel_rfl⟩
theorem at73:FnOk Tryz.prog 73 Tryz.f73:=⟨Tryz.func73,rfl,rfl,rfl,by kernel_rfl⟩
theorem at74:FnOk Tryz.prog 74 Tryz.f74:=⟨Tryz.func74,rfl,rfl,rfl,by kernel_rfl⟩
theorem at75:FnOk Tryz.prog 75 Tryz.f75:=⟨Tryz.func75,rfl,rfl,rfl,by kernel_rfl⟩
theorem at76:FnOk Tryz.prog 76 Tryz.f76:=⟨Tryz.func76,rfl,rfl,rfl,by kernel_rfl⟩
theorem at77:FnOk Tryz.prog 77 Tryz.f77:=⟨Tryz.func77,rfl,rfl,rfl,by kernel_rfl⟩
theorem at78:FnOk Tryz.prog 78 Tryz.f78:=⟨Tryz.func78,rfl,rfl,rfl,by kernel_rfl⟩
theorem at79:FnOk Tryz.prog 79 Tryz.f79:=⟨Tryz.func79,rfl,rfl,rfl,by kernel_rfl⟩
theorem at80:FnOk Tryz.prog 80 Tryz.f80:=⟨Tryz.func80,rfl,rfl,rfl,by kernel_rfl⟩
theorem at81:FnOk Tryz.prog 81 Tryz.f81:=⟨Tryz.func81,rfl,rfl,rfl,by kernel_rfl⟩
theorem at82:FnOk Tryz.prog 82 Tryz.f82:=⟨Tryz.func82,rfl,rfl,rfl,by kernel_rfl⟩
theorem at83:FnOk Tryz.prog 83 Tryz.f83:=⟨Tryz.func83,rfl,rfl,rfl,by kernel_rfl⟩
theorem at84:FnOk Tryz.prog 84 Tryz.f84:=⟨Tryz.func84,rfl,rfl,rfl,by kernel_rfl⟩
theorem at85:FnOk Tryz.prog 85 Tryz.f85:=⟨Tryz.func85,rfl,rfl,rfl,by kernel_rfl⟩
theorem at86:FnOk Tryz.prog 86 Tryz.f86:=⟨Tryz.func86,rfl,rfl,rfl,by kernel_rfl⟩
theorem at87:FnOk Tryz.prog 87 Tryz.f87:=⟨Tryz.func87,rfl,rfl,rfl,by kernel_rfl⟩
theorem at88:FnOk Tryz.prog 88 Tryz.f88:=⟨Tryz.func88,rfl,rfl,rfl,by kernel_rfl⟩
theorem at89:FnOk Tryz.prog 89 Tryz.f89:=⟨Tryz.func89,rfl,rfl,rfl,by kernel_rfl⟩
theorem at90:FnOk Tryz.prog 90 Tryz.f90:=⟨Tryz.func90,rfl,rfl,rfl,by kernel_rfl⟩
theorem at91:FnOk Tryz.prog 91 Tryz.f91:=⟨Tryz.func91,rfl,rfl,rfl,by kernel_rfl⟩
theorem at92:FnOk Tryz.prog 92 Tryz.f92:=⟨Tryz.func92,rfl,rfl,rfl,by kernel_rfl⟩
theorem at93:FnOk Tryz.prog 93 Tryz.f93:=⟨Tryz.func93,rfl,rfl,rfl,by kernel_rfl⟩
theorem at94:FnOk Tryz.prog 94 Tryz.f94:=⟨Tryz.func94,rfl,rfl,rfl,by kernel_rfl⟩
theorem at95:FnOk Tryz.prog 95 Tryz.f95:=⟨Tryz.func95,rfl,rfl,rfl,by kernel_rfl⟩
theorem at96:FnOk Tryz.prog 96 Tryz.f96:=⟨Tryz.func96,rfl,rfl,rfl,by kernel_rfl⟩
theorem at97:FnOk Tryz.prog 97 Tryz.f97:=⟨Tryz.func97,rfl,rfl,rfl,by kernel_rfl⟩
theorem at98:FnOk Tryz.prog 98 Tryz.f98:=⟨Tryz.func98,rfl,rfl,rfl,by kernel_rfl⟩
theorem at99:FnOk Tryz.prog 99 Tryz.f99:=⟨Tryz.func99,rfl,rfl,rfl,by kernel_rfl⟩
theorem at100:FnOk Tryz.prog 100 Tryz.f100:=⟨Tryz.func100,rfl,rfl,rfl,by kernel_rfl⟩
theorem at101:FnOk Tryz.prog 101 Tryz.f101:=⟨Tryz.func101,rfl,rfl,rfl,by kernel_rfl⟩
theorem at102:FnOk Tryz.prog 102 Tryz.f102:=⟨Tryz.func102,rfl,rfl,rfl,by kernel_rfl⟩
theorem at103:FnOk Tryz.prog 103 Tryz.f103:=⟨Tryz.func103,rfl,rfl,rfl,by kernel_rfl⟩
theorem at104:FnOk Tryz.prog 104 Tryz.f104:=⟨Tryz.func104,rfl,rfl,rfl,by kernel_rfl⟩
theorem at105:FnOk Tryz.prog 105 Tryz.f105:=⟨Tryz.func105,rfl,rfl,rfl,by kernel_rfl⟩
theorem at106:FnOk Tryz.prog 106 Tryz.f106:=⟨Tryz.func106,rfl,rfl,rfl,by kernel_rfl⟩
theorem at107:FnOk Tryz.prog 107 Tryz.f107:=⟨Tryz.func107,rfl,rfl,rfl,by kernel_rfl⟩
theorem at108:FnOk Tryz.prog 108 Tryz.f108:=⟨Tryz.func108,rfl,rfl,rfl,by kernel_rfl⟩
theorem at109:FnOk Tryz.prog 109 Tryz.f109:=⟨Tryz.func109,rfl,rfl,rfl,by kernel_rfl⟩
theorem at110:FnOk Tryz.prog 110 Tryz.f110:=⟨Tryz.func110,rfl,rfl,rfl,by kernel_rfl⟩
theorem at111:FnOk Tryz.prog 111 Tryz.f111:=⟨Tryz.func111,rfl,rfl,rfl,by kernel_rfl⟩
theorem at112:FnOk Tryz.prog 112 Tryz.f112:=⟨Tryz.func112,rfl,rfl,rfl,by kernel_rfl⟩
theorem at113:FnOk Tryz.prog 113 Tryz.f113:=⟨Tryz.func113,rfl,rfl,rfl,by kernel_rfl⟩
theorem at114:FnOk Tryz.prog 114 Tryz.f114:=⟨Tryz.func114,rfl,rfl,rfl,by kernel_rfl⟩
theorem at115:FnOk Tryz.prog 115 Tryz.f115:=⟨Tryz.func115,rfl,rfl,rfl,by kernel_rfl⟩
theorem at116:FnOk Tryz.prog 116 Tryz.f116:=⟨Tryz.func116,rfl,rfl,rfl,by kernel_rfl⟩
theorem at117:FnOk Tryz.prog 117 Tryz.f117:=⟨Tryz.func117,rfl,rfl,rfl,by kernel_rfl⟩
theorem at118:FnOk Tryz.prog 118 Tryz.f118:=⟨Tryz.func118,rfl,rfl,rfl,by kernel_rfl⟩
theorem at119:FnOk Tryz.prog 119 Tryz.f119:=⟨Tryz.func119,rfl,rfl,rfl,by kernel_rfl⟩
theorem at120:FnOk Tryz.prog 120 Tryz.f120:=⟨Tryz.func120,rfl,rfl,rfl,by kernel_rfl⟩
theorem at121:FnOk Tryz.prog 121 Tryz.f121:=⟨Tryz.func121,rfl,rfl,rfl,by kernel_rfl⟩
theorem at122:FnOk Tryz.prog 122 Tryz.f122:=⟨Tryz.func122,rfl,rfl,rfl,by kernel_rfl⟩
theorem at123:FnOk Tryz.prog 123 Tryz.f123:=⟨Tryz.func123,rfl,rfl,rfl,by kernel_rfl⟩
theorem at124:FnOk Tryz.prog 124 Tryz.f124:=⟨Tryz.func124,rfl,rfl,rfl,by kernel_rfl⟩
theorem at125:FnOk Tryz.prog 125 Tryz.f125:=⟨Tryz.func125,rfl,rfl,rfl,by kernel_rfl⟩
theorem at126:FnOk Tryz.prog 126 Tryz.f126:=⟨Tryz.func126,rfl,rfl,rfl,by kernel_rfl⟩
theorem at127:FnOk Tryz.prog 127 Tryz.f127:=⟨Tryz.func127,rfl,rfl,rfl,by kernel_rfl⟩
theorem at128:FnOk Tryz.prog 128 Tryz.f128:=⟨Tryz.func128,rfl,rfl,rfl,by kernel_rfl⟩
theorem at129:FnOk Tryz.prog 129 Tryz.f129:=⟨Tryz.func129,rfl,rfl,rfl,by kernel_rfl⟩
theorem at130:FnOk Tryz.prog 130 Tryz.f130:=⟨Tryz.func130,rfl,rfl,rfl,by kernel_rfl⟩
theorem at131:FnOk Tryz.prog 131 Tryz.f131:=⟨Tryz.func131,rfl,rfl,rfl,by kernel_rfl⟩
theorem at132:FnOk Tryz.prog 132 Tryz.f132:=⟨Tryz.func132,rfl,rfl,rfl,by kernel_rfl⟩
theorem at133:FnOk Tryz.prog 133 Tryz.f133:=⟨Tryz.func133,rfl,rfl,rfl,by kernel_rfl⟩
theorem at134:FnOk Tryz.prog 134 Tryz.f134:=⟨Tryz.func134,rfl,rfl,rfl,by kernel_rfl⟩
theorem at135:FnOk Tryz.prog 135 Tryz.f135:=⟨Tryz.func135,rfl,rfl,rfl,by kernel_rfl⟩
theorem at136:FnOk Tryz.prog 136 Tryz.f136:=⟨Tryz.func136,rfl,rfl,rfl,by kernel_rfl⟩
theorem at137:FnOk Tryz.prog 137 Tryz.f137:=⟨Tryz.func137,rfl,rfl,rfl,by kernel_rfl⟩
theorem at138:FnOk Tryz.prog 138 Tryz.f138:=⟨Tryz.func138,rfl,rfl,rfl,by kernel_rfl⟩
theorem at139:FnOk Tryz.prog 139 Tryz.f139:=⟨Tryz.func139,rfl,rfl,rfl,by kernel_rfl⟩
theorem at140:FnOk Tryz.prog 140 Tryz.f140:=⟨Tryz.func140,rfl,rfl,rfl,by kernel_rfl⟩
theorem at141:FnOk Tryz.prog 141 Tryz.f141:=⟨Tryz.func141,rfl,rfl,rfl,by kernel_rfl⟩
theorem at142:FnOk Tryz.prog 142 Tryz.f142:=⟨Tryz.func142,rfl,rfl,rfl,by kernel_rfl⟩
theorem at143:FnOk Tryz.prog 143 Tryz.f143:=⟨Tryz.func143,rfl,rfl,rfl,by kernel_rfl⟩
theorem at144:FnOk Tryz.prog 144 Tryz.f144:=⟨Tryz.func144,rfl,rfl,rfl,by kernel_rfl⟩
theorem at145:FnOk Tryz.prog 145 Tryz.f145:=⟨Tryz.func145,rfl,rfl,rfl,by kernel_rfl⟩
theorem at146:FnOk Tryz.prog 146 Tryz.f146:=⟨Tryz.func146,rfl,rfl,rfl,by kernel_rfl⟩
theorem at147:FnOk Tryz.prog 147 Tryz.f147:=⟨Tryz.func147,rfl,rfl,rfl,by kernel_rfl⟩
theorem at148:FnOk Tryz.prog 148 Tryz.f148:=⟨Tryz.func148,rfl,rfl,rfl,by kernel_rfl⟩
theorem at149:FnOk Tryz.prog 149 Tryz.f149:=⟨Tryz.func149,rfl,rfl,rfl,by kernel_rfl⟩
theorem at150:FnOk Tryz.prog 150 Tryz.f150:=⟨Tryz.func150,rfl,rfl,rfl,by kernel_rfl⟩
theorem at151:FnOk Tryz.prog 151 Tryz.f151:=⟨Tryz.func151,rfl,rfl,rfl,by kernel_rfl⟩
theorem at152:FnOk Tryz.prog 152 Tryz.f152:=⟨Tryz.func152,rfl,rfl,rfl,by kernel_rfl⟩
theorem at153:FnOk Tryz.prog 153 Tryz.f153:=⟨Tryz.func153,rfl,rfl,rfl,by kernel_rfl⟩
theorem at154:FnOk Tryz.prog 154 Tryz.f154:=⟨Tryz.func154,rfl,rfl,rfl,by kernel_rfl⟩
theorem at155:FnOk Tryz.prog 155 Tryz.f155:=⟨Tryz.func155,rfl,rfl,rfl,by kernel_rfl⟩
theorem at156:FnOk Tryz.prog 156 Tryz.f156:=⟨Tryz.func156,rfl,rfl,rfl,by kernel_rfl⟩
theorem at157:FnOk Tryz.prog 157 Tryz.f157:=⟨Tryz.func157,rfl,rfl,rfl,by kernel_rfl⟩
theorem at158:FnOk Tryz.prog 158 Tryz.f158:=⟨Tryz.func158,rfl,rfl,rfl,by kernel_rfl⟩
theorem at159:FnOk Tryz.prog 159 Tryz.f159:=⟨Tryz.func159,rfl,rfl,rfl,by kernel_rfl⟩
theorem at160:FnOk Tryz.prog 160 Tryz.f160:=⟨Tryz.func160,rfl,rfl,rfl,by kernel_rfl⟩
theorem at161:FnOk Tryz.prog 161 Tryz.f161:=⟨Tryz.func161,rfl,rfl,rfl,by kernel_rfl⟩
theorem at162:FnOk Tryz.prog 162 Tryz.f162:=⟨Tryz.func162,rfl,rfl,rfl,by kernel_rfl⟩
theorem at163:FnOk Tryz.prog 163 Tryz.f163:=⟨Tryz.func163,rfl,rfl,rfl,by kernel_rfl⟩
theorem at164:FnOk Tryz.prog 164 Tryz.f164:=⟨Tryz.func164,rfl,rfl,rfl,by kernel_rfl⟩
theorem at165:FnOk Tryz.prog 165 Tryz.f165:=⟨Tryz.func165,rfl,rfl,rfl,by kernel_rfl⟩
theorem at166:FnOk Tryz.prog 166 Tryz.f166:=⟨Tryz.func166,rfl,rfl,rfl,by kernel_rfl⟩
theorem at167:FnOk Tryz.prog 167 Tryz.f167:=⟨Tryz.func167,rfl,rfl,rfl,by kernel_rfl⟩
theorem at168:FnOk Tryz.prog 168 Tryz.f168:=⟨Tryz.func168,rfl,rfl,rfl,by kernel_rfl⟩
theorem at169:FnOk Tryz.prog 169 Tryz.f169:=⟨Tryz.func169,rfl,rfl,rfl,by kernel_rfl⟩
theorem at171:FnOk Tryz.prog 171 Tryz.f171:=⟨Tryz.func171,rfl,rfl,rfl,by kernel_rfl⟩
theorem at172:FnOk Tryz.prog 172 Tryz.f172:=⟨Tryz.func172,rfl,rfl,rfl,by kernel_rfl⟩
theorem at173:FnOk Tryz.prog 173 Tryz.f173:=⟨Tryz.func173,rfl,rfl,rfl,by kernel_rfl⟩
theorem at174:FnOk Tryz.prog 174 Tryz.f174:=⟨Tryz.func174,rfl,rfl,rfl,by kernel_rfl⟩
theorem at175:FnOk Tryz.prog 175 Tryz.f175:=⟨Tryz.func175,rfl,rfl,rfl,by kernel_rfl⟩
theorem at176:FnOk Tryz.prog 176 Tryz.f176:=⟨Tryz.func176,rfl,rfl,rfl,by kernel_rfl⟩
theorem at177:FnOk Tryz.prog 177 Tryz.f177:=⟨Tryz.func177,rfl,rfl,rfl,by kernel_rfl⟩
theorem at178:FnOk Tryz.prog 178 Tryz.f178:=⟨Tryz.func178,rfl,rfl,rfl,by kernel_rfl⟩
theorem at179:FnOk Tryz.prog 179 Tryz.f179:=⟨Tryz.func179,rfl,rfl,rfl,by kernel_rfl⟩
theorem at180:FnOk Tryz.prog 180 Tryz.f180:=⟨Tryz.func180,rfl,rfl,rfl,by kernel_rfl⟩
theorem at181:FnOk Tryz.prog 181 Tryz.f181:=⟨Tryz.func181,rfl,rfl,rfl,by kernel_rfl⟩
theorem at182:FnOk Tryz.prog 182 Tryz.f182:=⟨Tryz.func182,rfl,rfl,rfl,by kernel_rfl⟩
theorem at183:FnOk Tryz.prog 183 Tryz.f183:=⟨Tryz.func183,rfl,rfl,rfl,by kernel_rfl⟩
theorem at184:FnOk Tryz.prog 184 Tryz.f184:=⟨Tryz.func184,rfl,rfl,rfl,by kernel_rfl⟩
theorem at185:FnOk Tryz.prog 185 Tryz.f185:=⟨Tryz.func185,rfl,rfl,rfl,by kernel_rfl⟩
theorem at186:FnOk Tryz.prog 186 Tryz.f186:=⟨Tryz.func186,rfl,rfl,rfl,by kernel_rfl⟩
theorem at187:FnOk Tryz.prog 187 Tryz.f187:=⟨Tryz.func187,rfl,rfl,rfl,by kernel_rfl⟩
theorem at188:FnOk Tryz.prog 188 Tryz.f188:=⟨Tryz.func188,rfl,rfl,rfl,by kernel_rfl⟩
theorem at189:FnOk Tryz.prog 189 Tryz.f189:=⟨Tryz.func189,rfl,rfl,rfl,by kernel_rfl⟩
theorem at190:FnOk Tryz.prog 190 Tryz.f190:=⟨Tryz.func190,rfl,rfl,rfl,by kernel_rfl⟩
theorem at191:FnOk Tryz.prog 191 Tryz.f191:=⟨Tryz.func191,rfl,rfl,rfl,by kernel_rfl⟩
theorem at192:FnOk Tryz.prog 192 Tryz.f192:=⟨Tryz.func192,rfl,rfl,rfl,by kernel_rfl⟩
theorem at193:FnOk Tryz.prog 193 Tryz.f193:=⟨Tryz.func193,rfl,rfl,rfl,by kernel_rfl⟩
theorem at194:FnOk Tryz.prog 194 Tryz.f194:=⟨Tryz.func194,rfl,rfl,rfl,by kernel_rfl⟩
theorem at195:FnOk Tryz.prog 195 Tryz.f195:=⟨Tryz.func195,rfl,rfl,rfl,by kernel_rfl⟩
theorem at196:FnOk Tryz.prog 196 Tryz.f196:=⟨Tryz.func196,rfl,rfl,rfl,by kernel_rfl⟩
theorem at197:FnOk Tryz.prog 197 Tryz.f197:=⟨Tryz.func197,rfl,rfl,rfl,by kernel_rfl⟩
theorem at198:FnOk Tryz.prog 198 Tryz.f198:=⟨Tryz.func198,rfl,rfl,rfl,by kernel_rfl⟩
theorem at199:FnOk Tryz.prog 199 Tryz.f199:=⟨Tryz.func199,rfl,rfl,rfl,by kernel_rfl⟩
theorem at200:FnOk Tryz.prog 200 Tryz.f200:=⟨Tryz.func200,rfl,rfl,rfl,by kernel_rfl⟩
theorem at201:FnOk Tryz.prog 201 Tryz.f201:=⟨Tryz.func201,rfl,rfl,rfl,by kernel_rfl⟩
theorem at202:FnOk Tryz.prog 202 Tryz.f202:=⟨Tryz.func202,rfl,rfl,rfl,by kernel_rfl⟩
theorem at203:FnOk Tryz.prog 203 Tryz.f203:=⟨Tryz.func203,rfl,rfl,rfl,by kernel_rfl⟩
theorem at204:FnOk Tryz.prog 204 Tryz.f204:=⟨Tryz.func204,rfl,rfl,rfl,by kernel_rfl⟩
theorem at205:FnOk Tryz.prog 205 Tryz.f205:=⟨Tryz.func205,rfl,rfl,rfl,by kernel_rfl⟩
theorem at206:FnOk Tryz.prog 206 Tryz.f206:=⟨Tryz.func206,rfl,rfl,rfl,by kernel_rfl⟩
theorem at207:FnOk Tryz.prog 207 Tryz.f207:=⟨Tryz.func207,rfl,rfl,rfl,by kernel_rfl⟩
theorem at208:FnOk Tryz.prog 208 Tryz.f208:=⟨Tryz.func208,rfl,rfl,rfl,by kernel_rfl⟩
theorem at209:FnOk Tryz.prog 209 Tryz.f209:=⟨Tryz.func209,rfl,rfl,rfl,by kernel_rfl⟩
theorem at213:FnOk Tryz.prog 213 Tryz.f213:=⟨Tryz.func213,rfl,rfl,rfl,by kernel_rfl⟩
theorem at214:FnOk Tryz.prog 214 Tryz.f214:=⟨Tryz.func214,rfl,rfl,rfl,by kernel_rfl⟩
theorem at215:FnOk Tryz.prog 215 Tryz.f215:=⟨Tryz.func215,rfl,rfl,rfl,by kernel_rfl⟩
theorem at216:FnOk Tryz.prog 216 Tryz.f216:=⟨Tryz.func216,rfl,rfl,rfl,by kernel_rfl⟩
theorem at217:FnOk Tryz.prog 217 Tryz.f217:=⟨Tryz.func217,rfl,rfl,rfl,by kernel_rfl⟩
theorem at221:FnOk Tryz.prog 221 Tryz.f221:=⟨Tryz.func221,rfl,rfl,rfl,by kernel_rfl⟩
theorem at222:FnOk Tryz.prog 222 Tryz.f222:=⟨Tryz.func222,rfl,rfl,rfl,by kernel_rfl⟩
theorem at223:FnOk Tryz.prog 223 Tryz.f223:=⟨Tryz.func223,rfl,rfl,rfl,by kernel_rfl⟩
theorem at224:FnOk Tryz.prog 224 Tryz.f224:=⟨Tryz.func224,rfl,rfl,rfl,by kernel_rfl⟩
theorem at225:FnOk Tryz.prog 225 Tryz.f225:=⟨Tryz.func225,rfl,rfl,rfl,by kernel_rfl⟩
theorem at226:FnOk Tryz.prog 226 Tryz.f226:=⟨Tryz.func226,rfl,rfl,rfl,by kernel_rfl⟩
theorem at238:FnOk Tryz.prog 238 Tryz.f238:=⟨Tryz.func238,rfl,rfl,rfl,by kernel_rfl⟩
theorem at239:FnOk Tryz.prog 239 Tryz.f239:=⟨Tryz.func239,rfl,rfl,rfl,by kernel_rfl⟩
theorem at240:FnOk Tryz.prog 240 Tryz.f240:=⟨Tryz.func240,rfl,rfl,rfl,by kernel_rfl⟩
theorem at241:FnOk Tryz.prog 241 Tryz.f241:=⟨Tryz.func241,rfl,rfl,rfl,by kernel_rfl⟩
theorem at242:FnOk Tryz.prog 242 Tryz.f242:=⟨Tryz.func242,rfl,rfl,rfl,by kernel_rfl⟩
theorem at243:FnOk Tryz.prog 243 Tryz.f243:=⟨Tryz.func243,rfl,rfl,rfl,by kernel_rfl⟩
theorem at251:FnOk Tryz.prog 251 Tryz.f251:=⟨Tryz.func251,rfl,rfl,rfl,by kernel_rfl⟩
theorem at252:FnOk Tryz.prog 252 Tryz.f252:=⟨Tryz.func252,rfl,rfl,rfl,by kernel_rfl⟩
theorem at253:FnOk Tryz.prog 253 Tryz.f253:=⟨Tryz.func253,rfl,rfl,rfl,by kernel_rfl⟩
theorem at260:FnOk Tryz.prog 260 Tryz.f260:=⟨Tryz.func260,rfl,rfl,rfl,by kernel_rfl⟩
theorem at262:FnOk Tryz.prog 262 Tryz.f262:=⟨Tryz.func262,rfl,rfl,rfl,by kernel_rfl⟩
end Go.Proofs.YtjkgmglmgndaoaaGreatDoor
