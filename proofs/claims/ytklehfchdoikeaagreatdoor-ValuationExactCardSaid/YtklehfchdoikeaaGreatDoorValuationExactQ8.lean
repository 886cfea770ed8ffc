/- The table of the types, printed by program. Where each funct; no condition. -/
import Derived.Test.YtklehfchdoikeaaGreatDoorProg
import Derived.Test.YtklehfchdoikeaaGreatDoorValuationExactQ7
set_option maxRecDepth 100000
set_option maxHeartbeats 4000000
namespace Go.Proofs.YtklehfchdoikeaaGreatDoor
open Go Go.SX
def ti3:TI:={ row:=false,size:=1,zero:=#[.int .i64 0],kind:=4,ik:=.i64 }
def ti4:TI:={ row:=false,size:=1,zero:=#[.bool false],kind:=5 }
def ti5:TI:={ row:=false,size:=1,zero:=#[.int .u8 0],kind:=4,ik:=.u8 }
def ti7:TI:={ row:=true,size:=4,zero:=#[.int .i64 0,.int .i64 0,.bool false,.int .u8 0],kind:=1,fields:=[(0,2),(1,3),(2,4),(3,6)] }
def ti8:TI:={ row:=true,size:=4,zero:=#[.int .i64 0,.int .i64 0,.bool false,.int .u8 0],kind:=1,fields:=[(0,2),(1,3),(2,4),(3,6)] }
def ti9:TI:={ row:=false,size:=1,zero:=#[.string ByteArray.empty],kind:=0 }
def QX:TI:={ row:=true,size:=2,zero:=#[.string ByteArray.empty,.int .u64 0],kind:=1,fields:=[(0,9),(1,12)] }
def QW:TI:={ row:=true,size:=2,zero:=#[.string ByteArray.empty,.int .u64 0],kind:=1,fields:=[(0,9),(1,12)] }
def QV:TI:={ row:=true,size:=1,zero:=#[.pointer none],kind:=1,fields:=[(0,17)] }
def QU:TI:={ row:=true,size:=1,zero:=#[.pointer none],kind:=1,fields:=[(0,17)] }
def Bc:TI:={ row:=false,size:=1,zero:=#[.slice none 0 0],kind:=3,elem:=88 }
def QT:TI:={ row:=true,size:=3,zero:=#[.slice none 0 0,.slice none 0 0,.slice none 0 0],kind:=1,fields:=[(0,22),(1,23),(2,23)] }
def LN:TI:={ row:=true,size:=3,zero:=#[.slice none 0 0,.slice none 0 0,.slice none 0 0],kind:=1,fields:=[(0,22),(1,23),(2,23)] }
def JI:TI:={ row:=false,size:=1,zero:=#[.slice none 0 0],kind:=3,elem:=63 }
def LJ:TI:={ row:=false,size:=1,zero:=#[.int .u32 0],kind:=4,ik:=.u32 }
def JH:TI:={ row:=true,size:=32,zero:=(Array.replicate 32 (.int .u32 0)),kind:=2,len:=32,elem:=28 }
def QQ:TI:={ row:=true,size:=33,zero:=#[.bool false,.int .u32 0,.int .u32 0,.int .u32 0,.int .u32 0,.int .u32 0,.int .u32 0,.int .u32 0,.int .u32 0,.int .u32 0,.int .u32 0,.int .u32 0,.int .u32 0,.int .u32 0,.int .u32 0,.int .u32 0,.int .u32 0,.int .u32 0,.int .u32 0,.int .u32 0,.int .u32 0,.int .u32 0,.int .u32 0,.int .u32 0,.int .u32 0,.int .u32 0,.int .u32 0,.int .u32 0,.int .u32 0,.int .u32 0,.int .u32 0,.int .u32 0,.int .u32 0],kind:=1,fields:=[(0,4),(1,29)] }
def fJ:TI:={ row:=true,size:=33,zero:=#[.bool false,.int .u32 0,.int .u32 0,.int .u32 0,.int .u32 0,.int .u32 0,.int .u32 0,.int .u32 0,.int .u32 0,.int .u32 0,.int .u32 0,.int .u32 0,.int .u32 0,.int .u32 0,.int .u32 0,.int .u32 0,.int .u32 0,.int .u32 0,.int .u32 0,.int .u32 0,.int .u32 0,.int .u32 0,.int .u32 0,.int .u32 0,.int .u32 0,.int .u32 0,.int .u32 0,.int .u32 0,.int .u32 0,.int .u32 0,.int .u32 0,.int .u32 0,.int .u32 0],kind:=1,fields:=[(0,4),(1,29)] }
def QP:TI:={ row:=true,size:=66,zero:=#[.bool false,.int .u32 0,.int .u32 0,.int .u32 0,.int .u32 0,.int .u32 0,.int .u32 0,.int .u32 0,.int .u32 0,.int .u32 0,.int .u32 0,.int .u32 0,.int .u32 0,.int .u32 0,.int .u32 0,.int .u32 0,.int .u32 0,.int .u32 0,.int .u32 0,.int .u32 0,.int .u32 0,.int .u32 0,.int .u32 0,.int .u32 0,.int .u32 0,.int .u32 0,.int .u32 0,.int .u32 0,.int .u32 0,.int .u32 0,.int .u32 0,.int .u32 0,.int .u32 0,.bool false,.int .u32 0,.int .u32 0,.int .u32 0,.int .u32 0,.int .u32 0,.int .u32 0,.int .u32 0,.int .u32 0,.int .u32 0,.int .u32 0,.int .u32 0,.int .u32 0,.int .u32 0,.int .u32 0,.int .u32 0,.int .u32 0,.int .u32 0,.int .u32 0,.int .u32 0,.int .u32 0,.int .u32 0,.int .u32 0,.int .u32 0,.int .u32 0,.int .u32 0,.int .u32 0,.int .u32 0,.int .u32 0,.int .u32 0,.int .u32 0,.int .u32 0,.int .u32 0],kind:=1,fields:=[(0,31),(33,31)] }
def bZ:TI:={ row:=true,size:=66,zero:=#[.bool false,.int .u32 0,.int .u32 0,.int .u32 0,.int .u32 0,.int .u32 0,.int .u32 0,.int .u32 0,.int .u32 0,.int .u32 0,.int .u32 0,.int .u32 0,.int .u32 0,.int .u32 0,.int .u32 0,.int .u32 0,.int .u32 0,.int .u32 0,.int .u32 0,.int .u32 0,.int .u32 0,.int .u32 0,.int .u32 0,.int .u32 0,.int .u32 0,.int .u32 0,.int .u32 0,.int .u32 0,.int .u32 0,.int .u32 0,.int .u32 0,.int .u32 0,.int .u32 0,.bool false,.int .u32 0,.int .u32 0,.int .u32 0,.int .u32 0,.int .u32 0,.int .u32 0,.int .u32 0,.int .u32 0,.int .u32 0,.int .u32 0,.int .u32 0,.int .u32 0,.int .u32 0,.int .u32 0,.int .u32 0,.int .u32 0,.int .u32 0,.int .u32 0,.int .u32 0,.int .u32 0,.int .u32 0,.int .u32 0,.int .u32 0,.int .u32 0,.int .u32 0,.int .u32 0,.int .u32 0,.int .u32 0,.int .u32 0,.int .u32 0,.int .u32 0,.int .u32 0],kind:=1,fields:=[(0,31),(33,31)] }
def QO:TI:={ row:=true,size:=68,zero:=#[.slice none 0 0,.bool false,.int .u32 0,.int .u32 0,.int .u32 0,.int .u32 0,.int .u32 0,.int .u32 0,.int .u32 0,.int .u32 0,.int .u32 0,.int .u32 0,.int .u32 0,.int .u32 0,.int .u32 0,.int .u32 0,.int .u32 0,.int .u32 0,.int .u32 0,.int .u32 0,.int .u32 0,.int .u32 0,.int .u32 0,.int .u32 0,.int .u32 0,.int .u32 0,.int .u32 0,.int .u32 0,.int .u32 0,.int .u32 0,.int .u32 0,.int .u32 0,.int .u32 0,.int .u32 0,.bool false,.int .u32 0,.int .u32 0,.int .u32 0,.int .u32 0,.int .u32 0,.int .u32 0,.int .u32 0,.int .u32 0,.int .u32 0,.int .u32 0,.int .u32 0,.int .u32 0,.int .u32 0,.int .u32 0,.int .u32 0,.int .u32 0,.int .u32 0,.int .u32 0,.int .u32 0,.int .u32 0,.int .u32 0,.int .u32 0,.int .u32 0,.int .u32 0,.int .u32 0,.int .u32 0,.int .u32 0,.int .u32 0,.int .u32 0,.int .u32 0,.int .u32 0,.int .u32 0,.int .i64 0],kind:=1,fields:=[(0,27),(1,33),(67,3)] }
def Ln:TI:={ row:=true,size:=68,zero:=#[.slice none 0 0,.bool false,.int .u32 0,.int .u32 0,.int .u32 0,.int .u32 0,.int .u32 0,.int .u32 0,.int .u32 0,.int .u32 0,.int .u32 0,.int .u32 0,.int .u32 0,.int .u32 0,.int .u32 0,.int .u32 0,.int .u32 0,.int .u32 0,.int .u32 0,.int .u32 0,.int .u32 0,.int .u32 0,.int .u32 0,.int .u32 0,.int .u32 0,.int .u32 0,.int .u32 0,.int .u32 0,.int .u32 0,.int .u32 0,.int .u32 0,.int .u32 0,.int .u32 0,.int .u32 0,.bool false,.int .u32 0,.int .u32 0,.int .u32 0,.int .u32 0,.int .u32 0,.int .u32 0,.int .u32 0,.int .u32 0,.int .u32 0,.int .u32 0,.int .u32 0,.int .u32 0,.int .u32 0,.int .u32 0,.int .u32 0,.int .u32 0,.int .u32 0,.int .u32 0,.int .u32 0,.int .u32 0,.int .u32 0,.int .u32 0,.int .u32 0,.int .u32 0,.int .u32 0,.int .u32 0,.int .u32 0,.int .u32 0,.int .u32 0,.int .u32 0,.int .u32 0,.int .u32 0,.int .i64 0],kind:=1,fields:=[(0,27),(1,33),(67,3)] }
def QN:TI:={ row:=true,size:=78,zero:=#[.string ByteArray.empty,.string ByteArray.empty,.int .i64 0,.int .i64 0,.slice none 0 0,.slice none 0 0,.slice none 0 0,.slice none 0 0,.slice none 0 0,.bool false,.int .u32 0,.int .u32 0,.int .u32 0,.int .u32 0,.int .u32 0,.int .u32 0,.int .u32 0,.int .u32 0,.int .u32 0,.int .u32 0,.int .u32 0,.int .u32 0,.int .u32 0,.int .u32 0,.int .u32 0,.int .u32 0,.int .u32 0,.int .u32 0,.int .u32 0,.int .u32 0,.int .u32 0,.int .u32 0,.int .u32 0,.int .u32 0,.int .u32 0,.int .u32 0,.int .u32 0,.int .u32 0,.int .u32 0,.int .u32 0,.int .u32 0,.int .u32 0,.bool false,.int .u32 0,.int .u32 0,.int .u32 0,.int .u32 0,.int .u32 0,.int .u32 0,.int .u32 0,.int .u32 0,.int .u32 0,.int .u32 0,.int .u32 0,.int .u32 0,.int .u32 0,.int .u32 0,.int .u32 0,.int .u32 0,.int .u32 0,.int .u32 0,.int .u32 0,.int .u32 0,.int .u32 0,.int .u32 0,.int .u32 0,.int .u32 0,.int .u32 0,.int .u32 0,.int .u32 0,.int .u32 0,.int .u32 0,.int .u32 0,.int .u32 0,.int .u32 0,.int .i64 0,.slice none 0 0,.slice none 0 0],kind:=1,fields:=[(0,9),(1,9),(2,3),(3,3),(4,25),(7,26),(8,35),(76,36),(77,37)] }
def JG:TI:={ row:=true,size:=78,zero:=#[.string ByteArray.empty,.string ByteArray.empty,.int .i64 0,.int .i64 0,.slice none 0 0,.slice none 0 0,.slice none 0 0,.slice none 0 0,.slice none 0 0,.bool false,.int .u32 0,.int .u32 0,.int .u32 0,.int .u32 0,.int .u32 0,.int .u32 0,.int .u32 0,.int .u32 0,.int .u32 0,.int .u32 0,.int .u32 0,.int .u32 0,.int .u32 0,.int .u32 0,.int .u32 0,.int .u32 0,.int .u32 0,.int .u32 0,.int .u32 0,.int .u32 0,.int .u32 0,.int .u32 0,.int .u32 0,.int .u32 0,.int .u32 0,.int .u32 0,.int .u32 0,.int .u32 0,.int .u32 0,.int .u32 0,.int .u32 0,.int .u32 0,.bool false,.int .u32 0,.int .u32 0,.int .u32 0,.int .u32 0,.int .u32 0,.int .u32 0,.int .u32 0,.int .u32 0,.int .u32 0,.int .u32 0,.int .u32 0,.int .u32 0,.int .u32 0,.int .u32 0,.int .u32 0,.int .u32 0,.int .u32 0,.int .u32 0,.int .u32 0,.int .u32 0,.int .u32 0,.int .u32 0,.int .u32 0,.int .u32 0,.int .u32 0,.int .u32 0,.int .u32 0,.int .u32 0,.int .u32 0,.int .u32 0,.int .u32 0,.int .u32 0,.int .i64 0,.slice none 0 0,.slice none 0 0],kind:=1,fields:=[(0,9),(1,9),(2,3),(3,3),(4,25),(7,26),(8,35),(76,36),(77,37)] }
def QM:TI:={ row:=true,size:=5,zero:=#[.string ByteArray.empty,.int .i64 0,.int .i64 0,.slice none 0 0,.int .i64 0],kind:=1,fields:=[(0,9),(1,3),(2,3),(3,40),(4,3)] }
def fG:TI:={ row:=true,size:=5,zero:=#[.string ByteArray.empty,.int .i64 0,.int .i64 0,.slice none 0 0,.int .i64 0],kind:=1,fields:=[(0,9),(1,3),(2,3),(3,40),(4,3)] }
def QK:TI:={ row:=true,size:=2,zero:=#[.slice none 0 0,.int .i64 0],kind:=1,fields:=[(0,50),(1,3)] }
def QJ:TI:={ row:=true,size:=2,zero:=#[.slice none 0 0,.int .i64 0],kind:=1,fields:=[(0,50),(1,3)] }
def QI:TI:={ row:=true,size:=2,zero:=#[.string ByteArray.empty,.int .i64 0],kind:=1,fields:=[(0,9),(1,3)] }
def pV:TI:={ row:=true,size:=2,zero:=#[.string ByteArray.empty,.int .i64 0],kind:=1,fields:=[(0,9),(1,3)] }
def QH:TI:={ row:=true,size:=72,zero:=#[.string ByteArray.empty,.string ByteArray.empty,.string ByteArray.empty,.int .i64 0,.bool false,.int .u32 0,.int .u32 0,.int .u32 0,.int .u32 0,.int .u32 0,.int .u32 0,.int .u32 0,.int .u32 0,.int .u32 0,.int .u32 0,.int .u32 0,.int .u32 0,.int .u32 0,.int .u32 0,.int .u32 0,.int .u32 0,.int .u32 0,.int .u32 0,.int .u32 0,.int .u32 0,.int .u32 0,.int .u32 0,.int .u32 0,.int .u32 0,.int .u32 0,.int .u32 0,.int .u32 0,.int .u32 0,.int .u32 0,.int .u32 0,.int .u32 0,.int .u32 0,.bool false,.int .u32 0,.int .u32 0,.int .u32 0,.int .u32 0,.int .u32 0,.int .u32 0,.int .u32 0,.int .u32 0,.int .u32 0,.int .u32 0,.int .u32 0,.int .u32 0,.int .u32 0,.int .u32 0,.int .u32 0,.int .u32 0,.int .u32 0,.int .u32 0,.int .u32 0,.int .u32 0,.int .u32 0,.int .u32 0,.int .u32 0,.int .u32 0,.int .u32 0,.int .u32 0,.int .u32 0,.int .u32 0,.int .u32 0,.int .u32 0,.int .u32 0,.int .u32 0,.int .i64 0,.bool false],kind:=1,fields:=[(0,9),(1,9),(2,9),(3,3),(4,33),(70,3),(71,4)] }
def gg:TI:={ row:=true,size:=72,zero:=#[.string ByteArray.empty,.string ByteArray.empty,.string ByteArray.empty,.int .i64 0,.bool false,.int .u32 0,.int .u32 0,.int .u32 0,.int .u32 0,.int .u32 0,.int .u32 0,.int .u32 0,.int .u32 0,.int .u32 0,.int .u32 0,.int .u32 0,.int .u32 0,.int .u32 0,.int .u32 0,.int .u32 0,.int .u32 0,.int .u32 0,.int .u32 0,.int .u32 0,.int .u32 0,.int .u32 0,.int .u32 0,.int .u32 0,.int .u32 0,.int .u32 0,.int .u32 0,.int .u32 0,.int .u32 0,.int .u32 0,.int .u32 0,.int .u32 0,.int .u32 0,.bool false,.int .u32 0,.int .u32 0,.int .u32 0,.int .u32 0,.int .u32 0,.int .u32 0,.int .u32 0,.int .u32 0,.int .u32 0,.int .u32 0,.int .u32 0,.int .u32 0,.int .u32 0,.int .u32 0,.int .u32 0,.int .u32 0,.int .u32 0,.int .u32 0,.int .u32 0,.int .u32 0,.int .u32 0,.int .u32 0,.int .u32 0,.int .u32 0,.int .u32 0,.int .u32 0,.int .u32 0,.int .u32 0,.int .u32 0,.int .u32 0,.int .u32 0,.int .u32 0,.int .i64 0,.bool false],kind:=1,fields:=[(0,9),(1,9),(2,9),(3,3),(4,33),(70,3),(71,4)] }
def QG:TI:={ row:=true,size:=68,zero:=#[.string ByteArray.empty,.string ByteArray.empty,.bool false,.int .u32 0,.int .u32 0,.int .u32 0,.int .u32 0,.int .u32 0,.int .u32 0,.int .u32 0,.int .u32 0,.int .u32 0,.int .u32 0,.int .u32 0,.int .u32 0,.int .u32 0,.int .u32 0,.int .u32 0,.int .u32 0,.int .u32 0,.int .u32 0,.int .u32 0,.int .u32 0,.int .u32 0,.int .u32 0,.int .u32 0,.int .u32 0,.int .u32 0,.int .u32 0,.int .u32 0,.int .u32 0,.int .u32 0,.int .u32 0,.int .u32 0,.int .u32 0,.bool false,.int .u32 0,.int .u32 0,.int .u32 0,.int .u32 0,.int .u32 0,.int .u32 0,.int .u32 0,.int .u32 0,.int .u32 0,.int .u32 0,.int .u32 0,.int .u32 0,.int .u32 0,.int .u32 0,.int .u32 0,.int .u32 0,.int .u32 0,.int .u32 0,.int .u32 0,.int .u32 0,.int .u32 0,.int .u32 0,.int .u32 0,.int .u32 0,.int .u32 0,.int .u32 0,.int .u32 0,.int .u32 0,.int .u32 0,.int .u32 0,.int .u32 0,.int .u32 0],kind:=1,fields:=[(0,9),(1,9),(2,33)] }
def lQ:TI:={ row:=true,size:=68,zero:=#[.string ByteArray.empty,.string ByteArray.empty,.bool false,.int .u32 0,.int .u32 0,.int .u32 0,.int .u32 0,.int .u32 0,.int .u32 0,.int .u32 0,.int .u32 0,.int .u32 0,.int .u32 0,.int .u32 0,.int .u32 0,.int .u32 0,.int .u32 0,.int .u32 0,.int .u32 0,.int .u32 0,.int .u32 0,.int .u32 0,.int .u32 0,.int .u32 0,.int .u32 0,.int .u32 0,.int .u32 0,.int .u32 0,.int .u32 0,.int .u32 0,.int .u32 0,.int .u32 0,.int .u32 0,.int .u32 0,.int .u32 0,.bool false,.int .u32 0,.int .u32 0,.int .u32 0,.int .u32 0,.int .u32 0,.int .u32 0,.int .u32 0,.int .u32 0,.int .u32 0,.int .u32 0,.int .u32 0,.int .u32 0,.int .u32 0,.int .u32 0,.int .u32 0,.int .u32 0,.int .u32 0,.int .u32 0,.int .u32 0,.int .u32 0,.int .u32 0,.int .u32 0,.int .u32 0,.int .u32 0,.int .u32 0,.int .u32 0,.int .u32 0,.int .u32 0,.int .u32 0,.int .u32 0,.int .u32 0,.int .u32 0],kind:=1,fields:=[(0,9),(1,9),(2,33)] }
def QF:TI:={ row:=true,size:=136,zero:=#[.string ByteArray.empty,.bool false,.int .u32 0,.int .u32 0,.int .u32 0,.int .u32 0,.int .u32 0,.int .u32 0,.int .u32 0,.int .u32 0,.int .u32 0,.int .u32 0,.int .u32 0,.int .u32 0,.int .u32 0,.int .u32 0,.int .u32 0,.int .u32 0,.int .u32 0,.int .u32 0,.int .u32 0,.int .u32 0,.int .u32 0,.int .u32 0,.int .u32 0,.int .u32 0,.int .u32 0,.int .u32 0,.int .u32 0,.int .u32 0,.int .u32 0,.int .u32 0,.int .u32 0,.int .u32 0,.bool false,.int .u32 0,.int .u32 0,.int .u32 0,.int .u32 0,.int .u32 0,.int .u32 0,.int .u32 0,.int .u32 0,.int .u32 0,.int .u32 0,.int .u32 0,.int .u32 0,.int .u32 0,.int .u32 0,.int .u32 0,.int .u32 0,.int .u32 0,.int .u32 0,.int .u32 0,.int .u32 0,.int .u32 0,.int .u32 0,.int .u32 0,.int .u32 0,.int .u32 0,.int .u32 0,.int .u32 0,.int .u32 0,.int .u32 0,.int .u32 0,.int .u32 0,.int .u32 0,.int .i64 0,.bool false,.int .u32 0,.int .u32 0,.int .u32 0,.int .u32 0,.int .u32 0,.int .u32 0,.int .u32 0,.int .u32 0,.int .u32 0,.int .u32 0,.int .u32 0,.int .u32 0,.int .u32 0,.int .u32 0,.int .u32 0,.int .u32 0,.int .u32 0,.int .u32 0,.int .u32 0,.int .u32 0,.int .u32 0,.int .u32 0,.int .u32 0,.int .u32 0,.int .u32 0,.int .u32 0,.int .u32 0,.int .u32 0,.int .u32 0,.int .u32 0,.int .u32 0,.int .u32 0,.bool false,.int .u32 0,.int .u32 0,.int .u32 0,.int .u32 0,.int .u32 0,.int .u32 0,.int .u32 0,.int .u32 0,.int .u32 0,.int .u32 0,.int .u32 0,.int .u32 0,.int .u32 0,.int .u32 0,.int .u32 0,.int .u32 0,.int .u32 0,.int .u32 0,.int .u32 0,.int .u32 0,.int .u32 0,.int .u32 0,.int .u32 0,.int .u32 0,.int .u32 0,.int .u32 0,.int .u32 0,.int .u32 0,.int .u32 0,.int .u32 0,.int .u32 0,.int .u32 0,.int .i64 0,.int .i64 0],kind:=1,fields:=[(0,9),(1,33),(67,3),(68,33),(134,3),(135,3)] }
def lP:TI:={ row:=true,size:=136,zero:=#[.string ByteArray.empty,.bool false,.int .u32 0,.int .u32 0,.int .u32 0,.int .u32 0,.int .u32 0,.int .u32 0,.int .u32 0,.int .u32 0,.int .u32 0,.int .u32 0,.int .u32 0,.int .u32 0,.int .u32 0,.int .u32 0,.int .u32 0,.int .u32 0,.int .u32 0,.int .u32 0,.int .u32 0,.int .u32 0,.int .u32 0,.int .u32 0,.int .u32 0,.int .u32 0,.int .u32 0,.int .u32 0,.int .u32 0,.int .u32 0,.int .u32 0,.int .u32 0,.int .u32 0,.int .u32 0,.bool false,.int .u32 0,.int .u32 0,.int .u32 0,.int .u32 0,.int .u32 0,.int .u32 0,.int .u32 0,.int .u32 0,.int .u32 0,.int .u32 0,.int .u32 0,.int .u32 0,.int .u32 0,.int .u32 0,.int .u32 0,.int .u32 0,.int .u32 0,.int .u32 0,.int .u32 0,.int .u32 0,.int .u32 0,.int .u32 0,.int .u32 0,.int .u32 0,.int .u32 0,.int .u32 0,.int .u32 0,.int .u32 0,.int .u32 0,.int .u32 0,.int .u32 0,.int .u32 0,.int .i64 0,.bool false,.int .u32 0,.int .u32 0,.int .u32 0,.int .u32 0,.int .u32 0,.int .u32 0,.int .u32 0,.int .u32 0,.int .u32 0,.int .u32 0,.int .u32 0,.int .u32 0,.int .u32 0,.int .u32 0,.int .u32 0,.int .u32 0,.int .u32 0,.int .u32 0,.int .u32 0,.int .u32 0,.int .u32 0,.int .u32 0,.int .u32 0,.int .u32 0,.int .u32 0,.int .u32 0,.int .u32 0,.int .u32 0,.int .u32 0,.int .u32 0,.int .u32 0,.int .u32 0,.bool false,.int .u32 0,.int .u32 0,.int .u32 0,.int .u32 0,.int .u32 0,.int .u32 0,.int .u32 0,.int .u32 0,.int .u32 0,.int .u32 0,.int .u32 0,.int .u32 0,.int .u32 0,.int .u32 0,.int .u32 0,.int .u32 0,.int .u32 0,.int .u32 0,.int .u32 0,.int .u32 0,.int .u32 0,.int .u32 0,.int .u32 0,.int .u32 0,.int .u32 0,.int .u32 0,.int .u32 0,.int .u32 0,.int .u32 0,.int .u32 0,.int .u32 0,.int .u32 0,.int .i64 0,.int .i64 0],kind:=1,fields:=[(0,9),(1,33),(67,3),(68,33),(134,3),(135,3)] }
def QE:TI:={ row:=true,size:=137,zero:=#[.int .i64 0,.string ByteArray.empty,.int .i64 0,.int .i64 0,.bool false,.int .u32 0,.int .u32 0,.int .u32 0,.int .u32 0,.int .u32 0,.int .u32 0,.int .u32 0,.int .u32 0,.int .u32 0,.int .u32 0,.int .u32 0,.int .u32 0,.int .u32 0,.int .u32 0,.int .u32 0,.int .u32 0,.int .u32 0,.int .u32 0,.int .u32 0,.int .u32 0,.int .u32 0,.int .u32 0,.int .u32 0,.int .u32 0,.int .u32 0,.int .u32 0,.int .u32 0,.int .u32 0,.int .u32 0,.int .u32 0,.int .u32 0,.int .u32 0,.bool false,.int .u32 0,.int .u32 0,.int .u32 0,.int .u32 0,.int .u32 0,.int .u32 0,.int .u32 0,.int .u32 0,.int .u32 0,.int .u32 0,.int .u32 0,.int .u32 0,.int .u32 0,.int .u32 0,.int .u32 0,.int .u32 0,.int .u32 0,.int .u32 0,.int .u32 0,.int .u32 0,.int .u32 0,.int .u32 0,.int .u32 0,.int .u32 0,.int .u32 0,.int .u32 0,.int .u32 0,.int .u32 0,.int .u32 0,.int .u32 0,.int .u32 0,.int .u32 0,.bool false,.int .u32 0,.int .u32 0,.int .u32 0,.int .u32 0,.int .u32 0,.int .u32 0,.int .u32 0,.int .u32 0,.int .u32 0,.int .u32 0,.int .u32 0,.int .u32 0,.int .u32 0,.int .u32 0,.int .u32 0,.int .u32 0,.int .u32 0,.int .u32 0,.int .u32 0,.int .u32 0,.int .u32 0,.int .u32 0,.int .u32 0,.int .u32 0,.int .u32 0,.int .u32 0,.int .u32 0,.int .u32 0,.int .u32 0,.int .u32 0,.int .u32 0,.int .u32 0,.bool false,.int .u32 0,.int .u32 0,.int .u32 0,.int .u32 0,.int .u32 0,.int .u32 0,.int .u32 0,.int .u32 0,.int .u32 0,.int .u32 0,.int .u32 0,.int .u32 0,.int .u32 0,.int .u32 0,.int .u32 0,.int .u32 0,.int .u32 0,.int .u32 0,.int .u32 0,.int .u32 0,.int .u32 0,.int .u32 0,.int .u32 0,.int .u32 0,.int .u32 0,.int .u32 0,.int .u32 0,.int .u32 0,.int .u32 0,.int .u32 0,.int .u32 0,.int .u32 0,.int .i64 0],kind:=1,fields:=[(0,3),(1,9),(2,3),(3,3),(4,33),(70,33),(136,3)] }
def oY:TI:={ row:=true,size:=137,zero:=#[.int .i64 0,.string ByteArray.empty,.int .i64 0,.int .i64 0,.bool false,.int .u32 0,.int .u32 0,.int .u32 0,.int .u32 0,.int .u32 0,.int .u32 0,.int .u32 0,.int .u32 0,.int .u32 0,.int .u32 0,.int .u32 0,.int .u32 0,.int .u32 0,.int .u32 0,.int .u32 0,.int .u32 0,.int .u32 0,.int .u32 0,.int .u32 0,.int .u32 0,.int .u32 0,.int .u32 0,.int .u32 0,.int .u32 0,.int .u32 0,.int .u32 0,.int .u32 0,.int .u32 0,.int .u32 0,.int .u32 0,.int .u32 0,.int .u32 0,.bool false,.int .u32 0,.int .u32 0,.int .u32 0,.int .u32 0,.int .u32 0,.int .u32 0,.int .u32 0,.int .u32 0,.int .u32 0,.int .u32 0,.int .u32 0,.int .u32 0,.int .u32 0,.int .u32 0,.int .u32 0,.int .u32 0,.int .u32 0,.int .u32 0,.int .u32 0,.int .u32 0,.int .u32 0,.int .u32 0,.int .u32 0,.int .u32 0,.int .u32 0,.int .u32 0,.int .u32 0,.int .u32 0,.int .u32 0,.int .u32 0,.int .u32 0,.int .u32 0,.bool false,.int .u32 0,.int .u32 0,.int .u32 0,.int .u32 0,.int .u32 0,.int .u32 0,.int .u32 0,.int .u32 0,.int .u32 0,.int .u32 0,.int .u32 0,.int .u32 0,.int .u32 0,.int .u32 0,.int .u32 0,.int .u32 0,.int .u32 0,.int .u32 0,.int .u32 0,.int .u32 0,.int .u32 0,.int .u32 0,.int .u32 0,.int .u32 0,.int .u32 0,.int .u32 0,.int .u32 0,.int .u32 0,.int .u32 0,.int .u32 0,.int .u32 0,.int .u32 0,.bool false,.int .u32 0,.int .u32 0,.int .u32 0,.int .u32 0,.int .u32 0,.int .u32 0,.int .u32 0,.int .u32 0,.int .u32 0,.int .u32 0,.int .u32 0,.int .u32 0,.int .u32 0,.int .u32 0,.int .u32 0,.int .u32 0,.int .u32 0,.int .u32 0,.int .u32 0,.int .u32 0,.int .u32 0,.int .u32 0,.int .u32 0,.int .u32 0,.int .u32 0,.int .u32 0,.int .u32 0,.int .u32 0,.int .u32 0,.int .u32 0,.int .u32 0,.int .u32 0,.int .i64 0],kind:=1,fields:=[(0,3),(1,9),(2,3),(3,3),(4,33),(70,33),(136,3)] }
def QD:TI:={ row:=true,size:=70,zero:=#[.string ByteArray.empty,.string ByteArray.empty,.int .i64 0,.bool false,.int .u32 0,.int .u32 0,.int .u32 0,.int .u32 0,.int .u32 0,.int .u32 0,.int .u32 0,.int .u32 0,.int .u32 0,.int .u32 0,.int .u32 0,.int .u32 0,.int .u32 0,.int .u32 0,.int .u32 0,.int .u32 0,.int .u32 0,.int .u32 0,.int .u32 0,.int .u32 0,.int .u32 0,.int .u32 0,.int .u32 0,.int .u32 0,.int .u32 0,.int .u32 0,.int .u32 0,.int .u32 0,.int .u32 0,.int .u32 0,.int .u32 0,.int .u32 0,.bool false,.int .u32 0,.int .u32 0,.int .u32 0,.int .u32 0,.int .u32 0,.int .u32 0,.int .u32 0,.int .u32 0,.int .u32 0,.int .u32 0,.int .u32 0,.int .u32 0,.int .u32 0,.int .u32 0,.int .u32 0,.int .u32 0,.int .u32 0,.int .u32 0,.int .u32 0,.int .u32 0,.int .u32 0,.int .u32 0,.int .u32 0,.int .u32 0,.int .u32 0,.int .u32 0,.int .u32 0,.int .u32 0,.int .u32 0,.int .u32 0,.int .u32 0,.int .u32 0,.slice none 0 0],kind:=1,fields:=[(0,9),(1,9),(2,3),(3,33),(69,27)] }
def Li:TI:={ row:=true,size:=70,zero:=#[.string ByteArray.empty,.string ByteArray.empty,.int .i64 0,.bool false,.int .u32 0,.int .u32 0,.int .u32 0,.int .u32 0,.int .u32 0,.int .u32 0,.int .u32 0,.int .u32 0,.int .u32 0,.int .u32 0,.int .u32 0,.int .u32 0,.int .u32 0,.int .u32 0,.int .u32 0,.int .u32 0,.int .u32 0,.int .u32 0,.int .u32 0,.int .u32 0,.int .u32 0,.int .u32 0,.int .u32 0,.int .u32 0,.int .u32 0,.int .u32 0,.int .u32 0,.int .u32 0,.int .u32 0,.int .u32 0,.int .u32 0,.int .u32 0,.bool false,.int .u32 0,.int .u32 0,.int .u32 0,.int .u32 0,.int .u32 0,.int .u32 0,.int .u32 0,.int .u32 0,.int .u32 0,.int .u32 0,.int .u32 0,.int .u32 0,.int .u32 0,.int .u32 0,.int .u32 0,.int .u32 0,.int .u32 0,.int .u32 0,.int .u32 0,.int .u32 0,.int .u32 0,.int .u32 0,.int .u32 0,.int .u32 0,.int .u32 0,.int .u32 0,.int .u32 0,.int .u32 0,.int .u32 0,.int .u32 0,.int .u32 0,.int .u32 0,.slice none 0 0],kind:=1,fields:=[(0,9),(1,9),(2,3),(3,33),(69,27)] }
def QB:TI:={ row:=true,size:=3,zero:=#[.string ByteArray.empty,.int .i64 0,.int .i64 0],kind:=1,fields:=[(0,9),(1,3),(2,3)] }
def kR:TI:={ row:=true,size:=3,zero:=#[.string ByteArray.empty,.int .i64 0,.int .i64 0],kind:=1,fields:=[(0,9),(1,3),(2,3)] }
def Ma:TI:={ row:=true,size:=71,zero:=#[.slice none 0 0,.slice none 0 0,.bool false,.int .u32 0,.int .u32 0,.int .u32 0,.int .u32 0,.int .u32 0,.int .u32 0,.int .u32 0,.int .u32 0,.int .u32 0,.int .u32 0,.int .u32 0,.int .u32 0,.int .u32 0,.int .u32 0,.int .u32 0,.int .u32 0,.int .u32 0,.int .u32 0,.int .u32 0,.int .u32 0,.int .u32 0,.int .u32 0,.int .u32 0,.int .u32 0,.int .u32 0,.int .u32 0,.int .u32 0,.int .u32 0,.int .u32 0,.int .u32 0,.int .u32 0,.int .u32 0,.bool false,.int .u32 0,.int .u32 0,.int .u32 0,.int .u32 0,.int .u32 0,.int .u32 0,.int .u32 0,.int .u32 0,.int .u32 0,.int .u32 0,.int .u32 0,.int .u32 0,.int .u32 0,.int .u32 0,.int .u32 0,.int .u32 0,.int .u32 0,.int .u32 0,.int .u32 0,.int .u32 0,.int .u32 0,.int .u32 0,.int .u32 0,.int .u32 0,.int .u32 0,.int .u32 0,.int .u32 0,.int .u32 0,.int .u32 0,.int .u32 0,.int .u32 0,.int .u32 0,.int .i64 0,.int .i64 0,.int .i64 0],kind:=1,fields:=[(0,26),(1,35),(69,3),(70,3)] }
def Dg:TI:={ row:=true,size:=71,zero:=#[.slice none 0 0,.slice none 0 0,.bool false,.int .u32 0,.int .u32 0,.int .u32 0,.int .u32 0,.int .u32 0,.int .u32 0,.int .u32 0,.int .u32 0,.int .u32 0,.int .u32 0,.int .u32 0,.int .u32 0,.int .u32 0,.int .u32 0,.int .u32 0,.int .u32 0,.int .u32 0,.int .u32 0,.int .u32 0,.int .u32 0,.int .u32 0,.int .u32 0,.int .u32 0,.int .u32 0,.int .u32 0,.int .u32 0,.int .u32 0,.int .u32 0,.int .u32 0,.int .u32 0,.int .u32 0,.int .u32 0,.bool false,.int .u32 0,.int .u32 0,.int .u32 0,.int .u32 0,.int .u32 0,.int .u32 0,.int .u32 0,.int .u32 0,.int .u32 0,.int .u32 0,.int .u32 0,.int .u32 0,.int .u32 0,.int .u32 0,.int .u32 0,.int .u32 0,.int .u32 0,.int .u32 0,.int .u32 0,.int .u32 0,.int .u32 0,.int .u32 0,.int .u32 0,.int .u32 0,.int .u32 0,.int .u32 0,.int .u32 0,.int .u32 0,.int .u32 0,.int .u32 0,.int .u32 0,.int .u32 0,.int .i64 0,.int .i64 0,.int .i64 0],kind:=1,fields:=[(0,26),(1,35),(69,3),(70,3)] }
def L9:TI:={ row:=true,size:=2,zero:=#[.string ByteArray.empty,.int .i64 0],kind:=1,fields:=[(0,9),(1,3)] }
def L4:TI:={ row:=true,size:=4,zero:=#[.string ByteArray.empty,.int .i64 0,.int .i64 0,.int .i64 0],kind:=1,fields:=[(0,88),(3,3)] }
def IF:TI:={ row:=true,size:=4,zero:=#[.string ByteArray.empty,.int .i64 0,.int .i64 0,.int .i64 0],kind:=1,fields:=[(0,88),(3,3)] }
def LY:TI:={ row:=true,size:=136,zero:=#[.string ByteArray.empty,.bool false,.int .u32 0,.int .u32 0,.int .u32 0,.int .u32 0,.int .u32 0,.int .u32 0,.int .u32 0,.int .u32 0,.int .u32 0,.int .u32 0,.int .u32 0,.int .u32 0,.int .u32 0,.int .u32 0,.int .u32 0,.int .u32 0,.int .u32 0,.int .u32 0,.int .u32 0,.int .u32 0,.int .u32 0,.int .u32 0,.int .u32 0,.int .u32 0,.int .u32 0,.int .u32 0,.int .u32 0,.int .u32 0,.int .u32 0,.int .u32 0,.int .u32 0,.int .u32 0,.bool false,.int .u32 0,.int .u32 0,.int .u32 0,.int .u32 0,.int .u32 0,.int .u32 0,.int .u32 0,.int .u32 0,.int .u32 0,.int .u32 0,.int .u32 0,.int .u32 0,.int .u32 0,.int .u32 0,.int .u32 0,.int .u32 0,.int .u32 0,.int .u32 0,.int .u32 0,.int .u32 0,.int .u32 0,.int .u32 0,.int .u32 0,.int .u32 0,.int .u32 0,.int .u32 0,.int .u32 0,.int .u32 0,.int .u32 0,.int .u32 0,.int .u32 0,.int .u32 0,.int .i64 0,.bool false,.int .u32 0,.int .u32 0,.int .u32 0,.int .u32 0,.int .u32 0,.int .u32 0,.int .u32 0,.int .u32 0,.int .u32 0,.int .u32 0,.int .u32 0,.int .u32 0,.int .u32 0,.int .u32 0,.int .u32 0,.int .u32 0,.int .u32 0,.int .u32 0,.int .u32 0,.int .u32 0,.int .u32 0,.int .u32 0,.int .u32 0,.int .u32 0,.int .u32 0,.int .u32 0,.int .u32 0,.int .u32 0,.int .u32 0,.int .u32 0,.int .u32 0,.int .u32 0,.bool false,.int .u32 0,.int .u32 0,.int .u32 0,.int .u32 0,.int .u32 0,.int .u32 0,.int .u32 0,.int .u32 0,.int .u32 0,.int .u32 0,.int .u32 0,.int .u32 0,.int .u32 0,.int .u32 0,.int .u32 0,.int .u32 0,.int .u32 0,.int .u32 0,.int .u32 0,.int .u32 0,.int .u32 0,.int .u32 0,.int .u32 0,.int .u32 0,.int .u32 0,.int .u32 0,.int .u32 0,.int .u32 0,.int .u32 0,.int .u32 0,.int .u32 0,.int .u32 0,.int .i64 0,.int .i64 0],kind:=1,fields:=[(0,9),(1,33),(67,3),(68,33),(134,3),(135,3)] }
def LX:TI:={ row:=true,size:=2,zero:=#[.string ByteArray.empty,.int .i64 0],kind:=1,fields:=[(0,9),(1,3)] }
def IE:TI:={ row:=true,size:=2,zero:=#[.string ByteArray.empty,.int .i64 0],kind:=1,fields:=[(0,9),(1,3)] }
def LW:TI:={ row:=true,size:=68,zero:=#[.string ByteArray.empty,.bool false,.int .u32 0,.int .u32 0,.int .u32 0,.int .u32 0,.int .u32 0,.int .u32 0,.int .u32 0,.int .u32 0,.int .u32 0,.int .u32 0,.int .u32 0,.int .u32 0,.int .u32 0,.int .u32 0,.int .u32 0,.int .u32 0,.int .u32 0,.int .u32 0,.int .u32 0,.int .u32 0,.int .u32 0,.int .u32 0,.int .u32 0,.int .u32 0,.int .u32 0,.int .u32 0,.int .u32 0,.int .u32 0,.int .u32 0,.int .u32 0,.int .u32 0,.int .u32 0,.bool false,.int .u32 0,.int .u32 0,.int .u32 0,.int .u32 0,.int .u32 0,.int .u32 0,.int .u32 0,.int .u32 0,.int .u32 0,.int .u32 0,.int .u32 0,.int .u32 0,.int .u32 0,.int .u32 0,.int .u32 0,.int .u32 0,.int .u32 0,.int .u32 0,.int .u32 0,.int .u32 0,.int .u32 0,.int .u32 0,.int .u32 0,.int .u32 0,.int .u32 0,.int .u32 0,.int .u32 0,.int .u32 0,.int .u32 0,.int .u32 0,.int .u32 0,.int .u32 0,.int .i64 0],kind:=1,fields:=[(0,9),(1,33),(67,3)] }
def ID:TI:={ row:=true,size:=68,zero:=#[.string ByteArray.empty,.bool false,.int .u32 0,.int .u32 0,.int .u32 0,.int .u32 0,.int .u32 0,.int .u32 0,.int .u32 0,.int .u32 0,.int .u32 0,.int .u32 0,.int .u32 0,.int .u32 0,.int .u32 0,.int .u32 0,.int .u32 0,.int .u32 0,.int .u32 0,.int .u32 0,.int .u32 0,.int .u32 0,.int .u32 0,.int .u32 0,.int .u32 0,.int .u32 0,.int .u32 0,.int .u32 0,.int .u32 0,.int .u32 0,.int .u32 0,.int .u32 0,.int .u32 0,.int .u32 0,.bool false,.int .u32 0,.int .u32 0,.int .u32 0,.int .u32 0,.int .u32 0,.int .u32 0,.int .u32 0,.int .u32 0,.int .u32 0,.int .u32 0,.int .u32 0,.int .u32 0,.int .u32 0,.int .u32 0,.int .u32 0,.int .u32 0,.int .u32 0,.int .u32 0,.int .u32 0,.int .u32 0,.int .u32 0,.int .u32 0,.int .u32 0,.int .u32 0,.int .u32 0,.int .u32 0,.int .u32 0,.int .u32 0,.int .u32 0,.int .u32 0,.int .u32 0,.int .u32 0,.int .i64 0],kind:=1,fields:=[(0,9),(1,33),(67,3)] }
def LV:TI:={ row:=true,size:=32,zero:=(Array.replicate 32 (.int .u32 0)),kind:=2,len:=32,elem:=28 }
def LU:TI:={ row:=true,size:=3,zero:=#[.string ByteArray.empty,.int .i64 0,.bool false],kind:=1,fields:=[(0,9),(1,3),(2,4)] }
def my:TI:={ row:=true,size:=3,zero:=#[.string ByteArray.empty,.int .i64 0,.bool false],kind:=1,fields:=[(0,9),(1,3),(2,4)] }
def LT:TI:={ row:=true,size:=64,zero:=(Array.replicate 64 (.int .u32 0)),kind:=2,len:=64,elem:=28 }
def LS:TI:={ row:=true,size:=35,zero:=#[.bool false,.int .u32 0,.int .u32 0,.int .u32 0,.int .u32 0,.int .u32 0,.int .u32 0,.int .u32 0,.int .u32 0,.int .u32 0,.int .u32 0,.int .u32 0,.int .u32 0,.int .u32 0,.int .u32 0,.int .u32 0,.int .u32 0,.int .u32 0,.int .u32 0,.int .u32 0,.int .u32 0,.int .u32 0,.int .u32 0,.int .u32 0,.int .u32 0,.int .u32 0,.int .u32 0,.int .u32 0,.int .u32 0,.int .u32 0,.int .u32 0,.int .u32 0,.int .u32 0,.int .i64 0,.bool false],kind:=1,fields:=[(0,31),(33,3),(34,4)] }
def LO:TI:={ row:=true,size:=35,zero:=#[.bool false,.int .u32 0,.int .u32 0,.int .u32 0,.int .u32 0,.int .u32 0,.int .u32 0,.int .u32 0,.int .u32 0,.int .u32 0,.int .u32 0,.int .u32 0,.int .u32 0,.int .u32 0,.int .u32 0,.int .u32 0,.int .u32 0,.int .u32 0,.int .u32 0,.int .u32 0,.int .u32 0,.int .u32 0,.int .u32 0,.int .u32 0,.int .u32 0,.int .u32 0,.int .u32 0,.int .u32 0,.int .u32 0,.int .u32 0,.int .u32 0,.int .u32 0,.int .u32 0,.int .i64 0,.bool false],kind:=1,fields:=[(0,31),(33,3),(34,4)] }
def LL:TI:={ row:=true,size:=4,zero:=(Array.replicate 4 (.string ByteArray.empty)),kind:=2,len:=4,elem:=9 }
def LK:TI:={ row:=true,size:=33,zero:=(Array.replicate 33 (.int .u32 0)),kind:=2,len:=33,elem:=28 }
def uQ:TI:={ row:=true,size:=2,zero:=#[.int .i64 0,.int .i64 0],kind:=1,fields:=[(0,3),(1,3)] }
def LH:TI:={ row:=true,size:=256,zero:=(Array.replicate 256 (.bool false)),kind:=2,len:=256,elem:=4 }
def Lz:TI:={ row:=true,size:=256,zero:=(Array.replicate 256 (.bool false)),kind:=2,len:=256,elem:=4 }
def Ly:TI:={ row:=true,size:=2,zero:=#[.pointer none,.slice none 0 0],kind:=1,fields:=[(0,297),(1,277)] }
def Lx:TI:={ row:=true,size:=2,zero:=#[.pointer none,.slice none 0 0],kind:=1,fields:=[(0,297),(1,277)] }
def Lw:TI:={ row:=true,size:=256,zero:=(Array.replicate 256 (.int .u8 0)),kind:=2,len:=256,elem:=5 }
def Lv:TI:={ row:=true,size:=2,zero:=#[.int .u8 0,.int .u8 0],kind:=1,fields:=[(0,5),(1,5)] }
def Lu:TI:={ row:=true,size:=2,zero:=#[.int .u8 0,.int .u8 0],kind:=1,fields:=[(0,5),(1,5)] }
def Lt:TI:={ row:=true,size:=32,zero:=(Array.replicate 32 (.int .u8 0)),kind:=2,len:=16,elem:=340 }
def Ls:TI:={ row:=true,size:=4,zero:=#[.pointer none,.pointer none,.pointer none,.string ByteArray.empty],kind:=1,fields:=[(0,17),(1,17),(2,17),(3,9)] }
def Lr:TI:={ row:=true,size:=4,zero:=#[.pointer none,.pointer none,.pointer none,.string ByteArray.empty],kind:=1,fields:=[(0,17),(1,17),(2,17),(3,9)] }
def Lq:TI:={ row:=true,size:=0,zero:=#[],kind:=2,len:=0,elem:=16 }
def Lp:TI:={ row:=true,size:=0,zero:=#[],kind:=1,fields:=[(0,345)] }
def Lo:TI:={ row:=true,size:=0,zero:=#[],kind:=1,fields:=[(0,345)] }
def Lm:TI:={ row:=true,size:=11,zero:=#[.int .u64 0,.int .u64 0,.int .u32 0,.int .u8 0,.int .u8 0,.int .u8 0,.int .u8 0,.nilFunc,.pointer none,.int .i32 0,.int .i32 0],kind:=1,fields:=[(0,12),(1,12),(2,28),(3,348),(4,5),(5,5),(6,349),(7,350),(8,322),(9,351),(10,352)] }
def Ll:TI:={ row:=true,size:=11,zero:=#[.int .u64 0,.int .u64 0,.int .u32 0,.int .u8 0,.int .u8 0,.int .u8 0,.int .u8 0,.nilFunc,.pointer none,.int .i32 0,.int .i32 0],kind:=1,fields:=[(0,12),(1,12),(2,28),(3,348),(4,5),(5,5),(6,349),(7,350),(8,322),(9,351),(10,352)] }
def Lk:TI:={ row:=true,size:=1,zero:=#[.string ByteArray.empty],kind:=1,fields:=[(0,9)] }
def Lj:TI:={ row:=true,size:=1,zero:=#[.string ByteArray.empty],kind:=1,fields:=[(0,9)] }
def Qz:TypeId->Option TI
 | 1=>some (tV .nilFunc)
 | 2=>some (tI .i64)
 | 3=>some ti3
 | 4=>some ti4
 | 5=>some ti5
 | 6=>some (tI .u8)
 | 7=>some ti7
 | 8=>some ti8
 | 9=>some ti9
 | 10=>some (tV (.string ByteArray.empty))
 | 11=>some (tV (.string ByteArray.empty))
 | 12=>some (tI .u64)
 | 13=>some QX
 | 14=>some QW
 | 15=>some (tV (.pointer none))
 | 16=>some (tV (.pointer none))
 | _=>none
def Qy:TypeId->Option TI
 | 17=>some (tV (.pointer none))
 | 18=>some QV
 | 19=>some QU
 | 20=>some (tV .nilIface)
 | 21=>some (tI .i32)
 | 22=>some (tS 59)
 | 23=>some Bc
 | 24=>some QT
 | 25=>some LN
 | 26=>some JI
 | 27=>some (tS 9)
 | 28=>some LJ
 | 29=>some JH
 | 30=>some QQ
 | 31=>some fJ
 | 32=>some QP
 | _=>none
def Qx:TypeId->Option TI
 | 33=>some bZ
 | 34=>some QO
 | 35=>some Ln
 | 36=>some (tS 67)
 | 37=>some (tS 69)
 | 38=>some QN
 | 39=>some JG
 | 40=>some (tS 77)
 | 41=>some QM
 | 42=>some fG
 | 43=>some (tI .i64)
 | 45=>some (tV .nilFunc)
 | 46=>some (tV .nilFunc)
 | 47=>some (tV .nilFunc)
 | 48=>some (tV .nilFunc)
 | 49=>some (tV .nilFunc)
 | _=>none
def Qw:TypeId->Option TI
 | 50=>some (tS 3)
 | 51=>some (tV (.pointer none))
 | 52=>some QK
 | 53=>some QJ
 | 54=>some (tV .nilFunc)
 | 55=>some (tV .nilFunc)
 | 56=>some (tV .nilFunc)
 | 57=>some (tV .nilFunc)
 | 58=>some QI
 | 59=>some pV
 | 60=>some (tV .nilFunc)
 | 61=>some (tV .nilFunc)
 | 62=>some QH
 | 63=>some gg
 | 64=>some (tV .nilFunc)
 | 65=>some (tV .nilFunc)
 | _=>none
def Qv:TypeId->Option TI
 | 66=>some QG
 | 67=>some lQ
 | 68=>some QF
 | 69=>some lP
 | 70=>some (tV .nilFunc)
 | 71=>some (tV .nilFunc)
 | 72=>some (tV .nilFunc)
 | 73=>some (tV .nilFunc)
 | 74=>some (tV .nilFunc)
 | 75=>some (tV .nilFunc)
 | 76=>some QE
 | 77=>some oY
 | 78=>some (tV .nilFunc)
 | 79=>some QD
 | 80=>some Li
 | 82=>some (tV .nilFunc)
 | _=>none
def Qu:TypeId->Option TI
 | 84=>some (tV .nilFunc)
 | 85=>some (tV .nilFunc)
 | 86=>some (tV .nilFunc)
 | 87=>some QB
 | 88=>some kR
 | 90=>some (tV .nilFunc)
 | 91=>some (tV .nilFunc)
 | 92=>some (tV .nilFunc)
 | 93=>some (tV .nilFunc)
 | 94=>some (tS 97)
 | 95=>some (tV .nilFunc)
 | 96=>some (tV .nilIface)
 | 97=>some (tV .nilIface)
 | 99=>some (tV .nilFunc)
 | 100=>some (tV .nilFunc)
 | 101=>some (tV .nilFunc)
 | _=>none
def Qt:TypeId->Option TI
 | 102=>some (tV .nilFunc)
 | 103=>some (tV (.pointer none))
 | 104=>some (tV .nilFunc)
 | 105=>some (tV .nilFunc)
 | 106=>some (tV .nilFunc)
 | 107=>some (tV .nilFunc)
 | 108=>some (tV .nilFunc)
 | 109=>some (tV .nilFunc)
 | 110=>some (tV .nilFunc)
 | 111=>some (tV .nilFunc)
 | 112=>some (tV .nilFunc)
 | 113=>some (tV .nilFunc)
 | 114=>some (tV .nilFunc)
 | 115=>some (tV .nilFunc)
 | 116=>some (tV .nilFunc)
 | 117=>some (tV .nilFunc)
 | _=>none
def Qs:TypeId->Option TI
 | 118=>some (tV .nilFunc)
 | 119=>some (tV .nilFunc)
 | 120=>some (tS 33)
 | 121=>some (tV .nilFunc)
 | 122=>some (tV .nilFunc)
 | 123=>some (tV .nilFunc)
 | 124=>some (tV .nilFunc)
 | 125=>some (tV .nilFunc)
 | 126=>some (tV .nilFunc)
 | 128=>some (tV .nilFunc)
 | 129=>some (tV .nilFunc)
 | 130=>some (tV .nilFunc)
 | 131=>some (tV .nilFunc)
 | 132=>some (tV .nilFunc)
 | 133=>some (tV .nilFunc)
 | 134=>some (tV .nilFunc)
 | _=>none
def Qr:TypeId->Option TI
 | 135=>some Ma
 | 136=>some Dg
 | 137=>some (tV .nilFunc)
 | 139=>some (tV .nilFunc)
 | 140=>some (tV .nilFunc)
 | 141=>some (tV .nilFunc)
 | 143=>some (tV .nilFunc)
 | 144=>some (tV .nilFunc)
 | 145=>some (tV .nilFunc)
 | 146=>some (tV .nilFunc)
 | 147=>some (tV .nilFunc)
 | 148=>some L9
 | 149=>some L4
 | 150=>some IF
 | 151=>some LY
 | 152=>some (tV .nilFunc)
 | _=>none
def Qq:TypeId->Option TI
 | 154=>some (tV .nilFunc)
 | 155=>some (tV .nilFunc)
 | 156=>some (tV .nilFunc)
 | 157=>some (tV .nilFunc)
 | 158=>some (tS 23)
 | 159=>some (tV .nilFunc)
 | 160=>some LX
 | 161=>some IE
 | 162=>some (tV .nilFunc)
 | 163=>some (tV .nilFunc)
 | 164=>some (tV .nilFunc)
 | 165=>some (tS 208)
 | 166=>some (tV .nilFunc)
 | 167=>some (tV .nilFunc)
 | 169=>some (tV .nilFunc)
 | 170=>some (tV .nilFunc)
 | _=>none
def Ld:TypeId->Option TI
 | 171=>some (tV .nilFunc)
 | 172=>some (tV .nilFunc)
 | 173=>some (tV .nilFunc)
 | 175=>some (tV .nilFunc)
 | 176=>some LW
 | 177=>some ID
 | 178=>some (tV .nilFunc)
 | 179=>some (tV .nilFunc)
 | 180=>some (tV .nilFunc)
 | 181=>some (tV .nilFunc)
 | 182=>some (tV .nilFunc)
 | 183=>some (tV .nilFunc)
 | 184=>some (tV .nilFunc)
 | 185=>some (tV .nilFunc)
 | 186=>some (tI .u64)
 | 187=>some (tV .nilFunc)
 | _=>none
def Lc:TypeId->Option TI
 | 188=>some (tI .u64)
 | 190=>some (tV .nilFunc)
 | 191=>some (tV .nilFunc)
 | 192=>some (tV .nilFunc)
 | 193=>some (tV .nilFunc)
 | 194=>some (tV .nilFunc)
 | 196=>some (tV .nilFunc)
 | 197=>some (tV .nilFunc)
 | 198=>some (tV .nilFunc)
 | 199=>some (tV .nilFunc)
 | 200=>some (tV .nilFunc)
 | 201=>some LV
 | 202=>some (tV .nilFunc)
 | 204=>some (tV .nilFunc)
 | 205=>some (tV .nilFunc)
 | 206=>some (tV .nilFunc)
 | _=>none
def Lb:TypeId->Option TI
 | 207=>some LU
 | 208=>some my
 | 209=>some (tV .nilFunc)
 | 210=>some (tV .nilFunc)
 | 211=>some (tV .nilFunc)
 | 212=>some (tV .nilFunc)
 | 213=>some (tV .nilFunc)
 | 214=>some (tV .nilFunc)
 | 215=>some (tV .nilFunc)
 | 216=>some (tV .nilFunc)
 | 217=>some (tV .nilFunc)
 | 218=>some (tV .nilFunc)
 | 219=>some LT
 | 220=>some (tV .nilFunc)
 | 222=>some (tV .nilFunc)
 | 224=>some (tV .nilFunc)
 | _=>none
def La:TypeId->Option TI
 | 225=>some (tV .nilFunc)
 | 226=>some (tV .nilFunc)
 | 227=>some (tV .nilFunc)
 | 228=>some (tV .nilFunc)
 | 229=>some (tV .nilFunc)
 | 231=>some (tV .nilFunc)
 | 233=>some (tV .nilFunc)
 | 234=>some (tV (.pointer none))
 | 236=>some (tV .nilFunc)
 | 237=>some (tV .nilFunc)
 | 239=>some (tV .nilFunc)
 | 240=>some LS
 | 241=>some LO
 | 242=>some (tV .nilFunc)
 | 243=>some (tV .nilFunc)
 | 244=>some (tV .nilFunc)
 | _=>none
def K8:TypeId->Option TI
 | 245=>some (tV .nilFunc)
 | 246=>some (tV .nilFunc)
 | 248=>some (tV .nilFunc)
 | 249=>some (tV .nilFunc)
 | 251=>some (tV .nilFunc)
 | 252=>some (tV .nilFunc)
 | 253=>some (tV .nilFunc)
 | 254=>some LL
 | 255=>some (tV .nilFunc)
 | 257=>some (tV .nilFunc)
 | 258=>some (tV .nilFunc)
 | 259=>some (tV .nilFunc)
 | 260=>some (tV .nilFunc)
 | 261=>some (tV .nilFunc)
 | 262=>some (tV .nilFunc)
 | 263=>some (tV (.map none))
 | _=>none
def K7:TypeId->Option TI
 | 264=>some (tV .nilFunc)
 | 265=>some (tV .nilFunc)
 | 266=>some (tV .nilFunc)
 | 267=>some (tV .nilFunc)
 | 268=>some (tV .nilFunc)
 | 269=>some (tV .nilFunc)
 | 270=>some LK
 | 272=>some (tV .nilFunc)
 | 273=>some (tV .nilFunc)
 | 274=>some (tS 28)
 | 276=>some (tV .nilFunc)
 | 277=>some (tS 5)
 | 278=>some uQ
 | 279=>some (tS 278)
 | 280=>some (tV .nilFunc)
 | 281=>some (tV .nilFunc)
 | _=>none
def K6:TypeId->Option TI
 | 282=>some LH
 | 283=>some Lz
 | 285=>some (tV .nilFunc)
 | 286=>some (tV .nilFunc)
 | 287=>some (tV (.pointer none))
 | 289=>some (tV .nilFunc)
 | 290=>some (tV .nilFunc)
 | 291=>some (tV .nilFunc)
 | 292=>some (tV .nilFunc)
 | 293=>some (tV .nilFunc)
 | 294=>some (tV .nilFunc)
 | 296=>some (tV .nilFunc)
 | 297=>some (tV (.pointer none))
 | 298=>some Ly
 | 299=>some Lx
 | 300=>some (tV .nilFunc)
 | _=>none
def K5:TypeId->Option TI
 | 301=>some (tV .nilIface)
 | 302=>some (tV .nilIface)
 | 304=>some (tV .nilFunc)
 | 305=>some (tV .nilFunc)
 | 307=>some (tV .nilFunc)
 | 308=>some (tV .nilFunc)
 | 309=>some (tV .nilFunc)
 | 310=>some (tV .nilFunc)
 | 311=>some (tI .i64)
 | 313=>some (tV .nilFunc)
 | 314=>some (tV .nilFunc)
 | 315=>some (tV .nilFunc)
 | 316=>some (tV .nilFunc)
 | 317=>some (tV .nilFunc)
 | 318=>some (tV .nilFunc)
 | 319=>some (tV .nilFunc)
 | _=>none
def K4:TypeId->Option TI
 | 321=>some (tV .nilFunc)
 | 322=>some (tV (.pointer none))
 | 323=>some (tV .nilFunc)
 | 324=>some (tI .u64)
 | 325=>some (tV .nilFunc)
 | 326=>some (tV .nilFunc)
 | 327=>some (tV .nilFunc)
 | 328=>some (tV (.pointer none))
 | 329=>some (tV .nilFunc)
 | 331=>some (tV .nilFunc)
 | 332=>some (tV .nilFunc)
 | 333=>some (tV .nilFunc)
 | 334=>some (tV .nilFunc)
 | 335=>some (tV (.pointer none))
 | 337=>some (tV .nilFunc)
 | 338=>some Lw
 | _=>none
def K3:TypeId->Option TI
 | 339=>some Lv
 | 340=>some Lu
 | 341=>some Lt
 | 342=>some (tV (.pointer none))
 | 343=>some Ls
 | 344=>some Lr
 | 345=>some Lq
 | 346=>some Lp
 | 347=>some Lo
 | 348=>some (tI .u8)
 | 349=>some (tI .u8)
 | 350=>some (tV .nilFunc)
 | 351=>some (tI .i32)
 | 352=>some (tI .i32)
 | 353=>some Lm
 | 354=>some Ll
 | _=>none
def K0:TypeId->Option TI
 | 355=>some Lk
 | 356=>some Lj
 | _=>none
def tt (ty:TypeId):Option TI :=
 if Nat.ble 357 ty then none else
 if Nat.ble ty 16 then Qz ty else
 if Nat.ble ty 32 then Qy ty else
 if Nat.ble ty 49 then Qx ty else
 if Nat.ble ty 65 then Qw ty else
 if Nat.ble ty 82 then Qv ty else
 if Nat.ble ty 101 then Qu ty else
 if Nat.ble ty 117 then Qt ty else
 if Nat.ble ty 134 then Qs ty else
 if Nat.ble ty 152 then Qr ty else
 if Nat.ble ty 170 then Qq ty else
 if Nat.ble ty 187 then Ld ty else
 if Nat.ble ty 206 then Lc ty else
 if Nat.ble ty 224 then Lb ty else
 if Nat.ble ty 244 then La ty else
 if Nat.ble ty 263 then K8 ty else
 if Nat.ble ty 281 then K7 ty else
 if Nat.ble ty 300 then K6 ty else
 if Nat.ble ty 319 then K5 ty else
 if Nat.ble ty 338 then K4 ty else
 if Nat.ble ty 354 then K3 ty else
 K0 ty
theorem ai:rx Tryz.prog tt:=KZ 357 (fun _ h=>if_pos (Nat.ble_eq_true_of_le h)) (by kernel_rfl)
theorem mw:TIok Tryz.prog 3 ti3:=ai 3 _ rfl
theorem Lg:TIok Tryz.prog 4 ti4:=ai 4 _ rfl
theorem GQ:TIok Tryz.prog 9 ti9:=ai 9 _ rfl
theorem Lh:TIok Tryz.prog 28 LJ:=ai 28 _ rfl
theorem IC:TIok Tryz.prog 29 JH:=ai 29 _ rfl
theorem uP:TIok Tryz.prog 31 fJ:=ai 31 _ rfl
theorem mv:TIok Tryz.prog 33 bZ:=ai 33 _ rfl
theorem ak:Tryz.prog.follows .mixedOrders=true:=by kernel_rfl
set_option maxRecDepth 100000
theorem at3:au Tryz.prog 3 Tryz.f3:=⟨Tryz.func3,rfl,rfl,rfl,by kernel_rfl⟩
theorem P6:au Tryz.prog 11 Tryz.f11:=⟨Tryz.func11,rfl,rfl,rfl,by kernel_rfl⟩
theorem Sb:au Tryz.prog 12 Tryz.f12:=⟨Tryz.func12,rfl,rfl,rfl,by kernel_rfl⟩
theorem PE:au Tryz.prog 13 Tryz.f13:=⟨Tryz.func13,rfl,rfl,rfl,by kernel_rfl⟩
theorem Sa:au Tryz.prog 14 Tryz.f14:=⟨Tryz.func14,rfl,rfl,rfl,by kernel_rfl⟩
theorem R9:au Tryz.prog 15 Tryz.f15:=⟨Tryz.func15,rfl,rfl,rfl,by kernel_rfl⟩
theorem R8:au Tryz.prog 16 Tryz.f16:=⟨Tryz.func16,rfl,rfl,rfl,by kernel_rfl⟩
theorem R7:au Tryz.prog 23 Tryz.f23:=⟨Tryz.func23,rfl,rfl,rfl,by kernel_rfl⟩
theorem R6:au Tryz.prog 29 Tryz.f29:=⟨Tryz.func29,rfl,rfl,rfl,by kernel_rfl⟩
theorem M4:au Tryz.prog 30 Tryz.f30:=⟨Tryz.func30,rfl,rfl,rfl,by kernel_rfl⟩
theorem R5:au Tryz.prog 32 Tryz.f32:=⟨Tryz.func32,rfl,rfl,rfl,by kernel_rfl⟩
theorem R4:au Tryz.prog 33 Tryz.f33:=⟨Tryz.func33,rfl,rfl,rfl,by kernel_rfl⟩
theorem R3:au Tryz.prog 34 Tryz.f34:=⟨Tryz.func34,rfl,rfl,rfl,by kernel_rfl⟩
theorem RZ:au Tryz.prog 35 Tryz.f35:=⟨Tryz.func35,rfl,rfl,rfl,by kernel_rfl⟩
theorem RY:au Tryz.prog 36 Tryz.f36:=⟨Tryz.func36,rfl,rfl,rfl,by kernel_rfl⟩
theorem RX:au Tryz.prog 37 Tryz.f37:=⟨Tryz.func37,rfl,rfl,rfl,by kernel_rfl⟩
theorem RW:au Tryz.prog 38 Tryz.f38:=⟨Tryz.func38,rfl,rfl,rfl,by kernel_rfl⟩
theorem RV:au Tryz.prog 39 Tryz.f39:=⟨Tryz.func39,rfl,rfl,rfl,by kernel_rfl⟩
theorem RU:au Tryz.prog 40 Tryz.f40:=⟨Tryz.func40,rfl,rfl,rfl,by kernel_rfl⟩
theorem RR:au Tryz.prog 41 Tryz.f41:=⟨Tryz.func41,rfl,rfl,rfl,by kernel_rfl⟩
theorem RP:au Tryz.prog 43 Tryz.f43:=⟨Tryz.func43,rfl,rfl,rfl,by kernel_rfl⟩
theorem RO:au Tryz.prog 44 Tryz.f44:=⟨Tryz.func44,rfl,rfl,rfl,by kernel_rfl⟩
theorem RN:au Tryz.prog 45 Tryz.f45:=⟨Tryz.func45,rfl,rfl,rfl,by kernel_rfl⟩
theorem RM:au Tryz.prog 46 Tryz.f46:=⟨Tryz.func46,rfl,rfl,rfl,by kernel_rfl⟩
theorem RL:au Tryz.prog 47 Tryz.f47:=⟨Tryz.func47,rfl,rfl,rfl,by kernel_rfl⟩
theorem RK:au Tryz.prog 48 Tryz.f48:=⟨Tryz.func48,rfl,rfl,rfl,by kernel_rfl⟩
theorem RJ:au Tryz.prog 49 Tryz.f49:=⟨Tryz.func49,rfl,rfl,rfl,by kernel_rfl⟩
theorem RH:au Tryz.prog 50 Tryz.f50:=⟨Tryz.func50,rfl,rfl,rfl,by kernel_rfl⟩
theorem RG:au Tryz.prog 51 Tryz.f51:=⟨Tryz.func51,rfl,rfl,rfl,by kernel_rfl⟩
theorem RE:au Tryz.prog 52 Tryz.f52:=⟨Tryz.func52,rfl,rfl,rfl,by kernel_rfl⟩
theorem RD:au Tryz.prog 53 Tryz.f53:=⟨Tryz.func53,rfl,rfl,rfl,by kernel_rfl⟩
theorem RC:au Tryz.prog 54 Tryz.f54:=⟨Tryz.func54,rfl,rfl,rfl,by kernel_rfl⟩
theorem RB:au Tryz.prog 55 Tryz.f55:=⟨Tryz.func55,rfl,rfl,rfl,by kernel_rfl⟩
theorem Rz:au Tryz.prog 56 Tryz.f56:=⟨Tryz.func56,rfl,rfl,rfl,by kernel_rfl⟩
theorem Ry:au Tryz.prog 57 Tryz.f57:=⟨Tryz.func57,rfl,rfl,rfl,by kernel_rfl⟩
theorem Rx:au Tryz.prog 58 Tryz.f58:=⟨Tryz.func58,rfl,rfl,rfl,by kernel_rfl⟩
theorem MN:au Tryz.prog 59 Tryz.f59:=⟨Tryz.func59,rfl,rfl,rfl,by kernel_rfl⟩
theorem Rw:au Tryz.prog 60 Tryz.f60:=⟨Tryz.func60,rfl,rfl,rfl,by kernel_rfl⟩
theorem Rv:au Tryz.prog 61 Tryz.f61:=⟨Tryz.func61,rfl,rfl,rfl,by kernel_rfl⟩
theorem Ru:au Tryz.prog 62 Tryz.f62:=⟨Tryz.func62,rfl,rfl,rfl,by kernel_rfl⟩
theorem Rt:au Tryz.prog 63 Tryz.f63:=⟨Tryz.func63,rfl,rfl,rfl,by kernel_rfl⟩
theorem Rs:au Tryz.prog 64 Tryz.f64:=⟨Tryz.func64,rfl,rfl,rfl,by kernel_rfl⟩
theorem Rr:au Tryz.prog 65 Tryz.f65:=⟨Tryz.func65,rfl,rfl,rfl,by kernel_rfl⟩
theorem Rq:au Tryz.prog 74 Tryz.f74:=⟨Tryz.func74,rfl,rfl,rfl,by kernel_rfl⟩
theorem Rp:au Tryz.prog 75 Tryz.f75:=⟨Tryz.func75,rfl,rfl,rfl,by kernel_rfl⟩
theorem Ro:au Tryz.prog 76 Tryz.f76:=⟨Tryz.func76,rfl,rfl,rfl,by kernel_rfl⟩
theorem Rn:au Tryz.prog 78 Tryz.f78:=⟨Tryz.func78,rfl,rfl,rfl,by kernel_rfl⟩
theorem Rm:au Tryz.prog 79 Tryz.f79:=⟨Tryz.func79,rfl,rfl,rfl,by kernel_rfl⟩
theorem Rl:au Tryz.prog 80 Tryz.f80:=⟨Tryz.func80,rfl,rfl,rfl,by kernel_rfl⟩
theorem Rk:au Tryz.prog 82 Tryz.f82:=⟨Tryz.func82,rfl,rfl,rfl,by kernel_rfl⟩
theorem MM:au Tryz.prog 83 Tryz.f83:=⟨Tryz.func83,rfl,rfl,rfl,by kernel_rfl⟩
theorem ML:au Tryz.prog 84 Tryz.f84:=⟨Tryz.func84,rfl,rfl,rfl,by kernel_rfl⟩
theorem Rj:au Tryz.prog 85 Tryz.f85:=⟨Tryz.func85,rfl,rfl,rfl,by kernel_rfl⟩
theorem MJ:au Tryz.prog 86 Tryz.f86:=⟨Tryz.func86,rfl,rfl,rfl,by kernel_rfl⟩
theorem Ri:au Tryz.prog 87 Tryz.f87:=⟨Tryz.func87,rfl,rfl,rfl,by kernel_rfl⟩
theorem Rh:au Tryz.prog 88 Tryz.f88:=⟨Tryz.func88,rfl,rfl,rfl,by kernel_rfl⟩
theorem MH:au Tryz.prog 89 Tryz.f89:=⟨Tryz.func89,rfl,rfl,rfl,by kernel_rfl⟩
theorem Rg:au Tryz.prog 90 Tryz.f90:=⟨Tryz.func90,rfl,rfl,rfl,by kernel_rfl⟩
theorem MG:au Tryz.prog 91 Tryz.f91:=⟨Tryz.func91,rfl,rfl,rfl,by kernel_rfl⟩
theorem Rf:au Tryz.prog 92 Tryz.f92:=⟨Tryz.func92,rfl,rfl,rfl,by kernel_rfl⟩
theorem Re:au Tryz.prog 93 Tryz.f93:=⟨Tryz.func93,rfl,rfl,rfl,by kernel_rfl⟩
theorem Rd:au Tryz.prog 94 Tryz.f94:=⟨Tryz.func94,rfl,rfl,rfl,by kernel_rfl⟩
theorem Rc:au Tryz.prog 95 Tryz.f95:=⟨Tryz.func95,rfl,rfl,rfl,by kernel_rfl⟩
theorem Rb:au Tryz.prog 96 Tryz.f96:=⟨Tryz.func96,rfl,rfl,rfl,by kernel_rfl⟩
theorem Ra:au Tryz.prog 97 Tryz.f97:=⟨Tryz.func97,rfl,rfl,rfl,by kernel_rfl⟩
theorem Qg:au Tryz.prog 100 Tryz.f100:=⟨Tryz.func100,rfl,rfl,rfl,by kernel_rfl⟩
theorem Qf:au Tryz.prog 101 Tryz.f101:=⟨Tryz.func101,rfl,rfl,rfl,by kernel_rfl⟩
theorem Qe:au Tryz.prog 102 Tryz.f102:=⟨Tryz.func102,rfl,rfl,rfl,by kernel_rfl⟩
theorem Qd:au Tryz.prog 103 Tryz.f103:=⟨Tryz.func103,rfl,rfl,rfl,by kernel_rfl⟩
theorem Qc:au Tryz.prog 104 Tryz.f104:=⟨Tryz.func104,rfl,rfl,rfl,by kernel_rfl⟩
theorem Qb:au Tryz.prog 105 Tryz.f105:=⟨Tryz.func105,rfl,rfl,rfl,by kernel_rfl⟩
theorem Qa:au Tryz.prog 106 Tryz.f106:=⟨Tryz.func106,rfl,rfl,rfl,by kernel_rfl⟩
theorem P9:au Tryz.prog 107 Tryz.f107:=⟨Tryz.func107,rfl,rfl,rfl,by kernel_rfl⟩
theorem P8:au Tryz.prog 108 Tryz.f108:=⟨Tryz.func108,rfl,rfl,rfl,by kernel_rfl⟩
theorem P7:au Tryz.prog 109 Tryz.f109:=⟨Tryz.func109,rfl,rfl,rfl,by kernel_rfl⟩
theorem P5:au Tryz.prog 110 Tryz.f110:=⟨Tryz.func110,rfl,rfl,rfl,by kernel_rfl⟩
theorem P4:au Tryz.prog 111 Tryz.f111:=⟨Tryz.func111,rfl,rfl,rfl,by kernel_rfl⟩
theorem PY:au Tryz.prog 112 Tryz.f112:=⟨Tryz.func112,rfl,rfl,rfl,by kernel_rfl⟩
theorem PX:au Tryz.prog 113 Tryz.f113:=⟨Tryz.func113,rfl,rfl,rfl,by kernel_rfl⟩
theorem PW:au Tryz.prog 114 Tryz.f114:=⟨Tryz.func114,rfl,rfl,rfl,by kernel_rfl⟩
theorem PV:au Tryz.prog 115 Tryz.f115:=⟨Tryz.func115,rfl,rfl,rfl,by kernel_rfl⟩
theorem PU:au Tryz.prog 116 Tryz.f116:=⟨Tryz.func116,rfl,rfl,rfl,by kernel_rfl⟩
theorem Jf:au Tryz.prog 117 Tryz.f117:=⟨Tryz.func117,rfl,rfl,rfl,by kernel_rfl⟩
theorem PT:au Tryz.prog 118 Tryz.f118:=⟨Tryz.func118,rfl,rfl,rfl,by kernel_rfl⟩
theorem Je:au Tryz.prog 119 Tryz.f119:=⟨Tryz.func119,rfl,rfl,rfl,by kernel_rfl⟩
theorem PQ:au Tryz.prog 120 Tryz.f120:=⟨Tryz.func120,rfl,rfl,rfl,by kernel_rfl⟩
theorem PP:au Tryz.prog 121 Tryz.f121:=⟨Tryz.func121,rfl,rfl,rfl,by kernel_rfl⟩
theorem PO:au Tryz.prog 122 Tryz.f122:=⟨Tryz.func122,rfl,rfl,rfl,by kernel_rfl⟩
theorem PN:au Tryz.prog 123 Tryz.f123:=⟨Tryz.func123,rfl,rfl,rfl,by kernel_rfl⟩
theorem PM:au Tryz.prog 124 Tryz.f124:=⟨Tryz.func124,rfl,rfl,rfl,by kernel_rfl⟩
theorem PK:au Tryz.prog 125 Tryz.f125:=⟨Tryz.func125,rfl,rfl,rfl,by kernel_rfl⟩
theorem PJ:au Tryz.prog 126 Tryz.f126:=⟨Tryz.func126,rfl,rfl,rfl,by kernel_rfl⟩
theorem PI:au Tryz.prog 127 Tryz.f127:=⟨Tryz.func127,rfl,rfl,rfl,by kernel_rfl⟩
theorem PH:au Tryz.prog 128 Tryz.f128:=⟨Tryz.func128,rfl,rfl,rfl,by kernel_rfl⟩
theorem PG:au Tryz.prog 129 Tryz.f129:=⟨Tryz.func129,rfl,rfl,rfl,by kernel_rfl⟩
theorem PD:au Tryz.prog 130 Tryz.f130:=⟨Tryz.func130,rfl,rfl,rfl,by kernel_rfl⟩
theorem PC:au Tryz.prog 131 Tryz.f131:=⟨Tryz.func131,rfl,rfl,rfl,by kernel_rfl⟩
theorem PB:au Tryz.prog 132 Tryz.f132:=⟨Tryz.func132,rfl,rfl,rfl,by kernel_rfl⟩
theorem Jd:au Tryz.prog 133 Tryz.f133:=⟨Tryz.func133,rfl,rfl,rfl,by kernel_rfl⟩
theorem Pz:au Tryz.prog 134 Tryz.f134:=⟨Tryz.func134,rfl,rfl,rfl,by kernel_rfl⟩
theorem Py:au Tryz.prog 135 Tryz.f135:=⟨Tryz.func135,rfl,rfl,rfl,by kernel_rfl⟩
theorem Px:au Tryz.prog 136 Tryz.f136:=⟨Tryz.func136,rfl,rfl,rfl,by kernel_rfl⟩
theorem Pw:au Tryz.prog 137 Tryz.f137:=⟨Tryz.func137,rfl,rfl,rfl,by kernel_rfl⟩
theorem Pv:au Tryz.prog 142 Tryz.f142:=⟨Tryz.func142,rfl,rfl,rfl,by kernel_rfl⟩
theorem Pu:au Tryz.prog 143 Tryz.f143:=⟨Tryz.func143,rfl,rfl,rfl,by kernel_rfl⟩
theorem Pt:au Tryz.prog 144 Tryz.f144:=⟨Tryz.func144,rfl,rfl,rfl,by kernel_rfl⟩
theorem Ps:au Tryz.prog 145 Tryz.f145:=⟨Tryz.func145,rfl,rfl,rfl,by kernel_rfl⟩
theorem Pr:au Tryz.prog 146 Tryz.f146:=⟨Tryz.func146,rfl,rfl,rfl,by kernel_rfl⟩
theorem Pq:au Tryz.prog 147 Tryz.f147:=⟨Tryz.func147,rfl,rfl,rfl,by kernel_rfl⟩
theorem Pp:au Tryz.prog 148 Tryz.f148:=⟨Tryz.func148,rfl,rfl,rfl,by kernel_rfl⟩
theorem Po:au Tryz.prog 149 Tryz.f149:=⟨Tryz.func149,rfl,rfl,rfl,by kernel_rfl⟩
theorem Pn:au Tryz.prog 150 Tryz.f150:=⟨Tryz.func150,rfl,rfl,rfl,by kernel_rfl⟩
theorem Pm:au Tryz.prog 151 Tryz.f151:=⟨Tryz.func151,rfl,rfl,rfl,by kernel_rfl⟩
theorem Pk:au Tryz.prog 152 Tryz.f152:=⟨Tryz.func152,rfl,rfl,rfl,by kernel_rfl⟩
theorem Pj:au Tryz.prog 153 Tryz.f153:=⟨Tryz.func153,rfl,rfl,rfl,by kernel_rfl⟩
theorem Pi:au Tryz.prog 154 Tryz.f154:=⟨Tryz.func154,rfl,rfl,rfl,by kernel_rfl⟩
theorem Jc:au Tryz.prog 155 Tryz.f155:=⟨Tryz.func155,rfl,rfl,rfl,by kernel_rfl⟩
theorem Ph:au Tryz.prog 156 Tryz.f156:=⟨Tryz.func156,rfl,rfl,rfl,by kernel_rfl⟩
theorem Pg:au Tryz.prog 157 Tryz.f157:=⟨Tryz.func157,rfl,rfl,rfl,by kernel_rfl⟩
theorem Pf:au Tryz.prog 158 Tryz.f158:=⟨Tryz.func158,rfl,rfl,rfl,by kernel_rfl⟩
theorem Pe:au Tryz.prog 159 Tryz.f159:=⟨Tryz.func159,rfl,rfl,rfl,by kernel_rfl⟩
theorem Pd:au Tryz.prog 160 Tryz.f160:=⟨Tryz.func160,rfl,rfl,rfl,by kernel_rfl⟩
theorem Pc:au Tryz.prog 161 Tryz.f161:=⟨Tryz.func161,rfl,rfl,rfl,by kernel_rfl⟩
theorem Pb:au Tryz.prog 162 Tryz.f162:=⟨Tryz.func162,rfl,rfl,rfl,by kernel_rfl⟩
theorem Pa:au Tryz.prog 163 Tryz.f163:=⟨Tryz.func163,rfl,rfl,rfl,by kernel_rfl⟩
theorem O9:au Tryz.prog 164 Tryz.f164:=⟨Tryz.func164,rfl,rfl,rfl,by kernel_rfl⟩
theorem O8:au Tryz.prog 165 Tryz.f165:=⟨Tryz.func165,rfl,rfl,rfl,by kernel_rfl⟩
theorem O7:au Tryz.prog 166 Tryz.f166:=⟨Tryz.func166,rfl,rfl,rfl,by kernel_rfl⟩
theorem O6:au Tryz.prog 167 Tryz.f167:=⟨Tryz.func167,rfl,rfl,rfl,by kernel_rfl⟩
theorem O5:au Tryz.prog 168 Tryz.f168:=⟨Tryz.func168,rfl,rfl,rfl,by kernel_rfl⟩
theorem O4:au Tryz.prog 169 Tryz.f169:=⟨Tryz.func169,rfl,rfl,rfl,by kernel_rfl⟩
theorem O0:au Tryz.prog 170 Tryz.f170:=⟨Tryz.func170,rfl,rfl,rfl,by kernel_rfl⟩
theorem OZ:au Tryz.prog 171 Tryz.f171:=⟨Tryz.func171,rfl,rfl,rfl,by kernel_rfl⟩
theorem OY:au Tryz.prog 172 Tryz.f172:=⟨Tryz.func172,rfl,rfl,rfl,by kernel_rfl⟩
theorem OX:au Tryz.prog 173 Tryz.f173:=⟨Tryz.func173,rfl,rfl,rfl,by kernel_rfl⟩
theorem OW:au Tryz.prog 174 Tryz.f174:=⟨Tryz.func174,rfl,rfl,rfl,by kernel_rfl⟩
theorem OV:au Tryz.prog 175 Tryz.f175:=⟨Tryz.func175,rfl,rfl,rfl,by kernel_rfl⟩
theorem OU:au Tryz.prog 176 Tryz.f176:=⟨Tryz.func176,rfl,rfl,rfl,by kernel_rfl⟩
theorem OT:au Tryz.prog 177 Tryz.f177:=⟨Tryz.func177,rfl,rfl,rfl,by kernel_rfl⟩
theorem OS:au Tryz.prog 178 Tryz.f178:=⟨Tryz.func178,rfl,rfl,rfl,by kernel_rfl⟩
theorem OR:au Tryz.prog 179 Tryz.f179:=⟨Tryz.func179,rfl,rfl,rfl,by kernel_rfl⟩
theorem OQ:au Tryz.prog 180 Tryz.f180:=⟨Tryz.func180,rfl,rfl,rfl,by kernel_rfl⟩
theorem OP:au Tryz.prog 181 Tryz.f181:=⟨Tryz.func181,rfl,rfl,rfl,by kernel_rfl⟩
theorem OO:au Tryz.prog 182 Tryz.f182:=⟨Tryz.func182,rfl,rfl,rfl,by kernel_rfl⟩
theorem ON:au Tryz.prog 183 Tryz.f183:=⟨Tryz.func183,rfl,rfl,rfl,by kernel_rfl⟩
theorem OM:au Tryz.prog 184 Tryz.f184:=⟨Tryz.func184,rfl,rfl,rfl,by kernel_rfl⟩
theorem OK:au Tryz.prog 185 Tryz.f185:=⟨Tryz.func185,rfl,rfl,rfl,by kernel_rfl⟩
theorem OJ:au Tryz.prog 186 Tryz.f186:=⟨Tryz.func186,rfl,rfl,rfl,by kernel_rfl⟩
theorem OI:au Tryz.prog 187 Tryz.f187:=⟨Tryz.func187,rfl,rfl,rfl,by kernel_rfl⟩
theorem OH:au Tryz.prog 188 Tryz.f188:=⟨Tryz.func188,rfl,rfl,rfl,by kernel_rfl⟩
theorem OG:au Tryz.prog 189 Tryz.f189:=⟨Tryz.func189,rfl,rfl,rfl,by kernel_rfl⟩
theorem OF:au Tryz.prog 190 Tryz.f190:=⟨Tryz.func190,rfl,rfl,rfl,by kernel_rfl⟩
theorem OE:au Tryz.prog 191 Tryz.f191:=⟨Tryz.func191,rfl,rfl,rfl,by kernel_rfl⟩
theorem OD:au Tryz.prog 192 Tryz.f192:=⟨Tryz.func192,rfl,rfl,rfl,by kernel_rfl⟩
theorem OC:au Tryz.prog 193 Tryz.f193:=⟨Tryz.func193,rfl,rfl,rfl,by kernel_rfl⟩
theorem OA:au Tryz.prog 194 Tryz.f194:=⟨Tryz.func194,rfl,rfl,rfl,by kernel_rfl⟩
theorem Oz:au Tryz.prog 195 Tryz.f195:=⟨Tryz.func195,rfl,rfl,rfl,by kernel_rfl⟩
theorem Oy:au Tryz.prog 196 Tryz.f196:=⟨Tryz.func196,rfl,rfl,rfl,by kernel_rfl⟩
theorem Ox:au Tryz.prog 197 Tryz.f197:=⟨Tryz.func197,rfl,rfl,rfl,by kernel_rfl⟩
theorem Ow:au Tryz.prog 198 Tryz.f198:=⟨Tryz.func198,rfl,rfl,rfl,by kernel_rfl⟩
theorem Ov:au Tryz.prog 201 Tryz.f201:=⟨Tryz.func201,rfl,rfl,rfl,by kernel_rfl⟩
theorem Ou:au Tryz.prog 202 Tryz.f202:=⟨Tryz.func202,rfl,rfl,rfl,by kernel_rfl⟩
theorem Ot:au Tryz.prog 203 Tryz.f203:=⟨Tryz.func203,rfl,rfl,rfl,by kernel_rfl⟩
theorem Or:au Tryz.prog 204 Tryz.f204:=⟨Tryz.func204,rfl,rfl,rfl,by kernel_rfl⟩
theorem Jb:au Tryz.prog 205 Tryz.f205:=⟨Tryz.func205,rfl,rfl,rfl,by kernel_rfl⟩
theorem Oq:au Tryz.prog 206 Tryz.f206:=⟨Tryz.func206,rfl,rfl,rfl,by kernel_rfl⟩
theorem Ja:au Tryz.prog 207 Tryz.f207:=⟨Tryz.func207,rfl,rfl,rfl,by kernel_rfl⟩
theorem Oo:au Tryz.prog 208 Tryz.f208:=⟨Tryz.func208,rfl,rfl,rfl,by kernel_rfl⟩
theorem On:au Tryz.prog 209 Tryz.f209:=⟨Tryz.func209,rfl,rfl,rfl,by kernel_rfl⟩
theorem Om:au Tryz.prog 210 Tryz.f210:=⟨Tryz.func210,rfl,rfl,rfl,by kernel_rfl⟩
theorem Ol:au Tryz.prog 211 Tryz.f211:=⟨Tryz.func211,rfl,rfl,rfl,by kernel_rfl⟩
theorem Ok:au Tryz.prog 212 Tryz.f212:=⟨Tryz.func212,rfl,rfl,rfl,by kernel_rfl⟩
theorem Oj:au Tryz.prog 213 Tryz.f213:=⟨Tryz.func213,rfl,rfl,rfl,by kernel_rfl⟩
theorem Oi:au Tryz.prog 214 Tryz.f214:=⟨Tryz.func214,rfl,rfl,rfl,by kernel_rfl⟩
theorem Oh:au Tryz.prog 215 Tryz.f215:=⟨Tryz.func215,rfl,rfl,rfl,by kernel_rfl⟩
theorem Og:au Tryz.prog 216 Tryz.f216:=⟨Tryz.func216,rfl,rfl,rfl,by kernel_rfl⟩
theorem Of:au Tryz.prog 217 Tryz.f217:=⟨Tryz.func217,rfl,rfl,rfl,by kernel_rfl⟩
theorem Oe:au Tryz.prog 218 Tryz.f218:=⟨Tryz.func218,rfl,rfl,rfl,by kernel_rfl⟩
theorem Od:au Tryz.prog 219 Tryz.f219:=⟨Tryz.func219,rfl,rfl,rfl,by kernel_rfl⟩
theorem Oc:au Tryz.prog 220 Tryz.f220:=⟨Tryz.func220,rfl,rfl,rfl,by kernel_rfl⟩
theorem Ob:au Tryz.prog 221 Tryz.f221:=⟨Tryz.func221,rfl,rfl,rfl,by kernel_rfl⟩
theorem Oa:au Tryz.prog 222 Tryz.f222:=⟨Tryz.func222,rfl,rfl,rfl,by kernel_rfl⟩
theorem I9:au Tryz.prog 223 Tryz.f223:=⟨Tryz.func223,rfl,rfl,rfl,by kernel_rfl⟩
theorem N9:au Tryz.prog 224 Tryz.f224:=⟨Tryz.func224,rfl,rfl,rfl,by kernel_rfl⟩
theorem I8:au Tryz.prog 225 Tryz.f225:=⟨Tryz.func225,rfl,rfl,rfl,by kernel_rfl⟩
theorem N8:au Tryz.prog 226 Tryz.f226:=⟨Tryz.func226,rfl,rfl,rfl,by kernel_rfl⟩
theorem N7:au Tryz.prog 227 Tryz.f227:=⟨Tryz.func227,rfl,rfl,rfl,by kernel_rfl⟩
theorem N6:au Tryz.prog 228 Tryz.f228:=⟨Tryz.func228,rfl,rfl,rfl,by kernel_rfl⟩
theorem N5:au Tryz.prog 229 Tryz.f229:=⟨Tryz.func229,rfl,rfl,rfl,by kernel_rfl⟩
theorem I7:au Tryz.prog 230 Tryz.f230:=⟨Tryz.func230,rfl,rfl,rfl,by kernel_rfl⟩
theorem N4:au Tryz.prog 231 Tryz.f231:=⟨Tryz.func231,rfl,rfl,rfl,by kernel_rfl⟩
theorem N2:au Tryz.prog 232 Tryz.f232:=⟨Tryz.func232,rfl,rfl,rfl,by kernel_rfl⟩
theorem NZ:au Tryz.prog 233 Tryz.f233:=⟨Tryz.func233,rfl,rfl,rfl,by kernel_rfl⟩
theorem NY:au Tryz.prog 234 Tryz.f234:=⟨Tryz.func234,rfl,rfl,rfl,by kernel_rfl⟩
theorem NX:au Tryz.prog 235 Tryz.f235:=⟨Tryz.func235,rfl,rfl,rfl,by kernel_rfl⟩
theorem NW:au Tryz.prog 236 Tryz.f236:=⟨Tryz.func236,rfl,rfl,rfl,by kernel_rfl⟩
theorem NV:au Tryz.prog 237 Tryz.f237:=⟨Tryz.func237,rfl,rfl,rfl,by kernel_rfl⟩
theorem NU:au Tryz.prog 238 Tryz.f238:=⟨Tryz.func238,rfl,rfl,rfl,by kernel_rfl⟩
theorem NT:au Tryz.prog 239 Tryz.f239:=⟨Tryz.func239,rfl,rfl,rfl,by kernel_rfl⟩
theorem NS:au Tryz.prog 240 Tryz.f240:=⟨Tryz.func240,rfl,rfl,rfl,by kernel_rfl⟩
theorem NR:au Tryz.prog 241 Tryz.f241:=⟨Tryz.func241,rfl,rfl,rfl,by kernel_rfl⟩
theorem NP:au Tryz.prog 242 Tryz.f242:=⟨Tryz.func242,rfl,rfl,rfl,by kernel_rfl⟩
theorem NO:au Tryz.prog 243 Tryz.f243:=⟨Tryz.func243,rfl,rfl,rfl,by kernel_rfl⟩
theorem NN:au Tryz.prog 244 Tryz.f244:=⟨Tryz.func244,rfl,rfl,rfl,by kernel_rfl⟩
theorem NM:au Tryz.prog 245 Tryz.f245:=⟨Tryz.func245,rfl,rfl,rfl,by kernel_rfl⟩
theorem NL:au Tryz.prog 246 Tryz.f246:=⟨Tryz.func246,rfl,rfl,rfl,by kernel_rfl⟩
theorem NK:au Tryz.prog 247 Tryz.f247:=⟨Tryz.func247,rfl,rfl,rfl,by kernel_rfl⟩
theorem NJ:au Tryz.prog 248 Tryz.f248:=⟨Tryz.func248,rfl,rfl,rfl,by kernel_rfl⟩
theorem NI:au Tryz.prog 249 Tryz.f249:=⟨Tryz.func249,rfl,rfl,rfl,by kernel_rfl⟩
theorem NH:au Tryz.prog 250 Tryz.f250:=⟨Tryz.func250,rfl,rfl,rfl,by kernel_rfl⟩
theorem NG:au Tryz.prog 251 Tryz.f251:=⟨Tryz.func251,rfl,rfl,rfl,by kernel_rfl⟩
theorem NE:au Tryz.prog 253 Tryz.f253:=⟨Tryz.func253,rfl,rfl,rfl,by kernel_rfl⟩
theorem ND:au Tryz.prog 254 Tryz.f254:=⟨Tryz.func254,rfl,rfl,rfl,by kernel_rfl⟩
theorem NC:au Tryz.prog 255 Tryz.f255:=⟨Tryz.func255,rfl,rfl,rfl,by kernel_rfl⟩
theorem NB:au Tryz.prog 256 Tryz.f256:=⟨Tryz.func256,rfl,rfl,rfl,by kernel_rfl⟩
theorem Nz:au Tryz.prog 257 Tryz.f257:=⟨Tryz.func257,rfl,rfl,rfl,by kernel_rfl⟩
theorem Ny:au Tryz.prog 258 Tryz.f258:=⟨Tryz.func258,rfl,rfl,rfl,by kernel_rfl⟩
theorem Nx:au Tryz.prog 259 Tryz.f259:=⟨Tryz.func259,rfl,rfl,rfl,by kernel_rfl⟩
theorem Nw:au Tryz.prog 260 Tryz.f260:=⟨Tryz.func260,rfl,rfl,rfl,by kernel_rfl⟩
theorem Nv:au Tryz.prog 261 Tryz.f261:=⟨Tryz.func261,rfl,rfl,rfl,by kernel_rfl⟩
theorem Nu:au Tryz.prog 262 Tryz.f262:=⟨Tryz.func262,rfl,rfl,rfl,by kernel_rfl⟩
theorem Nt:au Tryz.prog 263 Tryz.f263:=⟨Tryz.func263,rfl,rfl,rfl,by kernel_rfl⟩
theorem Ns:au Tryz.prog 264 Tryz.f264:=⟨Tryz.func264,rfl,rfl,rfl,by kernel_rfl⟩
theorem Nr:au Tryz.prog 265 Tryz.f265:=⟨Tryz.func265,rfl,rfl,rfl,by kernel_rfl⟩
theorem Nq:au Tryz.prog 266 Tryz.f266:=⟨Tryz.func266,rfl,rfl,rfl,by kernel_rfl⟩
theorem Np:au Tryz.prog 267 Tryz.f267:=⟨Tryz.func267,rfl,rfl,rfl,by kernel_rfl⟩
theorem No:au Tryz.prog 268 Tryz.f268:=⟨Tryz.func268,rfl,rfl,rfl,by kernel_rfl⟩
theorem Nn:au Tryz.prog 269 Tryz.f269:=⟨Tryz.func269,rfl,rfl,rfl,by kernel_rfl⟩
theorem Nm:au Tryz.prog 270 Tryz.f270:=⟨Tryz.func270,rfl,rfl,rfl,by kernel_rfl⟩
theorem I6:au Tryz.prog 271 Tryz.f271:=⟨Tryz.func271,rfl,rfl,rfl,by kernel_rfl⟩
theorem Nl:au Tryz.prog 272 Tryz.f272:=⟨Tryz.func272,rfl,rfl,rfl,by kernel_rfl⟩
theorem Nk:au Tryz.prog 274 Tryz.f274:=⟨Tryz.func274,rfl,rfl,rfl,by kernel_rfl⟩
theorem Nj:au Tryz.prog 275 Tryz.f275:=⟨Tryz.func275,rfl,rfl,rfl,by kernel_rfl⟩
theorem Ni:au Tryz.prog 276 Tryz.f276:=⟨Tryz.func276,rfl,rfl,rfl,by kernel_rfl⟩
theorem Nh:au Tryz.prog 277 Tryz.f277:=⟨Tryz.func277,rfl,rfl,rfl,by kernel_rfl⟩
theorem Ng:au Tryz.prog 281 Tryz.f281:=⟨Tryz.func281,rfl,rfl,rfl,by kernel_rfl⟩
theorem Nf:au Tryz.prog 282 Tryz.f282:=⟨Tryz.func282,rfl,rfl,rfl,by kernel_rfl⟩
theorem Nd:au Tryz.prog 283 Tryz.f283:=⟨Tryz.func283,rfl,rfl,rfl,by kernel_rfl⟩
theorem Nc:au Tryz.prog 284 Tryz.f284:=⟨Tryz.func284,rfl,rfl,rfl,by kernel_rfl⟩
theorem jW:au Tryz.prog 285 Tryz.f285:=⟨Tryz.func285,rfl,rfl,rfl,by kernel_rfl⟩
theorem Nb:au Tryz.prog 286 Tryz.f286:=⟨Tryz.func286,rfl,rfl,rfl,by kernel_rfl⟩
theorem Na:au Tryz.prog 290 Tryz.f290:=⟨Tryz.func290,rfl,rfl,rfl,by kernel_rfl⟩
theorem I5:au Tryz.prog 291 Tryz.f291:=⟨Tryz.func291,rfl,rfl,rfl,by kernel_rfl⟩
theorem M9:au Tryz.prog 292 Tryz.f292:=⟨Tryz.func292,rfl,rfl,rfl,by kernel_rfl⟩
theorem M8:au Tryz.prog 293 Tryz.f293:=⟨Tryz.func293,rfl,rfl,rfl,by kernel_rfl⟩
theorem jV:au Tryz.prog 294 Tryz.f294:=⟨Tryz.func294,rfl,rfl,rfl,by kernel_rfl⟩
theorem M7:au Tryz.prog 295 Tryz.f295:=⟨Tryz.func295,rfl,rfl,rfl,by kernel_rfl⟩
theorem M6:au Tryz.prog 296 Tryz.f296:=⟨Tryz.func296,rfl,rfl,rfl,by kernel_rfl⟩
theorem M5:au Tryz.prog 297 Tryz.f297:=⟨Tryz.func297,rfl,rfl,rfl,by kernel_rfl⟩
theorem MZ:au Tryz.prog 305 Tryz.f305:=⟨Tryz.func305,rfl,rfl,rfl,by kernel_rfl⟩
theorem MY:au Tryz.prog 306 Tryz.f306:=⟨Tryz.func306,rfl,rfl,rfl,by kernel_rfl⟩
theorem MX:au Tryz.prog 307 Tryz.f307:=⟨Tryz.func307,rfl,rfl,rfl,by kernel_rfl⟩
theorem MW:au Tryz.prog 319 Tryz.f319:=⟨Tryz.func319,rfl,rfl,rfl,by kernel_rfl⟩
theorem MV:au Tryz.prog 320 Tryz.f320:=⟨Tryz.func320,rfl,rfl,rfl,by kernel_rfl⟩
theorem MU:au Tryz.prog 322 Tryz.f322:=⟨Tryz.func322,rfl,rfl,rfl,by kernel_rfl⟩
theorem MT:au Tryz.prog 358 Tryz.f358:=⟨Tryz.func358,rfl,rfl,rfl,by kernel_rfl⟩
theorem MS:au Tryz.prog 359 Tryz.f359:=⟨Tryz.func359,rfl,rfl,rfl,by kernel_rfl⟩
theorem MR:au Tryz.prog 360 Tryz.f360:=⟨Tryz.func360,rfl,rfl,rfl,by kernel_rfl⟩
theorem MP:au Tryz.prog 361 Tryz.f361:=⟨Tryz.func361,rfl,rfl,rfl,by kernel_rfl⟩
theorem MO:au Tryz.prog 362 Tryz.f362:=⟨Tryz.func362,rfl,rfl,rfl,by kernel_rfl⟩
end Go.Proofs.YtklehfchdoikeaaGreatDoor
