/- The table of the types, printed by program. Where each funct; no condition. -/
import Derived.Test.YtklehfchdoikeaaGreatDoorProg
import Derived.Test.YtklehfchdoikeaaGreatDoorP7
set_option maxRecDepth 100000
set_option maxHeartbeats 4000000
namespace Go.Proofs.YtklehfchdoikeaaGreatDoor
open Go Go.SX
def ti3:TI:={ row:=false,size:=1,zero:=#[.int .i64 0],kind:=4,ik:=.i64 }
def ti4:TI:={ row:=false,size:=1,zero:=#[.bool false],kind:=5 }
def ti5:TI:={ row:=false,size:=1,zero:=#[.int .u8 0],kind:=4,ik:=.u8 }
def ti7:TI:={ row:=true,size:=4,zero:=#[.int .i64 0,.int .i64 0,.bool false,.int .u8 0],kind:=1,fields:=[(0,2),(1,3),(2,4),(3,6)] }
def ti8:TI:={ row:=true,size:=4,zero:=#[.int .i64 0,.int .i64 0,.bool false,.int .u8 0],kind:=1,fields:=[(0,2),(1,3),(2,4),(3,6)] }
def ti9:TI:={ row:=false,size:=1,zero:=#[.string ByteArray.empty],kind:=0 }
def TL:TI:={ row:=true,size:=2,zero:=#[.string ByteArray.empty,.int .u64 0],kind:=1,fields:=[(0,9),(1,12)] }
def TK:TI:={ row:=true,size:=2,zero:=#[.string ByteArray.empty,.int .u64 0],kind:=1,fields:=[(0,9),(1,12)] }
def TJ:TI:={ row:=true,size:=1,zero:=#[.pointer none],kind:=1,fields:=[(0,17)] }
def TH:TI:={ row:=true,size:=1,zero:=#[.pointer none],kind:=1,fields:=[(0,17)] }
def Df:TI:={ row:=false,size:=1,zero:=#[.slice none 0 0],kind:=3,elem:=88 }
def TG:TI:={ row:=true,size:=3,zero:=#[.slice none 0 0,.slice none 0 0,.slice none 0 0],kind:=1,fields:=[(0,22),(1,23),(2,23)] }
def De:TI:={ row:=true,size:=3,zero:=#[.slice none 0 0,.slice none 0 0,.slice none 0 0],kind:=1,fields:=[(0,22),(1,23),(2,23)] }
def MD:TI:={ row:=false,size:=1,zero:=#[.slice none 0 0],kind:=3,elem:=63 }
def OP:TI:={ row:=false,size:=1,zero:=#[.int .u32 0],kind:=4,ik:=.u32 }
def MC:TI:={ row:=true,size:=32,zero:=(Array.replicate 32 (.int .u32 0)),kind:=2,len:=32,elem:=28 }
def TF:TI:={ row:=true,size:=33,zero:=#[.bool false,.int .u32 0,.int .u32 0,.int .u32 0,.int .u32 0,.int .u32 0,.int .u32 0,.int .u32 0,.int .u32 0,.int .u32 0,.int .u32 0,.int .u32 0,.int .u32 0,.int .u32 0,.int .u32 0,.int .u32 0,.int .u32 0,.int .u32 0,.int .u32 0,.int .u32 0,.int .u32 0,.int .u32 0,.int .u32 0,.int .u32 0,.int .u32 0,.int .u32 0,.int .u32 0,.int .u32 0,.int .u32 0,.int .u32 0,.int .u32 0,.int .u32 0,.int .u32 0],kind:=1,fields:=[(0,4),(1,29)] }
def eW:TI:={ row:=true,size:=33,zero:=#[.bool false,.int .u32 0,.int .u32 0,.int .u32 0,.int .u32 0,.int .u32 0,.int .u32 0,.int .u32 0,.int .u32 0,.int .u32 0,.int .u32 0,.int .u32 0,.int .u32 0,.int .u32 0,.int .u32 0,.int .u32 0,.int .u32 0,.int .u32 0,.int .u32 0,.int .u32 0,.int .u32 0,.int .u32 0,.int .u32 0,.int .u32 0,.int .u32 0,.int .u32 0,.int .u32 0,.int .u32 0,.int .u32 0,.int .u32 0,.int .u32 0,.int .u32 0,.int .u32 0],kind:=1,fields:=[(0,4),(1,29)] }
def TE:TI:={ row:=true,size:=66,zero:=#[.bool false,.int .u32 0,.int .u32 0,.int .u32 0,.int .u32 0,.int .u32 0,.int .u32 0,.int .u32 0,.int .u32 0,.int .u32 0,.int .u32 0,.int .u32 0,.int .u32 0,.int .u32 0,.int .u32 0,.int .u32 0,.int .u32 0,.int .u32 0,.int .u32 0,.int .u32 0,.int .u32 0,.int .u32 0,.int .u32 0,.int .u32 0,.int .u32 0,.int .u32 0,.int .u32 0,.int .u32 0,.int .u32 0,.int .u32 0,.int .u32 0,.int .u32 0,.int .u32 0,.bool false,.int .u32 0,.int .u32 0,.int .u32 0,.int .u32 0,.int .u32 0,.int .u32 0,.int .u32 0,.int .u32 0,.int .u32 0,.int .u32 0,.int .u32 0,.int .u32 0,.int .u32 0,.int .u32 0,.int .u32 0,.int .u32 0,.int .u32 0,.int .u32 0,.int .u32 0,.int .u32 0,.int .u32 0,.int .u32 0,.int .u32 0,.int .u32 0,.int .u32 0,.int .u32 0,.int .u32 0,.int .u32 0,.int .u32 0,.int .u32 0,.int .u32 0,.int .u32 0],kind:=1,fields:=[(0,31),(33,31)] }
def cR:TI:={ row:=true,size:=66,zero:=#[.bool false,.int .u32 0,.int .u32 0,.int .u32 0,.int .u32 0,.int .u32 0,.int .u32 0,.int .u32 0,.int .u32 0,.int .u32 0,.int .u32 0,.int .u32 0,.int .u32 0,.int .u32 0,.int .u32 0,.int .u32 0,.int .u32 0,.int .u32 0,.int .u32 0,.int .u32 0,.int .u32 0,.int .u32 0,.int .u32 0,.int .u32 0,.int .u32 0,.int .u32 0,.int .u32 0,.int .u32 0,.int .u32 0,.int .u32 0,.int .u32 0,.int .u32 0,.int .u32 0,.bool false,.int .u32 0,.int .u32 0,.int .u32 0,.int .u32 0,.int .u32 0,.int .u32 0,.int .u32 0,.int .u32 0,.int .u32 0,.int .u32 0,.int .u32 0,.int .u32 0,.int .u32 0,.int .u32 0,.int .u32 0,.int .u32 0,.int .u32 0,.int .u32 0,.int .u32 0,.int .u32 0,.int .u32 0,.int .u32 0,.int .u32 0,.int .u32 0,.int .u32 0,.int .u32 0,.int .u32 0,.int .u32 0,.int .u32 0,.int .u32 0,.int .u32 0,.int .u32 0],kind:=1,fields:=[(0,31),(33,31)] }
def TD:TI:={ row:=true,size:=68,zero:=#[.slice none 0 0,.bool false,.int .u32 0,.int .u32 0,.int .u32 0,.int .u32 0,.int .u32 0,.int .u32 0,.int .u32 0,.int .u32 0,.int .u32 0,.int .u32 0,.int .u32 0,.int .u32 0,.int .u32 0,.int .u32 0,.int .u32 0,.int .u32 0,.int .u32 0,.int .u32 0,.int .u32 0,.int .u32 0,.int .u32 0,.int .u32 0,.int .u32 0,.int .u32 0,.int .u32 0,.int .u32 0,.int .u32 0,.int .u32 0,.int .u32 0,.int .u32 0,.int .u32 0,.int .u32 0,.bool false,.int .u32 0,.int .u32 0,.int .u32 0,.int .u32 0,.int .u32 0,.int .u32 0,.int .u32 0,.int .u32 0,.int .u32 0,.int .u32 0,.int .u32 0,.int .u32 0,.int .u32 0,.int .u32 0,.int .u32 0,.int .u32 0,.int .u32 0,.int .u32 0,.int .u32 0,.int .u32 0,.int .u32 0,.int .u32 0,.int .u32 0,.int .u32 0,.int .u32 0,.int .u32 0,.int .u32 0,.int .u32 0,.int .u32 0,.int .u32 0,.int .u32 0,.int .u32 0,.int .i64 0],kind:=1,fields:=[(0,27),(1,33),(67,3)] }
def Jo:TI:={ row:=true,size:=68,zero:=#[.slice none 0 0,.bool false,.int .u32 0,.int .u32 0,.int .u32 0,.int .u32 0,.int .u32 0,.int .u32 0,.int .u32 0,.int .u32 0,.int .u32 0,.int .u32 0,.int .u32 0,.int .u32 0,.int .u32 0,.int .u32 0,.int .u32 0,.int .u32 0,.int .u32 0,.int .u32 0,.int .u32 0,.int .u32 0,.int .u32 0,.int .u32 0,.int .u32 0,.int .u32 0,.int .u32 0,.int .u32 0,.int .u32 0,.int .u32 0,.int .u32 0,.int .u32 0,.int .u32 0,.int .u32 0,.bool false,.int .u32 0,.int .u32 0,.int .u32 0,.int .u32 0,.int .u32 0,.int .u32 0,.int .u32 0,.int .u32 0,.int .u32 0,.int .u32 0,.int .u32 0,.int .u32 0,.int .u32 0,.int .u32 0,.int .u32 0,.int .u32 0,.int .u32 0,.int .u32 0,.int .u32 0,.int .u32 0,.int .u32 0,.int .u32 0,.int .u32 0,.int .u32 0,.int .u32 0,.int .u32 0,.int .u32 0,.int .u32 0,.int .u32 0,.int .u32 0,.int .u32 0,.int .u32 0,.int .i64 0],kind:=1,fields:=[(0,27),(1,33),(67,3)] }
def TC:TI:={ row:=true,size:=78,zero:=#[.string ByteArray.empty,.string ByteArray.empty,.int .i64 0,.int .i64 0,.slice none 0 0,.slice none 0 0,.slice none 0 0,.slice none 0 0,.slice none 0 0,.bool false,.int .u32 0,.int .u32 0,.int .u32 0,.int .u32 0,.int .u32 0,.int .u32 0,.int .u32 0,.int .u32 0,.int .u32 0,.int .u32 0,.int .u32 0,.int .u32 0,.int .u32 0,.int .u32 0,.int .u32 0,.int .u32 0,.int .u32 0,.int .u32 0,.int .u32 0,.int .u32 0,.int .u32 0,.int .u32 0,.int .u32 0,.int .u32 0,.int .u32 0,.int .u32 0,.int .u32 0,.int .u32 0,.int .u32 0,.int .u32 0,.int .u32 0,.int .u32 0,.bool false,.int .u32 0,.int .u32 0,.int .u32 0,.int .u32 0,.int .u32 0,.int .u32 0,.int .u32 0,.int .u32 0,.int .u32 0,.int .u32 0,.int .u32 0,.int .u32 0,.int .u32 0,.int .u32 0,.int .u32 0,.int .u32 0,.int .u32 0,.int .u32 0,.int .u32 0,.int .u32 0,.int .u32 0,.int .u32 0,.int .u32 0,.int .u32 0,.int .u32 0,.int .u32 0,.int .u32 0,.int .u32 0,.int .u32 0,.int .u32 0,.int .u32 0,.int .u32 0,.int .i64 0,.slice none 0 0,.slice none 0 0],kind:=1,fields:=[(0,9),(1,9),(2,3),(3,3),(4,25),(7,26),(8,35),(76,36),(77,37)] }
def FB:TI:={ row:=true,size:=78,zero:=#[.string ByteArray.empty,.string ByteArray.empty,.int .i64 0,.int .i64 0,.slice none 0 0,.slice none 0 0,.slice none 0 0,.slice none 0 0,.slice none 0 0,.bool false,.int .u32 0,.int .u32 0,.int .u32 0,.int .u32 0,.int .u32 0,.int .u32 0,.int .u32 0,.int .u32 0,.int .u32 0,.int .u32 0,.int .u32 0,.int .u32 0,.int .u32 0,.int .u32 0,.int .u32 0,.int .u32 0,.int .u32 0,.int .u32 0,.int .u32 0,.int .u32 0,.int .u32 0,.int .u32 0,.int .u32 0,.int .u32 0,.int .u32 0,.int .u32 0,.int .u32 0,.int .u32 0,.int .u32 0,.int .u32 0,.int .u32 0,.int .u32 0,.bool false,.int .u32 0,.int .u32 0,.int .u32 0,.int .u32 0,.int .u32 0,.int .u32 0,.int .u32 0,.int .u32 0,.int .u32 0,.int .u32 0,.int .u32 0,.int .u32 0,.int .u32 0,.int .u32 0,.int .u32 0,.int .u32 0,.int .u32 0,.int .u32 0,.int .u32 0,.int .u32 0,.int .u32 0,.int .u32 0,.int .u32 0,.int .u32 0,.int .u32 0,.int .u32 0,.int .u32 0,.int .u32 0,.int .u32 0,.int .u32 0,.int .u32 0,.int .u32 0,.int .i64 0,.slice none 0 0,.slice none 0 0],kind:=1,fields:=[(0,9),(1,9),(2,3),(3,3),(4,25),(7,26),(8,35),(76,36),(77,37)] }
def TB:TI:={ row:=true,size:=5,zero:=#[.string ByteArray.empty,.int .i64 0,.int .i64 0,.slice none 0 0,.int .i64 0],kind:=1,fields:=[(0,9),(1,3),(2,3),(3,40),(4,3)] }
def w9:TI:={ row:=true,size:=5,zero:=#[.string ByteArray.empty,.int .i64 0,.int .i64 0,.slice none 0 0,.int .i64 0],kind:=1,fields:=[(0,9),(1,3),(2,3),(3,40),(4,3)] }
def Tz:TI:={ row:=true,size:=2,zero:=#[.slice none 0 0,.int .i64 0],kind:=1,fields:=[(0,50),(1,3)] }
def Ov:TI:={ row:=true,size:=2,zero:=#[.slice none 0 0,.int .i64 0],kind:=1,fields:=[(0,50),(1,3)] }
def Ty:TI:={ row:=true,size:=2,zero:=#[.string ByteArray.empty,.int .i64 0],kind:=1,fields:=[(0,9),(1,3)] }
def gK:TI:={ row:=true,size:=2,zero:=#[.string ByteArray.empty,.int .i64 0],kind:=1,fields:=[(0,9),(1,3)] }
def Tx:TI:={ row:=true,size:=72,zero:=#[.string ByteArray.empty,.string ByteArray.empty,.string ByteArray.empty,.int .i64 0,.bool false,.int .u32 0,.int .u32 0,.int .u32 0,.int .u32 0,.int .u32 0,.int .u32 0,.int .u32 0,.int .u32 0,.int .u32 0,.int .u32 0,.int .u32 0,.int .u32 0,.int .u32 0,.int .u32 0,.int .u32 0,.int .u32 0,.int .u32 0,.int .u32 0,.int .u32 0,.int .u32 0,.int .u32 0,.int .u32 0,.int .u32 0,.int .u32 0,.int .u32 0,.int .u32 0,.int .u32 0,.int .u32 0,.int .u32 0,.int .u32 0,.int .u32 0,.int .u32 0,.bool false,.int .u32 0,.int .u32 0,.int .u32 0,.int .u32 0,.int .u32 0,.int .u32 0,.int .u32 0,.int .u32 0,.int .u32 0,.int .u32 0,.int .u32 0,.int .u32 0,.int .u32 0,.int .u32 0,.int .u32 0,.int .u32 0,.int .u32 0,.int .u32 0,.int .u32 0,.int .u32 0,.int .u32 0,.int .u32 0,.int .u32 0,.int .u32 0,.int .u32 0,.int .u32 0,.int .u32 0,.int .u32 0,.int .u32 0,.int .u32 0,.int .u32 0,.int .u32 0,.int .i64 0,.bool false],kind:=1,fields:=[(0,9),(1,9),(2,9),(3,3),(4,33),(70,3),(71,4)] }
def gJ:TI:={ row:=true,size:=72,zero:=#[.string ByteArray.empty,.string ByteArray.empty,.string ByteArray.empty,.int .i64 0,.bool false,.int .u32 0,.int .u32 0,.int .u32 0,.int .u32 0,.int .u32 0,.int .u32 0,.int .u32 0,.int .u32 0,.int .u32 0,.int .u32 0,.int .u32 0,.int .u32 0,.int .u32 0,.int .u32 0,.int .u32 0,.int .u32 0,.int .u32 0,.int .u32 0,.int .u32 0,.int .u32 0,.int .u32 0,.int .u32 0,.int .u32 0,.int .u32 0,.int .u32 0,.int .u32 0,.int .u32 0,.int .u32 0,.int .u32 0,.int .u32 0,.int .u32 0,.int .u32 0,.bool false,.int .u32 0,.int .u32 0,.int .u32 0,.int .u32 0,.int .u32 0,.int .u32 0,.int .u32 0,.int .u32 0,.int .u32 0,.int .u32 0,.int .u32 0,.int .u32 0,.int .u32 0,.int .u32 0,.int .u32 0,.int .u32 0,.int .u32 0,.int .u32 0,.int .u32 0,.int .u32 0,.int .u32 0,.int .u32 0,.int .u32 0,.int .u32 0,.int .u32 0,.int .u32 0,.int .u32 0,.int .u32 0,.int .u32 0,.int .u32 0,.int .u32 0,.int .u32 0,.int .i64 0,.bool false],kind:=1,fields:=[(0,9),(1,9),(2,9),(3,3),(4,33),(70,3),(71,4)] }
def Tw:TI:={ row:=true,size:=68,zero:=#[.string ByteArray.empty,.string ByteArray.empty,.bool false,.int .u32 0,.int .u32 0,.int .u32 0,.int .u32 0,.int .u32 0,.int .u32 0,.int .u32 0,.int .u32 0,.int .u32 0,.int .u32 0,.int .u32 0,.int .u32 0,.int .u32 0,.int .u32 0,.int .u32 0,.int .u32 0,.int .u32 0,.int .u32 0,.int .u32 0,.int .u32 0,.int .u32 0,.int .u32 0,.int .u32 0,.int .u32 0,.int .u32 0,.int .u32 0,.int .u32 0,.int .u32 0,.int .u32 0,.int .u32 0,.int .u32 0,.int .u32 0,.bool false,.int .u32 0,.int .u32 0,.int .u32 0,.int .u32 0,.int .u32 0,.int .u32 0,.int .u32 0,.int .u32 0,.int .u32 0,.int .u32 0,.int .u32 0,.int .u32 0,.int .u32 0,.int .u32 0,.int .u32 0,.int .u32 0,.int .u32 0,.int .u32 0,.int .u32 0,.int .u32 0,.int .u32 0,.int .u32 0,.int .u32 0,.int .u32 0,.int .u32 0,.int .u32 0,.int .u32 0,.int .u32 0,.int .u32 0,.int .u32 0,.int .u32 0,.int .u32 0],kind:=1,fields:=[(0,9),(1,9),(2,33)] }
def tT:TI:={ row:=true,size:=68,zero:=#[.string ByteArray.empty,.string ByteArray.empty,.bool false,.int .u32 0,.int .u32 0,.int .u32 0,.int .u32 0,.int .u32 0,.int .u32 0,.int .u32 0,.int .u32 0,.int .u32 0,.int .u32 0,.int .u32 0,.int .u32 0,.int .u32 0,.int .u32 0,.int .u32 0,.int .u32 0,.int .u32 0,.int .u32 0,.int .u32 0,.int .u32 0,.int .u32 0,.int .u32 0,.int .u32 0,.int .u32 0,.int .u32 0,.int .u32 0,.int .u32 0,.int .u32 0,.int .u32 0,.int .u32 0,.int .u32 0,.int .u32 0,.bool false,.int .u32 0,.int .u32 0,.int .u32 0,.int .u32 0,.int .u32 0,.int .u32 0,.int .u32 0,.int .u32 0,.int .u32 0,.int .u32 0,.int .u32 0,.int .u32 0,.int .u32 0,.int .u32 0,.int .u32 0,.int .u32 0,.int .u32 0,.int .u32 0,.int .u32 0,.int .u32 0,.int .u32 0,.int .u32 0,.int .u32 0,.int .u32 0,.int .u32 0,.int .u32 0,.int .u32 0,.int .u32 0,.int .u32 0,.int .u32 0,.int .u32 0,.int .u32 0],kind:=1,fields:=[(0,9),(1,9),(2,33)] }
def Tv:TI:={ row:=true,size:=136,zero:=#[.string ByteArray.empty,.bool false,.int .u32 0,.int .u32 0,.int .u32 0,.int .u32 0,.int .u32 0,.int .u32 0,.int .u32 0,.int .u32 0,.int .u32 0,.int .u32 0,.int .u32 0,.int .u32 0,.int .u32 0,.int .u32 0,.int .u32 0,.int .u32 0,.int .u32 0,.int .u32 0,.int .u32 0,.int .u32 0,.int .u32 0,.int .u32 0,.int .u32 0,.int .u32 0,.int .u32 0,.int .u32 0,.int .u32 0,.int .u32 0,.int .u32 0,.int .u32 0,.int .u32 0,.int .u32 0,.bool false,.int .u32 0,.int .u32 0,.int .u32 0,.int .u32 0,.int .u32 0,.int .u32 0,.int .u32 0,.int .u32 0,.int .u32 0,.int .u32 0,.int .u32 0,.int .u32 0,.int .u32 0,.int .u32 0,.int .u32 0,.int .u32 0,.int .u32 0,.int .u32 0,.int .u32 0,.int .u32 0,.int .u32 0,.int .u32 0,.int .u32 0,.int .u32 0,.int .u32 0,.int .u32 0,.int .u32 0,.int .u32 0,.int .u32 0,.int .u32 0,.int .u32 0,.int .u32 0,.int .i64 0,.bool false,.int .u32 0,.int .u32 0,.int .u32 0,.int .u32 0,.int .u32 0,.int .u32 0,.int .u32 0,.int .u32 0,.int .u32 0,.int .u32 0,.int .u32 0,.int .u32 0,.int .u32 0,.int .u32 0,.int .u32 0,.int .u32 0,.int .u32 0,.int .u32 0,.int .u32 0,.int .u32 0,.int .u32 0,.int .u32 0,.int .u32 0,.int .u32 0,.int .u32 0,.int .u32 0,.int .u32 0,.int .u32 0,.int .u32 0,.int .u32 0,.int .u32 0,.int .u32 0,.bool false,.int .u32 0,.int .u32 0,.int .u32 0,.int .u32 0,.int .u32 0,.int .u32 0,.int .u32 0,.int .u32 0,.int .u32 0,.int .u32 0,.int .u32 0,.int .u32 0,.int .u32 0,.int .u32 0,.int .u32 0,.int .u32 0,.int .u32 0,.int .u32 0,.int .u32 0,.int .u32 0,.int .u32 0,.int .u32 0,.int .u32 0,.int .u32 0,.int .u32 0,.int .u32 0,.int .u32 0,.int .u32 0,.int .u32 0,.int .u32 0,.int .u32 0,.int .u32 0,.int .i64 0,.int .i64 0],kind:=1,fields:=[(0,9),(1,33),(67,3),(68,33),(134,3),(135,3)] }
def iY:TI:={ row:=true,size:=136,zero:=#[.string ByteArray.empty,.bool false,.int .u32 0,.int .u32 0,.int .u32 0,.int .u32 0,.int .u32 0,.int .u32 0,.int .u32 0,.int .u32 0,.int .u32 0,.int .u32 0,.int .u32 0,.int .u32 0,.int .u32 0,.int .u32 0,.int .u32 0,.int .u32 0,.int .u32 0,.int .u32 0,.int .u32 0,.int .u32 0,.int .u32 0,.int .u32 0,.int .u32 0,.int .u32 0,.int .u32 0,.int .u32 0,.int .u32 0,.int .u32 0,.int .u32 0,.int .u32 0,.int .u32 0,.int .u32 0,.bool false,.int .u32 0,.int .u32 0,.int .u32 0,.int .u32 0,.int .u32 0,.int .u32 0,.int .u32 0,.int .u32 0,.int .u32 0,.int .u32 0,.int .u32 0,.int .u32 0,.int .u32 0,.int .u32 0,.int .u32 0,.int .u32 0,.int .u32 0,.int .u32 0,.int .u32 0,.int .u32 0,.int .u32 0,.int .u32 0,.int .u32 0,.int .u32 0,.int .u32 0,.int .u32 0,.int .u32 0,.int .u32 0,.int .u32 0,.int .u32 0,.int .u32 0,.int .u32 0,.int .i64 0,.bool false,.int .u32 0,.int .u32 0,.int .u32 0,.int .u32 0,.int .u32 0,.int .u32 0,.int .u32 0,.int .u32 0,.int .u32 0,.int .u32 0,.int .u32 0,.int .u32 0,.int .u32 0,.int .u32 0,.int .u32 0,.int .u32 0,.int .u32 0,.int .u32 0,.int .u32 0,.int .u32 0,.int .u32 0,.int .u32 0,.int .u32 0,.int .u32 0,.int .u32 0,.int .u32 0,.int .u32 0,.int .u32 0,.int .u32 0,.int .u32 0,.int .u32 0,.int .u32 0,.bool false,.int .u32 0,.int .u32 0,.int .u32 0,.int .u32 0,.int .u32 0,.int .u32 0,.int .u32 0,.int .u32 0,.int .u32 0,.int .u32 0,.int .u32 0,.int .u32 0,.int .u32 0,.int .u32 0,.int .u32 0,.int .u32 0,.int .u32 0,.int .u32 0,.int .u32 0,.int .u32 0,.int .u32 0,.int .u32 0,.int .u32 0,.int .u32 0,.int .u32 0,.int .u32 0,.int .u32 0,.int .u32 0,.int .u32 0,.int .u32 0,.int .u32 0,.int .u32 0,.int .i64 0,.int .i64 0],kind:=1,fields:=[(0,9),(1,33),(67,3),(68,33),(134,3),(135,3)] }
def Tu:TI:={ row:=true,size:=137,zero:=#[.int .i64 0,.string ByteArray.empty,.int .i64 0,.int .i64 0,.bool false,.int .u32 0,.int .u32 0,.int .u32 0,.int .u32 0,.int .u32 0,.int .u32 0,.int .u32 0,.int .u32 0,.int .u32 0,.int .u32 0,.int .u32 0,.int .u32 0,.int .u32 0,.int .u32 0,.int .u32 0,.int .u32 0,.int .u32 0,.int .u32 0,.int .u32 0,.int .u32 0,.int .u32 0,.int .u32 0,.int .u32 0,.int .u32 0,.int .u32 0,.int .u32 0,.int .u32 0,.int .u32 0,.int .u32 0,.int .u32 0,.int .u32 0,.int .u32 0,.bool false,.int .u32 0,.int .u32 0,.int .u32 0,.int .u32 0,.int .u32 0,.int .u32 0,.int .u32 0,.int .u32 0,.int .u32 0,.int .u32 0,.int .u32 0,.int .u32 0,.int .u32 0,.int .u32 0,.int .u32 0,.int .u32 0,.int .u32 0,.int .u32 0,.int .u32 0,.int .u32 0,.int .u32 0,.int .u32 0,.int .u32 0,.int .u32 0,.int .u32 0,.int .u32 0,.int .u32 0,.int .u32 0,.int .u32 0,.int .u32 0,.int .u32 0,.int .u32 0,.bool false,.int .u32 0,.int .u32 0,.int .u32 0,.int .u32 0,.int .u32 0,.int .u32 0,.int .u32 0,.int .u32 0,.int .u32 0,.int .u32 0,.int .u32 0,.int .u32 0,.int .u32 0,.int .u32 0,.int .u32 0,.int .u32 0,.int .u32 0,.int .u32 0,.int .u32 0,.int .u32 0,.int .u32 0,.int .u32 0,.int .u32 0,.int .u32 0,.int .u32 0,.int .u32 0,.int .u32 0,.int .u32 0,.int .u32 0,.int .u32 0,.int .u32 0,.int .u32 0,.bool false,.int .u32 0,.int .u32 0,.int .u32 0,.int .u32 0,.int .u32 0,.int .u32 0,.int .u32 0,.int .u32 0,.int .u32 0,.int .u32 0,.int .u32 0,.int .u32 0,.int .u32 0,.int .u32 0,.int .u32 0,.int .u32 0,.int .u32 0,.int .u32 0,.int .u32 0,.int .u32 0,.int .u32 0,.int .u32 0,.int .u32 0,.int .u32 0,.int .u32 0,.int .u32 0,.int .u32 0,.int .u32 0,.int .u32 0,.int .u32 0,.int .u32 0,.int .u32 0,.int .i64 0],kind:=1,fields:=[(0,3),(1,9),(2,3),(3,3),(4,33),(70,33),(136,3)] }
def fR:TI:={ row:=true,size:=137,zero:=#[.int .i64 0,.string ByteArray.empty,.int .i64 0,.int .i64 0,.bool false,.int .u32 0,.int .u32 0,.int .u32 0,.int .u32 0,.int .u32 0,.int .u32 0,.int .u32 0,.int .u32 0,.int .u32 0,.int .u32 0,.int .u32 0,.int .u32 0,.int .u32 0,.int .u32 0,.int .u32 0,.int .u32 0,.int .u32 0,.int .u32 0,.int .u32 0,.int .u32 0,.int .u32 0,.int .u32 0,.int .u32 0,.int .u32 0,.int .u32 0,.int .u32 0,.int .u32 0,.int .u32 0,.int .u32 0,.int .u32 0,.int .u32 0,.int .u32 0,.bool false,.int .u32 0,.int .u32 0,.int .u32 0,.int .u32 0,.int .u32 0,.int .u32 0,.int .u32 0,.int .u32 0,.int .u32 0,.int .u32 0,.int .u32 0,.int .u32 0,.int .u32 0,.int .u32 0,.int .u32 0,.int .u32 0,.int .u32 0,.int .u32 0,.int .u32 0,.int .u32 0,.int .u32 0,.int .u32 0,.int .u32 0,.int .u32 0,.int .u32 0,.int .u32 0,.int .u32 0,.int .u32 0,.int .u32 0,.int .u32 0,.int .u32 0,.int .u32 0,.bool false,.int .u32 0,.int .u32 0,.int .u32 0,.int .u32 0,.int .u32 0,.int .u32 0,.int .u32 0,.int .u32 0,.int .u32 0,.int .u32 0,.int .u32 0,.int .u32 0,.int .u32 0,.int .u32 0,.int .u32 0,.int .u32 0,.int .u32 0,.int .u32 0,.int .u32 0,.int .u32 0,.int .u32 0,.int .u32 0,.int .u32 0,.int .u32 0,.int .u32 0,.int .u32 0,.int .u32 0,.int .u32 0,.int .u32 0,.int .u32 0,.int .u32 0,.int .u32 0,.bool false,.int .u32 0,.int .u32 0,.int .u32 0,.int .u32 0,.int .u32 0,.int .u32 0,.int .u32 0,.int .u32 0,.int .u32 0,.int .u32 0,.int .u32 0,.int .u32 0,.int .u32 0,.int .u32 0,.int .u32 0,.int .u32 0,.int .u32 0,.int .u32 0,.int .u32 0,.int .u32 0,.int .u32 0,.int .u32 0,.int .u32 0,.int .u32 0,.int .u32 0,.int .u32 0,.int .u32 0,.int .u32 0,.int .u32 0,.int .u32 0,.int .u32 0,.int .u32 0,.int .i64 0],kind:=1,fields:=[(0,3),(1,9),(2,3),(3,3),(4,33),(70,33),(136,3)] }
def Tt:TI:={ row:=true,size:=70,zero:=#[.string ByteArray.empty,.string ByteArray.empty,.int .i64 0,.bool false,.int .u32 0,.int .u32 0,.int .u32 0,.int .u32 0,.int .u32 0,.int .u32 0,.int .u32 0,.int .u32 0,.int .u32 0,.int .u32 0,.int .u32 0,.int .u32 0,.int .u32 0,.int .u32 0,.int .u32 0,.int .u32 0,.int .u32 0,.int .u32 0,.int .u32 0,.int .u32 0,.int .u32 0,.int .u32 0,.int .u32 0,.int .u32 0,.int .u32 0,.int .u32 0,.int .u32 0,.int .u32 0,.int .u32 0,.int .u32 0,.int .u32 0,.int .u32 0,.bool false,.int .u32 0,.int .u32 0,.int .u32 0,.int .u32 0,.int .u32 0,.int .u32 0,.int .u32 0,.int .u32 0,.int .u32 0,.int .u32 0,.int .u32 0,.int .u32 0,.int .u32 0,.int .u32 0,.int .u32 0,.int .u32 0,.int .u32 0,.int .u32 0,.int .u32 0,.int .u32 0,.int .u32 0,.int .u32 0,.int .u32 0,.int .u32 0,.int .u32 0,.int .u32 0,.int .u32 0,.int .u32 0,.int .u32 0,.int .u32 0,.int .u32 0,.int .u32 0,.slice none 0 0],kind:=1,fields:=[(0,9),(1,9),(2,3),(3,33),(69,27)] }
def Ou:TI:={ row:=true,size:=70,zero:=#[.string ByteArray.empty,.string ByteArray.empty,.int .i64 0,.bool false,.int .u32 0,.int .u32 0,.int .u32 0,.int .u32 0,.int .u32 0,.int .u32 0,.int .u32 0,.int .u32 0,.int .u32 0,.int .u32 0,.int .u32 0,.int .u32 0,.int .u32 0,.int .u32 0,.int .u32 0,.int .u32 0,.int .u32 0,.int .u32 0,.int .u32 0,.int .u32 0,.int .u32 0,.int .u32 0,.int .u32 0,.int .u32 0,.int .u32 0,.int .u32 0,.int .u32 0,.int .u32 0,.int .u32 0,.int .u32 0,.int .u32 0,.int .u32 0,.bool false,.int .u32 0,.int .u32 0,.int .u32 0,.int .u32 0,.int .u32 0,.int .u32 0,.int .u32 0,.int .u32 0,.int .u32 0,.int .u32 0,.int .u32 0,.int .u32 0,.int .u32 0,.int .u32 0,.int .u32 0,.int .u32 0,.int .u32 0,.int .u32 0,.int .u32 0,.int .u32 0,.int .u32 0,.int .u32 0,.int .u32 0,.int .u32 0,.int .u32 0,.int .u32 0,.int .u32 0,.int .u32 0,.int .u32 0,.int .u32 0,.int .u32 0,.int .u32 0,.slice none 0 0],kind:=1,fields:=[(0,9),(1,9),(2,3),(3,33),(69,27)] }
def Ts:TI:={ row:=true,size:=3,zero:=#[.string ByteArray.empty,.int .i64 0,.int .i64 0],kind:=1,fields:=[(0,9),(1,3),(2,3)] }
def dw:TI:={ row:=true,size:=3,zero:=#[.string ByteArray.empty,.int .i64 0,.int .i64 0],kind:=1,fields:=[(0,9),(1,3),(2,3)] }
def Pb:TI:={ row:=true,size:=71,zero:=#[.slice none 0 0,.slice none 0 0,.bool false,.int .u32 0,.int .u32 0,.int .u32 0,.int .u32 0,.int .u32 0,.int .u32 0,.int .u32 0,.int .u32 0,.int .u32 0,.int .u32 0,.int .u32 0,.int .u32 0,.int .u32 0,.int .u32 0,.int .u32 0,.int .u32 0,.int .u32 0,.int .u32 0,.int .u32 0,.int .u32 0,.int .u32 0,.int .u32 0,.int .u32 0,.int .u32 0,.int .u32 0,.int .u32 0,.int .u32 0,.int .u32 0,.int .u32 0,.int .u32 0,.int .u32 0,.int .u32 0,.bool false,.int .u32 0,.int .u32 0,.int .u32 0,.int .u32 0,.int .u32 0,.int .u32 0,.int .u32 0,.int .u32 0,.int .u32 0,.int .u32 0,.int .u32 0,.int .u32 0,.int .u32 0,.int .u32 0,.int .u32 0,.int .u32 0,.int .u32 0,.int .u32 0,.int .u32 0,.int .u32 0,.int .u32 0,.int .u32 0,.int .u32 0,.int .u32 0,.int .u32 0,.int .u32 0,.int .u32 0,.int .u32 0,.int .u32 0,.int .u32 0,.int .u32 0,.int .u32 0,.int .i64 0,.int .i64 0,.int .i64 0],kind:=1,fields:=[(0,26),(1,35),(69,3),(70,3)] }
def FD:TI:={ row:=true,size:=71,zero:=#[.slice none 0 0,.slice none 0 0,.bool false,.int .u32 0,.int .u32 0,.int .u32 0,.int .u32 0,.int .u32 0,.int .u32 0,.int .u32 0,.int .u32 0,.int .u32 0,.int .u32 0,.int .u32 0,.int .u32 0,.int .u32 0,.int .u32 0,.int .u32 0,.int .u32 0,.int .u32 0,.int .u32 0,.int .u32 0,.int .u32 0,.int .u32 0,.int .u32 0,.int .u32 0,.int .u32 0,.int .u32 0,.int .u32 0,.int .u32 0,.int .u32 0,.int .u32 0,.int .u32 0,.int .u32 0,.int .u32 0,.bool false,.int .u32 0,.int .u32 0,.int .u32 0,.int .u32 0,.int .u32 0,.int .u32 0,.int .u32 0,.int .u32 0,.int .u32 0,.int .u32 0,.int .u32 0,.int .u32 0,.int .u32 0,.int .u32 0,.int .u32 0,.int .u32 0,.int .u32 0,.int .u32 0,.int .u32 0,.int .u32 0,.int .u32 0,.int .u32 0,.int .u32 0,.int .u32 0,.int .u32 0,.int .u32 0,.int .u32 0,.int .u32 0,.int .u32 0,.int .u32 0,.int .u32 0,.int .u32 0,.int .i64 0,.int .i64 0,.int .i64 0],kind:=1,fields:=[(0,26),(1,35),(69,3),(70,3)] }
def Pa:TI:={ row:=true,size:=2,zero:=#[.string ByteArray.empty,.int .i64 0],kind:=1,fields:=[(0,9),(1,3)] }
def O0:TI:={ row:=true,size:=4,zero:=#[.string ByteArray.empty,.int .i64 0,.int .i64 0,.int .i64 0],kind:=1,fields:=[(0,88),(3,3)] }
def Lv:TI:={ row:=true,size:=4,zero:=#[.string ByteArray.empty,.int .i64 0,.int .i64 0,.int .i64 0],kind:=1,fields:=[(0,88),(3,3)] }
def OZ:TI:={ row:=true,size:=136,zero:=#[.string ByteArray.empty,.bool false,.int .u32 0,.int .u32 0,.int .u32 0,.int .u32 0,.int .u32 0,.int .u32 0,.int .u32 0,.int .u32 0,.int .u32 0,.int .u32 0,.int .u32 0,.int .u32 0,.int .u32 0,.int .u32 0,.int .u32 0,.int .u32 0,.int .u32 0,.int .u32 0,.int .u32 0,.int .u32 0,.int .u32 0,.int .u32 0,.int .u32 0,.int .u32 0,.int .u32 0,.int .u32 0,.int .u32 0,.int .u32 0,.int .u32 0,.int .u32 0,.int .u32 0,.int .u32 0,.bool false,.int .u32 0,.int .u32 0,.int .u32 0,.int .u32 0,.int .u32 0,.int .u32 0,.int .u32 0,.int .u32 0,.int .u32 0,.int .u32 0,.int .u32 0,.int .u32 0,.int .u32 0,.int .u32 0,.int .u32 0,.int .u32 0,.int .u32 0,.int .u32 0,.int .u32 0,.int .u32 0,.int .u32 0,.int .u32 0,.int .u32 0,.int .u32 0,.int .u32 0,.int .u32 0,.int .u32 0,.int .u32 0,.int .u32 0,.int .u32 0,.int .u32 0,.int .u32 0,.int .i64 0,.bool false,.int .u32 0,.int .u32 0,.int .u32 0,.int .u32 0,.int .u32 0,.int .u32 0,.int .u32 0,.int .u32 0,.int .u32 0,.int .u32 0,.int .u32 0,.int .u32 0,.int .u32 0,.int .u32 0,.int .u32 0,.int .u32 0,.int .u32 0,.int .u32 0,.int .u32 0,.int .u32 0,.int .u32 0,.int .u32 0,.int .u32 0,.int .u32 0,.int .u32 0,.int .u32 0,.int .u32 0,.int .u32 0,.int .u32 0,.int .u32 0,.int .u32 0,.int .u32 0,.bool false,.int .u32 0,.int .u32 0,.int .u32 0,.int .u32 0,.int .u32 0,.int .u32 0,.int .u32 0,.int .u32 0,.int .u32 0,.int .u32 0,.int .u32 0,.int .u32 0,.int .u32 0,.int .u32 0,.int .u32 0,.int .u32 0,.int .u32 0,.int .u32 0,.int .u32 0,.int .u32 0,.int .u32 0,.int .u32 0,.int .u32 0,.int .u32 0,.int .u32 0,.int .u32 0,.int .u32 0,.int .u32 0,.int .u32 0,.int .u32 0,.int .u32 0,.int .u32 0,.int .i64 0,.int .i64 0],kind:=1,fields:=[(0,9),(1,33),(67,3),(68,33),(134,3),(135,3)] }
def OY:TI:={ row:=true,size:=2,zero:=#[.string ByteArray.empty,.int .i64 0],kind:=1,fields:=[(0,9),(1,3)] }
def Lu:TI:={ row:=true,size:=2,zero:=#[.string ByteArray.empty,.int .i64 0],kind:=1,fields:=[(0,9),(1,3)] }
def OX:TI:={ row:=true,size:=68,zero:=#[.string ByteArray.empty,.bool false,.int .u32 0,.int .u32 0,.int .u32 0,.int .u32 0,.int .u32 0,.int .u32 0,.int .u32 0,.int .u32 0,.int .u32 0,.int .u32 0,.int .u32 0,.int .u32 0,.int .u32 0,.int .u32 0,.int .u32 0,.int .u32 0,.int .u32 0,.int .u32 0,.int .u32 0,.int .u32 0,.int .u32 0,.int .u32 0,.int .u32 0,.int .u32 0,.int .u32 0,.int .u32 0,.int .u32 0,.int .u32 0,.int .u32 0,.int .u32 0,.int .u32 0,.int .u32 0,.bool false,.int .u32 0,.int .u32 0,.int .u32 0,.int .u32 0,.int .u32 0,.int .u32 0,.int .u32 0,.int .u32 0,.int .u32 0,.int .u32 0,.int .u32 0,.int .u32 0,.int .u32 0,.int .u32 0,.int .u32 0,.int .u32 0,.int .u32 0,.int .u32 0,.int .u32 0,.int .u32 0,.int .u32 0,.int .u32 0,.int .u32 0,.int .u32 0,.int .u32 0,.int .u32 0,.int .u32 0,.int .u32 0,.int .u32 0,.int .u32 0,.int .u32 0,.int .u32 0,.int .i64 0],kind:=1,fields:=[(0,9),(1,33),(67,3)] }
def FC:TI:={ row:=true,size:=68,zero:=#[.string ByteArray.empty,.bool false,.int .u32 0,.int .u32 0,.int .u32 0,.int .u32 0,.int .u32 0,.int .u32 0,.int .u32 0,.int .u32 0,.int .u32 0,.int .u32 0,.int .u32 0,.int .u32 0,.int .u32 0,.int .u32 0,.int .u32 0,.int .u32 0,.int .u32 0,.int .u32 0,.int .u32 0,.int .u32 0,.int .u32 0,.int .u32 0,.int .u32 0,.int .u32 0,.int .u32 0,.int .u32 0,.int .u32 0,.int .u32 0,.int .u32 0,.int .u32 0,.int .u32 0,.int .u32 0,.bool false,.int .u32 0,.int .u32 0,.int .u32 0,.int .u32 0,.int .u32 0,.int .u32 0,.int .u32 0,.int .u32 0,.int .u32 0,.int .u32 0,.int .u32 0,.int .u32 0,.int .u32 0,.int .u32 0,.int .u32 0,.int .u32 0,.int .u32 0,.int .u32 0,.int .u32 0,.int .u32 0,.int .u32 0,.int .u32 0,.int .u32 0,.int .u32 0,.int .u32 0,.int .u32 0,.int .u32 0,.int .u32 0,.int .u32 0,.int .u32 0,.int .u32 0,.int .u32 0,.int .i64 0],kind:=1,fields:=[(0,9),(1,33),(67,3)] }
def OW:TI:={ row:=true,size:=32,zero:=(Array.replicate 32 (.int .u32 0)),kind:=2,len:=32,elem:=28 }
def OV:TI:={ row:=true,size:=3,zero:=#[.string ByteArray.empty,.int .i64 0,.bool false],kind:=1,fields:=[(0,9),(1,3),(2,4)] }
def rf:TI:={ row:=true,size:=3,zero:=#[.string ByteArray.empty,.int .i64 0,.bool false],kind:=1,fields:=[(0,9),(1,3),(2,4)] }
def OU:TI:={ row:=true,size:=64,zero:=(Array.replicate 64 (.int .u32 0)),kind:=2,len:=64,elem:=28 }
def OT:TI:={ row:=true,size:=35,zero:=#[.bool false,.int .u32 0,.int .u32 0,.int .u32 0,.int .u32 0,.int .u32 0,.int .u32 0,.int .u32 0,.int .u32 0,.int .u32 0,.int .u32 0,.int .u32 0,.int .u32 0,.int .u32 0,.int .u32 0,.int .u32 0,.int .u32 0,.int .u32 0,.int .u32 0,.int .u32 0,.int .u32 0,.int .u32 0,.int .u32 0,.int .u32 0,.int .u32 0,.int .u32 0,.int .u32 0,.int .u32 0,.int .u32 0,.int .u32 0,.int .u32 0,.int .u32 0,.int .u32 0,.int .i64 0,.bool false],kind:=1,fields:=[(0,31),(33,3),(34,4)] }
def OS:TI:={ row:=true,size:=35,zero:=#[.bool false,.int .u32 0,.int .u32 0,.int .u32 0,.int .u32 0,.int .u32 0,.int .u32 0,.int .u32 0,.int .u32 0,.int .u32 0,.int .u32 0,.int .u32 0,.int .u32 0,.int .u32 0,.int .u32 0,.int .u32 0,.int .u32 0,.int .u32 0,.int .u32 0,.int .u32 0,.int .u32 0,.int .u32 0,.int .u32 0,.int .u32 0,.int .u32 0,.int .u32 0,.int .u32 0,.int .u32 0,.int .u32 0,.int .u32 0,.int .u32 0,.int .u32 0,.int .u32 0,.int .i64 0,.bool false],kind:=1,fields:=[(0,31),(33,3),(34,4)] }
def OR:TI:={ row:=true,size:=4,zero:=(Array.replicate 4 (.string ByteArray.empty)),kind:=2,len:=4,elem:=9 }
def OQ:TI:={ row:=true,size:=33,zero:=(Array.replicate 33 (.int .u32 0)),kind:=2,len:=33,elem:=28 }
def xb:TI:={ row:=true,size:=2,zero:=#[.int .i64 0,.int .i64 0],kind:=1,fields:=[(0,3),(1,3)] }
def OO:TI:={ row:=true,size:=256,zero:=(Array.replicate 256 (.bool false)),kind:=2,len:=256,elem:=4 }
def ON:TI:={ row:=true,size:=256,zero:=(Array.replicate 256 (.bool false)),kind:=2,len:=256,elem:=4 }
def OM:TI:={ row:=true,size:=2,zero:=#[.pointer none,.slice none 0 0],kind:=1,fields:=[(0,297),(1,277)] }
def OK:TI:={ row:=true,size:=2,zero:=#[.pointer none,.slice none 0 0],kind:=1,fields:=[(0,297),(1,277)] }
def OJ:TI:={ row:=true,size:=256,zero:=(Array.replicate 256 (.int .u8 0)),kind:=2,len:=256,elem:=5 }
def OI:TI:={ row:=true,size:=2,zero:=#[.int .u8 0,.int .u8 0],kind:=1,fields:=[(0,5),(1,5)] }
def OH:TI:={ row:=true,size:=2,zero:=#[.int .u8 0,.int .u8 0],kind:=1,fields:=[(0,5),(1,5)] }
def OG:TI:={ row:=true,size:=32,zero:=(Array.replicate 32 (.int .u8 0)),kind:=2,len:=16,elem:=340 }
def OF:TI:={ row:=true,size:=4,zero:=#[.pointer none,.pointer none,.pointer none,.string ByteArray.empty],kind:=1,fields:=[(0,17),(1,17),(2,17),(3,9)] }
def OE:TI:={ row:=true,size:=4,zero:=#[.pointer none,.pointer none,.pointer none,.string ByteArray.empty],kind:=1,fields:=[(0,17),(1,17),(2,17),(3,9)] }
def OD:TI:={ row:=true,size:=0,zero:=#[],kind:=2,len:=0,elem:=16 }
def OC:TI:={ row:=true,size:=0,zero:=#[],kind:=1,fields:=[(0,345)] }
def OA:TI:={ row:=true,size:=0,zero:=#[],kind:=1,fields:=[(0,345)] }
def Oz:TI:={ row:=true,size:=11,zero:=#[.int .u64 0,.int .u64 0,.int .u32 0,.int .u8 0,.int .u8 0,.int .u8 0,.int .u8 0,.nilFunc,.pointer none,.int .i32 0,.int .i32 0],kind:=1,fields:=[(0,12),(1,12),(2,28),(3,348),(4,5),(5,5),(6,349),(7,350),(8,322),(9,351),(10,352)] }
def Oy:TI:={ row:=true,size:=11,zero:=#[.int .u64 0,.int .u64 0,.int .u32 0,.int .u8 0,.int .u8 0,.int .u8 0,.int .u8 0,.nilFunc,.pointer none,.int .i32 0,.int .i32 0],kind:=1,fields:=[(0,12),(1,12),(2,28),(3,348),(4,5),(5,5),(6,349),(7,350),(8,322),(9,351),(10,352)] }
def Ox:TI:={ row:=true,size:=1,zero:=#[.string ByteArray.empty],kind:=1,fields:=[(0,9)] }
def Ow:TI:={ row:=true,size:=1,zero:=#[.string ByteArray.empty],kind:=1,fields:=[(0,9)] }
def Tr:TypeId->Option TI
 | 1=>some (tV .nilFunc)
 | 2=>some (tI .i64)
 | 3=>some ti3
 | 4=>some ti4
 | 5=>some ti5
 | 6=>some (tI .u8)
 | 7=>some ti7
 | 8=>some ti8
 | 9=>some ti9
 | 10=>some (tV (.string ByteArray.empty))
 | 11=>some (tV (.string ByteArray.empty))
 | 12=>some (tI .u64)
 | 13=>some TL
 | 14=>some TK
 | 15=>some (tV (.pointer none))
 | 16=>some (tV (.pointer none))
 | _=>none
def Tq:TypeId->Option TI
 | 17=>some (tV (.pointer none))
 | 18=>some TJ
 | 19=>some TH
 | 20=>some (tV .nilIface)
 | 21=>some (tI .i32)
 | 22=>some (tS 59)
 | 23=>some Df
 | 24=>some TG
 | 25=>some De
 | 26=>some MD
 | 27=>some (tS 9)
 | 28=>some OP
 | 29=>some MC
 | 30=>some TF
 | 31=>some eW
 | 32=>some TE
 | _=>none
def To:TypeId->Option TI
 | 33=>some cR
 | 34=>some TD
 | 35=>some Jo
 | 36=>some (tS 67)
 | 37=>some (tS 69)
 | 38=>some TC
 | 39=>some FB
 | 40=>some (tS 77)
 | 41=>some TB
 | 42=>some w9
 | 43=>some (tI .i64)
 | 45=>some (tV .nilFunc)
 | 46=>some (tV .nilFunc)
 | 47=>some (tV .nilFunc)
 | 48=>some (tV .nilFunc)
 | 49=>some (tV .nilFunc)
 | _=>none
def Tn:TypeId->Option TI
 | 50=>some (tS 3)
 | 51=>some (tV (.pointer none))
 | 52=>some Tz
 | 53=>some Ov
 | 54=>some (tV .nilFunc)
 | 55=>some (tV .nilFunc)
 | 56=>some (tV .nilFunc)
 | 57=>some (tV .nilFunc)
 | 58=>some Ty
 | 59=>some gK
 | 60=>some (tV .nilFunc)
 | 61=>some (tV .nilFunc)
 | 62=>some Tx
 | 63=>some gJ
 | 64=>some (tV .nilFunc)
 | 65=>some (tV .nilFunc)
 | _=>none
def Tm:TypeId->Option TI
 | 66=>some Tw
 | 67=>some tT
 | 68=>some Tv
 | 69=>some iY
 | 70=>some (tV .nilFunc)
 | 71=>some (tV .nilFunc)
 | 72=>some (tV .nilFunc)
 | 73=>some (tV .nilFunc)
 | 74=>some (tV .nilFunc)
 | 75=>some (tV .nilFunc)
 | 76=>some Tu
 | 77=>some fR
 | 78=>some (tV .nilFunc)
 | 79=>some Tt
 | 80=>some Ou
 | 82=>some (tV .nilFunc)
 | _=>none
def Tl:TypeId->Option TI
 | 84=>some (tV .nilFunc)
 | 85=>some (tV .nilFunc)
 | 86=>some (tV .nilFunc)
 | 87=>some Ts
 | 88=>some dw
 | 90=>some (tV .nilFunc)
 | 91=>some (tV .nilFunc)
 | 92=>some (tV .nilFunc)
 | 93=>some (tV .nilFunc)
 | 94=>some (tS 97)
 | 95=>some (tV .nilFunc)
 | 96=>some (tV .nilIface)
 | 97=>some (tV .nilIface)
 | 99=>some (tV .nilFunc)
 | 100=>some (tV .nilFunc)
 | 101=>some (tV .nilFunc)
 | _=>none
def Tk:TypeId->Option TI
 | 102=>some (tV .nilFunc)
 | 103=>some (tV (.pointer none))
 | 104=>some (tV .nilFunc)
 | 105=>some (tV .nilFunc)
 | 106=>some (tV .nilFunc)
 | 107=>some (tV .nilFunc)
 | 108=>some (tV .nilFunc)
 | 109=>some (tV .nilFunc)
 | 110=>some (tV .nilFunc)
 | 111=>some (tV .nilFunc)
 | 112=>some (tV .nilFunc)
 | 113=>some (tV .nilFunc)
 | 114=>some (tV .nilFunc)
 | 115=>some (tV .nilFunc)
 | 116=>some (tV .nilFunc)
 | 117=>some (tV .nilFunc)
 | _=>none
def Tj:TypeId->Option TI
 | 118=>some (tV .nilFunc)
 | 119=>some (tV .nilFunc)
 | 120=>some (tS 33)
 | 121=>some (tV .nilFunc)
 | 122=>some (tV .nilFunc)
 | 123=>some (tV .nilFunc)
 | 124=>some (tV .nilFunc)
 | 125=>some (tV .nilFunc)
 | 126=>some (tV .nilFunc)
 | 128=>some (tV .nilFunc)
 | 129=>some (tV .nilFunc)
 | 130=>some (tV .nilFunc)
 | 131=>some (tV .nilFunc)
 | 132=>some (tV .nilFunc)
 | 133=>some (tV .nilFunc)
 | 134=>some (tV .nilFunc)
 | _=>none
def Ti:TypeId->Option TI
 | 135=>some Pb
 | 136=>some FD
 | 137=>some (tV .nilFunc)
 | 139=>some (tV .nilFunc)
 | 140=>some (tV .nilFunc)
 | 141=>some (tV .nilFunc)
 | 143=>some (tV .nilFunc)
 | 144=>some (tV .nilFunc)
 | 145=>some (tV .nilFunc)
 | 146=>some (tV .nilFunc)
 | 147=>some (tV .nilFunc)
 | 148=>some Pa
 | 149=>some O0
 | 150=>some Lv
 | 151=>some OZ
 | 152=>some (tV .nilFunc)
 | _=>none
def Th:TypeId->Option TI
 | 154=>some (tV .nilFunc)
 | 155=>some (tV .nilFunc)
 | 156=>some (tV .nilFunc)
 | 157=>some (tV .nilFunc)
 | 158=>some (tS 23)
 | 159=>some (tV .nilFunc)
 | 160=>some OY
 | 161=>some Lu
 | 162=>some (tV .nilFunc)
 | 163=>some (tV .nilFunc)
 | 164=>some (tV .nilFunc)
 | 165=>some (tS 208)
 | 166=>some (tV .nilFunc)
 | 167=>some (tV .nilFunc)
 | 169=>some (tV .nilFunc)
 | 170=>some (tV .nilFunc)
 | _=>none
def On:TypeId->Option TI
 | 171=>some (tV .nilFunc)
 | 172=>some (tV .nilFunc)
 | 173=>some (tV .nilFunc)
 | 175=>some (tV .nilFunc)
 | 176=>some OX
 | 177=>some FC
 | 178=>some (tV .nilFunc)
 | 179=>some (tV .nilFunc)
 | 180=>some (tV .nilFunc)
 | 181=>some (tV .nilFunc)
 | 182=>some (tV .nilFunc)
 | 183=>some (tV .nilFunc)
 | 184=>some (tV .nilFunc)
 | 185=>some (tV .nilFunc)
 | 186=>some (tI .u64)
 | 187=>some (tV .nilFunc)
 | _=>none
def Om:TypeId->Option TI
 | 188=>some (tI .u64)
 | 190=>some (tV .nilFunc)
 | 191=>some (tV .nilFunc)
 | 192=>some (tV .nilFunc)
 | 193=>some (tV .nilFunc)
 | 194=>some (tV .nilFunc)
 | 196=>some (tV .nilFunc)
 | 197=>some (tV .nilFunc)
 | 198=>some (tV .nilFunc)
 | 199=>some (tV .nilFunc)
 | 200=>some (tV .nilFunc)
 | 201=>some OW
 | 202=>some (tV .nilFunc)
 | 204=>some (tV .nilFunc)
 | 205=>some (tV .nilFunc)
 | 206=>some (tV .nilFunc)
 | _=>none
def Ol:TypeId->Option TI
 | 207=>some OV
 | 208=>some rf
 | 209=>some (tV .nilFunc)
 | 210=>some (tV .nilFunc)
 | 211=>some (tV .nilFunc)
 | 212=>some (tV .nilFunc)
 | 213=>some (tV .nilFunc)
 | 214=>some (tV .nilFunc)
 | 215=>some (tV .nilFunc)
 | 216=>some (tV .nilFunc)
 | 217=>some (tV .nilFunc)
 | 218=>some (tV .nilFunc)
 | 219=>some OU
 | 220=>some (tV .nilFunc)
 | 222=>some (tV .nilFunc)
 | 224=>some (tV .nilFunc)
 | _=>none
def Ok:TypeId->Option TI
 | 225=>some (tV .nilFunc)
 | 226=>some (tV .nilFunc)
 | 227=>some (tV .nilFunc)
 | 228=>some (tV .nilFunc)
 | 229=>some (tV .nilFunc)
 | 231=>some (tV .nilFunc)
 | 233=>some (tV .nilFunc)
 | 234=>some (tV (.pointer none))
 | 236=>some (tV .nilFunc)
 | 237=>some (tV .nilFunc)
 | 239=>some (tV .nilFunc)
 | 240=>some OT
 | 241=>some OS
 | 242=>some (tV .nilFunc)
 | 243=>some (tV .nilFunc)
 | 244=>some (tV .nilFunc)
 | _=>none
def Oj:TypeId->Option TI
 | 245=>some (tV .nilFunc)
 | 246=>some (tV .nilFunc)
 | 248=>some (tV .nilFunc)
 | 249=>some (tV .nilFunc)
 | 251=>some (tV .nilFunc)
 | 252=>some (tV .nilFunc)
 | 253=>some (tV .nilFunc)
 | 254=>some OR
 | 255=>some (tV .nilFunc)
 | 257=>some (tV .nilFunc)
 | 258=>some (tV .nilFunc)
 | 259=>some (tV .nilFunc)
 | 260=>some (tV .nilFunc)
 | 261=>some (tV .nilFunc)
 | 262=>some (tV .nilFunc)
 | 263=>some (tV (.map none))
 | _=>none
def Oi:TypeId->Option TI
 | 264=>some (tV .nilFunc)
 | 265=>some (tV .nilFunc)
 | 266=>some (tV .nilFunc)
 | 267=>some (tV .nilFunc)
 | 268=>some (tV .nilFunc)
 | 269=>some (tV .nilFunc)
 | 270=>some OQ
 | 272=>some (tV .nilFunc)
 | 273=>some (tV .nilFunc)
 | 274=>some (tS 28)
 | 276=>some (tV .nilFunc)
 | 277=>some (tS 5)
 | 278=>some xb
 | 279=>some (tS 278)
 | 280=>some (tV .nilFunc)
 | 281=>some (tV .nilFunc)
 | _=>none
def Oh:TypeId->Option TI
 | 282=>some OO
 | 283=>some ON
 | 285=>some (tV .nilFunc)
 | 286=>some (tV .nilFunc)
 | 287=>some (tV (.pointer none))
 | 289=>some (tV .nilFunc)
 | 290=>some (tV .nilFunc)
 | 291=>some (tV .nilFunc)
 | 292=>some (tV .nilFunc)
 | 293=>some (tV .nilFunc)
 | 294=>some (tV .nilFunc)
 | 296=>some (tV .nilFunc)
 | 297=>some (tV (.pointer none))
 | 298=>some OM
 | 299=>some OK
 | 300=>some (tV .nilFunc)
 | _=>none
def Og:TypeId->Option TI
 | 301=>some (tV .nilIface)
 | 302=>some (tV .nilIface)
 | 304=>some (tV .nilFunc)
 | 305=>some (tV .nilFunc)
 | 307=>some (tV .nilFunc)
 | 308=>some (tV .nilFunc)
 | 309=>some (tV .nilFunc)
 | 310=>some (tV .nilFunc)
 | 311=>some (tI .i64)
 | 313=>some (tV .nilFunc)
 | 314=>some (tV .nilFunc)
 | 315=>some (tV .nilFunc)
 | 316=>some (tV .nilFunc)
 | 317=>some (tV .nilFunc)
 | 318=>some (tV .nilFunc)
 | 319=>some (tV .nilFunc)
 | _=>none
def Of:TypeId->Option TI
 | 321=>some (tV .nilFunc)
 | 322=>some (tV (.pointer none))
 | 323=>some (tV .nilFunc)
 | 324=>some (tI .u64)
 | 325=>some (tV .nilFunc)
 | 326=>some (tV .nilFunc)
 | 327=>some (tV .nilFunc)
 | 328=>some (tV (.pointer none))
 | 329=>some (tV .nilFunc)
 | 331=>some (tV .nilFunc)
 | 332=>some (tV .nilFunc)
 | 333=>some (tV .nilFunc)
 | 334=>some (tV .nilFunc)
 | 335=>some (tV (.pointer none))
 | 337=>some (tV .nilFunc)
 | 338=>some OJ
 | _=>none
def Oe:TypeId->Option TI
 | 339=>some OI
 | 340=>some OH
 | 341=>some OG
 | 342=>some (tV (.pointer none))
 | 343=>some OF
 | 344=>some OE
 | 345=>some OD
 | 346=>some OC
 | 347=>some OA
 | 348=>some (tI .u8)
 | 349=>some (tI .u8)
 | 350=>some (tV .nilFunc)
 | 351=>some (tI .i32)
 | 352=>some (tI .i32)
 | 353=>some Oz
 | 354=>some Oy
 | _=>none
def Od:TypeId->Option TI
 | 355=>some Ox
 | 356=>some Ow
 | _=>none
def tt (ty:TypeId):Option TI :=
 if Nat.ble 357 ty then none else
 if Nat.ble ty 16 then Tr ty else
 if Nat.ble ty 32 then Tq ty else
 if Nat.ble ty 49 then To ty else
 if Nat.ble ty 65 then Tn ty else
 if Nat.ble ty 82 then Tm ty else
 if Nat.ble ty 101 then Tl ty else
 if Nat.ble ty 117 then Tk ty else
 if Nat.ble ty 134 then Tj ty else
 if Nat.ble ty 152 then Ti ty else
 if Nat.ble ty 170 then Th ty else
 if Nat.ble ty 187 then On ty else
 if Nat.ble ty 206 then Om ty else
 if Nat.ble ty 224 then Ol ty else
 if Nat.ble ty 244 then Ok ty else
 if Nat.ble ty 263 then Oj ty else
 if Nat.ble ty 281 then Oi ty else
 if Nat.ble ty 300 then Oh ty else
 if Nat.ble ty 319 then Og ty else
 if Nat.ble ty 338 then Of ty else
 if Nat.ble ty 354 then Oe ty else
 Od ty
theorem ai:oE Tryz.prog tt:=Oc 357 (fun _ h=>if_pos (Nat.ble_eq_true_of_le h)) (by kernel_rfl)
theorem mh:TIok Tryz.prog 3 ti3:=ai 3 _ rfl
theorem Or:TIok Tryz.prog 4 ti4:=ai 4 _ rfl
theorem Jl:TIok Tryz.prog 9 ti9:=ai 9 _ rfl
theorem Ot:TIok Tryz.prog 28 OP:=ai 28 _ rfl
theorem Lt:TIok Tryz.prog 29 MC:=ai 29 _ rfl
theorem w8:TIok Tryz.prog 31 eW:=ai 31 _ rfl
theorem o8:TIok Tryz.prog 33 cR:=ai 33 _ rfl
theorem ak:Tryz.prog.follows .mixedOrders=true:=by kernel_rfl
set_option maxRecDepth 100000
theorem at6:au Tryz.prog 6 Tryz.f6:=⟨Tryz.func6,rfl,rfl,rfl,by kernel_rfl⟩
theorem at7:au Tryz.prog 7 Tryz.f7:=⟨Tryz.func7,rfl,rfl,rfl,by kernel_rfl⟩
theorem at9:au Tryz.prog 9 Tryz.f9:=⟨Tryz.func9,rfl,rfl,rfl,by kernel_rfl⟩
theorem U2:au Tryz.prog 10 Tryz.f10:=⟨Tryz.func10,rfl,rfl,rfl,by kernel_rfl⟩
theorem NR:au Tryz.prog 11 Tryz.f11:=⟨Tryz.func11,rfl,rfl,rfl,by kernel_rfl⟩
theorem So:au Tryz.prog 13 Tryz.f13:=⟨Tryz.func13,rfl,rfl,rfl,by kernel_rfl⟩
theorem UZ:au Tryz.prog 14 Tryz.f14:=⟨Tryz.func14,rfl,rfl,rfl,by kernel_rfl⟩
theorem UY:au Tryz.prog 16 Tryz.f16:=⟨Tryz.func16,rfl,rfl,rfl,by kernel_rfl⟩
theorem UX:au Tryz.prog 17 Tryz.f17:=⟨Tryz.func17,rfl,rfl,rfl,by kernel_rfl⟩
theorem Ld:au Tryz.prog 19 Tryz.f19:=⟨Tryz.func19,rfl,rfl,rfl,by kernel_rfl⟩
theorem UW:au Tryz.prog 20 Tryz.f20:=⟨Tryz.func20,rfl,rfl,rfl,by kernel_rfl⟩
theorem UV:au Tryz.prog 21 Tryz.f21:=⟨Tryz.func21,rfl,rfl,rfl,by kernel_rfl⟩
theorem Q5:au Tryz.prog 22 Tryz.f22:=⟨Tryz.func22,rfl,rfl,rfl,by kernel_rfl⟩
theorem UU:au Tryz.prog 23 Tryz.f23:=⟨Tryz.func23,rfl,rfl,rfl,by kernel_rfl⟩
theorem UT:au Tryz.prog 24 Tryz.f24:=⟨Tryz.func24,rfl,rfl,rfl,by kernel_rfl⟩
theorem US:au Tryz.prog 25 Tryz.f25:=⟨Tryz.func25,rfl,rfl,rfl,by kernel_rfl⟩
theorem UR:au Tryz.prog 26 Tryz.f26:=⟨Tryz.func26,rfl,rfl,rfl,by kernel_rfl⟩
theorem NP:au Tryz.prog 27 Tryz.f27:=⟨Tryz.func27,rfl,rfl,rfl,by kernel_rfl⟩
theorem UQ:au Tryz.prog 28 Tryz.f28:=⟨Tryz.func28,rfl,rfl,rfl,by kernel_rfl⟩
theorem UP:au Tryz.prog 29 Tryz.f29:=⟨Tryz.func29,rfl,rfl,rfl,by kernel_rfl⟩
theorem P9:au Tryz.prog 30 Tryz.f30:=⟨Tryz.func30,rfl,rfl,rfl,by kernel_rfl⟩
theorem P8:au Tryz.prog 31 Tryz.f31:=⟨Tryz.func31,rfl,rfl,rfl,by kernel_rfl⟩
theorem UO:au Tryz.prog 33 Tryz.f33:=⟨Tryz.func33,rfl,rfl,rfl,by kernel_rfl⟩
theorem UN:au Tryz.prog 34 Tryz.f34:=⟨Tryz.func34,rfl,rfl,rfl,by kernel_rfl⟩
theorem UM:au Tryz.prog 35 Tryz.f35:=⟨Tryz.func35,rfl,rfl,rfl,by kernel_rfl⟩
theorem UL:au Tryz.prog 36 Tryz.f36:=⟨Tryz.func36,rfl,rfl,rfl,by kernel_rfl⟩
theorem UK:au Tryz.prog 37 Tryz.f37:=⟨Tryz.func37,rfl,rfl,rfl,by kernel_rfl⟩
theorem UJ:au Tryz.prog 38 Tryz.f38:=⟨Tryz.func38,rfl,rfl,rfl,by kernel_rfl⟩
theorem UI:au Tryz.prog 39 Tryz.f39:=⟨Tryz.func39,rfl,rfl,rfl,by kernel_rfl⟩
theorem UH:au Tryz.prog 40 Tryz.f40:=⟨Tryz.func40,rfl,rfl,rfl,by kernel_rfl⟩
theorem UG:au Tryz.prog 41 Tryz.f41:=⟨Tryz.func41,rfl,rfl,rfl,by kernel_rfl⟩
theorem zq:au Tryz.prog 42 Tryz.f42:=⟨Tryz.func42,rfl,rfl,rfl,by kernel_rfl⟩
theorem UF:au Tryz.prog 43 Tryz.f43:=⟨Tryz.func43,rfl,rfl,rfl,by kernel_rfl⟩
theorem UE:au Tryz.prog 44 Tryz.f44:=⟨Tryz.func44,rfl,rfl,rfl,by kernel_rfl⟩
theorem UD:au Tryz.prog 45 Tryz.f45:=⟨Tryz.func45,rfl,rfl,rfl,by kernel_rfl⟩
theorem UC:au Tryz.prog 51 Tryz.f51:=⟨Tryz.func51,rfl,rfl,rfl,by kernel_rfl⟩
theorem UB:au Tryz.prog 52 Tryz.f52:=⟨Tryz.func52,rfl,rfl,rfl,by kernel_rfl⟩
theorem UA:au Tryz.prog 53 Tryz.f53:=⟨Tryz.func53,rfl,rfl,rfl,by kernel_rfl⟩
theorem Uz:au Tryz.prog 54 Tryz.f54:=⟨Tryz.func54,rfl,rfl,rfl,by kernel_rfl⟩
theorem Uy:au Tryz.prog 55 Tryz.f55:=⟨Tryz.func55,rfl,rfl,rfl,by kernel_rfl⟩
theorem Ux:au Tryz.prog 56 Tryz.f56:=⟨Tryz.func56,rfl,rfl,rfl,by kernel_rfl⟩
theorem Uw:au Tryz.prog 57 Tryz.f57:=⟨Tryz.func57,rfl,rfl,rfl,by kernel_rfl⟩
theorem Uv:au Tryz.prog 58 Tryz.f58:=⟨Tryz.func58,rfl,rfl,rfl,by kernel_rfl⟩
theorem Uu:au Tryz.prog 59 Tryz.f59:=⟨Tryz.func59,rfl,rfl,rfl,by kernel_rfl⟩
theorem Ut:au Tryz.prog 60 Tryz.f60:=⟨Tryz.func60,rfl,rfl,rfl,by kernel_rfl⟩
theorem PR:au Tryz.prog 66 Tryz.f66:=⟨Tryz.func66,rfl,rfl,rfl,by kernel_rfl⟩
theorem Us:au Tryz.prog 67 Tryz.f67:=⟨Tryz.func67,rfl,rfl,rfl,by kernel_rfl⟩
theorem Ur:au Tryz.prog 68 Tryz.f68:=⟨Tryz.func68,rfl,rfl,rfl,by kernel_rfl⟩
theorem Uq:au Tryz.prog 69 Tryz.f69:=⟨Tryz.func69,rfl,rfl,rfl,by kernel_rfl⟩
theorem Up:au Tryz.prog 70 Tryz.f70:=⟨Tryz.func70,rfl,rfl,rfl,by kernel_rfl⟩
theorem Uo:au Tryz.prog 71 Tryz.f71:=⟨Tryz.func71,rfl,rfl,rfl,by kernel_rfl⟩
theorem Un:au Tryz.prog 72 Tryz.f72:=⟨Tryz.func72,rfl,rfl,rfl,by kernel_rfl⟩
theorem Um:au Tryz.prog 73 Tryz.f73:=⟨Tryz.func73,rfl,rfl,rfl,by kernel_rfl⟩
theorem Ul:au Tryz.prog 74 Tryz.f74:=⟨Tryz.func74,rfl,rfl,rfl,by kernel_rfl⟩
theorem Uk:au Tryz.prog 75 Tryz.f75:=⟨Tryz.func75,rfl,rfl,rfl,by kernel_rfl⟩
theorem Uj:au Tryz.prog 76 Tryz.f76:=⟨Tryz.func76,rfl,rfl,rfl,by kernel_rfl⟩
theorem Ui:au Tryz.prog 77 Tryz.f77:=⟨Tryz.func77,rfl,rfl,rfl,by kernel_rfl⟩
theorem Uh:au Tryz.prog 78 Tryz.f78:=⟨Tryz.func78,rfl,rfl,rfl,by kernel_rfl⟩
theorem Ug:au Tryz.prog 79 Tryz.f79:=⟨Tryz.func79,rfl,rfl,rfl,by kernel_rfl⟩
theorem Uf:au Tryz.prog 80 Tryz.f80:=⟨Tryz.func80,rfl,rfl,rfl,by kernel_rfl⟩
theorem Ue:au Tryz.prog 81 Tryz.f81:=⟨Tryz.func81,rfl,rfl,rfl,by kernel_rfl⟩
theorem Ud:au Tryz.prog 82 Tryz.f82:=⟨Tryz.func82,rfl,rfl,rfl,by kernel_rfl⟩
theorem PQ:au Tryz.prog 83 Tryz.f83:=⟨Tryz.func83,rfl,rfl,rfl,by kernel_rfl⟩
theorem PP:au Tryz.prog 84 Tryz.f84:=⟨Tryz.func84,rfl,rfl,rfl,by kernel_rfl⟩
theorem Uc:au Tryz.prog 85 Tryz.f85:=⟨Tryz.func85,rfl,rfl,rfl,by kernel_rfl⟩
theorem PO:au Tryz.prog 86 Tryz.f86:=⟨Tryz.func86,rfl,rfl,rfl,by kernel_rfl⟩
theorem Ub:au Tryz.prog 87 Tryz.f87:=⟨Tryz.func87,rfl,rfl,rfl,by kernel_rfl⟩
theorem Ua:au Tryz.prog 88 Tryz.f88:=⟨Tryz.func88,rfl,rfl,rfl,by kernel_rfl⟩
theorem PN:au Tryz.prog 89 Tryz.f89:=⟨Tryz.func89,rfl,rfl,rfl,by kernel_rfl⟩
theorem T9:au Tryz.prog 90 Tryz.f90:=⟨Tryz.func90,rfl,rfl,rfl,by kernel_rfl⟩
theorem PM:au Tryz.prog 91 Tryz.f91:=⟨Tryz.func91,rfl,rfl,rfl,by kernel_rfl⟩
theorem T8:au Tryz.prog 92 Tryz.f92:=⟨Tryz.func92,rfl,rfl,rfl,by kernel_rfl⟩
theorem T7:au Tryz.prog 93 Tryz.f93:=⟨Tryz.func93,rfl,rfl,rfl,by kernel_rfl⟩
theorem T6:au Tryz.prog 94 Tryz.f94:=⟨Tryz.func94,rfl,rfl,rfl,by kernel_rfl⟩
theorem T5:au Tryz.prog 95 Tryz.f95:=⟨Tryz.func95,rfl,rfl,rfl,by kernel_rfl⟩
theorem T0:au Tryz.prog 96 Tryz.f96:=⟨Tryz.func96,rfl,rfl,rfl,by kernel_rfl⟩
theorem TZ:au Tryz.prog 97 Tryz.f97:=⟨Tryz.func97,rfl,rfl,rfl,by kernel_rfl⟩
theorem PK:au Tryz.prog 98 Tryz.f98:=⟨Tryz.func98,rfl,rfl,rfl,by kernel_rfl⟩
theorem TY:au Tryz.prog 99 Tryz.f99:=⟨Tryz.func99,rfl,rfl,rfl,by kernel_rfl⟩
theorem SY:au Tryz.prog 100 Tryz.f100:=⟨Tryz.func100,rfl,rfl,rfl,by kernel_rfl⟩
theorem SW:au Tryz.prog 101 Tryz.f101:=⟨Tryz.func101,rfl,rfl,rfl,by kernel_rfl⟩
theorem SU:au Tryz.prog 102 Tryz.f102:=⟨Tryz.func102,rfl,rfl,rfl,by kernel_rfl⟩
theorem ST:au Tryz.prog 103 Tryz.f103:=⟨Tryz.func103,rfl,rfl,rfl,by kernel_rfl⟩
theorem SR:au Tryz.prog 104 Tryz.f104:=⟨Tryz.func104,rfl,rfl,rfl,by kernel_rfl⟩
theorem SQ:au Tryz.prog 108 Tryz.f108:=⟨Tryz.func108,rfl,rfl,rfl,by kernel_rfl⟩
theorem SO:au Tryz.prog 109 Tryz.f109:=⟨Tryz.func109,rfl,rfl,rfl,by kernel_rfl⟩
theorem SK:au Tryz.prog 110 Tryz.f110:=⟨Tryz.func110,rfl,rfl,rfl,by kernel_rfl⟩
theorem SJ:au Tryz.prog 111 Tryz.f111:=⟨Tryz.func111,rfl,rfl,rfl,by kernel_rfl⟩
theorem SI:au Tryz.prog 112 Tryz.f112:=⟨Tryz.func112,rfl,rfl,rfl,by kernel_rfl⟩
theorem SH:au Tryz.prog 113 Tryz.f113:=⟨Tryz.func113,rfl,rfl,rfl,by kernel_rfl⟩
theorem SG:au Tryz.prog 114 Tryz.f114:=⟨Tryz.func114,rfl,rfl,rfl,by kernel_rfl⟩
theorem SD:au Tryz.prog 115 Tryz.f115:=⟨Tryz.func115,rfl,rfl,rfl,by kernel_rfl⟩
theorem SC:au Tryz.prog 116 Tryz.f116:=⟨Tryz.func116,rfl,rfl,rfl,by kernel_rfl⟩
theorem Mj:au Tryz.prog 117 Tryz.f117:=⟨Tryz.func117,rfl,rfl,rfl,by kernel_rfl⟩
theorem SA:au Tryz.prog 118 Tryz.f118:=⟨Tryz.func118,rfl,rfl,rfl,by kernel_rfl⟩
theorem Mi:au Tryz.prog 119 Tryz.f119:=⟨Tryz.func119,rfl,rfl,rfl,by kernel_rfl⟩
theorem Sz:au Tryz.prog 120 Tryz.f120:=⟨Tryz.func120,rfl,rfl,rfl,by kernel_rfl⟩
theorem Sy:au Tryz.prog 121 Tryz.f121:=⟨Tryz.func121,rfl,rfl,rfl,by kernel_rfl⟩
theorem Sx:au Tryz.prog 122 Tryz.f122:=⟨Tryz.func122,rfl,rfl,rfl,by kernel_rfl⟩
theorem Sw:au Tryz.prog 123 Tryz.f123:=⟨Tryz.func123,rfl,rfl,rfl,by kernel_rfl⟩
theorem Sv:au Tryz.prog 124 Tryz.f124:=⟨Tryz.func124,rfl,rfl,rfl,by kernel_rfl⟩
theorem Su:au Tryz.prog 125 Tryz.f125:=⟨Tryz.func125,rfl,rfl,rfl,by kernel_rfl⟩
theorem Ss:au Tryz.prog 126 Tryz.f126:=⟨Tryz.func126,rfl,rfl,rfl,by kernel_rfl⟩
theorem Sr:au Tryz.prog 127 Tryz.f127:=⟨Tryz.func127,rfl,rfl,rfl,by kernel_rfl⟩
theorem Sq:au Tryz.prog 128 Tryz.f128:=⟨Tryz.func128,rfl,rfl,rfl,by kernel_rfl⟩
theorem Sp:au Tryz.prog 129 Tryz.f129:=⟨Tryz.func129,rfl,rfl,rfl,by kernel_rfl⟩
theorem Mh:au Tryz.prog 138 Tryz.f138:=⟨Tryz.func138,rfl,rfl,rfl,by kernel_rfl⟩
theorem Sn:au Tryz.prog 139 Tryz.f139:=⟨Tryz.func139,rfl,rfl,rfl,by kernel_rfl⟩
theorem Sm:au Tryz.prog 140 Tryz.f140:=⟨Tryz.func140,rfl,rfl,rfl,by kernel_rfl⟩
theorem Sl:au Tryz.prog 141 Tryz.f141:=⟨Tryz.func141,rfl,rfl,rfl,by kernel_rfl⟩
theorem Sk:au Tryz.prog 142 Tryz.f142:=⟨Tryz.func142,rfl,rfl,rfl,by kernel_rfl⟩
theorem Sj:au Tryz.prog 143 Tryz.f143:=⟨Tryz.func143,rfl,rfl,rfl,by kernel_rfl⟩
theorem Si:au Tryz.prog 144 Tryz.f144:=⟨Tryz.func144,rfl,rfl,rfl,by kernel_rfl⟩
theorem Sh:au Tryz.prog 145 Tryz.f145:=⟨Tryz.func145,rfl,rfl,rfl,by kernel_rfl⟩
theorem Sg:au Tryz.prog 146 Tryz.f146:=⟨Tryz.func146,rfl,rfl,rfl,by kernel_rfl⟩
theorem Sf:au Tryz.prog 147 Tryz.f147:=⟨Tryz.func147,rfl,rfl,rfl,by kernel_rfl⟩
theorem Se:au Tryz.prog 148 Tryz.f148:=⟨Tryz.func148,rfl,rfl,rfl,by kernel_rfl⟩
theorem Sd:au Tryz.prog 149 Tryz.f149:=⟨Tryz.func149,rfl,rfl,rfl,by kernel_rfl⟩
theorem Sc:au Tryz.prog 150 Tryz.f150:=⟨Tryz.func150,rfl,rfl,rfl,by kernel_rfl⟩
theorem Sb:au Tryz.prog 151 Tryz.f151:=⟨Tryz.func151,rfl,rfl,rfl,by kernel_rfl⟩
theorem Sa:au Tryz.prog 152 Tryz.f152:=⟨Tryz.func152,rfl,rfl,rfl,by kernel_rfl⟩
theorem R9:au Tryz.prog 153 Tryz.f153:=⟨Tryz.func153,rfl,rfl,rfl,by kernel_rfl⟩
theorem R8:au Tryz.prog 154 Tryz.f154:=⟨Tryz.func154,rfl,rfl,rfl,by kernel_rfl⟩
theorem Mg:au Tryz.prog 155 Tryz.f155:=⟨Tryz.func155,rfl,rfl,rfl,by kernel_rfl⟩
theorem R7:au Tryz.prog 156 Tryz.f156:=⟨Tryz.func156,rfl,rfl,rfl,by kernel_rfl⟩
theorem R6:au Tryz.prog 157 Tryz.f157:=⟨Tryz.func157,rfl,rfl,rfl,by kernel_rfl⟩
theorem RZ:au Tryz.prog 158 Tryz.f158:=⟨Tryz.func158,rfl,rfl,rfl,by kernel_rfl⟩
theorem RY:au Tryz.prog 159 Tryz.f159:=⟨Tryz.func159,rfl,rfl,rfl,by kernel_rfl⟩
theorem RX:au Tryz.prog 160 Tryz.f160:=⟨Tryz.func160,rfl,rfl,rfl,by kernel_rfl⟩
theorem RW:au Tryz.prog 161 Tryz.f161:=⟨Tryz.func161,rfl,rfl,rfl,by kernel_rfl⟩
theorem RV:au Tryz.prog 162 Tryz.f162:=⟨Tryz.func162,rfl,rfl,rfl,by kernel_rfl⟩
theorem RU:au Tryz.prog 163 Tryz.f163:=⟨Tryz.func163,rfl,rfl,rfl,by kernel_rfl⟩
theorem RR:au Tryz.prog 164 Tryz.f164:=⟨Tryz.func164,rfl,rfl,rfl,by kernel_rfl⟩
theorem RP:au Tryz.prog 165 Tryz.f165:=⟨Tryz.func165,rfl,rfl,rfl,by kernel_rfl⟩
theorem RO:au Tryz.prog 166 Tryz.f166:=⟨Tryz.func166,rfl,rfl,rfl,by kernel_rfl⟩
theorem RM:au Tryz.prog 167 Tryz.f167:=⟨Tryz.func167,rfl,rfl,rfl,by kernel_rfl⟩
theorem RL:au Tryz.prog 168 Tryz.f168:=⟨Tryz.func168,rfl,rfl,rfl,by kernel_rfl⟩
theorem RK:au Tryz.prog 169 Tryz.f169:=⟨Tryz.func169,rfl,rfl,rfl,by kernel_rfl⟩
theorem RJ:au Tryz.prog 172 Tryz.f172:=⟨Tryz.func172,rfl,rfl,rfl,by kernel_rfl⟩
theorem RH:au Tryz.prog 173 Tryz.f173:=⟨Tryz.func173,rfl,rfl,rfl,by kernel_rfl⟩
theorem RG:au Tryz.prog 174 Tryz.f174:=⟨Tryz.func174,rfl,rfl,rfl,by kernel_rfl⟩
theorem RE:au Tryz.prog 175 Tryz.f175:=⟨Tryz.func175,rfl,rfl,rfl,by kernel_rfl⟩
theorem RC:au Tryz.prog 176 Tryz.f176:=⟨Tryz.func176,rfl,rfl,rfl,by kernel_rfl⟩
theorem Rz:au Tryz.prog 177 Tryz.f177:=⟨Tryz.func177,rfl,rfl,rfl,by kernel_rfl⟩
theorem Ry:au Tryz.prog 178 Tryz.f178:=⟨Tryz.func178,rfl,rfl,rfl,by kernel_rfl⟩
theorem Rx:au Tryz.prog 179 Tryz.f179:=⟨Tryz.func179,rfl,rfl,rfl,by kernel_rfl⟩
theorem Rw:au Tryz.prog 180 Tryz.f180:=⟨Tryz.func180,rfl,rfl,rfl,by kernel_rfl⟩
theorem Rv:au Tryz.prog 181 Tryz.f181:=⟨Tryz.func181,rfl,rfl,rfl,by kernel_rfl⟩
theorem Ru:au Tryz.prog 182 Tryz.f182:=⟨Tryz.func182,rfl,rfl,rfl,by kernel_rfl⟩
theorem Rt:au Tryz.prog 183 Tryz.f183:=⟨Tryz.func183,rfl,rfl,rfl,by kernel_rfl⟩
theorem Rs:au Tryz.prog 184 Tryz.f184:=⟨Tryz.func184,rfl,rfl,rfl,by kernel_rfl⟩
theorem Rr:au Tryz.prog 185 Tryz.f185:=⟨Tryz.func185,rfl,rfl,rfl,by kernel_rfl⟩
theorem Rq:au Tryz.prog 186 Tryz.f186:=⟨Tryz.func186,rfl,rfl,rfl,by kernel_rfl⟩
theorem Rp:au Tryz.prog 187 Tryz.f187:=⟨Tryz.func187,rfl,rfl,rfl,by kernel_rfl⟩
theorem Ro:au Tryz.prog 188 Tryz.f188:=⟨Tryz.func188,rfl,rfl,rfl,by kernel_rfl⟩
theorem Mf:au Tryz.prog 199 Tryz.f199:=⟨Tryz.func199,rfl,rfl,rfl,by kernel_rfl⟩
theorem Rn:au Tryz.prog 200 Tryz.f200:=⟨Tryz.func200,rfl,rfl,rfl,by kernel_rfl⟩
theorem Rm:au Tryz.prog 201 Tryz.f201:=⟨Tryz.func201,rfl,rfl,rfl,by kernel_rfl⟩
theorem Rl:au Tryz.prog 202 Tryz.f202:=⟨Tryz.func202,rfl,rfl,rfl,by kernel_rfl⟩
theorem Rk:au Tryz.prog 203 Tryz.f203:=⟨Tryz.func203,rfl,rfl,rfl,by kernel_rfl⟩
theorem Rj:au Tryz.prog 204 Tryz.f204:=⟨Tryz.func204,rfl,rfl,rfl,by kernel_rfl⟩
theorem Me:au Tryz.prog 205 Tryz.f205:=⟨Tryz.func205,rfl,rfl,rfl,by kernel_rfl⟩
theorem Ri:au Tryz.prog 206 Tryz.f206:=⟨Tryz.func206,rfl,rfl,rfl,by kernel_rfl⟩
theorem Md:au Tryz.prog 207 Tryz.f207:=⟨Tryz.func207,rfl,rfl,rfl,by kernel_rfl⟩
theorem Rh:au Tryz.prog 208 Tryz.f208:=⟨Tryz.func208,rfl,rfl,rfl,by kernel_rfl⟩
theorem Rg:au Tryz.prog 209 Tryz.f209:=⟨Tryz.func209,rfl,rfl,rfl,by kernel_rfl⟩
theorem Rf:au Tryz.prog 210 Tryz.f210:=⟨Tryz.func210,rfl,rfl,rfl,by kernel_rfl⟩
theorem Re:au Tryz.prog 211 Tryz.f211:=⟨Tryz.func211,rfl,rfl,rfl,by kernel_rfl⟩
theorem Rd:au Tryz.prog 212 Tryz.f212:=⟨Tryz.func212,rfl,rfl,rfl,by kernel_rfl⟩
theorem Rc:au Tryz.prog 213 Tryz.f213:=⟨Tryz.func213,rfl,rfl,rfl,by kernel_rfl⟩
theorem Rb:au Tryz.prog 214 Tryz.f214:=⟨Tryz.func214,rfl,rfl,rfl,by kernel_rfl⟩
theorem Ra:au Tryz.prog 215 Tryz.f215:=⟨Tryz.func215,rfl,rfl,rfl,by kernel_rfl⟩
theorem Q9:au Tryz.prog 216 Tryz.f216:=⟨Tryz.func216,rfl,rfl,rfl,by kernel_rfl⟩
theorem Q8:au Tryz.prog 217 Tryz.f217:=⟨Tryz.func217,rfl,rfl,rfl,by kernel_rfl⟩
theorem Q7:au Tryz.prog 218 Tryz.f218:=⟨Tryz.func218,rfl,rfl,rfl,by kernel_rfl⟩
theorem Q6:au Tryz.prog 219 Tryz.f219:=⟨Tryz.func219,rfl,rfl,rfl,by kernel_rfl⟩
theorem Q4:au Tryz.prog 220 Tryz.f220:=⟨Tryz.func220,rfl,rfl,rfl,by kernel_rfl⟩
theorem Q3:au Tryz.prog 221 Tryz.f221:=⟨Tryz.func221,rfl,rfl,rfl,by kernel_rfl⟩
theorem Q0:au Tryz.prog 224 Tryz.f224:=⟨Tryz.func224,rfl,rfl,rfl,by kernel_rfl⟩
theorem QZ:au Tryz.prog 227 Tryz.f227:=⟨Tryz.func227,rfl,rfl,rfl,by kernel_rfl⟩
theorem QY:au Tryz.prog 228 Tryz.f228:=⟨Tryz.func228,rfl,rfl,rfl,by kernel_rfl⟩
theorem QX:au Tryz.prog 229 Tryz.f229:=⟨Tryz.func229,rfl,rfl,rfl,by kernel_rfl⟩
theorem Mc:au Tryz.prog 230 Tryz.f230:=⟨Tryz.func230,rfl,rfl,rfl,by kernel_rfl⟩
theorem QW:au Tryz.prog 231 Tryz.f231:=⟨Tryz.func231,rfl,rfl,rfl,by kernel_rfl⟩
theorem QV:au Tryz.prog 232 Tryz.f232:=⟨Tryz.func232,rfl,rfl,rfl,by kernel_rfl⟩
theorem QU:au Tryz.prog 233 Tryz.f233:=⟨Tryz.func233,rfl,rfl,rfl,by kernel_rfl⟩
theorem QT:au Tryz.prog 234 Tryz.f234:=⟨Tryz.func234,rfl,rfl,rfl,by kernel_rfl⟩
theorem QQ:au Tryz.prog 235 Tryz.f235:=⟨Tryz.func235,rfl,rfl,rfl,by kernel_rfl⟩
theorem QP:au Tryz.prog 236 Tryz.f236:=⟨Tryz.func236,rfl,rfl,rfl,by kernel_rfl⟩
theorem QO:au Tryz.prog 242 Tryz.f242:=⟨Tryz.func242,rfl,rfl,rfl,by kernel_rfl⟩
theorem QN:au Tryz.prog 243 Tryz.f243:=⟨Tryz.func243,rfl,rfl,rfl,by kernel_rfl⟩
theorem QM:au Tryz.prog 244 Tryz.f244:=⟨Tryz.func244,rfl,rfl,rfl,by kernel_rfl⟩
theorem QK:au Tryz.prog 245 Tryz.f245:=⟨Tryz.func245,rfl,rfl,rfl,by kernel_rfl⟩
theorem QJ:au Tryz.prog 246 Tryz.f246:=⟨Tryz.func246,rfl,rfl,rfl,by kernel_rfl⟩
theorem QI:au Tryz.prog 247 Tryz.f247:=⟨Tryz.func247,rfl,rfl,rfl,by kernel_rfl⟩
theorem QH:au Tryz.prog 248 Tryz.f248:=⟨Tryz.func248,rfl,rfl,rfl,by kernel_rfl⟩
theorem QG:au Tryz.prog 249 Tryz.f249:=⟨Tryz.func249,rfl,rfl,rfl,by kernel_rfl⟩
theorem QF:au Tryz.prog 250 Tryz.f250:=⟨Tryz.func250,rfl,rfl,rfl,by kernel_rfl⟩
theorem QE:au Tryz.prog 251 Tryz.f251:=⟨Tryz.func251,rfl,rfl,rfl,by kernel_rfl⟩
theorem QD:au Tryz.prog 253 Tryz.f253:=⟨Tryz.func253,rfl,rfl,rfl,by kernel_rfl⟩
theorem QB:au Tryz.prog 254 Tryz.f254:=⟨Tryz.func254,rfl,rfl,rfl,by kernel_rfl⟩
theorem Qz:au Tryz.prog 255 Tryz.f255:=⟨Tryz.func255,rfl,rfl,rfl,by kernel_rfl⟩
theorem Qy:au Tryz.prog 256 Tryz.f256:=⟨Tryz.func256,rfl,rfl,rfl,by kernel_rfl⟩
theorem Qx:au Tryz.prog 257 Tryz.f257:=⟨Tryz.func257,rfl,rfl,rfl,by kernel_rfl⟩
theorem Qw:au Tryz.prog 258 Tryz.f258:=⟨Tryz.func258,rfl,rfl,rfl,by kernel_rfl⟩
theorem Qv:au Tryz.prog 259 Tryz.f259:=⟨Tryz.func259,rfl,rfl,rfl,by kernel_rfl⟩
theorem Qu:au Tryz.prog 260 Tryz.f260:=⟨Tryz.func260,rfl,rfl,rfl,by kernel_rfl⟩
theorem Qt:au Tryz.prog 261 Tryz.f261:=⟨Tryz.func261,rfl,rfl,rfl,by kernel_rfl⟩
theorem Qs:au Tryz.prog 262 Tryz.f262:=⟨Tryz.func262,rfl,rfl,rfl,by kernel_rfl⟩
theorem Qr:au Tryz.prog 263 Tryz.f263:=⟨Tryz.func263,rfl,rfl,rfl,by kernel_rfl⟩
theorem Qq:au Tryz.prog 264 Tryz.f264:=⟨Tryz.func264,rfl,rfl,rfl,by kernel_rfl⟩
theorem Qp:au Tryz.prog 265 Tryz.f265:=⟨Tryz.func265,rfl,rfl,rfl,by kernel_rfl⟩
theorem Qo:au Tryz.prog 266 Tryz.f266:=⟨Tryz.func266,rfl,rfl,rfl,by kernel_rfl⟩
theorem Qn:au Tryz.prog 267 Tryz.f267:=⟨Tryz.func267,rfl,rfl,rfl,by kernel_rfl⟩
theorem Qm:au Tryz.prog 268 Tryz.f268:=⟨Tryz.func268,rfl,rfl,rfl,by kernel_rfl⟩
theorem Ql:au Tryz.prog 269 Tryz.f269:=⟨Tryz.func269,rfl,rfl,rfl,by kernel_rfl⟩
theorem Qk:au Tryz.prog 274 Tryz.f274:=⟨Tryz.func274,rfl,rfl,rfl,by kernel_rfl⟩
theorem Qj:au Tryz.prog 275 Tryz.f275:=⟨Tryz.func275,rfl,rfl,rfl,by kernel_rfl⟩
theorem Qi:au Tryz.prog 276 Tryz.f276:=⟨Tryz.func276,rfl,rfl,rfl,by kernel_rfl⟩
theorem Qh:au Tryz.prog 277 Tryz.f277:=⟨Tryz.func277,rfl,rfl,rfl,by kernel_rfl⟩
theorem Qg:au Tryz.prog 286 Tryz.f286:=⟨Tryz.func286,rfl,rfl,rfl,by kernel_rfl⟩
theorem Qf:au Tryz.prog 290 Tryz.f290:=⟨Tryz.func290,rfl,rfl,rfl,by kernel_rfl⟩
theorem Qe:au Tryz.prog 292 Tryz.f292:=⟨Tryz.func292,rfl,rfl,rfl,by kernel_rfl⟩
theorem Qd:au Tryz.prog 293 Tryz.f293:=⟨Tryz.func293,rfl,rfl,rfl,by kernel_rfl⟩
theorem jV:au Tryz.prog 294 Tryz.f294:=⟨Tryz.func294,rfl,rfl,rfl,by kernel_rfl⟩
theorem Qc:au Tryz.prog 295 Tryz.f295:=⟨Tryz.func295,rfl,rfl,rfl,by kernel_rfl⟩
theorem Qb:au Tryz.prog 296 Tryz.f296:=⟨Tryz.func296,rfl,rfl,rfl,by kernel_rfl⟩
theorem Qa:au Tryz.prog 297 Tryz.f297:=⟨Tryz.func297,rfl,rfl,rfl,by kernel_rfl⟩
theorem P7:au Tryz.prog 320 Tryz.f320:=⟨Tryz.func320,rfl,rfl,rfl,by kernel_rfl⟩
theorem PY:au Tryz.prog 322 Tryz.f322:=⟨Tryz.func322,rfl,rfl,rfl,by kernel_rfl⟩
theorem PX:au Tryz.prog 358 Tryz.f358:=⟨Tryz.func358,rfl,rfl,rfl,by kernel_rfl⟩
theorem PW:au Tryz.prog 359 Tryz.f359:=⟨Tryz.func359,rfl,rfl,rfl,by kernel_rfl⟩
theorem PV:au Tryz.prog 360 Tryz.f360:=⟨Tryz.func360,rfl,rfl,rfl,by kernel_rfl⟩
theorem PU:au Tryz.prog 361 Tryz.f361:=⟨Tryz.func361,rfl,rfl,rfl,by kernel_rfl⟩
theorem PT:au Tryz.prog 362 Tryz.f362:=⟨Tryz.func362,rfl,rfl,rfl,by kernel_rfl⟩
end Go.Proofs.YtklehfchdoikeaaGreatDoor
