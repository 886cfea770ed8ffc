/- The table of the types, printed by program. Where each funct; no condition. -/
import Derived.Test.YtekfkdddadcalaaGreatDoorProg
import Derived.Test.YtekfkdddadcalaaGreatDoorPositionPlaysQ7
set_option maxRecDepth 100000
set_option maxHeartbeats 4000000
namespace Go.Proofs.YtekfkdddadcalaaGreatDoor
open Go Go.SX
open Tryz (prog)
def ti3:TI:={ row:=false,size:=1,zero:=#[.int .i64 0],kind:=4,ik:=.i64 }
def ti4:TI:={ row:=false,size:=1,zero:=#[.bool false],kind:=5 }
def ti5:TI:={ row:=false,size:=1,zero:=#[.int .u8 0],kind:=4,ik:=.u8 }
def ti7:TI:={ row:=true,size:=4,zero:=#[.int .i64 0,.int .i64 0,.bool false,.int .u8 0],kind:=1,fields:=[(0,2),(1,3),(2,4),(3,6)] }
def ti8:TI:={ row:=true,size:=4,zero:=#[.int .i64 0,.int .i64 0,.bool false,.int .u8 0],kind:=1,fields:=[(0,2),(1,3),(2,4),(3,6)] }
def ti9:TI:={ row:=false,size:=1,zero:=#[.string ByteArray.empty],kind:=0 }
def Nj:TI:={ row:=true,size:=2,zero:=#[.string ByteArray.empty,.int .u64 0],kind:=1,fields:=[(0,9),(1,12)] }
def Ni:TI:={ row:=true,size:=2,zero:=#[.string ByteArray.empty,.int .u64 0],kind:=1,fields:=[(0,9),(1,12)] }
def Nh:TI:={ row:=true,size:=1,zero:=#[.pointer none],kind:=1,fields:=[(0,17)] }
def Ng:TI:={ row:=true,size:=1,zero:=#[.pointer none],kind:=1,fields:=[(0,17)] }
def Nf:TI:={ row:=true,size:=2,zero:=#[.slice none 0 0,.int .i64 0],kind:=1,fields:=[(0,22),(1,3)] }
def Je:TI:={ row:=true,size:=2,zero:=#[.slice none 0 0,.int .i64 0],kind:=1,fields:=[(0,22),(1,3)] }
def Nd:TI:={ row:=true,size:=10,zero:=#[.int .i64 0,.string ByteArray.empty,.int .i64 0,.int .i64 0,.string ByteArray.empty,.int .i64 0,.int .i64 0,.string ByteArray.empty,.int .i64 0,.bool false],kind:=1,fields:=[(0,3),(1,9),(2,3),(3,3),(4,9),(5,3),(6,3),(7,9),(8,3),(9,4)] }
def fe:TI:={ row:=true,size:=10,zero:=#[.int .i64 0,.string ByteArray.empty,.int .i64 0,.int .i64 0,.string ByteArray.empty,.int .i64 0,.int .i64 0,.string ByteArray.empty,.int .i64 0,.bool false],kind:=1,fields:=[(0,3),(1,9),(2,3),(3,3),(4,9),(5,3),(6,3),(7,9),(8,3),(9,4)] }
def Ab:TI:={ row:=false,size:=1,zero:=#[.slice none 0 0],kind:=3,elem:=49 }
def Nc:TI:={ row:=true,size:=3,zero:=#[.slice none 0 0,.slice none 0 0,.slice none 0 0],kind:=1,fields:=[(0,37),(1,38),(2,38)] }
def Nb:TI:={ row:=true,size:=3,zero:=#[.slice none 0 0,.slice none 0 0,.slice none 0 0],kind:=1,fields:=[(0,37),(1,38),(2,38)] }
def Na:TI:={ row:=true,size:=3,zero:=#[.string ByteArray.empty,.int .i64 0,.int .i64 0],kind:=1,fields:=[(0,9),(1,3),(2,3)] }
def jy:TI:={ row:=true,size:=3,zero:=#[.string ByteArray.empty,.int .i64 0,.int .i64 0],kind:=1,fields:=[(0,9),(1,3),(2,3)] }
def IU:TI:={ row:=false,size:=1,zero:=#[.int .u32 0],kind:=4,ik:=.u32 }
def Hu:TI:={ row:=true,size:=32,zero:=(Array.replicate 32 (.int .u32 0)),kind:=2,len:=32,elem:=54 }
def M9:TI:={ row:=true,size:=33,zero:=#[.bool false,.int .u32 0,.int .u32 0,.int .u32 0,.int .u32 0,.int .u32 0,.int .u32 0,.int .u32 0,.int .u32 0,.int .u32 0,.int .u32 0,.int .u32 0,.int .u32 0,.int .u32 0,.int .u32 0,.int .u32 0,.int .u32 0,.int .u32 0,.int .u32 0,.int .u32 0,.int .u32 0,.int .u32 0,.int .u32 0,.int .u32 0,.int .u32 0,.int .u32 0,.int .u32 0,.int .u32 0,.int .u32 0,.int .u32 0,.int .u32 0,.int .u32 0,.int .u32 0],kind:=1,fields:=[(0,4),(1,55)] }
def fj:TI:={ row:=true,size:=33,zero:=#[.bool false,.int .u32 0,.int .u32 0,.int .u32 0,.int .u32 0,.int .u32 0,.int .u32 0,.int .u32 0,.int .u32 0,.int .u32 0,.int .u32 0,.int .u32 0,.int .u32 0,.int .u32 0,.int .u32 0,.int .u32 0,.int .u32 0,.int .u32 0,.int .u32 0,.int .u32 0,.int .u32 0,.int .u32 0,.int .u32 0,.int .u32 0,.int .u32 0,.int .u32 0,.int .u32 0,.int .u32 0,.int .u32 0,.int .u32 0,.int .u32 0,.int .u32 0,.int .u32 0],kind:=1,fields:=[(0,4),(1,55)] }
def M8:TI:={ row:=true,size:=66,zero:=#[.bool false,.int .u32 0,.int .u32 0,.int .u32 0,.int .u32 0,.int .u32 0,.int .u32 0,.int .u32 0,.int .u32 0,.int .u32 0,.int .u32 0,.int .u32 0,.int .u32 0,.int .u32 0,.int .u32 0,.int .u32 0,.int .u32 0,.int .u32 0,.int .u32 0,.int .u32 0,.int .u32 0,.int .u32 0,.int .u32 0,.int .u32 0,.int .u32 0,.int .u32 0,.int .u32 0,.int .u32 0,.int .u32 0,.int .u32 0,.int .u32 0,.int .u32 0,.int .u32 0,.bool false,.int .u32 0,.int .u32 0,.int .u32 0,.int .u32 0,.int .u32 0,.int .u32 0,.int .u32 0,.int .u32 0,.int .u32 0,.int .u32 0,.int .u32 0,.int .u32 0,.int .u32 0,.int .u32 0,.int .u32 0,.int .u32 0,.int .u32 0,.int .u32 0,.int .u32 0,.int .u32 0,.int .u32 0,.int .u32 0,.int .u32 0,.int .u32 0,.int .u32 0,.int .u32 0,.int .u32 0,.int .u32 0,.int .u32 0,.int .u32 0,.int .u32 0,.int .u32 0],kind:=1,fields:=[(0,57),(33,57)] }
def dV:TI:={ row:=true,size:=66,zero:=#[.bool false,.int .u32 0,.int .u32 0,.int .u32 0,.int .u32 0,.int .u32 0,.int .u32 0,.int .u32 0,.int .u32 0,.int .u32 0,.int .u32 0,.int .u32 0,.int .u32 0,.int .u32 0,.int .u32 0,.int .u32 0,.int .u32 0,.int .u32 0,.int .u32 0,.int .u32 0,.int .u32 0,.int .u32 0,.int .u32 0,.int .u32 0,.int .u32 0,.int .u32 0,.int .u32 0,.int .u32 0,.int .u32 0,.int .u32 0,.int .u32 0,.int .u32 0,.int .u32 0,.bool false,.int .u32 0,.int .u32 0,.int .u32 0,.int .u32 0,.int .u32 0,.int .u32 0,.int .u32 0,.int .u32 0,.int .u32 0,.int .u32 0,.int .u32 0,.int .u32 0,.int .u32 0,.int .u32 0,.int .u32 0,.int .u32 0,.int .u32 0,.int .u32 0,.int .u32 0,.int .u32 0,.int .u32 0,.int .u32 0,.int .u32 0,.int .u32 0,.int .u32 0,.int .u32 0,.int .u32 0,.int .u32 0,.int .u32 0,.int .u32 0,.int .u32 0,.int .u32 0],kind:=1,fields:=[(0,57),(33,57)] }
def M7:TI:={ row:=true,size:=76,zero:=#[.int .i64 0,.string ByteArray.empty,.string ByteArray.empty,.string ByteArray.empty,.int .i64 0,.int .i64 0,.int .i64 0,.bool false,.int .u32 0,.int .u32 0,.int .u32 0,.int .u32 0,.int .u32 0,.int .u32 0,.int .u32 0,.int .u32 0,.int .u32 0,.int .u32 0,.int .u32 0,.int .u32 0,.int .u32 0,.int .u32 0,.int .u32 0,.int .u32 0,.int .u32 0,.int .u32 0,.int .u32 0,.int .u32 0,.int .u32 0,.int .u32 0,.int .u32 0,.int .u32 0,.int .u32 0,.int .u32 0,.int .u32 0,.int .u32 0,.int .u32 0,.int .u32 0,.int .u32 0,.int .u32 0,.bool false,.int .u32 0,.int .u32 0,.int .u32 0,.int .u32 0,.int .u32 0,.int .u32 0,.int .u32 0,.int .u32 0,.int .u32 0,.int .u32 0,.int .u32 0,.int .u32 0,.int .u32 0,.int .u32 0,.int .u32 0,.int .u32 0,.int .u32 0,.int .u32 0,.int .u32 0,.int .u32 0,.int .u32 0,.int .u32 0,.int .u32 0,.int .u32 0,.int .u32 0,.int .u32 0,.int .u32 0,.int .u32 0,.int .u32 0,.int .u32 0,.int .u32 0,.int .u32 0,.string ByteArray.empty,.int .i64 0,.bool false],kind:=1,fields:=[(0,3),(1,9),(2,9),(3,9),(4,3),(5,3),(6,3),(7,59),(73,9),(74,3),(75,4)] }
def fc:TI:={ row:=true,size:=76,zero:=#[.int .i64 0,.string ByteArray.empty,.string ByteArray.empty,.string ByteArray.empty,.int .i64 0,.int .i64 0,.int .i64 0,.bool false,.int .u32 0,.int .u32 0,.int .u32 0,.int .u32 0,.int .u32 0,.int .u32 0,.int .u32 0,.int .u32 0,.int .u32 0,.int .u32 0,.int .u32 0,.int .u32 0,.int .u32 0,.int .u32 0,.int .u32 0,.int .u32 0,.int .u32 0,.int .u32 0,.int .u32 0,.int .u32 0,.int .u32 0,.int .u32 0,.int .u32 0,.int .u32 0,.int .u32 0,.int .u32 0,.int .u32 0,.int .u32 0,.int .u32 0,.int .u32 0,.int .u32 0,.int .u32 0,.bool false,.int .u32 0,.int .u32 0,.int .u32 0,.int .u32 0,.int .u32 0,.int .u32 0,.int .u32 0,.int .u32 0,.int .u32 0,.int .u32 0,.int .u32 0,.int .u32 0,.int .u32 0,.int .u32 0,.int .u32 0,.int .u32 0,.int .u32 0,.int .u32 0,.int .u32 0,.int .u32 0,.int .u32 0,.int .u32 0,.int .u32 0,.int .u32 0,.int .u32 0,.int .u32 0,.int .u32 0,.int .u32 0,.int .u32 0,.int .u32 0,.int .u32 0,.int .u32 0,.string ByteArray.empty,.int .i64 0,.bool false],kind:=1,fields:=[(0,3),(1,9),(2,9),(3,9),(4,3),(5,3),(6,3),(7,59),(73,9),(74,3),(75,4)] }
def M6:TI:={ row:=true,size:=2,zero:=#[.string ByteArray.empty,.int .i64 0],kind:=1,fields:=[(0,9),(1,3)] }
def pw:TI:={ row:=true,size:=2,zero:=#[.string ByteArray.empty,.int .i64 0],kind:=1,fields:=[(0,9),(1,3)] }
def IT:TI:={ row:=false,size:=1,zero:=#[.nilFunc],kind:=0 }
def IS:TI:={ row:=false,size:=1,zero:=#[.slice none 0 0],kind:=3,elem:=136 }
def M5:TI:={ row:=true,size:=2,zero:=#[.nilFunc,.slice none 0 0],kind:=1,fields:=[(0,84),(1,85)] }
def M4:TI:={ row:=true,size:=2,zero:=#[.nilFunc,.slice none 0 0],kind:=1,fields:=[(0,84),(1,85)] }
def IQ:TI:={ row:=false,size:=1,zero:=#[.nilFunc],kind:=0 }
def IP:TI:={ row:=false,size:=1,zero:=#[.slice none 0 0],kind:=3,elem:=183 }
def M3:TI:={ row:=true,size:=2,zero:=#[.nilFunc,.slice none 0 0],kind:=1,fields:=[(0,88),(1,89)] }
def M0:TI:={ row:=true,size:=2,zero:=#[.nilFunc,.slice none 0 0],kind:=1,fields:=[(0,88),(1,89)] }
def MZ:TI:={ row:=true,size:=7,zero:=#[.nilFunc,.slice none 0 0,.nilFunc,.slice none 0 0,.nilFunc,.slice none 0 0,.int .i64 0],kind:=1,fields:=[(0,87),(2,91),(4,91),(6,3)] }
def MY:TI:={ row:=true,size:=7,zero:=#[.nilFunc,.slice none 0 0,.nilFunc,.slice none 0 0,.nilFunc,.slice none 0 0,.int .i64 0],kind:=1,fields:=[(0,87),(2,91),(4,91),(6,3)] }
def Jp:TI:={ row:=true,size:=2,zero:=#[.string ByteArray.empty,.int .i64 0],kind:=1,fields:=[(0,9),(1,3)] }
def Ch:TI:={ row:=true,size:=2,zero:=#[.string ByteArray.empty,.int .i64 0],kind:=1,fields:=[(0,9),(1,3)] }
def Jo:TI:={ row:=true,size:=3,zero:=#[.string ByteArray.empty,.int .i64 0,.int .i64 0],kind:=1,fields:=[(0,9),(1,3),(2,3)] }
def eP:TI:={ row:=true,size:=3,zero:=#[.string ByteArray.empty,.int .i64 0,.int .i64 0],kind:=1,fields:=[(0,9),(1,3),(2,3)] }
def Jn:TI:={ row:=true,size:=2,zero:=#[.string ByteArray.empty,.int .i64 0],kind:=1,fields:=[(0,9),(1,3)] }
def fR:TI:={ row:=true,size:=2,zero:=#[.string ByteArray.empty,.int .i64 0],kind:=1,fields:=[(0,9),(1,3)] }
def Jm:TI:={ row:=true,size:=3,zero:=#[.string ByteArray.empty,.int .i64 0,.bool false],kind:=1,fields:=[(0,9),(1,3),(2,4)] }
def oh:TI:={ row:=true,size:=3,zero:=#[.string ByteArray.empty,.int .i64 0,.bool false],kind:=1,fields:=[(0,9),(1,3),(2,4)] }
def Jl:TI:={ row:=true,size:=76,zero:=#[.int .i64 0,.string ByteArray.empty,.string ByteArray.empty,.string ByteArray.empty,.int .i64 0,.int .i64 0,.int .i64 0,.bool false,.int .u32 0,.int .u32 0,.int .u32 0,.int .u32 0,.int .u32 0,.int .u32 0,.int .u32 0,.int .u32 0,.int .u32 0,.int .u32 0,.int .u32 0,.int .u32 0,.int .u32 0,.int .u32 0,.int .u32 0,.int .u32 0,.int .u32 0,.int .u32 0,.int .u32 0,.int .u32 0,.int .u32 0,.int .u32 0,.int .u32 0,.int .u32 0,.int .u32 0,.int .u32 0,.int .u32 0,.int .u32 0,.int .u32 0,.int .u32 0,.int .u32 0,.int .u32 0,.bool false,.int .u32 0,.int .u32 0,.int .u32 0,.int .u32 0,.int .u32 0,.int .u32 0,.int .u32 0,.int .u32 0,.int .u32 0,.int .u32 0,.int .u32 0,.int .u32 0,.int .u32 0,.int .u32 0,.int .u32 0,.int .u32 0,.int .u32 0,.int .u32 0,.int .u32 0,.int .u32 0,.int .u32 0,.int .u32 0,.int .u32 0,.int .u32 0,.int .u32 0,.int .u32 0,.int .u32 0,.int .u32 0,.int .u32 0,.int .u32 0,.int .u32 0,.int .u32 0,.string ByteArray.empty,.int .i64 0,.bool false],kind:=1,fields:=[(0,61)] }
def Cg:TI:={ row:=true,size:=76,zero:=#[.int .i64 0,.string ByteArray.empty,.string ByteArray.empty,.string ByteArray.empty,.int .i64 0,.int .i64 0,.int .i64 0,.bool false,.int .u32 0,.int .u32 0,.int .u32 0,.int .u32 0,.int .u32 0,.int .u32 0,.int .u32 0,.int .u32 0,.int .u32 0,.int .u32 0,.int .u32 0,.int .u32 0,.int .u32 0,.int .u32 0,.int .u32 0,.int .u32 0,.int .u32 0,.int .u32 0,.int .u32 0,.int .u32 0,.int .u32 0,.int .u32 0,.int .u32 0,.int .u32 0,.int .u32 0,.int .u32 0,.int .u32 0,.int .u32 0,.int .u32 0,.int .u32 0,.int .u32 0,.int .u32 0,.bool false,.int .u32 0,.int .u32 0,.int .u32 0,.int .u32 0,.int .u32 0,.int .u32 0,.int .u32 0,.int .u32 0,.int .u32 0,.int .u32 0,.int .u32 0,.int .u32 0,.int .u32 0,.int .u32 0,.int .u32 0,.int .u32 0,.int .u32 0,.int .u32 0,.int .u32 0,.int .u32 0,.int .u32 0,.int .u32 0,.int .u32 0,.int .u32 0,.int .u32 0,.int .u32 0,.int .u32 0,.int .u32 0,.int .u32 0,.int .u32 0,.int .u32 0,.int .u32 0,.string ByteArray.empty,.int .i64 0,.bool false],kind:=1,fields:=[(0,61)] }
def Jk:TI:={ row:=true,size:=76,zero:=#[.int .i64 0,.string ByteArray.empty,.string ByteArray.empty,.string ByteArray.empty,.int .i64 0,.int .i64 0,.int .i64 0,.bool false,.int .u32 0,.int .u32 0,.int .u32 0,.int .u32 0,.int .u32 0,.int .u32 0,.int .u32 0,.int .u32 0,.int .u32 0,.int .u32 0,.int .u32 0,.int .u32 0,.int .u32 0,.int .u32 0,.int .u32 0,.int .u32 0,.int .u32 0,.int .u32 0,.int .u32 0,.int .u32 0,.int .u32 0,.int .u32 0,.int .u32 0,.int .u32 0,.int .u32 0,.int .u32 0,.int .u32 0,.int .u32 0,.int .u32 0,.int .u32 0,.int .u32 0,.int .u32 0,.bool false,.int .u32 0,.int .u32 0,.int .u32 0,.int .u32 0,.int .u32 0,.int .u32 0,.int .u32 0,.int .u32 0,.int .u32 0,.int .u32 0,.int .u32 0,.int .u32 0,.int .u32 0,.int .u32 0,.int .u32 0,.int .u32 0,.int .u32 0,.int .u32 0,.int .u32 0,.int .u32 0,.int .u32 0,.int .u32 0,.int .u32 0,.int .u32 0,.int .u32 0,.int .u32 0,.int .u32 0,.int .u32 0,.int .u32 0,.int .u32 0,.int .u32 0,.int .u32 0,.string ByteArray.empty,.int .i64 0,.bool false],kind:=1,fields:=[(0,158)] }
def rv:TI:={ row:=true,size:=76,zero:=#[.int .i64 0,.string ByteArray.empty,.string ByteArray.empty,.string ByteArray.empty,.int .i64 0,.int .i64 0,.int .i64 0,.bool false,.int .u32 0,.int .u32 0,.int .u32 0,.int .u32 0,.int .u32 0,.int .u32 0,.int .u32 0,.int .u32 0,.int .u32 0,.int .u32 0,.int .u32 0,.int .u32 0,.int .u32 0,.int .u32 0,.int .u32 0,.int .u32 0,.int .u32 0,.int .u32 0,.int .u32 0,.int .u32 0,.int .u32 0,.int .u32 0,.int .u32 0,.int .u32 0,.int .u32 0,.int .u32 0,.int .u32 0,.int .u32 0,.int .u32 0,.int .u32 0,.int .u32 0,.int .u32 0,.bool false,.int .u32 0,.int .u32 0,.int .u32 0,.int .u32 0,.int .u32 0,.int .u32 0,.int .u32 0,.int .u32 0,.int .u32 0,.int .u32 0,.int .u32 0,.int .u32 0,.int .u32 0,.int .u32 0,.int .u32 0,.int .u32 0,.int .u32 0,.int .u32 0,.int .u32 0,.int .u32 0,.int .u32 0,.int .u32 0,.int .u32 0,.int .u32 0,.int .u32 0,.int .u32 0,.int .u32 0,.int .u32 0,.int .u32 0,.int .u32 0,.int .u32 0,.int .u32 0,.string ByteArray.empty,.int .i64 0,.bool false],kind:=1,fields:=[(0,158)] }
def Jj:TI:={ row:=true,size:=3,zero:=#[.string ByteArray.empty,.int .i64 0,.int .i64 0],kind:=1,fields:=[(0,108),(2,3)] }
def dW:TI:={ row:=true,size:=3,zero:=#[.string ByteArray.empty,.int .i64 0,.int .i64 0],kind:=1,fields:=[(0,108),(2,3)] }
def Ji:TI:={ row:=true,size:=32,zero:=(Array.replicate 32 (.int .u32 0)),kind:=2,len:=32,elem:=54 }
def Jh:TI:={ row:=true,size:=64,zero:=(Array.replicate 64 (.int .u32 0)),kind:=2,len:=64,elem:=54 }
def Jg:TI:={ row:=true,size:=35,zero:=#[.bool false,.int .u32 0,.int .u32 0,.int .u32 0,.int .u32 0,.int .u32 0,.int .u32 0,.int .u32 0,.int .u32 0,.int .u32 0,.int .u32 0,.int .u32 0,.int .u32 0,.int .u32 0,.int .u32 0,.int .u32 0,.int .u32 0,.int .u32 0,.int .u32 0,.int .u32 0,.int .u32 0,.int .u32 0,.int .u32 0,.int .u32 0,.int .u32 0,.int .u32 0,.int .u32 0,.int .u32 0,.int .u32 0,.int .u32 0,.int .u32 0,.int .u32 0,.int .u32 0,.int .i64 0,.bool false],kind:=1,fields:=[(0,57),(33,3),(34,4)] }
def Jf:TI:={ row:=true,size:=35,zero:=#[.bool false,.int .u32 0,.int .u32 0,.int .u32 0,.int .u32 0,.int .u32 0,.int .u32 0,.int .u32 0,.int .u32 0,.int .u32 0,.int .u32 0,.int .u32 0,.int .u32 0,.int .u32 0,.int .u32 0,.int .u32 0,.int .u32 0,.int .u32 0,.int .u32 0,.int .u32 0,.int .u32 0,.int .u32 0,.int .u32 0,.int .u32 0,.int .u32 0,.int .u32 0,.int .u32 0,.int .u32 0,.int .u32 0,.int .u32 0,.int .u32 0,.int .u32 0,.int .u32 0,.int .i64 0,.bool false],kind:=1,fields:=[(0,57),(33,3),(34,4)] }
def Jd:TI:={ row:=true,size:=33,zero:=(Array.replicate 33 (.int .u32 0)),kind:=2,len:=33,elem:=54 }
def Jc:TI:={ row:=true,size:=256,zero:=(Array.replicate 256 (.bool false)),kind:=2,len:=256,elem:=4 }
def Jb:TI:={ row:=true,size:=256,zero:=(Array.replicate 256 (.bool false)),kind:=2,len:=256,elem:=4 }
def Ja:TI:={ row:=true,size:=2,zero:=#[.pointer none,.slice none 0 0],kind:=1,fields:=[(0,298),(1,64)] }
def I9:TI:={ row:=true,size:=2,zero:=#[.pointer none,.slice none 0 0],kind:=1,fields:=[(0,298),(1,64)] }
def I8:TI:={ row:=true,size:=256,zero:=(Array.replicate 256 (.int .u8 0)),kind:=2,len:=256,elem:=5 }
def I7:TI:={ row:=true,size:=2,zero:=#[.int .u8 0,.int .u8 0],kind:=1,fields:=[(0,5),(1,5)] }
def I6:TI:={ row:=true,size:=2,zero:=#[.int .u8 0,.int .u8 0],kind:=1,fields:=[(0,5),(1,5)] }
def I5:TI:={ row:=true,size:=32,zero:=(Array.replicate 32 (.int .u8 0)),kind:=2,len:=16,elem:=321 }
def I4:TI:={ row:=true,size:=4,zero:=#[.pointer none,.pointer none,.pointer none,.string ByteArray.empty],kind:=1,fields:=[(0,17),(1,17),(2,17),(3,9)] }
def I3:TI:={ row:=true,size:=4,zero:=#[.pointer none,.pointer none,.pointer none,.string ByteArray.empty],kind:=1,fields:=[(0,17),(1,17),(2,17),(3,9)] }
def I2:TI:={ row:=true,size:=0,zero:=#[],kind:=2,len:=0,elem:=16 }
def I0:TI:={ row:=true,size:=0,zero:=#[],kind:=1,fields:=[(0,326)] }
def IZ:TI:={ row:=true,size:=0,zero:=#[],kind:=1,fields:=[(0,326)] }
def IY:TI:={ row:=true,size:=11,zero:=#[.int .u64 0,.int .u64 0,.int .u32 0,.int .u8 0,.int .u8 0,.int .u8 0,.int .u8 0,.nilFunc,.pointer none,.int .i32 0,.int .i32 0],kind:=1,fields:=[(0,12),(1,12),(2,54),(3,329),(4,5),(5,5),(6,330),(7,331),(8,312),(9,332),(10,333)] }
def IX:TI:={ row:=true,size:=11,zero:=#[.int .u64 0,.int .u64 0,.int .u32 0,.int .u8 0,.int .u8 0,.int .u8 0,.int .u8 0,.nilFunc,.pointer none,.int .i32 0,.int .i32 0],kind:=1,fields:=[(0,12),(1,12),(2,54),(3,329),(4,5),(5,5),(6,330),(7,331),(8,312),(9,332),(10,333)] }
def IW:TI:={ row:=true,size:=1,zero:=#[.string ByteArray.empty],kind:=1,fields:=[(0,9)] }
def IV:TI:={ row:=true,size:=1,zero:=#[.string ByteArray.empty],kind:=1,fields:=[(0,9)] }
def MX:TypeId->Option TI
 | 1=>some (tV .nilFunc)
 | 2=>some (tI .i64)
 | 3=>some ti3
 | 4=>some ti4
 | 5=>some ti5
 | 6=>some (tI .u8)
 | 7=>some ti7
 | 8=>some ti8
 | 9=>some ti9
 | 10=>some (tV (.string ByteArray.empty))
 | 11=>some (tV (.string ByteArray.empty))
 | 12=>some (tI .u64)
 | 13=>some Nj
 | 14=>some Ni
 | 15=>some (tV (.pointer none))
 | 16=>some (tV (.pointer none))
 | _=>none
def MW:TypeId->Option TI
 | 17=>some (tV (.pointer none))
 | 18=>some Nh
 | 19=>some Ng
 | 20=>some (tV .nilIface)
 | 21=>some (tI .i32)
 | 22=>some (tS 3)
 | 23=>some (tV (.pointer none))
 | 24=>some Nf
 | 25=>some Je
 | 26=>some (tS 31)
 | 27=>some (tV .nilFunc)
 | 28=>some (tV .nilFunc)
 | 29=>some (tV (.pointer none))
 | 30=>some Nd
 | 31=>some fe
 | 32=>some (tV .nilFunc)
 | _=>none
def MV:TypeId->Option TI
 | 33=>some (tV .nilFunc)
 | 34=>some (tV .nilFunc)
 | 35=>some (tV .nilFunc)
 | 36=>some (tV .nilFunc)
 | 37=>some (tS 66)
 | 38=>some Ab
 | 39=>some Nc
 | 40=>some Nb
 | 41=>some (tI .i64)
 | 43=>some (tV .nilFunc)
 | 45=>some (tV .nilFunc)
 | 46=>some (tS 9)
 | 47=>some (tV .nilFunc)
 | 48=>some Na
 | 49=>some jy
 | 50=>some (tV .nilFunc)
 | _=>none
def MU:TypeId->Option TI
 | 51=>some (tS 61)
 | 52=>some (tV .nilFunc)
 | 53=>some (tV .nilFunc)
 | 54=>some IU
 | 55=>some Hu
 | 56=>some M9
 | 57=>some fj
 | 58=>some M8
 | 59=>some dV
 | 60=>some M7
 | 61=>some fc
 | 62=>some (tV .nilFunc)
 | 63=>some (tV .nilFunc)
 | 64=>some (tS 5)
 | 65=>some M6
 | 66=>some pw
 | _=>none
def MT:TypeId->Option TI
 | 67=>some (tV .nilFunc)
 | 68=>some (tV .nilFunc)
 | 69=>some (tV .nilFunc)
 | 70=>some (tV .nilFunc)
 | 71=>some (tV .nilFunc)
 | 72=>some (tV .nilFunc)
 | 73=>some (tV .nilFunc)
 | 74=>some (tV .nilFunc)
 | 75=>some (tV .nilFunc)
 | 77=>some (tV .nilFunc)
 | 78=>some (tV .nilFunc)
 | 79=>some (tV .nilFunc)
 | 80=>some (tV .nilFunc)
 | 81=>some (tV .nilFunc)
 | 82=>some (tV .nilFunc)
 | 83=>some (tV (.pointer none))
 | _=>none
def MS:TypeId->Option TI
 | 84=>some IT
 | 85=>some IS
 | 86=>some M5
 | 87=>some M4
 | 88=>some IQ
 | 89=>some IP
 | 90=>some M3
 | 91=>some M0
 | 92=>some MZ
 | 93=>some MY
 | 94=>some (tV .nilFunc)
 | 95=>some (tV .nilFunc)
 | 96=>some (tV .nilFunc)
 | 98=>some (tV .nilFunc)
 | 99=>some (tS 143)
 | 100=>some (tV .nilFunc)
 | _=>none
def MR:TypeId->Option TI
 | 101=>some (tV .nilFunc)
 | 102=>some (tV .nilFunc)
 | 103=>some (tV .nilFunc)
 | 104=>some (tV .nilFunc)
 | 105=>some (tV .nilFunc)
 | 106=>some (tS 38)
 | 107=>some Jp
 | 108=>some Ch
 | 109=>some (tV .nilFunc)
 | 110=>some (tV .nilFunc)
 | 111=>some (tV .nilFunc)
 | 112=>some (tV .nilFunc)
 | 113=>some (tV .nilFunc)
 | 114=>some (tV .nilFunc)
 | 115=>some (tV (.pointer none))
 | 116=>some (tV .nilFunc)
 | _=>none
def MQ:TypeId->Option TI
 | 117=>some (tV .nilFunc)
 | 118=>some (tV .nilFunc)
 | 119=>some (tV .nilFunc)
 | 120=>some (tV .nilFunc)
 | 122=>some (tV .nilFunc)
 | 123=>some (tV .nilFunc)
 | 124=>some (tV .nilFunc)
 | 125=>some (tV .nilFunc)
 | 126=>some (tV .nilFunc)
 | 127=>some (tV .nilFunc)
 | 128=>some Jo
 | 129=>some eP
 | 131=>some (tV .nilFunc)
 | 132=>some (tV .nilFunc)
 | 133=>some (tV .nilFunc)
 | 134=>some (tV .nilFunc)
 | _=>none
def MP:TypeId->Option TI
 | 135=>some Jn
 | 136=>some fR
 | 138=>some (tV .nilFunc)
 | 139=>some (tV (.map none))
 | 140=>some (tV .nilFunc)
 | 141=>some (tV .nilFunc)
 | 142=>some Jm
 | 143=>some oh
 | 144=>some (tV .nilFunc)
 | 145=>some (tV .nilFunc)
 | 146=>some (tV .nilFunc)
 | 147=>some (tV .nilFunc)
 | 148=>some (tV .nilFunc)
 | 149=>some (tV .nilFunc)
 | 150=>some (tV .nilFunc)
 | 151=>some (tV .nilFunc)
 | _=>none
def MO:TypeId->Option TI
 | 152=>some (tV .nilFunc)
 | 153=>some (tV .nilFunc)
 | 154=>some (tV .nilFunc)
 | 155=>some (tV .nilFunc)
 | 156=>some (tV .nilFunc)
 | 157=>some Jl
 | 158=>some Cg
 | 159=>some (tV .nilFunc)
 | 160=>some (tV .nilFunc)
 | 161=>some (tV .nilFunc)
 | 162=>some (tV .nilFunc)
 | 163=>some (tV (.pointer none))
 | 165=>some (tV .nilFunc)
 | 166=>some Jk
 | 167=>some rv
 | 169=>some (tV .nilFunc)
 | _=>none
def II:TypeId->Option TI
 | 171=>some (tV .nilFunc)
 | 172=>some (tV .nilFunc)
 | 173=>some (tV .nilFunc)
 | 175=>some (tV .nilFunc)
 | 176=>some (tV .nilFunc)
 | 177=>some (tV .nilFunc)
 | 178=>some (tV .nilFunc)
 | 179=>some (tV (.pointer none))
 | 180=>some (tV .nilFunc)
 | 181=>some (tV .nilFunc)
 | 182=>some Jj
 | 183=>some dW
 | 184=>some (tV .nilFunc)
 | 185=>some (tV .nilFunc)
 | 186=>some (tV .nilFunc)
 | 187=>some (tI .u64)
 | _=>none
def IH:TypeId->Option TI
 | 188=>some (tV .nilFunc)
 | 190=>some (tV .nilFunc)
 | 192=>some (tV .nilFunc)
 | 193=>some (tV .nilFunc)
 | 194=>some (tV .nilFunc)
 | 195=>some (tV .nilFunc)
 | 196=>some (tI .u64)
 | 197=>some (tV .nilFunc)
 | 198=>some (tV .nilFunc)
 | 199=>some (tV .nilFunc)
 | 200=>some Ji
 | 202=>some (tV .nilFunc)
 | 203=>some (tV .nilFunc)
 | 204=>some (tV .nilFunc)
 | 205=>some (tV .nilFunc)
 | 206=>some (tV .nilFunc)
 | _=>none
def IG:TypeId->Option TI
 | 207=>some (tV .nilFunc)
 | 208=>some (tV .nilFunc)
 | 209=>some (tV .nilFunc)
 | 210=>some (tV .nilFunc)
 | 211=>some (tV .nilFunc)
 | 212=>some (tV .nilFunc)
 | 213=>some (tV .nilFunc)
 | 214=>some (tI .i64)
 | 216=>some (tV .nilFunc)
 | 217=>some (tV .nilFunc)
 | 218=>some (tV .nilFunc)
 | 219=>some (tV .nilFunc)
 | 220=>some (tV .nilFunc)
 | 221=>some (tV .nilFunc)
 | 222=>some Jh
 | 223=>some (tV .nilFunc)
 | _=>none
def IF:TypeId->Option TI
 | 224=>some (tV .nilFunc)
 | 225=>some (tV .nilFunc)
 | 227=>some (tV .nilFunc)
 | 228=>some (tV .nilFunc)
 | 230=>some (tV .nilFunc)
 | 232=>some (tV .nilFunc)
 | 233=>some (tV .nilFunc)
 | 234=>some (tV .nilFunc)
 | 235=>some (tV .nilFunc)
 | 237=>some (tV .nilFunc)
 | 238=>some (tV (.pointer none))
 | 240=>some (tV .nilFunc)
 | 241=>some (tV .nilFunc)
 | 242=>some (tV .nilFunc)
 | 244=>some (tV .nilFunc)
 | 245=>some (tV .nilFunc)
 | _=>none
def IE:TypeId->Option TI
 | 246=>some (tV .nilFunc)
 | 247=>some Jg
 | 248=>some Jf
 | 249=>some (tV .nilFunc)
 | 250=>some (tI .u64)
 | 251=>some (tV .nilFunc)
 | 252=>some (tV .nilFunc)
 | 253=>some (tV .nilFunc)
 | 254=>some (tV (.pointer none))
 | 255=>some (tV .nilFunc)
 | 256=>some (tV .nilFunc)
 | 257=>some (tV .nilFunc)
 | 258=>some (tV .nilFunc)
 | 259=>some (tV .nilFunc)
 | 260=>some (tV .nilFunc)
 | 261=>some (tV .nilFunc)
 | _=>none
def ID:TypeId->Option TI
 | 262=>some (tV .nilFunc)
 | 264=>some (tV .nilFunc)
 | 265=>some (tV .nilFunc)
 | 267=>some (tV .nilFunc)
 | 268=>some (tV .nilFunc)
 | 269=>some (tS 54)
 | 270=>some (tV .nilFunc)
 | 271=>some (tV .nilFunc)
 | 272=>some Jd
 | 274=>some (tV .nilFunc)
 | 275=>some (tV .nilFunc)
 | 276=>some (tV .nilFunc)
 | 277=>some (tV .nilFunc)
 | 278=>some (tV (.pointer none))
 | 280=>some (tV .nilFunc)
 | 282=>some (tV .nilFunc)
 | _=>none
def IC:TypeId->Option TI
 | 283=>some (tV .nilFunc)
 | 285=>some (tV .nilFunc)
 | 286=>some (tV .nilFunc)
 | 287=>some (tV .nilFunc)
 | 288=>some (tV .nilFunc)
 | 289=>some Jc
 | 290=>some Jb
 | 292=>some (tV .nilFunc)
 | 293=>some (tV .nilFunc)
 | 294=>some (tV (.pointer none))
 | 295=>some (tV .nilFunc)
 | 297=>some (tV .nilFunc)
 | 298=>some (tV (.pointer none))
 | 299=>some Ja
 | 300=>some I9
 | 301=>some (tV .nilFunc)
 | _=>none
def IB:TypeId->Option TI
 | 302=>some (tV .nilIface)
 | 303=>some (tV .nilIface)
 | 305=>some (tV .nilFunc)
 | 307=>some (tV .nilFunc)
 | 308=>some (tV .nilFunc)
 | 309=>some (tV .nilFunc)
 | 311=>some (tV .nilFunc)
 | 312=>some (tV (.pointer none))
 | 313=>some (tV .nilFunc)
 | 315=>some (tV .nilFunc)
 | 316=>some (tV .nilFunc)
 | 317=>some (tV .nilFunc)
 | 318=>some (tV .nilFunc)
 | 319=>some I8
 | 320=>some I7
 | 321=>some I6
 | _=>none
def Iz:TypeId->Option TI
 | 322=>some I5
 | 323=>some (tV (.pointer none))
 | 324=>some I4
 | 325=>some I3
 | 326=>some I2
 | 327=>some I0
 | 328=>some IZ
 | 329=>some (tI .u8)
 | 330=>some (tI .u8)
 | 331=>some (tV .nilFunc)
 | 332=>some (tI .i32)
 | 333=>some (tI .i32)
 | 334=>some IY
 | 335=>some IX
 | 336=>some (tV .nilFunc)
 | 337=>some IW
 | _=>none
def Iy:TypeId->Option TI
 | 338=>some IV
 | _=>none
def tt (ty:TypeId):Option TI :=
 if Nat.ble 339 ty then none else
 if Nat.ble ty 16 then MX ty else
 if Nat.ble ty 32 then MW ty else
 if Nat.ble ty 50 then MV ty else
 if Nat.ble ty 66 then MU ty else
 if Nat.ble ty 83 then MT ty else
 if Nat.ble ty 100 then MS ty else
 if Nat.ble ty 116 then MR ty else
 if Nat.ble ty 134 then MQ ty else
 if Nat.ble ty 151 then MP ty else
 if Nat.ble ty 169 then MO ty else
 if Nat.ble ty 187 then II ty else
 if Nat.ble ty 206 then IH ty else
 if Nat.ble ty 223 then IG ty else
 if Nat.ble ty 245 then IF ty else
 if Nat.ble ty 261 then IE ty else
 if Nat.ble ty 282 then ID ty else
 if Nat.ble ty 301 then IC ty else
 if Nat.ble ty 321 then IB ty else
 if Nat.ble ty 337 then Iz ty else
 Iy ty
theorem af:n9 prog tt:=Ix 339 (fun _ h=>if_pos (Nat.ble_eq_true_of_le h)) (by kernel_rfl)
theorem eK:TIok prog 3 ti3:=af 3 _ rfl
theorem z8:TIok prog 4 ti4:=af 4 _ rfl
theorem jx:TIok prog 9 ti9:=af 9 _ rfl
theorem IM:TIok prog 54 IU:=af 54 _ rfl
theorem GL:TIok prog 55 Hu:=af 55 _ rfl
theorem uj:TIok prog 57 fj:=af 57 _ rfl
theorem GK:TIok prog 59 dV:=af 59 _ rfl
theorem Ce:TIok prog 136 fR:=af 136 _ rfl
theorem Cd:TIok prog 183 dW:=af 183 _ rfl
theorem ah:Tryz.prog.follows .mixedOrders=true:=by kernel_rfl
set_option maxRecDepth 100000
theorem at9:ap prog 9 Tryz.f9:=⟨Tryz.func9,rfl,rfl,rfl,by kernel_rfl⟩
theorem OJ:ap prog 11 Tryz.f11:=⟨Tryz.func11,rfl,rfl,rfl,by kernel_rfl⟩
theorem Mn:ap prog 12 Tryz.f12:=⟨Tryz.func12,rfl,rfl,rfl,by kernel_rfl⟩
theorem OI:ap prog 13 Tryz.f13:=⟨Tryz.func13,rfl,rfl,rfl,by kernel_rfl⟩
theorem OH:ap prog 14 Tryz.f14:=⟨Tryz.func14,rfl,rfl,rfl,by kernel_rfl⟩
theorem LO:ap prog 15 Tryz.f15:=⟨Tryz.func15,rfl,rfl,rfl,by kernel_rfl⟩
theorem Lz:ap prog 16 Tryz.f16:=⟨Tryz.func16,rfl,rfl,rfl,by kernel_rfl⟩
theorem Lt:ap prog 17 Tryz.f17:=⟨Tryz.func17,rfl,rfl,rfl,by kernel_rfl⟩
theorem OG:ap prog 18 Tryz.f18:=⟨Tryz.func18,rfl,rfl,rfl,by kernel_rfl⟩
theorem Lh:ap prog 19 Tryz.f19:=⟨Tryz.func19,rfl,rfl,rfl,by kernel_rfl⟩
theorem OF:ap prog 20 Tryz.f20:=⟨Tryz.func20,rfl,rfl,rfl,by kernel_rfl⟩
theorem BD:ap prog 21 Tryz.f21:=⟨Tryz.func21,rfl,rfl,rfl,by kernel_rfl⟩
theorem rq:ap prog 22 Tryz.f22:=⟨Tryz.func22,rfl,rfl,rfl,by kernel_rfl⟩
theorem OE:ap prog 23 Tryz.f23:=⟨Tryz.func23,rfl,rfl,rfl,by kernel_rfl⟩
theorem OD:ap prog 24 Tryz.f24:=⟨Tryz.func24,rfl,rfl,rfl,by kernel_rfl⟩
theorem EG:ap prog 25 Tryz.f25:=⟨Tryz.func25,rfl,rfl,rfl,by kernel_rfl⟩
theorem Ke:ap prog 26 Tryz.f26:=⟨Tryz.func26,rfl,rfl,rfl,by kernel_rfl⟩
theorem J6:ap prog 27 Tryz.f27:=⟨Tryz.func27,rfl,rfl,rfl,by kernel_rfl⟩
theorem OC:ap prog 30 Tryz.f30:=⟨Tryz.func30,rfl,rfl,rfl,by kernel_rfl⟩
theorem OB:ap prog 31 Tryz.f31:=⟨Tryz.func31,rfl,rfl,rfl,by kernel_rfl⟩
theorem OA:ap prog 32 Tryz.f32:=⟨Tryz.func32,rfl,rfl,rfl,by kernel_rfl⟩
theorem Oz:ap prog 33 Tryz.f33:=⟨Tryz.func33,rfl,rfl,rfl,by kernel_rfl⟩
theorem Oy:ap prog 34 Tryz.f34:=⟨Tryz.func34,rfl,rfl,rfl,by kernel_rfl⟩
theorem Ox:ap prog 35 Tryz.f35:=⟨Tryz.func35,rfl,rfl,rfl,by kernel_rfl⟩
theorem Ow:ap prog 36 Tryz.f36:=⟨Tryz.func36,rfl,rfl,rfl,by kernel_rfl⟩
theorem Ov:ap prog 37 Tryz.f37:=⟨Tryz.func37,rfl,rfl,rfl,by kernel_rfl⟩
theorem Ou:ap prog 38 Tryz.f38:=⟨Tryz.func38,rfl,rfl,rfl,by kernel_rfl⟩
theorem Ot:ap prog 39 Tryz.f39:=⟨Tryz.func39,rfl,rfl,rfl,by kernel_rfl⟩
theorem Or:ap prog 40 Tryz.f40:=⟨Tryz.func40,rfl,rfl,rfl,by kernel_rfl⟩
theorem Oq:ap prog 41 Tryz.f41:=⟨Tryz.func41,rfl,rfl,rfl,by kernel_rfl⟩
theorem Oo:ap prog 42 Tryz.f42:=⟨Tryz.func42,rfl,rfl,rfl,by kernel_rfl⟩
theorem On:ap prog 43 Tryz.f43:=⟨Tryz.func43,rfl,rfl,rfl,by kernel_rfl⟩
theorem Om:ap prog 44 Tryz.f44:=⟨Tryz.func44,rfl,rfl,rfl,by kernel_rfl⟩
theorem Ol:ap prog 45 Tryz.f45:=⟨Tryz.func45,rfl,rfl,rfl,by kernel_rfl⟩
theorem Ok:ap prog 46 Tryz.f46:=⟨Tryz.func46,rfl,rfl,rfl,by kernel_rfl⟩
theorem Oj:ap prog 47 Tryz.f47:=⟨Tryz.func47,rfl,rfl,rfl,by kernel_rfl⟩
theorem J4:ap prog 48 Tryz.f48:=⟨Tryz.func48,rfl,rfl,rfl,by kernel_rfl⟩
theorem Oi:ap prog 49 Tryz.f49:=⟨Tryz.func49,rfl,rfl,rfl,by kernel_rfl⟩
theorem Oh:ap prog 50 Tryz.f50:=⟨Tryz.func50,rfl,rfl,rfl,by kernel_rfl⟩
theorem Og:ap prog 51 Tryz.f51:=⟨Tryz.func51,rfl,rfl,rfl,by kernel_rfl⟩
theorem Of:ap prog 52 Tryz.f52:=⟨Tryz.func52,rfl,rfl,rfl,by kernel_rfl⟩
theorem Oe:ap prog 53 Tryz.f53:=⟨Tryz.func53,rfl,rfl,rfl,by kernel_rfl⟩
theorem Od:ap prog 54 Tryz.f54:=⟨Tryz.func54,rfl,rfl,rfl,by kernel_rfl⟩
theorem Oc:ap prog 55 Tryz.f55:=⟨Tryz.func55,rfl,rfl,rfl,by kernel_rfl⟩
theorem Ob:ap prog 56 Tryz.f56:=⟨Tryz.func56,rfl,rfl,rfl,by kernel_rfl⟩
theorem Oa:ap prog 57 Tryz.f57:=⟨Tryz.func57,rfl,rfl,rfl,by kernel_rfl⟩
theorem N9:ap prog 58 Tryz.f58:=⟨Tryz.func58,rfl,rfl,rfl,by kernel_rfl⟩
theorem N8:ap prog 59 Tryz.f59:=⟨Tryz.func59,rfl,rfl,rfl,by kernel_rfl⟩
theorem N7:ap prog 60 Tryz.f60:=⟨Tryz.func60,rfl,rfl,rfl,by kernel_rfl⟩
theorem N6:ap prog 61 Tryz.f61:=⟨Tryz.func61,rfl,rfl,rfl,by kernel_rfl⟩
theorem J3:ap prog 63 Tryz.f63:=⟨Tryz.func63,rfl,rfl,rfl,by kernel_rfl⟩
theorem J2:ap prog 64 Tryz.f64:=⟨Tryz.func64,rfl,rfl,rfl,by kernel_rfl⟩
theorem N5:ap prog 65 Tryz.f65:=⟨Tryz.func65,rfl,rfl,rfl,by kernel_rfl⟩
theorem N4:ap prog 66 Tryz.f66:=⟨Tryz.func66,rfl,rfl,rfl,by kernel_rfl⟩
theorem N3:ap prog 67 Tryz.f67:=⟨Tryz.func67,rfl,rfl,rfl,by kernel_rfl⟩
theorem N2:ap prog 68 Tryz.f68:=⟨Tryz.func68,rfl,rfl,rfl,by kernel_rfl⟩
theorem N0:ap prog 69 Tryz.f69:=⟨Tryz.func69,rfl,rfl,rfl,by kernel_rfl⟩
theorem NZ:ap prog 70 Tryz.f70:=⟨Tryz.func70,rfl,rfl,rfl,by kernel_rfl⟩
theorem NY:ap prog 71 Tryz.f71:=⟨Tryz.func71,rfl,rfl,rfl,by kernel_rfl⟩
theorem NX:ap prog 72 Tryz.f72:=⟨Tryz.func72,rfl,rfl,rfl,by kernel_rfl⟩
theorem NW:ap prog 73 Tryz.f73:=⟨Tryz.func73,rfl,rfl,rfl,by kernel_rfl⟩
theorem NV:ap prog 74 Tryz.f74:=⟨Tryz.func74,rfl,rfl,rfl,by kernel_rfl⟩
theorem J1:ap prog 75 Tryz.f75:=⟨Tryz.func75,rfl,rfl,rfl,by kernel_rfl⟩
theorem NU:ap prog 76 Tryz.f76:=⟨Tryz.func76,rfl,rfl,rfl,by kernel_rfl⟩
theorem J0:ap prog 77 Tryz.f77:=⟨Tryz.func77,rfl,rfl,rfl,by kernel_rfl⟩
theorem NT:ap prog 78 Tryz.f78:=⟨Tryz.func78,rfl,rfl,rfl,by kernel_rfl⟩
theorem NS:ap prog 79 Tryz.f79:=⟨Tryz.func79,rfl,rfl,rfl,by kernel_rfl⟩
theorem NR:ap prog 80 Tryz.f80:=⟨Tryz.func80,rfl,rfl,rfl,by kernel_rfl⟩
theorem NQ:ap prog 81 Tryz.f81:=⟨Tryz.func81,rfl,rfl,rfl,by kernel_rfl⟩
theorem NP:ap prog 82 Tryz.f82:=⟨Tryz.func82,rfl,rfl,rfl,by kernel_rfl⟩
theorem NO:ap prog 83 Tryz.f83:=⟨Tryz.func83,rfl,rfl,rfl,by kernel_rfl⟩
theorem NN:ap prog 84 Tryz.f84:=⟨Tryz.func84,rfl,rfl,rfl,by kernel_rfl⟩
theorem NM:ap prog 85 Tryz.f85:=⟨Tryz.func85,rfl,rfl,rfl,by kernel_rfl⟩
theorem NL:ap prog 86 Tryz.f86:=⟨Tryz.func86,rfl,rfl,rfl,by kernel_rfl⟩
theorem NK:ap prog 87 Tryz.f87:=⟨Tryz.func87,rfl,rfl,rfl,by kernel_rfl⟩
theorem NJ:ap prog 88 Tryz.f88:=⟨Tryz.func88,rfl,rfl,rfl,by kernel_rfl⟩
theorem JZ:ap prog 89 Tryz.f89:=⟨Tryz.func89,rfl,rfl,rfl,by kernel_rfl⟩
theorem NI:ap prog 90 Tryz.f90:=⟨Tryz.func90,rfl,rfl,rfl,by kernel_rfl⟩
theorem NH:ap prog 91 Tryz.f91:=⟨Tryz.func91,rfl,rfl,rfl,by kernel_rfl⟩
theorem NG:ap prog 92 Tryz.f92:=⟨Tryz.func92,rfl,rfl,rfl,by kernel_rfl⟩
theorem NF:ap prog 93 Tryz.f93:=⟨Tryz.func93,rfl,rfl,rfl,by kernel_rfl⟩
theorem NE:ap prog 94 Tryz.f94:=⟨Tryz.func94,rfl,rfl,rfl,by kernel_rfl⟩
theorem ND:ap prog 95 Tryz.f95:=⟨Tryz.func95,rfl,rfl,rfl,by kernel_rfl⟩
theorem NC:ap prog 96 Tryz.f96:=⟨Tryz.func96,rfl,rfl,rfl,by kernel_rfl⟩
theorem NB:ap prog 97 Tryz.f97:=⟨Tryz.func97,rfl,rfl,rfl,by kernel_rfl⟩
theorem NA:ap prog 98 Tryz.f98:=⟨Tryz.func98,rfl,rfl,rfl,by kernel_rfl⟩
theorem Nz:ap prog 99 Tryz.f99:=⟨Tryz.func99,rfl,rfl,rfl,by kernel_rfl⟩
theorem MC:ap prog 100 Tryz.f100:=⟨Tryz.func100,rfl,rfl,rfl,by kernel_rfl⟩
theorem MB:ap prog 101 Tryz.f101:=⟨Tryz.func101,rfl,rfl,rfl,by kernel_rfl⟩
theorem MA:ap prog 102 Tryz.f102:=⟨Tryz.func102,rfl,rfl,rfl,by kernel_rfl⟩
theorem Mz:ap prog 103 Tryz.f103:=⟨Tryz.func103,rfl,rfl,rfl,by kernel_rfl⟩
theorem My:ap prog 104 Tryz.f104:=⟨Tryz.func104,rfl,rfl,rfl,by kernel_rfl⟩
theorem Mx:ap prog 105 Tryz.f105:=⟨Tryz.func105,rfl,rfl,rfl,by kernel_rfl⟩
theorem G9:ap prog 106 Tryz.f106:=⟨Tryz.func106,rfl,rfl,rfl,by kernel_rfl⟩
theorem G8:ap prog 107 Tryz.f107:=⟨Tryz.func107,rfl,rfl,rfl,by kernel_rfl⟩
theorem G7:ap prog 108 Tryz.f108:=⟨Tryz.func108,rfl,rfl,rfl,by kernel_rfl⟩
theorem Mw:ap prog 109 Tryz.f109:=⟨Tryz.func109,rfl,rfl,rfl,by kernel_rfl⟩
theorem Mv:ap prog 110 Tryz.f110:=⟨Tryz.func110,rfl,rfl,rfl,by kernel_rfl⟩
theorem Mu:ap prog 111 Tryz.f111:=⟨Tryz.func111,rfl,rfl,rfl,by kernel_rfl⟩
theorem Mt:ap prog 112 Tryz.f112:=⟨Tryz.func112,rfl,rfl,rfl,by kernel_rfl⟩
theorem Ms:ap prog 113 Tryz.f113:=⟨Tryz.func113,rfl,rfl,rfl,by kernel_rfl⟩
theorem Mr:ap prog 114 Tryz.f114:=⟨Tryz.func114,rfl,rfl,rfl,by kernel_rfl⟩
theorem Mq:ap prog 115 Tryz.f115:=⟨Tryz.func115,rfl,rfl,rfl,by kernel_rfl⟩
theorem Mp:ap prog 116 Tryz.f116:=⟨Tryz.func116,rfl,rfl,rfl,by kernel_rfl⟩
theorem Mo:ap prog 118 Tryz.f118:=⟨Tryz.func118,rfl,rfl,rfl,by kernel_rfl⟩
theorem EI:ap prog 119 Tryz.f119:=⟨Tryz.func119,rfl,rfl,rfl,by kernel_rfl⟩
theorem Mm:ap prog 120 Tryz.f120:=⟨Tryz.func120,rfl,rfl,rfl,by kernel_rfl⟩
theorem Ml:ap prog 121 Tryz.f121:=⟨Tryz.func121,rfl,rfl,rfl,by kernel_rfl⟩
theorem Mk:ap prog 122 Tryz.f122:=⟨Tryz.func122,rfl,rfl,rfl,by kernel_rfl⟩
theorem Mj:ap prog 123 Tryz.f123:=⟨Tryz.func123,rfl,rfl,rfl,by kernel_rfl⟩
theorem Mi:ap prog 124 Tryz.f124:=⟨Tryz.func124,rfl,rfl,rfl,by kernel_rfl⟩
theorem Mh:ap prog 125 Tryz.f125:=⟨Tryz.func125,rfl,rfl,rfl,by kernel_rfl⟩
theorem Mg:ap prog 126 Tryz.f126:=⟨Tryz.func126,rfl,rfl,rfl,by kernel_rfl⟩
theorem Mf:ap prog 127 Tryz.f127:=⟨Tryz.func127,rfl,rfl,rfl,by kernel_rfl⟩
theorem EH:ap prog 128 Tryz.f128:=⟨Tryz.func128,rfl,rfl,rfl,by kernel_rfl⟩
theorem Me:ap prog 129 Tryz.f129:=⟨Tryz.func129,rfl,rfl,rfl,by kernel_rfl⟩
theorem Md:ap prog 130 Tryz.f130:=⟨Tryz.func130,rfl,rfl,rfl,by kernel_rfl⟩
theorem Mc:ap prog 133 Tryz.f133:=⟨Tryz.func133,rfl,rfl,rfl,by kernel_rfl⟩
theorem Mb:ap prog 134 Tryz.f134:=⟨Tryz.func134,rfl,rfl,rfl,by kernel_rfl⟩
theorem Ma:ap prog 135 Tryz.f135:=⟨Tryz.func135,rfl,rfl,rfl,by kernel_rfl⟩
theorem L9:ap prog 136 Tryz.f136:=⟨Tryz.func136,rfl,rfl,rfl,by kernel_rfl⟩
theorem L8:ap prog 137 Tryz.f137:=⟨Tryz.func137,rfl,rfl,rfl,by kernel_rfl⟩
theorem L7:ap prog 138 Tryz.f138:=⟨Tryz.func138,rfl,rfl,rfl,by kernel_rfl⟩
theorem L6:ap prog 139 Tryz.f139:=⟨Tryz.func139,rfl,rfl,rfl,by kernel_rfl⟩
theorem L5:ap prog 140 Tryz.f140:=⟨Tryz.func140,rfl,rfl,rfl,by kernel_rfl⟩
theorem L4:ap prog 141 Tryz.f141:=⟨Tryz.func141,rfl,rfl,rfl,by kernel_rfl⟩
theorem LY:ap prog 142 Tryz.f142:=⟨Tryz.func142,rfl,rfl,rfl,by kernel_rfl⟩
theorem LW:ap prog 143 Tryz.f143:=⟨Tryz.func143,rfl,rfl,rfl,by kernel_rfl⟩
theorem LV:ap prog 144 Tryz.f144:=⟨Tryz.func144,rfl,rfl,rfl,by kernel_rfl⟩
theorem LU:ap prog 145 Tryz.f145:=⟨Tryz.func145,rfl,rfl,rfl,by kernel_rfl⟩
theorem LT:ap prog 146 Tryz.f146:=⟨Tryz.func146,rfl,rfl,rfl,by kernel_rfl⟩
theorem LS:ap prog 147 Tryz.f147:=⟨Tryz.func147,rfl,rfl,rfl,by kernel_rfl⟩
theorem LR:ap prog 148 Tryz.f148:=⟨Tryz.func148,rfl,rfl,rfl,by kernel_rfl⟩
theorem LP:ap prog 149 Tryz.f149:=⟨Tryz.func149,rfl,rfl,rfl,by kernel_rfl⟩
theorem LN:ap prog 150 Tryz.f150:=⟨Tryz.func150,rfl,rfl,rfl,by kernel_rfl⟩
theorem LL:ap prog 151 Tryz.f151:=⟨Tryz.func151,rfl,rfl,rfl,by kernel_rfl⟩
theorem LK:ap prog 152 Tryz.f152:=⟨Tryz.func152,rfl,rfl,rfl,by kernel_rfl⟩
theorem LJ:ap prog 153 Tryz.f153:=⟨Tryz.func153,rfl,rfl,rfl,by kernel_rfl⟩
theorem LI:ap prog 154 Tryz.f154:=⟨Tryz.func154,rfl,rfl,rfl,by kernel_rfl⟩
theorem LH:ap prog 155 Tryz.f155:=⟨Tryz.func155,rfl,rfl,rfl,by kernel_rfl⟩
theorem LG:ap prog 156 Tryz.f156:=⟨Tryz.func156,rfl,rfl,rfl,by kernel_rfl⟩
theorem LF:ap prog 157 Tryz.f157:=⟨Tryz.func157,rfl,rfl,rfl,by kernel_rfl⟩
theorem LC:ap prog 158 Tryz.f158:=⟨Tryz.func158,rfl,rfl,rfl,by kernel_rfl⟩
theorem LB:ap prog 159 Tryz.f159:=⟨Tryz.func159,rfl,rfl,rfl,by kernel_rfl⟩
theorem Ly:ap prog 160 Tryz.f160:=⟨Tryz.func160,rfl,rfl,rfl,by kernel_rfl⟩
theorem Lx:ap prog 161 Tryz.f161:=⟨Tryz.func161,rfl,rfl,rfl,by kernel_rfl⟩
theorem Lw:ap prog 162 Tryz.f162:=⟨Tryz.func162,rfl,rfl,rfl,by kernel_rfl⟩
theorem Lv:ap prog 165 Tryz.f165:=⟨Tryz.func165,rfl,rfl,rfl,by kernel_rfl⟩
theorem Lu:ap prog 166 Tryz.f166:=⟨Tryz.func166,rfl,rfl,rfl,by kernel_rfl⟩
theorem Ls:ap prog 178 Tryz.f178:=⟨Tryz.func178,rfl,rfl,rfl,by kernel_rfl⟩
theorem Lr:ap prog 180 Tryz.f180:=⟨Tryz.func180,rfl,rfl,rfl,by kernel_rfl⟩
theorem Lq:ap prog 181 Tryz.f181:=⟨Tryz.func181,rfl,rfl,rfl,by kernel_rfl⟩
theorem Lp:ap prog 182 Tryz.f182:=⟨Tryz.func182,rfl,rfl,rfl,by kernel_rfl⟩
theorem Lo:ap prog 183 Tryz.f183:=⟨Tryz.func183,rfl,rfl,rfl,by kernel_rfl⟩
theorem Ln:ap prog 184 Tryz.f184:=⟨Tryz.func184,rfl,rfl,rfl,by kernel_rfl⟩
theorem Lm:ap prog 185 Tryz.f185:=⟨Tryz.func185,rfl,rfl,rfl,by kernel_rfl⟩
theorem Ll:ap prog 186 Tryz.f186:=⟨Tryz.func186,rfl,rfl,rfl,by kernel_rfl⟩
theorem Lk:ap prog 187 Tryz.f187:=⟨Tryz.func187,rfl,rfl,rfl,by kernel_rfl⟩
theorem Lj:ap prog 188 Tryz.f188:=⟨Tryz.func188,rfl,rfl,rfl,by kernel_rfl⟩
theorem Li:ap prog 189 Tryz.f189:=⟨Tryz.func189,rfl,rfl,rfl,by kernel_rfl⟩
theorem Lg:ap prog 190 Tryz.f190:=⟨Tryz.func190,rfl,rfl,rfl,by kernel_rfl⟩
theorem Lf:ap prog 191 Tryz.f191:=⟨Tryz.func191,rfl,rfl,rfl,by kernel_rfl⟩
theorem Le:ap prog 192 Tryz.f192:=⟨Tryz.func192,rfl,rfl,rfl,by kernel_rfl⟩
theorem Ld:ap prog 193 Tryz.f193:=⟨Tryz.func193,rfl,rfl,rfl,by kernel_rfl⟩
theorem Lc:ap prog 194 Tryz.f194:=⟨Tryz.func194,rfl,rfl,rfl,by kernel_rfl⟩
theorem Lb:ap prog 195 Tryz.f195:=⟨Tryz.func195,rfl,rfl,rfl,by kernel_rfl⟩
theorem La:ap prog 196 Tryz.f196:=⟨Tryz.func196,rfl,rfl,rfl,by kernel_rfl⟩
theorem K9:ap prog 197 Tryz.f197:=⟨Tryz.func197,rfl,rfl,rfl,by kernel_rfl⟩
theorem K8:ap prog 198 Tryz.f198:=⟨Tryz.func198,rfl,rfl,rfl,by kernel_rfl⟩
theorem K7:ap prog 199 Tryz.f199:=⟨Tryz.func199,rfl,rfl,rfl,by kernel_rfl⟩
theorem K6:ap prog 200 Tryz.f200:=⟨Tryz.func200,rfl,rfl,rfl,by kernel_rfl⟩
theorem K5:ap prog 201 Tryz.f201:=⟨Tryz.func201,rfl,rfl,rfl,by kernel_rfl⟩
theorem K4:ap prog 202 Tryz.f202:=⟨Tryz.func202,rfl,rfl,rfl,by kernel_rfl⟩
theorem K3:ap prog 203 Tryz.f203:=⟨Tryz.func203,rfl,rfl,rfl,by kernel_rfl⟩
theorem K0:ap prog 204 Tryz.f204:=⟨Tryz.func204,rfl,rfl,rfl,by kernel_rfl⟩
theorem KZ:ap prog 205 Tryz.f205:=⟨Tryz.func205,rfl,rfl,rfl,by kernel_rfl⟩
theorem KY:ap prog 206 Tryz.f206:=⟨Tryz.func206,rfl,rfl,rfl,by kernel_rfl⟩
theorem KX:ap prog 207 Tryz.f207:=⟨Tryz.func207,rfl,rfl,rfl,by kernel_rfl⟩
theorem KW:ap prog 208 Tryz.f208:=⟨Tryz.func208,rfl,rfl,rfl,by kernel_rfl⟩
theorem KV:ap prog 209 Tryz.f209:=⟨Tryz.func209,rfl,rfl,rfl,by kernel_rfl⟩
theorem KU:ap prog 210 Tryz.f210:=⟨Tryz.func210,rfl,rfl,rfl,by kernel_rfl⟩
theorem KT:ap prog 211 Tryz.f211:=⟨Tryz.func211,rfl,rfl,rfl,by kernel_rfl⟩
theorem KS:ap prog 219 Tryz.f219:=⟨Tryz.func219,rfl,rfl,rfl,by kernel_rfl⟩
theorem KR:ap prog 220 Tryz.f220:=⟨Tryz.func220,rfl,rfl,rfl,by kernel_rfl⟩
theorem KQ:ap prog 221 Tryz.f221:=⟨Tryz.func221,rfl,rfl,rfl,by kernel_rfl⟩
theorem KP:ap prog 222 Tryz.f222:=⟨Tryz.func222,rfl,rfl,rfl,by kernel_rfl⟩
theorem KO:ap prog 223 Tryz.f223:=⟨Tryz.func223,rfl,rfl,rfl,by kernel_rfl⟩
theorem KN:ap prog 224 Tryz.f224:=⟨Tryz.func224,rfl,rfl,rfl,by kernel_rfl⟩
theorem KM:ap prog 225 Tryz.f225:=⟨Tryz.func225,rfl,rfl,rfl,by kernel_rfl⟩
theorem KL:ap prog 226 Tryz.f226:=⟨Tryz.func226,rfl,rfl,rfl,by kernel_rfl⟩
theorem KJ:ap prog 227 Tryz.f227:=⟨Tryz.func227,rfl,rfl,rfl,by kernel_rfl⟩
theorem KI:ap prog 228 Tryz.f228:=⟨Tryz.func228,rfl,rfl,rfl,by kernel_rfl⟩
theorem KH:ap prog 229 Tryz.f229:=⟨Tryz.func229,rfl,rfl,rfl,by kernel_rfl⟩
theorem KG:ap prog 230 Tryz.f230:=⟨Tryz.func230,rfl,rfl,rfl,by kernel_rfl⟩
theorem KF:ap prog 231 Tryz.f231:=⟨Tryz.func231,rfl,rfl,rfl,by kernel_rfl⟩
theorem KE:ap prog 232 Tryz.f232:=⟨Tryz.func232,rfl,rfl,rfl,by kernel_rfl⟩
theorem KD:ap prog 233 Tryz.f233:=⟨Tryz.func233,rfl,rfl,rfl,by kernel_rfl⟩
theorem KC:ap prog 234 Tryz.f234:=⟨Tryz.func234,rfl,rfl,rfl,by kernel_rfl⟩
theorem KB:ap prog 235 Tryz.f235:=⟨Tryz.func235,rfl,rfl,rfl,by kernel_rfl⟩
theorem KA:ap prog 236 Tryz.f236:=⟨Tryz.func236,rfl,rfl,rfl,by kernel_rfl⟩
theorem Kz:ap prog 237 Tryz.f237:=⟨Tryz.func237,rfl,rfl,rfl,by kernel_rfl⟩
theorem Kx:ap prog 238 Tryz.f238:=⟨Tryz.func238,rfl,rfl,rfl,by kernel_rfl⟩
theorem Kw:ap prog 239 Tryz.f239:=⟨Tryz.func239,rfl,rfl,rfl,by kernel_rfl⟩
theorem Kv:ap prog 240 Tryz.f240:=⟨Tryz.func240,rfl,rfl,rfl,by kernel_rfl⟩
theorem Ku:ap prog 241 Tryz.f241:=⟨Tryz.func241,rfl,rfl,rfl,by kernel_rfl⟩
theorem Kt:ap prog 242 Tryz.f242:=⟨Tryz.func242,rfl,rfl,rfl,by kernel_rfl⟩
theorem Ks:ap prog 243 Tryz.f243:=⟨Tryz.func243,rfl,rfl,rfl,by kernel_rfl⟩
theorem Kr:ap prog 244 Tryz.f244:=⟨Tryz.func244,rfl,rfl,rfl,by kernel_rfl⟩
theorem Kq:ap prog 245 Tryz.f245:=⟨Tryz.func245,rfl,rfl,rfl,by kernel_rfl⟩
theorem Kp:ap prog 246 Tryz.f246:=⟨Tryz.func246,rfl,rfl,rfl,by kernel_rfl⟩
theorem Ko:ap prog 247 Tryz.f247:=⟨Tryz.func247,rfl,rfl,rfl,by kernel_rfl⟩
theorem Kn:ap prog 248 Tryz.f248:=⟨Tryz.func248,rfl,rfl,rfl,by kernel_rfl⟩
theorem Km:ap prog 252 Tryz.f252:=⟨Tryz.func252,rfl,rfl,rfl,by kernel_rfl⟩
theorem Kl:ap prog 253 Tryz.f253:=⟨Tryz.func253,rfl,rfl,rfl,by kernel_rfl⟩
theorem Kk:ap prog 254 Tryz.f254:=⟨Tryz.func254,rfl,rfl,rfl,by kernel_rfl⟩
theorem Kj:ap prog 255 Tryz.f255:=⟨Tryz.func255,rfl,rfl,rfl,by kernel_rfl⟩
theorem Ki:ap prog 256 Tryz.f256:=⟨Tryz.func256,rfl,rfl,rfl,by kernel_rfl⟩
theorem Kh:ap prog 257 Tryz.f257:=⟨Tryz.func257,rfl,rfl,rfl,by kernel_rfl⟩
theorem Kg:ap prog 258 Tryz.f258:=⟨Tryz.func258,rfl,rfl,rfl,by kernel_rfl⟩
theorem Kf:ap prog 259 Tryz.f259:=⟨Tryz.func259,rfl,rfl,rfl,by kernel_rfl⟩
theorem Kd:ap prog 263 Tryz.f263:=⟨Tryz.func263,rfl,rfl,rfl,by kernel_rfl⟩
theorem Kc:ap prog 264 Tryz.f264:=⟨Tryz.func264,rfl,rfl,rfl,by kernel_rfl⟩
theorem Kb:ap prog 265 Tryz.f265:=⟨Tryz.func265,rfl,rfl,rfl,by kernel_rfl⟩
theorem Ka:ap prog 266 Tryz.f266:=⟨Tryz.func266,rfl,rfl,rfl,by kernel_rfl⟩
theorem J9:ap prog 267 Tryz.f267:=⟨Tryz.func267,rfl,rfl,rfl,by kernel_rfl⟩
theorem J8:ap prog 268 Tryz.f268:=⟨Tryz.func268,rfl,rfl,rfl,by kernel_rfl⟩
theorem J7:ap prog 269 Tryz.f269:=⟨Tryz.func269,rfl,rfl,rfl,by kernel_rfl⟩
theorem J5:ap prog 278 Tryz.f278:=⟨Tryz.func278,rfl,rfl,rfl,by kernel_rfl⟩
end Go.Proofs.YtekfkdddadcalaaGreatDoor
