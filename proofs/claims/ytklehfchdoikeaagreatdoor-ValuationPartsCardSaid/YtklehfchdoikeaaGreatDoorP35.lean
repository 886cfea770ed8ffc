/- the chapter s examples of portfolios. PositionExact, at ever; no condition. -/
import Derived.Test.YtklehfchdoikeaaGreatDoorP31
import Derived.Test.YtklehfchdoikeaaGreatDoorP14
set_option maxRecDepth 100000
set_option maxHeartbeats 4000000
namespace Go.Proofs.YtklehfchdoikeaaGreatDoor
open Go Go.RowKit Go.SX
def jJ:List Bs:=[[85,83,68],[69,85,82],[71,66,80]]
def bK:List Bs:=[[65,67,77,69],[66,79,78,68],[71,79,76,68],[88,49]]
def pfM (xh xc xp:Value) (g:Led):aA:=[(9506,Blk.own xh 59 2 g.h.length (cat dI g.h)),(9507,Blk.own xc 88 3 g.c.length (cat cj g.c)),(9508,Blk.own xp 88 3 g.p.length (cat cj g.p))]
end Go.Proofs.YtklehfchdoikeaaGreatDoor
