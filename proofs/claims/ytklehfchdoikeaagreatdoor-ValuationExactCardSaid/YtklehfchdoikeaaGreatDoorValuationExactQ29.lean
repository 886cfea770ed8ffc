/- what came in: quotes and policies; no condition. -/
import Derived.Test.YtklehfchdoikeaaGreatDoorValuationExactQ28
import Derived.Test.YtklehfchdoikeaaGreatDoorValuationExactQ12
set_option maxRecDepth 100000
set_option maxHeartbeats 4000000
namespace Go.Proofs.YtklehfchdoikeaaGreatDoor
open Go Go.RowKit Go.SX
open ChangeShapes WideShapes
instance:Inhabited QC:=⟨noQ⟩
theorem DM {H:Type} {enc:TypeId×Value->H} {w:World} {base:Nat} {sp:Nat->Bool} {held:Bool} {fuel:Nat} {cs:List Value} {x:DataW H×List MemPlace} (h:DataW.trod enc Tryz.prog w base sp held fuel 63 cs=some x):∃ a:QC,a.In/\cs=a.A.toList:=by
 obtain ⟨xs,n,-,-,hl,hn,hf⟩:=DataW.trod_struct Tryz.underlying63 h
 have hn:xs.length=7:=hn
 match xs,hn with
 | [y0,y1,y2,y3,y4,y5,y6],_ =>
 have ci:Tryz.prog.cellsOf 3=1:=by kernel_rfl
 have cs':Tryz.prog.cellsOf 9=1:=by kernel_rfl
 have cb:Tryz.prog.cellsOf 4=1:=by kernel_rfl
 have cr:Tryz.prog.cellsOf 33=66:=by kernel_rfl
 have ca:Tryz.prog.cellsOf 63=72:=by kernel_rfl
 have f0:DataW.trod enc Tryz.prog w base sp held n 9 ((cs.drop 0).take (Tryz.prog.cellsOf 9))=some y0:=hf 0 _ rfl
 have f1:DataW.trod enc Tryz.prog w base sp held n 9 ((cs.drop 1).take (Tryz.prog.cellsOf 9))=some y1:=hf 1 _ rfl
 have f2:DataW.trod enc Tryz.prog w base sp held n 9 ((cs.drop 2).take (Tryz.prog.cellsOf 9))=some y2:=hf 2 _ rfl
 have f3:DataW.trod enc Tryz.prog w base sp held n 3 ((cs.drop 3).take (Tryz.prog.cellsOf 3))=some y3:=hf 3 _ rfl
 have f4:DataW.trod enc Tryz.prog w base sp held n 33 ((cs.drop 4).take (Tryz.prog.cellsOf 33))=some y4:=hf 4 _ rfl
 have f5:DataW.trod enc Tryz.prog w base sp held n 3 ((cs.drop 70).take (Tryz.prog.cellsOf 3))=some y5:=hf 5 _ rfl
 have f6:DataW.trod enc Tryz.prog w base sp held n 4 ((cs.drop 71).take (Tryz.prog.cellsOf 4))=some y6:=hf 6 _ rfl
 rw [ci] at f3 f5
 rw [cs'] at f0 f1 f2
 rw [cb] at f6
 rw [cr] at f4
 obtain ⟨src,e0,k0⟩:=iu f0
 obtain ⟨ins,e1,k1⟩:=iu f1
 obtain ⟨cur,e2,k2⟩:=iu f2
 obtain ⟨day,e3,k3⟩:=iw f3
 obtain ⟨price,k4,e4⟩:=ke f4
 obtain ⟨known,e5,-⟩:=iw f5
 obtain ⟨void,e6,-⟩:=DataW.trod_bool Tryz.underlying4 f6
 refine ⟨⟨src,ins,cur,day,price,known,void⟩,⟨k4,k0,k1,k2,k3⟩,?_⟩
 have s0:=aM e0
 rw [List.drop_zero] at s0
 rw [s0,aM e1,aM e2,aM e3,aM e4,aM e5,aM e6,List.drop_eq_nil_of_le (by omega),List.append_nil,QC.A,Array.toList_append,Array.toList_append]
 rfl
theorem Bo {H:Type} {enc:TypeId×Value->H} {W:World} {fuel:Nat} {c:Value} {y:DataW H×List MemPlace} (h:DataW.trod enc Tryz.prog W 0 (fun _=>true) true fuel 26 [c]=some y) :
    ∃ xs:List QC,(∀ a∈xs,a.In)/\Lst { P:=Tryz.prog,n:=0,w0:=W,X:=[],pk:=[] } c 72 xs.length (cat QC.A xs)/\(xs=[]\/∃ el sp,y.1=.slice el sp/\el.length=xs.length) :=
 jl (E:={ P:=Tryz.prog,n:=0,w0:=W,X:=[],pk:=[] }) (In:=QC.In) rfl Tryz.underlying26 (by kernel_rfl) (by decide) QC.size QC.all1 (fun fuel cs x h=>DM h) h
theorem DL {H:Type} {enc:TypeId×Value->H} {W:World} {fuel:Nat} {c:Value} {y:DataW H×List MemPlace} (h:DataW.trod enc Tryz.prog W 0 (fun _=>true) true fuel 27 [c]=some y) :
    ∃ xs:List (List UInt8),(∀ a∈xs,a.length<=9223372036854775807)/\Lst { P:=Tryz.prog,n:=0,w0:=W,X:=[],pk:=[] } c 1 xs.length (cat cP xs)/\(xs=[]\/∃ el sp,y.1=.slice el sp/\el.length=xs.length) :=
 jl (E:={ P:=Tryz.prog,n:=0,w0:=W,X:=[],pk:=[] }) (In:=fun a:List UInt8=>a.length<=9223372036854775807) rfl Tryz.underlying27 (by kernel_rfl) (by decide) cD ft (fun fuel cs x h=>by
  obtain ⟨l,e1,e2⟩:=iu h
  exact ⟨l,e2,e1⟩) h
theorem Bp {H:Type} {enc:TypeId×Value->H} {W:World} {fuel:Nat} {cs:List Value} {x:DataW H×List MemPlace} (h:DataW.trod enc Tryz.prog W 0 (fun _=>true) true fuel 35 cs=some x) :
    ∃ (p:PL) (v:Value),p.In/\cs=(p.A v).toList/\Lst { P:=Tryz.prog,n:=0,w0:=W,X:=[],pk:=[] } v 1 p.srcs.length (cat cP p.srcs)/\(p.srcs=[]\/∃ el sp r1 r2,x.1=.agg [.slice el sp,r1,r2]/\el.length=p.srcs.length):=by
 obtain ⟨xs,n,-,rfl,hl,hn,hf⟩:=DataW.trod_struct Tryz.underlying35 h
 have hn:xs.length=3:=hn
 match xs,hn with
 | [y0,y1,y2],_ =>
 have ci:Tryz.prog.cellsOf 3=1:=by kernel_rfl
 have cs':Tryz.prog.cellsOf 27=1:=by kernel_rfl
 have cr:Tryz.prog.cellsOf 33=66:=by kernel_rfl
 have ca:Tryz.prog.cellsOf 35=68:=by kernel_rfl
 have f0:DataW.trod enc Tryz.prog W 0 (fun _=>true) true n 27 ((cs.drop 0).take (Tryz.prog.cellsOf 27))=some y0:=hf 0 _ rfl
 have f1:DataW.trod enc Tryz.prog W 0 (fun _=>true) true n 33 ((cs.drop 1).take (Tryz.prog.cellsOf 33))=some y1:=hf 1 _ rfl
 have f2:DataW.trod enc Tryz.prog W 0 (fun _=>true) true n 3 ((cs.drop 67).take (Tryz.prog.cellsOf 3))=some y2:=hf 2 _ rfl
 rw [ci] at f2
 rw [cs'] at f0
 rw [cr] at f1
 obtain ⟨c,e0⟩:∃ c,(cs.drop 0).take 1=[c]:=by
  rw [ca] at hl
  match cs,hl with
  | c :: r,_=>exact ⟨c,rfl⟩
 rw [e0] at f0
 obtain ⟨srcs,hi,hL,hb⟩:=DL f0
 obtain ⟨tol,k1,e1⟩:=ke f1
 obtain ⟨stale,e2,k2⟩:=iw f2
 refine ⟨⟨srcs,tol,stale⟩,c,⟨k1,hi,k2⟩,?_,hL,?_⟩
 ·have s0:=aM e0
  rw [List.drop_zero] at s0
  rw [s0,aM e1,aM e2,List.drop_eq_nil_of_le (by omega),List.append_nil,PL.A,Array.toList_append,Array.toList_append]
 ·rcases hb with hb | ⟨el,spr,he,hl2⟩
  ·exact .inl hb
  ·exact .inr ⟨el,spr,y1.1,y2.1,by simp [he],hl2⟩
end Go.Proofs.YtklehfchdoikeaaGreatDoor
