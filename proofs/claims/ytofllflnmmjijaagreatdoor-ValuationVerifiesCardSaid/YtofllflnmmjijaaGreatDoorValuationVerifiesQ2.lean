/- valuations and sheets that came in; no condition. -/
import Derived.Test.YtofllflnmmjijaaGreatDoorP36
import Derived.Test.YtofllflnmmjijaaGreatDoorValuationVerifiesQ1
import Derived.Test.YtofllflnmmjijaaGreatDoorP32
set_option maxRecDepth 100000
set_option maxHeartbeats 4000000
namespace Go.Proofs.YtofllflnmmjijaaGreatDoor
open Go Go.RowKit Go.SX
open ChangeShapes WideShapes
instance:Inhabited Bs:=⟨[]⟩
instance:Inhabited NeQ:=⟨⟨[],[],zeroQ⟩⟩
instance:Inhabited AcQ:=⟨⟨[],zeroQ,0,zeroQ,0,0⟩⟩
instance:Inhabited LnQ:=⟨⟨0,[],0,0,zeroQ,zeroQ,0⟩⟩
theorem rd_line {H:Type} {enc:TypeId×Value→H} {w:World} {base:Nat} {sp:Nat→Bool} {held:Bool} {fuel:Nat} {cs:List Value} {x:DataW H×List MemPlace} (h:DataW.trod enc Tryz.prog w base sp held fuel 60 cs=some x):∃ a:LnQ,a.In∧cs=a.A.toList:=by
 obtain ⟨xs,n,-,-,hl,hn,hf⟩:=DataW.trod_struct Tryz.underlying60 h
 have hn:xs.length=7:=hn
 match xs,hn with
 | [y0,y1,y2,y3,y4,y5,y6],_ =>
 have cli:Tryz.prog.cellsOf 3=1:=by kernel_rfl
 have cls:Tryz.prog.cellsOf 9=1:=by kernel_rfl
 have clr:Tryz.prog.cellsOf 33=66:=by kernel_rfl
 have ca:Tryz.prog.cellsOf 60=137:=by kernel_rfl
 have f0:DataW.trod enc Tryz.prog w base sp held n 3 ((cs.drop 0).take (Tryz.prog.cellsOf 3))=some y0:=hf 0 _ rfl
 have f1:DataW.trod enc Tryz.prog w base sp held n 9 ((cs.drop 1).take (Tryz.prog.cellsOf 9))=some y1:=hf 1 _ rfl
 have f2:DataW.trod enc Tryz.prog w base sp held n 3 ((cs.drop 2).take (Tryz.prog.cellsOf 3))=some y2:=hf 2 _ rfl
 have f3:DataW.trod enc Tryz.prog w base sp held n 3 ((cs.drop 3).take (Tryz.prog.cellsOf 3))=some y3:=hf 3 _ rfl
 have f4:DataW.trod enc Tryz.prog w base sp held n 33 ((cs.drop 4).take (Tryz.prog.cellsOf 33))=some y4:=hf 4 _ rfl
 have f5:DataW.trod enc Tryz.prog w base sp held n 33 ((cs.drop 70).take (Tryz.prog.cellsOf 33))=some y5:=hf 5 _ rfl
 have f6:DataW.trod enc Tryz.prog w base sp held n 3 ((cs.drop 136).take (Tryz.prog.cellsOf 3))=some y6:=hf 6 _ rfl
 rw [cli] at f0 f2 f3 f6
 rw [cls] at f1
 rw [clr] at f4 f5
 obtain ⟨kind,e0,k0⟩:=rd_i64 f0
 obtain ⟨nm,e1,k1⟩:=rd_str f1
 obtain ⟨day,e2,k2⟩:=rd_i64 f2
 obtain ⟨qty,e3,k3⟩:=rd_i64 f3
 obtain ⟨price,k4,e4⟩:=rd_ratio f4
 obtain ⟨rate,k5,e5⟩:=rd_ratio f5
 obtain ⟨amt,e6,k6⟩:=rd_i64 f6
 refine ⟨⟨kind,nm,day,qty,price,rate,amt⟩,⟨k1,k0,k2,k3,k6,k4,k5⟩,?_⟩
 have s0:=split_at e0
 rw [List.drop_zero] at s0
 rw [s0,split_at e1,split_at e2,split_at e3,split_at e4,split_at e5,split_at e6,List.drop_eq_nil_of_le (by omega),List.append_nil]
 simp [LnQ.A]
theorem rd_lines {H:Type} {enc:TypeId×Value→H} {W:World} {fuel:Nat} {c:Value} {y:DataW H×List MemPlace} (h:DataW.trod enc Tryz.prog W 0 (fun _=>true) true fuel 40 [c]=some y) :
    ∃ xs:List LnQ,(∀ a∈xs,a.In)∧Lst { P:=Tryz.prog,n:=0,w0:=W,X:=[],pk:=[] } c 137 xs.length (cat LnQ.A xs)∧(xs=[]∨∃ el sp,y.1=.slice el sp∧el.length=xs.length) :=
 lst_read (E:={ P:=Tryz.prog,n:=0,w0:=W,X:=[],pk:=[] }) (In:=LnQ.In) rfl Tryz.underlying40 (by kernel_rfl) (by decide) LnQ.size LnQ.one (fun fuel cs x h=>rd_line h) h
theorem one_cell {cs:List Value} {k:Nat} (h:k < cs.length):∃ c,(cs.drop k).take 1=[c]:=by
 refine ⟨cs[k],?_⟩
 rw [List.drop_eq_getElem_cons h]
 rfl
theorem rd_sheet {H:Type} {enc:TypeId×Value→H} {W:World} {fuel:Nat} {cs:List Value} {x:DataW H×List MemPlace} (h:DataW.trod enc Tryz.prog W 0 (fun _=>true) true fuel 42 cs=some x) :
    ∃ (s:ShQ) (vl:Value),cs=(s.A vl).toList∧Lst { P:=Tryz.prog,n:=0,w0:=W,X:=[],pk:=[] } vl 137 s.lines.length (cat LnQ.A s.lines)∧(∀ y∈s.lines,y.In)∧s.cur.length≤9223372036854775807:=by
 obtain ⟨xs,n,-,rfl,hl,hn,hf⟩:=DataW.trod_struct Tryz.underlying42 h
 have hn:xs.length=5:=hn
 match xs,hn with
 | [y0,y1,y2,y3,y4],_ =>
 have ci:Tryz.prog.cellsOf 3=1:=by kernel_rfl
 have ct:Tryz.prog.cellsOf 9=1:=by kernel_rfl
 have cl:Tryz.prog.cellsOf 40=1:=by kernel_rfl
 have ca:Tryz.prog.cellsOf 42=5:=by kernel_rfl
 have f0:DataW.trod enc Tryz.prog W 0 (fun _=>true) true n 9 ((cs.drop 0).take (Tryz.prog.cellsOf 9))=some y0:=hf 0 _ rfl
 have f1:DataW.trod enc Tryz.prog W 0 (fun _=>true) true n 3 ((cs.drop 1).take (Tryz.prog.cellsOf 3))=some y1:=hf 1 _ rfl
 have f2:DataW.trod enc Tryz.prog W 0 (fun _=>true) true n 3 ((cs.drop 2).take (Tryz.prog.cellsOf 3))=some y2:=hf 2 _ rfl
 have f3:DataW.trod enc Tryz.prog W 0 (fun _=>true) true n 40 ((cs.drop 3).take (Tryz.prog.cellsOf 40))=some y3:=hf 3 _ rfl
 have f4:DataW.trod enc Tryz.prog W 0 (fun _=>true) true n 3 ((cs.drop 4).take (Tryz.prog.cellsOf 3))=some y4:=hf 4 _ rfl
 rw [ct] at f0
 rw [ci] at f1 f2 f4
 rw [cl] at f3
 rw [ca] at hl
 obtain ⟨vl,e3⟩:=one_cell (cs:=cs) (k:=3) (by omega)
 rw [e3] at f3
 obtain ⟨cur,e0,k0⟩:=rd_str f0
 obtain ⟨day,e1,-⟩:=rd_i64 f1
 obtain ⟨known,e2,-⟩:=rd_i64 f2
 obtain ⟨ls,i3,L3,-⟩:=rd_lines f3
 obtain ⟨total,e4,-⟩:=rd_i64 f4
 refine ⟨⟨cur,day,known,ls,total⟩,vl,?_,L3,i3,k0⟩
 have s0:=split_at e0
 rw [List.drop_zero] at s0
 rw [s0,split_at e1,split_at e2,split_at e3,split_at e4,List.drop_eq_nil_of_le (by omega),List.append_nil]
 simp [ShQ.A]
end Go.Proofs.YtofllflnmmjijaaGreatDoor
