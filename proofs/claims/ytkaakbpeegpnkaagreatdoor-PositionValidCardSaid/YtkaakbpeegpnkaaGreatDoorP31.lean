/- entries, holdings and balances that came in; no condition. -/
import Derived.Test.YtkaakbpeegpnkaaGreatDoorP29
set_option maxRecDepth 100000
set_option maxHeartbeats 4000000
namespace Go.Proofs.YtkaakbpeegpnkaaGreatDoor
open Go Go.RowKit Go.SX
section
variable {H:Type} {enc:TypeId×Value→H} {w:World} {base:Nat} {sp:Nat→Bool} {held:Bool}
theorem rd_entry {fuel:Nat} {cs:List Value} {x:DataW H×List MemPlace} (h:DataW.trod enc Tryz.prog w base sp held fuel 47 cs=some x):∃ a:EC,a.In∧cs=a.A.toList:=by
 obtain ⟨xs,n,-,-,hl,hn,hf⟩:=DataW.trod_struct Tryz.underlying47 h
 have hn:xs.length=10:=hn
 match xs,hn with
 | [y0,y1,y2,y3,y4,y5,y6,y7,y8,y9],_ =>
 have ci:Tryz.prog.cellsOf 3=1:=by kernel_rfl
 have cs':Tryz.prog.cellsOf 9=1:=by kernel_rfl
 have cb:Tryz.prog.cellsOf 4=1:=by kernel_rfl
 have ca:Tryz.prog.cellsOf 47=10:=by kernel_rfl
 have f0:DataW.trod enc Tryz.prog w base sp held n 3 ((cs.drop 0).take (Tryz.prog.cellsOf 3))=some y0:=hf 0 _ rfl
 have f1:DataW.trod enc Tryz.prog w base sp held n 9 ((cs.drop 1).take (Tryz.prog.cellsOf 9))=some y1:=hf 1 _ rfl
 have f2:DataW.trod enc Tryz.prog w base sp held n 3 ((cs.drop 2).take (Tryz.prog.cellsOf 3))=some y2:=hf 2 _ rfl
 have f3:DataW.trod enc Tryz.prog w base sp held n 3 ((cs.drop 3).take (Tryz.prog.cellsOf 3))=some y3:=hf 3 _ rfl
 have f4:DataW.trod enc Tryz.prog w base sp held n 9 ((cs.drop 4).take (Tryz.prog.cellsOf 9))=some y4:=hf 4 _ rfl
 have f5:DataW.trod enc Tryz.prog w base sp held n 3 ((cs.drop 5).take (Tryz.prog.cellsOf 3))=some y5:=hf 5 _ rfl
 have f6:DataW.trod enc Tryz.prog w base sp held n 3 ((cs.drop 6).take (Tryz.prog.cellsOf 3))=some y6:=hf 6 _ rfl
 have f7:DataW.trod enc Tryz.prog w base sp held n 9 ((cs.drop 7).take (Tryz.prog.cellsOf 9))=some y7:=hf 7 _ rfl
 have f8:DataW.trod enc Tryz.prog w base sp held n 3 ((cs.drop 8).take (Tryz.prog.cellsOf 3))=some y8:=hf 8 _ rfl
 have f9:DataW.trod enc Tryz.prog w base sp held n 4 ((cs.drop 9).take (Tryz.prog.cellsOf 4))=some y9:=hf 9 _ rfl
 rw [ci] at f0 f2 f3 f5 f6 f8
 rw [cs'] at f1 f4 f7
 rw [cb] at f9
 obtain ⟨kind,e0,-⟩:=rd_i64 f0
 obtain ⟨key,e1,k1⟩:=rd_str f1
 obtain ⟨day,e2,-⟩:=rd_i64 f2
 obtain ⟨settle,e3,-⟩:=rd_i64 f3
 obtain ⟨ins,e4,k4⟩:=rd_str f4
 obtain ⟨qty,e5,-⟩:=rd_i64 f5
 obtain ⟨amt,e6,-⟩:=rd_i64 f6
 obtain ⟨cur,e7,k7⟩:=rd_str f7
 obtain ⟨known,e8,-⟩:=rd_i64 f8
 obtain ⟨void,e9,-⟩:=DataW.trod_bool Tryz.underlying4 f9
 refine ⟨⟨kind,key,day,settle,ins,qty,amt,cur,known,void⟩,⟨k1,k4,k7⟩,?_⟩
 have s0:=split_at e0
 rw [List.drop_zero] at s0
 rw [s0,split_at e1,split_at e2,split_at e3,split_at e4,split_at e5,split_at e6,split_at e7,split_at e8,split_at e9,List.drop_eq_nil_of_le (by omega),List.append_nil]
 rfl
theorem rd_holding {fuel:Nat} {cs:List Value} {x:DataW H×List MemPlace} (h:DataW.trod enc Tryz.prog w base sp held fuel 90 cs=some x):∃ a:Bs×Int,a.1.length≤9223372036854775807∧cs=(sumA a).toList:=by
 obtain ⟨xs,n,-,-,hl,hn,hf⟩:=DataW.trod_struct Tryz.underlying90 h
 have hn:xs.length=2:=hn
 match xs,hn with
 | [y0,y1],_ =>
 have ci:Tryz.prog.cellsOf 3=1:=by kernel_rfl
 have cs':Tryz.prog.cellsOf 9=1:=by kernel_rfl
 have ca:Tryz.prog.cellsOf 90=2:=by kernel_rfl
 have f0:DataW.trod enc Tryz.prog w base sp held n 9 ((cs.drop 0).take (Tryz.prog.cellsOf 9))=some y0:=hf 0 _ rfl
 have f1:DataW.trod enc Tryz.prog w base sp held n 3 ((cs.drop 1).take (Tryz.prog.cellsOf 3))=some y1:=hf 1 _ rfl
 rw [cs'] at f0
 rw [ci] at f1
 obtain ⟨ins,e0,k0⟩:=rd_str f0
 obtain ⟨qty,e1,-⟩:=rd_i64 f1
 refine ⟨(ins,qty),k0,?_⟩
 have s0:=split_at e0
 rw [List.drop_zero] at s0
 rw [s0,split_at e1,List.drop_eq_nil_of_le (by omega),List.append_nil]
 rfl
theorem rd_balance {fuel:Nat} {cs:List Value} {x:DataW H×List MemPlace} (h:DataW.trod enc Tryz.prog w base sp held fuel 85 cs=some x):∃ a:Ky×Int,a.1.1.length≤9223372036854775807∧cs=(sumK a).toList:=by
 obtain ⟨xs,n,-,-,hl,hn,hf⟩:=DataW.trod_struct Tryz.underlying85 h
 have hn:xs.length=3:=hn
 match xs,hn with
 | [y0,y1,y2],_ =>
 have ci:Tryz.prog.cellsOf 3=1:=by kernel_rfl
 have cs':Tryz.prog.cellsOf 9=1:=by kernel_rfl
 have ca:Tryz.prog.cellsOf 85=3:=by kernel_rfl
 have f0:DataW.trod enc Tryz.prog w base sp held n 9 ((cs.drop 0).take (Tryz.prog.cellsOf 9))=some y0:=hf 0 _ rfl
 have f1:DataW.trod enc Tryz.prog w base sp held n 3 ((cs.drop 1).take (Tryz.prog.cellsOf 3))=some y1:=hf 1 _ rfl
 have f2:DataW.trod enc Tryz.prog w base sp held n 3 ((cs.drop 2).take (Tryz.prog.cellsOf 3))=some y2:=hf 2 _ rfl
 rw [cs'] at f0
 rw [ci] at f1 f2
 obtain ⟨cur,e0,k0⟩:=rd_str f0
 obtain ⟨day,e1,-⟩:=rd_i64 f1
 obtain ⟨amt,e2,-⟩:=rd_i64 f2
 refine ⟨((cur,day),amt),k0,?_⟩
 have s0:=split_at e0
 rw [List.drop_zero] at s0
 rw [s0,split_at e1,split_at e2,List.drop_eq_nil_of_le (by omega),List.append_nil]
 rfl
end
end Go.Proofs.YtkaakbpeegpnkaaGreatDoor
