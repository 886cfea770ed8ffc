/- what came in, read; no condition. -/
import Derived.Handy
import Derived.Lay
import Derived.Lib.SmallJoins
import Derived.SevenTiedAt
import Derived.Test.YtkaakbpeegpnkaaGreatDoorP19
set_option maxRecDepth 100000
set_option maxHeartbeats 4000000
namespace Go.Proofs.YtkaakbpeegpnkaaGreatDoor
open Go Go.RowKit Go.SX
theorem take1 {cs:List Value} {i:Nat} {v:Value} (h:(cs.drop i).take 1=[v]):cs[i]? = some v:=by
 have:=congrArg (fun l=>l[0]?) h
 simpa [List.getElem?_take,List.getElem?_drop] using this
theorem split_at {cs A:List Value} {i n:Nat} (h:(cs.drop i).take n=A):cs.drop i=A++cs.drop (i+n):=by
 rw [← h,← List.drop_drop];exact (List.take_append_drop n _).symm
section
variable {H:Type} {enc:TypeId×Value→H} {w:World} {base:Nat} {sp:Nat→Bool} {held:Bool}
theorem rd_mag {fuel:Nat} {cs:List Value} {x:DataW H×List MemPlace} (h:DataW.trod enc Tryz.prog w base sp held fuel 55 cs=some x):∃ N,N < BB ^ 32∧cs=(mA N).toList:=by
 obtain ⟨xs,m,-,-,hl,hn,hf⟩:=DataW.trod_array Tryz.underlying55 h
 have c1:Tryz.prog.cellsOf 54=1:=by kernel_rfl
 have c2:Tryz.prog.cellsOf 55=32:=by kernel_rfl
 rw [c1] at hf
 rw [c2] at hl
 have he:∀ i,i < 32→∃ n:Nat,n < BB∧cs[i]? = some (.int .u32 (n:Nat)):=fun i hi=>by
  have h1:=hf i hi
  rw [Nat.mul_one] at h1
  have:xs[i]? = some (xs[i]'(by omega)):=List.getElem?_eq_getElem (by omega)
  rw [this] at h1
  obtain ⟨n,e1,-,e2⟩:=DataW.trod_int Tryz.underlying54 h1
  have hx:0≤n∧n≤4294967295:=by simpa [Lit.wf,IntKind.min,IntKind.max,IntKind.signed,IntKind.bits] using e2
  refine ⟨n.toNat,by rw [BB_eq];omega,?_⟩
  rw [Int.toNat_of_nonneg hx.1]
  exact take1 e1
 let f:Nat→Nat:=fun i=>match cs[i]? with
  | some (.int _ n)=>n.toNat
  | _=>0
 have hff:∀ i,i < 32→f i < BB∧cs[i]? = some (.int .u32 (f i:Nat)):=fun i hi=>by
  obtain ⟨n,h1,h2⟩:=he i hi
  have:f i=n:=by show (match cs[i]? with | some (.int _ n)=>n.toNat | _=>0)=n;rw [h2];exact Int.toNat_natCast n
  rw [this];exact ⟨h1,h2⟩
 refine ⟨nv f 32,nv_lt fun i hi=>(hff i hi).1,?_⟩
 apply List.ext_getElem?
 intro i
 by_cases hi:i < 32
 ·rw [(hff i hi).2,Array.getElem?_toList,mA_get hi,dg_nv (fun j hj=>(hff j hj).1) hi]
 ·rw [List.getElem?_eq_none (by omega),Array.getElem?_toList,Array.getElem?_eq_none (by rw [mA_size];omega)]
theorem rd_int {fuel:Nat} {cs:List Value} {x:DataW H×List MemPlace} (h:DataW.trod enc Tryz.prog w base sp held fuel 57 cs=some x):∃ a N,N < BB ^ 32∧cs=(iA a N).toList:=by
 obtain ⟨y0,y1,n,-,hl,h0,h1⟩:=ChangeShapes.trod_struct2 Tryz.underlying57 h
 have c1:Tryz.prog.cellsOf 4=1:=by kernel_rfl
 have c2:Tryz.prog.cellsOf 55=32:=by kernel_rfl
 dsimp only at h0 h1
 rw [c1] at h0
 rw [c2] at h1
 obtain ⟨b,e0,-⟩:=DataW.trod_bool Tryz.underlying4 h0
 obtain ⟨N,hN,e1⟩:=rd_mag h1
 have c3:Tryz.prog.cellsOf 57=33:=by kernel_rfl
 refine ⟨b,N,hN,?_⟩
 have s0:=split_at e0
 have s1:=split_at e1
 rw [List.drop_zero] at s0
 rw [s0,s1,List.drop_eq_nil_of_le (by omega),List.append_nil,iA,Array.toList_append]
theorem rd_ratio {fuel:Nat} {cs:List Value} {x:DataW H×List MemPlace} (h:DataW.trod enc Tryz.prog w base sp held fuel 59 cs=some x):∃ r:RQ,r.In∧cs=r.A.toList:=by
 obtain ⟨y0,y1,n,-,hl,h0,h1⟩:=ChangeShapes.trod_struct2 Tryz.underlying59 h
 have c1:Tryz.prog.cellsOf 57=33:=by kernel_rfl
 dsimp only at h0 h1
 rw [c1] at h0 h1
 obtain ⟨a,N,hN,e0⟩:=rd_int h0
 obtain ⟨b,D,hD,e1⟩:=rd_int h1
 have c3:Tryz.prog.cellsOf 59=66:=by kernel_rfl
 refine ⟨⟨a,N,b,D⟩,⟨hN,hD⟩,?_⟩
 have s0:=split_at e0
 have s1:=split_at e1
 rw [List.drop_zero] at s0
 rw [s0,s1,List.drop_eq_nil_of_le (by omega),List.append_nil,RQ.A,Array.toList_append]
theorem rd_i64 {fuel:Nat} {cs:List Value} {x:DataW H×List MemPlace} (h:DataW.trod enc Tryz.prog w base sp held fuel 3 cs=some x):∃ n:Int,cs=[.int .i64 n]∧-9223372036854775808≤n∧n≤9223372036854775807:=by
 obtain ⟨n,e1,-,e2⟩:=DataW.trod_int Tryz.underlying3 h
 have hx:IntKind.i64.min≤n∧n≤IntKind.i64.max:=by simpa [Lit.wf] using e2
 exact ⟨n,e1,hx.1,hx.2⟩
theorem rd_str {fuel:Nat} {cs:List Value} {x:DataW H×List MemPlace} (h:DataW.trod enc Tryz.prog w base sp held fuel 9 cs=some x):∃ l:List UInt8,cs=[.string (S l)]∧l.length≤9223372036854775807:=by
 obtain ⟨s,e1,-,e2⟩:=DataW.trod_string Tryz.underlying9 h
 refine ⟨s.data.toList,by rw [e1,← S_of],?_⟩
 have:s.data.toList.length=s.size:=Array.length_toList
 rw [this];exact e2
theorem rd_action {fuel:Nat} {cs:List Value} {x:DataW H×List MemPlace} (h:DataW.trod enc Tryz.prog w base sp held fuel 61 cs=some x):∃ a:AC,a.In∧cs=a.A.toList:=by
 obtain ⟨xs,n,-,-,hl,hn,hf⟩:=DataW.trod_struct Tryz.underlying61 h
 have hn:xs.length=11:=hn
 match xs,hn with
 | [y0,y1,y2,y3,y4,y5,y6,y7,y8,y9,y10],_ =>
 have ci:Tryz.prog.cellsOf 3=1:=by kernel_rfl
 have cs':Tryz.prog.cellsOf 9=1:=by kernel_rfl
 have cb:Tryz.prog.cellsOf 4=1:=by kernel_rfl
 have cr:Tryz.prog.cellsOf 59=66:=by kernel_rfl
 have ca:Tryz.prog.cellsOf 61=76:=by kernel_rfl
 have f0:DataW.trod enc Tryz.prog w base sp held n 3 ((cs.drop 0).take (Tryz.prog.cellsOf 3))=some y0:=hf 0 _ rfl
 have f1:DataW.trod enc Tryz.prog w base sp held n 9 ((cs.drop 1).take (Tryz.prog.cellsOf 9))=some y1:=hf 1 _ rfl
 have f2:DataW.trod enc Tryz.prog w base sp held n 9 ((cs.drop 2).take (Tryz.prog.cellsOf 9))=some y2:=hf 2 _ rfl
 have f3:DataW.trod enc Tryz.prog w base sp held n 9 ((cs.drop 3).take (Tryz.prog.cellsOf 9))=some y3:=hf 3 _ rfl
 have f4:DataW.trod enc Tryz.prog w base sp held n 3 ((cs.drop 4).take (Tryz.prog.cellsOf 3))=some y4:=hf 4 _ rfl
 have f5:DataW.trod enc Tryz.prog w base sp held n 3 ((cs.drop 5).take (Tryz.prog.cellsOf 3))=some y5:=hf 5 _ rfl
 have f6:DataW.trod enc Tryz.prog w base sp held n 3 ((cs.drop 6).take (Tryz.prog.cellsOf 3))=some y6:=hf 6 _ rfl
 have f7:DataW.trod enc Tryz.prog w base sp held n 59 ((cs.drop 7).take (Tryz.prog.cellsOf 59))=some y7:=hf 7 _ rfl
 have f8:DataW.trod enc Tryz.prog w base sp held n 9 ((cs.drop 73).take (Tryz.prog.cellsOf 9))=some y8:=hf 8 _ rfl
 have f9:DataW.trod enc Tryz.prog w base sp held n 3 ((cs.drop 74).take (Tryz.prog.cellsOf 3))=some y9:=hf 9 _ rfl
 have f10:DataW.trod enc Tryz.prog w base sp held n 4 ((cs.drop 75).take (Tryz.prog.cellsOf 4))=some y10:=hf 10 _ rfl
 rw [ci] at f0 f4 f5 f6 f9
 rw [cs'] at f1 f2 f3 f8
 rw [cb] at f10
 rw [cr] at f7
 obtain ⟨kind,e0,-⟩:=rd_i64 f0
 obtain ⟨key,e1,k1⟩:=rd_str f1
 obtain ⟨ins,e2,k2⟩:=rd_str f2
 obtain ⟨into,e3,k3⟩:=rd_str f3
 obtain ⟨day,e4,-⟩:=rd_i64 f4
 obtain ⟨num,e5,k5⟩:=rd_i64 f5
 obtain ⟨den,e6,k6⟩:=rd_i64 f6
 obtain ⟨cash,k7,e7⟩:=rd_ratio f7
 obtain ⟨cur,e8,k8⟩:=rd_str f8
 obtain ⟨known,e9,-⟩:=rd_i64 f9
 obtain ⟨void,e10,-⟩:=DataW.trod_bool Tryz.underlying4 f10
 refine ⟨⟨kind,key,ins,into,day,num,den,cash,cur,known,void⟩,⟨k7,k1,k2,k3,k8,k5,k6⟩,?_⟩
 have s0:=split_at e0
 rw [List.drop_zero] at s0
 rw [s0,split_at e1,split_at e2,split_at e3,split_at e4,split_at e5,split_at e6,split_at e7,split_at e8,split_at e9,split_at e10,List.drop_eq_nil_of_le (by omega),List.append_nil,AC.A,Array.toList_append,Array.toList_append]
 rfl
end
end Go.Proofs.YtkaakbpeegpnkaaGreatDoor
