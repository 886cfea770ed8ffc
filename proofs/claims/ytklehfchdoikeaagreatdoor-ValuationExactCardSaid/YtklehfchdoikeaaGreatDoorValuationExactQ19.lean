/- what came in, read; no condition. -/
import Derived.Handy
import Derived.Lay
import Derived.Lib.SmallJoins
import Derived.SevenTiedAt
import Derived.Test.YtklehfchdoikeaaGreatDoorValuationExactQ18
set_option maxRecDepth 100000
set_option maxHeartbeats 4000000
namespace Go.Proofs.YtklehfchdoikeaaGreatDoor
open Go Go.RowKit Go.SX
theorem Mb {cs:List Value} {i:Nat} {v:Value} (h:(cs.drop i).take 1=[v]):cs[i]? = some v:=by
 have:=congrArg (fun l=>l[0]?) h
 simpa [List.getElem?_take,List.getElem?_drop] using this
theorem aM {cs A:List Value} {i n:Nat} (h:(cs.drop i).take n=A):cs.drop i=A++cs.drop (i+n):=by
 rw [<- h,<- List.drop_drop];exact (List.take_append_drop n _).symm
section
variable {H:Type} {enc:TypeId×Value->H} {w:World} {base:Nat} {sp:Nat->Bool} {held:Bool}
theorem JS {fuel:Nat} {cs:List Value} {x:DataW H×List MemPlace} (h:DataW.trod enc Tryz.prog w base sp held fuel 29 cs=some x):∃ N,N < BB ^ 32/\cs=(mA N).toList:=by
 obtain ⟨xs,m,-,-,hl,hn,hf⟩:=DataW.trod_array Tryz.underlying29 h
 have c1:Tryz.prog.cellsOf 28=1:=by kernel_rfl
 have c2:Tryz.prog.cellsOf 29=32:=by kernel_rfl
 rw [c1] at hf
 rw [c2] at hl
 have he:∀ i,i < 32->∃ n:Nat,n < BB/\cs[i]? = some (.int .u32 (n:Nat)):=fun i hi=>by
  have h1:=hf i hi
  rw [Nat.mul_one] at h1
  have:xs[i]? = some (xs[i]'(by omega)):=List.getElem?_eq_getElem (by omega)
  rw [this] at h1
  obtain ⟨n,e1,-,e2⟩:=DataW.trod_int Tryz.underlying28 h1
  have hx:0<=n/\n<=4294967295:=by simpa [Lit.wf,IntKind.min,IntKind.max,IntKind.signed,IntKind.bits] using e2
  refine ⟨n.toNat,by rw [aS];omega,?_⟩
  rw [Int.toNat_of_nonneg hx.1]
  exact Mb e1
 let f:Nat->Nat:=fun i=>match cs[i]? with
  | some (.int _ n)=>n.toNat
  | _=>0
 have hff:∀ i,i < 32->f i < BB/\cs[i]? = some (.int .u32 (f i:Nat)):=fun i hi=>by
  obtain ⟨n,h1,h2⟩:=he i hi
  have:f i=n:=by show (match cs[i]? with | some (.int _ n)=>n.toNat | _=>0)=n;rw [h2];exact Int.toNat_natCast n
  rw [this];exact ⟨h1,h2⟩
 refine ⟨nv f 32,mX fun i hi=>(hff i hi).1,?_⟩
 apply List.ext_getElem?
 intro i
 by_cases hi:i < 32
 ·rw [(hff i hi).2,Array.getElem?_toList,bo hi,qY (fun j hj=>(hff j hj).1) hi]
 ·rw [List.getElem?_eq_none (by omega),Array.getElem?_toList,Array.getElem?_eq_none (by rw [cf];omega)]
theorem DN {fuel:Nat} {cs:List Value} {x:DataW H×List MemPlace} (h:DataW.trod enc Tryz.prog w base sp held fuel 31 cs=some x):∃ a N,N < BB ^ 32/\cs=(iA a N).toList:=by
 obtain ⟨y0,y1,n,-,hl,h0,h1⟩:=ChangeShapes.trod_struct2 Tryz.underlying31 h
 have c1:Tryz.prog.cellsOf 4=1:=by kernel_rfl
 have c2:Tryz.prog.cellsOf 29=32:=by kernel_rfl
 dsimp only at h0 h1
 rw [c1] at h0
 rw [c2] at h1
 obtain ⟨b,e0,-⟩:=DataW.trod_bool Tryz.underlying4 h0
 obtain ⟨N,hN,e1⟩:=JS h1
 have c3:Tryz.prog.cellsOf 31=33:=by kernel_rfl
 refine ⟨b,N,hN,?_⟩
 have s0:=aM e0
 have s1:=aM e1
 rw [List.drop_zero] at s0
 rw [s0,s1,List.drop_eq_nil_of_le (by omega),List.append_nil,iA,Array.toList_append]
theorem ke {fuel:Nat} {cs:List Value} {x:DataW H×List MemPlace} (h:DataW.trod enc Tryz.prog w base sp held fuel 33 cs=some x):∃ r:RQ,r.In/\cs=r.A.toList:=by
 obtain ⟨y0,y1,n,-,hl,h0,h1⟩:=ChangeShapes.trod_struct2 Tryz.underlying33 h
 have c1:Tryz.prog.cellsOf 31=33:=by kernel_rfl
 dsimp only at h0 h1
 rw [c1] at h0 h1
 obtain ⟨a,N,hN,e0⟩:=DN h0
 obtain ⟨b,D,hD,e1⟩:=DN h1
 have c3:Tryz.prog.cellsOf 33=66:=by kernel_rfl
 refine ⟨⟨a,N,b,D⟩,⟨hN,hD⟩,?_⟩
 have s0:=aM e0
 have s1:=aM e1
 rw [List.drop_zero] at s0
 rw [s0,s1,List.drop_eq_nil_of_le (by omega),List.append_nil,RQ.A,Array.toList_append]
theorem iw {fuel:Nat} {cs:List Value} {x:DataW H×List MemPlace} (h:DataW.trod enc Tryz.prog w base sp held fuel 3 cs=some x):∃ n:Int,cs=[.int .i64 n]/\-9223372036854775808<=n/\n<=9223372036854775807:=by
 obtain ⟨n,e1,-,e2⟩:=DataW.trod_int Tryz.underlying3 h
 have hx:IntKind.i64.min<=n/\n<=IntKind.i64.max:=by simpa [Lit.wf] using e2
 exact ⟨n,e1,hx.1,hx.2⟩
theorem iu {fuel:Nat} {cs:List Value} {x:DataW H×List MemPlace} (h:DataW.trod enc Tryz.prog w base sp held fuel 9 cs=some x):∃ l:List UInt8,cs=[.string (S l)]/\l.length<=9223372036854775807:=by
 obtain ⟨s,e1,-,e2⟩:=DataW.trod_string Tryz.underlying9 h
 refine ⟨s.data.toList,by rw [e1,<- Qk],?_⟩
 have:s.data.toList.length=s.size:=Array.length_toList
 rw [this];exact e2
end
end Go.Proofs.YtklehfchdoikeaaGreatDoor
