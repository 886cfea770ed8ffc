/- what came in: quotes and policies; no condition. -/
import Derived.Test.YtjkgmglmgndaoaaGreatDoorP30
import Derived.Test.YtjkgmglmgndaoaaGreatDoorExchangeExactQ1
set_option maxRecDepth 100000
set_option maxHeartbeats 4000000
namespace Go.Proofs.YtjkgmglmgndaoaaGreatDoor
open Go Go.RowKit Go.SX
open ChangeShapes WideShapes
instance:Inhabited QC:=⟨noQ⟩
theorem rd_quote {H:Type} {enc:TypeId×Value→H} {w:World} {base:Nat} {sp:Nat→Bool} {held:Bool} {fuel:Nat} {cs:List Value} {x:DataW H×List MemPlace} (h:DataW.trod enc Tryz.prog w base sp held fuel 51 cs=some x):∃ a:QC,a.In∧cs=a.A.toList:=by
 obtain ⟨xs,n,-,-,hl,hn,hf⟩:=DataW.trod_struct Tryz.underlying51 h
 have hn:xs.length=7:=hn
 match xs,hn with
 | [y0,y1,y2,y3,y4,y5,y6],_ =>
 have ci:Tryz.prog.cellsOf 3=1:=by kernel_rfl
 have cs':Tryz.prog.cellsOf 9=1:=by kernel_rfl
 have cb:Tryz.prog.cellsOf 4=1:=by kernel_rfl
 have cr:Tryz.prog.cellsOf 29=66:=by kernel_rfl
 have ca:Tryz.prog.cellsOf 51=72:=by kernel_rfl
 have f0:DataW.trod enc Tryz.prog w base sp held n 9 ((cs.drop 0).take (Tryz.prog.cellsOf 9))=some y0:=hf 0 _ rfl
 have f1:DataW.trod enc Tryz.prog w base sp held n 9 ((cs.drop 1).take (Tryz.prog.cellsOf 9))=some y1:=hf 1 _ rfl
 have f2:DataW.trod enc Tryz.prog w base sp held n 9 ((cs.drop 2).take (Tryz.prog.cellsOf 9))=some y2:=hf 2 _ rfl
 have f3:DataW.trod enc Tryz.prog w base sp held n 3 ((cs.drop 3).take (Tryz.prog.cellsOf 3))=some y3:=hf 3 _ rfl
 have f4:DataW.trod enc Tryz.prog w base sp held n 29 ((cs.drop 4).take (Tryz.prog.cellsOf 29))=some y4:=hf 4 _ rfl
 have f5:DataW.trod enc Tryz.prog w base sp held n 3 ((cs.drop 70).take (Tryz.prog.cellsOf 3))=some y5:=hf 5 _ rfl
 have f6:DataW.trod enc Tryz.prog w base sp held n 4 ((cs.drop 71).take (Tryz.prog.cellsOf 4))=some y6:=hf 6 _ rfl
 rw [ci] at f3 f5
 rw [cs'] at f0 f1 f2
 rw [cb] at f6
 rw [cr] at f4
 obtain ⟨src,e0,k0⟩:=rd_str f0
 obtain ⟨ins,e1,k1⟩:=rd_str f1
 obtain ⟨cur,e2,k2⟩:=rd_str f2
 obtain ⟨day,e3,k3⟩:=rd_i64 f3
 obtain ⟨price,k4,e4⟩:=rd_ratio f4
 obtain ⟨known,e5,-⟩:=rd_i64 f5
 obtain ⟨void,e6,-⟩:=DataW.trod_bool Tryz.underlying4 f6
 refine ⟨⟨src,ins,cur,day,price,known,void⟩,⟨k4,k0,k1,k2,k3⟩,?_⟩
 have s0:=split_at e0
 rw [List.drop_zero] at s0
 rw [s0,split_at e1,split_at e2,split_at e3,split_at e4,split_at e5,split_at e6,List.drop_eq_nil_of_le (by omega),List.append_nil,QC.A,Array.toList_append,Array.toList_append]
 rfl
theorem rd_quotes {H:Type} {enc:TypeId×Value→H} {W:World} {fuel:Nat} {c:Value} {y:DataW H×List MemPlace} (h:DataW.trod enc Tryz.prog W 0 (fun _=>true) true fuel 22 [c]=some y) :
    ∃ xs:List QC,(∀ a∈xs,a.In)∧Lst { P:=Tryz.prog,n:=0,w0:=W,X:=[],pk:=[] } c 72 xs.length (cat QC.A xs)∧(xs=[]∨∃ el sp,y.1=.slice el sp∧el.length=xs.length) :=
 lst_read (E:={ P:=Tryz.prog,n:=0,w0:=W,X:=[],pk:=[] }) (In:=QC.In) rfl Tryz.underlying22 (by kernel_rfl) (by decide) QC.size QC.all1 (fun fuel cs x h=>rd_quote h) h
theorem rd_texts {H:Type} {enc:TypeId×Value→H} {W:World} {fuel:Nat} {c:Value} {y:DataW H×List MemPlace} (h:DataW.trod enc Tryz.prog W 0 (fun _=>true) true fuel 23 [c]=some y) :
    ∃ xs:List (List UInt8),(∀ a∈xs,a.length≤9223372036854775807)∧Lst { P:=Tryz.prog,n:=0,w0:=W,X:=[],pk:=[] } c 1 xs.length (cat strA xs)∧(xs=[]∨∃ el sp,y.1=.slice el sp∧el.length=xs.length) :=
 lst_read (E:={ P:=Tryz.prog,n:=0,w0:=W,X:=[],pk:=[] }) (In:=fun a:List UInt8=>a.length≤9223372036854775807) rfl Tryz.underlying23 (by kernel_rfl) (by decide) strA_size strA_one (fun fuel cs x h=>by
  obtain ⟨l,e1,e2⟩:=rd_str h
  exact ⟨l,e2,e1⟩) h
theorem rd_policy {H:Type} {enc:TypeId×Value→H} {W:World} {fuel:Nat} {cs:List Value} {x:DataW H×List MemPlace} (h:DataW.trod enc Tryz.prog W 0 (fun _=>true) true fuel 31 cs=some x) :
    ∃ (p:PL) (v:Value),p.In∧cs=(p.A v).toList∧Lst { P:=Tryz.prog,n:=0,w0:=W,X:=[],pk:=[] } v 1 p.srcs.length (cat strA p.srcs)∧(p.srcs=[]∨∃ el sp r1 r2,x.1=.agg [.slice el sp,r1,r2]∧el.length=p.srcs.length):=by
 obtain ⟨xs,n,-,rfl,hl,hn,hf⟩:=DataW.trod_struct Tryz.underlying31 h
 have hn:xs.length=3:=hn
 match xs,hn with
 | [y0,y1,y2],_ =>
 have ci:Tryz.prog.cellsOf 3=1:=by kernel_rfl
 have cs':Tryz.prog.cellsOf 23=1:=by kernel_rfl
 have cr:Tryz.prog.cellsOf 29=66:=by kernel_rfl
 have ca:Tryz.prog.cellsOf 31=68:=by kernel_rfl
 have f0:DataW.trod enc Tryz.prog W 0 (fun _=>true) true n 23 ((cs.drop 0).take (Tryz.prog.cellsOf 23))=some y0:=hf 0 _ rfl
 have f1:DataW.trod enc Tryz.prog W 0 (fun _=>true) true n 29 ((cs.drop 1).take (Tryz.prog.cellsOf 29))=some y1:=hf 1 _ rfl
 have f2:DataW.trod enc Tryz.prog W 0 (fun _=>true) true n 3 ((cs.drop 67).take (Tryz.prog.cellsOf 3))=some y2:=hf 2 _ rfl
 rw [ci] at f2
 rw [cs'] at f0
 rw [cr] at f1
 obtain ⟨c,e0⟩:∃ c,(cs.drop 0).take 1=[c]:=by
  rw [ca] at hl
  match cs,hl with
  | c :: r,_=>exact ⟨c,rfl⟩
 rw [e0] at f0
 obtain ⟨srcs,hi,hL,hb⟩:=rd_texts f0
 obtain ⟨tol,k1,e1⟩:=rd_ratio f1
 obtain ⟨stale,e2,k2⟩:=rd_i64 f2
 refine ⟨⟨srcs,tol,stale⟩,c,⟨k1,hi,k2⟩,?_,hL,?_⟩
 ·have s0:=split_at e0
  rw [List.drop_zero] at s0
  rw [s0,split_at e1,split_at e2,List.drop_eq_nil_of_le (by omega),List.append_nil,PL.A,Array.toList_append,Array.toList_append]
 ·rcases hb with hb | ⟨el,spr,he,hl2⟩
  ·exact .inl hb
  ·exact .inr ⟨el,spr,y1.1,y2.1,by simp [he],hl2⟩
theorem pol_len {H:Type} {P:Program} {el sp:List (DataW H)} {r1 r2:DataW H} {ts:List TypeId} {ds:List (DataW H)} {j:Nat} (hu:P.underlying 31=some (.struct #[⟨ "Sources",23,0,false,"","",0⟩,⟨ "Tolerance",29,1,false,"","",24⟩,⟨ "Stale",3,67,false,"","",288⟩])) (hu2:P.underlying 23=some (.slice 9)) (hb:P.bytesOf 9=16) (h:(DataW.weightsEach P ts ds).all (·≤reachBytes)=true) (ht:ts[j]? = some 31) (hd:ds[j]? = some (.agg [.slice el sp,r1,r2])):el.length≤1000000000000000:=by
 have:=List.all_eq_true.1 h _ (DataW.weights_mem_each ht hd ((el.length+sp.length)*P.bytesOf 9) (by simp [DataW.weights,hu,hu2,DataW.weightsEach]))
 rw [hb] at this
 have h2:(el.length+sp.length)*16≤reachBytes:=by simpa using this
 have h3:=reachBytes_lt
 omega
theorem ownC_at {f:FuncId} {vs:List Value} {Q:Value→MemL→Prop} (w:World) (h:OwnC (E:={ P:=Tryz.prog,n:=0,w0:=w,X:=[],pk:=[] }) f (vs.map SV.c) [] Q):Calls Tryz.prog f vs.toArray w fun e w'=>∃ x U,e=.returned x∧Q x U∧Below w.heap.size w w':=by
 have hx':rels (fun _=>none) (vs.map SV.c) vs:=by
  clear h
  induction vs with
  | nil=>trivial
  | cons s vs ih=>exact ⟨rfl,ih⟩
 refine (h.2 (fun _=>none) w vs ⟨rfl,rfl,rfl,Nat.le_refl _,fun _ _ _=>rfl,fun d B hd=>by simp [getM] at hd,fun _ _=>rfl,fun d B hd=>by simp [getM] at hd,fun d B b hd=>by simp [getM] at hd,fun d e k hd=>(by cases hd),fun d k B hp=>by simp [Env.np] at hp⟩ hx').mono ?_
 rintro e w' ⟨x,U,h1,h2,h3,-⟩
 exact ⟨x,U,h1,h2,h3.os,h3.tape,h3.output,h3.size,fun k hk=>h3.old k hk (by simp [Env.np])⟩
theorem rd_policyV {H:Type} {enc:TypeId×Value→H} {W:World} {r:Reach} {b0:Nat} {v:Value} {d:DataW H} {ps:List MemPlace} (hv:Value.okWide Tryz.prog W r b0 31 v) (h:DataW.Trod enc Tryz.prog W 0 (fun _=>true) true 31 v d ps) :
    ∃ (p:PL) (vp:Value),p.In∧v=.agg (p.A vp)∧Lst { P:=Tryz.prog,n:=0,w0:=W,X:=[],pk:=[] } vp 1 p.srcs.length (cat strA p.srcs)∧(p.srcs=[]∨∃ el sp r1 r2,d=.agg [.slice el sp,r1,r2]∧el.length=p.srcs.length):=by
 obtain ⟨cs,rfl,hsz⟩:=okWide_struct Tryz.underlying31 hv
 obtain ⟨fuel,hf⟩:=h
 obtain ⟨pl,vp,h1,h2,h3,h4⟩:=rd_policy hf
 exact ⟨pl,vp,h1,congrArg Value.agg (Array.ext' h2),h3,h4⟩
end Go.Proofs.YtjkgmglmgndaoaaGreatDoor
