/- valuations and sheets that came in. sheets alike. the exampl; no condition. -/
import Derived.Test.YtklehfchdoikeaaGreatDoorValuationExactQ33
import Derived.Test.YtklehfchdoikeaaGreatDoorValuationExactQ29
set_option maxRecDepth 100000
set_option maxHeartbeats 4000000
namespace Go.Proofs.YtklehfchdoikeaaGreatDoor
open Go Go.RowKit Go.SX
open ChangeShapes WideShapes
instance:Inhabited Bs:=⟨[]⟩
instance:Inhabited NeQ:=⟨⟨[],[],aN⟩⟩
instance:Inhabited AcQ:=⟨⟨[],aN,0,aN,0,0⟩⟩
instance:Inhabited LnQ:=⟨⟨0,[],0,0,aN,aN,0⟩⟩
theorem xU {H:Type} {enc:TypeId×Value->H} {w:World} {base:Nat} {sp:Nat->Bool} {held:Bool} {fuel:Nat} {cs:List Value} {x:DataW H×List MemPlace} (h:DataW.trod enc Tryz.prog w base sp held fuel 69 cs=some x):∃ a:AcQ,a.In/\cs=a.A.toList:=by
 obtain ⟨xs,n,-,-,hl,hn,hf⟩:=DataW.trod_struct Tryz.underlying69 h
 have hn:xs.length=6:=hn
 match xs,hn with
 | [y0,y1,y2,y3,y4,y5],_ =>
 have cli:Tryz.prog.cellsOf 3=1:=by kernel_rfl
 have cls:Tryz.prog.cellsOf 9=1:=by kernel_rfl
 have clr:Tryz.prog.cellsOf 33=66:=by kernel_rfl
 have ca:Tryz.prog.cellsOf 69=136:=by kernel_rfl
 have f0:DataW.trod enc Tryz.prog w base sp held n 9 ((cs.drop 0).take (Tryz.prog.cellsOf 9))=some y0:=hf 0 _ rfl
 have f1:DataW.trod enc Tryz.prog w base sp held n 33 ((cs.drop 1).take (Tryz.prog.cellsOf 33))=some y1:=hf 1 _ rfl
 have f2:DataW.trod enc Tryz.prog w base sp held n 3 ((cs.drop 67).take (Tryz.prog.cellsOf 3))=some y2:=hf 2 _ rfl
 have f3:DataW.trod enc Tryz.prog w base sp held n 33 ((cs.drop 68).take (Tryz.prog.cellsOf 33))=some y3:=hf 3 _ rfl
 have f4:DataW.trod enc Tryz.prog w base sp held n 3 ((cs.drop 134).take (Tryz.prog.cellsOf 3))=some y4:=hf 4 _ rfl
 have f5:DataW.trod enc Tryz.prog w base sp held n 3 ((cs.drop 135).take (Tryz.prog.cellsOf 3))=some y5:=hf 5 _ rfl
 rw [cli] at f2 f4 f5
 rw [cls] at f0
 rw [clr] at f1 f3
 obtain ⟨nm,e0,k0⟩:=iu f0
 obtain ⟨rate,k1,e1⟩:=ke f1
 obtain ⟨basis,e2,k2⟩:=iw f2
 obtain ⟨exact,k3,e3⟩:=ke f3
 obtain ⟨paid,e4,k4⟩:=iw f4
 obtain ⟨til,e5,k5⟩:=iw f5
 refine ⟨⟨nm,rate,basis,exact,paid,til⟩,⟨k0,k1,k2,k3,k4,k5⟩,?_⟩
 have s0:=aM e0
 rw [List.drop_zero] at s0
 rw [s0,aM e1,aM e2,aM e3,aM e4,aM e5,List.drop_eq_nil_of_le (by omega),List.append_nil]
 simp [AcQ.A]
theorem Bq {H:Type} {enc:TypeId×Value->H} {w:World} {base:Nat} {sp:Nat->Bool} {held:Bool} {fuel:Nat} {cs:List Value} {x:DataW H×List MemPlace} (h:DataW.trod enc Tryz.prog w base sp held fuel 67 cs=some x):∃ a:NeQ,a.In/\cs=a.A.toList:=by
 obtain ⟨xs,n,-,-,hl,hn,hf⟩:=DataW.trod_struct Tryz.underlying67 h
 have hn:xs.length=3:=hn
 match xs,hn with
 | [y0,y1,y2],_ =>
 have cls:Tryz.prog.cellsOf 9=1:=by kernel_rfl
 have clr:Tryz.prog.cellsOf 33=66:=by kernel_rfl
 have ca:Tryz.prog.cellsOf 67=68:=by kernel_rfl
 have f0:DataW.trod enc Tryz.prog w base sp held n 9 ((cs.drop 0).take (Tryz.prog.cellsOf 9))=some y0:=hf 0 _ rfl
 have f1:DataW.trod enc Tryz.prog w base sp held n 9 ((cs.drop 1).take (Tryz.prog.cellsOf 9))=some y1:=hf 1 _ rfl
 have f2:DataW.trod enc Tryz.prog w base sp held n 33 ((cs.drop 2).take (Tryz.prog.cellsOf 33))=some y2:=hf 2 _ rfl
 rw [cls] at f0 f1
 rw [clr] at f2
 obtain ⟨ins,e0,k0⟩:=iu f0
 obtain ⟨cur,e1,k1⟩:=iu f1
 obtain ⟨price,k2,e2⟩:=ke f2
 refine ⟨⟨ins,cur,price⟩,⟨k0,k1,k2⟩,?_⟩
 have s0:=aM e0
 rw [List.drop_zero] at s0
 rw [s0,aM e1,aM e2,List.drop_eq_nil_of_le (by omega),List.append_nil]
 simp [NeQ.A]
theorem rC {H:Type} {enc:TypeId×Value->H} {W:World} {fuel:Nat} {c:Value} {y:DataW H×List MemPlace} (h:DataW.trod enc Tryz.prog W 0 (fun _=>true) true fuel 22 [c]=some y) :
    ∃ xs:List (Bs×Int),(∀ a∈xs,a.1.length<=9223372036854775807)/\Lst { P:=Tryz.prog,n:=0,w0:=W,X:=[],pk:=[] } c 2 xs.length (cat je xs)/\(xs=[]\/∃ el sp,y.1=.slice el sp/\el.length=xs.length) :=
 jl (E:={ P:=Tryz.prog,n:=0,w0:=W,X:=[],pk:=[] }) (In:=fun a:Bs×Int=>a.1.length<=9223372036854775807) rfl Tryz.underlying22 (by kernel_rfl) (by decide) ie uT (fun fuel cs x h=>xS h) h
theorem kW {H:Type} {enc:TypeId×Value->H} {W:World} {fuel:Nat} {c:Value} {y:DataW H×List MemPlace} (h:DataW.trod enc Tryz.prog W 0 (fun _=>true) true fuel 23 [c]=some y) :
    ∃ xs:List (Ky×Int),(∀ a∈xs,a.1.1.length<=9223372036854775807)/\Lst { P:=Tryz.prog,n:=0,w0:=W,X:=[],pk:=[] } c 3 xs.length (cat fq xs)/\(xs=[]\/∃ el sp,y.1=.slice el sp/\el.length=xs.length) :=
 jl (E:={ P:=Tryz.prog,n:=0,w0:=W,X:=[],pk:=[] }) (In:=fun a:Ky×Int=>a.1.1.length<=9223372036854775807) rfl Tryz.underlying23 (by kernel_rfl) (by decide) bC mB (fun fuel cs x h=>xT h) h
theorem qe {H:Type} {enc:TypeId×Value->H} {W:World} {fuel:Nat} {cs:List Value} {x:DataW H×List MemPlace} (h:DataW.trod enc Tryz.prog W 0 (fun _=>true) true fuel 25 cs=some x) :
    ∃ (g:Led) (vh vc vp:Value),cs=[vh,vc,vp]/\Lst { P:=Tryz.prog,n:=0,w0:=W,X:=[],pk:=[] } vh 2 g.h.length (cat je g.h)/\Lst { P:=Tryz.prog,n:=0,w0:=W,X:=[],pk:=[] } vc 3 g.c.length (cat fq g.c)/\Lst { P:=Tryz.prog,n:=0,w0:=W,X:=[],pk:=[] } vp 3 g.p.length (cat fq g.p)/\(∀ a∈g.h,a.1.length<=9223372036854775807)/\(∀ a∈g.c,a.1.1.length<=9223372036854775807)/\(∀ a∈g.p,a.1.1.length<=9223372036854775807)/\∃ z0 z1 z2,x.1=.agg [z0,z1,z2]/\(g.h=[]\/∃ el sp,z0=.slice el sp/\el.length=g.h.length)/\(g.c=[]\/∃ el sp,z1=.slice el sp/\el.length=g.c.length)/\(g.p=[]\/∃ el sp,z2=.slice el sp/\el.length=g.p.length):=by
 obtain ⟨xs,n,-,rfl,hl,hn,hf⟩:=DataW.trod_struct Tryz.underlying25 h
 have hn:xs.length=3:=hn
 match xs,hn with
 | [y0,y1,y2],_ =>
 have c0:Tryz.prog.cellsOf 22=1:=by kernel_rfl
 have c1:Tryz.prog.cellsOf 23=1:=by kernel_rfl
 have ca:Tryz.prog.cellsOf 25=3:=by kernel_rfl
 have f0:DataW.trod enc Tryz.prog W 0 (fun _=>true) true n 22 ((cs.drop 0).take (Tryz.prog.cellsOf 22))=some y0:=hf 0 _ rfl
 have f1:DataW.trod enc Tryz.prog W 0 (fun _=>true) true n 23 ((cs.drop 1).take (Tryz.prog.cellsOf 23))=some y1:=hf 1 _ rfl
 have f2:DataW.trod enc Tryz.prog W 0 (fun _=>true) true n 23 ((cs.drop 2).take (Tryz.prog.cellsOf 23))=some y2:=hf 2 _ rfl
 rw [c0] at f0
 rw [c1] at f1 f2
 rw [ca] at hl
 match cs,hl with
 | [vh,vc,vp],_ =>
 obtain ⟨hs,hi0,hL0,hb0⟩:=rC (c:=vh) f0
 obtain ⟨cs,hi1,hL1,hb1⟩:=kW (c:=vc) f1
 obtain ⟨ps,hi2,hL2,hb2⟩:=kW (c:=vp) f2
 exact ⟨⟨hs,cs,ps⟩,vh,vc,vp,rfl,hL0,hL1,hL2,hi0,hi1,hi2,y0.1,y1.1,y2.1,rfl,hb0,hb1,hb2⟩
theorem xR {H:Type} {enc:TypeId×Value->H} {W:World} {fuel:Nat} {c:Value} {y:DataW H×List MemPlace} (h:DataW.trod enc Tryz.prog W 0 (fun _=>true) true fuel 36 [c]=some y) :
    ∃ xs:List NeQ,(∀ a∈xs,a.In)/\Lst { P:=Tryz.prog,n:=0,w0:=W,X:=[],pk:=[] } c 68 xs.length (cat NeQ.A xs)/\(xs=[]\/∃ el sp,y.1=.slice el sp/\el.length=xs.length) :=
 jl (E:={ P:=Tryz.prog,n:=0,w0:=W,X:=[],pk:=[] }) (In:=NeQ.In) rfl Tryz.underlying36 (by kernel_rfl) (by decide) NeQ.size NeQ.one (fun fuel cs x h=>Bq h) h
theorem vv {H:Type} {enc:TypeId×Value->H} {W:World} {fuel:Nat} {c:Value} {y:DataW H×List MemPlace} (h:DataW.trod enc Tryz.prog W 0 (fun _=>true) true fuel 37 [c]=some y) :
    ∃ xs:List AcQ,(∀ a∈xs,a.In)/\Lst { P:=Tryz.prog,n:=0,w0:=W,X:=[],pk:=[] } c 136 xs.length (cat AcQ.A xs)/\(xs=[]\/∃ el sp,y.1=.slice el sp/\el.length=xs.length) :=
 jl (E:={ P:=Tryz.prog,n:=0,w0:=W,X:=[],pk:=[] }) (In:=AcQ.In) rfl Tryz.underlying37 (by kernel_rfl) (by decide) AcQ.size AcQ.one (fun fuel cs x h=>xU h) h
theorem th {H:Type} {P:Program} {t tj:TypeId} {fs:Array Field} {parts:List (DataW H)} {dj:DataW H} {j w:Nat} (hu:P.underlying t=some (.struct fs)) (ht:(fs.toList.map (·.type))[j]? = some tj) (hd:parts[j]? = some dj) (hw:w∈DataW.weights P tj dj):w∈DataW.weights P t (.agg parts):=by
 simp only [DataW.weights,hu]
 exact DataW.weights_mem_each ht hd w hw
theorem pL {H:Type} {P:Program} {t e:TypeId} {el sp:List (DataW H)} {B:Nat} (hu:P.underlying t=some (.slice e)) (hb:P.bytesOf e=B) (h:∀ w∈DataW.weights P t (.slice el sp),w<=reachBytes):el.length*B<=140737488355328:=by
 have:=h ((el.length+sp.length)*P.bytesOf e) (by simp [DataW.weights,hu])
 rw [hb] at this
 have h3:=reachBytes_lt
 have h4:el.length*B<=(el.length+sp.length)*B:=Nat.mul_le_mul_right _ (by omega)
 omega
theorem qp {cs:List Value} {k:Nat} (h:k < cs.length):∃ c,(cs.drop k).take 1=[c]:=by
 refine ⟨cs[k],?_⟩
 rw [List.drop_eq_getElem_cons h]
 rfl
theorem tG {H:Type} {enc:TypeId×Value->H} {W:World} {fuel:Nat} {cs:List Value} {x:DataW H×List MemPlace} (h:DataW.trod enc Tryz.prog W 0 (fun _=>true) true fuel 39 cs=some x) (hw:∀ n∈DataW.weights Tryz.prog 39 x.1,n<=reachBytes) :
    ∃ (v:VQ) (vh vc vp vq vs vn va:Value),cs=(v.A vh vc vp vq vs vn va).toList/\VIn { P:=Tryz.prog,n:=0,w0:=W,X:=[],pk:=[] } v vh vc vp vq vs vn va:=by
 obtain ⟨xs,n,-,rfl,hl,hn,hf⟩:=DataW.trod_struct Tryz.underlying39 h
 have hn:xs.length=9:=hn
 match xs,hn with
 | [y0,y1,y2,y3,y4,y5,y6,y7,y8],_ =>
 have ci:Tryz.prog.cellsOf 3=1:=by kernel_rfl
 have ct:Tryz.prog.cellsOf 9=1:=by kernel_rfl
 have cp:Tryz.prog.cellsOf 25=3:=by kernel_rfl
 have cq:Tryz.prog.cellsOf 26=1:=by kernel_rfl
 have cl:Tryz.prog.cellsOf 35=68:=by kernel_rfl
 have cn:Tryz.prog.cellsOf 36=1:=by kernel_rfl
 have cr:Tryz.prog.cellsOf 37=1:=by kernel_rfl
 have ca:Tryz.prog.cellsOf 39=78:=by kernel_rfl
 have f0:DataW.trod enc Tryz.prog W 0 (fun _=>true) true n 9 ((cs.drop 0).take (Tryz.prog.cellsOf 9))=some y0:=hf 0 _ rfl
 have f1:DataW.trod enc Tryz.prog W 0 (fun _=>true) true n 9 ((cs.drop 1).take (Tryz.prog.cellsOf 9))=some y1:=hf 1 _ rfl
 have f2:DataW.trod enc Tryz.prog W 0 (fun _=>true) true n 3 ((cs.drop 2).take (Tryz.prog.cellsOf 3))=some y2:=hf 2 _ rfl
 have f3:DataW.trod enc Tryz.prog W 0 (fun _=>true) true n 3 ((cs.drop 3).take (Tryz.prog.cellsOf 3))=some y3:=hf 3 _ rfl
 have f4:DataW.trod enc Tryz.prog W 0 (fun _=>true) true n 25 ((cs.drop 4).take (Tryz.prog.cellsOf 25))=some y4:=hf 4 _ rfl
 have f5:DataW.trod enc Tryz.prog W 0 (fun _=>true) true n 26 ((cs.drop 7).take (Tryz.prog.cellsOf 26))=some y5:=hf 5 _ rfl
 have f6:DataW.trod enc Tryz.prog W 0 (fun _=>true) true n 35 ((cs.drop 8).take (Tryz.prog.cellsOf 35))=some y6:=hf 6 _ rfl
 have f7:DataW.trod enc Tryz.prog W 0 (fun _=>true) true n 36 ((cs.drop 76).take (Tryz.prog.cellsOf 36))=some y7:=hf 7 _ rfl
 have f8:DataW.trod enc Tryz.prog W 0 (fun _=>true) true n 37 ((cs.drop 77).take (Tryz.prog.cellsOf 37))=some y8:=hf 8 _ rfl
 have w4:∀ m∈DataW.weights Tryz.prog 25 y4.1,m<=reachBytes:=fun m hm=>hw m (th (j:=4) Tryz.underlying39 rfl rfl hm)
 have w5:∀ m∈DataW.weights Tryz.prog 26 y5.1,m<=reachBytes:=fun m hm=>hw m (th (j:=5) Tryz.underlying39 rfl rfl hm)
 have w6:∀ m∈DataW.weights Tryz.prog 35 y6.1,m<=reachBytes:=fun m hm=>hw m (th (j:=6) Tryz.underlying39 rfl rfl hm)
 have w7:∀ m∈DataW.weights Tryz.prog 36 y7.1,m<=reachBytes:=fun m hm=>hw m (th (j:=7) Tryz.underlying39 rfl rfl hm)
 have w8:∀ m∈DataW.weights Tryz.prog 37 y8.1,m<=reachBytes:=fun m hm=>hw m (th (j:=8) Tryz.underlying39 rfl rfl hm)
 clear hw
 rw [ct] at f0 f1
 rw [ci] at f2 f3
 rw [cp] at f4
 rw [cq] at f5
 rw [cl] at f6
 rw [cn] at f7
 rw [cr] at f8
 rw [ca] at hl
 obtain ⟨vq,e5⟩:=qp (cs:=cs) (k:=7) (by omega)
 obtain ⟨vn,e7⟩:=qp (cs:=cs) (k:=76) (by omega)
 obtain ⟨va,e8⟩:=qp (cs:=cs) (k:=77) (by omega)
 rw [e5] at f5
 rw [e7] at f7
 rw [e8] at f8
 obtain ⟨cur,e0,k0⟩:=iu f0
 obtain ⟨piv,e1,k1⟩:=iu f1
 obtain ⟨day,e2,-⟩:=iw f2
 obtain ⟨known,e3,-⟩:=iw f3
 obtain ⟨g,vh,vc,vp,e4,L0,L1,L2,i0,i1,i2,z0,z1,z2,hd,b0,b1,b2⟩:=qe f4
 obtain ⟨qs,i5,L5,b5⟩:=Bo f5
 obtain ⟨pol,vs,i6,e6,L6,b6⟩:=Bp f6
 obtain ⟨nst,i7,L7,b7⟩:=xR f7
 obtain ⟨acs,i8,L8,b8⟩:=vv f8
 rw [hd] at w4
 refine ⟨⟨cur,piv,day,known,g,qs,pol,nst,acs⟩,vh,vc,vp,vq,vs,vn,va,?_,⟨L0,L1,L2,⟨?_,?_,?_⟩,i0,i1,i2⟩,⟨L5,?_,i5,L6,?_,i6⟩,L7,?_,i7,L8,?_,i8,k0,k1⟩
 ·have s0:=aM e0
  rw [List.drop_zero] at s0
  rw [s0,aM e1,aM e2,aM e3,aM e4,aM e5,aM e6,aM e7,aM e8,List.drop_eq_nil_of_le (by omega),List.append_nil]
  simp [VQ.A]
 ·show g.h.length<=6000000000000
  rcases b0 with h | ⟨el,sp,rfl,h2⟩
  ·rw [h];simp
  ·have:=pL Tryz.underlying22 (B:=24) (by kernel_rfl) fun m hm=>w4 m (th (j:=0) Tryz.underlying25 rfl rfl hm)
   omega
 ·show g.c.length<=6000000000000
  rcases b1 with h | ⟨el,sp,rfl,h2⟩
  ·rw [h];simp
  ·have:=pL Tryz.underlying23 (B:=32) (by kernel_rfl) fun m hm=>w4 m (th (j:=1) Tryz.underlying25 rfl rfl hm)
   omega
 ·show g.p.length<=6000000000000
  rcases b2 with h | ⟨el,sp,rfl,h2⟩
  ·rw [h];simp
  ·have:=pL Tryz.underlying23 (B:=32) (by kernel_rfl) fun m hm=>w4 m (th (j:=2) Tryz.underlying25 rfl rfl hm)
   omega
 ·show qs.length<=1000000000000
  rcases b5 with h | ⟨el,sp,h,h2⟩
  ·rw [h];simp
  ·rw [h] at w5
   have:=pL Tryz.underlying26 (B:=336) (by kernel_rfl) w5
   omega
 ·show pol.srcs.length<=1000000000000000
  rcases b6 with h | ⟨el,sp,r1,r2,h,h2⟩
  ·rw [h];simp
  ·rw [h] at w6
   have:=pL Tryz.underlying27 (B:=16) (by kernel_rfl) fun m hm=>w6 m (th (j:=0) Tryz.underlying35 rfl rfl hm)
   omega
 ·show nst.length<=2000000000000
  rcases b7 with h | ⟨el,sp,h,h2⟩
  ·rw [h];simp
  ·rw [h] at w7
   have:=pL Tryz.underlying36 (B:=296) (by kernel_rfl) w7
   omega
 ·show acs.length<=2000000000000
  rcases b8 with h | ⟨el,sp,h,h2⟩
  ·rw [h];simp
  ·rw [h] at w8
   have:=pL Tryz.underlying37 (B:=568) (by kernel_rfl) w8
   omega
end Go.Proofs.YtklehfchdoikeaaGreatDoor
namespace Go.Proofs.YtklehfchdoikeaaGreatDoor
open Go Go.RowKit Go.SX
def LnQ.beq (a b:LnQ):Bool:=(a.kind == b.kind) && (decide (a.nm=b.nm) && ((a.day == b.day) && ((a.qty == b.qty) && (a.price.beq b.price && (a.rate.beq b.rate && ((a.amt == b.amt) && true))))))
theorem Cc {d:Nat} {a b:LnQ} (ha:a.In) (hb:b.In) (w:World):(Op.equalIn (d+1+1+1+1+1) 77 (.agg a.A) (.agg b.A)).run Tryz.prog w=.ok (a.beq b) w:=by
 rw [run_equalIn_struct w (d+1+1+1+1) 77 _ _ (by simp only [Program.fieldsOf,Tryz.underlying77]) (by kernel_rfl)]
 rw [show (Tryz.prog.fieldsOf 77).toList=[⟨ "Kind",3,0,false,"","",0⟩,⟨ "Name",9,1,false,"","",8⟩,⟨ "Day",3,2,false,"","",24⟩,⟨ "Quantity",3,3,false,"","",32⟩,⟨ "Price",33,4,false,"","",40⟩,⟨ "Rate",33,70,false,"","",304⟩,⟨ "Amount",3,136,false,"","",568⟩] from by simp only [Program.fieldsOf,Tryz.underlying77]]
 refine cg (by decide) (bm mw rfl a.g0 w) (bm mw rfl b.g0 w) (iF _ Tryz.underlying3 _ _ w) fun _=>?_
 refine cg (by decide) (bm GQ rfl a.g1 w) (bm GQ rfl b.g1 w) (Fm _ _ w) fun _=>?_
 refine cg (by decide) (bm mw rfl a.g2 w) (bm mw rfl b.g2 w) (iF _ Tryz.underlying3 _ _ w) fun _=>?_
 refine cg (by decide) (bm mw rfl a.g3 w) (bm mw rfl b.g3 w) (iF _ Tryz.underlying3 _ _ w) fun _=>?_
 refine cg (a:=.agg a.price.A) (b:=.agg b.price.A) (by decide) ?_ ?_ (dX ha.price hb.price w) fun _=>?_
 ·rw [cv mv rfl _ _ w];exact congrArg (fun x=>Result.ok (Value.agg x) w) a.gprice
 ·rw [cv mv rfl _ _ w];exact congrArg (fun x=>Result.ok (Value.agg x) w) b.gprice
 refine cg (a:=.agg a.rate.A) (b:=.agg b.rate.A) (by decide) ?_ ?_ (dX ha.rate hb.rate w) fun _=>?_
 ·rw [cv mv rfl _ _ w];exact congrArg (fun x=>Result.ok (Value.agg x) w) a.grate
 ·rw [cv mv rfl _ _ w];exact congrArg (fun x=>Result.ok (Value.agg x) w) b.grate
 exact cg (by decide) (bm mw rfl a.g136 w) (bm mw rfl b.g136 w) (iF _ Tryz.underlying3 _ _ w) fun _=>pC
theorem E4:Tryz.prog.eqGuardType Tryz.prog.depth 77=false:=by kernel_rfl
theorem LnQ.beq_self (a:LnQ):a.beq a=true:=by simp [LnQ.beq,RQ.beq_self]
theorem Hp {E:Env} (hE:E.P=Tryz.prog) {a:LnQ} (ha:a.In) {u v:Operand}:bB E (do eqGuard .neq 77 u v (.agg a.A) (.agg a.A);binOp .neq 77 (.agg a.A) (.agg a.A)) (.bool false):=by
 have:=p5 (E:=E) (t:=77) (x:=u) (y:=v) (by rw [hE];exact E4) fun w=>by rw [hE];exact Cc ha ha w
 rwa [LnQ.beq_self] at this
theorem Hn (j:Nat):aL 0 ((j:Nat):Int) oY.size=j*137:=by
 show aL 0 ((j:Nat):Int) 137=j*137
 simp [aL]
abbrev lnB (v:Value) (l:List LnQ):Blk:=Blk.own v 77 137 l.length (cat LnQ.A l)
theorem Dy {E:Env} (hE:E.P=Tryz.prog) {s:ShQ} {x y:Value} (hx:IsL x s.lines.length) (hy:IsL y s.lines.length) (hb:s.lines.length<=1000000000000) (hin:∀ l∈s.lines,l.In):OwnC E 16 [SV.c (.agg (s.A x)),SV.c (.agg (s.A y))] [(9800,lnB x s.lines),(9801,lnB y s.lines)] (fun r U=>r=.bool true/\U=[(9800,lnB x s.lines),(9801,lnB y s.lines)]):=by
 refine aA [] ai ak R8 E hE [SV.c (.agg (s.A x)),SV.c (.agg (s.A y))] [(9800,lnB x s.lines),(9801,lnB y s.lines)] _ rfl rfl fun w X β hT=>?_
 have hE':(aT Tryz.prog tt Tryz.f16.ntmps w X (aF [(9800,lnB x s.lines),(9801,lnB y s.lines)] β)).toEnv.P=Tryz.prog:=rfl
 obtain ⟨xa,xc,rfl⟩:=hx.len
 obtain ⟨ya,yc,rfl⟩:=hy.len
 have nt:∀ {p:Prop},false=true->p:=fun h=>by cases h
 refine ⟨rfl,rfl,_,rfl,_,rfl,fun _=>?_,fun h=>absurd h (by simp)⟩
 refine ⟨_,rfl,_,rfl,fun _=>?_,fun h=>absurd h (by simp)⟩
 refine ⟨_,rfl,_,rfl,fun _=>?_,fun h=>absurd h (by simp)⟩
 refine ⟨_,rfl,_,rfl,fun _=>?_,fun h=>absurd h (by simp)⟩
 refine ⟨_,rfl,_,fun w1 _=>al Tryz.underlying40 w1,_,rfl,_,fun w1 _=>al Tryz.underlying40 w1,?_⟩
 refine ⟨fun c=>absurd c (by simp),fun _=>?_⟩
 refine ⟨fun q f m=>∃ i:Nat,q=s.lines.length - i/\i<=s.lines.length/\f=[(2,SV.ptr 2 0),(3,SV.ptr 3 0),(5,SV.c (.int .i64 (i:Nat)))]/\m=[(3,Blk.row 42 5 (s.A (.slice ya s.lines.length yc))),(2,Blk.row 42 5 (s.A (.slice xa s.lines.length xc))),(9800,lnB (.slice xa s.lines.length xc) s.lines),(9801,lnB (.slice ya s.lines.length yc) s.lines)],s.lines.length,⟨_,_,⟨0,by omega,by omega,rfl,rfl⟩,⟨rfl,rfl,rfl,trivial⟩,⟨rfl,rfl,.inl rfl,.inl rfl,trivial⟩,rfl⟩,?_⟩
 rintro q f m ⟨i,rfl,hi,rfl,rfl⟩
 refine ⟨_,rfl,_,fun w' _=>al Tryz.underlying40 w',fun h=>?_,fun h=>?_⟩
 ·have h:i < s.lines.length:=by have:=af h;omega
  rcases hx with ⟨hs1,hs2⟩ | ⟨g0,c0,hs1⟩
  ·omega
  cases hs1
  rcases hy with ⟨hs1,hs2⟩ | ⟨g1,c1,hs1⟩
  ·omega
  cases hs1
  obtain ⟨y,hy⟩:∃ y,s.lines[i]? = some y:=⟨_,List.getElem?_eq_getElem (by omega)⟩
  have L1:=bz LnQ.size hy
  have hsz:(cat LnQ.A s.lines).size=s.lines.length*137:=Go.SX.cat_size LnQ.size _
  have N1:=fun (u v:Operand)=>Hp hE' (hin y (List.mem_of_getElem? hy)) (u:=u) (v:=v)
  have F1:=y.fits
  generalize hYA:y.A=YA at L1 N1 F1
  refine ⟨_,rfl,by omega,by omega,.inr ⟨9800,g0,_,s.lines.length,_,_,_,_,rfl,rfl,(by rw [Hn,hsz];show i*137+137<=s.lines.length*137;omega),YA,(by rw [Hn];exact L1),?_⟩⟩
  refine ⟨_,rfl,by omega,by omega,.inr ⟨9801,g1,_,s.lines.length,_,_,_,_,rfl,rfl,(by rw [Hn,hsz];show i*137+137<=s.lines.length*137;omega),YA,(by rw [Hn];exact L1),?_⟩⟩
  refine ⟨_,N1 _ _,by kernel_rfl,nt,fun _=>?_⟩
  exact ⟨s.lines.length - (i+1),_,_,by omega,⟨i+1,rfl,by omega,rfl,rfl⟩,⟨rfl,rfl,am (ar (by omega)),trivial⟩,⟨rfl,rfl,.inl rfl,.inl rfl,trivial⟩,rfl⟩
 ·have h:i=s.lines.length:=by have:=ag h;omega
  subst h
  exact ⟨[_,_],[],⟨rfl,rfl⟩,⟨.inl rfl,.inl rfl,trivial⟩,rfl⟩
def bK:Bs:=[85,83,68]
def pR:Bs:=[69,85,82]
def Qo:Bs:=[69,85,82,85,83,68]
def vL:List QC:=[⟨[97],[65,67,77,69],bK,9,(mkQ 405 4).1,1,false⟩,⟨[97],Qo,bK,9,(mkQ 5 4).1,2,false⟩]
def il:PL:=⟨[[97]],(mkQ 0 1).1,0⟩
def kV (c:Bs):VQ:=⟨c,bK,9,9,⟨[([65,67,77,69],10)],[((bK,0),500)],[]⟩,vL,il,[],[]⟩
theorem kV1:(dy (kV bK)).2=0:=by kernel_rfl
theorem kV2:(dy (kV bK)).1.total=101750:=by kernel_rfl
theorem kV3:(dy (kV bK)).1.lines.length=2:=by kernel_rfl
theorem kV4:(dy (kV pR)).2=0:=by kernel_rfl
theorem kV5:(dy (kV pR)).1.total=81400:=by kernel_rfl
theorem kV6:lj (dy (kV bK)).1=0:=by kernel_rfl
theorem kV7:lj dk=200:=by kernel_rfl
theorem GI {E:Env} (hE:E.P=Tryz.prog) {v:VQ} {vh vc vp vq vs vn va:Value} {A:Array Value} (hA:VA v vh vc vp vq vs vn va A) (l:List OB) (hd:Go.SX.distinct (l.map OB.k)=true) (h9:(l.map OB.k).contains 9800=false) (h1:∀ b∈l,b.A.all (·.oneCell')=true)
    (h:∀ E0:Env,E0.P=Tryz.prog->(∀ w,OldW E0 w->OldW E w)->(∀ b∈l,Lst E0 b.v b.sz b.n b.A)->VIn E0 v vh vc vp vq vs vn va):OwnC E 11 [SV.c (.agg A)] (l.map OB.m) (fun x U=>∃ U0,CG (dy v) x U0/\U=l.map OB.m++U0) :=
 J0 l hd h1 (fun x U hq b hb=>by
  obtain ⟨y,_,_,rfl⟩:=hq
  have hk:b.k≠9800:=fun e=>by
   have:=List.mem_map_of_mem (f:=OB.k) hb
   rw [e] at this
   simp only [List.contains_eq_mem,decide_eq_false_iff_not] at h9
   exact h9 this
  simp only [ay]
  rw [if_neg (fun e=>hk e.symm)]) (by rw [hE];exact P6.enters) fun E0 h0 ho hl=>zb (h0.trans hE) hA (h E0 (h0.trans hE) ho hl)
theorem CW {E:Env} (hE:E.P=Tryz.prog) {s:ShQ} {vl:Value} {n:Nat} (hn:n=s.lines.length) (hin:∀ y∈s.lines,y.In) (hcur:s.cur.length<=9223372036854775807):OwnC E 30 [SV.c (.agg (s.A vl))] [(9820,Blk.own vl 77 137 n (cat LnQ.A s.lines))] (fun r U=>r=.int .i64 (lj s)/\U=[(9820,Blk.own vl 77 137 n (cat LnQ.A s.lines))]):=by
 subst hn
 refine (J0 (f:=30) (sv:=[SV.c (.agg (s.A vl))]) (Q:=fun r U=>r=.int .i64 (lj s)/\U=[]) [⟨9820,vl,77,137,s.lines.length,cat LnQ.A s.lines⟩] rfl ?_ ?_ (by rw [hE];exact M4.enters) fun E0 h0 ho hl=>uJ (h0.trans hE) (hl ⟨9820,vl,77,137,s.lines.length,cat LnQ.A s.lines⟩ (List.mem_singleton.2 rfl)) hin hcur).mono ?_
 ·intro b hb
  obtain rfl:=List.mem_singleton.1 hb
  exact Go.SX.cat_all LnQ.one _
 ·rintro x U ⟨_,rfl⟩ b hb
  rfl
 ·rintro x U ⟨U0,⟨h1,rfl⟩,rfl⟩
  exact ⟨h1,rfl⟩
theorem HZ (a:Option Addr) (m c:Nat) (r:RQ) (l:List (List UInt8)) {pl:List (Nat×Nat)} (hpl:pl=[(0,1),(1,66),(67,1)]):Instr.fill (fun k=>pl[k]?) Ln.zero [(0,.slice a m c),(1,.agg r.A)]=some (PL.A ⟨l,r,0⟩ (.slice a m c)):=by
 subst hpl
 kernel_rfl
def vA0 (c:Bs) (vh vc vq:Value) (p:PL) (vs:Value):Array Value:=VQ.A ⟨c,bK,9,9,⟨[],[],[]⟩,[],p,[],[]⟩ vh vc (.slice none 0 0) vq vs (.slice none 0 0) (.slice none 0 0)
theorem HY (a:Option Addr) (m c:Nat) (p:PL) {pl:List (Nat×Nat)} (hpl:pl=[(0,1),(1,1),(2,1),(3,1),(4,3),(7,1),(8,68),(76,1),(77,1)]):Instr.fill (fun k=>pl[k]?) JG.zero [(0,.string (S [85,83,68])),(1,.string (S [85,83,68])),(2,.int .i64 9),(3,.int .i64 9),(6,.agg (p.A (.slice a m c)))]=some (vA0 bK (.slice none 0 0) (.slice none 0 0) (.slice none 0 0) p (.slice a m c)):=by
 subst hpl
 kernel_rfl
theorem Ai (src ins:List UInt8) (day known:Int) (r:RQ) {pl:List (Nat×Nat)} (hpl:pl=[(0,1),(1,1),(2,1),(3,1),(4,66),(70,1),(71,1)]):Instr.fill (fun k=>pl[k]?) gg.zero [(0,.string (S src)),(1,.string (S ins)),(2,.string (S [85,83,68])),(3,.int .i64 day),(4,.agg r.A),(5,.int .i64 known)]=some (QC.A ⟨src,ins,[85,83,68],day,r,known,false⟩):=by
 subst hpl
 kernel_rfl
theorem HX (a b:QC):Instr.fill (fun k=>some (k*gg.size,gg.size)) (madeCells gg.zero (2*gg.size)) [(0,.agg a.A),(1,.agg b.A)]=some (cat QC.A [a,b]):=by kernel_rfl
theorem HW:Instr.fill (fun k=>some (k*ti9.size,ti9.size)) (madeCells ti9.zero (1*ti9.size)) [(0,.string (S [97]))]=some (cat cP il.srcs):=by kernel_rfl
theorem HV {pl:List (Nat×Nat)} (hpl:pl=[(0,1),(1,1)]):Instr.fill (fun k=>pl[k]?) pV.zero [(0,.string (S [65,67,77,69])),(1,.int .i64 10)]=some (je ([65,67,77,69],10)):=by
 subst hpl
 kernel_rfl
theorem HU:Instr.fill (fun k=>some (k*pV.size,pV.size)) (madeCells pV.zero (1*pV.size)) [(0,.agg (je ([65,67,77,69],10)))]=some (cat je (kV bK).g.h):=by kernel_rfl
theorem HT {pl:List (Nat×Nat)} (hpl:pl=[(0,1),(1,1),(2,1)]):Instr.fill (fun k=>pl[k]?) kR.zero [(0,.string (S [85,83,68])),(2,.int .i64 500)]=some (fq (([85,83,68],0),500)):=by
 subst hpl
 kernel_rfl
theorem HS:Instr.fill (fun k=>some (k*kR.size,kR.size)) (madeCells kR.zero (1*kR.size)) [(0,.agg (fq (([85,83,68],0),500)))]=some (cat fq (kV bK).g.c):=by kernel_rfl
theorem Fd (a b:Option Addr) (n m c d:Nat) {pl:List (Nat×Nat)} (hpl:pl=[(0,1),(1,1),(2,1)]):Instr.fill (fun k=>pl[k]?) LN.zero [(0,.slice a n c),(1,.slice b m d)]=some #[.slice a n c,.slice b m d,.slice none 0 0]:=by
 subst hpl
 kernel_rfl
theorem KX (p:PL) (vs vh vc:Value):bh (vA0 bK (.slice none 0 0) (.slice none 0 0) (.slice none 0 0) p vs) (0+4) #[vh,vc,.slice none 0 0].toList=vA0 bK vh vc (.slice none 0 0) p vs:=by kernel_rfl
theorem Qp (p:PL) (vs vh vc vq:Value):(vA0 bK vh vc (.slice none 0 0) p vs).setIfInBounds (0+7) vq=vA0 bK vh vc vq p vs:=by kernel_rfl
theorem JB (p:PL) (vs vh vc vq:Value):(vA0 bK vh vc vq p vs).setIfInBounds (0+0) (.string (S [69,85,82]))=vA0 pR vh vc vq p vs:=by kernel_rfl
theorem tw (c:Bs) (p:PL) (a1 a2 a3 a4:Option Addr) (n1 n2 n3 n4 c1 c2 c3 c4:Nat):Fits (vA0 c (.slice a1 n1 c1) (.slice a2 n2 c2) (.slice a3 n3 c3) p (.slice a4 n4 c4)) 78:=by
 have hp:=p.fits (v:=.slice a4 n4 c4) rfl
 refine ⟨by simp [vA0,VQ.A,p.size],?_⟩
 have:=hp.one
 simp only [vA0,VQ.A,Array.all_append,Bool.and_eq_true]
 exact ⟨by simp [Value.oneCell'],this,by simp [Value.oneCell']⟩
theorem KW:∀ y∈vL,y.In:=by
 intro y hy
 simp only [vL,List.mem_cons,List.not_mem_nil,or_false] at hy
 rcases hy with rfl | rfl
 ·exact ⟨fx _ _,by show (1:Nat)<=_;decide,by show (4:Nat)<=_;decide,by show (3:Nat)<=_;decide,by show (-9223372036854775808:Int)<=9/\(9:Int)<=9223372036854775807;decide⟩
 ·exact ⟨fx _ _,by show (1:Nat)<=_;decide,by show (6:Nat)<=_;decide,by show (3:Nat)<=_;decide,by show (-9223372036854775808:Int)<=9/\(9:Int)<=9223372036854775807;decide⟩
theorem GK:il.In:=⟨fx _ _,by decide,by decide⟩
theorem Mq {E:Env} (hE:E.P=Tryz.prog) {c:Bs} (hc:c.length<=9223372036854775807) {vh vc vq vs:Value} {A:Array Value} (hA:vA0 c vh vc vq il vs=A):OwnC E 11 [SV.c (.agg A)] [(9911,Blk.own vh 59 2 1 (cat je (kV bK).g.h)),(9912,Blk.own vc 88 3 1 (cat fq (kV bK).g.c)),(9913,Blk.own vq 63 72 2 (cat QC.A vL)),(9914,Blk.own vs 9 1 1 (cat cP il.srcs))]
    (fun x U=>∃ U0,CG (dy (kV c)) x U0/\U=[(9911,Blk.own vh 59 2 1 (cat je (kV bK).g.h)),(9912,Blk.own vc 88 3 1 (cat fq (kV bK).g.c)),(9913,Blk.own vq 63 72 2 (cat QC.A vL)),(9914,Blk.own vs 9 1 1 (cat cP il.srcs))]++U0):=by
 refine GI hE (v:=kV c) (vh:=vh) (vc:=vc) (vp:=.slice none 0 0) (vq:=vq) (vs:=vs) (vn:=.slice none 0 0) (va:=.slice none 0 0) (by rw [<- hA];exact VQ.at (kV c) _ _ _ _ _ _ _) [⟨9911,vh,59,2,1,cat je (kV bK).g.h⟩,⟨9912,vc,88,3,1,cat fq (kV bK).g.c⟩,⟨9913,vq,63,72,2,cat QC.A vL⟩,⟨9914,vs,9,1,1,cat cP il.srcs⟩] rfl rfl ?_ ?_
 ·intro b hb
  simp only [List.mem_cons,List.not_mem_nil,or_false] at hb
  rcases hb with rfl | rfl | rfl | rfl
  ·exact Go.SX.cat_all uT _
  ·exact Go.SX.cat_all mB _
  ·exact Go.SX.cat_all QC.all1 _
  ·exact Go.SX.cat_all ft _
 ·intro E0 h0 ho hl
  have l1:=hl ⟨9911,vh,59,2,1,cat je (kV bK).g.h⟩ (by simp)
  have l2:=hl ⟨9912,vc,88,3,1,cat fq (kV bK).g.c⟩ (by simp)
  have l3:=hl ⟨9913,vq,63,72,2,cat QC.A vL⟩ (by simp)
  have l4:=hl ⟨9914,vs,9,1,1,cat cP il.srcs⟩ (by simp)
  exact ⟨⟨l1,l2,Lst.nil _ _,⟨by show 1<=_;decide,by show 1<=_;decide,by show 0<=_;decide⟩,by show ∀ x∈[(([65,67,77,69]:Bs),(10:Int))],_;simp,by show ∀ x∈[((bK,(0:Int)),(500:Int))],_;simp [bK],nofun⟩,⟨l3,by show 2<=_;decide,KW,l4,by show 1<=_;decide,GK⟩,Lst.nil _ _,by show 0<=_;decide,nofun,Lst.nil _ _,by show 0<=_;decide,nofun,hc,by show 3<=_;decide⟩
theorem pn (s:ShQ) (a:Option Addr) (n c:Nat):Fits (s.A (.slice a n c)) 5:=⟨rfl,by simp [ShQ.A,Value.oneCell']⟩
theorem kV8:(dy (kV bK)).1.cur=bK:=by kernel_rfl
theorem ED {E:Env} (hE:E.P=Tryz.prog) (k7:∀ y∈(dy (kV bK)).1.lines,y.In):OwnC E 13 [] [] (fun x U=>x=.bool true/\U=[]):=by
 refine aA [] ai ak PE E hE [] [] _ rfl rfl fun w X β hT=>?_
 have hE':(aT Tryz.prog tt Tryz.f13.ntmps w X (aF [] β)).toEnv.P=Tryz.prog:=rfl
 have O1:=tY (n:=0) (d:=1) (by decide) (by decide) (by decide) (by decide)
 have O2:=tY (n:=405) (d:=4) (by decide) (by decide) (by decide) (by decide)
 have O3:=tY (n:=5) (d:=4) (by decide) (by decide) (by decide) (by decide)
 have P1:=fun (g:Nat)=>HZ (some ⟨g,0,none⟩) 1 1 (mkQ 0 1).1 il.srcs (pl:=[(0,1),(1,66),(67,1)]) rfl
 rw [show (⟨il.srcs,(mkQ 0 1).1,0⟩:PL)=il from rfl] at P1
 have P2:=fun (g:Nat)=>HY (some ⟨g,0,none⟩) 1 1 il (pl:=[(0,1),(1,1),(2,1),(3,1),(4,3),(7,1),(8,68),(76,1),(77,1)]) rfl
 refine .inr ⟨by decide,by decide,by decide,_,HW,rfl,trivial,fun g=>?_⟩
 refine .inl ⟨_,O1,?_⟩
 have P1:=P1 g
 have P2:=P2 g
 have PF1:=tw bK il none none none (some ⟨g,0,none⟩) 0 0 0 1 0 0 0 1
 have S1:=fun (vh vc:Value)=>KX il (.slice (some ⟨g,0,none⟩) 1 1) vh vc
 generalize hPA:il.A (.slice (some ⟨g,0,none⟩) 1 1)=PA at P1 P2
 generalize hV0:vA0 bK (.slice none 0 0) (.slice none 0 0) (.slice none 0 0) il (.slice (some ⟨g,0,none⟩) 1 1)=V0 at P2 PF1 S1
 refine ⟨_,P1,_,P2,PF1,_,HV rfl,?_⟩
 refine .inr ⟨by decide,by decide,by decide,_,HU,rfl,trivial,fun gh=>?_⟩
 refine ⟨_,HT rfl,?_⟩
 refine .inr ⟨by decide,by decide,by decide,_,HS,rfl,trivial,fun gc=>?_⟩
 have P3:=Fd (some ⟨gh,0,none⟩) (some ⟨gc,0,none⟩) 1 1 1 1 (pl:=[(0,1),(1,1),(2,1)]) rfl
 have S1:=S1 (.slice (some ⟨gh,0,none⟩) 1 1) (.slice (some ⟨gc,0,none⟩) 1 1)
 have S2:=fun (vq:Value)=>Qp il (.slice (some ⟨g,0,none⟩) 1 1) (.slice (some ⟨gh,0,none⟩) 1 1) (.slice (some ⟨gc,0,none⟩) 1 1) vq
 generalize hV1:vA0 bK (.slice (some ⟨gh,0,none⟩) 1 1) (.slice (some ⟨gc,0,none⟩) 1 1) (.slice none 0 0) il (.slice (some ⟨g,0,none⟩) 1 1)=V1 at S1 S2
 refine ⟨_,P3,by decide,Mv rfl rfl rfl,V1,S1,?_⟩
 have Q1:=Ai [97] [65,67,77,69] 9 1 (mkQ 405 4).1 (pl:=[(0,1),(1,1),(2,1),(3,1),(4,66),(70,1),(71,1)]) rfl
 have Q2:=Ai [97] [69,85,82,85,83,68] 9 2 (mkQ 5 4).1 (pl:=[(0,1),(1,1),(2,1),(3,1),(4,66),(70,1),(71,1)]) rfl
 have QL:=HX ⟨[97],[65,67,77,69],[85,83,68],9,(mkQ 405 4).1,1,false⟩ ⟨[97],[69,85,82,85,83,68],[85,83,68],9,(mkQ 5 4).1,2,false⟩
 have QS:(cat QC.A vL).size=2*72:=by rw [Go.SX.cat_size QC.size];rfl
 refine .inl ⟨_,O2,_,Q1,.inl ⟨_,O3,_,Q2,.inr ⟨by decide,by decide,by decide,cat QC.A vL,QL,QS,trivial,fun gq=>?_⟩⟩⟩
 have S3:=JB il (.slice (some ⟨g,0,none⟩) 1 1) (.slice (some ⟨gh,0,none⟩) 1 1) (.slice (some ⟨gc,0,none⟩) 1 1) (.slice (some ⟨gq,0,none⟩) 2 2)
 have S2:=S2 (.slice (some ⟨gq,0,none⟩) 2 2)
 have L1:=fun A hA=>Mq (A:=A) hE' (c:=bK) (by decide) (vh:=.slice (some ⟨gh,0,none⟩) 1 1) (vc:=.slice (some ⟨gc,0,none⟩) 1 1) (vq:=.slice (some ⟨gq,0,none⟩) 2 2) (vs:=.slice (some ⟨g,0,none⟩) 1 1) hA
 have L2:=fun A hA=>Mq (A:=A) hE' (c:=pR) (by decide) (vh:=.slice (some ⟨gh,0,none⟩) 1 1) (vc:=.slice (some ⟨gc,0,none⟩) 1 1) (vq:=.slice (some ⟨gq,0,none⟩) 2 2) (vs:=.slice (some ⟨g,0,none⟩) 1 1) hA
 have PF2:=tw bK il (some ⟨gh,0,none⟩) (some ⟨gc,0,none⟩) (some ⟨gq,0,none⟩) (some ⟨g,0,none⟩) 1 1 2 1 1 1 2 1
 have PF3:=tw pR il (some ⟨gh,0,none⟩) (some ⟨gc,0,none⟩) (some ⟨gq,0,none⟩) (some ⟨g,0,none⟩) 1 1 2 1 1 1 2 1
 generalize hV2:vA0 bK (.slice (some ⟨gh,0,none⟩) 1 1) (.slice (some ⟨gc,0,none⟩) 1 1) (.slice (some ⟨gq,0,none⟩) 2 2) il (.slice (some ⟨g,0,none⟩) 1 1)=V2 at S2 S3 L1 PF2
 generalize hV3:vA0 pR (.slice (some ⟨gh,0,none⟩) 1 1) (.slice (some ⟨gc,0,none⟩) 1 1) (.slice (some ⟨gq,0,none⟩) 2 2) il (.slice (some ⟨g,0,none⟩) 1 1)=V3 at S3 L2 PF3
 have L1:=L1 V2 rfl
 have L2:=L2 V3 rfl
 have k1:=kV1
 have k2:=kV2
 have k3:=kV3
 have k4:=kV4
 have k5:=kV5
 have k6:=kV6
 have k8:=kV8
 generalize dy (kV bK)=R1 at *
 generalize dy (kV pR)=R2 at *
 obtain ⟨⟨c1,d1,n1,ls1,tot1⟩,e1⟩:=R1
 obtain ⟨⟨c2,d2,n2,ls2,tot2⟩,e2⟩:=R2
 have k1:e1=0:=k1
 have k2:tot1=101750:=k2
 have k3:ls1.length=2:=k3
 have k4:e2=0:=k4
 have k6:lj ⟨c1,d1,n1,ls1,tot1⟩=0:=k6
 have k8:c1=bK:=k8
 have k7:∀ y∈ls1,y.In:=k7
 have k5:tot2=81400:=k5
 subst k1 k2 k4 k5
 refine ⟨by decide,rfl,V2,S2,?_⟩
 refine .inr (.inr (.inr ⟨[(9911,11),(9912,13),(9913,20),(9914,6)],[9800],[_],[_,_,_,_],_,L1,rfl,⟨.inl rfl,.inl rfl,.inl rfl,.inl rfl,trivial⟩,rfl,trivial,?_⟩))
 rintro r U ⟨U0,⟨xl,q1,rfl,rfl⟩,rfl⟩
 obtain ⟨xa,xc,rfl⟩:=(show IsL xl ls1.length from q1).len
 refine ⟨rfl,pn _ _ _ _,by decide,rfl,V3,S3,?_⟩
 refine .inr (.inr (.inr ⟨[(9911,11),(9912,13),(9913,20),(9914,6),(9800,9801)],[9801],[_],[_,_,_,_],_,L2,rfl,⟨.inl rfl,.inl rfl,.inl rfl,.inl rfl,trivial⟩,rfl,trivial,?_⟩))
 rintro r U ⟨U0,⟨yl,q2,rfl,rfl⟩,rfl⟩
 obtain ⟨ya,yc,rfl⟩:=(show IsL yl ls2.length from q2).len
 refine ⟨rfl,pn _ _ _ _,?_⟩
 have tf:∀ {p:Prop},true=false->p:=fun h=>by cases h
 have VF:=fun (E0:Env) (h0:E0.P=Tryz.prog)=>CW (E:=E0) h0 (s:=⟨c1,d1,n1,ls1,101750⟩) (vl:=.slice xa ls1.length xc) (n:=ls1.length) rfl k7 (by rw [k8];decide)
 have VZ:=fun (E0:Env) (h0:E0.P=Tryz.prog)=>uJ (E:=E0) h0 (s:=dk) (vl:=.slice none 0 0) (Lst.nil _ _) nofun (by decide)
 rw [k6] at VF
 rw [kV7] at VZ
 refine ⟨fun _=>?_,fun h=>tf h⟩
 refine ⟨_,rfl,fun _=>?_,fun h=>tf h⟩
 refine ⟨_,rfl,_,fun w' _=>al Tryz.underlying40 w',fun _=>?_,fun h=>absurd (ag (show decide (((ls1.length:Nat):Int)=2)=false from h)) (by omega)⟩
 refine ⟨fun _=>?_,fun h=>tf h⟩
 refine ⟨_,rfl,fun _=>?_,fun h=>tf h⟩
 refine .inr (.inr (.inl ⟨[(9820,9800)],[_],[_],_,[_],VF _ hE',rfl,⟨.inl rfl,trivial⟩,rfl,rfl,?_⟩))
 refine ⟨fun _=>?_,fun h=>tf h⟩
 refine ⟨_,rfl,.inr (.inr (.inl ⟨[],[_],[],_,[],VZ _ hE',rfl,trivial,rfl,rfl,?_⟩))⟩
 exact ⟨[],[],⟨rfl,rfl⟩,trivial,rfl⟩
theorem kV9:(dy (kV bK)).1.lines=[⟨1,[65,67,77,69],9,10,(mkQ 405 4).1,(mkQ 1 1).1,101250⟩,⟨2,bK,9,500,(mkQ 1 100).1,(mkQ 1 1).1,500⟩]:=by kernel_rfl
theorem Q6:∀ y∈(dy (kV bK)).1.lines,y.In:=by
 rw [kV9]
 intro y hy
 simp only [List.mem_cons,List.not_mem_nil,or_false] at hy
 rcases hy with rfl | rfl
 ·exact ⟨by show (4:Nat)<=_;decide,by show (-9223372036854775808:Int)<=1/\(1:Int)<=9223372036854775807;decide,by show (-9223372036854775808:Int)<=9/\(9:Int)<=9223372036854775807;decide,by show (-9223372036854775808:Int)<=10/\(10:Int)<=9223372036854775807;decide,by show (-9223372036854775808:Int)<=101250/\(101250:Int)<=9223372036854775807;decide,fx _ _,fx _ _⟩
 ·exact ⟨by show (3:Nat)<=_;decide,by show (-9223372036854775808:Int)<=2/\(2:Int)<=9223372036854775807;decide,by show (-9223372036854775808:Int)<=9/\(9:Int)<=9223372036854775807;decide,by show (-9223372036854775808:Int)<=500/\(500:Int)<=9223372036854775807;decide,by show (-9223372036854775808:Int)<=500/\(500:Int)<=9223372036854775807;decide,fx _ _,fx _ _⟩
theorem Hy:aw Tryz.prog 13 [] (.bool true):=pr (vs:=[]) PE.enters fun _w=>ED rfl Q6
theorem Cb {E:Env} (hE:E.P=Tryz.prog) {v:VQ} {vh vc vp vq vs vn va:Value} {A:Array Value} (hA:VA v vh vc vp vq vs vn va A) (hF:Fits A 78) (I:VIn E v vh vc vp vq vs vn va) (k7:∀ y∈(dy v).1.lines,y.In) (k8:(dy v).1.lines.length<=1000000000000):OwnC E 3 [SV.c (.agg A)] [] (fun r U=>r=.bool true/\U=[]):=by
 refine aA [] ai ak at3 E hE [SV.c (.agg A)] [] _ rfl rfl fun w X β hT=>?_
 have hE':(aT Tryz.prog tt Tryz.f3.ntmps w X (aF [] β)).toEnv.P=Tryz.prog:=rfl
 have J:=I.of_old hT
 have V1:=zb hE' hA J
 have V2:=CZ hE' hA J
 have C1:=Ay hE' hA J
 have C2:=w3 hE' hA J
 generalize (if cY v then (0:Int) else 201)=CV at *
 generalize dy v=R at *
 obtain ⟨s,e⟩:=R
 have SM:=fun (E0:Env) (h0:E0.P=Tryz.prog) {x y:Value} (hx:IsL x s.lines.length) (hy:IsL y s.lines.length)=>Dy (E:=E0) h0 hx hy k8 k7
 refine ⟨hF.1,.inr (.inr (.inr ⟨[],[9800],[_],[],_,V1,rfl,trivial,rfl,trivial,?_⟩))⟩
 rintro r U ⟨xl,q1,rfl,rfl⟩
 obtain ⟨xa,xc,rfl⟩:=(show IsL xl s.lines.length from q1).len
 refine ⟨rfl,pn _ _ _ _,?_⟩
 refine .inr (.inr (.inr ⟨[(9800,9801)],[9801],[_],[],_,V2,rfl,trivial,rfl,trivial,?_⟩))
 rintro r U ⟨yl,q2,rfl,rfl⟩
 obtain ⟨ya,yc,rfl⟩:=(show IsL yl s.lines.length from q2).len
 refine ⟨rfl,pn _ _ _ _,?_⟩
 refine .inl ⟨_,Hy,fun _=>?_,fun h=>by cases h⟩
 refine .inr (.inr (.inl ⟨[],[_],[],_,[],C1,rfl,trivial,rfl,rfl,?_⟩))
 refine .inr (.inr (.inl ⟨[],[_],[],_,[],C2,rfl,trivial,rfl,rfl,?_⟩))
 refine ⟨fun _=>?_,fun h=>by simp at h⟩
 have SM:=SM _ hE' (show IsL (.slice xa s.lines.length xc) s.lines.length from q1) (show IsL (.slice ya s.lines.length yc) s.lines.length from q2)
 refine .inr (.inr (.inl ⟨[],[_,_],[(9800,lnB (.slice xa s.lines.length xc) s.lines),(9801,lnB (.slice ya s.lines.length yc) s.lines)],_,[(9800,lnB (.slice xa s.lines.length xc) s.lines),(9801,lnB (.slice ya s.lines.length yc) s.lines)],SM,rfl,⟨.inl rfl,.inl rfl,trivial⟩,rfl,rfl,?_⟩))
 refine ⟨fun _=>?_,fun h=>by cases h⟩
 exact ⟨by kernel_rfl,[],[],⟨by simp [cT],rfl⟩,trivial,rfl⟩
theorem FZ {o:Option QC} (h:∀ q,o=some q->q.In) : -9223372036854775808<=(fk o).day/\(fk o).day<=9223372036854775807:=by
 cases o with
 | none=>exact ⟨by decide,by decide⟩
 | some q=>exact (h q rfl).day
theorem Bi {L:List QC} {tol:RQ} (h:∀ z∈L,z.In) : -9223372036854775808<=(cB L tol).day/\(cB L tol).day<=9223372036854775807 :=
 FZ fun q e=>h q (List.mem_of_find?_eq_some e)
theorem BR {E:Env} {v:VQ} {vh vc vp vq vs vn va:Value} (I:VIn E v vh vc vp vq vs vn va) (hc:cY v=true) {it:ItQ} (hi:it∈bx v):(aY v it).1.nm.length<=9223372036854775807/\(-9223372036854775808<=(aY v it).1.kind/\(aY v it).1.kind<=9223372036854775807)/\(-9223372036854775808<=(aY v it).1.day/\(aY v it).1.day<=9223372036854775807):=by
 obtain ⟨-,-,hd,-,hv,-⟩:=eY hc
 have kk:∀ n:Int,1<=n->n<=4->-9223372036854775808<=n/\n<=9223372036854775807:=fun n a b=>by omega
 have key:∀ x∈v.g.p,0<=x.1.2/\x.1.2<=73048:=fun x hx=>by
  unfold bR at hv
  simp only [Bool.and_eq_true] at hv
  obtain ⟨i,hi⟩:=List.getElem?_of_mem hx
  have:=rm hv.2.2.2.1 (List.getElem?_eq_some_iff.1 hi).1
  unfold okK inB at this
  rw [hi] at this
  simp only [Bool.and_eq_true,decide_eq_true_eq] at this
  exact this.2.1
 unfold bx at hi
 simp only [List.mem_append,List.mem_map] at hi
 rcases hi with ⟨x,hx,rfl⟩ | ⟨x,hx,rfl⟩ | ⟨x,hx,rfl⟩ | ⟨x,hx,rfl⟩
 ·have h1:=I.pf.ih x hx
  cases e:v.nst.find? (fun n=>decide (n.ins=x.1)) with
  | some n =>
   simp only [aY,e]
   exact ⟨h1,⟨by decide,by decide⟩,by omega,by omega⟩
  | none =>
   simp only [aY,e]
   exact ⟨h1,⟨by decide,by decide⟩,Bi fun z hz=>(kM I.q.inn hz).1⟩
 ·have h1:=I.pf.ic x hx
  refine ⟨h1,kk 2 (by decide) (by decide),?_⟩
  show -9223372036854775808<=v.day/\v.day<=9223372036854775807
  omega
 ·have h1:=I.pf.ip x hx
  have h2:=key x hx
  refine ⟨h1,kk 3 (by decide) (by decide),?_⟩
  show -9223372036854775808<=x.1.2/\x.1.2<=9223372036854775807
  omega
 ·have h1:=I.ain x hx
  exact ⟨h1.nm,kk 4 (by decide) (by decide),h1.til⟩
theorem vj {v:VQ}:∀ {l:List ItQ} {x:List LnQ},cj v l=.ok x->∀ y∈x,∃ i∈l,dY v i=.ok y
 | [],x,h=>by cases h;simp
 | i :: l,x,h=>by
  rw [cj] at h
  cases e:dY v i with
  | error e'=>rw [e] at h;cases h
  | ok y =>
   rw [e] at h
   simp only at h
   cases e2:cj v l with
   | error e'=>rw [e2] at h;cases h
   | ok z =>
    rw [e2] at h
    simp only [Except.ok.injEq] at h
    subst h
    intro w hw
    rcases List.mem_cons.1 hw with rfl | hw
    ·exact ⟨i,by simp,e⟩
    ·obtain ⟨j,hj,e3⟩:=vj e2 w hw
     exact ⟨j,by simp [hj],e3⟩
theorem ze {E:Env} {v:VQ} {vh vc vp vq vs vn va:Value} (I:VIn E v vh vc vp vq vs vn va):(∀ y∈(dy v).1.lines,y.In)/\(dy v).1.lines.length<=512:=by
 have z:(∀ y∈dk.lines,y.In)/\dk.lines.length<=512:=⟨by simp [dk],by simp [dk]⟩
 unfold dy
 cases hc:cY v with
 | false=>exact z
 | true =>
  simp only [if_true]
  cases e:cj v (bx v) with
  | error e'=>exact z
  | ok ls =>
   simp only
   split
   ·exact z
   ·refine ⟨fun y hy=>?_,?_⟩
    ·obtain ⟨i,hi,e2⟩:=vj e y hy
     obtain ⟨-,-,e3,e4⟩:=rY e2
     obtain ⟨a1,a2,a3⟩:=BR I hc hi
     obtain ⟨b1,b2,b3⟩:=pw hc I.q.inn I.nin hi
     have b4:=nD y.qty y.price y.rate
     rw [e3] at b4
     rw [e4]
     exact ⟨a1,a2,a3,⟨by show _<=(aY v i).1.qty;omega,by show (aY v i).1.qty<=_;omega⟩,⟨by show _<=y.amt;omega,by show y.amt<=_;omega⟩,b1,mQ⟩
    ·show ls.length<=512
     rw [(jj e).1,oq]
     exact (eY hc).2.2.2.2.2.2.2.2.2
theorem VQ.fits_in {E:Env} {v:VQ} {vh vc vp vq vs vn va:Value} (I:VIn E v vh vc vp vq vs vn va):Fits (v.A vh vc vp vq vs vn va) 78:=by
 obtain ⟨_,_,rfl,-,-⟩:=I.pf.h.shape
 obtain ⟨_,_,rfl,-,-⟩:=I.pf.c.shape
 obtain ⟨_,_,rfl,-,-⟩:=I.pf.p.shape
 obtain ⟨_,_,rfl,-,-⟩:=I.q.l.shape
 obtain ⟨_,_,rfl,-,-⟩:=I.q.s.shape
 obtain ⟨_,_,rfl,-,-⟩:=I.n.shape
 obtain ⟨_,_,rfl,-,-⟩:=I.a.shape
 exact VQ.fits rfl rfl rfl rfl rfl rfl rfl
theorem yx {E:Env} (hE:E.P=Tryz.prog) {v:VQ} {vh vc vp vq vs vn va:Value} (I:VIn E v vh vc vp vq vs vn va):OwnC E 3 [SV.c (.agg (v.A vh vc vp vq vs vn va))] [] (fun r U=>r=.bool true/\U=[]) :=
 Cb hE (v.at ..) (VQ.fits_in I) I (ze I).1 (Nat.le_trans (ze I).2 (by decide))
end Go.Proofs.YtklehfchdoikeaaGreatDoor
