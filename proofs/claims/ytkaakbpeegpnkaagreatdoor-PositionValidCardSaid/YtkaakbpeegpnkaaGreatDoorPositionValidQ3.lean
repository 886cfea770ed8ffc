/- PositionValid: the law at every call; no condition. -/
import Derived.Test.YtkaakbpeegpnkaaGreatDoorCards
import Derived.Test.YtkaakbpeegpnkaaGreatDoorTie
import Derived.Test.YtkaakbpeegpnkaaGreatDoorPositionValidQ2
import Derived.Test.YtkaakbpeegpnkaaGreatDoorP11
set_option maxRecDepth 100000
set_option maxHeartbeats 4000000
namespace Go.Proofs.YtkaakbpeegpnkaaGreatDoor
open Go Go.RowKit Go.SX
open ChangeShapes WideShapes
instance:Inhabited Bs:=⟨[]⟩
theorem rd_holdings {H:Type} {enc:TypeId×Value→H} {W:World} {fuel:Nat} {c:Value} {y:DataW H×List MemPlace} (h:DataW.trod enc Tryz.prog W 0 (fun _=>true) true fuel 27 [c]=some y) :
    ∃ xs:List (Bs×Int),(∀ a∈xs,a.1.length≤9223372036854775807)∧Lst { P:=Tryz.prog,n:=0,w0:=W,X:=[],pk:=[] } c 2 xs.length (cat sumA xs)∧(xs=[]∨∃ el sp,y.1=.slice el sp∧el.length=xs.length) :=
 lst_read (E:={ P:=Tryz.prog,n:=0,w0:=W,X:=[],pk:=[] }) (In:=fun a:Bs×Int=>a.1.length≤9223372036854775807) rfl Tryz.underlying27 (by kernel_rfl) (by decide) sumA_size sumA_one (fun fuel cs x h=>rd_holding h) h
theorem rd_balances {H:Type} {enc:TypeId×Value→H} {W:World} {fuel:Nat} {c:Value} {y:DataW H×List MemPlace} (h:DataW.trod enc Tryz.prog W 0 (fun _=>true) true fuel 28 [c]=some y) :
    ∃ xs:List (Ky×Int),(∀ a∈xs,a.1.1.length≤9223372036854775807)∧Lst { P:=Tryz.prog,n:=0,w0:=W,X:=[],pk:=[] } c 3 xs.length (cat sumK xs)∧(xs=[]∨∃ el sp,y.1=.slice el sp∧el.length=xs.length) :=
 lst_read (E:={ P:=Tryz.prog,n:=0,w0:=W,X:=[],pk:=[] }) (In:=fun a:Ky×Int=>a.1.1.length≤9223372036854775807) rfl Tryz.underlying28 (by kernel_rfl) (by decide) sumK_size sumK_one (fun fuel cs x h=>rd_balance h) h
theorem rd_portfolio {H:Type} {enc:TypeId×Value→H} {W:World} {fuel:Nat} {cs:List Value} {x:DataW H×List MemPlace} (h:DataW.trod enc Tryz.prog W 0 (fun _=>true) true fuel 30 cs=some x) :
    ∃ (g:Led) (vh vc vp:Value),cs=[vh,vc,vp]∧Lst { P:=Tryz.prog,n:=0,w0:=W,X:=[],pk:=[] } vh 2 g.h.length (cat sumA g.h)∧Lst { P:=Tryz.prog,n:=0,w0:=W,X:=[],pk:=[] } vc 3 g.c.length (cat sumK g.c)∧Lst { P:=Tryz.prog,n:=0,w0:=W,X:=[],pk:=[] } vp 3 g.p.length (cat sumK g.p)∧(∀ a∈g.h,a.1.length≤9223372036854775807)∧(∀ a∈g.c,a.1.1.length≤9223372036854775807)∧(∀ a∈g.p,a.1.1.length≤9223372036854775807)∧∃ z0 z1 z2,x.1=.agg [z0,z1,z2]∧(g.h=[]∨∃ el sp,z0=.slice el sp∧el.length=g.h.length)∧(g.c=[]∨∃ el sp,z1=.slice el sp∧el.length=g.c.length)∧(g.p=[]∨∃ el sp,z2=.slice el sp∧el.length=g.p.length):=by
 obtain ⟨xs,n,-,rfl,hl,hn,hf⟩:=DataW.trod_struct Tryz.underlying30 h
 have hn:xs.length=3:=hn
 match xs,hn with
 | [y0,y1,y2],_ =>
 have c0:Tryz.prog.cellsOf 27=1:=by kernel_rfl
 have c1:Tryz.prog.cellsOf 28=1:=by kernel_rfl
 have ca:Tryz.prog.cellsOf 30=3:=by kernel_rfl
 have f0:DataW.trod enc Tryz.prog W 0 (fun _=>true) true n 27 ((cs.drop 0).take (Tryz.prog.cellsOf 27))=some y0:=hf 0 _ rfl
 have f1:DataW.trod enc Tryz.prog W 0 (fun _=>true) true n 28 ((cs.drop 1).take (Tryz.prog.cellsOf 28))=some y1:=hf 1 _ rfl
 have f2:DataW.trod enc Tryz.prog W 0 (fun _=>true) true n 28 ((cs.drop 2).take (Tryz.prog.cellsOf 28))=some y2:=hf 2 _ rfl
 rw [c0] at f0
 rw [c1] at f1 f2
 rw [ca] at hl
 match cs,hl with
 | [vh,vc,vp],_ =>
 obtain ⟨hs,hi0,hL0,hb0⟩:=rd_holdings (c:=vh) f0
 obtain ⟨cs,hi1,hL1,hb1⟩:=rd_balances (c:=vc) f1
 obtain ⟨ps,hi2,hL2,hb2⟩:=rd_balances (c:=vp) f2
 exact ⟨⟨hs,cs,ps⟩,vh,vc,vp,rfl,hL0,hL1,hL2,hi0,hi1,hi2,y0.1,y1.1,y2.1,rfl,hb0,hb1,hb2⟩
theorem pf_lenH {H:Type} {P:Program} {el sp:List (DataW H)} {r1 r2:DataW H} {ts:List TypeId} {ds:List (DataW H)} {j:Nat} (hu:P.underlying 30=some (.struct #[⟨ "Holdings",27,0,false,"","",0⟩,⟨ "Cash",28,1,false,"","",24⟩,⟨ "Pending",28,2,false,"","",48⟩])) (hu2:P.underlying 27=some (.slice 90)) (hb:P.bytesOf 90=24) (h:(DataW.weightsEach P ts ds).all (·≤reachBytes)=true) (ht:ts[j]? = some 30) (hd:ds[j]? = some (.agg [.slice el sp,r1,r2])):el.length≤6000000000000:=by
 have:=List.all_eq_true.1 h _ (DataW.weights_mem_each ht hd ((el.length+sp.length)*P.bytesOf 90) (by simp [DataW.weights,hu,hu2,DataW.weightsEach]))
 rw [hb] at this
 have h2:(el.length+sp.length)*24≤reachBytes:=by simpa using this
 have h3:=reachBytes_lt
 omega
theorem pf_lenC {H:Type} {P:Program} {el sp:List (DataW H)} {r1 r2:DataW H} {ts:List TypeId} {ds:List (DataW H)} {j:Nat} (hu:P.underlying 30=some (.struct #[⟨ "Holdings",27,0,false,"","",0⟩,⟨ "Cash",28,1,false,"","",24⟩,⟨ "Pending",28,2,false,"","",48⟩])) (hu2:P.underlying 28=some (.slice 85)) (hb:P.bytesOf 85=32) (h:(DataW.weightsEach P ts ds).all (·≤reachBytes)=true) (ht:ts[j]? = some 30) (hd:ds[j]? = some (.agg [r1,.slice el sp,r2])):el.length≤6000000000000:=by
 have:=List.all_eq_true.1 h _ (DataW.weights_mem_each ht hd ((el.length+sp.length)*P.bytesOf 85) (by simp [DataW.weights,hu,hu2,DataW.weightsEach]))
 rw [hb] at this
 have h2:(el.length+sp.length)*32≤reachBytes:=by simpa using this
 have h3:=reachBytes_lt
 omega
theorem pf_lenP {H:Type} {P:Program} {el sp:List (DataW H)} {r1 r2:DataW H} {ts:List TypeId} {ds:List (DataW H)} {j:Nat} (hu:P.underlying 30=some (.struct #[⟨ "Holdings",27,0,false,"","",0⟩,⟨ "Cash",28,1,false,"","",24⟩,⟨ "Pending",28,2,false,"","",48⟩])) (hu2:P.underlying 28=some (.slice 85)) (hb:P.bytesOf 85=32) (h:(DataW.weightsEach P ts ds).all (·≤reachBytes)=true) (ht:ts[j]? = some 30) (hd:ds[j]? = some (.agg [r1,r2,.slice el sp])):el.length≤6000000000000:=by
 have:=List.all_eq_true.1 h _ (DataW.weights_mem_each ht hd ((el.length+sp.length)*P.bytesOf 85) (by simp [DataW.weights,hu,hu2,DataW.weightsEach]))
 rw [hb] at this
 have h2:(el.length+sp.length)*32≤reachBytes:=by simpa using this
 have h3:=reachBytes_lt
 omega
theorem positionValid_lifted (os:Os) (started:os.Started) (H:Type) (enc:TypeId×Value→H) :
    ReturnsInHanded {} Tryz.checked os 4 .any (fun w args=>(Rows.positionValidSpec.pre enc Tryz.prog Tryz.f4 [] false w args∧laidMetH Tryz.prog laidT w)∧sizedMet enc Tryz.prog Tryz.f4 (OpenSpec.ofChange Rows.positionValidSpec) false w args)
     (Rows.positionValidSpec.post enc Tryz.prog Tryz.f4 false true false false):=by
 refine returnsInHanded_of_change_and (C:=Tryz.checked) (X:=fun w _=>laidMetH Tryz.prog laidT w) (fun _ _ _ hh h=>h.of_heap hh) own_knob started (by kernel_rfl) Tryz.func4
  (ChangeSpec.witness_shaped (enc:=enc) (C:=Tryz.checked) (os:=os) (X:=fun w _=>laidMetH Tryz.prog laidT w) false (World.laidAll Tryz.prog os laidT) #[.agg ti30.zero,.string ⟨#[]⟩] 8 (World.laidAll_os _ _ _)
   (shaped_t os _) (by kernel_rfl) (by kernel_rfl) (by kernel_rfl) (met_t os _)) ?_
 intro W base args ds gs before hval0 hW _ hwt _ _
 have hval:∀ (j:Nat) t v,Tryz.f4.params[j]? = some t→args[j]? = some v→Value.okWide Tryz.prog W .any base t v:=hval0
 have hW':=hW
 obtain ⟨p,q,hA0,hV,rfl,_,_⟩:=hW
 have hA:DataW.TrodAll enc Tryz.prog W 0 (fun _=>true) true Tryz.f4.params.toList args.toList ds p:=hA0
 rw [Tryz.params4] at hA hval
 obtain ⟨v0,v1,d0,d1,p0,p1,rfl,rfl,rfl,h0,h1⟩:=trodAll_two hA
 obtain ⟨rfl,rfl⟩:=trodVars_none hV
 obtain ⟨cs,rfl,hsz⟩:=okWide_struct Tryz.underlying30 (hval 0 30 v0 rfl rfl)
 obtain ⟨s1,rfl⟩:=okWide_string Tryz.underlying9 (hval 1 9 v1 rfl rfl)
 obtain ⟨ins,rfl⟩:∃ l,s1=S l:=⟨s1.data.toList,(S_of s1).symm⟩
 obtain ⟨fuel,hf⟩:=h0
 obtain ⟨g,vh,vc,vp,hcs,hL0,hL1,hL2,hi0,hi1,hi2,z0,z1,z2,hd,hb0,hb1,hb2⟩:=rd_portfolio (W:=W) hf
 have hcs:cs=#[vh,vc,vp]:=Array.ext' hcs
 subst hcs
 have hd:d0=.agg [z0,z1,z2]:=hd
 subst hd
 have hnh:g.h.length≤6000000000000:=by
  rcases hb0 with h | ⟨el,spr,he,hl⟩
  ·rw [h];simp
  ·subst he
   rw [← hl]
   exact pf_lenH Tryz.underlying30 Tryz.underlying27 (by kernel_rfl) hwt (j:=0) (by rw [Tryz.params4];rfl) rfl
 have hnc:g.c.length≤6000000000000:=by
  rcases hb1 with h | ⟨el,spr,he,hl⟩
  ·rw [h];simp
  ·subst he
   rw [← hl]
   exact pf_lenC Tryz.underlying30 Tryz.underlying28 (by kernel_rfl) hwt (j:=0) (by rw [Tryz.params4];rfl) rfl
 have hnp:g.p.length≤6000000000000:=by
  rcases hb2 with h | ⟨el,spr,he,hl⟩
  ·rw [h];simp
  ·subst he
   rw [← hl]
   exact pf_lenP Tryz.underlying30 Tryz.underlying28 (by kernel_rfl) hwt (j:=0) (by rw [Tryz.params4];rfl) rfl
 refine (ownC_at8 (vs:=[.agg #[vh,vc,vp],.string (S ins)]) W (valid_law rfl ⟨hL0,hL1,hL2,⟨hnh,hnc,hnp⟩,hi0,hi1,hi2⟩ ins)).mono fun e W' ⟨x,U,he,⟨hx,_⟩,hb⟩=>?_
 subst hx
 subst he
 exact ⟨_,rfl,law_post laid_out Tryz.underlying4 (by kernel_rfl) (fun t ht=>by
  rw [Tryz.params4] at ht
  have ht2:t=30∨t=9:=by simpa using ht
  rcases ht2 with rfl | rfl<;>exact ⟨by kernel_rfl,of_decide_eq_true (by kernel_rfl)⟩) rfl hW' rfl hb⟩
end Go.Proofs.YtkaakbpeegpnkaaGreatDoor
