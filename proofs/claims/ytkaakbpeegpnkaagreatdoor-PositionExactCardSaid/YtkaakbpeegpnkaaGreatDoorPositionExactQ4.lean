/- PositionExact: the law at every call; no condition. -/
import Derived.Test.YtkaakbpeegpnkaaGreatDoorCards
import Derived.Test.YtkaakbpeegpnkaaGreatDoorTie
import Derived.Test.YtkaakbpeegpnkaaGreatDoorPositionExactQ3
import Derived.Test.YtkaakbpeegpnkaaGreatDoorP11
set_option maxRecDepth 100000
set_option maxHeartbeats 4000000
namespace Go.Proofs.YtkaakbpeegpnkaaGreatDoor
open Go Go.RowKit Go.SX
open ChangeShapes WideShapes
theorem trodAll_4 {H:Type} {enc:TypeId×Value→H} {P:Program} {w:World} {base:Nat} {spare:Nat→Bool} {held:Bool} {t0 t1 t2 t3:TypeId} {args:Array Value} {ds:List (DataW H)} {ps:List MemPlace} (h:DataW.TrodAll enc P w base spare held [t0,t1,t2,t3] args.toList ds ps) :
    ∃ v0 v1 v2 v3 d0 d1 d2 d3 p0 p1 p2 p3,args=#[v0,v1,v2,v3]∧ds=[d0,d1,d2,d3]∧ps=p0++(p1++(p2++p3))∧DataW.Trod enc P w base spare held t0 v0 d0 p0∧DataW.Trod enc P w base spare held t1 v1 d1 p1∧DataW.Trod enc P w base spare held t2 v2 d2 p2∧DataW.Trod enc P w base spare held t3 v3 d3 p3:=by
 obtain ⟨v0,vs0,d0,e0,p0,q0,ha,rfl,rfl,h0,h⟩:=trodAll_cons h
 obtain ⟨v1,vs1,d1,e1,p1,q1,rfl,rfl,rfl,h1,h⟩:=trodAll_cons h
 obtain ⟨v2,vs2,d2,e2,p2,q2,rfl,rfl,rfl,h2,h⟩:=trodAll_cons h
 obtain ⟨v3,vs3,d3,e3,p3,q3,rfl,rfl,rfl,h3,h⟩:=trodAll_cons h
 obtain ⟨rfl,rfl,rfl⟩:=trodAll_nil h
 exact ⟨v0,v1,v2,v3,d0,d1,d2,d3,p0,p1,p2,p3,by cases args;simp_all,rfl,by simp,h0,h1,h2,h3⟩
instance:Inhabited AC:=⟨⟨0,[],[],[],0,0,0,⟨false,0,false,0⟩,[],0,false⟩⟩
instance:Inhabited EC:=⟨.zero⟩
theorem rd_actions18 {H:Type} {enc:TypeId×Value→H} {W:World} {fuel:Nat} {c:Value} {y:DataW H×List MemPlace} (h:DataW.trod enc Tryz.prog W 0 (fun _=>true) true fuel 23 [c]=some y) :
    ∃ xs:List AC,(∀ a∈xs,a.In)∧Lst { P:=Tryz.prog,n:=0,w0:=W,X:=[],pk:=[] } c 76 xs.length (cat AC.A xs)∧(xs=[]∨∃ el sp,y.1=.slice el sp∧el.length=xs.length) :=
 lst_read (E:={ P:=Tryz.prog,n:=0,w0:=W,X:=[],pk:=[] }) (In:=AC.In) rfl Tryz.underlying23 (by kernel_rfl) (by decide) AC.size AC.all1 (fun fuel cs x h=>rd_action h) h
theorem rd_entries {H:Type} {enc:TypeId×Value→H} {W:World} {fuel:Nat} {c:Value} {y:DataW H×List MemPlace} (h:DataW.trod enc Tryz.prog W 0 (fun _=>true) true fuel 22 [c]=some y) :
    ∃ xs:List EC,(∀ a∈xs,a.In)∧Lst { P:=Tryz.prog,n:=0,w0:=W,X:=[],pk:=[] } c 10 xs.length (cat EC.A xs)∧(xs=[]∨∃ el sp,y.1=.slice el sp∧el.length=xs.length) :=
 lst_read (E:={ P:=Tryz.prog,n:=0,w0:=W,X:=[],pk:=[] }) (In:=EC.In) rfl Tryz.underlying22 (by kernel_rfl) (by decide) EC.size EC.one (fun fuel cs x h=>rd_entry h) h
theorem positionExact_lifted (os:Os) (started:os.Started) (H:Type) (enc:TypeId×Value→H) :
    ReturnsInHanded {} Tryz.checked os 3 .any (fun w args=>(Rows.positionExactSpec.pre enc Tryz.prog Tryz.f3 [] false w args∧laidMetH Tryz.prog laidT w)∧sizedMet enc Tryz.prog Tryz.f3 (OpenSpec.ofChange Rows.positionExactSpec) false w args)
     (Rows.positionExactSpec.post enc Tryz.prog Tryz.f3 false true false false):=by
 refine returnsInHanded_of_change_and (C:=Tryz.checked) (X:=fun w _=>laidMetH Tryz.prog laidT w) (fun _ _ _ hh h=>h.of_heap hh) own_knob started (by kernel_rfl) Tryz.func3
  (ChangeSpec.witness_shaped (enc:=enc) (C:=Tryz.checked) (os:=os) (X:=fun w _=>laidMetH Tryz.prog laidT w) false (World.laidAll Tryz.prog os laidT) #[.slice none 0 0,.slice none 0 0,.int .i64 0,.int .i64 0] 8 (World.laidAll_os _ _ _)
   (shaped_t os _) (by kernel_rfl) (by kernel_rfl) (by kernel_rfl) (met_t os _)) ?_
 intro W base args ds gs before hval0 hW _ hwt _ _
 have hval:∀ (j:Nat) t v,Tryz.f3.params[j]? = some t→args[j]? = some v→Value.okWide Tryz.prog W .any base t v:=hval0
 have hW':=hW
 obtain ⟨p,q,hA0,hV,rfl,_,_⟩:=hW
 have hA:DataW.TrodAll enc Tryz.prog W 0 (fun _=>true) true Tryz.f3.params.toList args.toList ds p:=hA0
 rw [Tryz.params3] at hA hval
 obtain ⟨v0,v1,v2,v3,d0,d1,d2,d3,p0,p1,p2,p3,rfl,rfl,rfl,h0,h1,h2,h3⟩:=trodAll_4 hA
 obtain ⟨rfl,rfl⟩:=trodVars_none hV
 obtain ⟨a0,len0,cap0,rfl⟩:=okWide_slice Tryz.underlying22 (hval 0 22 v0 rfl rfl)
 obtain ⟨a1,len1,cap1,rfl⟩:=okWide_slice Tryz.underlying23 (hval 1 23 v1 rfl rfl)
 obtain ⟨k,rfl,rfl,rfl,wn⟩:=open_int Tryz.underlying3 (hval 2 3 v2 rfl rfl) h2
 obtain ⟨day,rfl,rfl,rfl,wd⟩:=open_int Tryz.underlying3 (hval 3 3 v3 rfl rfl) h3
 obtain ⟨fuel0,hf0⟩:=h0
 obtain ⟨fuel1,hf1⟩:=h1
 obtain ⟨xs,hin0,hL0,hb0⟩:=rd_entries (W:=W) hf0
 obtain ⟨al,hin1,hL1,hb1⟩:=rd_actions18 (W:=W) hf1
 have hn0:xs.length≤2000000000000:=by
  rcases hb0 with rfl | ⟨el,spr,he,hl⟩
  ·simp
  ·have he:d0=.slice el spr:=he
   subst he
   have h2:=sized_slice hwt (j:=0) (t:=22) (e:=47) (elems:=el) (spare:=spr) (by rw [Tryz.params3];rfl) rfl Tryz.underlying22
   rw [show Tryz.checked.prog.bytesOf 47=104 by kernel_rfl] at h2
   have h3:=reachBytes_lt
   rw [← hl]
   omega
 clear hb0
 have hn1:al.length≤1000000000000:=by
  rcases hb1 with rfl | ⟨el,spr,he,hl⟩
  ·simp
  ·have he:d1=.slice el spr:=he
   subst he
   have h2:=sized_slice hwt (j:=1) (t:=23) (e:=61) (elems:=el) (spare:=spr) (by rw [Tryz.params3];rfl) rfl Tryz.underlying23
   rw [show Tryz.checked.prog.bytesOf 61=376 by kernel_rfl] at h2
   have h3:=reachBytes_lt
   rw [← hl]
   omega
 refine (ownC_at8 (vs:=[.slice a0 len0 cap0,.slice a1 len1 cap1,.int .i64 k,.int .i64 day]) W (exact_p rfl hL0 hL1 hn0 hn1 hin0 hin1)).mono fun e W' ⟨x,U,he,⟨hx,_⟩,hb⟩=>?_
 subst hx
 subst he
 exact ⟨_,rfl,law_post laid_out Tryz.underlying4 (by kernel_rfl) (fun t ht=>by
  rw [Tryz.params3] at ht
  have ht2:t=22∨t=23∨t=3∨t=3:=by simpa using ht
  rcases ht2 with rfl | rfl | rfl | rfl<;>exact ⟨by kernel_rfl,of_decide_eq_true (by kernel_rfl)⟩) rfl hW' rfl hb⟩
end Go.Proofs.YtkaakbpeegpnkaaGreatDoor
