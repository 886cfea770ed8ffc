/- ExchangeExact: the law at every call; no condition. -/
import Derived.Test.YtjkgmglmgndaoaaGreatDoorCards
import Derived.Test.YtjkgmglmgndaoaaGreatDoorTie
import Derived.Test.YtjkgmglmgndaoaaGreatDoorExchangeExactQ2
import Derived.Test.YtjkgmglmgndaoaaGreatDoorP33
set_option maxRecDepth 100000
set_option maxHeartbeats 4000000
namespace Go.Proofs.YtjkgmglmgndaoaaGreatDoor
open Go Go.RowKit Go.SX
open ChangeShapes WideShapes
theorem trodAll_seven {H:Type} {enc:TypeId×Value→H} {P:Program} {w:World} {base:Nat} {spare:Nat→Bool} {held:Bool} {t0 t1 t2 t3 t4 t5 t6:TypeId} {args:Array Value} {ds:List (DataW H)} {ps:List MemPlace} (h:DataW.TrodAll enc P w base spare held [t0,t1,t2,t3,t4,t5,t6] args.toList ds ps) :
    ∃ v0 v1 v2 v3 v4 v5 v6 d0 d1 d2 d3 d4 d5 d6 p0 p1 p2 p3 p4 p5 p6,args=#[v0,v1,v2,v3,v4,v5,v6]∧ds=[d0,d1,d2,d3,d4,d5,d6]∧ps=p0++(p1++(p2++(p3++(p4++(p5++p6)))))∧DataW.Trod enc P w base spare held t0 v0 d0 p0∧DataW.Trod enc P w base spare held t1 v1 d1 p1∧DataW.Trod enc P w base spare held t2 v2 d2 p2∧DataW.Trod enc P w base spare held t3 v3 d3 p3∧DataW.Trod enc P w base spare held t4 v4 d4 p4∧DataW.Trod enc P w base spare held t5 v5 d5 p5∧DataW.Trod enc P w base spare held t6 v6 d6 p6:=by
 obtain ⟨v0,vs0,d0,e0,p0,q0,ha,rfl,rfl,h0,h⟩:=trodAll_cons h
 obtain ⟨v1,vs1,d1,e1,p1,q1,rfl,rfl,rfl,h1,h⟩:=trodAll_cons h
 obtain ⟨v2,vs2,d2,e2,p2,q2,rfl,rfl,rfl,h2,h⟩:=trodAll_cons h
 obtain ⟨v3,vs3,d3,e3,p3,q3,rfl,rfl,rfl,h3,h⟩:=trodAll_cons h
 obtain ⟨v4,vs4,d4,e4,p4,q4,rfl,rfl,rfl,h4,h⟩:=trodAll_cons h
 obtain ⟨v5,vs5,d5,e5,p5,q5,rfl,rfl,rfl,h5,h⟩:=trodAll_cons h
 obtain ⟨v6,vs6,d6,e6,p6,q6,rfl,rfl,rfl,h6,h⟩:=trodAll_cons h
 obtain ⟨rfl,rfl,rfl⟩:=trodAll_nil h
 exact ⟨v0,v1,v2,v3,v4,v5,v6,d0,d1,d2,d3,d4,d5,d6,p0,p1,p2,p3,p4,p5,p6,by cases args;simp_all,rfl,by simp,h0,h1,h2,h3,h4,h5,h6⟩
theorem exchangeExact_lifted (os:Os) (started:os.Started) (H:Type) (enc:TypeId×Value→H) :
    ReturnsInHanded {} Tryz.checked os 3 .any (fun w args=>(Rows.exchangeExactSpec.pre enc Tryz.prog Tryz.f3 [] false w args∧laidMetH Tryz.prog laidT w)∧sizedMet enc Tryz.prog Tryz.f3 (OpenSpec.ofChange Rows.exchangeExactSpec) false w args)
     (Rows.exchangeExactSpec.post enc Tryz.prog Tryz.f3 false true false false):=by
 refine returnsInHanded_of_change_and (C:=Tryz.checked) (X:=fun w _=>laidMetH Tryz.prog laidT w) (fun _ _ _ hh h=>h.of_heap hh) own_knob started (by kernel_rfl) Tryz.func3
  (ChangeSpec.witness_shaped (enc:=enc) (C:=Tryz.checked) (os:=os) (X:=fun w _=>laidMetH Tryz.prog laidT w) false (World.laidAll Tryz.prog os laidT) #[.slice none 0 0,.agg ti31.zero,.int .i64 0,.string ⟨#[]⟩,.string ⟨#[]⟩,.string ⟨#[]⟩,.int .i64 0] 12 (World.laidAll_os _ _ _)
   (shaped_t os _) (by kernel_rfl) (by kernel_rfl) (by kernel_rfl) (met_t os _)) ?_
 intro W base args ds gs before hval0 hW _ hwt _ _
 have hval:∀ (j:Nat) t v,Tryz.f3.params[j]? = some t→args[j]? = some v→Value.okWide Tryz.prog W .any base t v:=hval0
 have hW':=hW
 obtain ⟨p,q,hA0,hV,rfl,_,_⟩:=hW
 have hA:DataW.TrodAll enc Tryz.prog W 0 (fun _=>true) true Tryz.f3.params.toList args.toList ds p:=hA0
 rw [Tryz.params3] at hA hval
 obtain ⟨v0,v1,v2,v3,v4,v5,v6,d0,d1,d2,d3,d4,d5,d6,p0,p1,p2,p3,p4,p5,p6,rfl,rfl,rfl,h0,h1,h2,h3,h4,h5,h6⟩:=trodAll_seven hA
 obtain ⟨rfl,rfl⟩:=trodVars_none hV
 obtain ⟨a0,len,cap,rfl⟩:=okWide_slice Tryz.underlying22 (hval 0 22 v0 rfl rfl)
 obtain ⟨pl,vp,hpin,rfl,hLp,hbp⟩:=rd_policyV (hval 1 31 v1 rfl rfl) h1
 obtain ⟨k,rfl,rfl,rfl,wn⟩:=open_int Tryz.underlying3 (hval 2 3 v2 rfl rfl) h2
 obtain ⟨s3,rfl⟩:=okWide_string Tryz.underlying9 (hval 3 9 v3 rfl rfl)
 obtain ⟨s4,rfl⟩:=okWide_string Tryz.underlying9 (hval 4 9 v4 rfl rfl)
 obtain ⟨s5,rfl⟩:=okWide_string Tryz.underlying9 (hval 5 9 v5 rfl rfl)
 obtain ⟨day,rfl,rfl,rfl,wd⟩:=open_int Tryz.underlying3 (hval 6 3 v6 rfl rfl) h6
 obtain ⟨u,rfl⟩:∃ l,s3=S l:=⟨s3.data.toList,(S_of s3).symm⟩
 obtain ⟨a,rfl⟩:∃ l,s4=S l:=⟨s4.data.toList,(S_of s4).symm⟩
 obtain ⟨b,rfl⟩:∃ l,s5=S l:=⟨s5.data.toList,(S_of s5).symm⟩
 obtain ⟨fuel,hf⟩:=h0
 obtain ⟨xs,hin,hL,hb⟩:=rd_quotes (W:=W) hf
 have hn:xs.length≤1000000000000:=by
  rcases hb with rfl | ⟨el,spr,he,hl⟩
  ·simp
  ·have he:d0=.slice el spr:=he
   subst he
   have h2:=sized_slice hwt (j:=0) (t:=22) (e:=51) (elems:=el) (spare:=spr) (by rw [Tryz.params3];rfl) rfl Tryz.underlying22
   rw [show Tryz.checked.prog.bytesOf 51=336 by kernel_rfl] at h2
   have h3:=reachBytes_lt
   rw [← hl]
   omega
 have hpn:pl.srcs.length≤1000000000000000:=by
  rcases hbp with h | ⟨el,spr,r1,r2,he,hl⟩
  ·rw [h];simp
  ·subst he
   rw [← hl]
   exact pol_len Tryz.underlying31 Tryz.underlying23 (by kernel_rfl) hwt (j:=1) (by rw [Tryz.params3];rfl) rfl
 refine (ownC_at (vs:=[.slice a0 len cap,.agg (pl.A vp),.int .i64 k,.string (S u),.string (S a),.string (S b),.int .i64 day]) W (exact_x rfl ⟨hL,hn,hin,hLp,hpn,hpin⟩ k day)).mono fun e W' ⟨x,U,he,⟨hx,_⟩,hb⟩=>?_
 subst hx
 subst he
 exact ⟨_,rfl,law_post laid_out Tryz.underlying4 (by kernel_rfl) (fun t ht=>by
  rw [Tryz.params3] at ht
  have ht2:t=22∨t=31∨t=3∨t=9∨t=9∨t=9∨t=3:=by simpa using ht
  rcases ht2 with rfl | rfl | rfl | rfl | rfl | rfl | rfl<;>exact ⟨by kernel_rfl,of_decide_eq_true (by kernel_rfl)⟩) rfl hW' rfl hb⟩
end Go.Proofs.YtjkgmglmgndaoaaGreatDoor
