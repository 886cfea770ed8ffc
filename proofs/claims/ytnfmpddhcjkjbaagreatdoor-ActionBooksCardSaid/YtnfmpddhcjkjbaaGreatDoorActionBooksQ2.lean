/- ActionBooks: the law at every call; no condition. -/
import Derived.Test.YtnfmpddhcjkjbaaGreatDoorCards
import Derived.Test.YtnfmpddhcjkjbaaGreatDoorTie
import Derived.Test.YtnfmpddhcjkjbaaGreatDoorP27
import Derived.Test.YtnfmpddhcjkjbaaGreatDoorActionBooksQ1
set_option maxRecDepth 100000
set_option maxHeartbeats 4000000
namespace Go.Proofs.YtnfmpddhcjkjbaaGreatDoor
open Go Go.RowKit Go.SX
open ChangeShapes WideShapes
instance:Inhabited AC:=⟨⟨0,[],[],[],0,0,0,⟨false,0,false,0⟩,[],0,false⟩⟩
theorem rd_actions {H:Type} {enc:TypeId×Value→H} {W:World} {fuel:Nat} {c:Value} {y:DataW H×List MemPlace} (h:DataW.trod enc Tryz.prog W 0 (fun _=>true) true fuel 66 [c]=some y) :
    ∃ xs:List AC,(∀ a∈xs,a.In)∧Lst { P:=Tryz.prog,n:=0,w0:=W,X:=[],pk:=[] } c 76 xs.length (cat AC.A xs)∧(xs=[]∨∃ el sp,y.1=.slice el sp∧el.length=xs.length) :=
 lst_read (E:={ P:=Tryz.prog,n:=0,w0:=W,X:=[],pk:=[] }) (In:=AC.In) rfl Tryz.underlying66 (by kernel_rfl) (by decide) AC.size AC.all1 (fun fuel cs x h=>rd_action h) h
theorem actionBooks_lifted (os:Os) (started:os.Started) (H:Type) (enc:TypeId×Value→H) :
    ReturnsInHanded {} Tryz.checked os 9 .any (fun w args=>(Rows.actionBooksSpec.pre enc Tryz.prog Tryz.f9 [] false w args∧laidMetH Tryz.prog laidT w)∧sizedMet enc Tryz.prog Tryz.f9 (OpenSpec.ofChange Rows.actionBooksSpec) false w args)
     (Rows.actionBooksSpec.post enc Tryz.prog Tryz.f9 false true false false):=by
 refine returnsInHanded_of_change_and (C:=Tryz.checked) (X:=fun w _=>laidMetH Tryz.prog laidT w) (fun _ _ _ hh h=>h.of_heap hh) own_knob started (by kernel_rfl) Tryz.func9
  (ChangeSpec.witness_shaped (enc:=enc) (C:=Tryz.checked) (os:=os) (X:=fun w _=>laidMetH Tryz.prog laidT w) false (World.laidAll Tryz.prog os laidT) #[.slice none 0 0,.int .i64 0] 8 (World.laidAll_os _ _ _)
   (shaped_t os _) (by kernel_rfl) (by kernel_rfl) (by kernel_rfl) (met_t os _)) ?_
 intro W base args ds gs before hval0 hW _ hwt _ _
 have hval:∀ (j:Nat) t v,Tryz.f9.params[j]? = some t→args[j]? = some v→Value.okWide Tryz.prog W .any base t v:=hval0
 have hW':=hW
 obtain ⟨p,q,hA0,hV,rfl,_,_⟩:=hW
 have hA:DataW.TrodAll enc Tryz.prog W 0 (fun _=>true) true Tryz.f9.params.toList args.toList ds p:=hA0
 rw [Tryz.params9] at hA hval
 obtain ⟨v0,v1,d0,d1,p0,p1,rfl,rfl,rfl,h0,h1⟩:=trodAll_two hA
 obtain ⟨rfl,rfl⟩:=trodVars_none hV
 obtain ⟨a0,len,cap,rfl⟩:=okWide_slice Tryz.underlying66 (hval 0 66 v0 rfl rfl)
 obtain ⟨k,rfl,rfl,rfl,wn⟩:=open_int Tryz.underlying3 (hval 1 3 v1 rfl rfl) h1
 obtain ⟨fuel,hf⟩:=h0
 obtain ⟨xs,hin,hL,hb⟩:=rd_actions (W:=W) hf
 have hn:xs.length≤1000000000000:=by
  rcases hb with rfl | ⟨el,spr,he,hl⟩
  ·simp
  ·have he:d0=.slice el spr:=he
   subst he
   have h2:=sized_slice hwt (j:=0) (t:=66) (e:=29) (elems:=el) (spare:=spr) (by rw [Tryz.params9];rfl) rfl Tryz.underlying66
   rw [show Tryz.checked.prog.bytesOf 29=376 by kernel_rfl] at h2
   have h3:=reachBytes_lt
   rw [← hl]
   omega
 refine (ownC_at8 (vs:=[.slice a0 len cap,.int .i64 k]) W (books_z rfl hL hn hin)).mono fun e W' ⟨x,U,he,⟨hx,_⟩,hb⟩=>?_
 subst hx
 subst he
 exact ⟨_,rfl,law_post laid_out Tryz.underlying4 (by kernel_rfl) (fun t ht=>by
  rw [Tryz.params9] at ht
  have ht2:t=66∨t=3:=by simpa using ht
  rcases ht2 with rfl | rfl<;>exact ⟨by kernel_rfl,of_decide_eq_true (by kernel_rfl)⟩) rfl hW' rfl hb⟩
end Go.Proofs.YtnfmpddhcjkjbaaGreatDoor
