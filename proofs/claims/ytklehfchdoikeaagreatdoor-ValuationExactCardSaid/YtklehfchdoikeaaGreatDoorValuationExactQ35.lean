/- ValuationExact: the law at every call; no condition. -/
import Derived.Test.YtklehfchdoikeaaGreatDoorCards
import Derived.Test.YtklehfchdoikeaaGreatDoorTie
import Derived.Test.YtklehfchdoikeaaGreatDoorValuationExactQ34
set_option maxRecDepth 100000
set_option maxHeartbeats 4000000
namespace Go.Proofs.YtklehfchdoikeaaGreatDoor
open Go Go.RowKit Go.SX
open ChangeShapes WideShapes
theorem Jq {H:Type} {P:Program} {ts:List TypeId} {ds:List (DataW H)} {j:Nat} {t:TypeId} {d:DataW H} (h:(DataW.weightsEach P ts ds).all (·<=reachBytes)=true) (ht:ts[j]? = some t) (hd:ds[j]? = some d):∀ n∈DataW.weights P t d,n<=reachBytes:=fun n hn=>by
 have:=List.all_eq_true.1 h _ (DataW.weights_mem_each ht hd n hn)
 simpa using this
theorem jX (os:Os) (started:os.Started) (H:Type) (enc:TypeId×Value->H) :
    ReturnsInHanded {} Tryz.checked os 3 .any (fun w args=>(Rows.valuationExactSpec.pre enc Tryz.prog Tryz.f3 [] false w args/\laidMetH Tryz.prog qB w)/\sizedMet enc Tryz.prog Tryz.f3 (OpenSpec.ofChange Rows.valuationExactSpec) false w args)
     (Rows.valuationExactSpec.post enc Tryz.prog Tryz.f3 false true false false):=by
 refine returnsInHanded_of_change_and (C:=Tryz.checked) (X:=fun w _=>laidMetH Tryz.prog qB w) (fun _ _ _ hh h=>h.of_heap hh) DV started (by kernel_rfl) Tryz.func3
  (ChangeSpec.witness_shaped (enc:=enc) (C:=Tryz.checked) (os:=os) (X:=fun w _=>laidMetH Tryz.prog qB w) false (World.laidAll Tryz.prog os qB) #[.agg JG.zero] 8 (World.laidAll_os _ _ _)
   (Dt os _) (by kernel_rfl) (by kernel_rfl) (by kernel_rfl) (Mm os _)) ?_
 intro W base args ds gs before hval0 hW _ hwt _ _
 have hval:∀ (j:Nat) t v,Tryz.f3.params[j]? = some t->args[j]? = some v->Value.okWide Tryz.prog W .any base t v:=hval0
 have hW':=hW
 obtain ⟨p,q,hA0,hV,rfl,_,_⟩:=hW
 have hA:DataW.TrodAll enc Tryz.prog W 0 (fun _=>true) true Tryz.f3.params.toList args.toList ds p:=hA0
 rw [Tryz.params3] at hA hval
 obtain ⟨v0,d0,rfl,rfl,h0⟩:=trodAll_one hA
 obtain ⟨rfl,rfl⟩:=trodVars_none hV
 obtain ⟨cs,rfl,hsz⟩:=okWide_struct Tryz.underlying39 (hval 0 39 v0 rfl rfl)
 obtain ⟨fuel,hf⟩:=h0
 have hwv:∀ n∈DataW.weights Tryz.prog 39 d0,n<=reachBytes:=Jq (j:=0) hwt (by rw [Tryz.params3];rfl) rfl
 obtain ⟨v,vh,vc,vp,vq,vs,vn,va,hcs,I⟩:=tG (W:=W) hf hwv
 have hcs2:cs.toList=(v.A vh vc vp vq vs vn va).toList:=hcs
 have hcs3:cs=v.A vh vc vp vq vs vn va:=Array.ext' hcs2
 have law:=DW (vs:=[.agg (v.A vh vc vp vq vs vn va)]) W (yx rfl I)
 clear hcs hcs2 hf hwv I
 generalize v.A vh vc vp vq vs vn va=YA at *
 subst hcs3
 refine law.mono fun e W' ⟨x,U,he,⟨hx,_⟩,hb⟩=>?_
 subst hx
 subst he
 exact ⟨_,rfl,Ez EA Tryz.underlying4 (by kernel_rfl) (fun t ht=>by
  rw [Tryz.params3] at ht
  have ht2:t=39:=by simpa using ht
  subst ht2
  exact ⟨by kernel_rfl,af (by kernel_rfl)⟩) rfl hW' rfl hb⟩
end Go.Proofs.YtklehfchdoikeaaGreatDoor
