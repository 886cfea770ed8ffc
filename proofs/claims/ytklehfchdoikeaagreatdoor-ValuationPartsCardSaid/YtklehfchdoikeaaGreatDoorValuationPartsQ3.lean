/- ValuationParts: the law at every call; no condition. -/
import Derived.Test.YtklehfchdoikeaaGreatDoorCards
import Derived.Test.YtklehfchdoikeaaGreatDoorTie
import Derived.Test.YtklehfchdoikeaaGreatDoorValuationPartsQ2
set_option maxRecDepth 100000
set_option maxHeartbeats 4000000
namespace Go.Proofs.YtklehfchdoikeaaGreatDoor
open Go Go.RowKit Go.SX
open ChangeShapes WideShapes
theorem j0 (os:Os) (started:os.Started) (H:Type) (enc:TypeId×Value->H) :
    ReturnsInHanded {} Tryz.checked os 10 .any (fun w args=>(Rows.valuationPartsSpec.pre enc Tryz.prog Tryz.f10 [] false w args/\laidMetH Tryz.prog fa w)/\sizedMet enc Tryz.prog Tryz.f10 (OpenSpec.ofChange Rows.valuationPartsSpec) false w args)
     (Rows.valuationPartsSpec.post enc Tryz.prog Tryz.f10 false true false false):=by
 refine returnsInHanded_of_change_and (C:=Tryz.checked) (X:=fun w _=>laidMetH Tryz.prog fa w) (fun _ _ _ hh h=>h.of_heap hh) pD started (by kernel_rfl) Tryz.func10
  (ChangeSpec.witness_shaped (enc:=enc) (C:=Tryz.checked) (os:=os) (X:=fun w _=>laidMetH Tryz.prog fa w) false (World.laidAll Tryz.prog os fa) #[.slice none 0 0] 8 (World.laidAll_os _ _ _)
   (pj os _) (by kernel_rfl) (by kernel_rfl) (by kernel_rfl) (B9 os _)) ?_
 intro W base args ds gs before hval0 hW _ _ _ _
 have hval:∀ (j:Nat) t v,Tryz.f10.params[j]? = some t->args[j]? = some v->Value.okWide Tryz.prog W .any base t v:=hval0
 have hW':=hW
 obtain ⟨p,q,hA0,hV,rfl,_,_⟩:=hW
 have hA:DataW.TrodAll enc Tryz.prog W 0 (fun _=>true) true Tryz.f10.params.toList args.toList ds p:=hA0
 rw [Tryz.params10] at hA hval
 obtain ⟨v0,d0,rfl,rfl,h0⟩:=trodAll_one hA
 obtain ⟨rfl,rfl⟩:=trodVars_none hV
 obtain ⟨a0,len,cap,rfl⟩:=okWide_slice Tryz.underlying50 (hval 0 50 v0 rfl rfl)
 obtain ⟨fuel,hf⟩:=h0
 obtain ⟨zs,hz⟩:=BA (nt:=Tryz.f10.ntmps) hf
 refine (qm W hz).mono fun e W' ⟨he,hb⟩=>?_
 subst he
 exact ⟨_,rfl,pQ pR Tryz.underlying4 (by kernel_rfl) (fun t ht=>by
  rw [Tryz.params10] at ht
  have ht2:t=50:=by simpa using ht
  subst ht2
  exact ⟨by kernel_rfl,af (by kernel_rfl)⟩) rfl hW' rfl hb⟩
end Go.Proofs.YtklehfchdoikeaaGreatDoor
