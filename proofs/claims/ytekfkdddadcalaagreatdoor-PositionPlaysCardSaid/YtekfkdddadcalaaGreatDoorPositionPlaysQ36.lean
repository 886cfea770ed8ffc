/- PositionPlays: the law at every call; no condition. -/
import Derived.Test.YtekfkdddadcalaaGreatDoorCards
import Derived.Test.YtekfkdddadcalaaGreatDoorTie
import Derived.Test.YtekfkdddadcalaaGreatDoorPositionPlaysQ35
set_option maxRecDepth 100000
set_option maxHeartbeats 4000000
namespace Go.Proofs.YtekfkdddadcalaaGreatDoor
open Go Go.RowKit Go.SX
open Go.Proofs.Tryz (prog)
open ChangeShapes WideShapes
theorem jG (os:Os) (started:os.Started) (H:Type) (enc:TypeId×Value->H) :
    ReturnsInHanded {} Tryz.checked os 9 .any (fun w args=>(Rows.positionPlaysSpec.pre enc prog Tryz.f9 [] false w args/\laidMetH prog qc w)/\sizedMet enc prog Tryz.f9 (OpenSpec.ofChange Rows.positionPlaysSpec) false w args)
     (Rows.positionPlaysSpec.post enc prog Tryz.f9 false true false false):=by
 refine returnsInHanded_of_change_and (C:=Tryz.checked) (X:=fun w _=>laidMetH prog qc w) (fun _ _ _ hh h=>h.of_heap hh) CX started (by kernel_rfl) Tryz.func9
  (ChangeSpec.witness_shaped (enc:=enc) (C:=Tryz.checked) (os:=os) (X:=fun w _=>laidMetH prog qc w) false (World.laidAll prog os qc) #[.slice none 0 0] 8 (World.laidAll_os _ _ _)
   (Cv os _) (by kernel_rfl) (by kernel_rfl) (by kernel_rfl) (JH os _)) ?_
 intro W base args ds gs before hval0 hW _ _ _ _
 have hval:∀ (j:Nat) t v,Tryz.f9.params[j]? = some t->args[j]? = some v->Value.okWide prog W .any base t v:=hval0
 have hW':=hW
 obtain ⟨p,q,hA0,hV,rfl,_,_⟩:=hW
 have hA:DataW.TrodAll enc prog W 0 (fun _=>true) true Tryz.f9.params.toList args.toList ds p:=hA0
 rw [Tryz.params9] at hA hval
 obtain ⟨v0,d0,rfl,rfl,h0⟩:=trodAll_one hA
 obtain ⟨rfl,rfl⟩:=trodVars_none hV
 obtain ⟨a0,len,cap,rfl⟩:=okWide_slice Tryz.underlying22 (hval 0 22 v0 rfl rfl)
 obtain ⟨fuel,hf⟩:=h0
 obtain ⟨zs,hz⟩:=IJ (nt:=Tryz.f9.ntmps) hf
 refine (oC W hz).mono fun e W' ⟨he,hb⟩=>?_
 subst he
 exact ⟨_,rfl,Dm Dn Tryz.underlying4 (by kernel_rfl) (fun t ht=>by
  rw [Tryz.params9] at ht
  have ht2:t=22:=by simpa using ht
  subst ht2
  exact ⟨by kernel_rfl,ab (by kernel_rfl)⟩) rfl hW' rfl hb⟩
end Go.Proofs.YtekfkdddadcalaaGreatDoor
