/- ValuationVerifies: the law at every call; no condition. -/
import Derived.Test.YtofllflnmmjijaaGreatDoorCards
import Derived.Test.YtofllflnmmjijaaGreatDoorTie
import Derived.Test.YtofllflnmmjijaaGreatDoorValuationVerifiesQ2
import Derived.Test.YtofllflnmmjijaaGreatDoorP37
set_option maxRecDepth 100000
set_option maxHeartbeats 4000000
namespace Go.Proofs.YtofllflnmmjijaaGreatDoor
open Go Go.RowKit Go.SX
open ChangeShapes WideShapes
theorem valuationVerifies_lifted (os:Os) (started:os.Started) (H:Type) (enc:TypeId×Value→H) :
    ReturnsInHanded {} Tryz.checked os 5 .any (fun w args=>(Rows.valuationVerifiesSpec.pre enc Tryz.prog Tryz.f5 [] false w args∧laidMetH Tryz.prog laidT w)∧sizedMet enc Tryz.prog Tryz.f5 (OpenSpec.ofChange Rows.valuationVerifiesSpec) false w args)
     (Rows.valuationVerifiesSpec.post enc Tryz.prog Tryz.f5 false true false false):=by
 refine returnsInHanded_of_change_and (C:=Tryz.checked) (X:=fun w _=>laidMetH Tryz.prog laidT w) (fun _ _ _ hh h=>h.of_heap hh) own_knob started (by kernel_rfl) Tryz.func5
  (ChangeSpec.witness_shaped (enc:=enc) (C:=Tryz.checked) (os:=os) (X:=fun w _=>laidMetH Tryz.prog laidT w) false (World.laidAll Tryz.prog os laidT) #[.agg ti42.zero] 8 (World.laidAll_os _ _ _)
   (shaped_t os _) (by kernel_rfl) (by kernel_rfl) (by kernel_rfl) (met_t os _)) ?_
 intro W base args ds gs before hval0 hW _ hwt _ _
 have hval:∀ (j:Nat) t v,Tryz.f5.params[j]? = some t→args[j]? = some v→Value.okWide Tryz.prog W .any base t v:=hval0
 have hW':=hW
 obtain ⟨p,q,hA0,hV,rfl,_,_⟩:=hW
 have hA:DataW.TrodAll enc Tryz.prog W 0 (fun _=>true) true Tryz.f5.params.toList args.toList ds p:=hA0
 rw [Tryz.params5] at hA hval
 obtain ⟨v0,d0,rfl,rfl,h0⟩:=trodAll_one hA
 obtain ⟨rfl,rfl⟩:=trodVars_none hV
 obtain ⟨cs,rfl,hsz⟩:=okWide_struct Tryz.underlying42 (hval 0 42 v0 rfl rfl)
 obtain ⟨fuel,hf⟩:=h0
 obtain ⟨s,vl,hcs,hL,hin,hcur⟩:=rd_sheet (W:=W) hf
 have hcs:cs=s.A vl:=Array.ext' hcs
 subst hcs
 refine (ownC_at8 (vs:=[.agg (s.A vl)]) W (verifies_law rfl hL hin hcur)).mono fun e W' ⟨x,U,he,⟨hx,_⟩,hb⟩=>?_
 subst hx
 subst he
 exact ⟨_,rfl,law_post laid_out Tryz.underlying4 (by kernel_rfl) (fun t ht=>by
  rw [Tryz.params5] at ht
  have ht2:t=42:=by simpa using ht
  subst ht2
  exact ⟨by kernel_rfl,of_decide_eq_true (by kernel_rfl)⟩) rfl hW' rfl hb⟩
end Go.Proofs.YtofllflnmmjijaaGreatDoor
