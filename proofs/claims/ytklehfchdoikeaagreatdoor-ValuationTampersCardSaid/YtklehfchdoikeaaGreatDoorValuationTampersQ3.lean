/- ValuationTampers: the law at every call; no condition. -/
import Derived.Test.YtklehfchdoikeaaGreatDoorCards
import Derived.Test.YtklehfchdoikeaaGreatDoorTie
import Derived.Test.YtklehfchdoikeaaGreatDoorValuationTampersQ2
set_option maxRecDepth 100000
set_option maxHeartbeats 4000000
namespace Go.Proofs.YtklehfchdoikeaaGreatDoor
open Go Go.RowKit Go.SX
open ChangeShapes WideShapes
theorem iU (os:Os) (started:os.Started) (H:Type) (enc:TypeId×Value->H) :
    ReturnsInHanded {} Tryz.checked os 7 .any (fun w args=>(Rows.valuationTampersSpec.pre enc Tryz.prog Tryz.f7 [] false w args/\laidMetH Tryz.prog fa w)/\sizedMet enc Tryz.prog Tryz.f7 (OpenSpec.ofChange Rows.valuationTampersSpec) false w args)
     (Rows.valuationTampersSpec.post enc Tryz.prog Tryz.f7 false true false false):=by
 refine returnsInHanded_of_change_and (C:=Tryz.checked) (X:=fun w _=>laidMetH Tryz.prog fa w) (fun _ _ _ hh h=>h.of_heap hh) pD started (by kernel_rfl) Tryz.func7
  (ChangeSpec.witness_shaped (enc:=enc) (C:=Tryz.checked) (os:=os) (X:=fun w _=>laidMetH Tryz.prog fa w) false (World.laidAll Tryz.prog os fa) #[.slice none 0 0,.int .i64 0] 8 (World.laidAll_os _ _ _)
   (pj os _) (by kernel_rfl) (by kernel_rfl) (by kernel_rfl) (B9 os _)) ?_
 intro W base args ds gs before hval0 hW _ _ _ _
 have hval:∀ (j:Nat) t v,Tryz.f7.params[j]? = some t->args[j]? = some v->Value.okWide Tryz.prog W .any base t v:=hval0
 have hW':=hW
 obtain ⟨p,q,hA0,hV,rfl,_,_⟩:=hW
 have hA:DataW.TrodAll enc Tryz.prog W 0 (fun _=>true) true Tryz.f7.params.toList args.toList ds p:=hA0
 rw [Tryz.params7] at hA hval
 obtain ⟨v0,v1,d0,d1,p0,p1,rfl,rfl,rfl,h0,h1⟩:=trodAll_two hA
 obtain ⟨rfl,rfl⟩:=trodVars_none hV
 obtain ⟨a0,len,cap,rfl⟩:=okWide_slice Tryz.underlying50 (hval 0 50 v0 rfl rfl)
 obtain ⟨fuel,hf⟩:=h0
 obtain ⟨zs,hz⟩:=BA (nt:=Tryz.f7.ntmps) hf
 obtain ⟨n,rfl,rfl,rfl,wn⟩:=open_int Tryz.underlying3 (hval 1 3 v1 rfl rfl) h1
 have hn : -9223372036854775808<=n/\n<=9223372036854775807:=by
  have h1:IntKind.i64.min=-9223372036854775808:=rfl
  have h2:IntKind.i64.max=9223372036854775807:=rfl
  simp only [Lit.wf,h1,h2,Bool.and_eq_true,decide_eq_true_eq] at wn
  omega
 refine (mB hn W hz).mono fun e W' ⟨he,hb⟩=>?_
 subst he
 exact ⟨_,rfl,pQ pR Tryz.underlying4 (by kernel_rfl) (fun t ht=>by
  rw [Tryz.params7] at ht
  have ht2:t=50\/t=3:=by simpa using ht
  rcases ht2 with rfl | rfl<;>exact ⟨by kernel_rfl,af (by kernel_rfl)⟩) rfl hW' rfl hb⟩
end Go.Proofs.YtklehfchdoikeaaGreatDoor
