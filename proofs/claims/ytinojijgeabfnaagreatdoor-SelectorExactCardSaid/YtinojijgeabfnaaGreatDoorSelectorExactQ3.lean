/- SelectorExact: the law at every call; no condition. -/
import Derived.Test.YtinojijgeabfnaaGreatDoorCards
import Derived.Test.YtinojijgeabfnaaGreatDoorTie
import Derived.Test.YtinojijgeabfnaaGreatDoorSelectorExactQ2
set_option maxRecDepth 100000
set_option maxHeartbeats 4000000
namespace Go.Proofs.YtinojijgeabfnaaGreatDoor
open Go Go.RowKit Go.SX
open ChangeShapes WideShapes
theorem selectorExact_lifted (os:Os) (started:os.Started) (H:Type) (enc:TypeId×Value→H) :
    ReturnsInHanded {} Tryz.checked os 3 .any (fun w args=>(Rows.selectorExactSpec.pre enc Tryz.prog Tryz.f3 [] false w args∧laidMetH Tryz.prog laidT w)∧sizedMet enc Tryz.prog Tryz.f3 (OpenSpec.ofChange Rows.selectorExactSpec) false w args)
     (Rows.selectorExactSpec.post enc Tryz.prog Tryz.f3 false true false false):=by
 refine returnsInHanded_of_change_and (C:=Tryz.checked) (X:=fun w _=>laidMetH Tryz.prog laidT w) (fun _ _ _ hh h=>h.of_heap hh) own_knob started (by kernel_rfl) Tryz.func3
  (ChangeSpec.witness_shaped (enc:=enc) (C:=Tryz.checked) (os:=os) (X:=fun w _=>laidMetH Tryz.prog laidT w) false (World.laidAll Tryz.prog os laidT) #[.slice none 0 0,.agg ti31.zero,.int .i64 0,.string ⟨#[]⟩,.int .i64 0] 12 (World.laidAll_os _ _ _)
   (shaped_t os _) (by kernel_rfl) (by kernel_rfl) (by kernel_rfl) (met_t os _)) ?_
 intro W base args ds gs before hval0 hW _ hwt _ _
 have hval:∀ (j:Nat) t v,Tryz.f3.params[j]? = some t→args[j]? = some v→Value.okWide Tryz.prog W .any base t v:=hval0
 have hW':=hW
 obtain ⟨p,q,hA0,hV,rfl,_,_⟩:=hW
 have hA:DataW.TrodAll enc Tryz.prog W 0 (fun _=>true) true Tryz.f3.params.toList args.toList ds p:=hA0
 rw [Tryz.params3] at hA hval
 obtain ⟨v0,v1,v2,v3,v4,d0,d1,d2,d3,d4,p0,p1,p2,p3,p4,rfl,rfl,rfl,h0,h1,h2,h3,h4⟩:=trodAll_five hA
 obtain ⟨rfl,rfl⟩:=trodVars_none hV
 obtain ⟨a0,len,cap,rfl⟩:=okWide_slice Tryz.underlying22 (hval 0 22 v0 rfl rfl)
 obtain ⟨pl,vp,hpin,rfl,hLp,hbp⟩:=rd_policyV (hval 1 31 v1 rfl rfl) h1
 obtain ⟨k,rfl,rfl,rfl,wn⟩:=open_int Tryz.underlying3 (hval 2 3 v2 rfl rfl) h2
 obtain ⟨s,rfl⟩:=okWide_string Tryz.underlying9 (hval 3 9 v3 rfl rfl)
 obtain ⟨day,rfl,rfl,rfl,wd⟩:=open_int Tryz.underlying3 (hval 4 3 v4 rfl rfl) h4
 obtain ⟨ins,rfl⟩:∃ l,s=S l:=⟨s.data.toList,(S_of s).symm⟩
 obtain ⟨fuel,hf⟩:=h0
 obtain ⟨xs,hin,hL,hb⟩:=rd_quotes (W:=W) hf
 have hn:xs.length≤1000000000000:=by
  rcases hb with rfl | ⟨el,spr,he,hl⟩
  ·simp
  ·have he:d0=.slice el spr:=he
   subst he
   have h2:=sized_slice hwt (j:=0) (t:=22) (e:=40) (elems:=el) (spare:=spr) (by rw [Tryz.params3];rfl) rfl Tryz.underlying22
   rw [show Tryz.checked.prog.bytesOf 40=336 by kernel_rfl] at h2
   have h3:=reachBytes_lt
   rw [← hl]
   omega
 have hpn:pl.srcs.length≤1000000000000000:=by
  rcases hbp with h | ⟨el,spr,r1,r2,he,hl⟩
  ·rw [h];simp
  ·subst he
   rw [← hl]
   exact pol_len Tryz.underlying31 Tryz.underlying23 (by kernel_rfl) hwt (j:=1) (by rw [Tryz.params3];rfl) rfl
 refine (ownC_at (vs:=[.slice a0 len cap,.agg (pl.A vp),.int .i64 k,.string (S ins),.int .i64 day]) W (exact_q (k:=k) rfl hL hn hin hLp hpn hpin ins day)).mono fun e W' ⟨x,U,he,⟨hx,_⟩,hb⟩=>?_
 subst hx
 subst he
 exact ⟨_,rfl,law_post laid_out Tryz.underlying4 (by kernel_rfl) (fun t ht=>by
  rw [Tryz.params3] at ht
  have ht2:t=22∨t=31∨t=3∨t=9∨t=3:=by simpa using ht
  rcases ht2 with rfl | rfl | rfl | rfl | rfl<;>exact ⟨by kernel_rfl,of_decide_eq_true (by kernel_rfl)⟩) rfl hW' rfl hb⟩
end Go.Proofs.YtinojijgeabfnaaGreatDoor
