/- An abstract walk: the runes of a string, one by one; a contr; no condition. -/
import Derived.Lib.OthersKept
import Derived.Test.YtekfkdddadcalaaGreatDoorPositionSpoiltQ9
set_option maxRecDepth 100000
set_option maxHeartbeats 4000000
namespace Go.SX
open Go Go.RowKit
section
variable {E:VE} {o:Oper} {f:bH} {m:az} {T:List Key->Prop} {K:VK}
end
theorem o3 {ρ ρ':Rho}:∀ {vs xs:List Value},fE ρ (vs.map SV.c) xs->fE ρ' (vs.map SV.c) xs
 | [],[],_=>trivial
 | _ :: _,_ :: _,⟨h1,h2⟩=>⟨h1,o3 h2⟩
theorem El {P:Program} {g:FuncId} {vs:List Value} {v:Value} (hent:Enters P g) (h:∀ w,OwnC { P:=P,n:=0,w0:=w,X:=[],pk:=[] } g (vs.map SV.c) [] (fun x U=>x=v/\U=[])):ax P g (vs.map SV.c) v:=by
 refine ⟨hent,fun ρ w xs hx=>?_⟩
 refine ((h w).2 (fun _=>none) w xs ⟨rfl,rfl,rfl,Nat.le_refl _,fun _ _ _=>rfl,fun d B hd=>by simp [aq] at hd,fun _ _=>rfl,fun d B hd=>by simp [aq] at hd,fun d B b hd=>by simp [aq] at hd,fun d e k hd=>(by cases hd),fun d k B hp=>by simp [Env.np] at hp⟩ (o3 hx)).mono ?_
 rintro e w' ⟨x,U,h1,⟨h2,-⟩,h3,-⟩
 exact ⟨by rw [h1,h2],h3.os,h3.tape,h3.output,h3.size,fun k hk=>h3.old k hk (by simp [Env.np])⟩
end Go.SX
