/- An abstract walk: the runes of a string, one by one; a contract without memory as one by value; no condition. -/
import Derived.Lib.OthersKept
import Derived.Test.YtkaakbpeegpnkaaGreatDoorP9
set_option maxRecDepth 100000
set_option maxHeartbeats 4000000
namespace Go.SX
open Go Go.RowKit
section
variable {E:VE} {o:Oper} {f:FrmL} {m:MemL} {T:List Key→Prop} {K:VK}
end
theorem rels_plain {ρ ρ':Rho}:∀ {vs xs:List Value},rels ρ (vs.map SV.c) xs→rels ρ' (vs.map SV.c) xs
 | [],[],_=>trivial
 | _ :: _,_ :: _,⟨h1,h2⟩=>⟨h1,rels_plain h2⟩
theorem pure_of {P:Program} {g:FuncId} {vs:List Value} {v:Value} (hent:Enters P g) (h:∀ w,OwnC { P:=P,n:=0,w0:=w,X:=[],pk:=[] } g (vs.map SV.c) [] (fun x U=>x=v∧U=[])):Pure P g (vs.map SV.c) v:=by
 refine ⟨hent,fun ρ w xs hx=>?_⟩
 refine ((h w).2 (fun _=>none) w xs ⟨rfl,rfl,rfl,Nat.le_refl _,fun _ _ _=>rfl,fun d B hd=>by simp [getM] at hd,fun _ _=>rfl,fun d B hd=>by simp [getM] at hd,fun d B b hd=>by simp [getM] at hd,fun d e k hd=>(by cases hd),fun d k B hp=>by simp [Env.np] at hp⟩ (rels_plain hx)).mono ?_
 rintro e w' ⟨x,U,h1,⟨h2,-⟩,h3,-⟩
 exact ⟨by rw [h1,h2],h3.os,h3.tape,h3.output,h3.size,fun k hk=>h3.old k hk (by simp [Env.np])⟩
end Go.SX
