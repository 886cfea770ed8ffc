/- An abstract walk: the runes of a string, one by one; a contr; no condition. -/
import Derived.Lib.OthersKept
import Derived.Test.YtklehfchdoikeaaGreatDoorP9
set_option maxRecDepth 100000
set_option maxHeartbeats 4000000
namespace Go.SX
open Go Go.RowKit
section
variable {E:VE} {o:Oper} {f:bB} {m:aA} {T:List Key->Prop} {K:VK}
theorem un {t:TypeId} {x:Operand} (ho:o.op=.range t x) {P:Program} (hP:E.P=P) (ht:P.underlying t=some .string) (d:Key) {s:ByteArray} (hx:evF (aB f) x=SV.c (.string s)) (hm:aw m d=none) (hT:T [d])
    (h:∀ r,K (SV.c (.pointer (some ⟨r,0,none⟩))) [d] [(d,Blk.res r (fun o=>o=.stringIter s 0))]):br E o f m T K:=by
 subst hP
 refine .inr ⟨[d],fun v U=>∃ r,v=SV.c (.pointer (some ⟨r,0,none⟩))/\U=[(d,Blk.res r (fun o=>o=.stringIter s 0))],?_,?_,hT,?_⟩
 ·intro f' m' hf hmm ρ a w h1 h2 K' Q hK
  have hf:=fun x hx=>di (o:=o) hf (x:=x) hx
  have hxx:=az h1 x
  rw [hf x (by simp [ho,Op.operands]),hx] at hxx
  have hxx:=bf hxx
  unfold Oper.wp
  have hrun:(execOp a.eval o).run E.P w=.ok (.value (.pointer (some ⟨w.heap.size,0,none⟩))) (w.alloc (.stringIter s 0)):=by
   simp only [execOp,ho,hxx,Sem.run_bind,run_range_string w t s ht,Result.andThen_ok,Sem.run_pure]
   rfl
  rw [hrun]
  exact hK ρ _ _ _ _ ⟨w.heap.size,rfl,rfl⟩ (Ext.refl _) rfl (wg h2 ((hmm d (by simp)).trans hm) _ rfl)
 ·rintro v U ⟨r,rfl,rfl⟩;exact bS
 ·rintro v U ⟨r,rfl,rfl⟩;exact h r
theorem xg {x:Operand} (ho:o.op=.next x true) (d:Key) {r pos:Nat} {s:ByteArray}
    (hx:evF (aB f) x=SV.c (.pointer (some ⟨r,0,none⟩))) (hm:aw m d=some (Blk.res r (fun o=>o=.stringIter s pos))) (_hT:T [d])
    (h0:¬ pos < s.size->K (SV.c (.tuple #[.bool false])) [d] [])
    (h1:pos < s.size->K (SV.c (.tuple #[.bool true,.int .i64 pos,.int .i32 (Utf8.decode s pos).1])) [d] [(d,Blk.res r (fun o=>o=.stringIter s (pos+(Utf8.decode s pos).2)))]):br E o f m T K:=by
 by_cases hp:pos < s.size
 ·refine .inl ⟨_,[d],[(d,Blk.res r (fun o=>o=.stringIter s (pos+(Utf8.decode s pos).2)))],aT fun f' m' ρ a w hf hmm hF h2=>?_,bS,h1 hp⟩
  have hxx:=az hF x
  rw [hf x (by simp [ho,Op.operands]),hx] at hxx
  have hxx:=bf hxx
  have hm':=(hmm d (by simp)).trans hm
  obtain ⟨_,h3,rfl⟩:=fT h2 hm'
  have hrun:=Lib.run_next_any_at (P:=E.P) w r s pos o.type h3 hp
  refine ⟨ρ,_,w.iterAt r s (pos+(Utf8.decode s pos).2),by simp only [execOp,ho,hxx,Sem.run_bind,hrun,Result.andThen_ok,Sem.run_pure],Ext.refl _,rfl,lz h2 hm' ⟨rfl,rfl,rfl,by simp [World.iterAt],fun i _ hi=>?_⟩ ⟨_,Lib.iterAt_heap w r s pos _ h3,rfl⟩⟩
  have hne:r≠i:=fun e=>hi (by rw [e])
  simp [World.iterAt,hne]
 ·refine .inl ⟨_,[d],[],aT fun f' m' ρ a w hf hmm hF h2=>?_,jF,h0 hp⟩
  have hxx:=az hF x
  rw [hf x (by simp [ho,Op.operands]),hx] at hxx
  have hxx:=bf hxx
  obtain ⟨_,h3,rfl⟩:=fT h2 ((hmm d (by simp)).trans hm)
  have hrun:=Lib.run_next_end_at (P:=E.P) w r s pos o.type h3 hp
  exact ⟨ρ,_,w,by simp only [execOp,ho,hxx,Sem.run_bind,hrun,Result.andThen_ok,Sem.run_pure],Ext.refl _,rfl,by rw [fJ];exact h2⟩
end
theorem sG {ρ ρ':Rho}:∀ {vs xs:List Value},fU ρ (vs.map SV.c) xs->fU ρ' (vs.map SV.c) xs
 | [],[],_=>trivial
 | _ :: _,_ :: _,⟨h1,h2⟩=>⟨h1,sG h2⟩
theorem rH {P:Program} {g:FuncId} {vs:List Value} {v:Value} (hent:Enters P g) (h:∀ w,OwnC { P:=P,n:=0,w0:=w,X:=[],pk:=[] } g (vs.map SV.c) [] (fun x U=>x=v/\U=[])):ay P g (vs.map SV.c) v:=by
 refine ⟨hent,fun ρ w xs hx=>?_⟩
 refine ((h w).2 (fun _=>none) w xs ⟨rfl,rfl,rfl,Nat.le_refl _,fun _ _ _=>rfl,fun d B hd=>by simp [aw] at hd,fun _ _=>rfl,fun d B hd=>by simp [aw] at hd,fun d B b hd=>by simp [aw] at hd,fun d e k hd=>(by cases hd),fun d k B hp=>by simp [Env.np] at hp⟩ (sG hx)).mono ?_
 rintro e w' ⟨x,U,h1,⟨h2,-⟩,h3,-⟩
 exact ⟨by rw [h1,h2],h3.os,h3.tape,h3.output,h3.size,fun k hk=>h3.old k hk (by simp [Env.np])⟩
end Go.SX
