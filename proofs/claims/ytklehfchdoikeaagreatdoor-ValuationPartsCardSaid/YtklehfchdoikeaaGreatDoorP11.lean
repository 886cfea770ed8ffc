/- An abstract walk: bytes of a string as a slice and back, emp; no condition. -/
import Derived.Laws.IdiomStrings
import Derived.Test.YtklehfchdoikeaaGreatDoorP9
set_option maxRecDepth 100000
set_option maxHeartbeats 4000000
namespace Go.SX
open Go Go.RowKit
section
variable {E:VE} {o:Oper} {f:bB} {m:aA} {T:List Key->Prop} {K:VK}
theorem qe {l:List UInt8} {cap j:Nat} {b:UInt8} (h:l[j]? = some b):(bytesRow ⟨l.toArray⟩ cap)[j]? = some (.int .u8 (b.toNat:Int)):=by
 have hj:=(List.getElem?_eq_some_iff.1 h).1
 unfold bytesRow
 rw [Array.getElem?_append_left (by simpa using hj)]
 simp [h]
theorem wR {l:List UInt8} {cap j:Nat} {b:UInt8} (h:j < l.length):(bytesRow ⟨l.toArray⟩ cap).setIfInBounds j (.int .u8 (b.toNat:Int))=bytesRow ⟨(l.set j b).toArray⟩ cap:=by
 unfold bytesRow
 rw [Array.setIfInBounds_append_left (by simpa using h)]
 congr 1
 ·apply Array.ext'
  simp [List.map_set]
 ·congr 1
  show cap - l.toArray.size=cap - (l.set j b).toArray.size
  simp
theorem EP (hE:VOk E) {ty:TypeId} {x:Operand} (ho:o.op=.load ty x) {i:TI} (hi:E.tt ty=some i) (hr:i.row=false) (d:Key) {g j cap fz:Nat} {l:List UInt8} {e:TypeId} {b:UInt8} (hx:evF (aB f) x=SV.c (.pointer (some ⟨g,j,none⟩)))
    (hm:aw m d=some (Blk.res g (fun o=>o=.cells (bytesRow ⟨l.toArray⟩ cap) e ((bytesRow ⟨l.toArray⟩ cap).size,fz)))) (hb:l[j]? = some b) (h:K (SV.c (.int .u8 (b.toNat:Int))) [d] []):br E o f m T K:=by
 refine .inl ⟨_,[d],[],aT fun f' m' ρ a w hf hmm h1 h2=>?_,jF,h⟩
 have hxx:=az h1 x
 rw [hf x (by simp [ho,Op.operands]),hx] at hxx
 have hxx:=bf hxx
 obtain ⟨_,hg,rfl⟩:=fT h2 ((hmm d (by simp)).trans hm)
 have hl:=eo (w:=w) (k:=g) (off:=j) (hE ty i hi) (v:=.int .u8 (b.toNat:Int)) (by simp only [World.cell?,hg];exact qe hb) hr
 exact ⟨ρ,_,w,by simp only [execOp,ho,hxx,Sem.run_bind,hl,Result.andThen_ok,Sem.run_pure],Ext.refl _,rfl,by rw [fJ];exact h2⟩
theorem Bf (hE:VOk E) {ty:TypeId} {x y:Operand} (ho:o.op=.store ty x y) {i:TI} (hi:E.tt ty=some i) (hs:i.size=1) (d:Key) {g j cap fz:Nat} {l:List UInt8} {e:TypeId} {b:UInt8} (hx:evF (aB f) x=SV.c (.pointer (some ⟨g,j,none⟩))) (hy:evF (aB f) y=SV.c (.int .u8 (b.toNat:Int)))
    (hm:aw m d=some (Blk.res g (fun o=>o=.cells (bytesRow ⟨l.toArray⟩ cap) e ((bytesRow ⟨l.toArray⟩ cap).size,fz)))) (hj:j < l.length) (h:K (SV.c undef) [d] [(d,Blk.res g (fun o=>o=.cells (bytesRow ⟨(l.set j b).toArray⟩ cap) e ((bytesRow ⟨(l.set j b).toArray⟩ cap).size,fz)))]):br E o f m T K:=by
 refine .inl ⟨_,[d],[(d,Blk.res g (fun o=>o=.cells (bytesRow ⟨(l.set j b).toArray⟩ cap) e ((bytesRow ⟨(l.set j b).toArray⟩ cap).size,fz)))],fM fun f' m' ρ a w hf hmm h1 h2=>?_,bS,h⟩
 have hxx:=az h1 x
 rw [hf x (by simp [ho,Op.operands]),hx] at hxx
 have hxx:=bf hxx
 have hyy:=az h1 y
 rw [hf y (by simp [ho,Op.operands]),hy] at hyy
 have hyy:=bf hyy
 have hm':=(hmm d (by simp)).trans hm
 obtain ⟨_,hg,rfl⟩:=fT h2 hm'
 have hlt:j < (bytesRow ⟨l.toArray⟩ cap).size:=by
  have e1:(⟨l.toArray⟩:ByteArray).size=l.length:=by show l.toArray.size=_;simp
  simp [bytesRow];omega
 have hl:=jt (w:=w) (k:=g) (off:=j) (u:=(bytesRow ⟨l.toArray⟩ cap)[j]) (v:=.int .u8 (b.toNat:Int)) (hE ty i hi) (by simp only [World.cell?,hg];exact Array.getElem?_eq_getElem hlt) (by simp [World.frozen?,hg];omega) rfl hs
 have hset:(w.setCell ⟨g,j,none⟩ (.int .u8 (b.toNat:Int))).heap[g]? = some (.cells (bytesRow ⟨(l.set j b).toArray⟩ cap) e ((bytesRow ⟨(l.set j b).toArray⟩ cap).size,fz)):=by
  rw [<- wR hj]
  simp [World.setCell,Array.getElem?_modify,hg]
 refine ⟨w.setCell ⟨g,j,none⟩ (.int .u8 (b.toNat:Int)),by simp only [execOp,ho,hxx,hyy,Sem.run_bind,hl,Result.andThen_ok,Sem.run_pure],lz h2 hm' ⟨rfl,rfl,rfl,by simp [World.setCell],fun k _ hk=>?_⟩ ⟨_,hset,rfl⟩⟩
 have hne:g≠k:=fun e=>hk (by rw [e])
 simp [World.setCell,Array.getElem?_modify,hne]
theorem Bc {t e:TypeId} {x:Operand} (ho:o.op=.convert t t x) {P:Program} (hP:E.P=P) (ht:P.underlying t=some (.slice e)) (he:P.underlying e=some (.int .u8)) (d:Key) {g n:Nat} {l:List UInt8} {A:Array Value} (hn:n=l.length) (hA:A=bytesRow ⟨l.toArray⟩ n) (hx:evF (aB f) x=SV.c (.slice (some ⟨g,0,none⟩) n n))
    (hm:aw m d=some (Blk.own (.slice (some ⟨g,0,none⟩) n n) e 1 n A)) (h:∀ fz,K (SV.c (.slice (some ⟨g,0,none⟩) n n)) [d] [(d,Blk.res g (fun o=>o=.cells (bytesRow ⟨l.toArray⟩ n) e ((bytesRow ⟨l.toArray⟩ n).size,fz)))]):br E o f m T K:=by
 subst hP hA
 refine .inl ⟨_,[d],[(d,Blk.res g (fun o=>o=.cells (bytesRow ⟨l.toArray⟩ n) e ((bytesRow ⟨l.toArray⟩ n).size,(bytesRow ⟨l.toArray⟩ n).size+1)))],aT fun f' m' ρ a w hf hmm h1 h2=>?_,bS,h _⟩
 have hxx:=az h1 x
 rw [hf x (by simp [ho,Op.operands]),hx] at hxx
 have hxx:=bf hxx
 have hm':=(hmm d (by simp)).trans hm
 obtain ⟨cur,hg,h3,h4,h5,h6,h7,h8⟩:=fq (ot h2 hm')
 have hcur:cur=bytesRow ⟨l.toArray⟩ n:=by
  apply Array.ext'
  rw [<- h8,List.take_of_length_le (by rw [Array.length_toList];omega)]
 subst hcur
 have hlt:=(Array.getElem?_eq_some_iff.1 hg).1
 have hset:(w.freeze ⟨g,(bytesRow ⟨l.toArray⟩ n).size,none⟩ 1).heap[g]? = some (.cells (bytesRow ⟨l.toArray⟩ n) e ((bytesRow ⟨l.toArray⟩ n).size,(bytesRow ⟨l.toArray⟩ n).size+1)):=by
  unfold World.freeze
  rw [if_neg (by decide)]
  simp [Array.getElem?_modify,hg]
 have hoth:∀ k,k≠g->(w.freeze ⟨g,(bytesRow ⟨l.toArray⟩ n).size,none⟩ 1).heap[k]? = w.heap[k]?:=by
  intro k hk
  unfold World.freeze
  rw [if_neg (by decide)]
  simp [Array.getElem?_modify,Ne.symm hk]
 have hrun:(convert t t (.slice (some ⟨g,0,none⟩) n n)).run E.P w=.ok (.slice (some ⟨g,0,none⟩) n n) (w.freeze ⟨g,(bytesRow ⟨l.toArray⟩ n).size,none⟩ 1):=by
  have hsh:w.shape? g=some (e,(bytesRow ⟨l.toArray⟩ n).size):=by unfold World.shape?;rw [hg]
  simp [convert,run_underlying ht,run_underlying he,markStringish,hsh]
 refine ⟨ρ,.slice (some ⟨g,0,none⟩) n n,w.freeze ⟨g,(bytesRow ⟨l.toArray⟩ n).size,none⟩ 1,by simp only [execOp,ho,hxx,Sem.run_bind,hrun,Result.andThen_ok,Sem.run_pure],Ext.refl _,rfl,?_⟩
 refine h2.set_loose (no:=some g) (.inr ⟨_,hm',rfl,rfl⟩) (by unfold World.freeze;rw [if_neg (by decide)]) (by unfold World.freeze;rw [if_neg (by decide)]) (by unfold World.freeze;rw [if_neg (by decide)]) (by unfold World.freeze;rw [if_neg (by decide)];simp) (fun k _ hk=>hoth k (fun e=>hk (by rw [e]))) rfl ⟨_,hset,rfl⟩ (fun b hb=>.inl hb.symm)
theorem Be {src dst e:TypeId} {x:Operand} (ho:o.op=.convert src dst x) {P:Program} (hP:E.P=P) (hs:P.underlying src=some (.slice e)) (hd:P.underlying dst=some .string) (he:P.underlying e=some (.int .u8)) (d:Key) {g cap c2 fz n:Nat} {l:List UInt8} (hn:n=l.length) (hx:evF (aB f) x=SV.c (.slice (some ⟨g,0,none⟩) n cap))
    (hm:aw m d=some (Blk.res g (fun o=>o=.cells (bytesRow ⟨l.toArray⟩ c2) e ((bytesRow ⟨l.toArray⟩ c2).size,fz)))) (h:K (SV.c (.string ⟨l.toArray⟩)) [d] []):br E o f m T K:=by
 subst hP
 subst hn
 refine .inl ⟨_,[d],[],aT fun f' m' ρ a w hf hmm h1 h2=>?_,jF,h⟩
 have hxx:=az h1 x
 rw [hf x (by simp [ho,Op.operands]),hx] at hxx
 have hxx:=bf hxx
 obtain ⟨_,hg,rfl⟩:=fT h2 ((hmm d (by simp)).trans hm)
 have hl:=run_convert_bytes_back (P:=E.P) w src dst e ⟨g,0,none⟩ cap l hs he hd (fun j hj=>by
  rw [add_flat,Nat.zero_add]
  simp only [World.cell?,hg]
  exact qe (List.getElem?_eq_getElem hj))
 exact ⟨ρ,_,w,by simp only [execOp,ho,hxx,Sem.run_bind,hl,Result.andThen_ok,Sem.run_pure],Ext.refl _,rfl,by rw [fJ];exact h2⟩
theorem Bg (hE:VOk E) {t:TypeId} {parts:Array (Nat×Operand)} (ho:o.op=.buildSlice t 0 parts) (hp:parts=#[]) {i j:TI} (hi:E.tt t=some i) (hk:i.kind=3) (hj:E.tt i.elem=some j) (d:Key) (hm:aw m d=none) (hT:T [d])
    (h:∀ g,K (SV.c (.slice (some ⟨g,0,none⟩) 0 0)) [d] [(d,Blk.own (.slice (some ⟨g,0,none⟩) 0 0) i.elem j.size 0 #[])]):br E o f m T K:=by
 subst hp
 refine .inr ⟨[d],fun s U=>∃ g,s=SV.c (.slice (some ⟨g,0,none⟩) 0 0)/\U=[(d,Blk.own (.slice (some ⟨g,0,none⟩) 0 0) i.elem j.size 0 #[])],?_,?_,hT,?_⟩
 ·intro f' m' hf hmm ρ a w h1 h2 K' Q hK
  have hm':m' d=none:=(hmm d (by simp)).trans hm
  obtain ⟨dd,hu,_,hsay⟩:=(hE _ i hi).desc
  simp only [TI.says,hk] at hsay
  subst hsay
  have hb:(Instr.buildSlice t 0 #[]).run E.P w=.ok (.slice (some ⟨w.heap.size,0,none⟩) 0 0) (w.alloc (.cells #[] i.elem)):=by
   unfold Instr.buildSlice
   simp only [Sem.run_bind,run_underlying hu,Result.andThen_ok,run_sizeOf (hE _ _ hj)]
   rw [if_neg (by simp)]
   simp only [Nat.zero_mul,if_pos,Sem.run_bind,Sem.run_pure,Result.andThen_ok]
   simp [Instr.fill,newRow,Array.range]
  unfold Oper.wp
  have hrun:(execOp a.eval o).run E.P w=.ok (.value (.slice (some ⟨w.heap.size,0,none⟩) 0 0)) (w.alloc (.cells #[] i.elem)):=by
   simp only [execOp,ho,Sem.run_bind,Sem.run_pure]
   rw [Array.map_empty,hb]
   simp
  rw [hrun]
  refine hK ρ (.slice (some ⟨w.heap.size,0,none⟩) 0 0) _ _ _ ⟨w.heap.size,rfl,rfl⟩ (Ext.refl _) rfl ?_
  refine h2.set_loose (no:=none) (.inl ⟨hm',rfl⟩) rfl rfl rfl (by show _<=(w.heap.push _).size;rw [Array.size_push];omega) (fun k hk' _=>Below.heap_alloc w _ k hk') rfl ?_ (fun b hb=>?_)
  ·exact ⟨by simp,.inr ⟨w.heap.size,0,#[],rfl,Nat.zero_le _,heap_alloc_new w _,Nat.le_refl _,Nat.zero_le _,by simp,by simp⟩⟩
  ·have hb:w.heap.size=b:=by simpa [Blk.num,Value.ownBlock] using hb
   exact .inr (by omega)
 ·rintro s U ⟨g,rfl,rfl⟩ d' B hB
  exact bS d' B hB
 ·rintro s U ⟨g,rfl,rfl⟩
  exact h g
theorem wI (hE:VOk E) {c:Call} {x:Operand} {t:TypeId} (ho:o.op=.call c) (hc:c.callee=.builtin .clear) (hargs:c.args.toList=[x]) (hty:c.argTypes.toList=[t]) {i j:TI} (hi:E.tt t=some i) (hk:i.kind=3) (hj:E.tt i.elem=some j) (hz:j.zero.all (·.oneCell')=true) (d:Key) {g n cap a k c2 off:Nat} {A:Array Value} (ha:a+k=n) (hk0:0 < k) (hoff:off=a*j.size)
    (hx:evF (aB f) x=SV.c (.slice (some ⟨g,off,none⟩) k c2)) (hm:aw m d=some (Blk.own (.slice (some ⟨g,0,none⟩) n cap) i.elem j.size n A))
    (h:K (SV.c (.tuple #[])) [d] [(d,Blk.own (.slice (some ⟨g,0,none⟩) a cap) i.elem j.size a (A.extract 0 (a*j.size)))]):br E o f m T K:=by
 subst hoff
 refine .inl ⟨_,[d],[(d,Blk.own (.slice (some ⟨g,0,none⟩) a cap) i.elem j.size a (A.extract 0 (a*j.size)))],aT fun f' m' ρ s w hf hmm h1 h2=>?_,bS,h⟩
 have hxx:=az h1 x
 rw [hf x (by rw [ho];exact bV (by rw [hargs];simp)),hx] at hxx
 have hxx:=bf hxx
 have hm':=(hmm d (by simp)).trans hm
 obtain ⟨cur,hg,h3,h4,h5,h6,h7,h8⟩:=fq (ot h2 hm')
 obtain ⟨dd,hu,_,hsay⟩:=(hE _ i hi).desc
 simp only [TI.says,hk] at hsay
 subst hsay
 obtain ⟨z,hz1,hz2⟩:=je (hE _ j hj) w
 have e1:c.args.map s.eval=#[.slice (some ⟨g,a*j.size,none⟩) k c2]:=by
  apply Array.ext'
  rw [Array.toList_map,hargs]
  simp [hxx]
 have e2:c.argTypes=#[t]:=by apply Array.ext';rw [hty]
 have hzs:(Builtin.zeroCells j.zero k).size=k*j.size:=by rw [size_zeroCells,(hE _ j hj).zsize]
 have hzo:∀ v∈(Builtin.zeroCells j.zero k).toList,v.oneCell'=true:=by
  intro v hv
  simp only [Builtin.zeroCells,Array.toList_map,List.mem_map,Array.mem_toList_iff,Array.mem_range] at hv
  obtain ⟨i',hi',rfl⟩:=hv
  have hp:0 < j.zero.size:=by
   rcases Nat.eq_zero_or_pos j.zero.size with h0 | h0
   ·rw [h0] at hi';omega
   ·exact h0
  have hl:=Nat.mod_lt i' hp
  rw [getElem!_pos j.zero (i' % j.zero.size) hl]
  rw [Array.all_eq_true] at hz
  exact hz _ hl
 have hlen:(Builtin.zeroCells j.zero k).toList.length=k*j.size:=by rw [Array.length_toList,hzs]
 have hsum:a*j.size+k*j.size=n*j.size:=by rw [<- Nat.add_mul,ha]
 have hst:=gR (P:=E.P) hg (off:=a*j.size) (l:=(Builtin.zeroCells j.zero k).toList) (by rw [hlen,hsum,<- h3];exact h4) hzo
 obtain ⟨q1,q2,q3,q4⟩:=dk g (Builtin.zeroCells j.zero k).toList (a*j.size) w
 have hrun:(Builtin.clear_ #[t] o.type #[.slice (some ⟨g,a*j.size,none⟩) k c2]).run E.P w=.ok (.tuple #[]) (w.setCells g (a*j.size) (Builtin.zeroCells j.zero k).toList):=by
  obtain ⟨k',rfl⟩:∃ k',k=k'+1:=⟨k - 1,by omega⟩
  simp [Builtin.clear_,Sem.run_bind,run_underlying hu,hz1,hz2,hst]
 have hle:a*j.size<=A.size:=by rw [h3,<- hsum];omega
 have hown:(w.setCells g (a*j.size) (Builtin.zeroCells j.zero k).toList).ownsRow 0 i.elem j.size (.slice (some ⟨g,0,none⟩) a cap) a (A.extract 0 (a*j.size)).toList:=by
  refine ⟨by simp;omega,.inr ⟨g,cap,aM cur (a*j.size) (Builtin.zeroCells j.zero k).toList,rfl,Nat.zero_le _,dC _ _ _ _ hg,by omega,h6,by rw [co,h7],?_⟩⟩
  apply List.ext_getElem?
  intro q
  by_cases hq:q < a*j.size
  ·rw [List.getElem?_take_of_lt hq,Array.getElem?_toList,Array.getElem?_toList,ct,if_pos (.inl hq),lD h8 (by omega),Array.getElem?_extract,if_pos (by omega),Nat.zero_add]
  ·rw [List.getElem?_take_eq_none (by omega),Array.getElem?_toList,Array.getElem?_eq_none (by simp;omega)]
 refine ⟨ρ,.tuple #[],_,?_,Ext.refl _,rfl,h2.set_loose (no:=some g) (.inr ⟨_,hm',rfl,rfl⟩) q1 q2 q3 (by rw [q4];exact Nat.le_refl _) (fun k' _ hk'=>cS _ _ w k' (fun e=>hk' (by rw [e]))) rfl hown (fun b hb=>.inl hb.symm)⟩
 simp only [execOp,ho,resolve,hc,e1,e2,Sem.run_bind,Sem.run_pure,Result.andThen_ok,invoke,builtin,hrun]
end
end Go.SX
