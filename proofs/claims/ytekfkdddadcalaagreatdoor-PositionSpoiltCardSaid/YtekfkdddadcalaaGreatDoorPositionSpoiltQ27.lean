/- lists of the call that grow in their midst. slices.Insert an; no condition. -/
import Derived.Lib.AppendZerosOnto
import Derived.Lib.JoinLaws
import Derived.Lib.Overlaps
import Derived.Lib.SliceRun
import Derived.Shelf.RegionOpenPlain
import Derived.Test.YtekfkdddadcalaaGreatDoorPositionSpoiltQ26
set_option maxRecDepth 100000
set_option maxHeartbeats 4000000
namespace Go.Proofs.YtekfkdddadcalaaGreatDoor
open Go Go.RowKit Go.SX
open Go.Proofs Go.Shelf Go.Lib
theorem rO {P:Program} (w:World) {o:Oper} {a:Act} {K:Act->World->Prop} {Q:Exit->Act->World->Prop} (d s:Operand) (t t':TypeId)
    (ho:o.op=.call { callee:=.builtin .copy,args:=#[d,s],argTypes:=#[t,t'] }) (v u:Value) (hd:a.eval d=v) (hs:a.eval s=u) {v':Value} {w':World}
    (hr:(Builtin.copy_ #[t,t'] o.type #[v,u]).run P w=.ok v' w') (h:K (a.put o.dst v') w'):o.wp P a w K Q:=by
 unfold Oper.wp execOp
 simp only [ho,resolve,invoke,builtin,Sem.run_bind,Sem.run_pure,Result.andThen_ok,List.map_toArray,List.map_cons,List.map_nil,hd,hs,hr]
 exact h
theorem cu {P:Program} (w:World) {ops:Array Oper} {rest:List Oper} {o:Oper} {a:Act} {Q:Exit->Act->World->Prop} (hgd:o.guard=none) (d s:Operand) (t t':TypeId)
    (ho:o.op=.call { callee:=.builtin .copy,args:=#[d,s],argTypes:=#[t,t'] }) (v u:Value) (hd:a.eval d=v) (hs:a.eval s=u) {v':Value} {w':World}
    (hr:(Builtin.copy_ #[t,t'] o.type #[v,u]).run P w=.ok v' w') (h:wpList P ops Q rest (a.put o.dst v') w'):wpList P ops Q (o :: rest) a w :=
 wpList_plain hgd fun _ hK=>rO w d s t t' ho v u hd hs hr (hK _ _ h)
theorem eD {P:Program} {ops:Array Oper} {o:Oper} {a:Act} {w:World} {K:Act->World->Prop} {Q:Exit->Act->World->Prop} {E:Prop}
    (hg:o.guard=none) (d x:Operand) (dT sT:TypeId) (hop:o.op=Op.call { callee:=Callee.builtin Builtin.copy,args:=#[d,x],argTypes:=#[dT,sT] })
    (v u:Value) (hd:a.eval d=v) (hx:a.eval x=u) {v':Value} {w':World} (hr:(Builtin.copy_ #[dT,sT] o.type #[v,u]).run P w=.ok v' w') (hK:K (a.put o.dst v') w') :
    if Region.wanted o (yielded ops a.tmps)=true then Oper.wp P o a w K Q else E:=by
 have hw:Region.wanted o (yielded ops a.tmps)=true:=by simp [Region.wanted,hg]
 rw [if_pos hw]
 unfold Oper.wp
 simp [execOp,hop,resolve,invoke,builtin,hd,hx,hr,Result.andThen]
 exact hK
theorem cq {P:Program} (w:World) (dT sT ty elem:TypeId) (b o dLen dCap:Nat) (a:Addr) (sLen sCap sz:Nat) (cs:List Value)
    (hu:P.underlying dT=some (.slice elem)) (hs:(P.info? elem).map (·.size)=some sz) (hn:cs.length=Nat.min sLen dLen*sz)
    (hsrc:∀ j v,cs[j]? = some v->w.cell? (a.add j)=some v) (hc:∀ j,j < cs.length->(w.cell? ⟨b,o+j,none⟩).isSome=true) (hf:∀ j,j < cs.length->w.frozen? ⟨b,o+j,none⟩=false) (h1:∀ v∈cs,v.oneCell'=true) :
    (Builtin.copy_ #[dT,sT] ty #[.slice (some ⟨b,o,none⟩) dLen dCap,.slice (some a) sLen sCap]).run P w=.ok (goInt (Nat.min sLen dLen)) (w.setCells b o cs):=by
 have hl:=run_loadCells_list (P:=P) w a cs hsrc
 have hst:=run_storeCells_cells (P:=P) b o cs 0 w (by simpa using hc) (by simpa using hf) h1
 cases hq:P.info? elem with
 | none=>simp [hq] at hs
 | some i =>
  have hi:i.size=sz:=by simpa [hq] using hs
  simp [Builtin.copy_,run_underlying hu,Builtin.lenOf,Builtin.firstCells,sizeOf,typeInfo,hq,hi,<- hn,hl,hst]
theorem cw (b:Nat) (vs:List Value) (o:Nat) (w:World) (h:∀ j,j < vs.length->(w.cell? ⟨b,o+j,none⟩).isSome=true) (k:Nat) (hk:(w.cell? ⟨b,k,none⟩).isSome=true):((w.setCells b o vs).cell? ⟨b,k,none⟩).isSome=true:=by
 by_cases hin:o<=k/\k < o+vs.length
 ·have:=World.cell?_setCells_in b vs o w h (k - o) (by omega)
  rw [show o+(k - o)=k by omega] at this
  rw [this];rfl
 ·rw [World.cell?_setCells_out b vs o w ⟨b,k,none⟩ (fun _ _=>by show k < o\/o+vs.length<=k;omega)]
  exact hk
theorem jB {w:World} {k:Nat} {A:Array Value} {ty:TypeId} (h:w.heap[k]? = some (.cells A ty (0,0))):w.shape? k=some (ty,A.size):=by
 simp [World.shape?,h]
theorem ji {P:Program} (w:World) (t e ty:TypeId) (j:TI) (ht:P.underlying t=some (.slice e)) (hj:TIok P e j) (hz:j.zero.all (·.oneCell')=true) (b o n c:Nat) (hn:0 < n)
    (hc:∀ k,k < n*j.size->(w.cell? ⟨b,o+k,none⟩).isSome=true) (hf:∀ k,k < n*j.size->w.frozen? ⟨b,o+k,none⟩=false) :
    (Builtin.clear_ #[t] ty #[.slice (some ⟨b,o,none⟩) n c]).run P w=.ok (.tuple #[]) (w.setCells b o (Builtin.zeroCells j.zero n).toList):=by
 have hzs:(Builtin.zeroCells j.zero n).size=n*j.size:=by rw [size_zeroCells,hj.zsize]
 have hzo:∀ v∈(Builtin.zeroCells j.zero n).toList,v.oneCell'=true:=by
  intro v hv
  simp only [Builtin.zeroCells,Array.toList_map,List.mem_map,Array.mem_toList_iff,Array.mem_range] at hv
  obtain ⟨i',hi',rfl⟩:=hv
  have hp:0 < j.zero.size:=by
   rcases Nat.eq_zero_or_pos j.zero.size with h0 | h0
   ·rw [h0] at hi';omega
   ·exact h0
  have hl:=Nat.mod_lt i' hp
  rw [getElem!_pos j.zero (i' % j.zero.size) hl]
  rw [Array.all_eq_true] at hz
  exact hz _ hl
 have hlen:(Builtin.zeroCells j.zero n).toList.length=n*j.size:=by rw [Array.length_toList,hzs]
 have hst:=run_storeCells_cells (P:=P) b o (Builtin.zeroCells j.zero n).toList 0 w (by rw [hlen];simpa using hc) (by rw [hlen];simpa using hf) hzo
 simp only [Nat.add_zero] at hst
 obtain ⟨z,hz1,hz2⟩:=Go.SX.run_zero hj w
 obtain ⟨m,rfl⟩:∃ m,n=m+1:=⟨n - 1,by omega⟩
 simp [Builtin.clear_,Sem.run_bind,run_underlying ht,hz1,hz2,hst]
theorem xY {E:Env} {f:FuncId} {e tx:TypeId} {sz n m:Nat} {v:Value} {i:Int} {A X A':Array Value} (hent:Go.SX.Enters E.P f)
    (hraw:∀ (w:World) (vb:Nat),w.ownsRow 0 e sz v n A.toList->w.heap[vb]? = some (.cells X tx (0,0))->(∀ b,v.ownBlock=some b->vb≠b)->Calls E.P f #[v,.int .i64 i,.slice (some ⟨vb,0,none⟩) 1 1] w fun en w'=>∃ v',en=.returned v'/\w'.ownsRow 0 e sz v' (n+1) A'.toList/\w.grownBy w' v.ownBlock/\(∀ b,v'.ownBlock=some b->some b=v.ownBlock\/w.heap.size<=b)) :
    OwnC E f [SV.c v,SV.c (.int .i64 i),SV.sl 9503 0 1 1] [(9501,Blk.own v e sz n A),(9503,Blk.row tx m X)] (fun r U=>IsL r (n+1)/\U=[(9501,Blk.own r e sz (n+1) A'),(9503,Blk.row tx m X)]):=by
 refine ⟨hent,fun ρ w xs hw hx=>?_⟩
 have g1:aq [(9501,Blk.own v e sz n A),(9503,Blk.row tx m X)] 9501=some (Blk.own v e sz n A):=by simp [aq]
 have g2:aq [(9501,Blk.own v e sz n A),(9503,Blk.row tx m X)] 9503=some (Blk.row tx m X):=by simp [aq]
 have hown:w.ownsRow 0 e sz v n A.toList:=(hw.loose _ _ g1 rfl).2
 obtain ⟨vb,o,h1,h2,h3,h4,rfl⟩:=hw.blk _ _ g2 rfl
 have hne:∀ b,v.ownBlock=some b->vb≠b:=fun b hb e1=>(hw.sep _ _ b g1 hb).2.1 9503 (by rw [h1,e1])
 match xs,hx with
 | [a,b,c],hx =>
  obtain ⟨x1,x2,x3,-⟩:=hx
  cases (show a=v from x1)
  cases (show b=.int .i64 i from x2)
  obtain ⟨b',hb',rfl⟩:=x3
  rw [h1] at hb';cases hb'
  refine (hraw w vb hown h3 hne).mono ?_
  rintro en w' ⟨v',rfl,ho,hg,hf⟩
  obtain ⟨g,cap,hv'⟩:=j8 ho (by omega)
  refine ⟨v',_,rfl,⟨.inr ⟨g,cap,hv'⟩,rfl⟩,?_,?_⟩
  ·refine (hw.set_loose (d:=9501) (no:=v.ownBlock) (B':=Blk.own v' e sz (n+1) A') (.inr ⟨_,g1,rfl,rfl⟩) hg.os hg.tape hg.output hg.size (fun k hk hne=>hg.block k hk hne) rfl ho hf).congr fun d=>?_
   simp only [aT,lk,aq]
   by_cases e1:9501=d
   ·simp [e1]
   ·simp [e1]
  ·refine ⟨hg.size,fun k hk hne=>hg.block k hk fun e1=>(hne (9501,Blk.own v e sz n A) (by simp)).2 e1.symm,fun d B b hB hb=>?_⟩
   simp only [aq] at hB
   split at hB
   ·cases hB
    rcases hf b hb with h5 | h5
    ·exact .inr ⟨(9501,Blk.own v e sz n A),by simp,h5.symm⟩
    ·exact .inl h5
   ·split at hB
    ·cases hB;cases hb
    ·cases hB
theorem xZ {E:Env} {f:FuncId} {e:TypeId} {sz n n':Nat} {v:Value} {i j:Int} {A A':Array Value} (hent:Go.SX.Enters E.P f)
    (hraw:∀ (w:World),w.ownsRow 0 e sz v n A.toList->Calls E.P f #[v,.int .i64 i,.int .i64 j] w fun en w'=>∃ v',en=.returned v'/\IsL v' n'/\w'.ownsRow 0 e sz v' n' A'.toList/\w.grownBy w' v.ownBlock/\(∀ b,v'.ownBlock=some b->some b=v.ownBlock\/w.heap.size<=b)) :
    OwnC E f [SV.c v,SV.c (.int .i64 i),SV.c (.int .i64 j)] [(9501,Blk.own v e sz n A)] (fun r U=>IsL r n'/\U=[(9501,Blk.own r e sz n' A')]):=by
 refine ⟨hent,fun ρ w xs hw hx=>?_⟩
 have g1:aq [(9501,Blk.own v e sz n A)] 9501=some (Blk.own v e sz n A):=by simp [aq]
 have hown:w.ownsRow 0 e sz v n A.toList:=(hw.loose _ _ g1 rfl).2
 match xs,hx with
 | [a,b,c],hx =>
  obtain ⟨x1,x2,x3,-⟩:=hx
  cases (show a=v from x1)
  cases (show b=.int .i64 i from x2)
  cases (show c=.int .i64 j from x3)
  refine (hraw w hown).mono ?_
  rintro en w' ⟨v',rfl,hi,ho,hg,hf⟩
  refine ⟨v',_,rfl,⟨hi,rfl⟩,?_,?_⟩
  ·refine (hw.set_loose (d:=9501) (no:=v.ownBlock) (B':=Blk.own v' e sz n' A') (.inr ⟨_,g1,rfl,rfl⟩) hg.os hg.tape hg.output hg.size (fun k hk hne=>hg.block k hk hne) rfl ho hf).congr fun d=>?_
   simp only [aT,lk,aq]
   by_cases e1:9501=d
   ·simp [e1]
   ·simp [e1]
  ·refine ⟨hg.size,fun k hk hne=>hg.block k hk fun e1=>(hne (9501,Blk.own v e sz n A) (by simp)).2 e1.symm,fun d B b hB hb=>?_⟩
   simp only [aq] at hB
   split at hB
   ·cases hB
    rcases hf b hb with h5 | h5
    ·exact .inr ⟨(9501,Blk.own v e sz n A),by simp,h5.symm⟩
    ·exact .inl h5
   ·cases hB
theorem oz {cur:Array Value} {xs X:List Value} {a s t:Nat} (hx:xs.length=t) (hX:X.length=s) (ha:a<=t) (hc:t+s<=cur.size) (ht:cur.toList.take a=xs.take a):((aX (aX cur (a+s) (xs.drop a)) a X).toList.take (t+s)=xs.take a++X++xs.drop a)/\((aX (aX cur a X) (a+s) (xs.drop a)).toList.take (t+s)=xs.take a++X++xs.drop a):=by
 have hd:(xs.drop a).length=t - a:=by rw [List.length_drop,hx]
 have hta:(xs.take a).length=a:=by rw [List.length_take,hx];omega
 have hcur:∀ j,j < a->cur[j]? = (xs.take a)[j]?:=fun j hj=>by
  rw [<- ht,List.getElem?_take_of_lt hj,Array.getElem?_toList]
 have key:∀ j,j < t+s->(xs.take a++X++xs.drop a)[j]? = if j < a then cur[j]? else if j < a+s then X[j - a]? else (xs.drop a)[j - (a+s)]?:=fun j hj=>by
  by_cases c1:j < a
  ·rw [if_pos c1,List.append_assoc,List.getElem?_append_left (by omega),hcur j c1]
  ·rw [if_neg c1]
   by_cases c2:j < a+s
   ·rw [if_pos c2,List.append_assoc,List.getElem?_append_right (by omega),List.getElem?_append_left (by omega),hta]
   ·rw [if_neg c2,List.getElem?_append_right (by rw [List.length_append];omega),List.length_append,hta,hX]
 have len:(xs.take a++X++xs.drop a).length=t+s:=by rw [List.length_append,List.length_append,hta,hX,hd];omega
 constructor
 ·apply List.ext_getElem?
  intro j
  by_cases hj:j < t+s
  ·rw [List.getElem?_take_of_lt hj,Array.getElem?_toList,key j hj,bk,bk,aH]
   by_cases c1:j < a
   ·rw [if_pos (.inl c1),if_pos (.inl (by omega)),if_pos c1]
   ·by_cases c2:j < a+s
    ·rw [if_neg (by omega),if_pos (by omega),if_neg c1,if_pos c2]
    ·rw [if_pos (by omega),if_neg (by omega),if_pos (by omega),if_neg c1,if_neg c2]
  ·rw [List.getElem?_take_eq_none (by omega),List.getElem?_eq_none (by omega)]
 ·apply List.ext_getElem?
  intro j
  by_cases hj:j < t+s
  ·rw [List.getElem?_take_of_lt hj,Array.getElem?_toList,key j hj,bk,bk,aH]
   by_cases c1:j < a
   ·rw [if_pos (.inl (by omega)),if_pos (.inl c1),if_pos c1]
   ·by_cases c2:j < a+s
    ·rw [if_pos (.inl (by omega)),if_neg (by omega),if_pos (by omega),if_neg c1,if_pos c2]
    ·rw [if_neg (by omega),if_pos (by omega),if_neg c1,if_neg c2]
  ·rw [List.getElem?_take_eq_none (by omega),List.getElem?_eq_none (by omega)]
theorem yO {cur:Array Value} {xs Z:List Value} {a b s t:Nat} (hx:xs.length=t) (ha:a+s=b) (hb:b<=t) (hc:t<=cur.size) (ht:cur.toList.take t=xs):(aX (aX cur a (xs.drop b)) (a+(t - b)) Z).toList.take (t - s)=xs.take a++xs.drop b:=by
 have hd:(xs.drop b).length=t - b:=by rw [List.length_drop,hx]
 have hta:(xs.take a).length=a:=by rw [List.length_take,hx];omega
 have hcur:∀ j,j < t->cur[j]? = xs[j]?:=fun j hj=>by
  rw [<- ht,List.getElem?_take_of_lt hj,Array.getElem?_toList]
 apply List.ext_getElem?
 intro j
 by_cases hj:j < t - s
 ·rw [List.getElem?_take_of_lt hj,Array.getElem?_toList,bk,if_pos (.inl (by omega)),bk]
  by_cases c1:j < a
  ·rw [if_pos (.inl c1),List.getElem?_append_left (by omega),List.getElem?_take_of_lt c1,hcur j (by omega)]
  ·rw [if_neg (by omega),if_pos (by omega),List.getElem?_append_right (by omega),hta]
 ·rw [List.getElem?_take_eq_none (by omega),List.getElem?_eq_none (by rw [List.length_append,hta,hd];omega)]
end Go.Proofs.YtekfkdddadcalaaGreatDoor
namespace Go.Proofs.YtekfkdddadcalaaGreatDoor
open Go Go.RowKit Go.SX
open Go.Proofs Go.Shelf Go.Lib
theorem jK:∃ q z,Tryz.prog.info? 136=some q/\q.zero=some z/\q.size=2/\z.cells.size=2/\q.bytes=24:=by
 have h:(Tryz.prog.info? 136).map (fun q=>(q.size,q.bytes,q.zero.map fun z=>z.cells.size))=some (2,24,some 2):=by kernel_rfl
 cases hq:Tryz.prog.info? 136 with
 | none=>rw [hq] at h;cases h
 | some q =>
  rw [hq] at h
  simp only [Option.map_some,Option.some.injEq,Prod.mk.injEq] at h
  cases hz:q.zero with
  | none=>rw [hz] at h;simp at h
  | some z =>
   rw [hz] at h
   simp only [Option.map_some,Option.some.injEq] at h
   exact ⟨q,z,rfl,hz,h.1,h.2.2,h.2.1⟩
theorem uP {n:Nat} {v:Value} {xs:List Value} (w:World) (hown:w.ownsRow 0 136 2 v n xs) {vb:Nat} {X:List Value} (hX:X.length=2) (hvs:∀ j u,X[j]? = some u->w.cell? ⟨vb,j,none⟩=some u) (h1:∀ u∈X,u.oneCell'=true) (hn:n<=1000000000000) :
    Calls Tryz.prog 126 #[v,.int .i64 (n:Nat),.slice (some ⟨vb,0,none⟩) 1 1] w fun e w'=>∃ v',e=.returned v'/\w'.ownsRow 0 136 2 v' (n+1) (xs++X)/\w.grownBy w' v.ownBlock/\(∀ b,v'.ownBlock=some b->some b=v.ownBlock\/w.heap.size<=b):=by
 obtain ⟨q,z,hq,hz,hqs,hzs,hqb⟩:=jK
 obtain ⟨v',w',hr,ho,hg,hf⟩:=kr (P:=Tryz.prog) w 85 85 136 q z 2 Tryz.underlying85 hq hz hqs hzs (by decide) v n xs hown ⟨vb,0,none⟩ 1 1 X (by rw [hX]) (fun j u hj=>by rw [Addr.add_lit,Nat.zero_add];exact hvs j u hj) h1 (by unfold maxLen;omega) (by rw [hqb];omega)
 go_enter Tryz.func126,Tryz.ntmps126
 rcases hown.2 with ⟨rfl,rfl⟩ | ⟨g,cap,cur,rfl,hb,hgc,hnc,hcm,hcs,htake⟩
 ·clear hown
  go_wp2_with (at_builtin;refine Lib.wpList_append_run _ rfl _ _ _ _ rfl _ _ rfl rfl _ _ hr ?_)
  go_ret
  exact ⟨v',rfl,ho,hg,hf⟩
 ·clear hown
  go_wp2_with (at_builtin;refine Lib.wpList_append_run _ rfl _ _ _ _ rfl _ _ rfl rfl _ _ hr ?_)
  all_goals (go_ret;exact ⟨v',rfl,ho,hg,hf⟩)
theorem CE {g n cap i:Nat} {xs:List Value} {cur:Array Value} (w:World) (hi:i < n) (hroom:n+1<=cap) (hc63:cap<=9223372036854775807) (hgc:w.heap[g]? = some (.cells cur 136 (0,0))) (hcs:cur.size=cap*2) (hxl:xs.length=n*2) (htake:cur.toList.take (n*2)=xs) {vb:Nat} {X:List Value} {tx:TypeId} (hX:X.length=2) (hvs:w.heap[vb]? = some (.cells X.toArray tx (0,0))) (hne:vb≠g) (h1:∀ u∈X,u.oneCell'=true) (h1x:∀ u∈xs,u.oneCell'=true) (hn:n<=1000000000000) :
    Calls Tryz.prog 126 #[.slice (some ⟨g,0,none⟩) n cap,.int .i64 (i:Nat),.slice (some ⟨vb,0,none⟩) 1 1] w fun e w' =>
     e=.returned (.slice (some ⟨g,0,none⟩) (n+1) cap)/\w'=(w.drew.setCells g ((i+1)*2) (xs.drop (i*2))).setCells g (i*2) X:=by
 have hov:∀ o lb cb,(callFunc 163 #[.slice (some ⟨vb,0,none⟩) 1 1,.slice (some ⟨g,o,none⟩) lb cb]).run Tryz.prog w=.ok (.value (.bool false)) w:=fun o lb cb=>by
  rw [run_callFunc_extern Tryz.func163 (by kernel_rfl) (by kernel_rfl) (by kernel_rfl) (e:=Extern.SlicesOverlaps.overlaps #[85,85] #[4]) (by kernel_rfl),
   Lib.run_overlaps_apart w 85 4 136 Tryz.underlying85 2 (fun w=>Go.SX.run_sizeOf Bi w) ⟨vb,0,none⟩ ⟨g,o,none⟩ 1 1 lb cb hne tx 136 X.toArray.size cur.size (jB hvs) (jB hgc) (by omega) (bQ hvs _) (bQ hvs _)]
  rfl
 have hz2:¬ ((i:Int)=(n:Int)):=by omega
 have hw1:IntKind.i64.wrap ((i:Int)+1)=(i:Int)+1:=by rw [IntKind.wrap_i64];omega
 have hw2:IntKind.i64.wrap ((n:Int)+1)=(n:Int)+1:=by rw [IntKind.wrap_i64];omega
 have hb1:(0:Int)<=(i:Int)+1:=by omega
 have hin:i<=n:=by omega
 have htn:((i:Int)+1).toNat=i+1:=by omega
 have htn2:((n:Int)+1).toNat=n+1:=by omega
 have hb2:¬ (cap=i+1):=by omega
 have hb3:(i:Int)<=(n:Int)+1:=by omega
 have hb4:¬ (cap=i):=by omega
 have hb5:¬ ((cap:Int) < (n:Int)+1):=by omega
 have hdl:(xs.drop (i*2)).length=(n - i)*2:=by rw [List.length_drop,hxl];omega
 have hcell:∀ j u,xs[j]? = some u->w.cell? ⟨g,j,none⟩=some u:=fun j u hj=>by
  rw [aK hgc,<- Array.getElem?_toList]
  rw [<- htake,List.getElem?_take] at hj
  split at hj
  ·exact hj
  ·cases hj
 have hsome:∀ j,j < cap*2->(w.cell? ⟨g,j,none⟩).isSome=true:=fun j hj=>by
  rw [aK hgc,Array.getElem?_eq_getElem (by omega)];rfl
 have hfz:∀ j,w.frozen? ⟨g,j,none⟩=false:=fun j=>bQ hgc j
 obtain ⟨q,z,hq,hz,hqs,hzs,hqb⟩:=jK
 have hsz:(Tryz.prog.info? 136).map (·.size)=some 2:=by rw [hq];simp [hqs]
 have hcp1:∀ ty dc sc,(Builtin.copy_ #[85,85] ty #[.slice (some ⟨g,(i+1)*2,none⟩) (n - i) dc,.slice (some ⟨g,i*2,none⟩) (n+1 - i) sc]).run Tryz.prog w.drew=.ok (goInt (Nat.min (n+1 - i) (n - i))) (w.drew.setCells g ((i+1)*2) (xs.drop (i*2))):=fun ty dc sc =>
  cq w.drew _ _ ty 136 g ((i+1)*2) (n - i) dc ⟨g,i*2,none⟩ (n+1 - i) sc 2 (xs.drop (i*2)) Tryz.underlying85 hsz (by rw [hdl];simp only [Nat.min_def];split<;>omega)
   (fun j u hj=>by rw [Addr.add_lit];exact hcell (i*2+j) u (by rwa [List.getElem?_drop] at hj))
   (fun j hj=>hsome _ (by omega)) (fun j hj=>hfz _) (fun u hu=>h1x u (List.mem_of_mem_drop hu))
 obtain ⟨W1,hW1⟩:∃ W1,W1=w.drew.setCells g ((i+1)*2) (xs.drop (i*2)):=⟨_,rfl⟩
 have hvb:∀ j u,X[j]? = some u->w.cell? ⟨vb,j,none⟩=some u:=fun j u hj=>by rw [aK hvs];simpa using hj
 have hcp2:∀ (W:World),(∀ x,W.cell? x=W1.cell? x)->(∀ x,W.frozen? x=W1.frozen? x)->∀ ty dc,(Builtin.copy_ #[85,85] ty #[.slice (some ⟨g,i*2,none⟩) (n+1 - i) dc,.slice (some ⟨vb,0,none⟩) 1 1]).run Tryz.prog W=.ok (goInt (Nat.min 1 (n+1 - i))) (W.setCells g (i*2) X):=fun W hWc hWf ty dc =>
  cq W _ _ ty 136 g (i*2) (n+1 - i) dc ⟨vb,0,none⟩ 1 1 2 X Tryz.underlying85 hsz (by rw [hX];simp only [Nat.min_def];split<;>omega)
   (fun j u hj=>by
    rw [Addr.add_lit,hWc,hW1,World.cell?_setCells_out g _ _ _ _ (fun h _=>absurd h hne),Nat.zero_add]
    exact hvb j u hj)
   (fun j hj=>by
    rw [hWc,hW1]
    exact cw g (xs.drop (i*2)) ((i+1)*2) w.drew (fun t ht=>hsome _ (by rw [hdl] at ht;omega)) (i*2+j) (hsome _ (by rw [hX] at hj;omega)))
   (fun j hj=>by rw [hWf,hW1,World.frozen?_setCells];exact hfz _) h1
 rw [<- hW1] at hcp1
 have ah:=ah
 go_enter Tryz.func126,Tryz.ntmps126
 go_wp2_with (simp only [hov])
 go_region_law_o (refine eD rfl _ _ 85 85 rfl _ _ (by simp [Act.eval,Act.put]) (by simp [Act.eval,Act.put]) (hcp1 _ _ _) ?_)
 go_wp2_with (at_builtin;refine cu _ rfl _ _ 85 85 rfl _ _ rfl rfl (hcp2 _ (fun _=>rfl) (fun _=>rfl) _ _) ?_)
 go_ret
 first | exact ⟨rfl,rfl⟩ | exact ⟨rfl,by rw [hW1]⟩
theorem zZ {g n cap i:Nat} {xs:List Value} {cur:Array Value} (w:World) (hi:i < n) (hroom:cap < n+1) (hnc:n<=cap) (hgc:w.heap[g]? = some (.cells cur 136 (0,0))) (_hcs:cur.size=cap*2) (hxl:xs.length=n*2) (htake:cur.toList.take (n*2)=xs) {vb:Nat} {X:List Value} {tx:TypeId} (hX:X.length=2) (hvs:w.heap[vb]? = some (.cells X.toArray tx (0,0))) (h1:∀ u∈X,u.oneCell'=true) (h1x:∀ u∈xs,u.oneCell'=true) (hn:n<=1000000000000) :
    Calls Tryz.prog 126 #[.slice (some ⟨g,0,none⟩) n cap,.int .i64 (i:Nat),.slice (some ⟨vb,0,none⟩) 1 1] w fun e w'=>∃ G ROW,e=.returned (.slice (some ⟨w.heap.size,0,none⟩) (n+1) G)/\n+1<=G/\G<=9223372036854775807/\ROW.size=G*2/\ROW.toList.take (i*2)=xs.take (i*2)/\w'=(((w.alloc (.cells ROW 136 (0,0))).drew.setCells w.heap.size (i*2) X).drew).setCells w.heap.size ((i+1)*2) (xs.drop (i*2)):=by
 obtain ⟨q,z,hq,hz,hqs,hzs,hqb⟩:=jK
 have hsz:(Tryz.prog.info? 136).map (·.size)=some 2:=by rw [hq];simp [hqs]
 have hz2:¬ ((i:Int)=(n:Int)):=by omega
 have hz3:(cap:Int) < (n:Int)+1:=by omega
 have hcell:∀ j u,xs[j]? = some u->w.cell? ⟨g,j,none⟩=some u:=fun j u hj=>by
  rw [aK hgc,<- Array.getElem?_toList]
  rw [<- htake,List.getElem?_take] at hj
  split at hj
  ·exact hj
  ·cases hj
 have hvb:∀ j u,X[j]? = some u->w.cell? ⟨vb,j,none⟩=some u:=fun j u hj=>by rw [aK hvs];simpa using hj
 have hbw:g < w.heap.size:=(Array.getElem?_eq_some_iff.1 hgc).1
 have hvw:vb < w.heap.size:=(Array.getElem?_eq_some_iff.1 hvs).1
 have hkk:(n:Int)+1 - (i:Int)=((n+1 - i:Nat):Int):=by omega
 have hik:i+(n+1 - i)=n+1:=by omega
 have hold:(Builtin.firstCells q.size i (.slice (some ⟨g,0,none⟩) i cap)).run Tryz.prog w.drew=.ok (xs.take (i*2)).toArray w.drew:=by
  rw [hqs]
  exact run_firstCells_some (w:=w.drew) 2 i ⟨g,0,none⟩ i cap (xs.take (i*2)) (by rw [List.length_take];omega) (fun j u hj=>by
   rw [Addr.add_lit,Nat.zero_add]
   rw [List.getElem?_take] at hj
   split at hj
   ·exact hcell j u hj
   ·cases hj)
 have hrz:∀ ty,(Builtin.append_ #[85,3] ty #[.slice (some ⟨g,0,none⟩) i cap,.int .i64 ((n:Int)+1 - (i:Int))]).run Tryz.prog w =
   .ok (.slice (some ⟨w.heap.size,0,none⟩) (n+1) (grownCap w (n+1) cap 136)) (w.drew.alloc (.cells ((xs.take (i*2)).toArray++Builtin.zeroCells z.cells (n+1 - i)++Builtin.zeroCells z.cells (grownCap w (n+1) cap 136 - (n+1))) 136)):=fun ty=>by
  have h:=Lib.run_append_grow_zeros w 85 3 ty 136 q z .i64 .i64 Tryz.underlying85 Tryz.underlying3 hq hz (some ⟨g,0,none⟩) i cap (xs.take (i*2)) hold (n+1 - i) (by omega) (by omega) (by omega) (by omega) (by rw [hqb];omega) (by rw [hqb,hik];exact growslice_fits hroom (by omega))
  rw [hik] at h
  rw [hkk]
  exact h
 obtain ⟨G,hG⟩:∃ G,G=grownCap w (n+1) cap 136:=⟨_,rfl⟩
 obtain ⟨ROW,hROW⟩:∃ ROW:Array Value,ROW=(xs.take (i*2)).toArray++Builtin.zeroCells z.cells (n+1 - i)++Builtin.zeroCells z.cells (G - (n+1)):=⟨_,rfl⟩
 rw [<- hG] at hrz
 rw [<- hROW] at hrz
 have hGn:n+1<=G:=by rw [hG];exact grownCap_ge w _ _ _
 have hG63:G<=9223372036854775807:=by
  have:=grownCap_le_maxLen w (n+1) cap 136 (by unfold maxLen;omega)
  rw [<- hG] at this
  unfold maxLen at this
  omega
 have htl:(xs.take (i*2)).length=i*2:=by rw [List.length_take];omega
 have hRl:ROW.size=G*2:=by
  rw [hROW,Array.size_append,Array.size_append,size_zeroCells,size_zeroCells,hzs,List.size_toArray,htl]
  omega
 have hRt:ROW.toList.take (i*2)=xs.take (i*2):=by
  rw [hROW,Array.toList_append,Array.toList_append,List.append_assoc,List.take_append_of_le_length (by rw [List.toList_toArray,htl];exact Nat.le_refl _),List.toList_toArray,List.take_of_length_le (by omega)]
 obtain ⟨W1,hW1⟩:∃ W1,W1=w.drew.alloc (.cells ROW 136):=⟨_,rfl⟩
 rw [<- hW1] at hrz
 have hN:∀ j,j < G*2->(W1.cell? ⟨w.heap.size,j,none⟩).isSome=true:=fun j hj=>by
  rw [hW1,World.cell?_alloc_at (w:=w.drew) ROW _ w.heap.size j rfl,Array.getElem?_eq_getElem (by omega)];rfl
 have hNf:∀ j,W1.frozen? ⟨w.heap.size,j,none⟩=false:=fun j=>by rw [hW1];exact World.frozen?_alloc_at (w:=w.drew) ROW _ w.heap.size j rfl
 have hOb:∀ j u,w.cell? ⟨g,j,none⟩=some u->W1.cell? ⟨g,j,none⟩=some u:=fun j u h=>by rw [hW1,World.cell?_alloc_past (w:=w.drew) _ g j hbw];exact h
 have hOv:∀ j u,w.cell? ⟨vb,j,none⟩=some u->W1.cell? ⟨vb,j,none⟩=some u:=fun j u h=>by rw [hW1,World.cell?_alloc_past (w:=w.drew) _ vb j hvw];exact h
 have hcpA:∀ (W:World),(∀ x,W.cell? x=W1.cell? x)->(∀ x,W.frozen? x=W1.frozen? x)->∀ ty dc,(Builtin.copy_ #[85,85] ty #[.slice (some ⟨w.heap.size,i*2,none⟩) (n+1 - i) dc,.slice (some ⟨vb,0,none⟩) 1 1]).run Tryz.prog W=.ok (goInt (Nat.min 1 (n+1 - i))) (W.setCells w.heap.size (i*2) X):=fun W hWc hWf ty dc =>
  cq W _ _ ty 136 w.heap.size (i*2) (n+1 - i) dc ⟨vb,0,none⟩ 1 1 2 X Tryz.underlying85 hsz (by rw [hX];simp only [Nat.min_def];split<;>omega)
   (fun j u hj=>by rw [Addr.add_lit,hWc,Nat.zero_add];exact hOv _ u (hvb j u hj))
   (fun j hj=>by rw [hWc];exact hN _ (by omega)) (fun j hj=>by rw [hWf];exact hNf _) h1
 have hGi:¬ (G=i):=by omega
 have hGim:¬ (G=i+1):=by omega
 have hci:¬ (cap=i):=by omega
 have hbN:g≠w.heap.size:=by omega
 have hdl:(xs.drop (i*2)).length=(n - i)*2:=by rw [List.length_drop,hxl];omega
 have hcpB:∀ (W:World),(∀ x,W.cell? x=(W1.setCells w.heap.size (i*2) X).cell? x)->(∀ x,W.frozen? x=(W1.setCells w.heap.size (i*2) X).frozen? x)->∀ ty dc sc,(Builtin.copy_ #[85,85] ty #[.slice (some ⟨w.heap.size,(i+1)*2,none⟩) (n - i) dc,.slice (some ⟨g,i*2,none⟩) (n - i) sc]).run Tryz.prog W=.ok (goInt (Nat.min (n - i) (n - i))) (W.setCells w.heap.size ((i+1)*2) (xs.drop (i*2))):=fun W hWc hWf ty dc sc =>
  cq W _ _ ty 136 w.heap.size ((i+1)*2) (n - i) dc ⟨g,i*2,none⟩ (n - i) sc 2 (xs.drop (i*2)) Tryz.underlying85 hsz (by rw [hdl];simp only [Nat.min_def];split<;>omega)
   (fun j u hj=>by
    rw [Addr.add_lit,hWc,World.cell?_setCells_out _ _ _ _ _ (fun h _=>absurd h hbN)]
    exact hOb _ u (hcell (i*2+j) u (by rwa [List.getElem?_drop] at hj)))
   (fun j hj=>by rw [hWc];exact cw _ X (i*2) W1 (fun t ht=>hN _ (by omega)) _ (hN _ (by omega)))
   (fun j hj=>by rw [hWf,World.frozen?_setCells];exact hNf _) (fun u hu=>h1x u (List.mem_of_mem_drop hu))
 have hw1:IntKind.i64.wrap ((i:Int)+1)=(i:Int)+1:=by rw [IntKind.wrap_i64];omega
 have hb1:(0:Int)<=(i:Int)+1:=by omega
 have hin:i<=n:=by omega
 have htn:((i:Int)+1).toNat=i+1:=by omega
 have hb3:(i:Int)<=(n:Int):=by omega
 have ah:=ah
 subst hW1
 have hE1:∀ x,((w.alloc (.cells ROW 136)).drew).cell? x=(w.drew.alloc (.cells ROW 136)).cell? x:=fun x=>rfl
 have hE2:∀ x,((w.alloc (.cells ROW 136)).drew).frozen? x=(w.drew.alloc (.cells ROW 136)).frozen? x:=fun x=>rfl
 have hF1:∀ x,(((w.alloc (.cells ROW 136)).drew.setCells w.heap.size (i*2) X).drew).cell? x=((w.drew.alloc (.cells ROW 136)).setCells w.heap.size (i*2) X).cell? x:=fun x=>rfl
 have hF2:∀ x,(((w.alloc (.cells ROW 136)).drew.setCells w.heap.size (i*2) X).drew).frozen? x=((w.drew.alloc (.cells ROW 136)).setCells w.heap.size (i*2) X).frozen? x:=fun x=>rfl
 clear hkk hik hold hROW hG hz hzs hq hqs hqb htl
 go_enter Tryz.func126,Tryz.ntmps126
 go_wp2_with (first
  | (at_builtin;refine Lib.wpList_append_run _ rfl _ _ _ _ rfl _ _ rfl rfl _ _ (hrz _) ?_)
  | (at_builtin;refine cu _ rfl _ _ 85 85 rfl _ _ rfl rfl (hcpA _ hE1 hE2 _ _) ?_)
  | (at_builtin;refine cu _ rfl _ _ 85 85 rfl _ _ rfl rfl (hcpB _ (fun _=>rfl) (fun _=>rfl) _ _ _) ?_))
 go_region_law_o (refine eD rfl _ _ 85 85 rfl (.slice (some ⟨w.heap.size,(i+1)*2,none⟩) (n - i) (G - (i+1))) (.slice (some ⟨g,i*2,none⟩) (n - i) (cap - i)) (by simp [Act.eval,Act.put]) (by simp [Act.eval,Act.put]) (hcpB _ hF1 hF2 3 (G - (i+1)) (cap - i)) ?_)
 go_wp2
 go_ret
 exact ⟨G,ROW,rfl,hGn,hG63,hRl,hRt,rfl⟩
theorem IT {g n cap i jj:Nat} {xs:List Value} {cur:Array Value} (w:World) (hi:i < n) (hjj:jj=i+1) (hnc:n<=cap) (_hc63:cap<=9223372036854775807) (hgc:w.heap[g]? = some (.cells cur 136 (0,0))) (hcs:cur.size=cap*2) (hxl:xs.length=n*2) (htake:cur.toList.take (n*2)=xs) (h1x:∀ u∈xs,u.oneCell'=true) (hn:n<=1000000000000) :
    Calls Tryz.prog 127 #[.slice (some ⟨g,0,none⟩) n cap,.int .i64 (i:Nat),.int .i64 (jj:Nat)] w fun e w' =>
     e=.returned (.slice (some ⟨g,0,none⟩) (i+(n - jj)) cap)/\w'=(w.drew.setCells g (i*2) (xs.drop (jj*2))).setCells g ((i+(n - jj))*2) (Builtin.zeroCells fy.zero 1).toList:=by
 obtain ⟨q,z,hq,hz,hqs,hzs,hqb⟩:=jK
 have hcell:∀ j u,xs[j]? = some u->w.cell? ⟨g,j,none⟩=some u:=fun j u hj=>by
  rw [aK hgc,<- Array.getElem?_toList]
  rw [<- htake,List.getElem?_take] at hj
  split at hj
  ·exact hj
  ·cases hj
 have hsome:∀ j,j < cap*2->(w.cell? ⟨g,j,none⟩).isSome=true:=fun j hj=>by
  rw [aK hgc,Array.getElem?_eq_getElem (by omega)];rfl
 have hfz:∀ j,w.frozen? ⟨g,j,none⟩=false:=fun j=>bQ hgc j
 obtain ⟨news,hnews⟩:∃ news,news=xs.drop (jj*2):=⟨_,rfl⟩
 have hlen:news.length=(n - jj)*2:=by rw [hnews,List.length_drop,hxl];omega
 obtain ⟨A,hA,hsrc⟩:∃ A:Addr,(if cap=jj then some (⟨g,0,none⟩:Addr) else some ⟨g,jj*2,none⟩)=some A/\Hid (∀ t u,news[t]? = some u->w.drew.cell? (A.add t)=some u):=by
  by_cases h:cap=jj
  ·refine ⟨⟨g,0,none⟩,by simp [h],fun t u hu=>?_⟩
   have h0:news.length=0:=by rw [hlen];omega
   rw [List.length_eq_zero_iff.1 h0] at hu
   simp at hu
  ·refine ⟨⟨g,jj*2,none⟩,by simp [h],fun t u hu=>?_⟩
   rw [Addr.add_lit]
   rw [hnews,List.getElem?_drop] at hu
   exact hcell (jj*2+t) u hu
 have s1:Hid (news.length=(n - jj)*2):=hlen
 have s2:Hid (∀ u∈news,u.oneCell'=true):=fun u hu=>h1x u (by rw [hnews] at hu;exact List.mem_of_mem_drop hu)
 have s3:Hid (∀ t,t < news.length->(w.drew.cell? ⟨g,0+i*2+t,none⟩).isSome=true/\w.drew.frozen? ⟨g,0+i*2+t,none⟩=false):=fun t ht=>by
  rw [hlen] at ht
  exact ⟨hsome _ (by omega),hfz _⟩
 obtain ⟨W1,hW1⟩:∃ W1,W1=w.drew.setCells g (0+i*2) news:=⟨_,rfl⟩
 have hs1:∀ j,j < cap*2->(W1.cell? ⟨g,j,none⟩).isSome=true:=fun j hj=>by
  rw [hW1]
  exact cw g news (0+i*2) w.drew (fun t ht=>hsome _ (by rw [hlen] at ht;omega)) j (hsome _ hj)
 have hf1:∀ j,W1.frozen? ⟨g,j,none⟩=false:=fun j=>by rw [hW1,World.frozen?_setCells];exact hfz j
 have hcl:∀ ty,(Builtin.clear_ #[85] ty #[.slice (some ⟨g,(i+(n - jj))*2,none⟩) (n - (i+(n - jj))) (cap - (i+(n - jj)))]).run Tryz.prog W1=.ok (.tuple #[]) (W1.setCells g ((i+(n - jj))*2) (Builtin.zeroCells fy.zero 1).toList):=fun ty=>by
  rw [show n - (i+(n - jj))=1 by omega]
  exact ji W1 _ _ ty fy Tryz.underlying85 Bi (by kernel_rfl) g _ 1 _ (by omega) (fun t ht=>hs1 _ (by have:t < 1*2:=ht;omega)) (fun t ht=>hf1 _)
 have hW:Hid (W1=w.drew.setCells g (0+i*2) news):=hW1
 have hic:i<=cap:=by omega
 have hjc:jj<=cap:=by omega
 have hji:¬ ((i:Int)=(jj:Int)):=by omega
 have ah:=ah
 have heq:¬ i=jj:=by omega
 have hij:i<=jj:=by omega
 have hjn:jj<=n:=by omega
 have hX0:w.drew.setCells g (i*2) (xs.drop (jj*2))=W1:=by rw [hW1,hnews,Nat.zero_add]
 have X:Aside (w.drew.setCells g (i*2) (xs.drop (jj*2))=W1):=hX0
 have hk1:n - (i+(n - jj))=1:=by omega
 have hk:Hid (n - (i+(n - jj))=1):=hk1
 have hlej:i < jj:=by omega
 have hin2:i+(n - jj)<=n:=by omega
 have hin3:¬ (cap=i+(n - jj)):=by omega
 clear hW1 hs1 hf1 hcell hsome hfz hnews hX0 hk1 hjj
 go_enter Tryz.func127,Tryz.ntmps127
 go_wp2_with fail
 go_region_law_o (refine step_append_room rfl (.tmp 22) (.tmp 25) 85 rfl 136 q 2 Tryz.underlying85 hq hqs g 0 i cap (by simp [Act.eval,Act.put]) A (n - jj) (cap - jj) news (by simp [Act.eval,Act.put]) s1.out hsrc.out s2.out (by omega) s3.out ?_;rw [<- hW.out])
 go_wp2
 go_ret
 exact ⟨rfl,by rw [X.out]⟩
theorem CD {E:Env} (hE:E.P=Tryz.prog) {v:Value} {p s:List (Bs×Int)} {n:Nat} (hn:n=(p++s).length) (hn2:n<=1000000000000) (x:Bs×Int) {i:Int} (hi:i=p.length) {m:Nat}:OwnC E 126 [SV.c v,SV.c (.int .i64 i),SV.sl 9503 0 1 1] [(9501,Blk.own v 136 2 n (cat ao (p++s))),(9503,Blk.row 136 m (ao x))] (fun r U=>IsL r (n+1)/\U=[(9501,Blk.own r 136 2 (n+1) (cat ao (p++x :: s))),(9503,Blk.row 136 m (ao x))]):=by
 subst hi
 rw [List.length_append] at hn
 refine xY (A':=cat ao (p++x :: s)) (by rw [hE];exact La.enters) fun w vb hown hvb hne=>?_
 rw [hE]
 have hX:(ao x).toList.length=2:=by rw [Array.length_toList,aM]
 have h1:∀ u∈(ao x).toList,u.oneCell'=true:=fun u hu=>by
  have:=(bW x).one
  rw [Array.all_eq_true_iff_forall_mem] at this
  exact this u (by simpa using hu)
 have h1x:∀ u∈(cat ao (p++s)).toList,u.oneCell'=true:=fun u hu=>by
  have:=Go.SX.cat_all (fun x=>(bW x).one) (p++s)
  rw [Array.all_eq_true_iff_forall_mem] at this
  exact this u (by simpa using hu)
 have ep:(cat ao p).size=p.length*2:=Go.SX.cat_size aM p
 have ep':(cat ao p).toList.length=p.length*2:=by rw [Array.length_toList];exact ep
 have e1:(cat ao (p++s)).toList=(cat ao p).toList++(cat ao s).toList:=by rw [Go.SX.cat_append,Array.toList_append]
 have etk:(cat ao (p++s)).toList.take (p.length*2)=(cat ao p).toList:=by rw [e1,List.take_append_of_le_length (by rw [ep'];exact Nat.le_refl _),List.take_of_length_le (by rw [ep'];exact Nat.le_refl _)]
 have edr:(cat ao (p++s)).toList.drop (p.length*2)=(cat ao s).toList:=by rw [e1,List.drop_append_of_le_length (by rw [ep'];exact Nat.le_refl _),List.drop_of_length_le (by rw [ep'];exact Nat.le_refl _),List.nil_append]
 have ego:(cat ao (p++x :: s)).toList=(cat ao (p++s)).toList.take (p.length*2)++(ao x).toList++(cat ao (p++s)).toList.drop (p.length*2):=by
  rw [etk,edr,Go.SX.cat_append,show x :: s=[x]++s from rfl,Go.SX.cat_append,bp,Array.toList_append,Array.toList_append,List.append_assoc]
 have hvbc:w.heap[vb]? = some (.cells (ao x).toList.toArray 136 (0,0)):=by rw [hvb]
 rcases hown.2 with ⟨rfl,h0⟩ | ⟨g,cap,cur,rfl,hb,hgc,hnc,hcm,hcs,htake⟩
 ·have hp:p=[]:=List.eq_nil_of_length_eq_zero (by omega)
  have hs:s=[]:=List.eq_nil_of_length_eq_zero (by omega)
  subst hp hs h0
  refine (uP w hown (vb:=vb) hX (fun j u hj=>by rw [aK hvb,<- Array.getElem?_toList];exact hj) h1 hn2).mono ?_
  rintro en w' ⟨v',rfl,ho,hg,hf⟩
  refine ⟨v',rfl,?_,hg,hf⟩
  rw [Go.SX.cat_append,bp,Array.toList_append]
  exact ho
 ·have hxl:(cat ao (p++s)).toList.length=n*2:=by rw [Array.length_toList,Go.SX.cat_size aM,List.length_append,hn]
  by_cases hlast:p.length=n
  ·have hs:s=[]:=List.eq_nil_of_length_eq_zero (by omega)
   have:=uP w hown (vb:=vb) hX (fun j u hj=>by rw [aK hvb,<- Array.getElem?_toList];exact hj) h1 hn2
   rw [<- hlast] at this ⊢
   refine this.mono ?_
   rintro en w' ⟨v',rfl,ho,hg,hf⟩
   refine ⟨v',rfl,?_,hg,hf⟩
   subst hs
   rw [List.append_nil] at ho
   rw [Go.SX.cat_append,bp,Array.toList_append]
   exact ho
  ·have hip:p.length < n:=by omega
   have hgv:vb≠g:=hne g rfl
   by_cases hroom:n+1<=cap
   ·refine (CE w hip hroom (by unfold maxLen at hcm;omega) hgc hcs hxl htake hX hvbc hgv h1 h1x hn2).mono ?_
    rintro en w' ⟨rfl,rfl⟩
    have q1:=aP g ((cat ao (p++s)).toList.drop (p.length*2)) ((p.length+1)*2) w.drew
    have q2:=aP g (ao x).toList (p.length*2) (w.drew.setCells g ((p.length+1)*2) ((cat ao (p++s)).toList.drop (p.length*2)))
    have hrow:=aY (ao x).toList (p.length*2) _ _ (aY ((cat ao (p++s)).toList.drop (p.length*2)) ((p.length+1)*2) w.drew cur hgc)
    refine ⟨_,rfl,⟨by rw [Array.length_toList,Go.SX.cat_size aM,List.length_append,List.length_cons];omega,.inr ⟨g,cap,_,rfl,hb,hrow,hroom,hcm,by rw [aH,aH,hcs],?_⟩⟩,⟨?_,?_,?_,?_,fun k hk hne=>?_⟩,fun b hb=>.inl hb.symm⟩
    ·rw [ego,Nat.add_mul,Nat.one_mul,Nat.add_mul,Nat.one_mul]
     exact (oz hxl hX (by omega) (by rw [hcs];omega) (by rw [<- htake,List.take_take,Nat.min_eq_left (by omega)])).1
    ·exact q2.1.trans q1.1
    ·exact q2.2.1.trans q1.2.1
    ·exact q2.2.2.1.trans q1.2.2.1
    ·rw [q2.2.2.2,q1.2.2.2];exact Nat.le_refl _
    ·have hkg:k≠g:=fun e=>hne (by rw [e];rfl)
     rw [aI _ _ _ _ hkg,aI _ _ _ _ hkg];rfl
   ·refine (zZ w hip (by omega) hnc hgc hcs hxl htake hX hvbc h1 h1x hn2).mono ?_
    rintro en w' ⟨G,ROW,rfl,hG1,hG2,hR,hRt,rfl⟩
    have ha:(w.alloc (.cells ROW 136 (0,0))).heap[w.heap.size]? = some (.cells ROW 136 (0,0)):=by
     show (w.heap.push _)[w.heap.size]? = _
     simp
    have hrow1:=aY (k:=w.heap.size) (ao x).toList (p.length*2) (w.alloc (.cells ROW 136 (0,0))).drew ROW ha
    have hrow:=aY (k:=w.heap.size) ((cat ao (p++s)).toList.drop (p.length*2)) ((p.length+1)*2) (((w.alloc (.cells ROW 136 (0,0))).drew.setCells w.heap.size (p.length*2) (ao x).toList).drew) _ hrow1
    have q1:=aP w.heap.size (ao x).toList (p.length*2) (w.alloc (.cells ROW 136 (0,0))).drew
    have q2:=aP w.heap.size ((cat ao (p++s)).toList.drop (p.length*2)) ((p.length+1)*2) (((w.alloc (.cells ROW 136 (0,0))).drew.setCells w.heap.size (p.length*2) (ao x).toList).drew)
    refine ⟨_,rfl,⟨by rw [Array.length_toList,Go.SX.cat_size aM,List.length_append,List.length_cons];omega,.inr ⟨w.heap.size,G,_,rfl,Nat.zero_le _,hrow,hG1,by unfold maxLen;omega,by rw [aH,aH,hR],?_⟩⟩,⟨?_,?_,?_,?_,fun k hk hne=>?_⟩,fun b hb=>.inr ?_⟩
    ·rw [ego,Nat.add_mul,Nat.one_mul,Nat.add_mul,Nat.one_mul]
     exact (oz hxl hX (by omega) (by rw [hR];omega) hRt).2
    ·exact q2.1.trans q1.1
    ·exact q2.2.1.trans q1.2.1
    ·exact q2.2.2.1.trans q1.2.2.1
    ·rw [q2.2.2.2]
     show w.heap.size<=((w.alloc (.cells ROW 136 (0,0))).drew.setCells w.heap.size (p.length*2) (ao x).toList).heap.size
     rw [q1.2.2.2]
     show w.heap.size<=(w.heap.push _).size
     simp
    ·have hkg:k≠w.heap.size:=by omega
     rw [aI _ _ _ _ hkg]
     show ((w.alloc (.cells ROW 136 (0,0))).drew.setCells w.heap.size (p.length*2) (ao x).toList).heap[k]? = w.heap[k]?
     rw [aI _ _ _ _ hkg]
     show (w.alloc (.cells ROW 136 (0,0))).heap[k]? = w.heap[k]?
     exact Below.heap_alloc w _ k hk
    ·have:w.heap.size=b:=by simpa [Value.ownBlock] using hb
     omega
theorem Dp {E:Env} (hE:E.P=Tryz.prog) {v:Value} {p s:List (Bs×Int)} {x:Bs×Int} {n:Nat} (hn:n=(p++x :: s).length) (hn2:n<=1000000000000) {i j:Int} (hi:i=p.length) (hj:j=((p.length+1:Nat):Int)):OwnC E 127 [SV.c v,SV.c (.int .i64 i),SV.c (.int .i64 j)] [(9501,Blk.own v 136 2 n (cat ao (p++x :: s)))] (fun r U=>IsL r (p++s).length/\U=[(9501,Blk.own r 136 2 (p++s).length (cat ao (p++s)))]):=by
 subst hi hj
 rw [List.length_append,List.length_cons] at hn
 refine xZ (A':=cat ao (p++s)) (by rw [hE];exact K9.enters) fun w hown=>?_
 rw [hE]
 have h1x:∀ u∈(cat ao (p++x :: s)).toList,u.oneCell'=true:=fun u hu=>by
  have:=Go.SX.cat_all (fun x=>(bW x).one) (p++x :: s)
  rw [Array.all_eq_true_iff_forall_mem] at this
  exact this u (by simpa using hu)
 have ep:(cat ao p).size=p.length*2:=Go.SX.cat_size aM p
 have ep':(cat ao p).toList.length=p.length*2:=by rw [Array.length_toList];exact ep
 have ex':(cat ao (p++[x])).toList.length=(p.length+1)*2:=by rw [Array.length_toList,Go.SX.cat_size aM,List.length_append];rfl
 have e1:(cat ao (p++x :: s)).toList=(cat ao p).toList++(cat ao (x :: s)).toList:=by rw [Go.SX.cat_append,Array.toList_append]
 have e2:(cat ao (p++x :: s)).toList=(cat ao (p++[x])).toList++(cat ao s).toList:=by
  rw [show p++x :: s=(p++[x])++s by simp,Go.SX.cat_append,Array.toList_append]
 have etk:(cat ao (p++x :: s)).toList.take (p.length*2)=(cat ao p).toList:=by rw [e1,List.take_append_of_le_length (by rw [ep'];exact Nat.le_refl _),List.take_of_length_le (by rw [ep'];exact Nat.le_refl _)]
 have edr:(cat ao (p++x :: s)).toList.drop ((p.length+1)*2)=(cat ao s).toList:=by rw [e2,List.drop_append_of_le_length (by rw [ex'];exact Nat.le_refl _),List.drop_of_length_le (by rw [ex'];exact Nat.le_refl _),List.nil_append]
 have ego:(cat ao (p++s)).toList=(cat ao (p++x :: s)).toList.take (p.length*2)++(cat ao (p++x :: s)).toList.drop ((p.length+1)*2):=by
  rw [etk,edr,Go.SX.cat_append,Array.toList_append]
 rcases hown.2 with ⟨rfl,h0⟩ | ⟨g,cap,cur,rfl,hb,hgc,hnc,hcm,hcs,htake⟩
 ·omega
 ·have hxl:(cat ao (p++x :: s)).toList.length=n*2:=by rw [Array.length_toList,Go.SX.cat_size aM,List.length_append,List.length_cons,hn]
  have en:p.length+(n - (p.length+1))=(p++s).length:=by rw [List.length_append];omega
  refine (IT w (i:=p.length) (jj:=p.length+1) (by omega) rfl hnc (by unfold maxLen at hcm;omega) hgc hcs hxl htake h1x hn2).mono ?_
  rintro en' w' ⟨rfl,rfl⟩
  rw [en]
  have q1:=aP g ((cat ao (p++x :: s)).toList.drop ((p.length+1)*2)) (p.length*2) w.drew
  have q2:=aP g (Builtin.zeroCells fy.zero 1).toList ((p++s).length*2) (w.drew.setCells g (p.length*2) ((cat ao (p++x :: s)).toList.drop ((p.length+1)*2)))
  have hrow:=aY (Builtin.zeroCells fy.zero 1).toList ((p++s).length*2) _ _ (aY ((cat ao (p++x :: s)).toList.drop ((p.length+1)*2)) (p.length*2) w.drew cur hgc)
  refine ⟨_,rfl,.inr ⟨g,cap,rfl⟩,⟨by rw [Array.length_toList,Go.SX.cat_size aM],.inr ⟨g,cap,_,rfl,hb,hrow,by rw [List.length_append];omega,hcm,by rw [aH,aH,hcs],?_⟩⟩,⟨?_,?_,?_,?_,fun k hk hne=>?_⟩,fun b hb=>.inl hb.symm⟩
  ·rw [ego]
   have:=yO (cur:=cur) (Z:=(Builtin.zeroCells fy.zero 1).toList) (a:=p.length*2) (b:=(p.length+1)*2) (s:=2) (t:=n*2) hxl (by omega) (by omega) (by rw [hcs];omega) htake
   rw [show p.length*2+(n*2 - (p.length+1)*2)=(p++s).length*2 by rw [<- en];omega,show n*2 - 2=(p++s).length*2 by rw [<- en];omega] at this
   exact this
  ·exact q2.1.trans q1.1
  ·exact q2.2.1.trans q1.2.1
  ·exact q2.2.2.1.trans q1.2.2.1
  ·rw [q2.2.2.2,q1.2.2.2];exact Nat.le_refl _
  ·have hkg:k≠g:=fun e=>hne (by rw [e];rfl)
   rw [aI _ _ _ _ hkg,aI _ _ _ _ hkg];rfl
end Go.Proofs.YtekfkdddadcalaaGreatDoor
namespace Go.Proofs.YtekfkdddadcalaaGreatDoor
open Go Go.RowKit Go.SX
open Go.Proofs Go.Shelf Go.Lib
theorem jL:∃ q z,Tryz.prog.info? 183=some q/\q.zero=some z/\q.size=3/\z.cells.size=3/\q.bytes=32:=by
 have h:(Tryz.prog.info? 183).map (fun q=>(q.size,q.bytes,q.zero.map fun z=>z.cells.size))=some (3,32,some 3):=by kernel_rfl
 cases hq:Tryz.prog.info? 183 with
 | none=>rw [hq] at h;cases h
 | some q =>
  rw [hq] at h
  simp only [Option.map_some,Option.some.injEq,Prod.mk.injEq] at h
  cases hz:q.zero with
  | none=>rw [hz] at h;simp at h
  | some z =>
   rw [hz] at h
   simp only [Option.map_some,Option.some.injEq] at h
   exact ⟨q,z,rfl,hz,h.1,h.2.2,h.2.1⟩
theorem uQ {n:Nat} {v:Value} {xs:List Value} (w:World) (hown:w.ownsRow 0 183 3 v n xs) {vb:Nat} {X:List Value} (hX:X.length=3) (hvs:∀ j u,X[j]? = some u->w.cell? ⟨vb,j,none⟩=some u) (h1:∀ u∈X,u.oneCell'=true) (hn:n<=1000000000000) :
    Calls Tryz.prog 129 #[v,.int .i64 (n:Nat),.slice (some ⟨vb,0,none⟩) 1 1] w fun e w'=>∃ v',e=.returned v'/\w'.ownsRow 0 183 3 v' (n+1) (xs++X)/\w.grownBy w' v.ownBlock/\(∀ b,v'.ownBlock=some b->some b=v.ownBlock\/w.heap.size<=b):=by
 obtain ⟨q,z,hq,hz,hqs,hzs,hqb⟩:=jL
 obtain ⟨v',w',hr,ho,hg,hf⟩:=kr (P:=Tryz.prog) w 89 89 183 q z 3 Tryz.underlying89 hq hz hqs hzs (by decide) v n xs hown ⟨vb,0,none⟩ 1 1 X (by rw [hX]) (fun j u hj=>by rw [Addr.add_lit,Nat.zero_add];exact hvs j u hj) h1 (by unfold maxLen;omega) (by rw [hqb];omega)
 go_enter Tryz.func129,Tryz.ntmps129
 rcases hown.2 with ⟨rfl,rfl⟩ | ⟨g,cap,cur,rfl,hb,hgc,hnc,hcm,hcs,htake⟩
 ·clear hown
  go_wp2_with (at_builtin;refine Lib.wpList_append_run _ rfl _ _ _ _ rfl _ _ rfl rfl _ _ hr ?_)
  go_ret
  exact ⟨v',rfl,ho,hg,hf⟩
 ·clear hown
  go_wp2_with (at_builtin;refine Lib.wpList_append_run _ rfl _ _ _ _ rfl _ _ rfl rfl _ _ hr ?_)
  all_goals (go_ret;exact ⟨v',rfl,ho,hg,hf⟩)
theorem CF {g n cap i:Nat} {xs:List Value} {cur:Array Value} (w:World) (hi:i < n) (hroom:n+1<=cap) (hc63:cap<=9223372036854775807) (hgc:w.heap[g]? = some (.cells cur 183 (0,0))) (hcs:cur.size=cap*3) (hxl:xs.length=n*3) (htake:cur.toList.take (n*3)=xs) {vb:Nat} {X:List Value} {tx:TypeId} (hX:X.length=3) (hvs:w.heap[vb]? = some (.cells X.toArray tx (0,0))) (hne:vb≠g) (h1:∀ u∈X,u.oneCell'=true) (h1x:∀ u∈xs,u.oneCell'=true) (hn:n<=1000000000000) :
    Calls Tryz.prog 129 #[.slice (some ⟨g,0,none⟩) n cap,.int .i64 (i:Nat),.slice (some ⟨vb,0,none⟩) 1 1] w fun e w' =>
     e=.returned (.slice (some ⟨g,0,none⟩) (n+1) cap)/\w'=(w.drew.setCells g ((i+1)*3) (xs.drop (i*3))).setCells g (i*3) X:=by
 have hov:∀ o lb cb,(callFunc 167 #[.slice (some ⟨vb,0,none⟩) 1 1,.slice (some ⟨g,o,none⟩) lb cb]).run Tryz.prog w=.ok (.value (.bool false)) w:=fun o lb cb=>by
  rw [run_callFunc_extern Tryz.func167 (by kernel_rfl) (by kernel_rfl) (by kernel_rfl) (e:=Extern.SlicesOverlaps.overlaps #[89,89] #[4]) (by kernel_rfl),
   Lib.run_overlaps_apart w 89 4 183 Tryz.underlying89 3 (fun w=>Go.SX.run_sizeOf Bh w) ⟨vb,0,none⟩ ⟨g,o,none⟩ 1 1 lb cb hne tx 183 X.toArray.size cur.size (jB hvs) (jB hgc) (by omega) (bQ hvs _) (bQ hvs _)]
  rfl
 have hz2:¬ ((i:Int)=(n:Int)):=by omega
 have hw1:IntKind.i64.wrap ((i:Int)+1)=(i:Int)+1:=by rw [IntKind.wrap_i64];omega
 have hw2:IntKind.i64.wrap ((n:Int)+1)=(n:Int)+1:=by rw [IntKind.wrap_i64];omega
 have hb1:(0:Int)<=(i:Int)+1:=by omega
 have hin:i<=n:=by omega
 have htn:((i:Int)+1).toNat=i+1:=by omega
 have htn2:((n:Int)+1).toNat=n+1:=by omega
 have hb2:¬ (cap=i+1):=by omega
 have hb3:(i:Int)<=(n:Int)+1:=by omega
 have hb4:¬ (cap=i):=by omega
 have hb5:¬ ((cap:Int) < (n:Int)+1):=by omega
 have hdl:(xs.drop (i*3)).length=(n - i)*3:=by rw [List.length_drop,hxl];omega
 have hcell:∀ j u,xs[j]? = some u->w.cell? ⟨g,j,none⟩=some u:=fun j u hj=>by
  rw [aK hgc,<- Array.getElem?_toList]
  rw [<- htake,List.getElem?_take] at hj
  split at hj
  ·exact hj
  ·cases hj
 have hsome:∀ j,j < cap*3->(w.cell? ⟨g,j,none⟩).isSome=true:=fun j hj=>by
  rw [aK hgc,Array.getElem?_eq_getElem (by omega)];rfl
 have hfz:∀ j,w.frozen? ⟨g,j,none⟩=false:=fun j=>bQ hgc j
 obtain ⟨q,z,hq,hz,hqs,hzs,hqb⟩:=jL
 have hsz:(Tryz.prog.info? 183).map (·.size)=some 3:=by rw [hq];simp [hqs]
 have hcp1:∀ ty dc sc,(Builtin.copy_ #[89,89] ty #[.slice (some ⟨g,(i+1)*3,none⟩) (n - i) dc,.slice (some ⟨g,i*3,none⟩) (n+1 - i) sc]).run Tryz.prog w.drew=.ok (goInt (Nat.min (n+1 - i) (n - i))) (w.drew.setCells g ((i+1)*3) (xs.drop (i*3))):=fun ty dc sc =>
  cq w.drew _ _ ty 183 g ((i+1)*3) (n - i) dc ⟨g,i*3,none⟩ (n+1 - i) sc 3 (xs.drop (i*3)) Tryz.underlying89 hsz (by rw [hdl];simp only [Nat.min_def];split<;>omega)
   (fun j u hj=>by rw [Addr.add_lit];exact hcell (i*3+j) u (by rwa [List.getElem?_drop] at hj))
   (fun j hj=>hsome _ (by omega)) (fun j hj=>hfz _) (fun u hu=>h1x u (List.mem_of_mem_drop hu))
 obtain ⟨W1,hW1⟩:∃ W1,W1=w.drew.setCells g ((i+1)*3) (xs.drop (i*3)):=⟨_,rfl⟩
 have hvb:∀ j u,X[j]? = some u->w.cell? ⟨vb,j,none⟩=some u:=fun j u hj=>by rw [aK hvs];simpa using hj
 have hcp2:∀ (W:World),(∀ x,W.cell? x=W1.cell? x)->(∀ x,W.frozen? x=W1.frozen? x)->∀ ty dc,(Builtin.copy_ #[89,89] ty #[.slice (some ⟨g,i*3,none⟩) (n+1 - i) dc,.slice (some ⟨vb,0,none⟩) 1 1]).run Tryz.prog W=.ok (goInt (Nat.min 1 (n+1 - i))) (W.setCells g (i*3) X):=fun W hWc hWf ty dc =>
  cq W _ _ ty 183 g (i*3) (n+1 - i) dc ⟨vb,0,none⟩ 1 1 3 X Tryz.underlying89 hsz (by rw [hX];simp only [Nat.min_def];split<;>omega)
   (fun j u hj=>by
    rw [Addr.add_lit,hWc,hW1,World.cell?_setCells_out g _ _ _ _ (fun h _=>absurd h hne),Nat.zero_add]
    exact hvb j u hj)
   (fun j hj=>by
    rw [hWc,hW1]
    exact cw g (xs.drop (i*3)) ((i+1)*3) w.drew (fun t ht=>hsome _ (by rw [hdl] at ht;omega)) (i*3+j) (hsome _ (by rw [hX] at hj;omega)))
   (fun j hj=>by rw [hWf,hW1,World.frozen?_setCells];exact hfz _) h1
 rw [<- hW1] at hcp1
 have ah:=ah
 go_enter Tryz.func129,Tryz.ntmps129
 go_wp2_with (simp only [hov])
 go_region_law_o (refine eD rfl _ _ 89 89 rfl _ _ (by simp [Act.eval,Act.put]) (by simp [Act.eval,Act.put]) (hcp1 _ _ _) ?_)
 go_wp2_with (at_builtin;refine cu _ rfl _ _ 89 89 rfl _ _ rfl rfl (hcp2 _ (fun _=>rfl) (fun _=>rfl) _ _) ?_)
 go_ret
 first | exact ⟨rfl,rfl⟩ | exact ⟨rfl,by rw [hW1]⟩
theorem z6 {g n cap i:Nat} {xs:List Value} {cur:Array Value} (w:World) (hi:i < n) (hroom:cap < n+1) (hnc:n<=cap) (hgc:w.heap[g]? = some (.cells cur 183 (0,0))) (_hcs:cur.size=cap*3) (hxl:xs.length=n*3) (htake:cur.toList.take (n*3)=xs) {vb:Nat} {X:List Value} {tx:TypeId} (hX:X.length=3) (hvs:w.heap[vb]? = some (.cells X.toArray tx (0,0))) (h1:∀ u∈X,u.oneCell'=true) (h1x:∀ u∈xs,u.oneCell'=true) (hn:n<=1000000000000) :
    Calls Tryz.prog 129 #[.slice (some ⟨g,0,none⟩) n cap,.int .i64 (i:Nat),.slice (some ⟨vb,0,none⟩) 1 1] w fun e w'=>∃ G ROW,e=.returned (.slice (some ⟨w.heap.size,0,none⟩) (n+1) G)/\n+1<=G/\G<=9223372036854775807/\ROW.size=G*3/\ROW.toList.take (i*3)=xs.take (i*3)/\w'=(((w.alloc (.cells ROW 183 (0,0))).drew.setCells w.heap.size (i*3) X).drew).setCells w.heap.size ((i+1)*3) (xs.drop (i*3)):=by
 obtain ⟨q,z,hq,hz,hqs,hzs,hqb⟩:=jL
 have hsz:(Tryz.prog.info? 183).map (·.size)=some 3:=by rw [hq];simp [hqs]
 have hz2:¬ ((i:Int)=(n:Int)):=by omega
 have hz3:(cap:Int) < (n:Int)+1:=by omega
 have hcell:∀ j u,xs[j]? = some u->w.cell? ⟨g,j,none⟩=some u:=fun j u hj=>by
  rw [aK hgc,<- Array.getElem?_toList]
  rw [<- htake,List.getElem?_take] at hj
  split at hj
  ·exact hj
  ·cases hj
 have hvb:∀ j u,X[j]? = some u->w.cell? ⟨vb,j,none⟩=some u:=fun j u hj=>by rw [aK hvs];simpa using hj
 have hbw:g < w.heap.size:=(Array.getElem?_eq_some_iff.1 hgc).1
 have hvw:vb < w.heap.size:=(Array.getElem?_eq_some_iff.1 hvs).1
 have hkk:(n:Int)+1 - (i:Int)=((n+1 - i:Nat):Int):=by omega
 have hik:i+(n+1 - i)=n+1:=by omega
 have hold:(Builtin.firstCells q.size i (.slice (some ⟨g,0,none⟩) i cap)).run Tryz.prog w.drew=.ok (xs.take (i*3)).toArray w.drew:=by
  rw [hqs]
  exact run_firstCells_some (w:=w.drew) 3 i ⟨g,0,none⟩ i cap (xs.take (i*3)) (by rw [List.length_take];omega) (fun j u hj=>by
   rw [Addr.add_lit,Nat.zero_add]
   rw [List.getElem?_take] at hj
   split at hj
   ·exact hcell j u hj
   ·cases hj)
 have hrz:∀ ty,(Builtin.append_ #[89,3] ty #[.slice (some ⟨g,0,none⟩) i cap,.int .i64 ((n:Int)+1 - (i:Int))]).run Tryz.prog w =
   .ok (.slice (some ⟨w.heap.size,0,none⟩) (n+1) (grownCap w (n+1) cap 183)) (w.drew.alloc (.cells ((xs.take (i*3)).toArray++Builtin.zeroCells z.cells (n+1 - i)++Builtin.zeroCells z.cells (grownCap w (n+1) cap 183 - (n+1))) 183)):=fun ty=>by
  have h:=Lib.run_append_grow_zeros w 89 3 ty 183 q z .i64 .i64 Tryz.underlying89 Tryz.underlying3 hq hz (some ⟨g,0,none⟩) i cap (xs.take (i*3)) hold (n+1 - i) (by omega) (by omega) (by omega) (by omega) (by rw [hqb];omega) (by rw [hqb,hik];exact growslice_fits hroom (by omega))
  rw [hik] at h
  rw [hkk]
  exact h
 obtain ⟨G,hG⟩:∃ G,G=grownCap w (n+1) cap 183:=⟨_,rfl⟩
 obtain ⟨ROW,hROW⟩:∃ ROW:Array Value,ROW=(xs.take (i*3)).toArray++Builtin.zeroCells z.cells (n+1 - i)++Builtin.zeroCells z.cells (G - (n+1)):=⟨_,rfl⟩
 rw [<- hG] at hrz
 rw [<- hROW] at hrz
 have hGn:n+1<=G:=by rw [hG];exact grownCap_ge w _ _ _
 have hG63:G<=9223372036854775807:=by
  have:=grownCap_le_maxLen w (n+1) cap 183 (by unfold maxLen;omega)
  rw [<- hG] at this
  unfold maxLen at this
  omega
 have htl:(xs.take (i*3)).length=i*3:=by rw [List.length_take];omega
 have hRl:ROW.size=G*3:=by
  rw [hROW,Array.size_append,Array.size_append,size_zeroCells,size_zeroCells,hzs,List.size_toArray,htl]
  omega
 have hRt:ROW.toList.take (i*3)=xs.take (i*3):=by
  rw [hROW,Array.toList_append,Array.toList_append,List.append_assoc,List.take_append_of_le_length (by rw [List.toList_toArray,htl];exact Nat.le_refl _),List.toList_toArray,List.take_of_length_le (by omega)]
 obtain ⟨W1,hW1⟩:∃ W1,W1=w.drew.alloc (.cells ROW 183):=⟨_,rfl⟩
 rw [<- hW1] at hrz
 have hN:∀ j,j < G*3->(W1.cell? ⟨w.heap.size,j,none⟩).isSome=true:=fun j hj=>by
  rw [hW1,World.cell?_alloc_at (w:=w.drew) ROW _ w.heap.size j rfl,Array.getElem?_eq_getElem (by omega)];rfl
 have hNf:∀ j,W1.frozen? ⟨w.heap.size,j,none⟩=false:=fun j=>by rw [hW1];exact World.frozen?_alloc_at (w:=w.drew) ROW _ w.heap.size j rfl
 have hOb:∀ j u,w.cell? ⟨g,j,none⟩=some u->W1.cell? ⟨g,j,none⟩=some u:=fun j u h=>by rw [hW1,World.cell?_alloc_past (w:=w.drew) _ g j hbw];exact h
 have hOv:∀ j u,w.cell? ⟨vb,j,none⟩=some u->W1.cell? ⟨vb,j,none⟩=some u:=fun j u h=>by rw [hW1,World.cell?_alloc_past (w:=w.drew) _ vb j hvw];exact h
 have hcpA:∀ (W:World),(∀ x,W.cell? x=W1.cell? x)->(∀ x,W.frozen? x=W1.frozen? x)->∀ ty dc,(Builtin.copy_ #[89,89] ty #[.slice (some ⟨w.heap.size,i*3,none⟩) (n+1 - i) dc,.slice (some ⟨vb,0,none⟩) 1 1]).run Tryz.prog W=.ok (goInt (Nat.min 1 (n+1 - i))) (W.setCells w.heap.size (i*3) X):=fun W hWc hWf ty dc =>
  cq W _ _ ty 183 w.heap.size (i*3) (n+1 - i) dc ⟨vb,0,none⟩ 1 1 3 X Tryz.underlying89 hsz (by rw [hX];simp only [Nat.min_def];split<;>omega)
   (fun j u hj=>by rw [Addr.add_lit,hWc,Nat.zero_add];exact hOv _ u (hvb j u hj))
   (fun j hj=>by rw [hWc];exact hN _ (by omega)) (fun j hj=>by rw [hWf];exact hNf _) h1
 have hGi:¬ (G=i):=by omega
 have hGim:¬ (G=i+1):=by omega
 have hci:¬ (cap=i):=by omega
 have hbN:g≠w.heap.size:=by omega
 have hdl:(xs.drop (i*3)).length=(n - i)*3:=by rw [List.length_drop,hxl];omega
 have hcpB:∀ (W:World),(∀ x,W.cell? x=(W1.setCells w.heap.size (i*3) X).cell? x)->(∀ x,W.frozen? x=(W1.setCells w.heap.size (i*3) X).frozen? x)->∀ ty dc sc,(Builtin.copy_ #[89,89] ty #[.slice (some ⟨w.heap.size,(i+1)*3,none⟩) (n - i) dc,.slice (some ⟨g,i*3,none⟩) (n - i) sc]).run Tryz.prog W=.ok (goInt (Nat.min (n - i) (n - i))) (W.setCells w.heap.size ((i+1)*3) (xs.drop (i*3))):=fun W hWc hWf ty dc sc =>
  cq W _ _ ty 183 w.heap.size ((i+1)*3) (n - i) dc ⟨g,i*3,none⟩ (n - i) sc 3 (xs.drop (i*3)) Tryz.underlying89 hsz (by rw [hdl];simp only [Nat.min_def];split<;>omega)
   (fun j u hj=>by
    rw [Addr.add_lit,hWc,World.cell?_setCells_out _ _ _ _ _ (fun h _=>absurd h hbN)]
    exact hOb _ u (hcell (i*3+j) u (by rwa [List.getElem?_drop] at hj)))
   (fun j hj=>by rw [hWc];exact cw _ X (i*3) W1 (fun t ht=>hN _ (by omega)) _ (hN _ (by omega)))
   (fun j hj=>by rw [hWf,World.frozen?_setCells];exact hNf _) (fun u hu=>h1x u (List.mem_of_mem_drop hu))
 have hw1:IntKind.i64.wrap ((i:Int)+1)=(i:Int)+1:=by rw [IntKind.wrap_i64];omega
 have hb1:(0:Int)<=(i:Int)+1:=by omega
 have hin:i<=n:=by omega
 have htn:((i:Int)+1).toNat=i+1:=by omega
 have hb3:(i:Int)<=(n:Int):=by omega
 have ah:=ah
 subst hW1
 have hE1:∀ x,((w.alloc (.cells ROW 183)).drew).cell? x=(w.drew.alloc (.cells ROW 183)).cell? x:=fun x=>rfl
 have hE2:∀ x,((w.alloc (.cells ROW 183)).drew).frozen? x=(w.drew.alloc (.cells ROW 183)).frozen? x:=fun x=>rfl
 have hF1:∀ x,(((w.alloc (.cells ROW 183)).drew.setCells w.heap.size (i*3) X).drew).cell? x=((w.drew.alloc (.cells ROW 183)).setCells w.heap.size (i*3) X).cell? x:=fun x=>rfl
 have hF2:∀ x,(((w.alloc (.cells ROW 183)).drew.setCells w.heap.size (i*3) X).drew).frozen? x=((w.drew.alloc (.cells ROW 183)).setCells w.heap.size (i*3) X).frozen? x:=fun x=>rfl
 clear hkk hik hold hROW hG hz hzs hq hqs hqb htl
 go_enter Tryz.func129,Tryz.ntmps129
 go_wp2_with (first
  | (at_builtin;refine Lib.wpList_append_run _ rfl _ _ _ _ rfl _ _ rfl rfl _ _ (hrz _) ?_)
  | (at_builtin;refine cu _ rfl _ _ 89 89 rfl _ _ rfl rfl (hcpA _ hE1 hE2 _ _) ?_)
  | (at_builtin;refine cu _ rfl _ _ 89 89 rfl _ _ rfl rfl (hcpB _ (fun _=>rfl) (fun _=>rfl) _ _ _) ?_))
 go_region_law_o (refine eD rfl _ _ 89 89 rfl (.slice (some ⟨w.heap.size,(i+1)*3,none⟩) (n - i) (G - (i+1))) (.slice (some ⟨g,i*3,none⟩) (n - i) (cap - i)) (by simp [Act.eval,Act.put]) (by simp [Act.eval,Act.put]) (hcpB _ hF1 hF2 3 (G - (i+1)) (cap - i)) ?_)
 go_wp2
 go_ret
 exact ⟨G,ROW,rfl,hGn,hG63,hRl,hRt,rfl⟩
theorem IU {g n cap i jj:Nat} {xs:List Value} {cur:Array Value} (w:World) (hi:i < n) (hjj:jj=i+1) (hnc:n<=cap) (_hc63:cap<=9223372036854775807) (hgc:w.heap[g]? = some (.cells cur 183 (0,0))) (hcs:cur.size=cap*3) (hxl:xs.length=n*3) (htake:cur.toList.take (n*3)=xs) (h1x:∀ u∈xs,u.oneCell'=true) (hn:n<=1000000000000) :
    Calls Tryz.prog 130 #[.slice (some ⟨g,0,none⟩) n cap,.int .i64 (i:Nat),.int .i64 (jj:Nat)] w fun e w' =>
     e=.returned (.slice (some ⟨g,0,none⟩) (i+(n - jj)) cap)/\w'=(w.drew.setCells g (i*3) (xs.drop (jj*3))).setCells g ((i+(n - jj))*3) (Builtin.zeroCells dI.zero 1).toList:=by
 obtain ⟨q,z,hq,hz,hqs,hzs,hqb⟩:=jL
 have hcell:∀ j u,xs[j]? = some u->w.cell? ⟨g,j,none⟩=some u:=fun j u hj=>by
  rw [aK hgc,<- Array.getElem?_toList]
  rw [<- htake,List.getElem?_take] at hj
  split at hj
  ·exact hj
  ·cases hj
 have hsome:∀ j,j < cap*3->(w.cell? ⟨g,j,none⟩).isSome=true:=fun j hj=>by
  rw [aK hgc,Array.getElem?_eq_getElem (by omega)];rfl
 have hfz:∀ j,w.frozen? ⟨g,j,none⟩=false:=fun j=>bQ hgc j
 obtain ⟨news,hnews⟩:∃ news,news=xs.drop (jj*3):=⟨_,rfl⟩
 have hlen:news.length=(n - jj)*3:=by rw [hnews,List.length_drop,hxl];omega
 obtain ⟨A,hA,hsrc⟩:∃ A:Addr,(if cap=jj then some (⟨g,0,none⟩:Addr) else some ⟨g,jj*3,none⟩)=some A/\Hid (∀ t u,news[t]? = some u->w.drew.cell? (A.add t)=some u):=by
  by_cases h:cap=jj
  ·refine ⟨⟨g,0,none⟩,by simp [h],fun t u hu=>?_⟩
   have h0:news.length=0:=by rw [hlen];omega
   rw [List.length_eq_zero_iff.1 h0] at hu
   simp at hu
  ·refine ⟨⟨g,jj*3,none⟩,by simp [h],fun t u hu=>?_⟩
   rw [Addr.add_lit]
   rw [hnews,List.getElem?_drop] at hu
   exact hcell (jj*3+t) u hu
 have s1:Hid (news.length=(n - jj)*3):=hlen
 have s2:Hid (∀ u∈news,u.oneCell'=true):=fun u hu=>h1x u (by rw [hnews] at hu;exact List.mem_of_mem_drop hu)
 have s3:Hid (∀ t,t < news.length->(w.drew.cell? ⟨g,0+i*3+t,none⟩).isSome=true/\w.drew.frozen? ⟨g,0+i*3+t,none⟩=false):=fun t ht=>by
  rw [hlen] at ht
  exact ⟨hsome _ (by omega),hfz _⟩
 obtain ⟨W1,hW1⟩:∃ W1,W1=w.drew.setCells g (0+i*3) news:=⟨_,rfl⟩
 have hs1:∀ j,j < cap*3->(W1.cell? ⟨g,j,none⟩).isSome=true:=fun j hj=>by
  rw [hW1]
  exact cw g news (0+i*3) w.drew (fun t ht=>hsome _ (by rw [hlen] at ht;omega)) j (hsome _ hj)
 have hf1:∀ j,W1.frozen? ⟨g,j,none⟩=false:=fun j=>by rw [hW1,World.frozen?_setCells];exact hfz j
 have hcl:∀ ty,(Builtin.clear_ #[89] ty #[.slice (some ⟨g,(i+(n - jj))*3,none⟩) (n - (i+(n - jj))) (cap - (i+(n - jj)))]).run Tryz.prog W1=.ok (.tuple #[]) (W1.setCells g ((i+(n - jj))*3) (Builtin.zeroCells dI.zero 1).toList):=fun ty=>by
  rw [show n - (i+(n - jj))=1 by omega]
  exact ji W1 _ _ ty dI Tryz.underlying89 Bh (by kernel_rfl) g _ 1 _ (by omega) (fun t ht=>hs1 _ (by have:t < 1*3:=ht;omega)) (fun t ht=>hf1 _)
 have hW:Hid (W1=w.drew.setCells g (0+i*3) news):=hW1
 have hic:i<=cap:=by omega
 have hjc:jj<=cap:=by omega
 have hji:¬ ((i:Int)=(jj:Int)):=by omega
 have ah:=ah
 have heq:¬ i=jj:=by omega
 have hij:i<=jj:=by omega
 have hjn:jj<=n:=by omega
 have hX0:w.drew.setCells g (i*3) (xs.drop (jj*3))=W1:=by rw [hW1,hnews,Nat.zero_add]
 have X:Aside (w.drew.setCells g (i*3) (xs.drop (jj*3))=W1):=hX0
 have hk1:n - (i+(n - jj))=1:=by omega
 have hk:Hid (n - (i+(n - jj))=1):=hk1
 have hlej:i < jj:=by omega
 have hin2:i+(n - jj)<=n:=by omega
 have hin3:¬ (cap=i+(n - jj)):=by omega
 clear hW1 hs1 hf1 hcell hsome hfz hnews hX0 hk1 hjj
 go_enter Tryz.func130,Tryz.ntmps130
 go_wp2_with fail
 go_region_law_o (refine step_append_room rfl (.tmp 22) (.tmp 25) 89 rfl 183 q 3 Tryz.underlying89 hq hqs g 0 i cap (by simp [Act.eval,Act.put]) A (n - jj) (cap - jj) news (by simp [Act.eval,Act.put]) s1.out hsrc.out s2.out (by omega) s3.out ?_;rw [<- hW.out])
 go_wp2
 go_ret
 exact ⟨rfl,by rw [X.out]⟩
theorem uK {E:Env} (hE:E.P=Tryz.prog) {v:Value} {p s:List (Ky×Int)} {n:Nat} (hn:n=(p++s).length) (hn2:n<=1000000000000) (x:Ky×Int) {i:Int} (hi:i=p.length) {m:Nat}:OwnC E 129 [SV.c v,SV.c (.int .i64 i),SV.sl 9503 0 1 1] [(9501,Blk.own v 183 3 n (cat ai (p++s))),(9503,Blk.row 183 m (ai x))] (fun r U=>IsL r (n+1)/\U=[(9501,Blk.own r 183 3 (n+1) (cat ai (p++x :: s))),(9503,Blk.row 183 m (ai x))]):=by
 subst hi
 rw [List.length_append] at hn
 refine xY (A':=cat ai (p++x :: s)) (by rw [hE];exact K8.enters) fun w vb hown hvb hne=>?_
 rw [hE]
 have hX:(ai x).toList.length=3:=by rw [Array.length_toList,aS]
 have h1:∀ u∈(ai x).toList,u.oneCell'=true:=fun u hu=>by
  have:=(cv x).one
  rw [Array.all_eq_true_iff_forall_mem] at this
  exact this u (by simpa using hu)
 have h1x:∀ u∈(cat ai (p++s)).toList,u.oneCell'=true:=fun u hu=>by
  have:=Go.SX.cat_all (fun x=>(cv x).one) (p++s)
  rw [Array.all_eq_true_iff_forall_mem] at this
  exact this u (by simpa using hu)
 have ep:(cat ai p).size=p.length*3:=Go.SX.cat_size aS p
 have ep':(cat ai p).toList.length=p.length*3:=by rw [Array.length_toList];exact ep
 have e1:(cat ai (p++s)).toList=(cat ai p).toList++(cat ai s).toList:=by rw [Go.SX.cat_append,Array.toList_append]
 have etk:(cat ai (p++s)).toList.take (p.length*3)=(cat ai p).toList:=by rw [e1,List.take_append_of_le_length (by rw [ep'];exact Nat.le_refl _),List.take_of_length_le (by rw [ep'];exact Nat.le_refl _)]
 have edr:(cat ai (p++s)).toList.drop (p.length*3)=(cat ai s).toList:=by rw [e1,List.drop_append_of_le_length (by rw [ep'];exact Nat.le_refl _),List.drop_of_length_le (by rw [ep'];exact Nat.le_refl _),List.nil_append]
 have ego:(cat ai (p++x :: s)).toList=(cat ai (p++s)).toList.take (p.length*3)++(ai x).toList++(cat ai (p++s)).toList.drop (p.length*3):=by
  rw [etk,edr,Go.SX.cat_append,show x :: s=[x]++s from rfl,Go.SX.cat_append,bp,Array.toList_append,Array.toList_append,List.append_assoc]
 have hvbc:w.heap[vb]? = some (.cells (ai x).toList.toArray 183 (0,0)):=by rw [hvb]
 rcases hown.2 with ⟨rfl,h0⟩ | ⟨g,cap,cur,rfl,hb,hgc,hnc,hcm,hcs,htake⟩
 ·have hp:p=[]:=List.eq_nil_of_length_eq_zero (by omega)
  have hs:s=[]:=List.eq_nil_of_length_eq_zero (by omega)
  subst hp hs h0
  refine (uQ w hown (vb:=vb) hX (fun j u hj=>by rw [aK hvb,<- Array.getElem?_toList];exact hj) h1 hn2).mono ?_
  rintro en w' ⟨v',rfl,ho,hg,hf⟩
  refine ⟨v',rfl,?_,hg,hf⟩
  rw [Go.SX.cat_append,bp,Array.toList_append]
  exact ho
 ·have hxl:(cat ai (p++s)).toList.length=n*3:=by rw [Array.length_toList,Go.SX.cat_size aS,List.length_append,hn]
  by_cases hlast:p.length=n
  ·have hs:s=[]:=List.eq_nil_of_length_eq_zero (by omega)
   have:=uQ w hown (vb:=vb) hX (fun j u hj=>by rw [aK hvb,<- Array.getElem?_toList];exact hj) h1 hn2
   rw [<- hlast] at this ⊢
   refine this.mono ?_
   rintro en w' ⟨v',rfl,ho,hg,hf⟩
   refine ⟨v',rfl,?_,hg,hf⟩
   subst hs
   rw [List.append_nil] at ho
   rw [Go.SX.cat_append,bp,Array.toList_append]
   exact ho
  ·have hip:p.length < n:=by omega
   have hgv:vb≠g:=hne g rfl
   by_cases hroom:n+1<=cap
   ·refine (CF w hip hroom (by unfold maxLen at hcm;omega) hgc hcs hxl htake hX hvbc hgv h1 h1x hn2).mono ?_
    rintro en w' ⟨rfl,rfl⟩
    have q1:=aP g ((cat ai (p++s)).toList.drop (p.length*3)) ((p.length+1)*3) w.drew
    have q2:=aP g (ai x).toList (p.length*3) (w.drew.setCells g ((p.length+1)*3) ((cat ai (p++s)).toList.drop (p.length*3)))
    have hrow:=aY (ai x).toList (p.length*3) _ _ (aY ((cat ai (p++s)).toList.drop (p.length*3)) ((p.length+1)*3) w.drew cur hgc)
    refine ⟨_,rfl,⟨by rw [Array.length_toList,Go.SX.cat_size aS,List.length_append,List.length_cons];omega,.inr ⟨g,cap,_,rfl,hb,hrow,hroom,hcm,by rw [aH,aH,hcs],?_⟩⟩,⟨?_,?_,?_,?_,fun k hk hne=>?_⟩,fun b hb=>.inl hb.symm⟩
    ·rw [ego,Nat.add_mul,Nat.one_mul,Nat.add_mul,Nat.one_mul]
     exact (oz hxl hX (by omega) (by rw [hcs];omega) (by rw [<- htake,List.take_take,Nat.min_eq_left (by omega)])).1
    ·exact q2.1.trans q1.1
    ·exact q2.2.1.trans q1.2.1
    ·exact q2.2.2.1.trans q1.2.2.1
    ·rw [q2.2.2.2,q1.2.2.2];exact Nat.le_refl _
    ·have hkg:k≠g:=fun e=>hne (by rw [e];rfl)
     rw [aI _ _ _ _ hkg,aI _ _ _ _ hkg];rfl
   ·refine (z6 w hip (by omega) hnc hgc hcs hxl htake hX hvbc h1 h1x hn2).mono ?_
    rintro en w' ⟨G,ROW,rfl,hG1,hG2,hR,hRt,rfl⟩
    have ha:(w.alloc (.cells ROW 183 (0,0))).heap[w.heap.size]? = some (.cells ROW 183 (0,0)):=by
     show (w.heap.push _)[w.heap.size]? = _
     simp
    have hrow1:=aY (k:=w.heap.size) (ai x).toList (p.length*3) (w.alloc (.cells ROW 183 (0,0))).drew ROW ha
    have hrow:=aY (k:=w.heap.size) ((cat ai (p++s)).toList.drop (p.length*3)) ((p.length+1)*3) (((w.alloc (.cells ROW 183 (0,0))).drew.setCells w.heap.size (p.length*3) (ai x).toList).drew) _ hrow1
    have q1:=aP w.heap.size (ai x).toList (p.length*3) (w.alloc (.cells ROW 183 (0,0))).drew
    have q2:=aP w.heap.size ((cat ai (p++s)).toList.drop (p.length*3)) ((p.length+1)*3) (((w.alloc (.cells ROW 183 (0,0))).drew.setCells w.heap.size (p.length*3) (ai x).toList).drew)
    refine ⟨_,rfl,⟨by rw [Array.length_toList,Go.SX.cat_size aS,List.length_append,List.length_cons];omega,.inr ⟨w.heap.size,G,_,rfl,Nat.zero_le _,hrow,hG1,by unfold maxLen;omega,by rw [aH,aH,hR],?_⟩⟩,⟨?_,?_,?_,?_,fun k hk hne=>?_⟩,fun b hb=>.inr ?_⟩
    ·rw [ego,Nat.add_mul,Nat.one_mul,Nat.add_mul,Nat.one_mul]
     exact (oz hxl hX (by omega) (by rw [hR];omega) hRt).2
    ·exact q2.1.trans q1.1
    ·exact q2.2.1.trans q1.2.1
    ·exact q2.2.2.1.trans q1.2.2.1
    ·rw [q2.2.2.2]
     show w.heap.size<=((w.alloc (.cells ROW 183 (0,0))).drew.setCells w.heap.size (p.length*3) (ai x).toList).heap.size
     rw [q1.2.2.2]
     show w.heap.size<=(w.heap.push _).size
     simp
    ·have hkg:k≠w.heap.size:=by omega
     rw [aI _ _ _ _ hkg]
     show ((w.alloc (.cells ROW 183 (0,0))).drew.setCells w.heap.size (p.length*3) (ai x).toList).heap[k]? = w.heap[k]?
     rw [aI _ _ _ _ hkg]
     show (w.alloc (.cells ROW 183 (0,0))).heap[k]? = w.heap[k]?
     exact Below.heap_alloc w _ k hk
    ·have:w.heap.size=b:=by simpa [Value.ownBlock] using hb
     omega
theorem vw {E:Env} (hE:E.P=Tryz.prog) {v:Value} {p s:List (Ky×Int)} {x:Ky×Int} {n:Nat} (hn:n=(p++x :: s).length) (hn2:n<=1000000000000) {i j:Int} (hi:i=p.length) (hj:j=((p.length+1:Nat):Int)):OwnC E 130 [SV.c v,SV.c (.int .i64 i),SV.c (.int .i64 j)] [(9501,Blk.own v 183 3 n (cat ai (p++x :: s)))] (fun r U=>IsL r (p++s).length/\U=[(9501,Blk.own r 183 3 (p++s).length (cat ai (p++s)))]):=by
 subst hi hj
 rw [List.length_append,List.length_cons] at hn
 refine xZ (A':=cat ai (p++s)) (by rw [hE];exact K7.enters) fun w hown=>?_
 rw [hE]
 have h1x:∀ u∈(cat ai (p++x :: s)).toList,u.oneCell'=true:=fun u hu=>by
  have:=Go.SX.cat_all (fun x=>(cv x).one) (p++x :: s)
  rw [Array.all_eq_true_iff_forall_mem] at this
  exact this u (by simpa using hu)
 have ep:(cat ai p).size=p.length*3:=Go.SX.cat_size aS p
 have ep':(cat ai p).toList.length=p.length*3:=by rw [Array.length_toList];exact ep
 have ex':(cat ai (p++[x])).toList.length=(p.length+1)*3:=by rw [Array.length_toList,Go.SX.cat_size aS,List.length_append];rfl
 have e1:(cat ai (p++x :: s)).toList=(cat ai p).toList++(cat ai (x :: s)).toList:=by rw [Go.SX.cat_append,Array.toList_append]
 have e2:(cat ai (p++x :: s)).toList=(cat ai (p++[x])).toList++(cat ai s).toList:=by
  rw [show p++x :: s=(p++[x])++s by simp,Go.SX.cat_append,Array.toList_append]
 have etk:(cat ai (p++x :: s)).toList.take (p.length*3)=(cat ai p).toList:=by rw [e1,List.take_append_of_le_length (by rw [ep'];exact Nat.le_refl _),List.take_of_length_le (by rw [ep'];exact Nat.le_refl _)]
 have edr:(cat ai (p++x :: s)).toList.drop ((p.length+1)*3)=(cat ai s).toList:=by rw [e2,List.drop_append_of_le_length (by rw [ex'];exact Nat.le_refl _),List.drop_of_length_le (by rw [ex'];exact Nat.le_refl _),List.nil_append]
 have ego:(cat ai (p++s)).toList=(cat ai (p++x :: s)).toList.take (p.length*3)++(cat ai (p++x :: s)).toList.drop ((p.length+1)*3):=by
  rw [etk,edr,Go.SX.cat_append,Array.toList_append]
 rcases hown.2 with ⟨rfl,h0⟩ | ⟨g,cap,cur,rfl,hb,hgc,hnc,hcm,hcs,htake⟩
 ·omega
 ·have hxl:(cat ai (p++x :: s)).toList.length=n*3:=by rw [Array.length_toList,Go.SX.cat_size aS,List.length_append,List.length_cons,hn]
  have en:p.length+(n - (p.length+1))=(p++s).length:=by rw [List.length_append];omega
  refine (IU w (i:=p.length) (jj:=p.length+1) (by omega) rfl hnc (by unfold maxLen at hcm;omega) hgc hcs hxl htake h1x hn2).mono ?_
  rintro en' w' ⟨rfl,rfl⟩
  rw [en]
  have q1:=aP g ((cat ai (p++x :: s)).toList.drop ((p.length+1)*3)) (p.length*3) w.drew
  have q2:=aP g (Builtin.zeroCells dI.zero 1).toList ((p++s).length*3) (w.drew.setCells g (p.length*3) ((cat ai (p++x :: s)).toList.drop ((p.length+1)*3)))
  have hrow:=aY (Builtin.zeroCells dI.zero 1).toList ((p++s).length*3) _ _ (aY ((cat ai (p++x :: s)).toList.drop ((p.length+1)*3)) (p.length*3) w.drew cur hgc)
  refine ⟨_,rfl,.inr ⟨g,cap,rfl⟩,⟨by rw [Array.length_toList,Go.SX.cat_size aS],.inr ⟨g,cap,_,rfl,hb,hrow,by rw [List.length_append];omega,hcm,by rw [aH,aH,hcs],?_⟩⟩,⟨?_,?_,?_,?_,fun k hk hne=>?_⟩,fun b hb=>.inl hb.symm⟩
  ·rw [ego]
   have:=yO (cur:=cur) (Z:=(Builtin.zeroCells dI.zero 1).toList) (a:=p.length*3) (b:=(p.length+1)*3) (s:=3) (t:=n*3) hxl (by omega) (by omega) (by rw [hcs];omega) htake
   rw [show p.length*3+(n*3 - (p.length+1)*3)=(p++s).length*3 by rw [<- en];omega,show n*3 - 3=(p++s).length*3 by rw [<- en];omega] at this
   exact this
  ·exact q2.1.trans q1.1
  ·exact q2.2.1.trans q1.2.1
  ·exact q2.2.2.1.trans q1.2.2.1
  ·rw [q2.2.2.2,q1.2.2.2];exact Nat.le_refl _
  ·have hkg:k≠g:=fun e=>hne (by rw [e];rfl)
   rw [aI _ _ _ _ hkg,aI _ _ _ _ hkg];rfl
end Go.Proofs.YtekfkdddadcalaaGreatDoor
