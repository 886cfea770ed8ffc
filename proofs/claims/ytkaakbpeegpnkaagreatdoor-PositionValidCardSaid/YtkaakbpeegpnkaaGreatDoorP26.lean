/- lists of the call that grow in their midst. slices.Insert and Delete at sums by texts. slices.Insert and Delete at sums by balances; no condition. -/
import Derived.Lib.AppendZerosOnto
import Derived.Lib.JoinLaws
import Derived.Lib.Overlaps
import Derived.Lib.SliceRun
import Derived.Shelf.RegionOpenPlain
import Derived.Test.YtkaakbpeegpnkaaGreatDoorP25
set_option maxRecDepth 100000
set_option maxHeartbeats 4000000
namespace Go.Proofs.YtkaakbpeegpnkaaGreatDoor
open Go Go.RowKit Go.SX
open Go.Proofs Go.Shelf Go.Lib
theorem wp_copy_runI {P:Program} (w:World) {o:Oper} {a:Act} {K:Act→World→Prop} {Q:Exit→Act→World→Prop} (d s:Operand) (t t':TypeId)
    (ho:o.op=.call { callee:=.builtin .copy,args:=#[d,s],argTypes:=#[t,t'] }) (v u:Value) (hd:a.eval d=v) (hs:a.eval s=u) {v':Value} {w':World}
    (hr:(Builtin.copy_ #[t,t'] o.type #[v,u]).run P w=.ok v' w') (h:K (a.put o.dst v') w'):o.wp P a w K Q:=by
 unfold Oper.wp execOp
 simp only [ho,resolve,invoke,builtin,Sem.run_bind,Sem.run_pure,Result.andThen_ok,List.map_toArray,List.map_cons,List.map_nil,hd,hs,hr]
 exact h
theorem wpList_copy_runI {P:Program} (w:World) {ops:Array Oper} {rest:List Oper} {o:Oper} {a:Act} {Q:Exit→Act→World→Prop} (hgd:o.guard=none) (d s:Operand) (t t':TypeId)
    (ho:o.op=.call { callee:=.builtin .copy,args:=#[d,s],argTypes:=#[t,t'] }) (v u:Value) (hd:a.eval d=v) (hs:a.eval s=u) {v':Value} {w':World}
    (hr:(Builtin.copy_ #[t,t'] o.type #[v,u]).run P w=.ok v' w') (h:wpList P ops Q rest (a.put o.dst v') w'):wpList P ops Q (o :: rest) a w :=
 wpList_plain hgd fun _ hK=>wp_copy_runI w d s t t' ho v u hd hs hr (hK _ _ h)
theorem step_copy_runI {P:Program} {ops:Array Oper} {o:Oper} {a:Act} {w:World} {K:Act→World→Prop} {Q:Exit→Act→World→Prop} {E:Prop}
    (hg:o.guard=none) (d x:Operand) (dT sT:TypeId) (hop:o.op=Op.call { callee:=Callee.builtin Builtin.copy,args:=#[d,x],argTypes:=#[dT,sT] })
    (v u:Value) (hd:a.eval d=v) (hx:a.eval x=u) {v':Value} {w':World} (hr:(Builtin.copy_ #[dT,sT] o.type #[v,u]).run P w=.ok v' w') (hK:K (a.put o.dst v') w') :
    if Region.wanted o (yielded ops a.tmps)=true then Oper.wp P o a w K Q else E:=by
 have hw:Region.wanted o (yielded ops a.tmps)=true:=by simp [Region.wanted,hg]
 rw [if_pos hw]
 unfold Oper.wp
 simp [execOp,hop,resolve,invoke,builtin,hd,hx,hr,Result.andThen]
 exact hK
theorem run_copy_rows {P:Program} (w:World) (dT sT ty elem:TypeId) (b o dLen dCap:Nat) (a:Addr) (sLen sCap sz:Nat) (cs:List Value)
    (hu:P.underlying dT=some (.slice elem)) (hs:(P.info? elem).map (·.size)=some sz) (hn:cs.length=Nat.min sLen dLen*sz)
    (hsrc:∀ j v,cs[j]? = some v→w.cell? (a.add j)=some v) (hc:∀ j,j < cs.length→(w.cell? ⟨b,o+j,none⟩).isSome=true) (hf:∀ j,j < cs.length→w.frozen? ⟨b,o+j,none⟩=false) (h1:∀ v∈cs,v.oneCell'=true) :
    (Builtin.copy_ #[dT,sT] ty #[.slice (some ⟨b,o,none⟩) dLen dCap,.slice (some a) sLen sCap]).run P w=.ok (goInt (Nat.min sLen dLen)) (w.setCells b o cs):=by
 have hl:=run_loadCells_list (P:=P) w a cs hsrc
 have hst:=run_storeCells_cells (P:=P) b o cs 0 w (by simpa using hc) (by simpa using hf) h1
 cases hq:P.info? elem with
 | none=>simp [hq] at hs
 | some i =>
  have hi:i.size=sz:=by simpa [hq] using hs
  simp [Builtin.copy_,run_underlying hu,Builtin.lenOf,Builtin.firstCells,sizeOf,typeInfo,hq,hi,← hn,hl,hst]
theorem isSome_setCells2 (b:Nat) (vs:List Value) (o:Nat) (w:World) (h:∀ j,j < vs.length→(w.cell? ⟨b,o+j,none⟩).isSome=true) (k:Nat) (hk:(w.cell? ⟨b,k,none⟩).isSome=true):((w.setCells b o vs).cell? ⟨b,k,none⟩).isSome=true:=by
 by_cases hin:o≤k∧k < o+vs.length
 ·have:=World.cell?_setCells_in b vs o w h (k - o) (by omega)
  rw [show o+(k - o)=k by omega] at this
  rw [this];rfl
 ·rw [World.cell?_setCells_out b vs o w ⟨b,k,none⟩ (fun _ _=>by show k < o∨o+vs.length≤k;omega)]
  exact hk
theorem shape_row {w:World} {k:Nat} {A:Array Value} {ty:TypeId} (h:w.heap[k]? = some (.cells A ty (0,0))):w.shape? k=some (ty,A.size):=by
 simp [World.shape?,h]
theorem run_clear_rows {P:Program} (w:World) (t e ty:TypeId) (j:TI) (ht:P.underlying t=some (.slice e)) (hj:TIok P e j) (hz:j.zero.all (·.oneCell')=true) (b o n c:Nat) (hn:0 < n)
    (hc:∀ k,k < n*j.size→(w.cell? ⟨b,o+k,none⟩).isSome=true) (hf:∀ k,k < n*j.size→w.frozen? ⟨b,o+k,none⟩=false) :
    (Builtin.clear_ #[t] ty #[.slice (some ⟨b,o,none⟩) n c]).run P w=.ok (.tuple #[]) (w.setCells b o (Builtin.zeroCells j.zero n).toList):=by
 have hzs:(Builtin.zeroCells j.zero n).size=n*j.size:=by rw [size_zeroCells,hj.zsize]
 have hzo:∀ v∈(Builtin.zeroCells j.zero n).toList,v.oneCell'=true:=by
  intro v hv
  simp only [Builtin.zeroCells,Array.toList_map,List.mem_map,Array.mem_toList_iff,Array.mem_range] at hv
  obtain ⟨i',hi',rfl⟩:=hv
  have hp:0 < j.zero.size:=by
   rcases Nat.eq_zero_or_pos j.zero.size with h0 | h0
   ·rw [h0] at hi';omega
   ·exact h0
  have hl:=Nat.mod_lt i' hp
  rw [getElem!_pos j.zero (i' % j.zero.size) hl]
  rw [Array.all_eq_true] at hz
  exact hz _ hl
 have hlen:(Builtin.zeroCells j.zero n).toList.length=n*j.size:=by rw [Array.length_toList,hzs]
 have hst:=run_storeCells_cells (P:=P) b o (Builtin.zeroCells j.zero n).toList 0 w (by rw [hlen];simpa using hc) (by rw [hlen];simpa using hf) hzo
 simp only [Nat.add_zero] at hst
 obtain ⟨z,hz1,hz2⟩:=Go.SX.run_zero hj w
 obtain ⟨m,rfl⟩:∃ m,n=m+1:=⟨n - 1,by omega⟩
 simp [Builtin.clear_,Sem.run_bind,run_underlying ht,hz1,hz2,hst]
theorem raw_ins {E:Env} {f:FuncId} {e tx:TypeId} {sz n m:Nat} {v:Value} {i:Int} {A X A':Array Value} (hent:Go.SX.Enters E.P f)
    (hraw:∀ (w:World) (vb:Nat),w.ownsRow 0 e sz v n A.toList→w.heap[vb]? = some (.cells X tx (0,0))→(∀ b,v.ownBlock=some b→vb≠b)→Calls E.P f #[v,.int .i64 i,.slice (some ⟨vb,0,none⟩) 1 1] w fun en w'=>∃ v',en=.returned v'∧w'.ownsRow 0 e sz v' (n+1) A'.toList∧w.grownBy w' v.ownBlock∧(∀ b,v'.ownBlock=some b→some b=v.ownBlock∨w.heap.size≤b)) :
    OwnC E f [SV.c v,SV.c (.int .i64 i),SV.sl 9503 0 1 1] [(9501,Blk.own v e sz n A),(9503,Blk.row tx m X)] (fun r U=>IsL r (n+1)∧U=[(9501,Blk.own r e sz (n+1) A'),(9503,Blk.row tx m X)]):=by
 refine ⟨hent,fun ρ w xs hw hx=>?_⟩
 have g1:getM [(9501,Blk.own v e sz n A),(9503,Blk.row tx m X)] 9501=some (Blk.own v e sz n A):=by simp [getM]
 have g2:getM [(9501,Blk.own v e sz n A),(9503,Blk.row tx m X)] 9503=some (Blk.row tx m X):=by simp [getM]
 have hown:w.ownsRow 0 e sz v n A.toList:=(hw.loose _ _ g1 rfl).2
 obtain ⟨vb,o,h1,h2,h3,h4,rfl⟩:=hw.blk _ _ g2 rfl
 have hne:∀ b,v.ownBlock=some b→vb≠b:=fun b hb e1=>(hw.sep _ _ b g1 hb).2.1 9503 (by rw [h1,e1])
 match xs,hx with
 | [a,b,c],hx =>
  obtain ⟨x1,x2,x3,-⟩:=hx
  cases (show a=v from x1)
  cases (show b=.int .i64 i from x2)
  obtain ⟨b',hb',rfl⟩:=x3
  rw [h1] at hb';cases hb'
  refine (hraw w vb hown h3 hne).mono ?_
  rintro en w' ⟨v',rfl,ho,hg,hf⟩
  obtain ⟨g,cap,hv'⟩:=ownsRow_shape ho (by omega)
  refine ⟨v',_,rfl,⟨.inr ⟨g,cap,hv'⟩,rfl⟩,?_,?_⟩
  ·refine (hw.set_loose (d:=9501) (no:=v.ownBlock) (B':=Blk.own v' e sz (n+1) A') (.inr ⟨_,g1,rfl,rfl⟩) hg.os hg.tape hg.output hg.size (fun k hk hne=>hg.block k hk hne) rfl ho hf).congr fun d=>?_
   simp only [updM,lk,getM]
   by_cases e1:9501=d
   ·simp [e1]
   ·simp [e1]
  ·refine ⟨hg.size,fun k hk hne=>hg.block k hk fun e1=>(hne (9501,Blk.own v e sz n A) (by simp)).2 e1.symm,fun d B b hB hb=>?_⟩
   simp only [getM] at hB
   split at hB
   ·cases hB
    rcases hf b hb with h5 | h5
    ·exact .inr ⟨(9501,Blk.own v e sz n A),by simp,h5.symm⟩
    ·exact .inl h5
   ·split at hB
    ·cases hB;cases hb
    ·cases hB
theorem raw_del {E:Env} {f:FuncId} {e:TypeId} {sz n n':Nat} {v:Value} {i j:Int} {A A':Array Value} (hent:Go.SX.Enters E.P f)
    (hraw:∀ (w:World),w.ownsRow 0 e sz v n A.toList→Calls E.P f #[v,.int .i64 i,.int .i64 j] w fun en w'=>∃ v',en=.returned v'∧IsL v' n'∧w'.ownsRow 0 e sz v' n' A'.toList∧w.grownBy w' v.ownBlock∧(∀ b,v'.ownBlock=some b→some b=v.ownBlock∨w.heap.size≤b)) :
    OwnC E f [SV.c v,SV.c (.int .i64 i),SV.c (.int .i64 j)] [(9501,Blk.own v e sz n A)] (fun r U=>IsL r n'∧U=[(9501,Blk.own r e sz n' A')]):=by
 refine ⟨hent,fun ρ w xs hw hx=>?_⟩
 have g1:getM [(9501,Blk.own v e sz n A)] 9501=some (Blk.own v e sz n A):=by simp [getM]
 have hown:w.ownsRow 0 e sz v n A.toList:=(hw.loose _ _ g1 rfl).2
 match xs,hx with
 | [a,b,c],hx =>
  obtain ⟨x1,x2,x3,-⟩:=hx
  cases (show a=v from x1)
  cases (show b=.int .i64 i from x2)
  cases (show c=.int .i64 j from x3)
  refine (hraw w hown).mono ?_
  rintro en w' ⟨v',rfl,hi,ho,hg,hf⟩
  refine ⟨v',_,rfl,⟨hi,rfl⟩,?_,?_⟩
  ·refine (hw.set_loose (d:=9501) (no:=v.ownBlock) (B':=Blk.own v' e sz n' A') (.inr ⟨_,g1,rfl,rfl⟩) hg.os hg.tape hg.output hg.size (fun k hk hne=>hg.block k hk hne) rfl ho hf).congr fun d=>?_
   simp only [updM,lk,getM]
   by_cases e1:9501=d
   ·simp [e1]
   ·simp [e1]
  ·refine ⟨hg.size,fun k hk hne=>hg.block k hk fun e1=>(hne (9501,Blk.own v e sz n A) (by simp)).2 e1.symm,fun d B b hB hb=>?_⟩
   simp only [getM] at hB
   split at hB
   ·cases hB
    rcases hf b hb with h5 | h5
    ·exact .inr ⟨(9501,Blk.own v e sz n A),by simp,h5.symm⟩
    ·exact .inl h5
   ·cases hB
theorem ins_row {cur:Array Value} {xs X:List Value} {a s t:Nat} (hx:xs.length=t) (hX:X.length=s) (ha:a≤t) (hc:t+s≤cur.size) (ht:cur.toList.take a=xs.take a):((splice (splice cur (a+s) (xs.drop a)) a X).toList.take (t+s)=xs.take a++X++xs.drop a)∧((splice (splice cur a X) (a+s) (xs.drop a)).toList.take (t+s)=xs.take a++X++xs.drop a):=by
 have hd:(xs.drop a).length=t - a:=by rw [List.length_drop,hx]
 have hta:(xs.take a).length=a:=by rw [List.length_take,hx];omega
 have hcur:∀ j,j < a→cur[j]? = (xs.take a)[j]?:=fun j hj=>by
  rw [← ht,List.getElem?_take_of_lt hj,Array.getElem?_toList]
 have key:∀ j,j < t+s→(xs.take a++X++xs.drop a)[j]? = if j < a then cur[j]? else if j < a+s then X[j - a]? else (xs.drop a)[j - (a+s)]?:=fun j hj=>by
  by_cases c1:j < a
  ·rw [if_pos c1,List.append_assoc,List.getElem?_append_left (by omega),hcur j c1]
  ·rw [if_neg c1]
   by_cases c2:j < a+s
   ·rw [if_pos c2,List.append_assoc,List.getElem?_append_right (by omega),List.getElem?_append_left (by omega),hta]
   ·rw [if_neg c2,List.getElem?_append_right (by rw [List.length_append];omega),List.length_append,hta,hX]
 have len:(xs.take a++X++xs.drop a).length=t+s:=by rw [List.length_append,List.length_append,hta,hX,hd];omega
 constructor
 ·apply List.ext_getElem?
  intro j
  by_cases hj:j < t+s
  ·rw [List.getElem?_take_of_lt hj,Array.getElem?_toList,key j hj,splice_get,splice_get,splice_size]
   by_cases c1:j < a
   ·rw [if_pos (.inl c1),if_pos (.inl (by omega)),if_pos c1]
   ·by_cases c2:j < a+s
    ·rw [if_neg (by omega),if_pos (by omega),if_neg c1,if_pos c2]
    ·rw [if_pos (by omega),if_neg (by omega),if_pos (by omega),if_neg c1,if_neg c2]
  ·rw [List.getElem?_take_eq_none (by omega),List.getElem?_eq_none (by omega)]
 ·apply List.ext_getElem?
  intro j
  by_cases hj:j < t+s
  ·rw [List.getElem?_take_of_lt hj,Array.getElem?_toList,key j hj,splice_get,splice_get,splice_size]
   by_cases c1:j < a
   ·rw [if_pos (.inl (by omega)),if_pos (.inl c1),if_pos c1]
   ·by_cases c2:j < a+s
    ·rw [if_pos (.inl (by omega)),if_neg (by omega),if_pos (by omega),if_neg c1,if_pos c2]
    ·rw [if_neg (by omega),if_pos (by omega),if_neg c1,if_neg c2]
  ·rw [List.getElem?_take_eq_none (by omega),List.getElem?_eq_none (by omega)]
theorem del_row {cur:Array Value} {xs Z:List Value} {a b s t:Nat} (hx:xs.length=t) (ha:a+s=b) (hb:b≤t) (hc:t≤cur.size) (ht:cur.toList.take t=xs):(splice (splice cur a (xs.drop b)) (a+(t - b)) Z).toList.take (t - s)=xs.take a++xs.drop b:=by
 have hd:(xs.drop b).length=t - b:=by rw [List.length_drop,hx]
 have hta:(xs.take a).length=a:=by rw [List.length_take,hx];omega
 have hcur:∀ j,j < t→cur[j]? = xs[j]?:=fun j hj=>by
  rw [← ht,List.getElem?_take_of_lt hj,Array.getElem?_toList]
 apply List.ext_getElem?
 intro j
 by_cases hj:j < t - s
 ·rw [List.getElem?_take_of_lt hj,Array.getElem?_toList,splice_get,if_pos (.inl (by omega)),splice_get]
  by_cases c1:j < a
  ·rw [if_pos (.inl c1),List.getElem?_append_left (by omega),List.getElem?_take_of_lt c1,hcur j (by omega)]
  ·rw [if_neg (by omega),if_pos (by omega),List.getElem?_append_right (by omega),hta]
 ·rw [List.getElem?_take_eq_none (by omega),List.getElem?_eq_none (by rw [List.length_append,hta,hd];omega)]
end Go.Proofs.YtkaakbpeegpnkaaGreatDoor
namespace Go.Proofs.YtkaakbpeegpnkaaGreatDoor
open Go Go.RowKit Go.SX
open Go.Proofs Go.Shelf Go.Lib
theorem info_sumS:∃ q z,Tryz.prog.info? 120=some q∧q.zero=some z∧q.size=2∧z.cells.size=2∧q.bytes=24:=by
 have h:(Tryz.prog.info? 120).map (fun q=>(q.size,q.bytes,q.zero.map fun z=>z.cells.size))=some (2,24,some 2):=by kernel_rfl
 cases hq:Tryz.prog.info? 120 with
 | none=>rw [hq] at h;cases h
 | some q =>
  rw [hq] at h
  simp only [Option.map_some,Option.some.injEq,Prod.mk.injEq] at h
  cases hz:q.zero with
  | none=>rw [hz] at h;simp at h
  | some z =>
   rw [hz] at h
   simp only [Option.map_some,Option.some.injEq] at h
   exact ⟨q,z,rfl,hz,h.1,h.2.2,h.2.1⟩
theorem insEnd_s {n:Nat} {v:Value} {xs:List Value} (w:World) (hown:w.ownsRow 0 120 2 v n xs) {vb:Nat} {X:List Value} (hX:X.length=2) (hvs:∀ j u,X[j]? = some u→w.cell? ⟨vb,j,none⟩=some u) (h1:∀ u∈X,u.oneCell'=true) (hn:n≤1000000000000) :
    Calls Tryz.prog 100 #[v,.int .i64 (n:Nat),.slice (some ⟨vb,0,none⟩) 1 1] w fun e w'=>∃ v',e=.returned v'∧w'.ownsRow 0 120 2 v' (n+1) (xs++X)∧w.grownBy w' v.ownBlock∧(∀ b,v'.ownBlock=some b→some b=v.ownBlock∨w.heap.size≤b):=by
 obtain ⟨q,z,hq,hz,hqs,hzs,hqb⟩:=info_sumS
 obtain ⟨v',w',hr,ho,hg,hf⟩:=run_pushes (P:=Tryz.prog) w 65 65 120 q z 2 Tryz.underlying65 hq hz hqs hzs (by decide) v n xs hown ⟨vb,0,none⟩ 1 1 X (by rw [hX]) (fun j u hj=>by rw [Addr.add_lit,Nat.zero_add];exact hvs j u hj) h1 (by unfold maxLen;omega) (by rw [hqb];omega)
 go_enter Tryz.func100,Tryz.ntmps100
 rcases hown.2 with ⟨rfl,rfl⟩ | ⟨g,cap,cur,rfl,hb,hgc,hnc,hcm,hcs,htake⟩
 ·clear hown
  go_wp2_with (at_builtin;refine Lib.wpList_append_run _ rfl _ _ _ _ rfl _ _ rfl rfl _ _ hr ?_)
  go_ret
  exact ⟨v',rfl,ho,hg,hf⟩
 ·clear hown
  go_wp2_with (at_builtin;refine Lib.wpList_append_run _ rfl _ _ _ _ rfl _ _ rfl rfl _ _ hr ?_)
  all_goals (go_ret;exact ⟨v',rfl,ho,hg,hf⟩)
theorem insMid_s {g n cap i:Nat} {xs:List Value} {cur:Array Value} (w:World) (hi:i < n) (hroom:n+1≤cap) (hc63:cap≤9223372036854775807) (hgc:w.heap[g]? = some (.cells cur 120 (0,0))) (hcs:cur.size=cap*2) (hxl:xs.length=n*2) (htake:cur.toList.take (n*2)=xs) {vb:Nat} {X:List Value} {tx:TypeId} (hX:X.length=2) (hvs:w.heap[vb]? = some (.cells X.toArray tx (0,0))) (hne:vb≠g) (h1:∀ u∈X,u.oneCell'=true) (h1x:∀ u∈xs,u.oneCell'=true) (hn:n≤1000000000000) :
    Calls Tryz.prog 100 #[.slice (some ⟨g,0,none⟩) n cap,.int .i64 (i:Nat),.slice (some ⟨vb,0,none⟩) 1 1] w fun e w' =>
     e=.returned (.slice (some ⟨g,0,none⟩) (n+1) cap)∧w'=(w.drew.setCells g ((i+1)*2) (xs.drop (i*2))).setCells g (i*2) X:=by
 have hov:∀ o lb cb,(callFunc 145 #[.slice (some ⟨vb,0,none⟩) 1 1,.slice (some ⟨g,o,none⟩) lb cb]).run Tryz.prog w=.ok (.value (.bool false)) w:=fun o lb cb=>by
  rw [run_callFunc_extern Tryz.func145 (by kernel_rfl) (by kernel_rfl) (by kernel_rfl) (e:=Extern.SlicesOverlaps.overlaps #[65,65] #[4]) (by kernel_rfl),
   Lib.run_overlaps_apart w 65 4 120 Tryz.underlying65 2 (fun w=>Go.SX.run_sizeOf tok120 w) ⟨vb,0,none⟩ ⟨g,o,none⟩ 1 1 lb cb hne tx 120 X.toArray.size cur.size (shape_row hvs) (shape_row hgc) (by omega) (row_frozen hvs _) (row_frozen hvs _)]
  rfl
 have hz2:¬ ((i:Int)=(n:Int)):=by omega
 have hw1:IntKind.i64.wrap ((i:Int)+1)=(i:Int)+1:=by rw [IntKind.wrap_i64];omega
 have hw2:IntKind.i64.wrap ((n:Int)+1)=(n:Int)+1:=by rw [IntKind.wrap_i64];omega
 have hb1:(0:Int)≤(i:Int)+1:=by omega
 have hin:i≤n:=by omega
 have htn:((i:Int)+1).toNat=i+1:=by omega
 have htn2:((n:Int)+1).toNat=n+1:=by omega
 have hb2:¬ (cap=i+1):=by omega
 have hb3:(i:Int)≤(n:Int)+1:=by omega
 have hb4:¬ (cap=i):=by omega
 have hb5:¬ ((cap:Int) < (n:Int)+1):=by omega
 have hdl:(xs.drop (i*2)).length=(n - i)*2:=by rw [List.length_drop,hxl];omega
 have hcell:∀ j u,xs[j]? = some u→w.cell? ⟨g,j,none⟩=some u:=fun j u hj=>by
  rw [row_cell hgc,← Array.getElem?_toList]
  rw [← htake,List.getElem?_take] at hj
  split at hj
  ·exact hj
  ·cases hj
 have hsome:∀ j,j < cap*2→(w.cell? ⟨g,j,none⟩).isSome=true:=fun j hj=>by
  rw [row_cell hgc,Array.getElem?_eq_getElem (by omega)];rfl
 have hfz:∀ j,w.frozen? ⟨g,j,none⟩=false:=fun j=>row_frozen hgc j
 obtain ⟨q,z,hq,hz,hqs,hzs,hqb⟩:=info_sumS
 have hsz:(Tryz.prog.info? 120).map (·.size)=some 2:=by rw [hq];simp [hqs]
 have hcp1:∀ ty dc sc,(Builtin.copy_ #[65,65] ty #[.slice (some ⟨g,(i+1)*2,none⟩) (n - i) dc,.slice (some ⟨g,i*2,none⟩) (n+1 - i) sc]).run Tryz.prog w.drew=.ok (goInt (Nat.min (n+1 - i) (n - i))) (w.drew.setCells g ((i+1)*2) (xs.drop (i*2))):=fun ty dc sc =>
  run_copy_rows w.drew _ _ ty 120 g ((i+1)*2) (n - i) dc ⟨g,i*2,none⟩ (n+1 - i) sc 2 (xs.drop (i*2)) Tryz.underlying65 hsz (by rw [hdl];simp only [Nat.min_def];split<;>omega)
   (fun j u hj=>by rw [Addr.add_lit];exact hcell (i*2+j) u (by rwa [List.getElem?_drop] at hj))
   (fun j hj=>hsome _ (by omega)) (fun j hj=>hfz _) (fun u hu=>h1x u (List.mem_of_mem_drop hu))
 obtain ⟨W1,hW1⟩:∃ W1,W1=w.drew.setCells g ((i+1)*2) (xs.drop (i*2)):=⟨_,rfl⟩
 have hvb:∀ j u,X[j]? = some u→w.cell? ⟨vb,j,none⟩=some u:=fun j u hj=>by rw [row_cell hvs];simpa using hj
 have hcp2:∀ (W:World),(∀ x,W.cell? x=W1.cell? x)→(∀ x,W.frozen? x=W1.frozen? x)→∀ ty dc,(Builtin.copy_ #[65,65] ty #[.slice (some ⟨g,i*2,none⟩) (n+1 - i) dc,.slice (some ⟨vb,0,none⟩) 1 1]).run Tryz.prog W=.ok (goInt (Nat.min 1 (n+1 - i))) (W.setCells g (i*2) X):=fun W hWc hWf ty dc =>
  run_copy_rows W _ _ ty 120 g (i*2) (n+1 - i) dc ⟨vb,0,none⟩ 1 1 2 X Tryz.underlying65 hsz (by rw [hX];simp only [Nat.min_def];split<;>omega)
   (fun j u hj=>by
    rw [Addr.add_lit,hWc,hW1,World.cell?_setCells_out g _ _ _ _ (fun h _=>absurd h hne),Nat.zero_add]
    exact hvb j u hj)
   (fun j hj=>by
    rw [hWc,hW1]
    exact isSome_setCells2 g (xs.drop (i*2)) ((i+1)*2) w.drew (fun t ht=>hsome _ (by rw [hdl] at ht;omega)) (i*2+j) (hsome _ (by rw [hX] at hj;omega)))
   (fun j hj=>by rw [hWf,hW1,World.frozen?_setCells];exact hfz _) h1
 rw [← hW1] at hcp1
 have mixed:=mixed
 go_enter Tryz.func100,Tryz.ntmps100
 go_wp2_with (simp only [hov])
 go_region_law_o (refine step_copy_runI rfl _ _ 65 65 rfl _ _ (by simp [Act.eval,Act.put]) (by simp [Act.eval,Act.put]) (hcp1 _ _ _) ?_)
 go_wp2_with (at_builtin;refine wpList_copy_runI _ rfl _ _ 65 65 rfl _ _ rfl rfl (hcp2 _ (fun _=>rfl) (fun _=>rfl) _ _) ?_)
 go_ret
 first | exact ⟨rfl,rfl⟩ | exact ⟨rfl,by rw [hW1]⟩
theorem insGrow_s {g n cap i:Nat} {xs:List Value} {cur:Array Value} (w:World) (hi:i < n) (hroom:cap < n+1) (hnc:n≤cap) (hgc:w.heap[g]? = some (.cells cur 120 (0,0))) (_hcs:cur.size=cap*2) (hxl:xs.length=n*2) (htake:cur.toList.take (n*2)=xs) {vb:Nat} {X:List Value} {tx:TypeId} (hX:X.length=2) (hvs:w.heap[vb]? = some (.cells X.toArray tx (0,0))) (h1:∀ u∈X,u.oneCell'=true) (h1x:∀ u∈xs,u.oneCell'=true) (hn:n≤1000000000000) :
    Calls Tryz.prog 100 #[.slice (some ⟨g,0,none⟩) n cap,.int .i64 (i:Nat),.slice (some ⟨vb,0,none⟩) 1 1] w fun e w'=>∃ G ROW,e=.returned (.slice (some ⟨w.heap.size,0,none⟩) (n+1) G)∧n+1≤G∧G≤9223372036854775807∧ROW.size=G*2∧ROW.toList.take (i*2)=xs.take (i*2)∧w'=(((w.alloc (.cells ROW 120 (0,0))).drew.setCells w.heap.size (i*2) X).drew).setCells w.heap.size ((i+1)*2) (xs.drop (i*2)):=by
 obtain ⟨q,z,hq,hz,hqs,hzs,hqb⟩:=info_sumS
 have hsz:(Tryz.prog.info? 120).map (·.size)=some 2:=by rw [hq];simp [hqs]
 have hz2:¬ ((i:Int)=(n:Int)):=by omega
 have hz3:(cap:Int) < (n:Int)+1:=by omega
 have hcell:∀ j u,xs[j]? = some u→w.cell? ⟨g,j,none⟩=some u:=fun j u hj=>by
  rw [row_cell hgc,← Array.getElem?_toList]
  rw [← htake,List.getElem?_take] at hj
  split at hj
  ·exact hj
  ·cases hj
 have hvb:∀ j u,X[j]? = some u→w.cell? ⟨vb,j,none⟩=some u:=fun j u hj=>by rw [row_cell hvs];simpa using hj
 have hbw:g < w.heap.size:=(Array.getElem?_eq_some_iff.1 hgc).1
 have hvw:vb < w.heap.size:=(Array.getElem?_eq_some_iff.1 hvs).1
 have hkk:(n:Int)+1 - (i:Int)=((n+1 - i:Nat):Int):=by omega
 have hik:i+(n+1 - i)=n+1:=by omega
 have hold:(Builtin.firstCells q.size i (.slice (some ⟨g,0,none⟩) i cap)).run Tryz.prog w.drew=.ok (xs.take (i*2)).toArray w.drew:=by
  rw [hqs]
  exact run_firstCells_some (w:=w.drew) 2 i ⟨g,0,none⟩ i cap (xs.take (i*2)) (by rw [List.length_take];omega) (fun j u hj=>by
   rw [Addr.add_lit,Nat.zero_add]
   rw [List.getElem?_take] at hj
   split at hj
   ·exact hcell j u hj
   ·cases hj)
 have hrz:∀ ty,(Builtin.append_ #[65,3] ty #[.slice (some ⟨g,0,none⟩) i cap,.int .i64 ((n:Int)+1 - (i:Int))]).run Tryz.prog w =
   .ok (.slice (some ⟨w.heap.size,0,none⟩) (n+1) (grownCap w (n+1) cap 120)) (w.drew.alloc (.cells ((xs.take (i*2)).toArray++Builtin.zeroCells z.cells (n+1 - i)++Builtin.zeroCells z.cells (grownCap w (n+1) cap 120 - (n+1))) 120)):=fun ty=>by
  have h:=Lib.run_append_grow_zeros w 65 3 ty 120 q z .i64 .i64 Tryz.underlying65 Tryz.underlying3 hq hz (some ⟨g,0,none⟩) i cap (xs.take (i*2)) hold (n+1 - i) (by omega) (by omega) (by omega) (by omega) (by rw [hqb];omega) (by rw [hqb,hik];exact growslice_fits hroom (by omega))
  rw [hik] at h
  rw [hkk]
  exact h
 obtain ⟨G,hG⟩:∃ G,G=grownCap w (n+1) cap 120:=⟨_,rfl⟩
 obtain ⟨ROW,hROW⟩:∃ ROW:Array Value,ROW=(xs.take (i*2)).toArray++Builtin.zeroCells z.cells (n+1 - i)++Builtin.zeroCells z.cells (G - (n+1)):=⟨_,rfl⟩
 rw [← hG] at hrz
 rw [← hROW] at hrz
 have hGn:n+1≤G:=by rw [hG];exact grownCap_ge w _ _ _
 have hG63:G≤9223372036854775807:=by
  have:=grownCap_le_maxLen w (n+1) cap 120 (by unfold maxLen;omega)
  rw [← hG] at this
  unfold maxLen at this
  omega
 have htl:(xs.take (i*2)).length=i*2:=by rw [List.length_take];omega
 have hRl:ROW.size=G*2:=by
  rw [hROW,Array.size_append,Array.size_append,size_zeroCells,size_zeroCells,hzs,List.size_toArray,htl]
  omega
 have hRt:ROW.toList.take (i*2)=xs.take (i*2):=by
  rw [hROW,Array.toList_append,Array.toList_append,List.append_assoc,List.take_append_of_le_length (by rw [List.toList_toArray,htl];exact Nat.le_refl _),List.toList_toArray,List.take_of_length_le (by omega)]
 obtain ⟨W1,hW1⟩:∃ W1,W1=w.drew.alloc (.cells ROW 120):=⟨_,rfl⟩
 rw [← hW1] at hrz
 have hN:∀ j,j < G*2→(W1.cell? ⟨w.heap.size,j,none⟩).isSome=true:=fun j hj=>by
  rw [hW1,World.cell?_alloc_at (w:=w.drew) ROW _ w.heap.size j rfl,Array.getElem?_eq_getElem (by omega)];rfl
 have hNf:∀ j,W1.frozen? ⟨w.heap.size,j,none⟩=false:=fun j=>by rw [hW1];exact World.frozen?_alloc_at (w:=w.drew) ROW _ w.heap.size j rfl
 have hOb:∀ j u,w.cell? ⟨g,j,none⟩=some u→W1.cell? ⟨g,j,none⟩=some u:=fun j u h=>by rw [hW1,World.cell?_alloc_past (w:=w.drew) _ g j hbw];exact h
 have hOv:∀ j u,w.cell? ⟨vb,j,none⟩=some u→W1.cell? ⟨vb,j,none⟩=some u:=fun j u h=>by rw [hW1,World.cell?_alloc_past (w:=w.drew) _ vb j hvw];exact h
 have hcpA:∀ (W:World),(∀ x,W.cell? x=W1.cell? x)→(∀ x,W.frozen? x=W1.frozen? x)→∀ ty dc,(Builtin.copy_ #[65,65] ty #[.slice (some ⟨w.heap.size,i*2,none⟩) (n+1 - i) dc,.slice (some ⟨vb,0,none⟩) 1 1]).run Tryz.prog W=.ok (goInt (Nat.min 1 (n+1 - i))) (W.setCells w.heap.size (i*2) X):=fun W hWc hWf ty dc =>
  run_copy_rows W _ _ ty 120 w.heap.size (i*2) (n+1 - i) dc ⟨vb,0,none⟩ 1 1 2 X Tryz.underlying65 hsz (by rw [hX];simp only [Nat.min_def];split<;>omega)
   (fun j u hj=>by rw [Addr.add_lit,hWc,Nat.zero_add];exact hOv _ u (hvb j u hj))
   (fun j hj=>by rw [hWc];exact hN _ (by omega)) (fun j hj=>by rw [hWf];exact hNf _) h1
 have hGi:¬ (G=i):=by omega
 have hGim:¬ (G=i+1):=by omega
 have hci:¬ (cap=i):=by omega
 have hbN:g≠w.heap.size:=by omega
 have hdl:(xs.drop (i*2)).length=(n - i)*2:=by rw [List.length_drop,hxl];omega
 have hcpB:∀ (W:World),(∀ x,W.cell? x=(W1.setCells w.heap.size (i*2) X).cell? x)→(∀ x,W.frozen? x=(W1.setCells w.heap.size (i*2) X).frozen? x)→∀ ty dc sc,(Builtin.copy_ #[65,65] ty #[.slice (some ⟨w.heap.size,(i+1)*2,none⟩) (n - i) dc,.slice (some ⟨g,i*2,none⟩) (n - i) sc]).run Tryz.prog W=.ok (goInt (Nat.min (n - i) (n - i))) (W.setCells w.heap.size ((i+1)*2) (xs.drop (i*2))):=fun W hWc hWf ty dc sc =>
  run_copy_rows W _ _ ty 120 w.heap.size ((i+1)*2) (n - i) dc ⟨g,i*2,none⟩ (n - i) sc 2 (xs.drop (i*2)) Tryz.underlying65 hsz (by rw [hdl];simp only [Nat.min_def];split<;>omega)
   (fun j u hj=>by
    rw [Addr.add_lit,hWc,World.cell?_setCells_out _ _ _ _ _ (fun h _=>absurd h hbN)]
    exact hOb _ u (hcell (i*2+j) u (by rwa [List.getElem?_drop] at hj)))
   (fun j hj=>by rw [hWc];exact isSome_setCells2 _ X (i*2) W1 (fun t ht=>hN _ (by omega)) _ (hN _ (by omega)))
   (fun j hj=>by rw [hWf,World.frozen?_setCells];exact hNf _) (fun u hu=>h1x u (List.mem_of_mem_drop hu))
 have hw1:IntKind.i64.wrap ((i:Int)+1)=(i:Int)+1:=by rw [IntKind.wrap_i64];omega
 have hb1:(0:Int)≤(i:Int)+1:=by omega
 have hin:i≤n:=by omega
 have htn:((i:Int)+1).toNat=i+1:=by omega
 have hb3:(i:Int)≤(n:Int):=by omega
 have mixed:=mixed
 subst hW1
 have hE1:∀ x,((w.alloc (.cells ROW 120)).drew).cell? x=(w.drew.alloc (.cells ROW 120)).cell? x:=fun x=>rfl
 have hE2:∀ x,((w.alloc (.cells ROW 120)).drew).frozen? x=(w.drew.alloc (.cells ROW 120)).frozen? x:=fun x=>rfl
 have hF1:∀ x,(((w.alloc (.cells ROW 120)).drew.setCells w.heap.size (i*2) X).drew).cell? x=((w.drew.alloc (.cells ROW 120)).setCells w.heap.size (i*2) X).cell? x:=fun x=>rfl
 have hF2:∀ x,(((w.alloc (.cells ROW 120)).drew.setCells w.heap.size (i*2) X).drew).frozen? x=((w.drew.alloc (.cells ROW 120)).setCells w.heap.size (i*2) X).frozen? x:=fun x=>rfl
 clear hkk hik hold hROW hG hz hzs hq hqs hqb htl
 go_enter Tryz.func100,Tryz.ntmps100
 go_wp2_with (first
  | (at_builtin;refine Lib.wpList_append_run _ rfl _ _ _ _ rfl _ _ rfl rfl _ _ (hrz _) ?_)
  | (at_builtin;refine wpList_copy_runI _ rfl _ _ 65 65 rfl _ _ rfl rfl (hcpA _ hE1 hE2 _ _) ?_)
  | (at_builtin;refine wpList_copy_runI _ rfl _ _ 65 65 rfl _ _ rfl rfl (hcpB _ (fun _=>rfl) (fun _=>rfl) _ _ _) ?_))
 go_region_law_o (refine step_copy_runI rfl _ _ 65 65 rfl (.slice (some ⟨w.heap.size,(i+1)*2,none⟩) (n - i) (G - (i+1))) (.slice (some ⟨g,i*2,none⟩) (n - i) (cap - i)) (by simp [Act.eval,Act.put]) (by simp [Act.eval,Act.put]) (hcpB _ hF1 hF2 3 (G - (i+1)) (cap - i)) ?_)
 go_wp2
 go_ret
 exact ⟨G,ROW,rfl,hGn,hG63,hRl,hRt,rfl⟩
theorem del_s {g n cap i jj:Nat} {xs:List Value} {cur:Array Value} (w:World) (hi:i < n) (hjj:jj=i+1) (hnc:n≤cap) (_hc63:cap≤9223372036854775807) (hgc:w.heap[g]? = some (.cells cur 120 (0,0))) (hcs:cur.size=cap*2) (hxl:xs.length=n*2) (htake:cur.toList.take (n*2)=xs) (h1x:∀ u∈xs,u.oneCell'=true) (hn:n≤1000000000000) :
    Calls Tryz.prog 101 #[.slice (some ⟨g,0,none⟩) n cap,.int .i64 (i:Nat),.int .i64 (jj:Nat)] w fun e w' =>
     e=.returned (.slice (some ⟨g,0,none⟩) (i+(n - jj)) cap)∧w'=(w.drew.setCells g (i*2) (xs.drop (jj*2))).setCells g ((i+(n - jj))*2) (Builtin.zeroCells ti120.zero 1).toList:=by
 obtain ⟨q,z,hq,hz,hqs,hzs,hqb⟩:=info_sumS
 have hcell:∀ j u,xs[j]? = some u→w.cell? ⟨g,j,none⟩=some u:=fun j u hj=>by
  rw [row_cell hgc,← Array.getElem?_toList]
  rw [← htake,List.getElem?_take] at hj
  split at hj
  ·exact hj
  ·cases hj
 have hsome:∀ j,j < cap*2→(w.cell? ⟨g,j,none⟩).isSome=true:=fun j hj=>by
  rw [row_cell hgc,Array.getElem?_eq_getElem (by omega)];rfl
 have hfz:∀ j,w.frozen? ⟨g,j,none⟩=false:=fun j=>row_frozen hgc j
 obtain ⟨news,hnews⟩:∃ news,news=xs.drop (jj*2):=⟨_,rfl⟩
 have hlen:news.length=(n - jj)*2:=by rw [hnews,List.length_drop,hxl];omega
 obtain ⟨A,hA,hsrc⟩:∃ A:Addr,(if cap=jj then some (⟨g,0,none⟩:Addr) else some ⟨g,jj*2,none⟩)=some A∧Hid (∀ t u,news[t]? = some u→w.drew.cell? (A.add t)=some u):=by
  by_cases h:cap=jj
  ·refine ⟨⟨g,0,none⟩,by simp [h],fun t u hu=>?_⟩
   have h0:news.length=0:=by rw [hlen];omega
   rw [List.length_eq_zero_iff.1 h0] at hu
   simp at hu
  ·refine ⟨⟨g,jj*2,none⟩,by simp [h],fun t u hu=>?_⟩
   rw [Addr.add_lit]
   rw [hnews,List.getElem?_drop] at hu
   exact hcell (jj*2+t) u hu
 have s1:Hid (news.length=(n - jj)*2):=hlen
 have s2:Hid (∀ u∈news,u.oneCell'=true):=fun u hu=>h1x u (by rw [hnews] at hu;exact List.mem_of_mem_drop hu)
 have s3:Hid (∀ t,t < news.length→(w.drew.cell? ⟨g,0+i*2+t,none⟩).isSome=true∧w.drew.frozen? ⟨g,0+i*2+t,none⟩=false):=fun t ht=>by
  rw [hlen] at ht
  exact ⟨hsome _ (by omega),hfz _⟩
 obtain ⟨W1,hW1⟩:∃ W1,W1=w.drew.setCells g (0+i*2) news:=⟨_,rfl⟩
 have hs1:∀ j,j < cap*2→(W1.cell? ⟨g,j,none⟩).isSome=true:=fun j hj=>by
  rw [hW1]
  exact isSome_setCells2 g news (0+i*2) w.drew (fun t ht=>hsome _ (by rw [hlen] at ht;omega)) j (hsome _ hj)
 have hf1:∀ j,W1.frozen? ⟨g,j,none⟩=false:=fun j=>by rw [hW1,World.frozen?_setCells];exact hfz j
 have hcl:∀ ty,(Builtin.clear_ #[65] ty #[.slice (some ⟨g,(i+(n - jj))*2,none⟩) (n - (i+(n - jj))) (cap - (i+(n - jj)))]).run Tryz.prog W1=.ok (.tuple #[]) (W1.setCells g ((i+(n - jj))*2) (Builtin.zeroCells ti120.zero 1).toList):=fun ty=>by
  rw [show n - (i+(n - jj))=1 by omega]
  exact run_clear_rows W1 _ _ ty ti120 Tryz.underlying65 tok120 (by kernel_rfl) g _ 1 _ (by omega) (fun t ht=>hs1 _ (by have:t < 1*2:=ht;omega)) (fun t ht=>hf1 _)
 have hW:Hid (W1=w.drew.setCells g (0+i*2) news):=hW1
 have hic:i≤cap:=by omega
 have hjc:jj≤cap:=by omega
 have hji:¬ ((i:Int)=(jj:Int)):=by omega
 have mixed:=mixed
 have heq:¬ i=jj:=by omega
 have hij:i≤jj:=by omega
 have hjn:jj≤n:=by omega
 have hX0:w.drew.setCells g (i*2) (xs.drop (jj*2))=W1:=by rw [hW1,hnews,Nat.zero_add]
 have X:Aside (w.drew.setCells g (i*2) (xs.drop (jj*2))=W1):=hX0
 have hk1:n - (i+(n - jj))=1:=by omega
 have hk:Hid (n - (i+(n - jj))=1):=hk1
 have hlej:i < jj:=by omega
 have hin2:i+(n - jj)≤n:=by omega
 have hin3:¬ (cap=i+(n - jj)):=by omega
 clear hW1 hs1 hf1 hcell hsome hfz hnews hX0 hk1 hjj
 go_enter Tryz.func101,Tryz.ntmps101
 go_wp2_with fail
 go_region_law_o (refine step_append_room rfl (.tmp 22) (.tmp 25) 65 rfl 120 q 2 Tryz.underlying65 hq hqs g 0 i cap (by simp [Act.eval,Act.put]) A (n - jj) (cap - jj) news (by simp [Act.eval,Act.put]) s1.out hsrc.out s2.out (by omega) s3.out ?_;rw [← hW.out])
 go_wp2
 go_ret
 exact ⟨rfl,by rw [X.out]⟩
theorem insert_s {E:Env} (hE:E.P=Tryz.prog) {v:Value} {p s:List (Bs×Int)} {n:Nat} (hn:n=(p++s).length) (hn2:n≤1000000000000) (x:Bs×Int) {i:Int} (hi:i=p.length) {m:Nat}:OwnC E 100 [SV.c v,SV.c (.int .i64 i),SV.sl 9503 0 1 1] [(9501,Blk.own v 120 2 n (cat sumA (p++s))),(9503,Blk.row 120 m (sumA x))] (fun r U=>IsL r (n+1)∧U=[(9501,Blk.own r 120 2 (n+1) (cat sumA (p++x :: s))),(9503,Blk.row 120 m (sumA x))]):=by
 subst hi
 rw [List.length_append] at hn
 refine raw_ins (A':=cat sumA (p++x :: s)) (by rw [hE];exact at100.enters) fun w vb hown hvb hne=>?_
 rw [hE]
 have hX:(sumA x).toList.length=2:=by rw [Array.length_toList,sumA_size]
 have h1:∀ u∈(sumA x).toList,u.oneCell'=true:=fun u hu=>by
  have:=(sumA_fits x).one
  rw [Array.all_eq_true_iff_forall_mem] at this
  exact this u (by simpa using hu)
 have h1x:∀ u∈(cat sumA (p++s)).toList,u.oneCell'=true:=fun u hu=>by
  have:=Go.SX.cat_all (fun x=>(sumA_fits x).one) (p++s)
  rw [Array.all_eq_true_iff_forall_mem] at this
  exact this u (by simpa using hu)
 have ep:(cat sumA p).size=p.length*2:=Go.SX.cat_size sumA_size p
 have ep':(cat sumA p).toList.length=p.length*2:=by rw [Array.length_toList];exact ep
 have e1:(cat sumA (p++s)).toList=(cat sumA p).toList++(cat sumA s).toList:=by rw [Go.SX.cat_append,Array.toList_append]
 have etk:(cat sumA (p++s)).toList.take (p.length*2)=(cat sumA p).toList:=by rw [e1,List.take_append_of_le_length (by rw [ep'];exact Nat.le_refl _),List.take_of_length_le (by rw [ep'];exact Nat.le_refl _)]
 have edr:(cat sumA (p++s)).toList.drop (p.length*2)=(cat sumA s).toList:=by rw [e1,List.drop_append_of_le_length (by rw [ep'];exact Nat.le_refl _),List.drop_of_length_le (by rw [ep'];exact Nat.le_refl _),List.nil_append]
 have ego:(cat sumA (p++x :: s)).toList=(cat sumA (p++s)).toList.take (p.length*2)++(sumA x).toList++(cat sumA (p++s)).toList.drop (p.length*2):=by
  rw [etk,edr,Go.SX.cat_append,show x :: s=[x]++s from rfl,Go.SX.cat_append,cat_one,Array.toList_append,Array.toList_append,List.append_assoc]
 have hvbc:w.heap[vb]? = some (.cells (sumA x).toList.toArray 120 (0,0)):=by rw [hvb]
 rcases hown.2 with ⟨rfl,h0⟩ | ⟨g,cap,cur,rfl,hb,hgc,hnc,hcm,hcs,htake⟩
 ·have hp:p=[]:=List.eq_nil_of_length_eq_zero (by omega)
  have hs:s=[]:=List.eq_nil_of_length_eq_zero (by omega)
  subst hp hs h0
  refine (insEnd_s w hown (vb:=vb) hX (fun j u hj=>by rw [row_cell hvb,← Array.getElem?_toList];exact hj) h1 hn2).mono ?_
  rintro en w' ⟨v',rfl,ho,hg,hf⟩
  refine ⟨v',rfl,?_,hg,hf⟩
  rw [Go.SX.cat_append,cat_one,Array.toList_append]
  exact ho
 ·have hxl:(cat sumA (p++s)).toList.length=n*2:=by rw [Array.length_toList,Go.SX.cat_size sumA_size,List.length_append,hn]
  by_cases hlast:p.length=n
  ·have hs:s=[]:=List.eq_nil_of_length_eq_zero (by omega)
   have:=insEnd_s w hown (vb:=vb) hX (fun j u hj=>by rw [row_cell hvb,← Array.getElem?_toList];exact hj) h1 hn2
   rw [← hlast] at this ⊢
   refine this.mono ?_
   rintro en w' ⟨v',rfl,ho,hg,hf⟩
   refine ⟨v',rfl,?_,hg,hf⟩
   subst hs
   rw [List.append_nil] at ho
   rw [Go.SX.cat_append,cat_one,Array.toList_append]
   exact ho
  ·have hip:p.length < n:=by omega
   have hgv:vb≠g:=hne g rfl
   by_cases hroom:n+1≤cap
   ·refine (insMid_s w hip hroom (by unfold maxLen at hcm;omega) hgc hcs hxl htake hX hvbc hgv h1 h1x hn2).mono ?_
    rintro en w' ⟨rfl,rfl⟩
    have q1:=setCells_rest g ((cat sumA (p++s)).toList.drop (p.length*2)) ((p.length+1)*2) w.drew
    have q2:=setCells_rest g (sumA x).toList (p.length*2) (w.drew.setCells g ((p.length+1)*2) ((cat sumA (p++s)).toList.drop (p.length*2)))
    have hrow:=setCells_row (sumA x).toList (p.length*2) _ _ (setCells_row ((cat sumA (p++s)).toList.drop (p.length*2)) ((p.length+1)*2) w.drew cur hgc)
    refine ⟨_,rfl,⟨by rw [Array.length_toList,Go.SX.cat_size sumA_size,List.length_append,List.length_cons];omega,.inr ⟨g,cap,_,rfl,hb,hrow,hroom,hcm,by rw [splice_size,splice_size,hcs],?_⟩⟩,⟨?_,?_,?_,?_,fun k hk hne=>?_⟩,fun b hb=>.inl hb.symm⟩
    ·rw [ego,Nat.add_mul,Nat.one_mul,Nat.add_mul,Nat.one_mul]
     exact (ins_row hxl hX (by omega) (by rw [hcs];omega) (by rw [← htake,List.take_take,Nat.min_eq_left (by omega)])).1
    ·exact q2.1.trans q1.1
    ·exact q2.2.1.trans q1.2.1
    ·exact q2.2.2.1.trans q1.2.2.1
    ·rw [q2.2.2.2,q1.2.2.2];exact Nat.le_refl _
    ·have hkg:k≠g:=fun e=>hne (by rw [e];rfl)
     rw [setCells_other _ _ _ _ hkg,setCells_other _ _ _ _ hkg];rfl
   ·refine (insGrow_s w hip (by omega) hnc hgc hcs hxl htake hX hvbc h1 h1x hn2).mono ?_
    rintro en w' ⟨G,ROW,rfl,hG1,hG2,hR,hRt,rfl⟩
    have ha:(w.alloc (.cells ROW 120 (0,0))).heap[w.heap.size]? = some (.cells ROW 120 (0,0)):=by
     show (w.heap.push _)[w.heap.size]? = _
     simp
    have hrow1:=setCells_row (k:=w.heap.size) (sumA x).toList (p.length*2) (w.alloc (.cells ROW 120 (0,0))).drew ROW ha
    have hrow:=setCells_row (k:=w.heap.size) ((cat sumA (p++s)).toList.drop (p.length*2)) ((p.length+1)*2) (((w.alloc (.cells ROW 120 (0,0))).drew.setCells w.heap.size (p.length*2) (sumA x).toList).drew) _ hrow1
    have q1:=setCells_rest w.heap.size (sumA x).toList (p.length*2) (w.alloc (.cells ROW 120 (0,0))).drew
    have q2:=setCells_rest w.heap.size ((cat sumA (p++s)).toList.drop (p.length*2)) ((p.length+1)*2) (((w.alloc (.cells ROW 120 (0,0))).drew.setCells w.heap.size (p.length*2) (sumA x).toList).drew)
    refine ⟨_,rfl,⟨by rw [Array.length_toList,Go.SX.cat_size sumA_size,List.length_append,List.length_cons];omega,.inr ⟨w.heap.size,G,_,rfl,Nat.zero_le _,hrow,hG1,by unfold maxLen;omega,by rw [splice_size,splice_size,hR],?_⟩⟩,⟨?_,?_,?_,?_,fun k hk hne=>?_⟩,fun b hb=>.inr ?_⟩
    ·rw [ego,Nat.add_mul,Nat.one_mul,Nat.add_mul,Nat.one_mul]
     exact (ins_row hxl hX (by omega) (by rw [hR];omega) hRt).2
    ·exact q2.1.trans q1.1
    ·exact q2.2.1.trans q1.2.1
    ·exact q2.2.2.1.trans q1.2.2.1
    ·rw [q2.2.2.2]
     show w.heap.size≤((w.alloc (.cells ROW 120 (0,0))).drew.setCells w.heap.size (p.length*2) (sumA x).toList).heap.size
     rw [q1.2.2.2]
     show w.heap.size≤(w.heap.push _).size
     simp
    ·have hkg:k≠w.heap.size:=by omega
     rw [setCells_other _ _ _ _ hkg]
     show ((w.alloc (.cells ROW 120 (0,0))).drew.setCells w.heap.size (p.length*2) (sumA x).toList).heap[k]? = w.heap[k]?
     rw [setCells_other _ _ _ _ hkg]
     show (w.alloc (.cells ROW 120 (0,0))).heap[k]? = w.heap[k]?
     exact Below.heap_alloc w _ k hk
    ·have:w.heap.size=b:=by simpa [Value.ownBlock] using hb
     omega
theorem delete_s {E:Env} (hE:E.P=Tryz.prog) {v:Value} {p s:List (Bs×Int)} {x:Bs×Int} {n:Nat} (hn:n=(p++x :: s).length) (hn2:n≤1000000000000) {i j:Int} (hi:i=p.length) (hj:j=((p.length+1:Nat):Int)):OwnC E 101 [SV.c v,SV.c (.int .i64 i),SV.c (.int .i64 j)] [(9501,Blk.own v 120 2 n (cat sumA (p++x :: s)))] (fun r U=>IsL r (p++s).length∧U=[(9501,Blk.own r 120 2 (p++s).length (cat sumA (p++s)))]):=by
 subst hi hj
 rw [List.length_append,List.length_cons] at hn
 refine raw_del (A':=cat sumA (p++s)) (by rw [hE];exact at101.enters) fun w hown=>?_
 rw [hE]
 have h1x:∀ u∈(cat sumA (p++x :: s)).toList,u.oneCell'=true:=fun u hu=>by
  have:=Go.SX.cat_all (fun x=>(sumA_fits x).one) (p++x :: s)
  rw [Array.all_eq_true_iff_forall_mem] at this
  exact this u (by simpa using hu)
 have ep:(cat sumA p).size=p.length*2:=Go.SX.cat_size sumA_size p
 have ep':(cat sumA p).toList.length=p.length*2:=by rw [Array.length_toList];exact ep
 have ex':(cat sumA (p++[x])).toList.length=(p.length+1)*2:=by rw [Array.length_toList,Go.SX.cat_size sumA_size,List.length_append];rfl
 have e1:(cat sumA (p++x :: s)).toList=(cat sumA p).toList++(cat sumA (x :: s)).toList:=by rw [Go.SX.cat_append,Array.toList_append]
 have e2:(cat sumA (p++x :: s)).toList=(cat sumA (p++[x])).toList++(cat sumA s).toList:=by
  rw [show p++x :: s=(p++[x])++s by simp,Go.SX.cat_append,Array.toList_append]
 have etk:(cat sumA (p++x :: s)).toList.take (p.length*2)=(cat sumA p).toList:=by rw [e1,List.take_append_of_le_length (by rw [ep'];exact Nat.le_refl _),List.take_of_length_le (by rw [ep'];exact Nat.le_refl _)]
 have edr:(cat sumA (p++x :: s)).toList.drop ((p.length+1)*2)=(cat sumA s).toList:=by rw [e2,List.drop_append_of_le_length (by rw [ex'];exact Nat.le_refl _),List.drop_of_length_le (by rw [ex'];exact Nat.le_refl _),List.nil_append]
 have ego:(cat sumA (p++s)).toList=(cat sumA (p++x :: s)).toList.take (p.length*2)++(cat sumA (p++x :: s)).toList.drop ((p.length+1)*2):=by
  rw [etk,edr,Go.SX.cat_append,Array.toList_append]
 rcases hown.2 with ⟨rfl,h0⟩ | ⟨g,cap,cur,rfl,hb,hgc,hnc,hcm,hcs,htake⟩
 ·omega
 ·have hxl:(cat sumA (p++x :: s)).toList.length=n*2:=by rw [Array.length_toList,Go.SX.cat_size sumA_size,List.length_append,List.length_cons,hn]
  have en:p.length+(n - (p.length+1))=(p++s).length:=by rw [List.length_append];omega
  refine (del_s w (i:=p.length) (jj:=p.length+1) (by omega) rfl hnc (by unfold maxLen at hcm;omega) hgc hcs hxl htake h1x hn2).mono ?_
  rintro en' w' ⟨rfl,rfl⟩
  rw [en]
  have q1:=setCells_rest g ((cat sumA (p++x :: s)).toList.drop ((p.length+1)*2)) (p.length*2) w.drew
  have q2:=setCells_rest g (Builtin.zeroCells ti120.zero 1).toList ((p++s).length*2) (w.drew.setCells g (p.length*2) ((cat sumA (p++x :: s)).toList.drop ((p.length+1)*2)))
  have hrow:=setCells_row (Builtin.zeroCells ti120.zero 1).toList ((p++s).length*2) _ _ (setCells_row ((cat sumA (p++x :: s)).toList.drop ((p.length+1)*2)) (p.length*2) w.drew cur hgc)
  refine ⟨_,rfl,.inr ⟨g,cap,rfl⟩,⟨by rw [Array.length_toList,Go.SX.cat_size sumA_size],.inr ⟨g,cap,_,rfl,hb,hrow,by rw [List.length_append];omega,hcm,by rw [splice_size,splice_size,hcs],?_⟩⟩,⟨?_,?_,?_,?_,fun k hk hne=>?_⟩,fun b hb=>.inl hb.symm⟩
  ·rw [ego]
   have:=del_row (cur:=cur) (Z:=(Builtin.zeroCells ti120.zero 1).toList) (a:=p.length*2) (b:=(p.length+1)*2) (s:=2) (t:=n*2) hxl (by omega) (by omega) (by rw [hcs];omega) htake
   rw [show p.length*2+(n*2 - (p.length+1)*2)=(p++s).length*2 by rw [← en];omega,show n*2 - 2=(p++s).length*2 by rw [← en];omega] at this
   exact this
  ·exact q2.1.trans q1.1
  ·exact q2.2.1.trans q1.2.1
  ·exact q2.2.2.1.trans q1.2.2.1
  ·rw [q2.2.2.2,q1.2.2.2];exact Nat.le_refl _
  ·have hkg:k≠g:=fun e=>hne (by rw [e];rfl)
   rw [setCells_other _ _ _ _ hkg,setCells_other _ _ _ _ hkg];rfl
end Go.Proofs.YtkaakbpeegpnkaaGreatDoor
namespace Go.Proofs.YtkaakbpeegpnkaaGreatDoor
open Go Go.RowKit Go.SX
open Go.Proofs Go.Shelf Go.Lib
theorem info_sumM:∃ q z,Tryz.prog.info? 163=some q∧q.zero=some z∧q.size=3∧z.cells.size=3∧q.bytes=32:=by
 have h:(Tryz.prog.info? 163).map (fun q=>(q.size,q.bytes,q.zero.map fun z=>z.cells.size))=some (3,32,some 3):=by kernel_rfl
 cases hq:Tryz.prog.info? 163 with
 | none=>rw [hq] at h;cases h
 | some q =>
  rw [hq] at h
  simp only [Option.map_some,Option.some.injEq,Prod.mk.injEq] at h
  cases hz:q.zero with
  | none=>rw [hz] at h;simp at h
  | some z =>
   rw [hz] at h
   simp only [Option.map_some,Option.some.injEq] at h
   exact ⟨q,z,rfl,hz,h.1,h.2.2,h.2.1⟩
theorem insEnd_m {n:Nat} {v:Value} {xs:List Value} (w:World) (hown:w.ownsRow 0 163 3 v n xs) {vb:Nat} {X:List Value} (hX:X.length=3) (hvs:∀ j u,X[j]? = some u→w.cell? ⟨vb,j,none⟩=some u) (h1:∀ u∈X,u.oneCell'=true) (hn:n≤1000000000000) :
    Calls Tryz.prog 103 #[v,.int .i64 (n:Nat),.slice (some ⟨vb,0,none⟩) 1 1] w fun e w'=>∃ v',e=.returned v'∧w'.ownsRow 0 163 3 v' (n+1) (xs++X)∧w.grownBy w' v.ownBlock∧(∀ b,v'.ownBlock=some b→some b=v.ownBlock∨w.heap.size≤b):=by
 obtain ⟨q,z,hq,hz,hqs,hzs,hqb⟩:=info_sumM
 obtain ⟨v',w',hr,ho,hg,hf⟩:=run_pushes (P:=Tryz.prog) w 69 69 163 q z 3 Tryz.underlying69 hq hz hqs hzs (by decide) v n xs hown ⟨vb,0,none⟩ 1 1 X (by rw [hX]) (fun j u hj=>by rw [Addr.add_lit,Nat.zero_add];exact hvs j u hj) h1 (by unfold maxLen;omega) (by rw [hqb];omega)
 go_enter Tryz.func103,Tryz.ntmps103
 rcases hown.2 with ⟨rfl,rfl⟩ | ⟨g,cap,cur,rfl,hb,hgc,hnc,hcm,hcs,htake⟩
 ·clear hown
  go_wp2_with (at_builtin;refine Lib.wpList_append_run _ rfl _ _ _ _ rfl _ _ rfl rfl _ _ hr ?_)
  go_ret
  exact ⟨v',rfl,ho,hg,hf⟩
 ·clear hown
  go_wp2_with (at_builtin;refine Lib.wpList_append_run _ rfl _ _ _ _ rfl _ _ rfl rfl _ _ hr ?_)
  all_goals (go_ret;exact ⟨v',rfl,ho,hg,hf⟩)
theorem insMid_m {g n cap i:Nat} {xs:List Value} {cur:Array Value} (w:World) (hi:i < n) (hroom:n+1≤cap) (hc63:cap≤9223372036854775807) (hgc:w.heap[g]? = some (.cells cur 163 (0,0))) (hcs:cur.size=cap*3) (hxl:xs.length=n*3) (htake:cur.toList.take (n*3)=xs) {vb:Nat} {X:List Value} {tx:TypeId} (hX:X.length=3) (hvs:w.heap[vb]? = some (.cells X.toArray tx (0,0))) (hne:vb≠g) (h1:∀ u∈X,u.oneCell'=true) (h1x:∀ u∈xs,u.oneCell'=true) (hn:n≤1000000000000) :
    Calls Tryz.prog 103 #[.slice (some ⟨g,0,none⟩) n cap,.int .i64 (i:Nat),.slice (some ⟨vb,0,none⟩) 1 1] w fun e w' =>
     e=.returned (.slice (some ⟨g,0,none⟩) (n+1) cap)∧w'=(w.drew.setCells g ((i+1)*3) (xs.drop (i*3))).setCells g (i*3) X:=by
 have hov:∀ o lb cb,(callFunc 149 #[.slice (some ⟨vb,0,none⟩) 1 1,.slice (some ⟨g,o,none⟩) lb cb]).run Tryz.prog w=.ok (.value (.bool false)) w:=fun o lb cb=>by
  rw [run_callFunc_extern Tryz.func149 (by kernel_rfl) (by kernel_rfl) (by kernel_rfl) (e:=Extern.SlicesOverlaps.overlaps #[69,69] #[4]) (by kernel_rfl),
   Lib.run_overlaps_apart w 69 4 163 Tryz.underlying69 3 (fun w=>Go.SX.run_sizeOf tok163 w) ⟨vb,0,none⟩ ⟨g,o,none⟩ 1 1 lb cb hne tx 163 X.toArray.size cur.size (shape_row hvs) (shape_row hgc) (by omega) (row_frozen hvs _) (row_frozen hvs _)]
  rfl
 have hz2:¬ ((i:Int)=(n:Int)):=by omega
 have hw1:IntKind.i64.wrap ((i:Int)+1)=(i:Int)+1:=by rw [IntKind.wrap_i64];omega
 have hw2:IntKind.i64.wrap ((n:Int)+1)=(n:Int)+1:=by rw [IntKind.wrap_i64];omega
 have hb1:(0:Int)≤(i:Int)+1:=by omega
 have hin:i≤n:=by omega
 have htn:((i:Int)+1).toNat=i+1:=by omega
 have htn2:((n:Int)+1).toNat=n+1:=by omega
 have hb2:¬ (cap=i+1):=by omega
 have hb3:(i:Int)≤(n:Int)+1:=by omega
 have hb4:¬ (cap=i):=by omega
 have hb5:¬ ((cap:Int) < (n:Int)+1):=by omega
 have hdl:(xs.drop (i*3)).length=(n - i)*3:=by rw [List.length_drop,hxl];omega
 have hcell:∀ j u,xs[j]? = some u→w.cell? ⟨g,j,none⟩=some u:=fun j u hj=>by
  rw [row_cell hgc,← Array.getElem?_toList]
  rw [← htake,List.getElem?_take] at hj
  split at hj
  ·exact hj
  ·cases hj
 have hsome:∀ j,j < cap*3→(w.cell? ⟨g,j,none⟩).isSome=true:=fun j hj=>by
  rw [row_cell hgc,Array.getElem?_eq_getElem (by omega)];rfl
 have hfz:∀ j,w.frozen? ⟨g,j,none⟩=false:=fun j=>row_frozen hgc j
 obtain ⟨q,z,hq,hz,hqs,hzs,hqb⟩:=info_sumM
 have hsz:(Tryz.prog.info? 163).map (·.size)=some 3:=by rw [hq];simp [hqs]
 have hcp1:∀ ty dc sc,(Builtin.copy_ #[69,69] ty #[.slice (some ⟨g,(i+1)*3,none⟩) (n - i) dc,.slice (some ⟨g,i*3,none⟩) (n+1 - i) sc]).run Tryz.prog w.drew=.ok (goInt (Nat.min (n+1 - i) (n - i))) (w.drew.setCells g ((i+1)*3) (xs.drop (i*3))):=fun ty dc sc =>
  run_copy_rows w.drew _ _ ty 163 g ((i+1)*3) (n - i) dc ⟨g,i*3,none⟩ (n+1 - i) sc 3 (xs.drop (i*3)) Tryz.underlying69 hsz (by rw [hdl];simp only [Nat.min_def];split<;>omega)
   (fun j u hj=>by rw [Addr.add_lit];exact hcell (i*3+j) u (by rwa [List.getElem?_drop] at hj))
   (fun j hj=>hsome _ (by omega)) (fun j hj=>hfz _) (fun u hu=>h1x u (List.mem_of_mem_drop hu))
 obtain ⟨W1,hW1⟩:∃ W1,W1=w.drew.setCells g ((i+1)*3) (xs.drop (i*3)):=⟨_,rfl⟩
 have hvb:∀ j u,X[j]? = some u→w.cell? ⟨vb,j,none⟩=some u:=fun j u hj=>by rw [row_cell hvs];simpa using hj
 have hcp2:∀ (W:World),(∀ x,W.cell? x=W1.cell? x)→(∀ x,W.frozen? x=W1.frozen? x)→∀ ty dc,(Builtin.copy_ #[69,69] ty #[.slice (some ⟨g,i*3,none⟩) (n+1 - i) dc,.slice (some ⟨vb,0,none⟩) 1 1]).run Tryz.prog W=.ok (goInt (Nat.min 1 (n+1 - i))) (W.setCells g (i*3) X):=fun W hWc hWf ty dc =>
  run_copy_rows W _ _ ty 163 g (i*3) (n+1 - i) dc ⟨vb,0,none⟩ 1 1 3 X Tryz.underlying69 hsz (by rw [hX];simp only [Nat.min_def];split<;>omega)
   (fun j u hj=>by
    rw [Addr.add_lit,hWc,hW1,World.cell?_setCells_out g _ _ _ _ (fun h _=>absurd h hne),Nat.zero_add]
    exact hvb j u hj)
   (fun j hj=>by
    rw [hWc,hW1]
    exact isSome_setCells2 g (xs.drop (i*3)) ((i+1)*3) w.drew (fun t ht=>hsome _ (by rw [hdl] at ht;omega)) (i*3+j) (hsome _ (by rw [hX] at hj;omega)))
   (fun j hj=>by rw [hWf,hW1,World.frozen?_setCells];exact hfz _) h1
 rw [← hW1] at hcp1
 have mixed:=mixed
 go_enter Tryz.func103,Tryz.ntmps103
 go_wp2_with (simp only [hov])
 go_region_law_o (refine step_copy_runI rfl _ _ 69 69 rfl _ _ (by simp [Act.eval,Act.put]) (by simp [Act.eval,Act.put]) (hcp1 _ _ _) ?_)
 go_wp2_with (at_builtin;refine wpList_copy_runI _ rfl _ _ 69 69 rfl _ _ rfl rfl (hcp2 _ (fun _=>rfl) (fun _=>rfl) _ _) ?_)
 go_ret
 first | exact ⟨rfl,rfl⟩ | exact ⟨rfl,by rw [hW1]⟩
theorem insGrow_m {g n cap i:Nat} {xs:List Value} {cur:Array Value} (w:World) (hi:i < n) (hroom:cap < n+1) (hnc:n≤cap) (hgc:w.heap[g]? = some (.cells cur 163 (0,0))) (_hcs:cur.size=cap*3) (hxl:xs.length=n*3) (htake:cur.toList.take (n*3)=xs) {vb:Nat} {X:List Value} {tx:TypeId} (hX:X.length=3) (hvs:w.heap[vb]? = some (.cells X.toArray tx (0,0))) (h1:∀ u∈X,u.oneCell'=true) (h1x:∀ u∈xs,u.oneCell'=true) (hn:n≤1000000000000) :
    Calls Tryz.prog 103 #[.slice (some ⟨g,0,none⟩) n cap,.int .i64 (i:Nat),.slice (some ⟨vb,0,none⟩) 1 1] w fun e w'=>∃ G ROW,e=.returned (.slice (some ⟨w.heap.size,0,none⟩) (n+1) G)∧n+1≤G∧G≤9223372036854775807∧ROW.size=G*3∧ROW.toList.take (i*3)=xs.take (i*3)∧w'=(((w.alloc (.cells ROW 163 (0,0))).drew.setCells w.heap.size (i*3) X).drew).setCells w.heap.size ((i+1)*3) (xs.drop (i*3)):=by
 obtain ⟨q,z,hq,hz,hqs,hzs,hqb⟩:=info_sumM
 have hsz:(Tryz.prog.info? 163).map (·.size)=some 3:=by rw [hq];simp [hqs]
 have hz2:¬ ((i:Int)=(n:Int)):=by omega
 have hz3:(cap:Int) < (n:Int)+1:=by omega
 have hcell:∀ j u,xs[j]? = some u→w.cell? ⟨g,j,none⟩=some u:=fun j u hj=>by
  rw [row_cell hgc,← Array.getElem?_toList]
  rw [← htake,List.getElem?_take] at hj
  split at hj
  ·exact hj
  ·cases hj
 have hvb:∀ j u,X[j]? = some u→w.cell? ⟨vb,j,none⟩=some u:=fun j u hj=>by rw [row_cell hvs];simpa using hj
 have hbw:g < w.heap.size:=(Array.getElem?_eq_some_iff.1 hgc).1
 have hvw:vb < w.heap.size:=(Array.getElem?_eq_some_iff.1 hvs).1
 have hkk:(n:Int)+1 - (i:Int)=((n+1 - i:Nat):Int):=by omega
 have hik:i+(n+1 - i)=n+1:=by omega
 have hold:(Builtin.firstCells q.size i (.slice (some ⟨g,0,none⟩) i cap)).run Tryz.prog w.drew=.ok (xs.take (i*3)).toArray w.drew:=by
  rw [hqs]
  exact run_firstCells_some (w:=w.drew) 3 i ⟨g,0,none⟩ i cap (xs.take (i*3)) (by rw [List.length_take];omega) (fun j u hj=>by
   rw [Addr.add_lit,Nat.zero_add]
   rw [List.getElem?_take] at hj
   split at hj
   ·exact hcell j u hj
   ·cases hj)
 have hrz:∀ ty,(Builtin.append_ #[69,3] ty #[.slice (some ⟨g,0,none⟩) i cap,.int .i64 ((n:Int)+1 - (i:Int))]).run Tryz.prog w =
   .ok (.slice (some ⟨w.heap.size,0,none⟩) (n+1) (grownCap w (n+1) cap 163)) (w.drew.alloc (.cells ((xs.take (i*3)).toArray++Builtin.zeroCells z.cells (n+1 - i)++Builtin.zeroCells z.cells (grownCap w (n+1) cap 163 - (n+1))) 163)):=fun ty=>by
  have h:=Lib.run_append_grow_zeros w 69 3 ty 163 q z .i64 .i64 Tryz.underlying69 Tryz.underlying3 hq hz (some ⟨g,0,none⟩) i cap (xs.take (i*3)) hold (n+1 - i) (by omega) (by omega) (by omega) (by omega) (by rw [hqb];omega) (by rw [hqb,hik];exact growslice_fits hroom (by omega))
  rw [hik] at h
  rw [hkk]
  exact h
 obtain ⟨G,hG⟩:∃ G,G=grownCap w (n+1) cap 163:=⟨_,rfl⟩
 obtain ⟨ROW,hROW⟩:∃ ROW:Array Value,ROW=(xs.take (i*3)).toArray++Builtin.zeroCells z.cells (n+1 - i)++Builtin.zeroCells z.cells (G - (n+1)):=⟨_,rfl⟩
 rw [← hG] at hrz
 rw [← hROW] at hrz
 have hGn:n+1≤G:=by rw [hG];exact grownCap_ge w _ _ _
 have hG63:G≤9223372036854775807:=by
  have:=grownCap_le_maxLen w (n+1) cap 163 (by unfold maxLen;omega)
  rw [← hG] at this
  unfold maxLen at this
  omega
 have htl:(xs.take (i*3)).length=i*3:=by rw [List.length_take];omega
 have hRl:ROW.size=G*3:=by
  rw [hROW,Array.size_append,Array.size_append,size_zeroCells,size_zeroCells,hzs,List.size_toArray,htl]
  omega
 have hRt:ROW.toList.take (i*3)=xs.take (i*3):=by
  rw [hROW,Array.toList_append,Array.toList_append,List.append_assoc,List.take_append_of_le_length (by rw [List.toList_toArray,htl];exact Nat.le_refl _),List.toList_toArray,List.take_of_length_le (by omega)]
 obtain ⟨W1,hW1⟩:∃ W1,W1=w.drew.alloc (.cells ROW 163):=⟨_,rfl⟩
 rw [← hW1] at hrz
 have hN:∀ j,j < G*3→(W1.cell? ⟨w.heap.size,j,none⟩).isSome=true:=fun j hj=>by
  rw [hW1,World.cell?_alloc_at (w:=w.drew) ROW _ w.heap.size j rfl,Array.getElem?_eq_getElem (by omega)];rfl
 have hNf:∀ j,W1.frozen? ⟨w.heap.size,j,none⟩=false:=fun j=>by rw [hW1];exact World.frozen?_alloc_at (w:=w.drew) ROW _ w.heap.size j rfl
 have hOb:∀ j u,w.cell? ⟨g,j,none⟩=some u→W1.cell? ⟨g,j,none⟩=some u:=fun j u h=>by rw [hW1,World.cell?_alloc_past (w:=w.drew) _ g j hbw];exact h
 have hOv:∀ j u,w.cell? ⟨vb,j,none⟩=some u→W1.cell? ⟨vb,j,none⟩=some u:=fun j u h=>by rw [hW1,World.cell?_alloc_past (w:=w.drew) _ vb j hvw];exact h
 have hcpA:∀ (W:World),(∀ x,W.cell? x=W1.cell? x)→(∀ x,W.frozen? x=W1.frozen? x)→∀ ty dc,(Builtin.copy_ #[69,69] ty #[.slice (some ⟨w.heap.size,i*3,none⟩) (n+1 - i) dc,.slice (some ⟨vb,0,none⟩) 1 1]).run Tryz.prog W=.ok (goInt (Nat.min 1 (n+1 - i))) (W.setCells w.heap.size (i*3) X):=fun W hWc hWf ty dc =>
  run_copy_rows W _ _ ty 163 w.heap.size (i*3) (n+1 - i) dc ⟨vb,0,none⟩ 1 1 3 X Tryz.underlying69 hsz (by rw [hX];simp only [Nat.min_def];split<;>omega)
   (fun j u hj=>by rw [Addr.add_lit,hWc,Nat.zero_add];exact hOv _ u (hvb j u hj))
   (fun j hj=>by rw [hWc];exact hN _ (by omega)) (fun j hj=>by rw [hWf];exact hNf _) h1
 have hGi:¬ (G=i):=by omega
 have hGim:¬ (G=i+1):=by omega
 have hci:¬ (cap=i):=by omega
 have hbN:g≠w.heap.size:=by omega
 have hdl:(xs.drop (i*3)).length=(n - i)*3:=by rw [List.length_drop,hxl];omega
 have hcpB:∀ (W:World),(∀ x,W.cell? x=(W1.setCells w.heap.size (i*3) X).cell? x)→(∀ x,W.frozen? x=(W1.setCells w.heap.size (i*3) X).frozen? x)→∀ ty dc sc,(Builtin.copy_ #[69,69] ty #[.slice (some ⟨w.heap.size,(i+1)*3,none⟩) (n - i) dc,.slice (some ⟨g,i*3,none⟩) (n - i) sc]).run Tryz.prog W=.ok (goInt (Nat.min (n - i) (n - i))) (W.setCells w.heap.size ((i+1)*3) (xs.drop (i*3))):=fun W hWc hWf ty dc sc =>
  run_copy_rows W _ _ ty 163 w.heap.size ((i+1)*3) (n - i) dc ⟨g,i*3,none⟩ (n - i) sc 3 (xs.drop (i*3)) Tryz.underlying69 hsz (by rw [hdl];simp only [Nat.min_def];split<;>omega)
   (fun j u hj=>by
    rw [Addr.add_lit,hWc,World.cell?_setCells_out _ _ _ _ _ (fun h _=>absurd h hbN)]
    exact hOb _ u (hcell (i*3+j) u (by rwa [List.getElem?_drop] at hj)))
   (fun j hj=>by rw [hWc];exact isSome_setCells2 _ X (i*3) W1 (fun t ht=>hN _ (by omega)) _ (hN _ (by omega)))
   (fun j hj=>by rw [hWf,World.frozen?_setCells];exact hNf _) (fun u hu=>h1x u (List.mem_of_mem_drop hu))
 have hw1:IntKind.i64.wrap ((i:Int)+1)=(i:Int)+1:=by rw [IntKind.wrap_i64];omega
 have hb1:(0:Int)≤(i:Int)+1:=by omega
 have hin:i≤n:=by omega
 have htn:((i:Int)+1).toNat=i+1:=by omega
 have hb3:(i:Int)≤(n:Int):=by omega
 have mixed:=mixed
 subst hW1
 have hE1:∀ x,((w.alloc (.cells ROW 163)).drew).cell? x=(w.drew.alloc (.cells ROW 163)).cell? x:=fun x=>rfl
 have hE2:∀ x,((w.alloc (.cells ROW 163)).drew).frozen? x=(w.drew.alloc (.cells ROW 163)).frozen? x:=fun x=>rfl
 have hF1:∀ x,(((w.alloc (.cells ROW 163)).drew.setCells w.heap.size (i*3) X).drew).cell? x=((w.drew.alloc (.cells ROW 163)).setCells w.heap.size (i*3) X).cell? x:=fun x=>rfl
 have hF2:∀ x,(((w.alloc (.cells ROW 163)).drew.setCells w.heap.size (i*3) X).drew).frozen? x=((w.drew.alloc (.cells ROW 163)).setCells w.heap.size (i*3) X).frozen? x:=fun x=>rfl
 clear hkk hik hold hROW hG hz hzs hq hqs hqb htl
 go_enter Tryz.func103,Tryz.ntmps103
 go_wp2_with (first
  | (at_builtin;refine Lib.wpList_append_run _ rfl _ _ _ _ rfl _ _ rfl rfl _ _ (hrz _) ?_)
  | (at_builtin;refine wpList_copy_runI _ rfl _ _ 69 69 rfl _ _ rfl rfl (hcpA _ hE1 hE2 _ _) ?_)
  | (at_builtin;refine wpList_copy_runI _ rfl _ _ 69 69 rfl _ _ rfl rfl (hcpB _ (fun _=>rfl) (fun _=>rfl) _ _ _) ?_))
 go_region_law_o (refine step_copy_runI rfl _ _ 69 69 rfl (.slice (some ⟨w.heap.size,(i+1)*3,none⟩) (n - i) (G - (i+1))) (.slice (some ⟨g,i*3,none⟩) (n - i) (cap - i)) (by simp [Act.eval,Act.put]) (by simp [Act.eval,Act.put]) (hcpB _ hF1 hF2 3 (G - (i+1)) (cap - i)) ?_)
 go_wp2
 go_ret
 exact ⟨G,ROW,rfl,hGn,hG63,hRl,hRt,rfl⟩
theorem del_m {g n cap i jj:Nat} {xs:List Value} {cur:Array Value} (w:World) (hi:i < n) (hjj:jj=i+1) (hnc:n≤cap) (_hc63:cap≤9223372036854775807) (hgc:w.heap[g]? = some (.cells cur 163 (0,0))) (hcs:cur.size=cap*3) (hxl:xs.length=n*3) (htake:cur.toList.take (n*3)=xs) (h1x:∀ u∈xs,u.oneCell'=true) (hn:n≤1000000000000) :
    Calls Tryz.prog 104 #[.slice (some ⟨g,0,none⟩) n cap,.int .i64 (i:Nat),.int .i64 (jj:Nat)] w fun e w' =>
     e=.returned (.slice (some ⟨g,0,none⟩) (i+(n - jj)) cap)∧w'=(w.drew.setCells g (i*3) (xs.drop (jj*3))).setCells g ((i+(n - jj))*3) (Builtin.zeroCells ti163.zero 1).toList:=by
 obtain ⟨q,z,hq,hz,hqs,hzs,hqb⟩:=info_sumM
 have hcell:∀ j u,xs[j]? = some u→w.cell? ⟨g,j,none⟩=some u:=fun j u hj=>by
  rw [row_cell hgc,← Array.getElem?_toList]
  rw [← htake,List.getElem?_take] at hj
  split at hj
  ·exact hj
  ·cases hj
 have hsome:∀ j,j < cap*3→(w.cell? ⟨g,j,none⟩).isSome=true:=fun j hj=>by
  rw [row_cell hgc,Array.getElem?_eq_getElem (by omega)];rfl
 have hfz:∀ j,w.frozen? ⟨g,j,none⟩=false:=fun j=>row_frozen hgc j
 obtain ⟨news,hnews⟩:∃ news,news=xs.drop (jj*3):=⟨_,rfl⟩
 have hlen:news.length=(n - jj)*3:=by rw [hnews,List.length_drop,hxl];omega
 obtain ⟨A,hA,hsrc⟩:∃ A:Addr,(if cap=jj then some (⟨g,0,none⟩:Addr) else some ⟨g,jj*3,none⟩)=some A∧Hid (∀ t u,news[t]? = some u→w.drew.cell? (A.add t)=some u):=by
  by_cases h:cap=jj
  ·refine ⟨⟨g,0,none⟩,by simp [h],fun t u hu=>?_⟩
   have h0:news.length=0:=by rw [hlen];omega
   rw [List.length_eq_zero_iff.1 h0] at hu
   simp at hu
  ·refine ⟨⟨g,jj*3,none⟩,by simp [h],fun t u hu=>?_⟩
   rw [Addr.add_lit]
   rw [hnews,List.getElem?_drop] at hu
   exact hcell (jj*3+t) u hu
 have s1:Hid (news.length=(n - jj)*3):=hlen
 have s2:Hid (∀ u∈news,u.oneCell'=true):=fun u hu=>h1x u (by rw [hnews] at hu;exact List.mem_of_mem_drop hu)
 have s3:Hid (∀ t,t < news.length→(w.drew.cell? ⟨g,0+i*3+t,none⟩).isSome=true∧w.drew.frozen? ⟨g,0+i*3+t,none⟩=false):=fun t ht=>by
  rw [hlen] at ht
  exact ⟨hsome _ (by omega),hfz _⟩
 obtain ⟨W1,hW1⟩:∃ W1,W1=w.drew.setCells g (0+i*3) news:=⟨_,rfl⟩
 have hs1:∀ j,j < cap*3→(W1.cell? ⟨g,j,none⟩).isSome=true:=fun j hj=>by
  rw [hW1]
  exact isSome_setCells2 g news (0+i*3) w.drew (fun t ht=>hsome _ (by rw [hlen] at ht;omega)) j (hsome _ hj)
 have hf1:∀ j,W1.frozen? ⟨g,j,none⟩=false:=fun j=>by rw [hW1,World.frozen?_setCells];exact hfz j
 have hcl:∀ ty,(Builtin.clear_ #[69] ty #[.slice (some ⟨g,(i+(n - jj))*3,none⟩) (n - (i+(n - jj))) (cap - (i+(n - jj)))]).run Tryz.prog W1=.ok (.tuple #[]) (W1.setCells g ((i+(n - jj))*3) (Builtin.zeroCells ti163.zero 1).toList):=fun ty=>by
  rw [show n - (i+(n - jj))=1 by omega]
  exact run_clear_rows W1 _ _ ty ti163 Tryz.underlying69 tok163 (by kernel_rfl) g _ 1 _ (by omega) (fun t ht=>hs1 _ (by have:t < 1*3:=ht;omega)) (fun t ht=>hf1 _)
 have hW:Hid (W1=w.drew.setCells g (0+i*3) news):=hW1
 have hic:i≤cap:=by omega
 have hjc:jj≤cap:=by omega
 have hji:¬ ((i:Int)=(jj:Int)):=by omega
 have mixed:=mixed
 have heq:¬ i=jj:=by omega
 have hij:i≤jj:=by omega
 have hjn:jj≤n:=by omega
 have hX0:w.drew.setCells g (i*3) (xs.drop (jj*3))=W1:=by rw [hW1,hnews,Nat.zero_add]
 have X:Aside (w.drew.setCells g (i*3) (xs.drop (jj*3))=W1):=hX0
 have hk1:n - (i+(n - jj))=1:=by omega
 have hk:Hid (n - (i+(n - jj))=1):=hk1
 have hlej:i < jj:=by omega
 have hin2:i+(n - jj)≤n:=by omega
 have hin3:¬ (cap=i+(n - jj)):=by omega
 clear hW1 hs1 hf1 hcell hsome hfz hnews hX0 hk1 hjj
 go_enter Tryz.func104,Tryz.ntmps104
 go_wp2_with fail
 go_region_law_o (refine step_append_room rfl (.tmp 22) (.tmp 25) 69 rfl 163 q 3 Tryz.underlying69 hq hqs g 0 i cap (by simp [Act.eval,Act.put]) A (n - jj) (cap - jj) news (by simp [Act.eval,Act.put]) s1.out hsrc.out s2.out (by omega) s3.out ?_;rw [← hW.out])
 go_wp2
 go_ret
 exact ⟨rfl,by rw [X.out]⟩
theorem insert_m {E:Env} (hE:E.P=Tryz.prog) {v:Value} {p s:List (Ky×Int)} {n:Nat} (hn:n=(p++s).length) (hn2:n≤1000000000000) (x:Ky×Int) {i:Int} (hi:i=p.length) {m:Nat}:OwnC E 103 [SV.c v,SV.c (.int .i64 i),SV.sl 9503 0 1 1] [(9501,Blk.own v 163 3 n (cat sumK (p++s))),(9503,Blk.row 163 m (sumK x))] (fun r U=>IsL r (n+1)∧U=[(9501,Blk.own r 163 3 (n+1) (cat sumK (p++x :: s))),(9503,Blk.row 163 m (sumK x))]):=by
 subst hi
 rw [List.length_append] at hn
 refine raw_ins (A':=cat sumK (p++x :: s)) (by rw [hE];exact at103.enters) fun w vb hown hvb hne=>?_
 rw [hE]
 have hX:(sumK x).toList.length=3:=by rw [Array.length_toList,sumK_size]
 have h1:∀ u∈(sumK x).toList,u.oneCell'=true:=fun u hu=>by
  have:=(sumK_fits x).one
  rw [Array.all_eq_true_iff_forall_mem] at this
  exact this u (by simpa using hu)
 have h1x:∀ u∈(cat sumK (p++s)).toList,u.oneCell'=true:=fun u hu=>by
  have:=Go.SX.cat_all (fun x=>(sumK_fits x).one) (p++s)
  rw [Array.all_eq_true_iff_forall_mem] at this
  exact this u (by simpa using hu)
 have ep:(cat sumK p).size=p.length*3:=Go.SX.cat_size sumK_size p
 have ep':(cat sumK p).toList.length=p.length*3:=by rw [Array.length_toList];exact ep
 have e1:(cat sumK (p++s)).toList=(cat sumK p).toList++(cat sumK s).toList:=by rw [Go.SX.cat_append,Array.toList_append]
 have etk:(cat sumK (p++s)).toList.take (p.length*3)=(cat sumK p).toList:=by rw [e1,List.take_append_of_le_length (by rw [ep'];exact Nat.le_refl _),List.take_of_length_le (by rw [ep'];exact Nat.le_refl _)]
 have edr:(cat sumK (p++s)).toList.drop (p.length*3)=(cat sumK s).toList:=by rw [e1,List.drop_append_of_le_length (by rw [ep'];exact Nat.le_refl _),List.drop_of_length_le (by rw [ep'];exact Nat.le_refl _),List.nil_append]
 have ego:(cat sumK (p++x :: s)).toList=(cat sumK (p++s)).toList.take (p.length*3)++(sumK x).toList++(cat sumK (p++s)).toList.drop (p.length*3):=by
  rw [etk,edr,Go.SX.cat_append,show x :: s=[x]++s from rfl,Go.SX.cat_append,cat_one,Array.toList_append,Array.toList_append,List.append_assoc]
 have hvbc:w.heap[vb]? = some (.cells (sumK x).toList.toArray 163 (0,0)):=by rw [hvb]
 rcases hown.2 with ⟨rfl,h0⟩ | ⟨g,cap,cur,rfl,hb,hgc,hnc,hcm,hcs,htake⟩
 ·have hp:p=[]:=List.eq_nil_of_length_eq_zero (by omega)
  have hs:s=[]:=List.eq_nil_of_length_eq_zero (by omega)
  subst hp hs h0
  refine (insEnd_m w hown (vb:=vb) hX (fun j u hj=>by rw [row_cell hvb,← Array.getElem?_toList];exact hj) h1 hn2).mono ?_
  rintro en w' ⟨v',rfl,ho,hg,hf⟩
  refine ⟨v',rfl,?_,hg,hf⟩
  rw [Go.SX.cat_append,cat_one,Array.toList_append]
  exact ho
 ·have hxl:(cat sumK (p++s)).toList.length=n*3:=by rw [Array.length_toList,Go.SX.cat_size sumK_size,List.length_append,hn]
  by_cases hlast:p.length=n
  ·have hs:s=[]:=List.eq_nil_of_length_eq_zero (by omega)
   have:=insEnd_m w hown (vb:=vb) hX (fun j u hj=>by rw [row_cell hvb,← Array.getElem?_toList];exact hj) h1 hn2
   rw [← hlast] at this ⊢
   refine this.mono ?_
   rintro en w' ⟨v',rfl,ho,hg,hf⟩
   refine ⟨v',rfl,?_,hg,hf⟩
   subst hs
   rw [List.append_nil] at ho
   rw [Go.SX.cat_append,cat_one,Array.toList_append]
   exact ho
  ·have hip:p.length < n:=by omega
   have hgv:vb≠g:=hne g rfl
   by_cases hroom:n+1≤cap
   ·refine (insMid_m w hip hroom (by unfold maxLen at hcm;omega) hgc hcs hxl htake hX hvbc hgv h1 h1x hn2).mono ?_
    rintro en w' ⟨rfl,rfl⟩
    have q1:=setCells_rest g ((cat sumK (p++s)).toList.drop (p.length*3)) ((p.length+1)*3) w.drew
    have q2:=setCells_rest g (sumK x).toList (p.length*3) (w.drew.setCells g ((p.length+1)*3) ((cat sumK (p++s)).toList.drop (p.length*3)))
    have hrow:=setCells_row (sumK x).toList (p.length*3) _ _ (setCells_row ((cat sumK (p++s)).toList.drop (p.length*3)) ((p.length+1)*3) w.drew cur hgc)
    refine ⟨_,rfl,⟨by rw [Array.length_toList,Go.SX.cat_size sumK_size,List.length_append,List.length_cons];omega,.inr ⟨g,cap,_,rfl,hb,hrow,hroom,hcm,by rw [splice_size,splice_size,hcs],?_⟩⟩,⟨?_,?_,?_,?_,fun k hk hne=>?_⟩,fun b hb=>.inl hb.symm⟩
    ·rw [ego,Nat.add_mul,Nat.one_mul,Nat.add_mul,Nat.one_mul]
     exact (ins_row hxl hX (by omega) (by rw [hcs];omega) (by rw [← htake,List.take_take,Nat.min_eq_left (by omega)])).1
    ·exact q2.1.trans q1.1
    ·exact q2.2.1.trans q1.2.1
    ·exact q2.2.2.1.trans q1.2.2.1
    ·rw [q2.2.2.2,q1.2.2.2];exact Nat.le_refl _
    ·have hkg:k≠g:=fun e=>hne (by rw [e];rfl)
     rw [setCells_other _ _ _ _ hkg,setCells_other _ _ _ _ hkg];rfl
   ·refine (insGrow_m w hip (by omega) hnc hgc hcs hxl htake hX hvbc h1 h1x hn2).mono ?_
    rintro en w' ⟨G,ROW,rfl,hG1,hG2,hR,hRt,rfl⟩
    have ha:(w.alloc (.cells ROW 163 (0,0))).heap[w.heap.size]? = some (.cells ROW 163 (0,0)):=by
     show (w.heap.push _)[w.heap.size]? = _
     simp
    have hrow1:=setCells_row (k:=w.heap.size) (sumK x).toList (p.length*3) (w.alloc (.cells ROW 163 (0,0))).drew ROW ha
    have hrow:=setCells_row (k:=w.heap.size) ((cat sumK (p++s)).toList.drop (p.length*3)) ((p.length+1)*3) (((w.alloc (.cells ROW 163 (0,0))).drew.setCells w.heap.size (p.length*3) (sumK x).toList).drew) _ hrow1
    have q1:=setCells_rest w.heap.size (sumK x).toList (p.length*3) (w.alloc (.cells ROW 163 (0,0))).drew
    have q2:=setCells_rest w.heap.size ((cat sumK (p++s)).toList.drop (p.length*3)) ((p.length+1)*3) (((w.alloc (.cells ROW 163 (0,0))).drew.setCells w.heap.size (p.length*3) (sumK x).toList).drew)
    refine ⟨_,rfl,⟨by rw [Array.length_toList,Go.SX.cat_size sumK_size,List.length_append,List.length_cons];omega,.inr ⟨w.heap.size,G,_,rfl,Nat.zero_le _,hrow,hG1,by unfold maxLen;omega,by rw [splice_size,splice_size,hR],?_⟩⟩,⟨?_,?_,?_,?_,fun k hk hne=>?_⟩,fun b hb=>.inr ?_⟩
    ·rw [ego,Nat.add_mul,Nat.one_mul,Nat.add_mul,Nat.one_mul]
     exact (ins_row hxl hX (by omega) (by rw [hR];omega) hRt).2
    ·exact q2.1.trans q1.1
    ·exact q2.2.1.trans q1.2.1
    ·exact q2.2.2.1.trans q1.2.2.1
    ·rw [q2.2.2.2]
     show w.heap.size≤((w.alloc (.cells ROW 163 (0,0))).drew.setCells w.heap.size (p.length*3) (sumK x).toList).heap.size
     rw [q1.2.2.2]
     show w.heap.size≤(w.heap.push _).size
     simp
    ·have hkg:k≠w.heap.size:=by omega
     rw [setCells_other _ _ _ _ hkg]
     show ((w.alloc (.cells ROW 163 (0,0))).drew.setCells w.heap.size (p.length*3) (sumK x).toList).heap[k]? = w.heap[k]?
     rw [setCells_other _ _ _ _ hkg]
     show (w.alloc (.cells ROW 163 (0,0))).heap[k]? = w.heap[k]?
     exact Below.heap_alloc w _ k hk
    ·have:w.heap.size=b:=by simpa [Value.ownBlock] using hb
     omega
theorem delete_m {E:Env} (hE:E.P=Tryz.prog) {v:Value} {p s:List (Ky×Int)} {x:Ky×Int} {n:Nat} (hn:n=(p++x :: s).length) (hn2:n≤1000000000000) {i j:Int} (hi:i=p.length) (hj:j=((p.length+1:Nat):Int)):OwnC E 104 [SV.c v,SV.c (.int .i64 i),SV.c (.int .i64 j)] [(9501,Blk.own v 163 3 n (cat sumK (p++x :: s)))] (fun r U=>IsL r (p++s).length∧U=[(9501,Blk.own r 163 3 (p++s).length (cat sumK (p++s)))]):=by
 subst hi hj
 rw [List.length_append,List.length_cons] at hn
 refine raw_del (A':=cat sumK (p++s)) (by rw [hE];exact at104.enters) fun w hown=>?_
 rw [hE]
 have h1x:∀ u∈(cat sumK (p++x :: s)).toList,u.oneCell'=true:=fun u hu=>by
  have:=Go.SX.cat_all (fun x=>(sumK_fits x).one) (p++x :: s)
  rw [Array.all_eq_true_iff_forall_mem] at this
  exact this u (by simpa using hu)
 have ep:(cat sumK p).size=p.length*3:=Go.SX.cat_size sumK_size p
 have ep':(cat sumK p).toList.length=p.length*3:=by rw [Array.length_toList];exact ep
 have ex':(cat sumK (p++[x])).toList.length=(p.length+1)*3:=by rw [Array.length_toList,Go.SX.cat_size sumK_size,List.length_append];rfl
 have e1:(cat sumK (p++x :: s)).toList=(cat sumK p).toList++(cat sumK (x :: s)).toList:=by rw [Go.SX.cat_append,Array.toList_append]
 have e2:(cat sumK (p++x :: s)).toList=(cat sumK (p++[x])).toList++(cat sumK s).toList:=by
  rw [show p++x :: s=(p++[x])++s by simp,Go.SX.cat_append,Array.toList_append]
 have etk:(cat sumK (p++x :: s)).toList.take (p.length*3)=(cat sumK p).toList:=by rw [e1,List.take_append_of_le_length (by rw [ep'];exact Nat.le_refl _),List.take_of_length_le (by rw [ep'];exact Nat.le_refl _)]
 have edr:(cat sumK (p++x :: s)).toList.drop ((p.length+1)*3)=(cat sumK s).toList:=by rw [e2,List.drop_append_of_le_length (by rw [ex'];exact Nat.le_refl _),List.drop_of_length_le (by rw [ex'];exact Nat.le_refl _),List.nil_append]
 have ego:(cat sumK (p++s)).toList=(cat sumK (p++x :: s)).toList.take (p.length*3)++(cat sumK (p++x :: s)).toList.drop ((p.length+1)*3):=by
  rw [etk,edr,Go.SX.cat_append,Array.toList_append]
 rcases hown.2 with ⟨rfl,h0⟩ | ⟨g,cap,cur,rfl,hb,hgc,hnc,hcm,hcs,htake⟩
 ·omega
 ·have hxl:(cat sumK (p++x :: s)).toList.length=n*3:=by rw [Array.length_toList,Go.SX.cat_size sumK_size,List.length_append,List.length_cons,hn]
  have en:p.length+(n - (p.length+1))=(p++s).length:=by rw [List.length_append];omega
  refine (del_m w (i:=p.length) (jj:=p.length+1) (by omega) rfl hnc (by unfold maxLen at hcm;omega) hgc hcs hxl htake h1x hn2).mono ?_
  rintro en' w' ⟨rfl,rfl⟩
  rw [en]
  have q1:=setCells_rest g ((cat sumK (p++x :: s)).toList.drop ((p.length+1)*3)) (p.length*3) w.drew
  have q2:=setCells_rest g (Builtin.zeroCells ti163.zero 1).toList ((p++s).length*3) (w.drew.setCells g (p.length*3) ((cat sumK (p++x :: s)).toList.drop ((p.length+1)*3)))
  have hrow:=setCells_row (Builtin.zeroCells ti163.zero 1).toList ((p++s).length*3) _ _ (setCells_row ((cat sumK (p++x :: s)).toList.drop ((p.length+1)*3)) (p.length*3) w.drew cur hgc)
  refine ⟨_,rfl,.inr ⟨g,cap,rfl⟩,⟨by rw [Array.length_toList,Go.SX.cat_size sumK_size],.inr ⟨g,cap,_,rfl,hb,hrow,by rw [List.length_append];omega,hcm,by rw [splice_size,splice_size,hcs],?_⟩⟩,⟨?_,?_,?_,?_,fun k hk hne=>?_⟩,fun b hb=>.inl hb.symm⟩
  ·rw [ego]
   have:=del_row (cur:=cur) (Z:=(Builtin.zeroCells ti163.zero 1).toList) (a:=p.length*3) (b:=(p.length+1)*3) (s:=3) (t:=n*3) hxl (by omega) (by omega) (by rw [hcs];omega) htake
   rw [show p.length*3+(n*3 - (p.length+1)*3)=(p++s).length*3 by rw [← en];omega,show n*3 - 3=(p++s).length*3 by rw [← en];omega] at this
   exact this
  ·exact q2.1.trans q1.1
  ·exact q2.2.1.trans q1.2.1
  ·exact q2.2.2.1.trans q1.2.2.1
  ·rw [q2.2.2.2,q1.2.2.2];exact Nat.le_refl _
  ·have hkg:k≠g:=fun e=>hne (by rw [e];rfl)
   rw [setCells_other _ _ _ _ hkg,setCells_other _ _ _ _ hkg];rfl
end Go.Proofs.YtkaakbpeegpnkaaGreatDoor
