/- An abstract walk: maps of the call's own. Cells of lists. In; no condition. -/
import Derived.Maps.RangeWalk
import Derived.Test.YtklehfchdoikeaaGreatDoorP6
set_option maxRecDepth 100000
set_option maxHeartbeats 4000000
namespace Go.SX
open Go Go.RowKit
open Go.ChangeMaps Go.MapKept
open Go.WideElems (Fit rd rg pl)
open Go.Maps (Keyed)
def MapD (P:Program) (k e:TypeId) (D:DataW Unit) (n:Nat) (o:Obj):Prop :=
 ∃ es clock,o=.map es clock/\Fit P k (plainElem (H:=Unit) P e) es clock/\es.size<=n/\D=.map ((es.toList.map (rg P k (plainElem (H:=Unit) P e))).foldr DataW.insert [])
theorem MapD.owns {P:Program} {k e:TypeId} {D:DataW Unit} {n:Nat} {o:Obj} {w:World} {b:Nat} (hb:w.heap[b]? = some o) (h:MapD P k e D n o):w.ownsMap P k (plainElem (H:=Unit) P e) b n D:=by
 obtain ⟨es,clock,rfl,h⟩:=h
 exact ⟨es,clock,hb,h⟩
theorem MapD.of {P:Program} {k e:TypeId} {D:DataW Unit} {n:Nat} {w:World} {b:Nat} (h:w.ownsMap P k (plainElem (H:=Unit) P e) b n D):∃ o,w.heap[b]? = some o/\MapD P k e D n o:=by
 obtain ⟨es,clock,hb,h⟩:=h
 exact ⟨_,hb,es,clock,rfl,h⟩
section
variable {E:VE} {o:Oper} {f:bB} {m:aA} {T:List Key->Prop} {K:VK}
theorem fT {ρ:Rho} {m':Mem} {w:World} (h2:Wd E.toEnv ρ m' w) {d:Key} {b:Nat} {R:Obj->Prop} (hm:m' d=some (Blk.res b R)):∃ o,w.heap[b]? = some o/\R o:=(h2.loose d _ hm rfl).2
theorem lz {ρ:Rho} {m':Mem} {w w':World} (h2:Wd E.toEnv ρ m' w) {d:Key} {b:Nat} {R R':Obj->Prop} (hm:m' d=some (Blk.res b R)) (hg:w.grownBy w' (some b)) (hR:∃ o,w'.heap[b]? = some o/\R' o):Wd E.toEnv ρ (aS m' [(d,Blk.res b R')]) w' :=
 h2.set_loose (no:=some b) (.inr ⟨_,hm,rfl,rfl⟩) hg.os hg.tape hg.output hg.size (fun k hk hne=>hg.block k hk hne) rfl hR (fun _b' hb'=>.inl hb'.symm)
theorem wg {ρ:Rho} {m':Mem} {w:World} (h2:Wd E.toEnv ρ m' w) {d:Key} (hm:m' d=none) (ob:Obj) {R:Obj->Prop} (hR:R ob):Wd E.toEnv ρ (aS m' [(d,Blk.res w.heap.size R)]) (w.alloc ob) :=
 h2.set_loose (no:=none) (.inl ⟨hm,rfl⟩) rfl rfl rfl (by show _<=(w.heap.push ob).size;rw [Array.size_push];omega) (fun k hk _=>Below.heap_alloc w ob k hk) rfl ⟨ob,Go.heap_alloc_new w ob,hR⟩ (fun b hb=>.inr (by
  have hb:w.heap.size=b:=by simpa [Blk.num] using hb
  omega))
theorem GY {t:TypeId} (ho:o.op=.makeMap t none) {P:Program} (hP:E.P=P) (k e:TypeId) (d:Key) (hm:aw m d=none) (hT:T [d]) (h:∀ b,K (SV.c (.map (some b))) [d] [(d,Blk.res b (MapD P k e (.map []) 0))]):br E o f m T K:=by
 subst hP
 refine .inr ⟨[d],fun s U=>∃ b,s=SV.c (.map (some b))/\U=[(d,Blk.res b (MapD E.P k e (.map []) 0))],?_,?_,hT,?_⟩
 ·intro f' m' hf hmm ρ a w h1 h2 K' Q hK
  unfold Oper.wp
  have hrun:(execOp a.eval o).run E.P w=.ok (.value (.map (some w.heap.size))) (w.alloc (.map #[] 0)):=by
   simp only [execOp,ho,Option.map_none,Sem.run_bind,run_makeMap,Result.andThen_ok,Sem.run_pure]
  rw [hrun]
  refine hK ρ _ _ _ _ ⟨w.heap.size,rfl,rfl⟩ (Ext.refl _) rfl (wg h2 ((hmm d (by simp)).trans hm) _ ?_)
  obtain ⟨ob,h3,h4⟩:=MapD.of (World.ownsMap_made w E.P k (plainElem (H:=Unit) E.P e))
  rw [Go.heap_alloc_new] at h3
  cases h3
  exact h4
 ·rintro s U ⟨b,rfl,rfl⟩;exact bS
 ·rintro s U ⟨b,rfl,rfl⟩;exact h b
theorem DN {t:TypeId} {x y z:Operand} (ho:o.op=.mapUpdate t x y z) {P:Program} (hP:E.P=P) {k e:TypeId} (KK:Keyed P k) (ht:P.underlying t=some (.map k e)) (d:Key) {b n:Nat} {D:DataW Unit} {key val:Value} {kl:Lit} {dd:DataW Unit} {ps:List MemPlace}
    (hx:evF (aB f) x=SV.c (.map (some b))) (hy:evF (aB f) y=SV.c key) (hz:evF (aB f) z=SV.c val) (hm:aw m d=some (Blk.res b (MapD P k e D n))) (hn:n < maxLen) (hkey:Go.keyOf P k key=some kl) (hval:plainElem (H:=Unit) P e val=some (dd,ps))
    (h:K (SV.c undef) [d] [(d,Blk.res b (MapD P k e (D.put kl dd) (n+1)))]):br E o f m T K:=by
 subst hP
 refine .inl ⟨_,[d],[(d,Blk.res b (MapD E.P k e (D.put kl dd) (n+1)))],fM fun f' m' ρ a w hf hmm h1 h2=>?_,bS,h⟩
 have hxx:=az h1 x
 rw [hf x (by simp [ho,Op.operands]),hx] at hxx
 have hxx:=bf hxx
 have hyy:=az h1 y
 rw [hf y (by simp [ho,Op.operands]),hy] at hyy
 have hyy:=bf hyy
 have hzz:=az h1 z
 rw [hf z (by simp [ho,Op.operands]),hz] at hzz
 have hzz:=bf hzz
 have hm':=(hmm d (by simp)).trans hm
 obtain ⟨ob,h3,h4⟩:=fT h2 hm'
 obtain ⟨w',hrun,hown,hg⟩:=(MapD.owns h3 h4).update KK ht hn hkey hval
 exact ⟨w',by simp only [execOp,ho,hxx,hyy,hzz,Sem.run_bind,hrun,Result.andThen_ok,Sem.run_pure],lz h2 hm' hg (MapD.of hown)⟩
theorem Am {c:Call} {x y:Operand} {t k:TypeId} (ho:o.op=.call c) (hc:c.callee=.builtin .delete) (hargs:c.args.toList=[x,y]) (hty:c.argTypes.toList=[t,k]) {P:Program} (hP:E.P=P) {e:TypeId} (KK:Keyed P k) (ht:P.underlying t=some (.map k e)) (d:Key) {b n:Nat} {D:DataW Unit} {key:Value} {kl:Lit}
    (hx:evF (aB f) x=SV.c (.map (some b))) (hy:evF (aB f) y=SV.c key) (hm:aw m d=some (Blk.res b (MapD P k e D n))) (hkey:Go.keyOf P k key=some kl)
    (h:K (SV.c (.tuple #[])) [d] [(d,Blk.res b (MapD P k e (D.del kl) n))]):br E o f m T K:=by
 subst hP
 refine .inl ⟨_,[d],[(d,Blk.res b (MapD E.P k e (D.del kl) n))],aT fun f' m' ρ a w hf hmm h1 h2=>?_,bS,h⟩
 have hxx:=az h1 x
 rw [hf x (by rw [ho];exact bV (by rw [hargs];simp)),hx] at hxx
 have hxx:=bf hxx
 have hyy:=az h1 y
 rw [hf y (by rw [ho];exact bV (by rw [hargs];simp)),hy] at hyy
 have hyy:=bf hyy
 have hm':=(hmm d (by simp)).trans hm
 obtain ⟨ob,h3,es,clock,rfl,F,hs,rfl⟩:=fT h2 hm'
 obtain ⟨es',hrun,F',hle,hdel,-⟩:=fit_drop_who (ty:=o.type) KK ht h3 F hkey
 have e1:c.args.map a.eval=#[.map (some b),key]:=by
  apply Array.ext'
  rw [Array.toList_map,hargs]
  simp [hxx,hyy]
 have e2:c.argTypes=#[t,k]:=by apply Array.ext';rw [hty]
 refine ⟨ρ,.tuple #[],setBlock w b (.map es' clock),?_,Ext.refl _,rfl,lz h2 hm' ⟨rfl,rfl,rfl,by simp [setBlock],fun i _ hi=>heap_setBlock_other h3 _ (fun e=>hi (by rw [e]))⟩ ⟨_,heap_setBlock_same h3 _,es',clock,rfl,F',Nat.le_trans hle hs,by rw [DataW.del_eq,hdel]⟩⟩
 simp only [execOp,ho,resolve,hc,e1,e2,Sem.run_bind,Sem.run_pure,Result.andThen_ok,invoke,builtin,hrun]
theorem DO {t:TypeId} {x:Operand} (ho:o.op=.range t x) {P:Program} (hP:E.P=P) {k e:TypeId} (ht:P.underlying t=some (.map k e)) (d d2:Key) (hd:d≠d2) {b n:Nat} {D:DataW Unit}
    (hx:evF (aB f) x=SV.c (.map (some b))) (hm:aw m d=some (Blk.res b (MapD P k e D n))) (hm2:aw m d2=none) (hT:T [d,d2])
    (h:∀ r es clock,Fit P k (plainElem (H:=Unit) P e) es clock->es.size<=n->D=.map ((es.toList.map (rg P k (plainElem (H:=Unit) P e))).foldr DataW.insert []) ->
     K (SV.c (.pointer (some ⟨r,0,none⟩))) [d,d2] [(d,Blk.res b (fun o=>o=.map es clock)),(d2,Blk.res r (fun o=>o=.mapIter (some b) clock #[] clock))]):br E o f m T K:=by
 subst hP
 refine .inr ⟨[d,d2],fun s U=>∃ r es clock,Fit E.P k (plainElem (H:=Unit) E.P e) es clock/\es.size<=n/\D=.map ((es.toList.map (rg E.P k (plainElem (H:=Unit) E.P e))).foldr DataW.insert [])/\s=SV.c (.pointer (some ⟨r,0,none⟩))/\U=[(d,Blk.res b (fun o=>o=.map es clock)),(d2,Blk.res r (fun o=>o=.mapIter (some b) clock #[] clock))],?_,?_,hT,?_⟩
 ·intro f' m' hf hmm ρ a w h1 h2 K' Q hK
  have hf:=fun x hx=>di (o:=o) hf (x:=x) hx
  have hxx:=az h1 x
  rw [hf x (by simp [ho,Op.operands]),hx] at hxx
  have hxx:=bf hxx
  have hm':=(hmm d (by simp)).trans hm
  obtain ⟨ob,h3,es,clock,rfl,F,hs,hD⟩:=fT h2 hm'
  unfold Oper.wp
  have hrun:(execOp a.eval o).run E.P w=.ok (.value (.pointer (some ⟨w.heap.size,0,none⟩))) (w.alloc (.mapIter (some b) clock #[] clock)):=by
   simp only [execOp,ho,hxx,Sem.run_bind,run_range_map w t k e b es clock ht h3,Result.andThen_ok,Sem.run_pure]
  rw [hrun]
  refine hK ρ _ _ _ _ ⟨w.heap.size,es,clock,F,hs,hD,rfl,rfl⟩ (Ext.refl _) rfl ?_
  have hA:Wd E.toEnv ρ (aS m' [(d,Blk.res b (fun o=>o=.map es clock))]) w:=lz h2 hm' ⟨rfl,rfl,rfl,Nat.le_refl _,fun _ _ _=>rfl⟩ ⟨_,h3,rfl⟩
  have hB:=wg hA (d:=d2) (by simp only [aS,lk,if_neg hd];exact (hmm d2 (by simp)).trans hm2) (.mapIter (some b) clock #[] clock) (R:=fun o=>o=.mapIter (some b) clock #[] clock) rfl
  refine hB.congr fun q=>?_
  simp only [aS,lk]
  by_cases e1:d=q
  ·subst e1;simp [Ne.symm hd]
  ·by_cases e2:d2=q
   ·subst e2;simp [hd]
   ·simp [e1,e2]
 ·rintro s U ⟨r,es,clock,_,_,_,rfl,rfl⟩ q B hB
  simp only [lk] at hB
  by_cases e1:d=q
  ·simp [e1]
  ·by_cases e2:d2=q
   ·simp [e2]
   ·simp [e1,e2] at hB
 ·rintro s U ⟨r,es,clock,h3,h4,h5,rfl,rfl⟩
  exact h r es clock h3 h4 h5
theorem GX {x:Operand} (ho:o.op=.next x false) (d d2:Key) {b r since c0 clock:Nat} {seen:Array Nat} {es:Array MapEntry}
    (hx:evF (aB f) x=SV.c (.pointer (some ⟨r,0,none⟩))) (hm:aw m d=some (Blk.res b (fun o=>o=.map es clock))) (hm2:aw m d2=some (Blk.res r (fun o=>o=.mapIter (some b) since seen c0))) (hold:∀ x∈es.toList,x.born < since) (hsc:since<=c0) (hT:T [d,d2])
    (h0:(leftOf es seen).size=0->K (SV.c (.tuple #[.bool false])) [d,d2] [])
    (h1:∀ e∈(leftOf es seen).toList,K (SV.c (.tuple #[.bool true,e.key,e.val])) [d,d2] [(d2,Blk.res r (fun o=>o=.mapIter (some b) since (seen.push e.born) clock))]):br E o f m T K:=by
 refine .inr ⟨[d,d2],fun s U=>((leftOf es seen).size=0/\s=SV.c (.tuple #[.bool false])/\U=[])\/∃ e∈(leftOf es seen).toList,s=SV.c (.tuple #[.bool true,e.key,e.val])/\U=[(d2,Blk.res r (fun o=>o=.mapIter (some b) since (seen.push e.born) clock))],?_,?_,hT,?_⟩
 ·intro f' m' hf hmm ρ a w hF h2 K' Q hK
  have hf:=fun x hx=>di (o:=o) hf (x:=x) hx
  have hxx:=az hF x
  rw [hf x (by simp [ho,Op.operands]),hx] at hxx
  have hxx:=bf hxx
  obtain ⟨_,h3,rfl⟩:=fT h2 ((hmm d (by simp)).trans hm)
  have hm2':=(hmm d2 (by simp)).trans hm2
  obtain ⟨_,h4,rfl⟩:=fT h2 hm2'
  unfold Oper.wp
  rcases run_next_at (P:=E.P) w o.type r b since c0 seen es clock h4 h3 hold hsc with ⟨h5,hrun⟩ | ⟨e,he,w1,hal,hrun⟩
  ·have hrun:(execOp a.eval o).run E.P w=.ok (.value (.tuple #[.bool false])) w:=by
     simp only [execOp,ho,hxx,Sem.run_bind,hrun,Result.andThen_ok,Sem.run_pure]
   rw [hrun]
   exact hK ρ _ w _ [] (.inl ⟨h5,rfl,rfl⟩) (Ext.refl _) rfl (by rw [fJ];exact h2)
  ·have hrun:(execOp a.eval o).run E.P w=.ok (.value (.tuple #[.bool true,e.key,e.val])) (setBlock w1 r (.mapIter (some b) since (seen.push e.born) clock)):=by
     simp only [execOp,ho,hxx,Sem.run_bind,hrun,Result.andThen_ok,Sem.run_pure]
   rw [hrun]
   have h41:w1.heap[r]? = some (.mapIter (some b) since seen c0):=by rcases hal with rfl | rfl<;>exact h4
   have hset:=heap_set (o':=.mapIter (some b) since (seen.push e.born) clock) h41
   refine hK ρ _ _ _ _ (.inr ⟨e,he,rfl,rfl⟩) (Ext.refl _) rfl (lz h2 hm2' ?_ ⟨_,hset.1,rfl⟩)
   rcases hal with rfl | rfl<;>exact ⟨rfl,rfl,rfl,by simp [setBlock],fun i _ hi=>hset.2 i (fun e1=>hi (by rw [e1]))⟩
 ·rintro s U (⟨_,rfl,rfl⟩ | ⟨e,he,rfl,rfl⟩) q B hB
  ·simp [lk] at hB
  ·have:=bS q B hB
   simp at this
   simp [this]
 ·rintro s U (⟨h5,rfl,rfl⟩ | ⟨e,he,rfl,rfl⟩)
  ·exact h0 h5
  ·exact h1 e he
theorem DP {x:Operand} (ho:o.op=.entry x) (d d2:Key) {b r since clock:Nat} {seen:Array Nat} {es:Array MapEntry} {e:MapEntry}
    (hx:evF (aB f) x=SV.c (.pointer (some ⟨r,0,none⟩))) (hm:aw m d=some (Blk.res b (fun o=>o=.map es clock))) (hm2:aw m d2=some (Blk.res r (fun o=>o=.mapIter (some b) since (seen.push e.born) clock))) (he:e∈es.toList) (hn:(es.toList.map (·.born)).Nodup)
    (h:K (SV.c (.tuple #[e.key,e.val])) [d,d2] []):br E o f m T K:=by
 refine .inl ⟨_,[d,d2],[],aT fun f' m' ρ a w hf hmm hF h2=>?_,jF,h⟩
 have hxx:=az hF x
 rw [hf x (by simp [ho,Op.operands]),hx] at hxx
 have hxx:=bf hxx
 obtain ⟨_,h3,rfl⟩:=fT h2 ((hmm d (by simp)).trans hm)
 obtain ⟨_,h4,rfl⟩:=fT h2 ((hmm d2 (by simp)).trans hm2)
 have hrun:=run_entry_at (P:=E.P) w r b since seen es clock e h4 h3 he hn
 exact ⟨ρ,_,w,by simp only [execOp,ho,hxx,Sem.run_bind,hrun,Result.andThen_ok,Sem.run_pure],Ext.refl _,rfl,by rw [fJ];exact h2⟩
end
end Go.SX
namespace Go.SX
open Go Go.RowKit
def cat {α:Type} (g:α->Array Value):List α->Array Value
 | []=>#[]
 | x :: r=>g x++cat g r
section
variable {α:Type} {g:α->Array Value} {s:Nat}
theorem cat_size (hg:∀ x,(g x).size=s):∀ (l:List α),(cat g l).size=l.length*s
 | []=>by simp [cat]
 | x :: r=>by rw [cat,Array.size_append,hg,cat_size hg r,List.length_cons,Nat.add_mul,Nat.one_mul,Nat.add_comm]
theorem cat_append:∀ (l r:List α),cat g (l++r)=cat g l++cat g r
 | [],r=>by simp [cat]
 | x :: l,r=>by rw [List.cons_append,cat,cat,cat_append l r,Array.append_assoc]
theorem lO (x:α):cat g [x]=g x:=by simp [cat]
theorem fg (l:List α) (x:α):cat g l++g x=cat g (l++[x]):=by rw [cat_append,lO]
theorem dV (hg:∀ x,(g x).size=s):∀ (l:List α) (i:Nat) (x:α) (j:Nat),l[i]? = some x->j < s->(cat g l)[i*s+j]? = (g x)[j]?
 | [],i,x,j,h,_=>by simp at h
 | y :: r,0,x,j,h,hj=>by
  simp only [List.getElem?_cons_zero,Option.some.injEq] at h
  subst h
  rw [cat,Nat.zero_mul,Nat.zero_add,Array.getElem?_append_left (by rw [hg];exact hj)]
 | y :: r,i+1,x,j,h,hj=>by
  rw [cat,Array.getElem?_append_right (by rw [hg,Nat.add_mul];omega),hg]
  have e:(i+1)*s+j - s=i*s+j:=by rw [Nat.add_mul];omega
  rw [e]
  exact dV hg r i x j (by simpa using h) hj
theorem cr (hg:∀ x,(g x).size=s) {l:List α} {i:Nat} {x:α} (h:l[i]? = some x):(cat g l).extract (i*s) (i*s+s)=g x:=by
 have hi:=(List.getElem?_eq_some_iff.1 h).1
 have hb:(i+1)*s<=l.length*s:=Nat.mul_le_mul_right s hi
 rw [Nat.add_mul,Nat.one_mul] at hb
 apply Array.ext_getElem?
 intro j
 rw [Array.getElem?_extract]
 by_cases hj:j < s
 ·rw [if_pos (by rw [cat_size hg];omega),dV hg l i x j h hj]
 ·rw [if_neg (by rw [cat_size hg];omega),Array.getElem?_eq_none (by rw [hg];omega)]
theorem cat_all {p:Value->Bool} (hp:∀ x,(g x).all p=true):∀ (l:List α),(cat g l).all p=true
 | []=>by simp [cat]
 | x :: r=>by rw [cat,Array.all_append,hp,cat_all hp r];rfl
end
end Go.SX
namespace Go.SX
open Go Go.RowKit
section
variable {α:Type} {g:α->Array Value} {s:Nat}
theorem jE {E:VE} (hE:VOk E) {b o i j:Nat} {xs:List α} {x:α} {ty:TypeId} {ti:TI} {v:Value} (h:∀ w,OldW E.toEnv w->∀ j u,(cat g xs)[j]? = some u->w.cell? ⟨b,o+j,none⟩=some u) (hg:∀ x,(g x).size=s) (hx:xs[i]? = some x) (hv:(g x)[j]? = some v) (hi:E.tt ty=some ti) (hr:ti.row=false) {p:Nat} (hp:p=o+i*s+j):bH E.toEnv (Instr.loadAt ty (.pointer (some ⟨b,p,none⟩))) v:=by
 have hj:j < s:=by rw [<- hg x];exact (Array.getElem?_eq_some_iff.1 hv).1
 exact G6 hE h hi hr ((dV hg xs i x j hx hj).trans hv) (by omega)
theorem bN {E:VE} (hE:VOk E) {b o i:Nat} {xs:List α} {x:α} {ty:TypeId} {ti:TI} (h:∀ w,OldW E.toEnv w->∀ j u,(cat g xs)[j]? = some u->w.cell? ⟨b,o+j,none⟩=some u) (hg:∀ x,(g x).size=s) (hx:xs[i]? = some x) (hi:E.tt ty=some ti) (hr:ti.row=true) (hs:ti.size=s) {p:Nat} (hp:p=o+i*s):bH E.toEnv (Instr.loadAt ty (.pointer (some ⟨b,p,none⟩))) (.agg (g x)):=by
 have hlt:=(List.getElem?_eq_some_iff.1 hx).1
 have hb:(i+1)*s<=xs.length*s:=Nat.mul_le_mul_right s hlt
 rw [Nat.add_mul,Nat.one_mul] at hb
 have:=J8 hE (off:=i*s) h hi hr (by rw [cat_size hg,hs];exact hb) hp
 rw [hs,cr hg hx] at this
 exact this
end
def IsL (x:Value) (n:Nat):Prop:=(x=.slice none 0 0/\n=0)\/∃ g cap,x=.slice (some ⟨g,0,none⟩) n cap
theorem IsL.nil:IsL (.slice none 0 0) 0:=.inl ⟨rfl,rfl⟩
theorem IsL.some {g n cap:Nat}:IsL (.slice (some ⟨g,0,none⟩) n cap) n:=.inr ⟨g,cap,rfl⟩
theorem IsL.len {x:Value} {n:Nat} (h:IsL x n):∃ a cap,x=.slice a n cap:=by
 rcases h with ⟨rfl,rfl⟩ | ⟨g,cap,rfl⟩
 ·exact ⟨_,_,rfl⟩
 ·exact ⟨_,_,rfl⟩
end Go.SX
namespace Go.SX
open Go Go.RowKit
section
variable {α β:Type}
def fe (lt:α->α->Bool) (x:α):List α->List α
 | []=>[x]
 | y :: r=>if lt x y then y :: fe lt x r else x :: y :: r
def dG (lt:α->α->Bool) (l:List α):List α:=l.foldl (fun a x=>fe lt x a) []
theorem yh (lt:α->α->Bool) (x:α):∀ (r:List α),(fe lt x r).length=r.length+1
 | []=>rfl
 | y :: r=>by
  unfold fe
  split
  ·rw [List.length_cons,yh lt x r,List.length_cons]
  ·rfl
theorem su (lt:α->α->Bool) (l:List α) (x:α):dG lt (l++[x])=fe lt x (dG lt l):=by simp [dG]
theorem st {lt:α->α->Bool} {l:List α} {i:Nat} {x:α} (h:l[i]? = some x):dG lt (l.take (i+1))=fe lt x (dG lt (l.take i)):=by
 rw [List.take_add_one,h]
 exact su lt _ x
theorem uQ (lt:α->α->Bool):∀ (l a:List α),(l.foldl (fun a x=>fe lt x a) a).length=a.length+l.length
 | [],a=>rfl
 | x :: r,a=>by rw [List.foldl_cons,uQ lt r,yh,List.length_cons];omega
theorem qw (lt:α->α->Bool) (l:List α):(dG lt l).length=l.length:=by
 have:=uQ lt l []
 simpa [dG] using this
theorem yg {lt:α->α->Bool} {lt':β->β->Bool} (g:α->β) (h:∀ a b,lt' (g a) (g b)=lt a b) (x:α):∀ (r:List α),(fe lt x r).map g=fe lt' (g x) (r.map g)
 | []=>rfl
 | y :: r=>by
  rw [fe,List.map_cons,fe,h]
  split
  ·rw [List.map_cons,yg g h x r]
  ·rfl
theorem tj {lt:α->α->Bool} {lt':β->β->Bool} (g:α->β) (h:∀ a b,lt' (g a) (g b)=lt a b):∀ (l a:List α),(l.foldl (fun a x=>fe lt x a) a).map g=(l.map g).foldl (fun a x=>fe lt' x a) (a.map g)
 | [],a=>rfl
 | x :: r,a=>by rw [List.foldl_cons,tj g h r,yg g h,List.map_cons,List.foldl_cons]
theorem Dk {lt:α->α->Bool} {lt':β->β->Bool} (g:α->β) (h:∀ a b,lt' (g a) (g b)=lt a b) (l:List α):(dG lt l).map g=dG lt' (l.map g):=tj g h l []
theorem yf (lt:α->α->Bool) (x:α):∀ (r:List α) (z:α),z∈fe lt x r↔z=x\/z∈r
 | [],z=>by simp [fe]
 | y :: r,z=>by
  unfold fe
  split
  ·rw [List.mem_cons,yf lt x r z,List.mem_cons]
   constructor
   ·rintro (h | h | h)
    ·exact .inr (.inl h)
    ·exact .inl h
    ·exact .inr (.inr h)
   ·rintro (h | h | h)
    ·exact .inr (.inl h)
    ·exact .inl h
    ·exact .inr (.inr h)
  ·simp
theorem uP (lt:α->α->Bool):∀ (l a:List α) (z:α),z∈l.foldl (fun a x=>fe lt x a) a↔z∈a\/z∈l
 | [],a,z=>by simp
 | x :: r,a,z=>by
  rw [List.foldl_cons,uP lt r,yf,List.mem_cons]
  constructor
  ·rintro ((h | h) | h)
   ·exact .inr (.inl h)
   ·exact .inl h
   ·exact .inr (.inr h)
  ·rintro (h | h | h)
   ·exact .inl (.inr h)
   ·exact .inl (.inl h)
   ·exact .inr h
theorem uq {lt:α->α->Bool} {l:List α} {z:α}:z∈dG lt l↔z∈l:=by
 have:=uP lt l [] z
 simpa [dG] using this
theorem Dg (A B:List α) (x y:α):((A++y :: x :: B).set (A.length+1) y).set A.length x=A++x :: y :: B:=by
 rw [List.set_append_right _ _ (by omega),List.set_append_right _ _ (by omega)]
 simp
theorem NO (A B:List α) (x:α):(A++x :: B)[A.length]? = some x:=by simp
theorem Lc (A B:List α) (x y:α):(A++y :: x :: B)[A.length+1]? = some x:=by
 rw [List.getElem?_append_right (by omega)];simp
end
section
variable {α:Type} {g:α->Array Value} {s:Nat}
theorem wM (hg:∀ x,(g x).size=s) {l:List α} {j:Nat} (hj:j < l.length) (y:α):aM (cat g l) (j*s) (g y).toList=cat g (l.set j y):=by
 have hb:(j+1)*s<=l.length*s:=Nat.mul_le_mul_right s hj
 rw [Nat.add_mul,Nat.one_mul] at hb
 apply Array.ext_getElem?
 intro k
 rw [ct]
 have hlen:(g y).toList.length=s:=by rw [Array.length_toList,hg]
 rw [hlen]
 by_cases hk:k < l.length*s
 ·have hs:0 < s:=by
    rcases Nat.eq_zero_or_pos s with h0 | h0
    ·rw [h0] at hk;omega
    ·exact h0
  have hi:k / s < l.length:=Nat.div_lt_of_lt_mul (by rw [Nat.mul_comm];exact hk)
  have hr:=Nat.mod_lt k hs
  have hdm:=Nat.div_add_mod k s
  rw [Nat.mul_comm] at hdm
  by_cases hjk:k / s=j
  ·have h1:(l.set j y)[k / s]? = some y:=by rw [hjk];simp [hj]
   have h2:=dV hg _ _ _ _ h1 hr
   rw [hdm] at h2
   rw [hjk] at hdm
   rw [if_neg (by omega),if_pos (by rw [cat_size hg];exact hk),h2,Array.getElem?_toList]
   congr 1
   omega
  ·obtain ⟨z,hz⟩:∃ z,l[k / s]? = some z:=⟨_,List.getElem?_eq_getElem hi⟩
   have h1:(l.set j y)[k / s]? = some z:=by rw [List.getElem?_set_ne (Ne.symm hjk)];exact hz
   have h2:=dV hg _ _ _ _ h1 hr
   have h3:=dV hg _ _ _ _ hz hr
   rw [hdm] at h2 h3
   rw [if_pos ?_,h2,h3]
   rcases Nat.lt_or_gt_of_ne hjk with h4 | h4
   ·left
    have:(k / s+1)*s<=j*s:=Nat.mul_le_mul_right s h4
    rw [Nat.add_mul,Nat.one_mul] at this
    omega
   ·right
    have:(j+1)*s<=k / s*s:=Nat.mul_le_mul_right s h4
    rw [Nat.add_mul,Nat.one_mul] at this
    omega
 ·rw [if_pos (.inr (by omega)),Array.getElem?_eq_none (by rw [cat_size hg];omega),Array.getElem?_eq_none (by rw [cat_size hg,List.length_set];omega)]
end
end Go.SX
namespace Go.SX
open Go Go.RowKit
section
variable {α:Type} (key:α->Int)
def leK (x y:α):Bool:=decide (key x<=key y)
def dp (A B:List α):List α:=List.merge A B (leK key)
theorem fv (B:List α):dp key [] B=B:=by simp [dp]
theorem fu (A:List α):dp key A []=A:=by simp [dp]
theorem eh (x y:α) (A B:List α):dp key (x :: A) (y :: B)=if key x<=key y then x :: dp key A (y :: B) else y :: dp key (x :: A) B:=by
 unfold dp
 rw [List.cons_merge_cons]
 unfold leK
 by_cases h:key x<=key y
 ·rw [if_pos h,if_pos (by simpa using h)]
 ·rw [if_neg h,if_neg (by simpa using h)]
theorem d9:∀ (A1 B1 A2 B2:List α),(∀ x∈A1,∀ y∈B2,key x<=key y)->(∀ y∈B1,∀ x∈A2,key y < key x)->dp key (A1++A2) (B1++B2)=dp key A1 B1++dp key A2 B2
 | [],[],A2,B2,_,_=>by simp [fv]
 | [],y :: B1,A2,B2,h1,h2=>by
  have ih:=d9 [] B1 A2 B2 (by simp) (fun z hz=>h2 z (by simp [hz]))
  rw [List.nil_append,fv] at ih
  rw [List.nil_append,fv]
  cases A2 with
  | nil=>simp [fv]
  | cons x A2=>rw [List.cons_append,eh,if_neg (by have:=h2 y (by simp) x (by simp);omega),ih,List.cons_append]
 | x :: A1,[],A2,B2,h1,h2=>by
  have ih:=d9 A1 [] A2 B2 (fun z hz=>h1 z (by simp [hz])) (by simp)
  rw [List.nil_append,fu] at ih
  rw [List.nil_append,fu]
  cases B2 with
  | nil=>simp [fu]
  | cons y B2=>rw [List.cons_append,eh,if_pos (h1 x (by simp) y (by simp)),ih,List.cons_append]
 | x :: A1,y :: B1,A2,B2,h1,h2=>by
  rw [List.cons_append,List.cons_append,eh,eh]
  split
  ·have ih:=d9 A1 (y :: B1) A2 B2 (fun z hz=>h1 z (by simp [hz])) h2
   rw [List.cons_append] at ih
   rw [ih,List.cons_append]
  ·have ih:=d9 (x :: A1) B1 A2 B2 h1 (fun z hz=>h2 z (by simp [hz]))
   rw [List.cons_append] at ih
   rw [ih,List.cons_append]
termination_by A1 B1=>A1.length+B1.length
theorem uG {x:α}:∀ {A B:List α},x∈dp key A B↔x∈A\/x∈B:=by
 intro A B
 unfold dp
 exact List.mem_merge
theorem Ak (A B:List α):(dp key A B).Perm (A++B):=List.merge_perm_append _
def Srt (l:List α):Prop:=l.Pairwise fun a b=>key a<=key b
theorem qO:∀ {A B:List α},Srt key A->Srt key B->Srt key (dp key A B)
 | [],B,_,hB=>by rw [fv];exact hB
 | x :: A,[],hA,_=>by rw [fu];exact hA
 | x :: A,y :: B,hA,hB=>by
  rw [eh]
  have hA':=List.pairwise_cons.1 hA
  have hB':=List.pairwise_cons.1 hB
  split
  ·rename_i h
   refine List.pairwise_cons.2 ⟨fun z hz=>?_,qO hA'.2 hB⟩
   rcases (uG key).1 hz with h2 | h2
   ·exact hA'.1 z h2
   ·rcases List.mem_cons.1 h2 with rfl | h3
    ·exact h
    ·have:=hB'.1 z h3;omega
  ·rename_i h
   refine List.pairwise_cons.2 ⟨fun z hz=>?_,qO hA hB'.2⟩
   rcases (uG key).1 hz with h2 | h2
   ·rcases List.mem_cons.1 h2 with rfl | h3
    ·omega
    ·have:=hA'.1 z h3;omega
   ·exact hB'.1 z h2
termination_by A B=>A.length+B.length
def atK (d:Int) (a:α):Bool:=decide (key a=d)
theorem jC (d:Int):∀ {A B:List α},Srt key A->(dp key A B).filter (atK key d)=A.filter (atK key d)++B.filter (atK key d)
 | [],B,_=>by rw [fv];rfl
 | x :: A,[],_=>by rw [fu];simp
 | x :: A,y :: B,hA=>by
  rw [eh]
  have hA':=List.pairwise_cons.1 hA
  split
  ·rename_i h
   have ih:=jC d (A:=A) (B:=y :: B) hA'.2
   rw [List.filter_cons,ih,List.filter_cons (xs:=A)]
   split<;>rfl
  ·rename_i h
   have ih:=jC d (A:=x :: A) (B:=B) hA
   rw [List.filter_cons,ih,List.filter_cons (x:=y)]
   split
   ·rename_i h2
    have h2:key y=d:=af h2
    have:(x :: A).filter (atK key d)=[]:=by
     rw [List.filter_eq_nil_iff]
     intro z hz
     have:key x<=key z:=by
      rcases List.mem_cons.1 hz with rfl | h3
      ·exact Int.le_refl _
      ·exact hA'.1 z h3
     unfold atK
     simp
     omega
    rw [this];rfl
   ·rfl
structure Stab (l xs:List α):Prop where
 perm:l.Perm xs
 srt:Srt key l
 flt:∀ d,l.filter (atK key d)=xs.filter (atK key d)
theorem Stab.nil:Stab key ([]:List α) []:=⟨.nil,.nil,fun _=>rfl⟩
theorem Stab.one (x:α):Stab key [x] [x]:=⟨.refl _,List.pairwise_singleton _ _,fun _=>rfl⟩
theorem Stab.merge {A B xs ys:List α} (h:Stab key A xs) (g:Stab key B ys):Stab key (dp key A B) (xs++ys) :=
 ⟨(Ak key A B).trans (h.perm.append g.perm),qO key h.srt g.srt,fun d=>by rw [jC key d h.srt,h.flt,g.flt,List.filter_append]⟩
theorem xi:∀ {l l':List α},Srt key l->Srt key l'->(∀ d,l.filter (atK key d)=l'.filter (atK key d))->l=l'
 | [],[],_,_,_=>rfl
 | [],b :: t,_,_,h=>by
  have:=h (key b)
  rw [List.filter_cons,if_pos (by simp [atK])] at this
  cases this
 | a :: t,[],_,_,h=>by
  have:=h (key a)
  rw [List.filter_cons,if_pos (by simp [atK])] at this
  cases this
 | a :: t,b :: t',hl,hl',h=>by
  have hl1:=List.pairwise_cons.1 hl
  have hl2:=List.pairwise_cons.1 hl'
  have e1:key b<=key a:=by
   have hm:a∈(a :: t).filter (atK key (key a)):=by simp [atK]
   rw [h (key a),List.mem_filter] at hm
   rcases List.mem_cons.1 hm.1 with e | e
   ·rw [e];exact Int.le_refl _
   ·exact hl2.1 a e
  have e2:key a<=key b:=by
   have hm:b∈(b :: t').filter (atK key (key b)):=by simp [atK]
   rw [<- h (key b),List.mem_filter] at hm
   rcases List.mem_cons.1 hm.1 with e | e
   ·rw [e];exact Int.le_refl _
   ·exact hl1.1 b e
  have ek:key a=key b:=by omega
  have h0:=h (key a)
  rw [List.filter_cons,List.filter_cons,if_pos (by simp [atK]),if_pos (by simp [atK,ek])] at h0
  have hab:a=b:=(List.cons.inj h0).1
  subst hab
  congr 1
  refine xi hl1.2 hl2.2 fun d=>?_
  have hd:=h d
  rw [List.filter_cons,List.filter_cons] at hd
  split at hd
  ·exact (List.cons.inj hd).2
  ·exact hd
theorem Stab.uniq {l l' xs:List α} (h:Stab key l xs) (g:Stab key l' xs):l=l':=xi key h.srt g.srt fun d=>by rw [h.flt,g.flt]
theorem DM {r s:List α} {x:α} (h1:∀ y∈r,key y<=key x) (h2:∀ y∈s,key x < key y):dp key (r++s) [x]=r++x :: s:=by
 have e1:=d9 key r [] s [x] (fun a ha b hb=>by rw [List.mem_singleton] at hb;subst hb;exact h1 a ha) (by simp)
 have e2:=d9 key [] [x] s [] (by simp) (fun a ha b hb=>by rw [List.mem_singleton] at ha;subst ha;exact h2 b hb)
 rw [List.nil_append,fu] at e1
 rw [List.nil_append,List.append_nil,fv,fu] at e2
 rw [e1,e2];rfl
theorem Stab.insert {r s xs:List α} {x:α} (h:Stab key (r++s) xs) (h1:∀ y∈r,key y<=key x) (h2:∀ y∈s,key x < key y):Stab key (r++x :: s) (xs++[x]):=by
 have:=Stab.merge key h (Stab.one key x)
 rw [DM key h1 h2] at this
 exact this
def ltK (x y:α):Bool:=decide (key x < key y)
theorem s5 (x:α):∀ (r:List α),Srt key r.reverse->∃ r1 r2,r=r1++r2/\fe (ltK key) x r=r1++x :: r2/\(∀ y∈r1,key x < key y)/\∀ y∈r2,key y<=key x
 | [],_=>⟨[],[],rfl,rfl,by simp,by simp⟩
 | y :: r,h=>by
  have h':=h
  unfold Srt at h'
  rw [List.reverse_cons,List.pairwise_append] at h'
  by_cases c:key x < key y
  ·obtain ⟨r1,r2,e1,e2,e3,e4⟩:=s5 x r h'.1
   refine ⟨y :: r1,r2,by rw [e1];rfl,?_,?_,e4⟩
   ·rw [fe,if_pos (by simp [ltK,c]),e2];rfl
   ·intro z hz
    rcases List.mem_cons.1 hz with rfl | hz
    ·exact c
    ·exact e3 z hz
  ·refine ⟨[],y :: r,rfl,?_,by simp,?_⟩
   ·rw [fe,if_neg (by simp [ltK];omega)];rfl
   ·intro z hz
    rcases List.mem_cons.1 hz with rfl | hz
    ·omega
    ·have:=h'.2.2 z (List.mem_reverse.2 hz) y (by simp)
     omega
def uo (l:List α):List α:=(dG (ltK key) l).reverse
theorem zL (l:List α) (x:α):uo key (l++[x])=(fe (ltK key) x (dG (ltK key) l)).reverse:=by unfold uo;rw [su]
theorem zK (l:List α):Stab key (uo key l) l:=by
 suffices ∀ (n:Nat) (l:List α),l.length=n->Stab key (uo key l) l from this _ l rfl
 intro n
 induction n with
 | zero =>
  intro l h
  have:l=[]:=List.eq_nil_of_length_eq_zero h
  subst this
  exact Stab.nil key
 | succ n ih =>
  intro l h
  have hne:l≠[]:=by intro e;rw [e] at h;simp at h
  have hl:=List.dropLast_concat_getLast hne
  have h1:=ih l.dropLast (by rw [List.length_dropLast];omega)
  rw [<- hl,zL]
  unfold uo at h1
  obtain ⟨r1,r2,e1,e2,e3,e4⟩:=s5 key (l.getLast hne) _ h1.srt
  rw [e2,List.reverse_append,List.reverse_cons,List.append_assoc]
  rw [e1,List.reverse_append] at h1
  exact Stab.insert key h1 (fun y hy=>e4 y (List.mem_reverse.1 hy)) (fun y hy=>e3 y (List.mem_reverse.1 hy))
theorem Stab.eq {l xs:List α} (h:Stab key l xs):l=uo key xs:=h.uniq key (zK key xs)
theorem Stab.len {l xs:List α} (h:Stab key l xs):l.length=xs.length:=h.perm.length_eq
inductive Bks (bs:Nat):List α->List α->Prop
 | last {l xs:List α}:l.length<=bs->Stab key l xs->Bks bs l xs
 | cons {a l xs ys:List α}:a.length=bs->Stab key a xs->Bks bs l ys->Bks bs (a++l) (xs++ys)
inductive Whole (bs:Nat):List α->List α->Prop
 | nil:Whole bs [] []
 | snoc {a l xs ys:List α}:Whole bs l ys->a.length=bs->Stab key a xs->Whole bs (l++a) (ys++xs)
theorem Bks.len {bs:Nat} {l x:List α} (h:Bks key bs l x):l.length=x.length:=by
 induction h with
 | last _ hs=>exact hs.len
 | cons _ hs _ ih=>rw [List.length_append,List.length_append,hs.len,ih]
theorem Whole.len {bs:Nat} {l x:List α} (h:Whole key bs l x):l.length=x.length:=by
 induction h with
 | nil=>rfl
 | snoc _ _ hs ih=>rw [List.length_append,List.length_append,hs.len,ih]
theorem Bks.one {bs:Nat} {l x:List α} (h:Bks key bs l x) (hl:l.length<=bs):Stab key l x:=by
 cases h with
 | last h1 h2=>exact h2
 | @cons a m xs ys h1 h2 h3 =>
  rw [List.length_append] at hl
  have hm:m=[]:=List.eq_nil_of_length_eq_zero (by omega)
  have hy:ys=[]:=List.eq_nil_of_length_eq_zero (by rw [<- h3.len,hm];rfl)
  subst hm hy
  rw [List.append_nil,List.append_nil]
  exact h2
end
section
variable {α:Type}
end
section
variable {α:Type} {lt:α->α->Bool} {x y:α}
end
end Go.SX
namespace Go.SX
open Go Go.RowKit
section
variable {κ:Type}
structure StrictO (lt:κ->κ->Bool):Prop where
 irr:∀ a,lt a a=false
 tr:∀ a b c,lt a b=true->lt b c=true->lt a c=true
 tri:∀ a b,lt a b=false->lt b a=false->a=b
theorem StrictO.asym {lt:κ->κ->Bool} (O:StrictO lt) {a b:κ} (h:lt a b=true):lt b a=false:=by
 cases e:lt b a with
 | false=>rfl
 | true=>have:=O.tr a b a h e;rw [O.irr] at this;cases this
theorem StrictO.ne {lt:κ->κ->Bool} (O:StrictO lt) {a b:κ} (h:lt a b=true):a≠b:=by
 rintro rfl;rw [O.irr] at h;cases h
def fj [DecidableEq κ]:List (κ×Int)->κ->Int
 | [],_=>0
 | (a,n) :: r,k=>if a=k then n else fj r k
def SrtA (lt:κ->κ->Bool) (l:List (κ×Int)):Prop:=l.Pairwise fun x y=>lt x.1 y.1=true
def NzA (l:List (κ×Int)):Prop:=∀ x∈l,x.2≠0
theorem yB [DecidableEq κ] {k:κ} {n:Int} {r:List (κ×Int)}:fj ((k,n) :: r) k=n:=by rw [fj,if_pos rfl]
theorem lK [DecidableEq κ] {a k:κ} {n:Int} {r:List (κ×Int)} (h:a≠k):fj ((a,n) :: r) k=fj r k:=by rw [fj,if_neg h]
theorem uN [DecidableEq κ] {k:κ}:∀ {l:List (κ×Int)},(∀ x∈l,x.1≠k)->fj l k=0
 | [],_=>rfl
 | (a,n) :: r,h=>by
  rw [lK (h (a,n) (by simp))]
  exact uN fun x hx=>h x (by simp [hx])
theorem uM [DecidableEq κ] {k:κ} {s:List (κ×Int)}:∀ {l:List (κ×Int)},(∀ x∈l,x.1≠k)->fj (l++s) k=fj s k
 | [],_=>rfl
 | (a,n) :: r,h=>by
  rw [List.cons_append,lK (h (a,n) (by simp))]
  exact uM fun x hx=>h x (by simp [hx])
theorem kZ [DecidableEq κ] {k k':κ} {n:Int} {s:List (κ×Int)} (h:k'≠k):∀ {l:List (κ×Int)},fj (l++(k,n) :: s) k'=fj (l++s) k'
 | []=>by rw [List.nil_append,List.nil_append,lK (fun e=>h e.symm)]
 | (a,m) :: r=>by
  rw [List.cons_append,List.cons_append,fj,fj,kZ h]
theorem yA [DecidableEq κ] {k:κ}:∀ {l:List (κ×Int)},fj l k≠0->(k,fj l k)∈l
 | [],h=>absurd rfl h
 | (a,n) :: r,h=>by
  by_cases e:a=k
  ·subst e;rw [yB];simp
  ·rw [lK e] at h ⊢
   exact List.mem_cons_of_mem _ (yA h)
structure Upd [DecidableEq κ] (lt:κ->κ->Bool) (l:List (κ×Int)) (k:κ) (v:Int) (l':List (κ×Int)):Prop where
 srt:SrtA lt l'
 get:∀ k',fj l' k'=if k'=k then v else fj l k'
theorem Upd.mid [DecidableEq κ] {lt:κ->κ->Bool} (O:StrictO lt) {l p s:List (κ×Int)} {k:κ} {v:Int} (h1:∀ x∈p,lt x.1 k=true) (h2:∀ x∈s,lt k x.1=true) (hs:SrtA lt (p++s)) (hg:∀ k',k'≠k->fj l k'=fj (p++s) k'):Upd lt l k v (p++(k,v) :: s):=by
 have hs':=hs
 unfold SrtA at hs'
 rw [List.pairwise_append] at hs'
 refine ⟨?_,fun k'=>?_⟩
 ·unfold SrtA
  rw [List.pairwise_append,List.pairwise_cons]
  refine ⟨hs'.1,⟨h2,hs'.2.1⟩,fun x hx y hy=>?_⟩
  rcases List.mem_cons.1 hy with rfl | hy
  ·exact h1 x hx
  ·exact hs'.2.2 x hx y hy
 ·split
  ·rename_i e;subst e
   rw [uM fun x hx=>O.ne (h1 x hx),yB]
  ·rename_i e
   rw [kZ e,hg k' e]
theorem Upd.gone [DecidableEq κ] {lt:κ->κ->Bool} (O:StrictO lt) {l p s:List (κ×Int)} {k:κ} (h1:∀ x∈p,lt x.1 k=true) (h2:∀ x∈s,lt k x.1=true) (hs:SrtA lt (p++s)) (hg:∀ k',k'≠k->fj l k'=fj (p++s) k'):Upd lt l k 0 (p++s):=by
 refine ⟨hs,fun k'=>?_⟩
 split
 ·rename_i e;subst e
  refine uN fun x hx=>?_
  rcases List.mem_append.1 hx with h | h
  ·exact O.ne (h1 x h)
  ·exact (O.ne (h2 x h)).symm
 ·rename_i e;exact (hg k' e).symm
theorem SrtA.parts {lt:κ->κ->Bool} {p s:List (κ×Int)} {k:κ} {n:Int} (h:SrtA lt (p++(k,n) :: s)):(∀ x∈p,lt x.1 k=true)/\(∀ x∈s,lt k x.1=true)/\SrtA lt (p++s):=by
 unfold SrtA at h ⊢
 rw [List.pairwise_append,List.pairwise_cons] at h
 refine ⟨fun x hx=>h.2.2 x hx (k,n) (by simp),h.2.1.1,?_⟩
 rw [List.pairwise_append]
 exact ⟨h.1,h.2.1.2,fun x hx y hy=>h.2.2 x hx y (by simp [hy])⟩
theorem Upd.set [DecidableEq κ] {lt:κ->κ->Bool} (O:StrictO lt) {p s:List (κ×Int)} {k:κ} {n:Int} (h:SrtA lt (p++(k,n) :: s)) (v:Int):Upd lt (p++(k,n) :: s) k v (p++(k,v) :: s) :=
 have ⟨h1,h2,h3⟩:=h.parts
 Upd.mid O h1 h2 h3 fun _ e=>kZ e
theorem Upd.del [DecidableEq κ] {lt:κ->κ->Bool} (O:StrictO lt) {p s:List (κ×Int)} {k:κ} {n:Int} (h:SrtA lt (p++(k,n) :: s)):Upd lt (p++(k,n) :: s) k 0 (p++s) :=
 have ⟨h1,h2,h3⟩:=h.parts
 Upd.gone O h1 h2 h3 fun _ e=>kZ e
theorem Upd.ins [DecidableEq κ] {lt:κ->κ->Bool} (O:StrictO lt) {p s:List (κ×Int)} {k:κ} (h:SrtA lt (p++s)) (h1:∀ x∈p,lt x.1 k=true) (h2:∀ x∈s,lt k x.1=true) (v:Int):Upd lt (p++s) k v (p++(k,v) :: s) :=
 Upd.mid O h1 h2 h fun _ _=>rfl
def vS (lt:κ->κ->Bool):List (κ×Int)->κ->Int->List (κ×Int)
 | [],k,v=>if v=0 then [] else [(k,v)]
 | (a,n) :: r,k,v=>if lt a k then (a,n) :: vS lt r k v else if lt k a then (if v=0 then (a,n) :: r else (k,v) :: (a,n) :: r) else (if v=0 then r else (k,v) :: r)
theorem jv {lt:κ->κ->Bool} (O:StrictO lt) (k:κ) (v:Int):∀ {l:List (κ×Int)},SrtA lt l->∃ p s,vS lt l k v=(if v=0 then p++s else p++(k,v) :: s)/\(∀ x∈p,lt x.1 k=true)/\(∀ x∈s,lt k x.1=true)/\SrtA lt (p++s)/\(l=p++s\/∃ n,l=p++(k,n) :: s)
 | [],_=>⟨[],[],by rw [vS];rfl,by simp,by simp,.nil,.inl rfl⟩
 | (a,n) :: r,hs=>by
  have h:=List.pairwise_cons.1 hs
  rw [vS]
  by_cases c1:lt a k=true
  ·rw [if_pos c1]
   obtain ⟨p,s,e,h1,h2,h3,h4⟩:=jv O k v h.2
   refine ⟨(a,n) :: p,s,?_,?_,h2,?_,?_⟩
   ·rw [e];split<;>rfl
   ·intro x hx
    rcases List.mem_cons.1 hx with rfl | hx
    ·exact c1
    ·exact h1 x hx
   ·refine List.pairwise_cons.2 ⟨fun x hx=>?_,h3⟩
    refine h.1 x ?_
    rcases List.mem_append.1 hx with hx | hx
    ·rcases h4 with e | ⟨m,e⟩<;>rw [e]<;>simp [hx]
    ·rcases h4 with e | ⟨m,e⟩<;>rw [e]<;>simp [hx]
   ·rcases h4 with e | ⟨m,e⟩
    ·exact .inl (by rw [e];rfl)
    ·exact .inr ⟨m,by rw [e];rfl⟩
  ·rw [if_neg c1]
   by_cases c2:lt k a=true
   ·rw [if_pos c2]
    refine ⟨[],(a,n) :: r,by split<;>rfl,by simp,?_,hs,.inl rfl⟩
    intro x hx
    rcases List.mem_cons.1 hx with rfl | hx
    ·exact c2
    ·exact O.tr _ _ _ c2 (h.1 x hx)
   ·rw [if_neg c2]
    have:a=k:=O.tri a k (by simpa using c1) (by simpa using c2)
    subst this
    exact ⟨[],r,by split<;>rfl,by simp,h.1,h.2,.inr ⟨n,rfl⟩⟩
theorem xo [DecidableEq κ] {lt:κ->κ->Bool} (O:StrictO lt) {l:List (κ×Int)} (hs:SrtA lt l) (k:κ) (v:Int):Upd lt l k v (vS lt l k v):=by
 obtain ⟨p,s,e,h1,h2,h3,h4⟩:=jv O k v hs
 have hg:∀ k',k'≠k->fj l k'=fj (p++s) k':=by
  rcases h4 with e | ⟨n,e⟩
  ·intro k' _;rw [e]
  ·intro k' hk;rw [e];exact kZ hk
 rw [e]
 split
 ·rename_i e0;subst e0
  exact Upd.gone O h1 h2 h3 hg
 ·exact Upd.mid O h1 h2 h3 hg
theorem Jy {lt:κ->κ->Bool} (O:StrictO lt) {l:List (κ×Int)} (hs:SrtA lt l) (hn:NzA l) (k:κ) (v:Int):NzA (vS lt l k v):=by
 obtain ⟨p,s,e,h1,h2,h3,h4⟩:=jv O k v hs
 have hp:∀ x∈p++s,x.2≠0:=by
  intro x hx
  refine hn x ?_
  rcases h4 with e | ⟨n,e⟩<;>rw [e]
  ·exact hx
  ·rcases List.mem_append.1 hx with hx | hx<;>simp [hx]
 rw [e]
 split
 ·exact hp
 ·rename_i e0
  intro x hx
  rcases List.mem_append.1 hx with hx | hx
  ·exact hp x (by simp [hx])
  ·rcases List.mem_cons.1 hx with rfl | hx
   ·exact e0
   ·exact hp x (by simp [hx])
structure Sim [DecidableEq κ] (lt:κ->κ->Bool) (r l:List (κ×Int)):Prop where
 srt:SrtA lt r
 get:∀ k,fj r k=fj l k
theorem Sim.nil [DecidableEq κ] (lt:κ->κ->Bool):Sim lt ([]:List (κ×Int)) []:=⟨.nil,fun _=>rfl⟩
theorem Sim.set [DecidableEq κ] {lt:κ->κ->Bool} (O:StrictO lt) {r l r':List (κ×Int)} {k:κ} {v:Int} (h:Sim lt r l) (hs:SrtA lt l) (u:Upd lt r k v r'):Sim lt r' (vS lt l k v) :=
 ⟨u.srt,fun k'=>by rw [u.get,(xo O hs k v).get,h.get]⟩
end
section
variable {α β:Type}
end
end Go.SX
