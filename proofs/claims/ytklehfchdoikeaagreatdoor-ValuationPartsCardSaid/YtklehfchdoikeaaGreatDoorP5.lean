/- An abstract walk: lists of the call's own, and contracts ove; no condition. -/
import Derived.Test.YtklehfchdoikeaaGreatDoorP4
set_option maxRecDepth 100000
set_option maxHeartbeats 4000000
namespace Go.SX
open Go Go.RowKit
def uY (m:aA) (d:Key):Blk->Prop
 | .inr (.inr (.inl (v,e,sz,n,A)))=>aw m d=some (Blk.own v e sz n A)\/(v=.slice none 0 0/\n=0/\A=#[])
 | B=>aw m d=some B
theorem dc {m:aA} {d:Key}:∀ {B:Blk},uY m d B->aw m d=some B\/(B.tied=false/\B.num=none/\∀ w:World,B.at w)
 | .inr (.inr (.inl (v,e,sz,n,A))),h=>by
  rcases h with h | ⟨rfl,rfl,rfl⟩
  ·exact .inl h
  ·exact .inr ⟨rfl,rfl,fun w=>World.ownsRow_nil w 0 e sz⟩
 | .inr (.inr (.inr (b,R))),h=>.inl h
 | .inl _,h=>.inl h
 | .inr (.inl _),h=>.inl h
theorem ig {m:aA} {d:Key} {B:Blk} (h:uY m d B) (ht:B.tied=true):aw m d=some B:=by
 rcases dc h with h | ⟨h,-⟩
 ·exact h
 ·rw [ht] at h;cases h
def fZ (m:aA):aA->Prop
 | []=>True
 | (d,B) :: r=>uY m d B/\fZ m r
theorem qj {m:aA}:∀ {m1:aA},fZ m m1->∀ p,p∈m1->uY m p.1 p.2
 | [],_,p,hp=>by cases hp
 | (k,v) :: r,h,p,hp=>by
  rcases List.mem_cons.1 hp with rfl | hp
  ·exact h.1
  ·exact qj h.2 p hp
theorem iT {m:aA}:∀ {m1:aA},fZ m m1->∀ d B,aw m1 d=some B->uY m d B/\(d,B)∈m1
 | [],_,d,B,h=>by simp [aw] at h
 | (k,v) :: r,h,d,B,hd=>by
  simp only [aw] at hd
  by_cases e:k=d
  ·subst e;simp at hd;subst hd;exact ⟨h.1,by simp⟩
  ·rw [if_neg e] at hd
   obtain ⟨h1,h2⟩:=iT h.2 d B hd
   exact ⟨h1,by simp [h2]⟩
/-! ### a block that no key keeps is turned -/
theorem Wd.num_lt {E:Env} {ρ:Rho} {m:Mem} {w:World} (h:Wd E ρ m w) {d:Key} {B:Blk} {b:Nat} (hm:m d=some B) (hb:B.num=some b):b < w.heap.size:=by
 cases ht:B.tied with
 | true=>rw [Blk.num_none ht] at hb;cases hb
 | false=>exact Blk.at_lt (h.loose d B hm ht).2 hb
theorem Wd.set_loose {E:Env} {ρ:Rho} {m:Mem} {w w':World} (h:Wd E ρ m w) {d:Key} {no:Option Nat} {B':Blk}
    (hd:(m d=none/\no=none)\/∃ B,m d=some B/\B.tied=false/\B.num=no)
    (hos:w'.os=w.os) (hta:w'.tape=w.tape) (hou:w'.output=w.output) (hsz:w.heap.size<=w'.heap.size) (hk:∀ k,k < w.heap.size->some k≠no->w'.heap[k]? = w.heap[k]?)
    (ht:B'.tied=false) (hat:B'.at w') (hnum:∀ b,B'.num=some b->some b=no\/w.heap.size<=b):Wd E ρ (aS m [(d,B')]) w':=by
 have hρd:ρ d=none:=by
  rcases hd with ⟨h1,-⟩ | ⟨B,h1,h2,-⟩
  ·exact h.dom d h1
  ·exact (h.loose d B h1 h2).1
 have hno:∀ b,some b=no->(E.w0.heap.size<=b\/b∈E.X)/\(∀ e,ρ e≠some b)/\(∀ e B,m e=some B->B.num=some b->e=d):=by
  intro b hb
  rcases hd with ⟨-,h1⟩ | ⟨B,h1,h2,h3⟩
  ·rw [h1] at hb;cases hb
  ·exact h.sep d B b h1 (by rw [h3,hb])
 refine ⟨hos.trans h.os,hta.trans h.tape,hou.trans h.output,Nat.le_trans h.size hsz,fun k hk1 hx=>?_,fun e B he het=>?_,fun e he=>?_,fun e B he het=>?_,fun e B b he hb=>?_,h.inj,fun e j B hp he het=>?_⟩
 ·rw [hk k (Nat.lt_of_lt_of_le hk1 h.size) ?_]
  ·exact h.old k hk1 hx
  ·intro hb
   rcases (hno k hb).1 with h1 | h1
   ·omega
   ·exact hx h1
 ·by_cases e1:d=e
  ·subst e1
   simp only [aS,lk,if_true,Option.some.injEq] at he
   subst he;rw [ht] at het;cases het
  ·simp only [aS,lk,if_neg e1] at he
   obtain ⟨k,o,h1,h2,h3,h4⟩:=h.blk e B he het
   exact ⟨k,o,h1,h2,by rw [hk k (h.lt h1) (fun hb=>(hno k hb).2.1 e h1)];exact h3,h4⟩
 ·by_cases e1:d=e
  ·subst e1;simp [aS,lk] at he
  ·simp only [aS,lk,if_neg e1] at he
   exact h.dom e he
 ·by_cases e1:d=e
  ·subst e1
   simp only [aS,lk,if_true,Option.some.injEq] at he
   subst he
   exact ⟨hρd,hat⟩
  ·simp only [aS,lk,if_neg e1] at he
   obtain ⟨h1,h2⟩:=h.loose e B he het
   refine ⟨h1,Blk.at_same (fun b hb=>hk b (Blk.at_lt h2 hb) fun hb'=>?_) h2⟩
   exact e1 ((hno b hb').2.2 e B he hb).symm
 ·by_cases e1:d=e
  ·subst e1
   simp only [aS,lk,if_true,Option.some.injEq] at he
   subst he
   rcases hnum b hb with h1 | h1
   ·obtain ⟨h2,h3,h4⟩:=hno b h1
    refine ⟨h2,h3,fun e' B3 he' hb'=>?_⟩
    by_cases e2:d=e'
    ·exact e2.symm
    ·simp only [aS,lk,if_neg e2] at he'
     exact h4 e' B3 he' hb'
   ·refine ⟨.inl (Nat.le_trans h.size h1),fun e' he'=>?_,fun e' B3 he' hb'=>?_⟩
    ·have:=h.lt he';omega
    ·by_cases e2:d=e'
     ·exact e2.symm
     ·simp only [aS,lk,if_neg e2] at he'
      have:=h.num_lt he' hb';omega
  ·simp only [aS,lk,if_neg e1] at he
   obtain ⟨h2,h3,h4⟩:=h.sep e B b he hb
   refine ⟨h2,h3,fun e' B3 he' hb'=>?_⟩
   by_cases e2:d=e'
   ·subst e2
    simp only [aS,lk,if_true,Option.some.injEq] at he'
    subst he'
    exfalso
    rcases hnum b hb' with h1 | h1
    ·exact e1 ((hno b h1).2.2 e B he hb).symm
    ·have:=h.num_lt he hb;omega
   ·simp only [aS,lk,if_neg e2] at he'
    exact h4 e' B3 he' hb'
 ·by_cases e1:d=e
  ·subst e1
   simp only [aS,lk,if_true,Option.some.injEq] at he
   subst he;rw [ht] at het;cases het
  ·simp only [aS,lk,if_neg e1] at he
   exact h.par e j B hp he het
/-! ### lists that came in -/
def Lst (E:Env) (v:Value) (sz n:Nat) (A:Array Value):Prop :=
 A.size=n*sz/\n<=maxLen/\A.all (·.oneCell')=true/\∃ a cap,v=.slice a n cap/\n<=cap/\(0 < n->∃ b o,a=some ⟨b,o,none⟩/\∀ w,OldW E w->∀ j u,A[j]? = some u->w.cell? ⟨b,o+j,none⟩=some u)
theorem Lst.of_old {E E0:Env} (h:∀ w,OldW E w->OldW E0 w) {v:Value} {sz n:Nat} {A:Array Value} (hl:Lst E0 v sz n A):Lst E v sz n A:=by
 obtain ⟨h1,h2,h3,a,cap,rfl,hc,h4⟩:=hl
 refine ⟨h1,h2,h3,a,cap,rfl,hc,fun hn=>?_⟩
 obtain ⟨b,o,rfl,h5⟩:=h4 hn
 exact ⟨b,o,rfl,fun w hw=>h5 w (h w hw)⟩
theorem Lst.nil (E:Env) (sz:Nat):Lst E (.slice none 0 0) sz 0 #[]:=⟨by simp,by unfold maxLen;omega,by simp,none,0,rfl,Nat.le_refl _,fun h=>absurd h (by omega)⟩
def Src (E:Env) (m:Mem) (R:List Key) (s:SV) (sz k:Nat) (X:Array Value):Prop :=
 X.size=k*sz/\X.all (·.oneCell')=true/\∀ m' ρ w v,(∀ d,d∈R->m' d=m d)->Wd E ρ m' w->SV.rel ρ s v->∃ ad c,v=.slice (some ad) k c/\∀ j u,X[j]? = some u->w.cell? (ad.add j)=some u
theorem add_flat (b o n:Nat):(⟨b,o,none⟩:Addr).add n=⟨b,o+n,none⟩:=by simp [Addr.add]
theorem ML {E:Env} {m:Mem} {d:Key} {off len cap sz n:Nat} {ty:TypeId} {B:Array Value} (hm:m d=some (Blk.row ty n B)) (hn:off+len*sz<=n) (h1:B.all (·.oneCell')=true) (hB:B.size=n):Src E m [d] (SV.sl d off len cap) sz len (B.extract off (off+len*sz)):=by
 refine ⟨by simp;omega,?_,fun m' ρ w v hm' hw hv=>?_⟩
 ·rw [Array.all_eq_true_iff_forall_mem] at h1 ⊢
  intro x hx
  rw [<- Array.mem_toList_iff,Array.toList_extract] at hx
  exact h1 x (by simpa using List.mem_of_mem_drop (List.mem_of_mem_take hx))
 ·obtain ⟨k,o,h3,h4,h5,h6⟩:=hw.blk d _ ((hm' d (by simp)).trans hm) rfl
  obtain ⟨b,hb,rfl⟩:=hv
  rw [h3] at hb
  simp only [Option.some.injEq] at hb
  subst hb
  obtain ⟨h6,rfl⟩:=h6
  refine ⟨⟨k,off,none⟩,cap,rfl,fun j u hj=>?_⟩
  rw [add_flat,cu h5]
  rw [Array.getElem?_extract] at hj
  split at hj
  ·exact hj
  ·cases hj
theorem src_lst {E:Env} {m:Mem} {v:Value} {sz n:Nat} {A:Array Value} (h:Lst E v sz n A) (hn:0 < n):Src E m [] (SV.c v) sz n A:=by
 obtain ⟨h1,h2,h3,a,cap,rfl,hc,h4⟩:=h
 obtain ⟨b,o,rfl,h5⟩:=h4 hn
 refine ⟨h1,h3,fun m' ρ w u _ hw hv=>?_⟩
 have hv:u=_:=hv
 subst hv
 exact ⟨⟨b,o,none⟩,cap,rfl,fun j x hj=>by rw [add_flat];exact h5 w hw.oldW j x hj⟩
theorem BE {E:Env} {m:Mem} {d:Key} {v:Value} {e:TypeId} {sz n:Nat} {A:Array Value} (hm:m d=some (Blk.own v e sz n A)) (hA:A.all (·.oneCell')=true) (hsz:A.size=n*sz) (hn:0 < n):Src E m [d] (SV.c v) sz n A:=by
 refine ⟨hsz,hA,fun m' ρ w u hm' hw hv=>?_⟩
 have hv:u=_:=hv
 subst hv
 have h:=(hw.loose d _ ((hm' d (by simp)).trans hm) rfl).2
 have h:w.ownsRow 0 e sz u n A.toList:=h
 rcases h.2 with ⟨rfl,h0⟩ | ⟨g,cap,cur,rfl,-⟩
 ·omega
 ·refine ⟨_,cap,rfl,fun j x hj=>?_⟩
  exact World.ownsRow.cells h (g:=g) rfl j x (by simpa using hj)
theorem zY {P:Program} (w:World) (t ty e:TypeId) (i:TypeInfo) (z:Value) (sz:Nat) (ht:P.underlying t=some (.slice e)) (hi:P.info? e=some i) (hz:i.zero=some z)
    (hsize:i.size=sz) (hzs:z.cells.size=sz) (hsz:0 < sz) (v:Value) (n:Nat) (xs:List Value) (hown:w.ownsRow 0 e sz v n xs)
    (a:Addr) (m c:Nat) (news:List Value) (hl:news.length=m*sz) (hnews:∀ j u,news[j]? = some u->w.cell? (a.add j)=some u) (h1:∀ u∈news,u.oneCell'=true)
    (h63:n+m<=maxLen) (hbytes:(n+m)*i.bytes<=140737488355328) :
    ∃ v' w',(Builtin.append_ #[t,t] ty #[v,.slice (some a) m c]).run P w=.ok v' w'/\w'.ownsRow 0 e sz v' (n+m) (xs++news)/\w.grownBy w' v.ownBlock/\(∀ b,v'.ownBlock=some b->some b=v.ownBlock\/w.heap.size<=b):=by
 obtain ⟨v',w',hr,ho,hg,_⟩:=run_append_own (P:=P) w 0 t ty e i z sz i.bytes ht hi hz hsize rfl hzs hsz v n xs hown a m c news hl hnews h1 h63 hbytes (Nat.zero_le _)
 refine ⟨v',w',hr,ho,hg,?_⟩
 rcases hown.2 with ⟨rfl,hn⟩ | ⟨g,cap,cur,rfl,hbg,hgg,hnc,hcm,hcs,htake⟩
 ·subst hn
  have hx:xs=[]:=List.eq_nil_of_length_eq_zero (by simpa using hown.1)
  subst hx
  obtain ⟨v2,w2,hr2,ho2,_,_⟩:=run_append_own (P:=P) w w.heap.size t ty e i z sz i.bytes ht hi hz hsize rfl hzs hsz (.slice none 0 0) 0 [] (World.ownsRow_nil _ _ _ _) a m c news hl hnews h1 (by simpa using h63) (by simpa using hbytes) (Nat.le_refl _)
  rw [hr2] at hr
  injection hr with e1 e2
  subst e1;subst e2
  intro b hb
  exact .inr (ho2.lt b hb).1
 ·by_cases hroom:n+m<=cap
  ·have hr2:=run_append_room (P:=P) w t ty e i ht hi g n cap cur hgg a m c news (by rw [hsize];exact hl) hnews h1 hroom (by rw [hl,hsize,hcs,<- Nat.add_mul];exact Nat.mul_le_mul_right _ hroom)
   rw [hr2] at hr
   injection hr with e1 e2
   subst e1
   intro b hb
   exact .inl hb.symm
  ·have holds:∀ j x,xs[j]? = some x->w.cell? ((⟨g,0,none⟩:Addr).add j)=some x:=hown.cells (g:=g) rfl
   have hr2:=run_append_grow (P:=P) w t ty e i z ht hi hz ⟨g,0,none⟩ n cap xs (by rw [hsize];exact hown.1) holds a m c news (by rw [hsize];exact hl) hnews (by omega) (by unfold maxLen at h63;omega) (growslice_fits (by omega) hbytes)
   rw [hr2] at hr
   injection hr with e1 e2
   subst e1
   intro b hb
   have hb:w.heap.size=b:=by simpa [Value.ownBlock] using hb
   exact .inr (by omega)
def I2 (d:Key) (e:TypeId) (sz n:Nat) (A:Array Value) (s:SV) (U:List (Key×Blk)):Prop :=
 ∃ g cap,s=SV.c (.slice (some ⟨g,0,none⟩) n cap)/\U=[(d,Blk.own (.slice (some ⟨g,0,none⟩) n cap) e sz n A)]
theorem tX {w:World} {e:TypeId} {sz n:Nat} {v:Value} {xs:List Value} (h:w.ownsRow 0 e sz v n xs) (hn:0 < n):∃ g cap,v=.slice (some ⟨g,0,none⟩) n cap:=by
 rcases h.2 with ⟨_,h0⟩ | ⟨g,cap,cur,hv,_⟩
 ·omega
 ·exact ⟨g,cap,hv⟩
section
variable {E:VE} {o:Oper} {f:Frm} {m:Mem}
theorem xY (hE:VOk E) {c:Call} {x y:Operand} {t ty2:TypeId} {e:TypeId} {i j:TI} {v:Value} {s:SV} {d:Key} {R:List Key} {n k:Nat} {A X:Array Value} {q:TypeInfo}
    (ho:o.op=.call c) (hc:c.callee=.builtin .append) (hargs:c.args.toList=[x,y]) (hty:c.argTypes.toList=[t,ty2]) (htt:ty2=t)
    (hx:evF f x=SV.c v) (hy:evF f y=s) (hi:E.tt t=some i) (hk:i.kind=3) (he:i.elem=e) (hj:E.tt e=some j) (hj0:0 < j.size)
    (hent:m d=some (Blk.own v e j.size n A)\/(v=.slice none 0 0/\n=0/\A=#[]/\m d=none)) (hsrc:Src E.toEnv m R s j.size k X) (hn:0 < n+k) (h63:n+k<=maxLen)
    (hq:E.P.info? e=some q) (hby:(n+k)*q.bytes<=140737488355328) :
    Lm E.toEnv o f m (d :: R) (I2 d e j.size (n+k) (A++X)):=by
 intro f' m' hf hm ρ a w h1 h2 K Q hK
 subst ty2
 have hf:=fun x hx=>di (o:=o) hf (x:=x) hx
 have hxx:=az h1 x
 rw [hf x (by rw [ho];exact bV (by rw [hargs];simp)),hx] at hxx
 have hxx:=bf hxx
 have hyy:=az h1 y
 rw [hf y (by rw [ho];exact bV (by rw [hargs];simp)),hy] at hyy
 obtain ⟨hX,hX1,hsrc⟩:=hsrc
 obtain ⟨ad,cc,hyv,hcells⟩:=hsrc m' ρ w _ (fun d' hd'=>hm d' (by simp [hd'])) h2 hyy
 obtain ⟨dd,hu,_,hs⟩:=(hE t i hi).desc
 simp only [TI.says,hk] at hs
 subst hs
 rw [he] at hu
 have hsz:=(hE e j hj).size
 have hzr:=(hE e j hj).zero
 rw [hq] at hsz hzr
 simp only [Option.map_some,Option.some.injEq] at hsz
 simp only [Option.bind_some,Option.map_eq_some_iff] at hzr
 obtain ⟨z,hz,hzc⟩:=hzr
 have hentm:m' d=some (Blk.own v e j.size n A)\/(v=.slice none 0 0/\n=0/\A=#[]/\m' d=none):=by
  rw [hm d (by simp)];exact hent
 have hown:w.ownsRow 0 e j.size v n A.toList:=by
  rcases hentm with h3 | ⟨rfl,rfl,rfl,h3⟩
  ·exact (h2.loose d _ h3 rfl).2
  ·exact World.ownsRow_nil w 0 e j.size
 obtain ⟨v',w',hr,hown',hg,hfr⟩:=zY (P:=E.P) w t o.type e q z j.size hu hq hz hsz (by rw [hzc];exact (hE e j hj).zsize) hj0 v n A.toList hown ad k cc X.toList (by simpa using hX) (fun j' u hj'=>hcells j' u (by simpa using hj')) (by rw [Array.all_eq_true_iff_forall_mem] at hX1;intro u hu';exact hX1 u (by simpa using hu')) h63 hby
 have hown2:w'.ownsRow 0 e j.size v' (n+k) (A++X).toList:=by rw [Array.toList_append];exact hown'
 obtain ⟨g,cap,hv'⟩:=tX hown2 hn
 have e1:c.args.map a.eval=#[v,.slice (some ad) k cc]:=by
  apply Array.ext'
  rw [Array.toList_map,hargs]
  simp [hxx,hyv]
 have e2:c.argTypes=#[t,t]:=by apply Array.ext';rw [hty]
 unfold Oper.wp
 have hrun:(execOp a.eval o).run E.P w=.ok (.value v') w':=by
  simp only [execOp,ho,resolve,hc,e1,e2,Sem.run_bind,Sem.run_pure,Result.andThen_ok,invoke,builtin,hr]
 rw [hrun]
 refine hK ρ v' w' (SV.c v') [(d,Blk.own v' e j.size (n+k) (A++X))] ⟨g,cap,by rw [hv'],by rw [hv']⟩ (Ext.refl _) rfl ?_
 refine h2.set_loose (no:=v.ownBlock) ?_ hg.os hg.tape hg.output hg.size (fun k hk' hne=>hg.block k hk' hne) rfl hown2 hfr
 rcases hentm with h3 | ⟨rfl,rfl,rfl,h3⟩
 ·exact .inr ⟨_,h3,rfl,rfl⟩
 ·exact .inl ⟨h3,rfl⟩
theorem fq {w:World} {e:TypeId} {sz n g cap:Nat} {A:Array Value} (h:w.ownsRow 0 e sz (.slice (some ⟨g,0,none⟩) n cap) n A.toList):∃ cur,w.heap[g]? = some (.cells cur e (0,0))/\A.size=n*sz/\A.size<=cur.size/\n<=cap/\cap<=maxLen/\cur.size=cap*sz/\cur.toList.take A.size=A.toList:=by
 rcases h.2 with ⟨h0,_⟩ | ⟨g',cap',cur,hv,hb,hg,hnc,hcm,hcs,htake⟩
 ·cases h0
 ·cases hv
  have h1:A.size=n*sz:=by simpa using h.1
  exact ⟨cur,hg,h1,by rw [h1,hcs];exact Nat.mul_le_mul_right _ hnc,hnc,hcm,hcs,by rw [h1];exact htake⟩
theorem lD {A cur:Array Value} (h:cur.toList.take A.size=A.toList) {j:Nat} (hj:j < A.size):cur[j]? = A[j]?:=by
 rw [<- Array.getElem?_toList,<- Array.getElem?_toList,<- h,List.getElem?_take_of_lt hj]
theorem xL {A cur:Array Value} (h:cur.toList.take A.size=A.toList) {i j:Nat} (hj:j<=A.size):cur.extract i j=A.extract i j:=by
 have hl:A.size<=cur.size:=by
  have:=congrArg List.length h
  simp at this;omega
 apply Array.ext_getElem?
 intro k
 rw [Array.getElem?_extract,Array.getElem?_extract]
 by_cases hk:k < j - i
 ·rw [if_pos (by omega),if_pos (by omega),lD h (by omega)]
 ·rw [if_neg (by omega),if_neg (by omega)]
theorem zQ {A cur:Array Value} (h:cur.toList.take A.size=A.toList) {off:Nat} {l:List Value} (_hn:off+l.length<=A.size):(aM cur off l).toList.take (aM A off l).size=(aM A off l).toList:=by
 rw [co]
 have hl:A.size<=cur.size:=by
  have:=congrArg List.length h
  simp at this;omega
 apply List.ext_getElem?
 intro k
 by_cases hk:k < A.size
 ·rw [List.getElem?_take_of_lt hk,Array.getElem?_toList,Array.getElem?_toList,ct,ct]
  by_cases h1:k < off\/off+l.length<=k
  ·rw [if_pos h1,if_pos h1,lD h hk]
  ·rw [if_neg h1,if_neg h1,if_pos (by omega),if_pos hk]
 ·rw [List.getElem?_take_eq_none (by omega),Array.getElem?_toList,Array.getElem?_eq_none (by rw [co];omega)]
theorem JT {w:World} {e:TypeId} {sz n g cap:Nat} {A:Array Value} (h:w.ownsRow 0 e sz (.slice (some ⟨g,0,none⟩) n cap) n A.toList) {off:Nat} {l:List Value} (hn:off+l.length<=A.size):(w.setCells g off l).ownsRow 0 e sz (.slice (some ⟨g,0,none⟩) n cap) n (aM A off l).toList:=by
 obtain ⟨cur,hg,h1,h2,h3,h4,h5,h6⟩:=fq h
 refine ⟨by simp [co,h1],.inr ⟨g,cap,aM cur off l,rfl,Nat.zero_le _,dC l off w cur hg,h3,h4,by rw [co,h5],?_⟩⟩
 have:=zQ h6 hn
 rw [co] at this
 rw [<- h1];exact this
theorem ot {ρ:Rho} {m':Mem} {w:World} (h2:Wd E.toEnv ρ m' w) {d:Key} {v:Value} {e:TypeId} {sz n:Nat} {A:Array Value} (hm:m' d=some (Blk.own v e sz n A)):w.ownsRow 0 e sz v n A.toList:=(h2.loose d _ hm rfl).2
theorem qI (hE:VOk E) {ty:TypeId} {x:Operand} {d:Key} {g off n cap sz:Nat} {e:TypeId} {A:Array Value} {i:TI} (ho:o.op=.load ty x) (hx:evF f x=SV.c (.pointer (some ⟨g,off,none⟩))) (hm:m d=some (Blk.own (.slice (some ⟨g,0,none⟩) n cap) e sz n A)) (hi:E.tt ty=some i) (hr:i.row=true) (hn:off+i.size<=A.size) :
    Out E.toEnv o f m [d] (SV.c (.agg (A.extract off (off+i.size)))) [] :=
 aT fun f' m' ρ a w hf hmm h1 h2=>by
  have hxx:=az h1 x
  rw [hf x (by simp [ho,Op.operands]),hx] at hxx
  have hxx:=bf hxx
  obtain ⟨cur,hg,h3,h4,-,-,-,h6⟩:=fq (ot h2 ((hmm d (by simp)).trans hm))
  have hl:=pP (hE ty i hi) (off:=off) hg hr (by omega)
  rw [xL h6 hn] at hl
  exact ⟨ρ,_,w,by simp only [execOp,ho,hxx,Sem.run_bind,hl,Result.andThen_ok,Sem.run_pure],Ext.refl _,rfl,h2⟩
theorem pF (hE:VOk E) {ty:TypeId} {x:Operand} {d:Key} {g off n cap sz:Nat} {e:TypeId} {A:Array Value} {i:TI} {v:Value} (ho:o.op=.load ty x) (hx:evF f x=SV.c (.pointer (some ⟨g,off,none⟩))) (hm:m d=some (Blk.own (.slice (some ⟨g,0,none⟩) n cap) e sz n A)) (hi:E.tt ty=some i) (hr:i.row=false) (hv:A[off]? = some v) :
    Out E.toEnv o f m [d] (SV.c v) [] :=
 aT fun f' m' ρ a w hf hmm h1 h2=>by
  have hxx:=az h1 x
  rw [hf x (by simp [ho,Op.operands]),hx] at hxx
  have hxx:=bf hxx
  obtain ⟨cur,hg,h3,h4,-,-,-,h6⟩:=fq (ot h2 ((hmm d (by simp)).trans hm))
  have hlt:=(Array.getElem?_eq_some_iff.1 hv).1
  have hl:=eo (hE ty i hi) ((cu hg off).trans ((lD h6 hlt).trans hv)) hr
  exact ⟨ρ,_,w,by simp only [execOp,ho,hxx,Sem.run_bind,hl,Result.andThen_ok,Sem.run_pure],Ext.refl _,rfl,h2⟩
theorem jR {ρ:Rho} {m':Mem} {w:World} (h2:Wd E.toEnv ρ m' w) {d:Key} {g off n cap sz:Nat} {e:TypeId} {A:Array Value} (hm:m' d=some (Blk.own (.slice (some ⟨g,0,none⟩) n cap) e sz n A)) {l:List Value} (hn:off+l.length<=A.size) :
    Wd E.toEnv ρ (aS m' [(d,Blk.own (.slice (some ⟨g,0,none⟩) n cap) e sz n (aM A off l))]) (w.setCells g off l):=by
 obtain ⟨e1,e2,e3,e4⟩:=dk g l off w
 exact h2.set_loose (no:=some g) (.inr ⟨_,hm,rfl,rfl⟩) e1 e2 e3 (by rw [e4];exact Nat.le_refl _) (fun k _ hk=>cS l off w k (fun e=>hk (by rw [e]))) rfl (JT (ot h2 hm) hn) (fun b hb=>.inl hb.symm)
theorem pE (hE:VOk E) {ty:TypeId} {x y:Operand} {d:Key} {g off n cap sz:Nat} {e:TypeId} {A B:Array Value} {i:TI} (ho:o.op=.store ty x y) (hx:evF f x=SV.c (.pointer (some ⟨g,off,none⟩))) (hy:evF f y=SV.c (.agg B)) (hm:m d=some (Blk.own (.slice (some ⟨g,0,none⟩) n cap) e sz n A)) (hi:E.tt ty=some i) (hB:Fits B i.size) (hn:off+i.size<=A.size) :
    Out E.toEnv o f m [d] (SV.c undef) [(d,Blk.own (.slice (some ⟨g,0,none⟩) n cap) e sz n (aM A off B.toList))] :=
 fM fun f' m' ρ a w hf hmm h1 h2=>by
  have hxx:=az h1 x
  rw [hf x (by simp [ho,Op.operands]),hx] at hxx
  have hxx:=bf hxx
  have hyy:=az h1 y
  rw [hf y (by simp [ho,Op.operands]),hy] at hyy
  have hyy:=bf hyy
  have hm':=(hmm d (by simp)).trans hm
  obtain ⟨cur,hg,h3,h4,-,-,-,h6⟩:=fq (ot h2 hm')
  have hl:=qu (hE ty i hi) (off:=off) hg hB (by omega)
  exact ⟨_,by simp only [execOp,ho,hxx,hyy,Sem.run_bind,hl,Result.andThen_ok,Sem.run_pure],jR h2 hm' (by simp [hB.size];omega)⟩
theorem ou (hE:VOk E) {ty:TypeId} {x y:Operand} {d:Key} {g off n cap sz:Nat} {e:TypeId} {A:Array Value} {v:Value} {i:TI} (ho:o.op=.store ty x y) (hx:evF f x=SV.c (.pointer (some ⟨g,off,none⟩))) (hy:evF f y=SV.c v) (hm:m d=some (Blk.own (.slice (some ⟨g,0,none⟩) n cap) e sz n A)) (hi:E.tt ty=some i) (hs:i.size=1) (hv:v.oneCell'=true) (hn:off < A.size) :
    Out E.toEnv o f m [d] (SV.c undef) [(d,Blk.own (.slice (some ⟨g,0,none⟩) n cap) e sz n (A.setIfInBounds off v))] :=
 fM fun f' m' ρ a w hf hmm h1 h2=>by
  have hxx:=az h1 x
  rw [hf x (by simp [ho,Op.operands]),hx] at hxx
  have hxx:=bf hxx
  have hyy:=az h1 y
  rw [hf y (by simp [ho,Op.operands]),hy] at hyy
  have hyy:=bf hyy
  have hm':=(hmm d (by simp)).trans hm
  obtain ⟨cur,hg,h3,h4,-,-,-,h6⟩:=fq (ot h2 hm')
  have hl:=jt (v:=v) (hE ty i hi) ((cu hg off).trans (Array.getElem?_eq_getElem (by omega))) (gS hg off) hv hs
  exact ⟨w.setCell ⟨g,off,none⟩ v,by simp only [execOp,ho,hxx,hyy,Sem.run_bind,hl,Result.andThen_ok,Sem.run_pure],jR (l:=[v]) h2 hm' (by simp;omega)⟩
theorem runs_index (hE:VOk E) {t:TypeId} {g off n cap:Nat} {i j:TI} {k:IntKind} {x:Int} (hi:E.tt t=some i) (hd:i.kind=3) (hj:E.tt i.elem=some j) (h0:0<=x) (h1:x < n):bH E.toEnv (Instr.indexAt t (.slice (some ⟨g,off,none⟩) n cap) (.int k x)) (.pointer (some ⟨g,aO off x j.size,none⟩)):=fun w _=>by
 obtain ⟨dd,hu,_,hs⟩:=(hE t i hi).desc
 simp only [TI.says,hd] at hs
 subst hs
 have hc:0<=x/\x < (n:Int):=⟨h0,h1⟩
 simp only [Instr.indexAt,asIntOf,Sem.run_bind,run_underlying hu,Result.andThen_ok,Sem.run_pure,hc,and_self,if_true,run_sizeOf (hE _ j hj),Addr.add_mid,pH]
theorem zX (hE:VOk E) {s:TypeId} {fld fo g off:Nat} {fty:TypeId} {i j:TI} (hi:E.tt s=some i) (hd:i.kind=1) (hf0:i.fields[fld]? = some (fo,fty)) (hj:E.tt fty=some j) (hz:j.size≠0):bH E.toEnv (Instr.fieldAt s (.pointer (some ⟨g,off,none⟩)) fld) (.pointer (some ⟨g,off+fo,none⟩)):=fun w _=>by
 obtain ⟨dd,hu,_,hs⟩:=(hE s i hi).desc
 simp only [TI.says,hd] at hs
 obtain ⟨fs,rfl,hfs⟩:=hs
 obtain ⟨fd,hf1,rfl,rfl⟩:∃ fd,fs[fld]? = some fd/\fd.offset=fo/\fd.type=fty:=by
  rw [<- hfs,List.getElem?_map,Option.map_eq_some_iff] at hf0
  obtain ⟨fd,h1,h2⟩:=hf0
  simp only [Prod.mk.injEq] at h2
  exact ⟨fd,by simpa using h1,h2.1,h2.2⟩
 simp only [Instr.fieldAt,Sem.run_bind,run_underlying hu,Result.andThen_ok,hf1,Instr.sureAddr,Sem.run_pure,fieldPlace,run_sizeOf (hE fd.type j hj),if_neg hz,Addr.add_mid]
end
end Go.SX
namespace Go.SX
open Go Go.RowKit
def bY (m:aA) (d:Key):Bool:=match aw m d with
 | some B=>B.tied
 | none=>false
def jx:Blk->Bool
 | .inl _=>true
 | .inr (.inl _)=>false
 | .inr (.inr _)=>true
theorem oq {ρ ρ':Rho}:∀ {B:Blk} {o:Obj},jx B=true->Blk.rel ρ B o->Blk.rel ρ' B o
 | .inl _,_,_,h=>h
 | .inr (.inl _),_,h,_=>by cases h
 | .inr (.inr _),_,_,h=>h.elim
def keysM (m:aA):List Key:=m.map (·.1)
def distinct:List Key->Bool
 | []=>true
 | k :: r=>!r.contains k && distinct r
theorem aK:∀ {m:aA},distinct (keysM m)=true->∀ {p:Key×Blk},p∈m->aw m p.1=some p.2
 | (k,B) :: r,h,p,hp=>by
  simp only [keysM,List.map_cons,distinct,Bool.and_eq_true,Bool.not_eq_true'] at h
  rcases List.mem_cons.1 hp with rfl | hp
  ·simp [aw]
  ·simp only [aw]
   rw [if_neg ?_]
   ·exact aK h.2 hp
   ·intro e
    have:(r.map (·.1)).contains k=true:=by
     rw [List.contains_eq_mem];simp only [decide_eq_true_eq,List.mem_map]
     exact ⟨p,hp,e.symm⟩
    rw [this] at h;cases h.1
theorem gB {m:aA} {d:Key} {B:Blk} (h:aw m d=some B):d∈keysM m:=by
 simp only [keysM,List.mem_map];exact ⟨_,aW h,rfl⟩
/-! ### other names for keys -/
def dn:List (Key×Key)->Key->Key
 | [],d=>d
 | (a,b) :: r,d=>if a=d then b else dn r d
def dW (σ:List (Key×Key)):aA->aA
 | []=>[]
 | (d,B) :: r=>(dn σ d,B) :: dW σ r
def JF (σ:List (Key×Key)):SV->SV
 | .inl v=>.inl v
 | .inr (.inl (d,off))=>.inr (.inl (dn σ d,off))
 | .inr (.inr (.inl (d,off,len,cap)))=>.inr (.inr (.inl (dn σ d,off,len,cap)))
 | .inr (.inr (.inr (.inl (f,ds))))=>.inr (.inr (.inr (.inl (f,ds.map (dn σ)))))
 | .inr (.inr (.inr (.inr u)))=>.inr (.inr (.inr (.inr u)))
def iG:SV->List Key
 | .inl _=>[]
 | .inr (.inl (d,_))=>[d]
 | .inr (.inr (.inl (d,_,_,_)))=>[d]
 | .inr (.inr (.inr (.inl (_,ds))))=>ds
 | .inr (.inr (.inr (.inr _)))=>[]
def At (σ:List (Key×Key)) (ks:List Key):Bool:=ks.all fun a=>ks.all fun b=>!(Nat.beq (dn σ a) (dn σ b)) || Nat.beq a b
theorem rN {σ:List (Key×Key)} {ks:List Key} (h:At σ ks=true) {a b:Key} (ha:a∈ks) (hb:b∈ks) (e:dn σ a=dn σ b):a=b:=by
 have:=List.all_eq_true.1 (List.all_eq_true.1 h a ha) b hb
 rw [e] at this
 simp only [Nat.beq_refl,Bool.not_true,Bool.false_or] at this
 exact Nat.eq_of_beq_eq_true this
theorem sT {σ:List (Key×Key)}:∀ {m:aA} {d:Key} {B:Blk},aw (dW σ m) d=some B->∃ a,dn σ a=d/\(a,B)∈m
 | (a,C) :: r,d,B,h=>by
  simp only [dW,aw] at h
  by_cases e:dn σ a=d
  ·rw [if_pos e] at h;cases h;exact ⟨a,e,by simp⟩
  ·rw [if_neg e] at h
   obtain ⟨a',h1,h2⟩:=sT h
   exact ⟨a',h1,by simp [h2]⟩
theorem iD {σ:List (Key×Key)}:∀ {m:aA} {a:Key} {B:Blk},(a,B)∈m->(dn σ a,B)∈dW σ m
 | (a',C) :: r,a,B,h=>by
  simp only [dW]
  rcases List.mem_cons.1 h with h | h
  ·cases h;simp
  ·exact List.mem_cons_of_mem _ (iD h)
theorem xB {σ:List (Key×Key)} {ks:List Key} (h:At σ ks=true):∀ {m:aA},(∀ p∈m,p.1∈ks)->∀ {a:Key},a∈ks->aw (dW σ m) (dn σ a)=aw m a
 | [],_,a,_=>rfl
 | (k,C) :: r,hm,a,ha=>by
  simp only [dW,aw]
  by_cases e:k=a
  ·subst e;simp
  ·have:¬ dn σ k=dn σ a:=fun e2=>e (rN h (hm (k,C) (by simp)) ha e2)
   rw [if_neg this,if_neg e]
   exact xB h (fun p hp=>hm p (by simp [hp])) ha
/-! ### contracts over blocks that are handed in, with lists that come out -/
def Env.np (E:Env):Env:={ E with pk:=[] }
structure FrameX (ρ:Rho) (pre U:aA) (w w':World):Prop where
 size:w.heap.size<=w'.heap.size
 keep:∀ k,k < w.heap.size->(∀ p,p∈pre->ρ p.1≠some k/\p.2.num≠some k)->w'.heap[k]? = w.heap[k]?
 fresh:∀ d B b,aw U d=some B->B.num=some b->w.heap.size<=b\/∃ p,p∈pre/\p.2.num=some b
def OwnC (E:Env) (f:FuncId) (as:List SV) (pre:aA) (Q:Value->aA->Prop):Prop :=
 Enters E.P f/\∀ ρ w xs,Wd E.np ρ (aw pre) w->fU ρ as xs->Calls E.P f xs.toArray w fun e w'=>∃ x U,e=.returned x/\Q x U/\Wd E.np ρ (aw U) w'/\FrameX ρ pre U w w'
theorem OwnC.mono {E:Env} {f:FuncId} {as:List SV} {pre:aA} {Q Q':Value->aA->Prop} (h:OwnC E f as pre Q) (hQ:∀ x U,Q x U->Q' x U):OwnC E f as pre Q' :=
 ⟨h.1,fun ρ w xs h1 h2=>(h.2 ρ w xs h1 h2).mono fun _e _w' ⟨x,U,h3,h4,h5,h6⟩=>⟨x,U,h3,hQ x U h4,h5,h6⟩⟩
def p9 (ρ:Rho) (σ:List (Key×Key)) (pre:aA):Rho:=fun a=>if bY pre a then ρ (dn σ a) else none
theorem gD {ρ:Rho} {σ:List (Key×Key)} {pre:aA} {a:Key} {k:Nat} (h:p9 ρ σ pre a=some k):ρ (dn σ a)=some k/\∃ B,aw pre a=some B/\B.tied=true:=by
 unfold p9 at h
 split at h
 ·rename_i hk
  refine ⟨h,?_⟩
  unfold bY at hk
  split at hk
  ·rename_i B hB;exact ⟨B,hB,hk⟩
  ·cases hk
 ·cases h
def yN (m:Mem) (d:Key) (B:Blk):Prop:=m d=some B\/(m d=none/\B.tied=false/\B.num=none/\∀ w:World,B.at w)
section
variable {E:Env} {ρ:Rho} {m:Mem} {w:World} {σ:List (Key×Key)} {pre:aA} {as:List SV}
theorem Wd.handed (h:Wd E ρ m w) (_hd:distinct (keysM pre)=true) (hp:∀ p,p∈pre->yN m (dn σ p.1) p.2) (hpl:∀ p,p∈pre->jx p.2=true) (hi:At σ (keysM pre)=true):Wd E.np (p9 ρ σ pre) (aw pre) w:=by
 have hin:∀ a B,aw pre a=some B->yN m (dn σ a) B:=fun a B hB=>hp _ (aW hB)
 refine ⟨h.os,h.tape,h.output,h.size,h.old,fun a B hB ht=>?_,fun a ha=>?_,fun a B hB ht=>?_,fun a B b hB hb=>?_,fun a b k h1 h2=>?_,fun a k B hk=>by simp [Env.np] at hk⟩
 ·rcases hin a B hB with h1 | ⟨-,h1,-⟩
  ·obtain ⟨k,o,h2,h3,h4,h5⟩:=h.blk _ B h1 ht
   exact ⟨k,o,by simp [p9,bY,hB,ht,h2],h3,h4,oq (hpl _ (aW hB)) h5⟩
  ·rw [ht] at h1;cases h1
 ·simp [p9,bY,ha]
 ·refine ⟨by simp [p9,bY,hB,ht],?_⟩
  rcases hin a B hB with h1 | ⟨-,-,-,h1⟩
  ·exact (h.loose _ B h1 ht).2
  ·exact h1 w
 ·rcases hin a B hB with h1 | ⟨-,-,h1,-⟩
  ·obtain ⟨h2,h3,h4⟩:=h.sep _ B b h1 hb
   refine ⟨h2,fun e he=>h3 _ (gD he).1,fun e B' he hb'=>?_⟩
   rcases hin e B' he with h5 | ⟨-,-,h5,-⟩
   ·exact rN hi (gB he) (gB hB) (h4 _ B' h5 hb')
   ·rw [h5] at hb';cases hb'
  ·rw [h1] at hb;cases hb
 ·obtain ⟨h1,B,hB,-⟩:=gD h1
  obtain ⟨h2,B',hB',-⟩:=gD h2
  exact rN hi (gB hB) (gB hB') (h.inj _ _ _ h1 h2)
theorem xE (hk:∀ s,s∈as->(iG s).all (bY pre)=true):∀ {xs:List Value},fU ρ (as.map (JF σ)) xs->fU (p9 ρ σ pre) as xs:=by
 induction as with
 | nil=>intro xs h;cases xs with
  | nil=>trivial
  | cons=>exact h.elim
 | cons s as ih =>
  intro xs h
  cases xs with
  | nil=>exact h.elim
  | cons x xs =>
   refine ⟨?_,ih (fun s hs=>hk s (by simp [hs])) h.2⟩
   have h1:=h.1
   have h2:=hk s (by simp)
   match s,h1,h2 with
   | .inl v,h1,_=>exact h1
   | .inr (.inl (d,off)),⟨b,hb,e⟩,h2 =>
    simp only [iG,List.all_cons,List.all_nil,Bool.and_true] at h2
    exact ⟨b,by simp [p9,h2,hb],e⟩
   | .inr (.inr (.inl (d,off,len,cap))),⟨b,hb,e⟩,h2 =>
    simp only [iG,List.all_cons,List.all_nil,Bool.and_true] at h2
    exact ⟨b,by simp [p9,h2,hb],e⟩
   | .inr (.inr (.inr (.inl (f,ds)))),⟨bs,hb,e⟩,h2 =>
    refine ⟨bs,?_,e⟩
    rw [<- hb,List.map_map]
    refine List.map_congr_left fun d hd=>?_
    have:=List.all_eq_true.1 h2 d hd
    simp [p9,this]
   | .inr (.inr (.inr (.inr _))),_,_=>trivial
theorem Wd.back {w':World} {U:aA} (h:Wd E ρ m w) (hp:∀ p,p∈pre->yN m (dn σ p.1) p.2) (hU:Wd E.np (p9 ρ σ pre) (aw U) w') (hf:FrameX (p9 ρ σ pre) pre U w w')
    (hi:At σ (keysM pre++keysM U)=true) (hpl:∀ p,p∈U->jx p.2=true) (hall:∀ p,p∈pre->∃ B,aw U p.1=some B) (hnew:∀ p,p∈U->aw pre p.1=none->m (dn σ p.1)=none):Wd E ρ (aS m (dW σ U)) w':=by
 have hUk:∀ p∈U,p.1∈keysM pre++keysM U:=fun p hp=>by simp only [List.mem_append,keysM,List.mem_map];exact .inr ⟨p,hp,rfl⟩
 have hget:∀ {a},a∈keysM pre++keysM U->aw (dW σ U) (dn σ a)=aw U a:=fun ha=>xB hi hUk ha
 have hpk:∀ {p:Key×Blk},p∈pre->p.1∈keysM pre++keysM U:=fun {p} hp=>by simp only [List.mem_append,keysM,List.mem_map];exact .inl ⟨p,hp,rfl⟩
 -- a key of the caller's that is turned
 have hlk:∀ {e B},lk (dW σ U) e=some B->∃ a,dn σ a=e/\aw U a=some B:=fun {e B} he=>by
  rw [e9] at he
  obtain ⟨a,h1,h2⟩:=sT he
  refine ⟨a,h1,?_⟩
  rw [<- hget (hUk _ h2),h1];exact he
 have hin:∀ p,p∈pre->∃ B,lk (dW σ U) (dn σ p.1)=some B:=fun p hp=>by
  obtain ⟨B,hB⟩:=hall p hp
  exact ⟨B,by rw [e9,hget (hpk hp)];exact hB⟩
 have hnum:∀ p,p∈pre->∀ b,p.2.num=some b->m (dn σ p.1)=some p.2:=fun p hp' b hb=>by
  rcases hp p hp' with h1 | ⟨-,-,h1,-⟩
  ·exact h1
  ·rw [h1] at hb;cases hb
 -- a block of the caller's that was not handed in is as it was
 have hkeep:∀ k,k < w.heap.size->(∀ p,p∈pre->ρ (dn σ p.1)≠some k/\p.2.num≠some k)->w'.heap[k]? = w.heap[k]?:=fun k hk hne=>hf.keep k hk fun p hp'=>⟨fun h1=>(hne p hp').1 (gD h1).1,(hne p hp').2⟩
 refine ⟨hU.os,hU.tape,hU.output,hU.size,hU.old,fun e B he ht=>?_,fun e he=>?_,fun e B he ht=>?_,fun e B b he hb=>?_,h.inj,fun e k B hk he ht=>?_⟩
 ·simp only [aS] at he
  split at he
  ·rename_i B' hB'
   cases he
   obtain ⟨a,rfl,ha⟩:=hlk hB'
   obtain ⟨k,o,h1,h2,h3,h4⟩:=hU.blk a B ha ht
   exact ⟨k,o,(gD h1).1,h2,h3,oq (hpl _ (aW ha)) h4⟩
  ·rename_i hno
   obtain ⟨k,o,h1,h2,h3,h4⟩:=h.blk e B he ht
   refine ⟨k,o,h1,h2,?_,h4⟩
   rw [hkeep k (h.lt h1) fun p hp'=>⟨fun h5=>?_,fun h5=>(h.sep _ p.2 k (hnum p hp' k h5) h5).2.1 e h1⟩]
   ·exact h3
   ·have:=h.inj _ _ _ h5 h1
    obtain ⟨B2,hB2⟩:=hin p hp'
    rw [this,hno] at hB2;cases hB2
 ·simp only [aS] at he
  split at he
  ·cases he
  ·exact h.dom e he
 ·simp only [aS] at he
  split at he
  ·rename_i B' hB'
   cases he
   obtain ⟨a,rfl,ha⟩:=hlk hB'
   obtain ⟨h1,h2⟩:=hU.loose a B ha ht
   refine ⟨?_,h2⟩
   cases hpa:aw pre a with
   | none=>exact h.dom _ (hnew _ (aW ha) hpa)
   | some B0 =>
    rcases hp _ (aW hpa) with h3 | ⟨h3,-⟩
    ·cases ht0:B0.tied with
     | false=>exact (h.loose _ B0 h3 ht0).1
     | true =>
      obtain ⟨k,o,h4,-⟩:=h.blk _ B0 h3 ht0
      have:p9 ρ σ pre a=some k:=by simp [p9,bY,hpa,ht0];exact h4
      rw [this] at h1;cases h1
    ·exact h.dom _ h3
  ·rename_i hno
   obtain ⟨h1,h2⟩:=h.loose e B he ht
   refine ⟨h1,Blk.at_same (fun b hb=>hkeep b (Blk.at_lt h2 hb) fun p hp'=>⟨(h.sep e B b he hb).2.1 _,fun h5=>?_⟩) h2⟩
   have:=(h.sep _ p.2 b (hnum p hp' b h5) h5).2.2 e B he hb
   obtain ⟨B2,hB2⟩:=hin p hp'
   rw [<- this,hno] at hB2;cases hB2
 ·simp only [aS] at he
  split at he
  ·rename_i B' hB'
   cases he
   obtain ⟨a,rfl,ha⟩:=hlk hB'
   obtain ⟨h1,h2,h3⟩:=hU.sep a B b ha hb
   have hfr:=hf.fresh a B b ha hb
   refine ⟨h1,fun e he=>?_,fun e B2 he hb2=>?_⟩
   ·rcases hfr with h4 | ⟨p,hp',h4⟩
    ·have:=h.lt he;omega
    ·exact (h.sep _ p.2 b (hnum p hp' b h4) h4).2.1 e he
   ·simp only [aS] at he
    split at he
    ·rename_i B3 hB3
     cases he
     obtain ⟨a2,rfl,ha2⟩:=hlk hB3
     rw [h3 a2 B2 ha2 hb2]
    ·rename_i hno
     exfalso
     rcases hfr with h4 | ⟨p,hp',h4⟩
     ·have:=h.num_lt he hb2;omega
     ·have:=(h.sep _ p.2 b (hnum p hp' b h4) h4).2.2 e B2 he hb2
      obtain ⟨B4,hB4⟩:=hin p hp'
      rw [<- this,hno] at hB4;cases hB4
  ·rename_i hno
   obtain ⟨h1,h2,h3⟩:=h.sep e B b he hb
   refine ⟨h1,h2,fun e' B2 he' hb2=>?_⟩
   simp only [aS] at he'
   split at he'
   ·rename_i B3 hB3
    cases he'
    obtain ⟨a2,rfl,ha2⟩:=hlk hB3
    exfalso
    rcases hf.fresh a2 B2 b ha2 hb2 with h4 | ⟨p,hp',h4⟩
    ·have:=h.num_lt he hb;omega
    ·have:=(h.sep _ p.2 b (hnum p hp' b h4) h4).2.2 e B he hb
     obtain ⟨B4,hB4⟩:=hin p hp'
     rw [<- this,hno] at hB4;cases hB4
   ·exact h3 e' B2 he' hb2
 ·simp only [aS] at he
  split at he
  ·rename_i B' hB'
   cases he
   obtain ⟨a,rfl,ha⟩:=hlk hB'
   obtain ⟨k',o,h1,-⟩:=hU.blk a B ha ht
   obtain ⟨h2,B0,hB0,ht0⟩:=gD h1
   rcases hp _ (aW hB0) with h3 | ⟨h3,h4,-⟩
   ·exact h.par _ k B0 hk h3 ht0
   ·rw [ht0] at h4;cases h4
  ·exact h.par e k B hk he ht
end
def gW (ρ:Rho) (pre:aA):List Nat:=pre.filterMap fun p=>match p.2.tied with
 | true=>ρ p.1
 | false=>p.2.num
theorem cL {ρ:Rho} {pre:aA} {k:Nat}:k∈gW ρ pre↔∃ p,p∈pre/\((p.2.tied=true/\ρ p.1=some k)\/(p.2.tied=false/\p.2.num=some k)):=by
 unfold gW
 rw [List.mem_filterMap]
 constructor
 ·rintro ⟨p,hp,h⟩
  refine ⟨p,hp,?_⟩
  cases ht:p.2.tied with
  | true=>rw [ht] at h;exact .inl ⟨rfl,h⟩
  | false=>rw [ht] at h;exact .inr ⟨rfl,h⟩
 ·rintro ⟨p,hp,h⟩
  refine ⟨p,hp,?_⟩
  rcases h with ⟨h1,h2⟩ | ⟨h1,h2⟩
  ·rw [h1];exact h2
  ·rw [h1];exact h2
theorem DE {E:Env} {ρ:Rho} {pre:aA} {w:World} (h:Wd E ρ (aw pre) w) (hd:distinct (keysM pre)=true) {k:Nat} (hk:k∈gW ρ pre):E.w0.heap.size<=k\/k∈E.X:=by
 obtain ⟨p,hp,h1⟩:=cL.1 hk
 have hg:=aK hd hp
 rcases h1 with ⟨h1,h2⟩ | ⟨h1,h2⟩
 ·obtain ⟨k',o,h3,h4,-⟩:=h.blk _ _ hg h1
  rw [h2] at h3;cases h3;exact h4
 ·exact (h.sep _ _ k hg h2).1
theorem Gw {E:Env} {ρ:Rho} {pre:aA} {w:World} (h:Wd E ρ (aw pre) w) (hd:distinct (keysM pre)=true) {E1:Env} (hw:E1.w0=w) (hX:E1.X=gW ρ pre) {w':World} (h':OldW E1 w'):OldW E w':=by
 subst hw
 refine ⟨h'.os.trans h.os,h'.tape.trans h.tape,h'.output.trans h.output,Nat.le_trans h.size h'.size,fun k hk hx=>?_⟩
 rw [h'.old k (Nat.lt_of_lt_of_le hk h.size) ?_]
 ·exact h.old k hk hx
 ·intro h1
  rw [hX] at h1
  rcases DE h hd h1 with h2 | h2
  ·omega
  ·exact hx h2
theorem OwnC.with_own {E:Env} {f:FuncId} {as:List SV} {pre:aA} {Q:Value->aA->Prop} {k:Key} {v:Value} {e:TypeId} {sz n:Nat} {A:Array Value} (hk:aw pre k=none) (hd:distinct (keysM pre)=true) (hA:A.all (·.oneCell')=true) (hent:Enters E.P f)
    (h:∀ E0:Env,E0.P=E.P->Lst E0 v sz n A->OwnC E0 f as pre Q) (hQ:∀ x U,Q x U->aw U k=none):OwnC E f as ((k,Blk.own v e sz n A) :: pre) (fun x U=>∃ U0,Q x U0/\U=(k,Blk.own v e sz n A) :: U0):=by
 refine ⟨hent,fun ρ w xs hw hx=>?_⟩
 have hgk:aw ((k,Blk.own v e sz n A) :: pre) k=some (Blk.own v e sz n A):=by simp [aw]
 have hgo:∀ d B,aw pre d=some B->aw ((k,Blk.own v e sz n A) :: pre) d=some B:=fun d B hB=>by
  simp only [aw]
  rw [if_neg]
  ·exact hB
  ·rintro rfl;rw [hk] at hB;cases hB
 have hρk:=(hw.loose k _ hgk rfl).1
 have hrow:w.ownsRow 0 e sz v n A.toList:=(hw.loose k _ hgk rfl).2
 have hnk:∀ b,v.ownBlock=some b->b∉gW ρ pre:=fun b hb hm=>by
  obtain ⟨h1,h2,h3⟩:=hw.sep k _ b hgk hb
  obtain ⟨p,hp,h4⟩:=cL.1 hm
  have hg:=aK hd hp
  rcases h4 with ⟨h4,h5⟩ | ⟨h4,h5⟩
  ·exact h2 _ h5
  ·have:=h3 _ _ (hgo _ _ hg) h5
   rw [this] at hg;rw [hk] at hg;cases hg
 let E0:Env:={ E with w0:=w,X:=gW ρ pre }
 have hlst:Lst E0 v sz n A:=by
  rcases hrow.2 with ⟨rfl,rfl⟩ | ⟨g,cap,cur,rfl,hb,hg,hnc,hcm,hcs,htake⟩
  ·have hA0:A=#[]:=by simpa using hrow.1
   subst hA0
   exact Lst.nil E0 sz
  ·have hs:A.size=n*sz:=by simpa using hrow.1
   refine ⟨hs,Nat.le_trans hnc hcm,hA,some ⟨g,0,none⟩,cap,rfl,hnc,fun _=>⟨g,0,rfl,fun w' hw' j u hj=>?_⟩⟩
   have hgl:=(Array.getElem?_eq_some_iff.1 hg).1
   have h1:w'.heap[g]? = w.heap[g]?:=hw'.old g hgl (hnk g rfl)
   rw [Nat.zero_add,cu (h1.trans hg),lD (by rw [hs];exact htake) (Array.getElem?_eq_some_iff.1 hj).1]
   exact hj
 have hw0:Wd E0.np ρ (aw pre) w:=by
  refine ⟨rfl,rfl,rfl,Nat.le_refl _,fun _ _ _=>rfl,fun d B hB ht=>?_,fun d hdn=>?_,fun d B hB ht=>?_,fun d B b hB hb=>?_,hw.inj,fun d k' B hk'=>by simp [Env.np] at hk'⟩
  ·obtain ⟨k',o,h1,h2,h3,h4⟩:=hw.blk d B (hgo d B hB) ht
   exact ⟨k',o,h1,.inr (cL.2 ⟨_,aW hB,.inl ⟨ht,h1⟩⟩),h3,h4⟩
  ·by_cases e1:k=d
   ·subst e1;exact hρk
   ·exact hw.dom d (by simp only [aw,if_neg e1];exact hdn)
  ·exact hw.loose d B (hgo d B hB) ht
  ·obtain ⟨h1,h2,h3⟩:=hw.sep d B b (hgo d B hB) hb
   refine ⟨.inr (cL.2 ⟨_,aW hB,?_⟩),h2,fun e' B' he hb'=>h3 e' B' (hgo e' B' he) hb'⟩
   cases ht:B.tied with
   | true=>rw [Blk.num_none ht] at hb;cases hb
   | false=>exact .inr ⟨by first | exact ht | rfl,hb⟩
 refine ((h E0 rfl hlst).2 ρ w xs hw0 hx).mono fun en w' ⟨x,U,h1,h2,h3,h4⟩=>⟨x,_,h1,⟨U,h2,rfl⟩,?_,?_⟩
 · -- the world behind it
  have hUk:=hQ x U h2
  have hUo:∀ d B,aw ((k,Blk.own v e sz n A) :: U) d=some B->(d=k/\B=Blk.own v e sz n A)\/aw U d=some B:=fun d B hB=>by
   simp only [aw] at hB
   split at hB
   ·rename_i e1;cases hB;exact .inl ⟨e1.symm,rfl⟩
   ·exact .inr hB
  have hsame:∀ b,v.ownBlock=some b->w'.heap[b]? = w.heap[b]?:=fun b hb=>h4.keep b (World.ownsRow.lt hrow b hb).2 fun p hp=>⟨fun h5=>(hw.sep k _ b hgk hb).2.1 _ h5,fun h5=>by
   have:=(hw.sep k _ b hgk hb).2.2 _ _ (hgo _ _ (aK hd hp)) h5
   have hg:=aK hd hp
   rw [this,hk] at hg;cases hg⟩
  have hold:OldW E w':=by
   refine ⟨h3.os.trans hw.os,h3.tape.trans hw.tape,h3.output.trans hw.output,Nat.le_trans hw.size h3.size,fun k' hk' hx'=>?_⟩
   rw [h4.keep k' (Nat.lt_of_lt_of_le hk' hw.size) fun p hp=>?_]
   ·exact hw.old k' hk' hx'
   ·have hg:=hgo _ _ (aK hd hp)
    refine ⟨fun h5=>?_,fun h5=>?_⟩
    ·obtain ⟨B,hB,hBt⟩:=hw.tied_of h5
     obtain ⟨k2,o,h6,h7,-⟩:=hw.blk _ B hB hBt
     rw [h5] at h6;cases h6
     rcases h7 with h7 | h7
     ·have h7:E.w0.heap.size<=k':=h7
      omega
     ·exact hx' h7
    ·rcases (hw.sep _ _ k' hg h5).1 with h7 | h7
     ·have h7:E.w0.heap.size<=k':=h7
      omega
     ·exact hx' h7
  have hbase:∀ b,b∈gW ρ pre->E.w0.heap.size<=b\/b∈E.X:=fun b hb=>by
   obtain ⟨p,hp,h5⟩:=cL.1 hb
   have hg:=hgo _ _ (aK hd hp)
   rcases h5 with ⟨h5,h6⟩ | ⟨h5,h6⟩
   ·obtain ⟨k2,o,h7,h8,-⟩:=hw.blk _ _ hg h5
    rw [h6] at h7;cases h7;exact h8
   ·exact (hw.sep _ _ b hg h6).1
  refine ⟨hold.os,hold.tape,hold.output,hold.size,hold.old,fun d B hB ht=>?_,fun d hdn=>?_,fun d B hB ht=>?_,fun d B b hB hb=>?_,h3.inj,fun d k' B hk'=>by simp [Env.np] at hk'⟩
  ·rcases hUo d B hB with ⟨-,rfl⟩ | hB
   ·cases ht
   ·obtain ⟨k',o,h5,h6,h7,h8⟩:=h3.blk d B hB ht
    refine ⟨k',o,h5,?_,h7,h8⟩
    rcases h6 with h6 | h6
    ·exact .inl (Nat.le_trans hw.size h6)
    ·exact hbase k' h6
  ·by_cases e1:k=d
   ·subst e1;exact hρk
   ·simp only [aw,if_neg e1] at hdn;exact h3.dom d hdn
  ·rcases hUo d B hB with ⟨rfl,rfl⟩ | hB
   ·exact ⟨hρk,Blk.at_same (B:=Blk.own v e sz n A) hsame hrow⟩
   ·exact h3.loose d B hB ht
  ·rcases hUo d B hB with ⟨rfl,rfl⟩ | _
   ·obtain ⟨h5,h6,h7⟩:=hw.sep d _ b hgk hb
    refine ⟨h5,h6,fun e' B' he hb'=>?_⟩
    rcases hUo e' B' he with ⟨rfl,rfl⟩ | he
    ·rfl
    ·exfalso
     rcases h4.fresh e' B' b he hb' with h8 | ⟨p,hp,h8⟩
     ·have:=(World.ownsRow.lt hrow b hb).2;omega
     ·have:=h7 _ _ (hgo _ _ (aK hd hp)) h8
      have hg:=aK hd hp
      rw [this,hk] at hg;cases hg
   ·rename_i hB2
    obtain ⟨h5,h6,h7⟩:=h3.sep d B b hB2 hb
    refine ⟨?_,h6,fun e' B' he hb'=>?_⟩
    ·rcases h5 with h5 | h5
     ·exact .inl (Nat.le_trans hw.size h5)
     ·exact hbase b h5
    ·rcases hUo e' B' he with ⟨rfl,rfl⟩ | he
     ·exfalso
      have hb':v.ownBlock=some b:=hb'
      rcases h4.fresh d B b hB2 hb with h8 | ⟨p,hp,h8⟩
      ·have:=(World.ownsRow.lt hrow b hb').2;omega
      ·have:=(hw.sep _ _ b hgk hb').2.2 _ _ (hgo _ _ (aK hd hp)) h8
       have hg:=aK hd hp
       rw [this,hk] at hg;cases hg
     ·exact h7 e' B' he hb'
 ·refine ⟨h4.size,fun k' hk' hne=>h4.keep k' hk' fun p hp=>hne p (by simp [hp]),fun d B b hB hb=>?_⟩
  simp only [aw] at hB
  split at hB
  ·cases hB
   exact .inr ⟨(k,Blk.own v e sz n A),by simp,hb⟩
  ·rcases h4.fresh d B b hB hb with h5 | ⟨p,hp,h5⟩
   ·exact .inl h5
   ·exact .inr ⟨p,by simp [hp],h5⟩
end Go.SX
namespace Go.SX
open Go Go.RowKit
theorem OwnC.with_own2 {E:Env} {f:FuncId} {as:List SV} {pre:aA} {Q:Value->aA->Prop} {k:Key} {v:Value} {e:TypeId} {sz n:Nat} {A:Array Value} (hk:aw pre k=none) (hd:distinct (keysM pre)=true) (hA:A.all (·.oneCell')=true) (hent:Enters E.P f)
    (h:∀ E0:Env,E0.P=E.P->(∀ w,OldW E0 w->OldW E w)->Lst E0 v sz n A->OwnC E0 f as pre Q) (hQ:∀ x U,Q x U->aw U k=none):OwnC E f as ((k,Blk.own v e sz n A) :: pre) (fun x U=>∃ U0,Q x U0/\U=(k,Blk.own v e sz n A) :: U0):=by
 refine ⟨hent,fun ρ w xs hw hx=>?_⟩
 have hgk:aw ((k,Blk.own v e sz n A) :: pre) k=some (Blk.own v e sz n A):=by simp [aw]
 have hgo:∀ d B,aw pre d=some B->aw ((k,Blk.own v e sz n A) :: pre) d=some B:=fun d B hB=>by
  simp only [aw]
  rw [if_neg]
  ·exact hB
  ·rintro rfl;rw [hk] at hB;cases hB
 have hρk:=(hw.loose k _ hgk rfl).1
 have hrow:w.ownsRow 0 e sz v n A.toList:=(hw.loose k _ hgk rfl).2
 have hnk:∀ b,v.ownBlock=some b->b∉gW ρ pre:=fun b hb hm=>by
  obtain ⟨h1,h2,h3⟩:=hw.sep k _ b hgk hb
  obtain ⟨p,hp,h4⟩:=cL.1 hm
  have hg:=aK hd hp
  rcases h4 with ⟨h4,h5⟩ | ⟨h4,h5⟩
  ·exact h2 _ h5
  ·have:=h3 _ _ (hgo _ _ hg) h5
   rw [this] at hg;rw [hk] at hg;cases hg
 let E0:Env:={ E with w0:=w,X:=gW ρ pre }
 have hlst:Lst E0 v sz n A:=by
  rcases hrow.2 with ⟨rfl,rfl⟩ | ⟨g,cap,cur,rfl,hb,hg,hnc,hcm,hcs,htake⟩
  ·have hA0:A=#[]:=by simpa using hrow.1
   subst hA0
   exact Lst.nil E0 sz
  ·have hs:A.size=n*sz:=by simpa using hrow.1
   refine ⟨hs,Nat.le_trans hnc hcm,hA,some ⟨g,0,none⟩,cap,rfl,hnc,fun _=>⟨g,0,rfl,fun w' hw' j u hj=>?_⟩⟩
   have hgl:=(Array.getElem?_eq_some_iff.1 hg).1
   have h1:w'.heap[g]? = w.heap[g]?:=hw'.old g hgl (hnk g rfl)
   rw [Nat.zero_add,cu (h1.trans hg),lD (by rw [hs];exact htake) (Array.getElem?_eq_some_iff.1 hj).1]
   exact hj
 have hw0:Wd E0.np ρ (aw pre) w:=by
  refine ⟨rfl,rfl,rfl,Nat.le_refl _,fun _ _ _=>rfl,fun d B hB ht=>?_,fun d hdn=>?_,fun d B hB ht=>?_,fun d B b hB hb=>?_,hw.inj,fun d k' B hk'=>by simp [Env.np] at hk'⟩
  ·obtain ⟨k',o,h1,h2,h3,h4⟩:=hw.blk d B (hgo d B hB) ht
   exact ⟨k',o,h1,.inr (cL.2 ⟨_,aW hB,.inl ⟨ht,h1⟩⟩),h3,h4⟩
  ·by_cases e1:k=d
   ·subst e1;exact hρk
   ·exact hw.dom d (by simp only [aw,if_neg e1];exact hdn)
  ·exact hw.loose d B (hgo d B hB) ht
  ·obtain ⟨h1,h2,h3⟩:=hw.sep d B b (hgo d B hB) hb
   refine ⟨.inr (cL.2 ⟨_,aW hB,?_⟩),h2,fun e' B' he hb'=>h3 e' B' (hgo e' B' he) hb'⟩
   cases ht:B.tied with
   | true=>rw [Blk.num_none ht] at hb;cases hb
   | false=>exact .inr ⟨by first | exact ht | rfl,hb⟩
 have hE0:∀ w',OldW E0 w'->OldW E w':=fun w' h'=>by
  refine ⟨h'.os.trans hw.os,h'.tape.trans hw.tape,h'.output.trans hw.output,Nat.le_trans hw.size h'.size,fun k' hk' hx'=>?_⟩
  rw [h'.old k' (Nat.lt_of_lt_of_le hk' hw.size) fun h5=>?_]
  ·exact hw.old k' hk' hx'
  ·obtain ⟨p,hp,h5⟩:=cL.1 h5
   have hg:=hgo _ _ (aK hd hp)
   rcases h5 with ⟨h5,h6⟩ | ⟨h5,h6⟩
   ·obtain ⟨k2,o,h7,h8,-⟩:=hw.blk _ _ hg h5
    rw [h6] at h7;cases h7
    rcases h8 with h8 | h8
    ·have h8:E.w0.heap.size<=k':=h8
     omega
    ·exact hx' h8
   ·rcases (hw.sep _ _ k' hg h6).1 with h8 | h8
    ·have h8:E.w0.heap.size<=k':=h8
     omega
    ·exact hx' h8
 refine ((h E0 rfl hE0 hlst).2 ρ w xs hw0 hx).mono fun en w' ⟨x,U,h1,h2,h3,h4⟩=>⟨x,_,h1,⟨U,h2,rfl⟩,?_,?_⟩
 · -- the world behind it
  have hUk:=hQ x U h2
  have hUo:∀ d B,aw ((k,Blk.own v e sz n A) :: U) d=some B->(d=k/\B=Blk.own v e sz n A)\/aw U d=some B:=fun d B hB=>by
   simp only [aw] at hB
   split at hB
   ·rename_i e1;cases hB;exact .inl ⟨e1.symm,rfl⟩
   ·exact .inr hB
  have hsame:∀ b,v.ownBlock=some b->w'.heap[b]? = w.heap[b]?:=fun b hb=>h4.keep b (World.ownsRow.lt hrow b hb).2 fun p hp=>⟨fun h5=>(hw.sep k _ b hgk hb).2.1 _ h5,fun h5=>by
   have:=(hw.sep k _ b hgk hb).2.2 _ _ (hgo _ _ (aK hd hp)) h5
   have hg:=aK hd hp
   rw [this,hk] at hg;cases hg⟩
  have hold:OldW E w':=by
   refine ⟨h3.os.trans hw.os,h3.tape.trans hw.tape,h3.output.trans hw.output,Nat.le_trans hw.size h3.size,fun k' hk' hx'=>?_⟩
   rw [h4.keep k' (Nat.lt_of_lt_of_le hk' hw.size) fun p hp=>?_]
   ·exact hw.old k' hk' hx'
   ·have hg:=hgo _ _ (aK hd hp)
    refine ⟨fun h5=>?_,fun h5=>?_⟩
    ·obtain ⟨B,hB,hBt⟩:=hw.tied_of h5
     obtain ⟨k2,o,h6,h7,-⟩:=hw.blk _ B hB hBt
     rw [h5] at h6;cases h6
     rcases h7 with h7 | h7
     ·have h7:E.w0.heap.size<=k':=h7
      omega
     ·exact hx' h7
    ·rcases (hw.sep _ _ k' hg h5).1 with h7 | h7
     ·have h7:E.w0.heap.size<=k':=h7
      omega
     ·exact hx' h7
  have hbase:∀ b,b∈gW ρ pre->E.w0.heap.size<=b\/b∈E.X:=fun b hb=>by
   obtain ⟨p,hp,h5⟩:=cL.1 hb
   have hg:=hgo _ _ (aK hd hp)
   rcases h5 with ⟨h5,h6⟩ | ⟨h5,h6⟩
   ·obtain ⟨k2,o,h7,h8,-⟩:=hw.blk _ _ hg h5
    rw [h6] at h7;cases h7;exact h8
   ·exact (hw.sep _ _ b hg h6).1
  refine ⟨hold.os,hold.tape,hold.output,hold.size,hold.old,fun d B hB ht=>?_,fun d hdn=>?_,fun d B hB ht=>?_,fun d B b hB hb=>?_,h3.inj,fun d k' B hk'=>by simp [Env.np] at hk'⟩
  ·rcases hUo d B hB with ⟨-,rfl⟩ | hB
   ·cases ht
   ·obtain ⟨k',o,h5,h6,h7,h8⟩:=h3.blk d B hB ht
    refine ⟨k',o,h5,?_,h7,h8⟩
    rcases h6 with h6 | h6
    ·exact .inl (Nat.le_trans hw.size h6)
    ·exact hbase k' h6
  ·by_cases e1:k=d
   ·subst e1;exact hρk
   ·simp only [aw,if_neg e1] at hdn;exact h3.dom d hdn
  ·rcases hUo d B hB with ⟨rfl,rfl⟩ | hB
   ·exact ⟨hρk,Blk.at_same (B:=Blk.own v e sz n A) hsame hrow⟩
   ·exact h3.loose d B hB ht
  ·rcases hUo d B hB with ⟨rfl,rfl⟩ | _
   ·obtain ⟨h5,h6,h7⟩:=hw.sep d _ b hgk hb
    refine ⟨h5,h6,fun e' B' he hb'=>?_⟩
    rcases hUo e' B' he with ⟨rfl,rfl⟩ | he
    ·rfl
    ·exfalso
     rcases h4.fresh e' B' b he hb' with h8 | ⟨p,hp,h8⟩
     ·have:=(World.ownsRow.lt hrow b hb).2;omega
     ·have:=h7 _ _ (hgo _ _ (aK hd hp)) h8
      have hg:=aK hd hp
      rw [this,hk] at hg;cases hg
   ·rename_i hB2
    obtain ⟨h5,h6,h7⟩:=h3.sep d B b hB2 hb
    refine ⟨?_,h6,fun e' B' he hb'=>?_⟩
    ·rcases h5 with h5 | h5
     ·exact .inl (Nat.le_trans hw.size h5)
     ·exact hbase b h5
    ·rcases hUo e' B' he with ⟨rfl,rfl⟩ | he
     ·exfalso
      have hb':v.ownBlock=some b:=hb'
      rcases h4.fresh d B b hB2 hb with h8 | ⟨p,hp,h8⟩
      ·have:=(World.ownsRow.lt hrow b hb').2;omega
      ·have:=(hw.sep _ _ b hgk hb').2.2 _ _ (hgo _ _ (aK hd hp)) h8
       have hg:=aK hd hp
       rw [this,hk] at hg;cases hg
     ·exact h7 e' B' he hb'
 ·refine ⟨h4.size,fun k' hk' hne=>h4.keep k' hk' fun p hp=>hne p (by simp [hp]),fun d B b hB hb=>?_⟩
  simp only [aw] at hB
  split at hB
  ·cases hB
   exact .inr ⟨(k,Blk.own v e sz n A),by simp,hb⟩
  ·rcases h4.fresh d B b hB hb with h5 | ⟨p,hp,h5⟩
   ·exact .inl h5
   ·exact .inr ⟨p,by simp [hp],h5⟩
end Go.SX
