/- sums by texts: an answer, an addition. sums by balances: an ; no condition. -/
import Derived.Test.YtekfkdddadcalaaGreatDoorPositionSpoiltQ27
set_option maxRecDepth 100000
set_option maxHeartbeats 4000000
namespace Go.Proofs.YtekfkdddadcalaaGreatDoor
open Go Go.RowKit Go.SX
section
variable {κ:Type} [DecidableEq κ] {lt:κ->κ->Bool}
theorem Bg {α:Type} {p:α->Bool} {x:α}:∀ {l:List α},x∈l.takeWhile p->p x=true
 | [],h=>by cases h
 | y :: l,h=>by
  rw [List.takeWhile_cons] at h
  split at h
  ·rename_i hy
   rcases List.mem_cons.1 h with rfl | h
   ·exact hy
   ·exact Bg h
  ·cases h
theorem jx (O:StrictO lt) {H:List (κ×Int)} (hs:SrtA lt H) (k:κ):(dK H k=true->∃ p m s,H=p++(k,m) :: s/\ie lt H k=p.length/\ay H k=m/\(∀ x∈p,lt x.1 k=true)/\(∀ x∈s,lt k x.1=true))/\(dK H k=false->∃ p s,H=p++s/\ie lt H k=p.length/\ay H k=0/\(∀ x∈p,lt x.1 k=true)/\(∀ x∈s,lt k x.1=true)):=by
 have hsplit:=List.takeWhile_append_dropWhile (p:=fun x:κ×Int=>lt x.1 k) (l:=H)
 have h1:∀ x∈H.takeWhile (fun x=>lt x.1 k),lt x.1 k=true:=fun x hx=>Bg (p:=fun x:κ×Int=>lt x.1 k) hx
 have h0:∀ y t,H.dropWhile (fun x=>lt x.1 k)=y :: t->lt y.1 k=false:=fun y t e=>by
  have:=List.head?_dropWhile_not (p:=fun x:κ×Int=>lt x.1 k) (l:=H)
  rw [e] at this
  simpa using this
 generalize H.takeWhile (fun x=>lt x.1 k)=p at *
 generalize H.dropWhile (fun x=>lt x.1 k)=s at *
 subst hsplit
 have hs':=hs
 unfold SrtA at hs'
 rw [List.pairwise_append] at hs'
 have h2:∀ x∈s,lt x.1 k=false:=fun x hx=>by
  cases s with
  | nil=>cases hx
  | cons y t =>
   have hy:=h0 y t rfl
   rcases List.mem_cons.1 hx with rfl | hx
   ·exact hy
   ·cases e:lt x.1 k with
    | false=>rfl
    | true=>rw [O.tr _ _ _ ((List.pairwise_cons.1 hs'.2.1).1 x hx) e] at hy;cases hy
 have hp:=ou h1 h2
 have hh:=sH (k:=k) O hs h1 h2
 cases s with
 | nil =>
  refine ⟨fun h=>?_,fun _=>⟨p,[],rfl,hp,?_,h1,fun x hx=>by cases hx⟩⟩
  ·rw [hh] at h;cases h
  ·rw [dZ fun x hx=>O.ne (h1 x hx)];rfl
 | cons y t =>
  obtain ⟨a,m⟩:=y
  have hyt:=(List.pairwise_cons.1 hs'.2.1).1
  refine ⟨fun h=>?_,fun h=>?_⟩
  ·rw [hh] at h
   have e:a=k:=ab h
   subst e
   exact ⟨p,m,t,rfl,hp,by rw [dZ fun x hx=>O.ne (h1 x hx),cO],h1,hyt⟩
  ·rw [hh] at h
   have e:a≠k:=ae h
   have hka:lt k a=true:=by
    cases q:lt k a with
    | true=>rfl
    | false=>exact absurd (O.tri a k (h2 (a,m) (by simp)) q) e
   have h3:∀ x∈(a,m) :: t,lt k x.1=true:=fun x hx=>by
    rcases List.mem_cons.1 hx with rfl | hx
    ·exact hka
    ·exact O.tr _ _ _ hka (hyt x hx)
   exact ⟨p,(a,m) :: t,rfl,hp,by rw [dZ fun x hx=>O.ne (h1 x hx)];exact di fun x hx=>(O.ne (h3 x hx)).symm,h1,h3⟩
theorem mR (O:StrictO lt) {H p s:List (κ×Int)} {k:κ} (hs:SrtA lt H) (hz:NzA H) (hH:H=p++s\/∃ m,H=p++(k,m) :: s) (h1:∀ x∈p,lt x.1 k=true) (h2:∀ x∈s,lt k x.1=true) (v:Int):cM lt H k v=if v=0 then p++s else p++(k,v) :: s:=by
 have hps:SrtA lt (p++s):=by
  rcases hH with rfl | ⟨m,rfl⟩
  ·exact hs
  ·exact hs.parts.2.2
 have hg:∀ k',k'≠k->ay H k'=ay (p++s) k':=fun k' hk=>by
  rcases hH with rfl | ⟨m,rfl⟩
  ·rfl
  ·exact il hk
 have hn:NzA (p++s):=fun x hx=>by
  rcases hH with rfl | ⟨m,rfl⟩
  ·exact hz x hx
  ·rcases List.mem_append.1 hx with h | h
   ·exact hz x (by simp [h])
   ·exact hz x (by simp [h])
 split
 ·rename_i e;subst e
  exact (sh O hs hz (Upd.gone O h1 h2 hps hg) hn).symm
 ·rename_i e
  refine (sh O hs hz (Upd.mid O h1 h2 hps hg) fun x hx=>?_).symm
  rcases List.mem_append.1 hx with h | h
  ·exact hn x (by simp [h])
  ·rcases List.mem_cons.1 h with rfl | h
   ·exact e
   ·exact hn x (by simp [h])
end
theorem wG (j:Nat):aZ 0 ((j:Nat):Int) fy.size=j*2:=by
 show aZ 0 ((j:Nat):Int) 2=j*2
 simp [aZ]
theorem wk {H p s:List (Bs×Int)} {k:Bs} {m:Int} (h:H=p++(k,m) :: s):(cat ao H)[p.length*2+1]? = some (.int .i64 m):=by
 have g1:H[p.length]? = some (k,m):=by rw [h];exact cA _ _ _
 rw [bN aM H p.length (k,m) 1 g1 (by decide)]
 rfl
theorem Bu {p s:List (Bs×Int)} {k:Bs} {m v:Int}:(cat ao (p++(k,m) :: s)).setIfInBounds (p.length*2+1) (.int .i64 v)=cat ao (p++(k,v) :: s):=by
 have h1:=gI aM (l:=p++(k,m) :: s) (j:=p.length) (by simp) (k,v)
 rw [oo] at h1
 rw [<- h1]
 apply Array.ext_getElem?
 intro j
 have hsz:(cat ao (p++(k,m) :: s)).size=(p++(k,m) :: s).length*2:=Go.SX.cat_size aM _
 have hl:(p++(k,m) :: s).length=p.length+(s.length+1):=by simp
 rw [bk,Array.getElem?_setIfInBounds]
 have hlen:(ao (k,v)).toList.length=2:=rfl
 rw [hlen]
 by_cases c:p.length*2+1=j
 ·subst c
  rw [if_pos rfl,if_pos (by rw [hsz];omega),if_neg (by omega),if_pos (by rw [hsz];omega)]
  rw [show p.length*2+1 - p.length*2=1 by omega];rfl
 ·rw [if_neg c]
  by_cases c2:j=p.length*2
  ·subst c2
   rw [if_neg (by omega),if_pos (by rw [hsz];omega),Nat.sub_self]
   have g1:(p++(k,m) :: s)[p.length]? = some (k,m):=cA _ _ _
   have:=bN aM _ p.length (k,m) 0 g1 (by decide)
   rw [Nat.add_zero] at this
   rw [this];rfl
  ·rw [if_pos (by omega)]
theorem F7 {E:Env} (hE:E.P=Tryz.prog) {vh vc vp:Value} {day:Int} {H:List (Bs×Int)} {n:Nat} (hv:IsL vh n) (hn:n=H.length) (hn2:H.length<=1000000000000) (hs:SrtA ltB H) (k:Bs):OwnC E 86 [SV.ptr 9500 0,SV.c (.string (S k))] [(9501,Blk.own vh 136 2 n (cat ao H)),(9500,Blk.row 93 7 (LdA vh vc vp day))] (fun r U=>r=.int .i64 (ay H k)/\U=[(9501,Blk.own vh 136 2 n (cat ao H)),(9500,Blk.row 93 7 (LdA vh vc vp day))]):=by
 refine av [] af ah MI E hE [SV.ptr 9500 0,SV.c (.string (S k))] [(9501,Blk.own vh 136 2 n (cat ao H)),(9500,Blk.row 93 7 (LdA vh vc vp day))] _ rfl rfl fun w X β hT=>?_
 have PO:=x4 (E:=(aR Tryz.prog tt Tryz.f86.ntmps w X (aA [(9501,Blk.own vh 136 2 n (cat ao H)),(9500,Blk.row 93 7 (LdA vh vc vp day))] β)).toEnv) rfl (vh:=vh) (vc:=vc) (vp:=vp) (day:=day) hn hn2 hs k
 refine .inr (.inr (.inl ⟨[],[_,_],[_,_],_,[_,_],PO,rfl,⟨.inl rfl,rfl,trivial⟩,rfl,rfl,fun c=>?_,fun c=>?_⟩))
 ·have c:dK H k=true:=c
  obtain ⟨p,m,s,hH,hp,hg,-,-⟩:=(jx cJ hs k).1 c
  have hlH:=congrArg List.length hH
  simp only [List.length_append,List.length_cons] at hlH
  rcases hv with ⟨rfl,h0⟩ | ⟨g0,c0,rfl⟩
  ·omega
  have L1:=wk hH
  rw [hp]
  refine ⟨_,rfl,by omega,by omega,.inr ⟨9501,g0,_,n,_,_,_,_,rfl,rfl,_,(by rw [wG];exact L1),?_⟩⟩
  exact ⟨[_,_],[],⟨by rw [hg];rfl,rfl⟩,⟨.inl rfl,rfl,trivial⟩,rfl⟩
 ·have c:dK H k=false:=c
  obtain ⟨p,s,hH,hp,hg,-,-⟩:=(jx cJ hs k).2 c
  exact ⟨[_,_],[],⟨by rw [hg];rfl,rfl⟩,⟨.inl rfl,rfl,trivial⟩,rfl⟩
theorem Aj (k:Bs) {pl:List (Nat×Nat)} (hpl:pl=[(0,1),(1,1)]):Instr.fill (fun k=>pl[k]?) fy.zero [(0,.string (S k))]=some (ao (k,0)):=by
 subst hpl;rfl
theorem Ai (x:Bs×Int):Instr.fill (fun k=>some (k*fy.size,fy.size)) (madeCells fy.zero (1*fy.size)) [(0,.agg (ao x))]=some (ao x):=by kernel_rfl
theorem vT (vh vc vp u:Value) (day:Int):(LdA vh vc vp day).setIfInBounds 1 u=LdA u vc vp day:=rfl
def NJ (H:List (Bs×Int)) (vc vp:Value) (day:Int) (r:Value) (U:az):Prop:=∃ vh n,r=.tuple #[]/\IsL vh n/\n=H.length/\U=[(9501,Blk.own vh 136 2 n (cat ao H)),(9500,Blk.row 93 7 (LdA vh vc vp day))]
theorem bg {v:Value} {n:Nat} (h:IsL v n):v.oneCell'=true:=by
 rcases h with ⟨rfl,-⟩ | ⟨g,c,rfl⟩<;>rfl
theorem Gi {E:Env} (hE:E.P=Tryz.prog) {vh vc vp:Value} {day:Int} {H:List (Bs×Int)} {n:Nat} (hv:IsL vh n) (hn:n=H.length) (hn2:H.length<=100000000000) (hs:SrtA ltB H) (hz:NzA H) (k:Bs) (d:Int):OwnC E 88 [SV.ptr 9500 0,SV.c (.string (S k)),SV.c (.int .i64 d)] [(9501,Blk.own vh 136 2 n (cat ao H)),(9500,Blk.row 93 7 (LdA vh vc vp day))] (NJ (cM ltB H k (w64 (ay H k+d))) vc vp day):=by
 refine av [3] af ah MG E hE [SV.ptr 9500 0,SV.c (.string (S k)),SV.c (.int .i64 d)] [(9501,Blk.own vh 136 2 n (cat ao H)),(9500,Blk.row 93 7 (LdA vh vc vp day))] _ rfl rfl fun w X β hT=>?_
 have hE':(aR Tryz.prog tt Tryz.f88.ntmps w X (aA [(9501,Blk.own vh 136 2 n (cat ao H)),(9500,Blk.row 93 7 (LdA vh vc vp day))] β)).toEnv.P=Tryz.prog:=rfl
 have PO:=x4 hE' (vh:=vh) (vc:=vc) (vp:=vp) (day:=day) hn (by omega) hs k
 refine .inr (.inr (.inl ⟨[],[_,_],[_,_],_,[_,_],PO,rfl,⟨.inl rfl,rfl,trivial⟩,rfl,rfl,?_⟩))
 refine ⟨fun f mm=>∃ (v1:Value) (n1:Nat) (p s:List (Bs×Int)) (m:Int),IsL v1 n1/\n1=p.length+(s.length+1)/\n1<=H.length+1/\m=ay H k/\(∀ v,cM ltB H k v=if v=0 then p++s else p++(k,v) :: s)/\f=[(0,SV.ptr 9500 0),(2,SV.c (.int .i64 d)),(6,SV.c (.int .i64 (p.length:Nat)))]/\mm=[(9501,Blk.own v1 136 2 n1 (cat ao (p++(k,m) :: s))),(9500,Blk.row 93 7 (LdA v1 vc vp day))],⟨fun c=>?_,fun c=>?_⟩,?_⟩
 ·have c:(!dK H k)=true:=c
  have c:dK H k=false:=by simpa using c
  obtain ⟨p,s,rfl,hp,hg,h1,h2⟩:=(jx cJ hs k).2 c
  have SA:=mR cJ hs hz (.inl rfl) h1 h2
  rw [List.length_append] at hn2
  have I1:=CD hE' (v:=vh) (p:=p) (s:=s) hn (by rw [hn,List.length_append];omega) (k,0) (i:=(ie ltB (p++s) k:Nat)) (by rw [hp]) (m:=2)
  have e9:=bg hv
  refine ⟨_,rfl,_,Aj k rfl,.inl ⟨by decide,by decide,_,Ai (k,0),rfl,?_⟩⟩
  refine .inr (.inr (.inr ⟨[(9503,24)],[9501],[_,_,_],[_,_],_,I1,rfl,⟨.inl rfl,rfl,trivial⟩,rfl,trivial,?_⟩))
  rintro v1 U ⟨hv1,rfl⟩
  refine ⟨rfl,by decide,bg hv1,_,vT vh vc vp v1 day,?_⟩
  exact ⟨_,_,⟨v1,n+1,p,s,0,hv1,by rw [hn,List.length_append];omega,by rw [hn];exact Nat.le_refl _,hg.symm,SA,rfl,rfl⟩,⟨rfl,rfl,ag (by rw [hp]),trivial⟩,⟨.inl rfl,rfl,trivial⟩,rfl⟩
 ·have c:(!dK H k)=false:=c
  have c:dK H k=true:=by simpa using c
  obtain ⟨p,m,s,rfl,hp,hg,h1,h2⟩:=(jx cJ hs k).1 c
  have SA:=mR cJ hs hz (.inr ⟨m,rfl⟩) h1 h2
  exact ⟨_,_,⟨vh,n,p,s,m,hv,by rw [hn,List.length_append,List.length_cons],by omega,hg.symm,SA,rfl,rfl⟩,⟨rfl,rfl,ag (by rw [hp]),trivial⟩,⟨.inl rfl,rfl,trivial⟩,rfl⟩
 clear PO hv
 rintro f1 m1 ⟨v1,n1,p,s,m,hv1,hn1,hn1H,hm,SA,rfl,rfl⟩
 rcases hv1 with ⟨rfl,h0⟩ | ⟨g0,c0,rfl⟩
 ·omega
 have L1:=wk (H:=p++(k,m) :: s) rfl
 have S1:=Bu (p:=p) (s:=s) (k:=k) (m:=m) (v:=w64 (m+d))
 have L2:=wk (H:=p++(k,w64 (m+d)) :: s) rfl
 have hsz:(cat ao (p++(k,m) :: s)).size=n1*2:=by rw [Go.SX.cat_size aM,List.length_append,List.length_cons,hn1]
 rw [<- hm,SA]
 refine ⟨_,rfl,by omega,by omega,.inr ⟨9501,g0,_,n1,_,_,_,_,rfl,rfl,.int .i64 m,(by rw [wG];exact L1),?_⟩⟩
 refine ⟨by omega,by omega,⟨9501,g0,_,n1,_,_,_,_,rfl,rfl,(by rw [wG,hsz];omega),rfl,cat ao (p++(k,w64 (m+d)) :: s),(by rw [wG];exact S1),?_⟩⟩
 refine ⟨_,rfl,by omega,by omega,.inr ⟨9501,g0,_,n1,_,_,_,_,rfl,rfl,.int .i64 (w64 (m+d)),(by rw [wG];exact L2),fun c=>?_,fun c=>?_⟩⟩
 ·have c:(w64 (m+d) == 0)=true:=c
  have c:w64 (m+d)=0:=by simpa using c
  rw [if_pos c]
  have DO:=Dp hE' (v:=.slice (some ⟨g0,0,none⟩) n1 c0) (p:=p) (s:=s) (x:=(k,w64 (m+d))) (n:=n1) (by rw [List.length_append,List.length_cons];exact hn1) (by omega) (i:=(p.length:Nat)) (j:=IntKind.i64.wrap ((p.length:Nat)+1)) rfl (au (by omega))
  refine ⟨_,rfl,.inr (.inr (.inr ⟨[],[9501],[_,_,_],[_],_,DO,rfl,⟨.inl rfl,trivial⟩,rfl,trivial,?_⟩))⟩
  rintro v2 U ⟨hv2,rfl⟩
  refine ⟨rfl,by decide,bg hv2,_,vT _ vc vp v2 day,?_⟩
  exact ⟨[_,_],[],⟨v2,_,rfl,hv2,rfl,rfl⟩,⟨.inl rfl,rfl,trivial⟩,rfl⟩
 ·have c:(w64 (m+d) == 0)=false:=c
  have c:w64 (m+d)≠0:=by simpa using c
  rw [if_neg c]
  exact ⟨[_,_],[],⟨_,n1,rfl,.inr ⟨g0,c0,rfl⟩,by rw [List.length_append,List.length_cons];exact hn1,rfl⟩,⟨.inl rfl,rfl,trivial⟩,rfl⟩
end Go.Proofs.YtekfkdddadcalaaGreatDoor
namespace Go.Proofs.YtekfkdddadcalaaGreatDoor
open Go Go.RowKit Go.SX
theorem qy (j:Nat):aZ 0 ((j:Nat):Int) dI.size=j*3:=by
 show aZ 0 ((j:Nat):Int) 3=j*3
 simp [aZ]
theorem r0 {H p s:List (Ky×Int)} {k:Ky} {m:Int} (h:H=p++(k,m) :: s):(cat ai H)[p.length*3+2]? = some (.int .i64 m):=by
 have g1:H[p.length]? = some (k,m):=by rw [h];exact cA _ _ _
 rw [bN aS H p.length (k,m) 2 g1 (by decide)]
 rfl
theorem tH {p s:List (Ky×Int)} {k:Ky} {m v:Int}:(cat ai (p++(k,m) :: s)).setIfInBounds (p.length*3+2) (.int .i64 v)=cat ai (p++(k,v) :: s):=by
 have h1:=gI aS (l:=p++(k,m) :: s) (j:=p.length) (by simp) (k,v)
 rw [oo] at h1
 rw [<- h1]
 apply Array.ext_getElem?
 intro j
 have hsz:(cat ai (p++(k,m) :: s)).size=(p++(k,m) :: s).length*3:=Go.SX.cat_size aS _
 have hl:(p++(k,m) :: s).length=p.length+(s.length+1):=by simp
 rw [bk,Array.getElem?_setIfInBounds]
 have hlen:(ai (k,v)).toList.length=3:=rfl
 rw [hlen]
 have g1:(p++(k,m) :: s)[p.length]? = some (k,m):=cA _ _ _
 by_cases c:p.length*3+2=j
 ·subst c
  rw [if_pos rfl,if_pos (by rw [hsz];omega),if_neg (by omega),if_pos (by rw [hsz];omega)]
  rw [show p.length*3+2 - p.length*3=2 by omega];rfl
 ·rw [if_neg c]
  by_cases c2:j=p.length*3
  ·subst c2
   rw [if_neg (by omega),if_pos (by rw [hsz];omega),Nat.sub_self]
   have:=bN aS _ p.length (k,m) 0 g1 (by decide)
   rw [Nat.add_zero] at this
   rw [this];rfl
  ·by_cases c3:j=p.length*3+1
   ·subst c3
    rw [if_neg (by omega),if_pos (by rw [hsz];omega),show p.length*3+1 - p.length*3=1 by omega]
    have:=bN aS _ p.length (k,m) 1 g1 (by decide)
    rw [this];rfl
   ·rw [if_pos (by omega)]
theorem C7 (k:Ky) {pl:List (Nat×Nat)} (hpl:pl=[(0,2),(2,1)]):Instr.fill (fun k=>pl[k]?) dI.zero [(0,.agg (KyA k))]=some (ai (k,0)):=by
 subst hpl;rfl
theorem C5 (x:Ky×Int):Instr.fill (fun k=>some (k*dI.size,dI.size)) (madeCells dI.zero (1*dI.size)) [(0,.agg (ai x))]=some (ai x):=by kernel_rfl
theorem vS (vh vc vp u:Value) (day:Int):(LdA vh vc vp day).setIfInBounds 3 u=LdA vh u vp day:=rfl
def LH (H:List (Ky×Int)) (vh vp:Value) (day:Int) (r:Value) (U:az):Prop:=∃ vc n,r=.tuple #[]/\IsL vc n/\n=H.length/\U=[(9501,Blk.own vc 183 3 n (cat ai H)),(9500,Blk.row 93 7 (LdA vh vc vp day))]
theorem Gj {E:Env} (hE:E.P=Tryz.prog) {vh vc vp:Value} {day:Int} {H:List (Ky×Int)} {n:Nat} (hv:IsL vc n) (hn:n=H.length) (hn2:H.length<=100000000000) (hs:SrtA bx H) (hz:NzA H) (k:Ky) (d:Int):OwnC E 89 [SV.ptr 9500 2,SV.c (.agg (KyA k)),SV.c (.int .i64 d)] [(9501,Blk.own vc 183 3 n (cat ai H)),(9500,Blk.row 93 7 (LdA vh vc vp day))] (LH (cM bx H k (w64 (ay H k+d))) vh vp day):=by
 refine av [4] af ah I6 E hE [SV.ptr 9500 2,SV.c (.agg (KyA k)),SV.c (.int .i64 d)] [(9501,Blk.own vc 183 3 n (cat ai H)),(9500,Blk.row 93 7 (LdA vh vc vp day))] _ rfl rfl fun w X β hT=>?_
 have hE':(aR Tryz.prog tt Tryz.f89.ntmps w X (aA [(9501,Blk.own vc 183 3 n (cat ai H)),(9500,Blk.row 93 7 (LdA vh vc vp day))] β)).toEnv.P=Tryz.prog:=rfl
 have PO:=un hE' (vh:=vh) (vc:=vc) (vp:=vp) (day:=day) (off:=2) rfl (vl:=vc) rfl hn (by omega) hs k
 refine ⟨rfl,?_⟩
 refine .inr (.inr (.inl ⟨[],[_,_],[_,_],_,[_,_],PO,rfl,⟨.inl rfl,rfl,trivial⟩,rfl,rfl,?_⟩))
 refine ⟨fun f mm=>∃ (v1:Value) (n1:Nat) (p s:List (Ky×Int)) (m:Int),IsL v1 n1/\n1=p.length+(s.length+1)/\n1<=H.length+1/\m=ay H k/\(∀ v,cM bx H k v=if v=0 then p++s else p++(k,v) :: s)/\f=[(0,SV.ptr 9500 2),(2,SV.c (.int .i64 d)),(6,SV.c (.int .i64 (p.length:Nat)))]/\mm=[(9501,Blk.own v1 183 3 n1 (cat ai (p++(k,m) :: s))),(9500,Blk.row 93 7 (LdA vh v1 vp day))],⟨fun c=>?_,fun c=>?_⟩,?_⟩
 ·have c:(!dK H k)=true:=c
  have c:dK H k=false:=by simpa using c
  obtain ⟨p,s,rfl,hp,hg,h1,h2⟩:=(jx bB hs k).2 c
  have SA:=mR bB hs hz (.inl rfl) h1 h2
  rw [List.length_append] at hn2
  have I1:=uK hE' (v:=vc) (p:=p) (s:=s) hn (by rw [hn,List.length_append];omega) (k,0) (i:=(ie bx (p++s) k:Nat)) (by rw [hp]) (m:=3)
  have e9:=bg hv
  refine ⟨_,rfl,_,C7 k rfl,.inl ⟨by decide,by decide,_,C5 (k,0),rfl,?_⟩⟩
  refine .inr (.inr (.inr ⟨[(9503,24)],[9501],[_,_,_],[_,_],_,I1,rfl,⟨.inl rfl,rfl,trivial⟩,by kernel_rfl,(by change _=true;kernel_rfl),?_⟩))
  rintro v1 U ⟨hv1,rfl⟩
  refine ⟨by kernel_rfl,by decide,bg hv1,_,vS vh vc vp v1 day,by kernel_rfl,?_⟩
  exact ⟨_,_,⟨v1,n+1,p,s,0,hv1,by rw [hn,List.length_append];omega,by rw [hn];exact Nat.le_refl _,hg.symm,SA,rfl,rfl⟩,⟨rfl,rfl,ag (by rw [hp]),trivial⟩,⟨.inl rfl,rfl,trivial⟩,rfl⟩
 ·have c:(!dK H k)=false:=c
  have c:dK H k=true:=by simpa using c
  obtain ⟨p,m,s,rfl,hp,hg,h1,h2⟩:=(jx bB hs k).1 c
  have SA:=mR bB hs hz (.inr ⟨m,rfl⟩) h1 h2
  exact ⟨_,_,⟨vc,n,p,s,m,hv,by rw [hn,List.length_append,List.length_cons],by omega,hg.symm,SA,rfl,rfl⟩,⟨rfl,rfl,ag (by rw [hp]),trivial⟩,⟨.inl rfl,rfl,trivial⟩,rfl⟩
 clear PO hv
 rintro f1 m1 ⟨v1,n1,p,s,m,hv1,hn1,hn1H,hm,SA,rfl,rfl⟩
 rcases hv1 with ⟨rfl,h0⟩ | ⟨g0,c0,rfl⟩
 ·omega
 have L1:=r0 (H:=p++(k,m) :: s) rfl
 have S1:=tH (p:=p) (s:=s) (k:=k) (m:=m) (v:=w64 (m+d))
 have L2:=r0 (H:=p++(k,w64 (m+d)) :: s) rfl
 have hsz:(cat ai (p++(k,m) :: s)).size=n1*3:=by rw [Go.SX.cat_size aS,List.length_append,List.length_cons,hn1]
 rw [<- hm,SA]
 refine ⟨_,rfl,by omega,by omega,.inr ⟨9501,g0,_,n1,_,_,_,_,rfl,rfl,.int .i64 m,(by rw [qy];exact L1),?_⟩⟩
 refine ⟨by omega,by omega,⟨9501,g0,_,n1,_,_,_,_,rfl,rfl,(by rw [qy,hsz];omega),rfl,cat ai (p++(k,w64 (m+d)) :: s),(by rw [qy];exact S1),?_⟩⟩
 refine ⟨_,rfl,by omega,by omega,.inr ⟨9501,g0,_,n1,_,_,_,_,rfl,rfl,.int .i64 (w64 (m+d)),(by rw [qy];exact L2),fun c=>?_,fun c=>?_⟩⟩
 ·have c:(w64 (m+d) == 0)=true:=c
  have c:w64 (m+d)=0:=by simpa using c
  rw [if_pos c]
  have DO:=vw hE' (v:=.slice (some ⟨g0,0,none⟩) n1 c0) (p:=p) (s:=s) (x:=(k,w64 (m+d))) (n:=n1) (by rw [List.length_append,List.length_cons];exact hn1) (by omega) (i:=(p.length:Nat)) (j:=IntKind.i64.wrap ((p.length:Nat)+1)) rfl (au (by omega))
  refine ⟨_,rfl,.inr (.inr (.inr ⟨[],[9501],[_,_,_],[_],_,DO,rfl,⟨.inl rfl,trivial⟩,rfl,trivial,?_⟩))⟩
  rintro v2 U ⟨hv2,rfl⟩
  refine ⟨rfl,by decide,bg hv2,_,vS vh _ vp v2 day,?_⟩
  exact ⟨[_,_],[],⟨v2,_,rfl,hv2,rfl,rfl⟩,⟨.inl rfl,rfl,trivial⟩,rfl⟩
 ·have c:(w64 (m+d) == 0)=false:=c
  have c:w64 (m+d)≠0:=by simpa using c
  rw [if_neg c]
  exact ⟨[_,_],[],⟨_,n1,rfl,.inr ⟨g0,c0,rfl⟩,by rw [List.length_append,List.length_cons];exact hn1,rfl⟩,⟨.inl rfl,rfl,trivial⟩,rfl⟩
theorem C6 (k:Ky) {pl:List (Nat×Nat)} (hpl:pl=[(0,2),(2,1)]):Instr.fill (fun k=>pl[k]?) dI.zero [(0,.agg (KyA k))]=some (ai (k,0)):=by
 subst hpl;rfl
theorem C4 (x:Ky×Int):Instr.fill (fun k=>some (k*dI.size,dI.size)) (madeCells dI.zero (1*dI.size)) [(0,.agg (ai x))]=some (ai x):=by kernel_rfl
theorem vR (vh vc vp u:Value) (day:Int):(LdA vh vc vp day).setIfInBounds 5 u=LdA vh vc u day:=rfl
def LG (H:List (Ky×Int)) (vh vc:Value) (day:Int) (r:Value) (U:az):Prop:=∃ vp n,r=.tuple #[]/\IsL vp n/\n=H.length/\U=[(9501,Blk.own vp 183 3 n (cat ai H)),(9500,Blk.row 93 7 (LdA vh vc vp day))]
theorem Ly {E:Env} (hE:E.P=Tryz.prog) {vh vc vp:Value} {day:Int} {H:List (Ky×Int)} {n:Nat} (hv:IsL vp n) (hn:n=H.length) (hn2:H.length<=100000000000) (hs:SrtA bx H) (hz:NzA H) (k:Ky) (d:Int):OwnC E 89 [SV.ptr 9500 4,SV.c (.agg (KyA k)),SV.c (.int .i64 d)] [(9501,Blk.own vp 183 3 n (cat ai H)),(9500,Blk.row 93 7 (LdA vh vc vp day))] (LG (cM bx H k (w64 (ay H k+d))) vh vc day):=by
 refine av [4] af ah I6 E hE [SV.ptr 9500 4,SV.c (.agg (KyA k)),SV.c (.int .i64 d)] [(9501,Blk.own vp 183 3 n (cat ai H)),(9500,Blk.row 93 7 (LdA vh vc vp day))] _ rfl rfl fun w X β hT=>?_
 have hE':(aR Tryz.prog tt Tryz.f89.ntmps w X (aA [(9501,Blk.own vp 183 3 n (cat ai H)),(9500,Blk.row 93 7 (LdA vh vc vp day))] β)).toEnv.P=Tryz.prog:=rfl
 have PO:=un hE' (vh:=vh) (vc:=vc) (vp:=vp) (day:=day) (off:=4) rfl (vl:=vp) rfl hn (by omega) hs k
 refine ⟨rfl,?_⟩
 refine .inr (.inr (.inl ⟨[],[_,_],[_,_],_,[_,_],PO,rfl,⟨.inl rfl,rfl,trivial⟩,rfl,rfl,?_⟩))
 refine ⟨fun f mm=>∃ (v1:Value) (n1:Nat) (p s:List (Ky×Int)) (m:Int),IsL v1 n1/\n1=p.length+(s.length+1)/\n1<=H.length+1/\m=ay H k/\(∀ v,cM bx H k v=if v=0 then p++s else p++(k,v) :: s)/\f=[(0,SV.ptr 9500 4),(2,SV.c (.int .i64 d)),(6,SV.c (.int .i64 (p.length:Nat)))]/\mm=[(9501,Blk.own v1 183 3 n1 (cat ai (p++(k,m) :: s))),(9500,Blk.row 93 7 (LdA vh vc v1 day))],⟨fun c=>?_,fun c=>?_⟩,?_⟩
 ·have c:(!dK H k)=true:=c
  have c:dK H k=false:=by simpa using c
  obtain ⟨p,s,rfl,hp,hg,h1,h2⟩:=(jx bB hs k).2 c
  have SA:=mR bB hs hz (.inl rfl) h1 h2
  rw [List.length_append] at hn2
  have I1:=uK hE' (v:=vp) (p:=p) (s:=s) hn (by rw [hn,List.length_append];omega) (k,0) (i:=(ie bx (p++s) k:Nat)) (by rw [hp]) (m:=3)
  have e9:=bg hv
  refine ⟨_,rfl,_,C6 k rfl,.inl ⟨by decide,by decide,_,C4 (k,0),rfl,?_⟩⟩
  refine .inr (.inr (.inr ⟨[(9503,24)],[9501],[_,_,_],[_,_],_,I1,rfl,⟨.inl rfl,rfl,trivial⟩,by kernel_rfl,(by change _=true;kernel_rfl),?_⟩))
  rintro v1 U ⟨hv1,rfl⟩
  refine ⟨by kernel_rfl,by decide,bg hv1,_,vR vh vc vp v1 day,by kernel_rfl,?_⟩
  exact ⟨_,_,⟨v1,n+1,p,s,0,hv1,by rw [hn,List.length_append];omega,by rw [hn];exact Nat.le_refl _,hg.symm,SA,rfl,rfl⟩,⟨rfl,rfl,ag (by rw [hp]),trivial⟩,⟨.inl rfl,rfl,trivial⟩,rfl⟩
 ·have c:(!dK H k)=false:=c
  have c:dK H k=true:=by simpa using c
  obtain ⟨p,m,s,rfl,hp,hg,h1,h2⟩:=(jx bB hs k).1 c
  have SA:=mR bB hs hz (.inr ⟨m,rfl⟩) h1 h2
  exact ⟨_,_,⟨vp,n,p,s,m,hv,by rw [hn,List.length_append,List.length_cons],by omega,hg.symm,SA,rfl,rfl⟩,⟨rfl,rfl,ag (by rw [hp]),trivial⟩,⟨.inl rfl,rfl,trivial⟩,rfl⟩
 clear PO hv
 rintro f1 m1 ⟨v1,n1,p,s,m,hv1,hn1,hn1H,hm,SA,rfl,rfl⟩
 rcases hv1 with ⟨rfl,h0⟩ | ⟨g0,c0,rfl⟩
 ·omega
 have L1:=r0 (H:=p++(k,m) :: s) rfl
 have S1:=tH (p:=p) (s:=s) (k:=k) (m:=m) (v:=w64 (m+d))
 have L2:=r0 (H:=p++(k,w64 (m+d)) :: s) rfl
 have hsz:(cat ai (p++(k,m) :: s)).size=n1*3:=by rw [Go.SX.cat_size aS,List.length_append,List.length_cons,hn1]
 rw [<- hm,SA]
 refine ⟨_,rfl,by omega,by omega,.inr ⟨9501,g0,_,n1,_,_,_,_,rfl,rfl,.int .i64 m,(by rw [qy];exact L1),?_⟩⟩
 refine ⟨by omega,by omega,⟨9501,g0,_,n1,_,_,_,_,rfl,rfl,(by rw [qy,hsz];omega),rfl,cat ai (p++(k,w64 (m+d)) :: s),(by rw [qy];exact S1),?_⟩⟩
 refine ⟨_,rfl,by omega,by omega,.inr ⟨9501,g0,_,n1,_,_,_,_,rfl,rfl,.int .i64 (w64 (m+d)),(by rw [qy];exact L2),fun c=>?_,fun c=>?_⟩⟩
 ·have c:(w64 (m+d) == 0)=true:=c
  have c:w64 (m+d)=0:=by simpa using c
  rw [if_pos c]
  have DO:=vw hE' (v:=.slice (some ⟨g0,0,none⟩) n1 c0) (p:=p) (s:=s) (x:=(k,w64 (m+d))) (n:=n1) (by rw [List.length_append,List.length_cons];exact hn1) (by omega) (i:=(p.length:Nat)) (j:=IntKind.i64.wrap ((p.length:Nat)+1)) rfl (au (by omega))
  refine ⟨_,rfl,.inr (.inr (.inr ⟨[],[9501],[_,_,_],[_],_,DO,rfl,⟨.inl rfl,trivial⟩,rfl,trivial,?_⟩))⟩
  rintro v2 U ⟨hv2,rfl⟩
  refine ⟨rfl,by decide,bg hv2,_,vR vh vc _ v2 day,?_⟩
  exact ⟨[_,_],[],⟨v2,_,rfl,hv2,rfl,rfl⟩,⟨.inl rfl,rfl,trivial⟩,rfl⟩
 ·have c:(w64 (m+d) == 0)=false:=c
  have c:w64 (m+d)≠0:=by simpa using c
  rw [if_neg c]
  exact ⟨[_,_],[],⟨_,n1,rfl,.inr ⟨g0,c0,rfl⟩,by rw [List.length_append,List.length_cons];exact hn1,rfl⟩,⟨.inl rfl,rfl,trivial⟩,rfl⟩
theorem oI {n:Int} (h : -9223372036854775808<=n/\n<=9223372036854775807):w64 n=n:=i64_in h
def HB (H:List (Bs×Int)):Prop:=∀ x∈H,0<=x.2/\x.2<=1000000000000000
theorem HB.get {H:List (Bs×Int)} (h:HB H) (k:Bs):0<=ay H k/\ay H k<=1000000000000000:=by
 by_cases e:ay H k=0
 ·rw [e];decide
 ·exact h _ (mh e)
theorem HB.set {H:List (Bs×Int)} (h:HB H) (hs:SrtA ltB H) {k:Bs} {v:Int} (hv:0<=v/\v<=1000000000000000):HB (cM ltB H k v):=by
 obtain ⟨p,s,e,h1,h2,h3,h4⟩:=iy cJ k v hs
 have hm:∀ x∈p++s,x∈H:=fun x hx=>by
  rcases h4 with e | ⟨n,e⟩<;>rw [e]
  ·exact hx
  ·rcases List.mem_append.1 hx with hx | hx<;>simp [hx]
 intro x hx
 rw [e] at hx
 split at hx
 ·exact h x (hm x hx)
 ·rcases List.mem_append.1 hx with hx | hx
  ·exact h x (hm x (by simp [hx]))
  ·rcases List.mem_cons.1 hx with rfl | hx
   ·exact hv
   ·exact h x (hm x (by simp [hx]))
def i9 (H:List (Bs×Int)) (k:Bs) (d:Int):List (Bs×Int)×Int:=match fl H k d with
 | .error e=>(H,e)
 | .ok H'=>(H',0)
def y7 (H:List (Bs×Int)) (k:Bs) (d:Int) (vc vp:Value) (day:Int) (r:Value) (U:az):Prop:=∃ vh n,r=.int .i64 (i9 H k d).2/\IsL vh n/\n=(i9 H k d).1.length/\U=[(9501,Blk.own vh 136 2 n (cat ao (i9 H k d).1)),(9500,Blk.row 93 7 (LdA vh vc vp day))]
theorem CK {E:Env} (hE:E.P=Tryz.prog) {vh vc vp:Value} {day:Int} {H:List (Bs×Int)} {n:Nat} (hv:IsL vh n) (hn:n=H.length) (hn2:H.length<=100000000000) (hs:SrtA ltB H) (hz:NzA H) (hb:HB H) (k:Bs) {d:Int} (hd : -1000000000000000<=d/\d<=1000000000000000):OwnC E 90 [SV.ptr 9500 0,SV.c (.string (S k)),SV.c (.int .i64 d)] [(9501,Blk.own vh 136 2 n (cat ao H)),(9500,Blk.row 93 7 (LdA vh vc vp day))] (y7 H k d vc vp day):=by
 refine av [] af ah MF E hE [SV.ptr 9500 0,SV.c (.string (S k)),SV.c (.int .i64 d)] [(9501,Blk.own vh 136 2 n (cat ao H)),(9500,Blk.row 93 7 (LdA vh vc vp day))] _ rfl rfl fun w X β hT=>?_
 have hE':(aR Tryz.prog tt Tryz.f90.ntmps w X (aA [(9501,Blk.own vh 136 2 n (cat ao H)),(9500,Blk.row 93 7 (LdA vh vc vp day))] β)).toEnv.P=Tryz.prog:=rfl
 have GO:=F7 hE' (vc:=vc) (vp:=vp) (day:=day) hv hn (by omega) hs k
 have AO:=Gi hE' (vc:=vc) (vp:=vp) (day:=day) hv hn hn2 hs hz k d
 have hg:=hb.get k
 have ew:IntKind.i64.wrap (ay H k+d)=ay H k+d:=i64_in (by omega)
 have hw:w64 (ay H k+d)=ay H k+d:=ew
 rw [hw] at AO
 refine .inr (.inr (.inl ⟨[],[_,_],[_,_],_,[_,_],GO,rfl,⟨.inl rfl,rfl,trivial⟩,rfl,rfl,fun c=>?_,fun c=>?_⟩))
 ·have c:decide (IntKind.i64.wrap (ay H k+d) < 0)=true:=c
  have c:=ab c
  rw [ew] at c
  have hR:i9 H k d=(H,181):=by unfold i9 fl;rw [if_pos c]
  have Q:y7 H k d vc vp day (.int .i64 181) [(9501,Blk.own vh 136 2 n (cat ao H)),(9500,Blk.row 93 7 (LdA vh vc vp day))]:=⟨vh,n,by rw [hR],hv,by rw [hR];exact hn,by rw [hR]⟩
  exact ⟨_,[],Q,⟨.inl rfl,rfl,trivial⟩,rfl⟩
 ·have c:decide (IntKind.i64.wrap (ay H k+d) < 0)=false:=c
  have c:=ae c
  rw [ew] at c
  refine ⟨fun c2=>?_,fun c2=>?_⟩
  ·have c2:decide (IntKind.i64.wrap (ay H k+d) > 1000000000000000)=true:=c2
   have c2:=ab c2
   rw [ew] at c2
   have hR:i9 H k d=(H,171):=by unfold i9 fl;rw [if_neg c,if_pos c2]
   have Q:y7 H k d vc vp day (.int .i64 171) [(9501,Blk.own vh 136 2 n (cat ao H)),(9500,Blk.row 93 7 (LdA vh vc vp day))]:=⟨vh,n,by rw [hR],hv,by rw [hR];exact hn,by rw [hR]⟩
   exact ⟨_,[],Q,⟨.inl rfl,rfl,trivial⟩,rfl⟩
  ·have c2:decide (IntKind.i64.wrap (ay H k+d) > 1000000000000000)=false:=c2
   have c2:=ae c2
   rw [ew] at c2
   have hR:i9 H k d=(cM ltB H k (ay H k+d),0):=by unfold i9 fl;rw [if_neg c,if_neg c2]
   refine .inr (.inr (.inr ⟨[],[],[_,_,_],[_,_],_,AO,rfl,⟨.inl rfl,rfl,trivial⟩,rfl,trivial,?_⟩))
   rintro r U ⟨vh',n',rfl,hv',hn',rfl⟩
   have Q:y7 H k d vc vp day (.int .i64 0) [(9501,Blk.own vh' 136 2 n' (cat ao (cM ltB H k (ay H k+d)))),(9500,Blk.row 93 7 (LdA vh' vc vp day))]:=⟨vh',n',by rw [hR],hv',by rw [hR];exact hn',by rw [hR]⟩
   exact ⟨rfl,_,[],Q,⟨.inl rfl,rfl,trivial⟩,rfl⟩
def vQ (day:Int) (R:Except Int Led) (r:Value) (U:az):Prop:=∃ (g:Led) (vh vc vp:Value),IsL vh g.h.length/\IsL vc g.c.length/\IsL vp g.p.length/\U=[(9501,Blk.own vh 136 2 (g.h).length (cat ao g.h)),(9504,Blk.own vc 183 3 (g.c).length (cat ai g.c)),(9505,Blk.own vp 183 3 (g.p).length (cat ai g.p)),(9500,Blk.row 93 7 (LdA vh vc vp day))]/\match R with
 | .error e=>r=.int .i64 e/\e≠0
 | .ok g2=>r=.int .i64 0/\g=g2
theorem rn (c:Bs) {pl:List (Nat×Nat)} (hpl:pl=[(0,1),(1,1)]):Instr.fill (fun k=>pl[k]?) Bl.zero [(0,.string (S c))]=some (KyA (c,0)):=by
 subst hpl;rfl
theorem Ak (c:Bs) (d:Int) {pl:List (Nat×Nat)} (hpl:pl=[(0,1),(1,1)]):Instr.fill (fun k=>pl[k]?) Bl.zero [(0,.string (S c)),(1,.int .i64 d)]=some (KyA (c,d)):=by
 subst hpl;rfl
theorem oW (day:Int) (g:Led) (x:EC):(aN day g x).h=g.h:=by unfold aN;split<;>rfl
theorem nT (H:List (Bs×Int)) (k:Bs) (d:Int):(∃ e,fl H k d=.error e/\e≠0/\i9 H k d=(H,e))\/∃ H',fl H k d=.ok H'/\i9 H k d=(H',0):=by
 unfold i9 fl
 split
 ·exact .inl ⟨181,rfl,by decide,rfl⟩
 ·split
  ·exact .inl ⟨171,rfl,by decide,rfl⟩
  ·exact .inr ⟨_,rfl,rfl⟩
theorem yL {E:Env} (hE:E.P=Tryz.prog) {g:Led} {vh vc vp:Value} {day:Int} (ho:LedOk g) (hh:IsL vh g.h.length) (hc:IsL vc g.c.length) (hp:IsL vp g.p.length) (hl:g.h.length<=10000000000/\g.c.length<=10000000000/\g.p.length<=10000000000) {x:EC} (hq : -1000000000000000<=x.qty/\x.qty<=1000000000000000):OwnC E 46 [SV.ptr 9500 0,SV.c (.agg x.A)] [(9501,Blk.own vh 136 2 (g.h).length (cat ao g.h)),(9504,Blk.own vc 183 3 (g.c).length (cat ai g.c)),(9505,Blk.own vp 183 3 (g.p).length (cat ai g.p)),(9500,Blk.row 93 7 (LdA vh vc vp day))] (vQ day (iO day g x)):=by
 refine av [4] af ah Ng E hE [SV.ptr 9500 0,SV.c (.agg x.A)] [(9501,Blk.own vh 136 2 (g.h).length (cat ao g.h)),(9504,Blk.own vc 183 3 (g.c).length (cat ai g.c)),(9505,Blk.own vp 183 3 (g.p).length (cat ai g.p)),(9500,Blk.row 93 7 (LdA vh vc vp day))] _ rfl rfl fun w X β hT=>?_
 have hE':(aR Tryz.prog tt Tryz.f46.ntmps w X (aA [(9501,Blk.own vh 136 2 (g.h).length (cat ao g.h)),(9504,Blk.own vc 183 3 (g.c).length (cat ai g.c)),(9505,Blk.own vp 183 3 (g.p).length (cat ai g.p)),(9500,Blk.row 93 7 (LdA vh vc vp day))] β)).toEnv.P=Tryz.prog:=rfl
 refine ⟨rfl,fun f mm=>∃ (vc' vp':Value),IsL vc' (aN day g x).c.length/\IsL vp' (aN day g x).p.length/\f=[(0,SV.ptr 9500 0),(3,SV.ptr 3 0)]/\mm=[(3,Blk.row 31 10 x.A),(9501,Blk.own vh 136 2 (g.h).length (cat ao g.h)),(9504,Blk.own vc' 183 3 ((aN day g x).c).length (cat ai (aN day g x).c)),(9505,Blk.own vp' 183 3 ((aN day g x).p).length (cat ai (aN day g x).p)),(9500,Blk.row 93 7 (LdA vh vc' vp' day))],⟨_,rfl,_,rfl,by kernel_rfl,fun c=>?_,fun c=>?_⟩,?_⟩
 ·have c:decide (x.settle<=day)=true:=c
  have c:=ab c
  have hS:aN day g x=⟨g.h,kS g.c (x.cur,0) x.amt,g.p⟩:=by unfold aN;rw [if_pos c]
  have AO:=Gj hE' (vh:=vh) (vp:=vp) (day:=day) hc rfl (by omega) ho.c.1 ho.c.2 (x.cur,0) x.amt
  refine ⟨_,rfl,_,rn x.cur rfl,_,rfl,?_⟩
  refine .inr (.inr (.inr ⟨[(9501,9504)],[],[_,_,_],[_,_],_,AO,rfl,⟨.inl rfl,rfl,trivial⟩,by kernel_rfl,(by change _=true;kernel_rfl),?_⟩))
  rintro r U ⟨vc',n',rfl,hv',rfl,rfl⟩
  exact ⟨by kernel_rfl,by kernel_rfl,_,_,⟨vc',vp,by rw [hS];exact hv',by rw [hS];exact hp,rfl,rfl⟩,⟨rfl,rfl,trivial⟩,⟨rfl,.inl rfl,.inl (by rw [hS];rfl),.inl (by rw [hS];rfl),rfl,trivial⟩,rfl⟩
 ·have c:decide (x.settle<=day)=false:=c
  have c:=ae c
  have hS:aN day g x=⟨g.h,g.c,kS g.p (x.cur,x.settle) x.amt⟩:=by unfold aN;rw [if_neg c]
  have AO:=Ly hE' (vh:=vh) (vc:=vc) (day:=day) hp rfl (by omega) ho.p.1 ho.p.2 (x.cur,x.settle) x.amt
  refine ⟨_,rfl,_,rfl,_,Ak x.cur x.settle rfl,_,rfl,?_⟩
  refine .inr (.inr (.inr ⟨[(9501,9505)],[],[_,_,_],[_,_],_,AO,rfl,⟨.inl rfl,rfl,trivial⟩,by kernel_rfl,(by change _=true;kernel_rfl),?_⟩))
  rintro r U ⟨vp',n',rfl,hv',rfl,rfl⟩
  exact ⟨by kernel_rfl,by kernel_rfl,_,_,⟨vc,vp',by rw [hS];exact hc,by rw [hS];exact hv',rfl,rfl⟩,⟨rfl,rfl,trivial⟩,⟨rfl,.inl rfl,.inl (by rw [hS];rfl),.inl (by rw [hS];rfl),rfl,trivial⟩,rfl⟩
 ·rintro f1 m1 ⟨vc',vp',hc',hp',rfl,rfl⟩
  have hSh:=oW day g x
  have HO:=CK hE' (vc:=vc') (vp:=vp') (day:=day) hh rfl (by omega) ho.h.1 ho.h.2 ho.b x.ins hq
  refine ⟨_,rfl,fun c=>?_,fun c=>?_⟩
  ·have c:(x.kind == 2)=true:=c
   have c:x.kind=2:=by simpa using c
   have hR:iO day g x=.ok (aN day g x):=by unfold iO;rw [if_pos c]
   have Q:vQ day (iO day g x) (.int .i64 0) [(9501,Blk.own vh 136 2 (g.h).length (cat ao g.h)),(9504,Blk.own vc' 183 3 ((aN day g x).c).length (cat ai (aN day g x).c)),(9505,Blk.own vp' 183 3 ((aN day g x).p).length (cat ai (aN day g x).p)),(9500,Blk.row 93 7 (LdA vh vc' vp' day))]:=⟨aN day g x,vh,vc',vp',by rw [hSh];exact hh,hc',hp',by rw [hSh],by rw [hR];exact ⟨rfl,rfl⟩⟩
   exact ⟨_,[],Q,⟨.inl rfl,.inl rfl,.inl rfl,rfl,trivial⟩,rfl⟩
  ·have c:(x.kind == 2)=false:=c
   have c:¬ x.kind=2:=by simpa using c
   refine ⟨_,rfl,_,rfl,.inr (.inr (.inr ⟨[],[],[_,_,_],[_,_],_,HO,rfl,⟨.inl rfl,rfl,trivial⟩,rfl,trivial,?_⟩))⟩
   rintro r U ⟨vh',n',rfl,hv',rfl,rfl⟩
   rcases nT g.h x.ins x.qty with ⟨e,e1,e2,e3⟩ | ⟨H',e1,e3⟩
   ·have hR:iO day g x=.error e:=by unfold iO;rw [if_neg c,e1]
    rw [e3] at hv' ⊢
    have Q:vQ day (iO day g x) (.int .i64 e) [(9501,Blk.own vh' 136 2 (g.h).length (cat ao g.h)),(9504,Blk.own vc' 183 3 ((aN day g x).c).length (cat ai (aN day g x).c)),(9505,Blk.own vp' 183 3 ((aN day g x).p).length (cat ai (aN day g x).p)),(9500,Blk.row 93 7 (LdA vh' vc' vp' day))]:=⟨aN day g x,vh',vc',vp',by rw [hSh];exact hv',hc',hp',by rw [hSh],by rw [hR];exact ⟨rfl,e2⟩⟩
    exact ⟨rfl,_,[],Q,⟨.inl rfl,.inl rfl,.inl rfl,rfl,trivial⟩,rfl⟩
   ·have hR:iO day g x=.ok { aN day g x with h:=H' }:=by unfold iO;rw [if_neg c,e1]
    rw [e3] at hv' ⊢
    have Q:vQ day (iO day g x) (.int .i64 0) [(9501,Blk.own vh' 136 2 (H').length (cat ao H')),(9504,Blk.own vc' 183 3 ((aN day g x).c).length (cat ai (aN day g x).c)),(9505,Blk.own vp' 183 3 ((aN day g x).p).length (cat ai (aN day g x).p)),(9500,Blk.row 93 7 (LdA vh' vc' vp' day))]:=⟨{ aN day g x with h:=H' },vh',vc',vp',hv',hc',hp',rfl,by rw [hR];exact ⟨rfl,rfl⟩⟩
    exact ⟨rfl,_,[],Q,⟨.inl rfl,.inl rfl,.inl rfl,rfl,trivial⟩,rfl⟩
theorem vO {a:AC} {q:Int} (h:(aF a q).2=0):0<=q/\q<=1000000000000000/\0<=(aF a q).1.qty/\(aF a q).1.qty<=1000000000000000/\fA a=true/\(aF a q).1.ins=gB a:=by
 unfold aF at h ⊢
 split at h
 ·cases h
 rename_i h1
 split at h
 ·cases h
 rename_i h2
 split at h
 ·cases h
 rename_i h3
 split at h
 ·rename_i h4;exact absurd h h4
 rename_i h4
 rw [if_neg h1,if_neg h2,if_neg h3,if_neg h4]
 have ha:fA a=true:=by simpa using h1
 refine ⟨by omega,by omega,?_,by show ig a q<=_;omega,ha,rfl⟩
 show 0<=ig a q
 refine (sk (a:=a) (q:=q) (by omega) (by omega) ?_).1
 rcases qo ha with h5 | h5
 ·exact .inl h5.1
 ·exact .inr h5.2
theorem Gk {E:Env} (hE:E.P=Tryz.prog) {g:Led} {vh vc vp:Value} {day:Int} (ho:LedOk g) (hh:IsL vh g.h.length) (hc:IsL vc g.c.length) (hp:IsL vp g.p.length) (hl:g.h.length<=10000000000/\g.c.length<=10000000000/\g.p.length<=10000000000) {a:AC} (ha:a.In):OwnC E 45 [SV.ptr 9500 0,SV.c (.agg a.A)] [(9501,Blk.own vh 136 2 (g.h).length (cat ao (g.h))),(9504,Blk.own vc 183 3 (g.c).length (cat ai (g.c))),(9505,Blk.own vp 183 3 (g.p).length (cat ai (g.p))),(9500,Blk.row 93 7 (LdA vh vc vp day))] (vQ day (iV g a)):=by
 refine av [] af ah Nh E hE [SV.ptr 9500 0,SV.c (.agg a.A)] [(9501,Blk.own vh 136 2 (g.h).length (cat ao (g.h))),(9504,Blk.own vc 183 3 (g.c).length (cat ai (g.c))),(9505,Blk.own vp 183 3 (g.p).length (cat ai (g.p))),(9500,Blk.row 93 7 (LdA vh vc vp day))] _ rfl rfl fun w X β hT=>?_
 have hE':(aR Tryz.prog tt Tryz.f45.ntmps w X (aA [(9501,Blk.own vh 136 2 (g.h).length (cat ao (g.h))),(9504,Blk.own vc 183 3 (g.c).length (cat ai (g.c))),(9505,Blk.own vp 183 3 (g.p).length (cat ai (g.p))),(9500,Blk.row 93 7 (LdA vh vc vp day))] β)).toEnv.P=Tryz.prog:=rfl
 have GO:=F7 hE' (vc:=vc) (vp:=vp) (day:=day) hh rfl (by omega) ho.h.1 a.ins
 have A0:=a.size
 have A2:=a.g2
 have A8:=a.g73
 have AZ:=Fz ha (ay g.h a.ins)
 have hR:iV g a=iV g a:=rfl
 have hhb:=HB.get ho.b a.ins
 generalize a.A=AA at A0 A2 A8 AZ ⊢
 obtain ⟨q,hq⟩:∃ q,q=ay g.h a.ins:=⟨_,rfl⟩
 rw [<- hq] at GO AZ hhb
 have AO:=Gi hE' (vc:=vc) (vp:=vp) (day:=day) hh rfl (by omega) ho.h.1 ho.h.2 a.ins (IntKind.i64.wrap (0 - q))
 rw [<- hq] at AO
 have hw0:w64 (q+IntKind.i64.wrap (0 - q))=0:=by
  rw [i64_in (x:=0 - q) (by omega),oI (by omega)];omega
 rw [hw0] at AO
 have hs1:=(eE cJ ho.h.1 a.ins 0).srt
 have hz1:=oq cJ ho.h.1 ho.h.2 a.ins 0
 have hb1:HB (cM ltB g.h a.ins 0):=HB.set ho.b ho.h.1 (by decide)
 have hl1:=fi (lt:=ltB) g.h a.ins 0
 refine ⟨A0,_,A2,?_⟩
 refine .inr (.inr (.inl ⟨[],[_,_],[_,_],_,[_,_],GO,rfl,⟨.inl rfl,rfl,trivial⟩,by kernel_rfl,by kernel_rfl,by kernel_rfl,?_⟩))
 refine .inl ⟨_,AZ,(aF a q).1.fits,?_⟩
 refine ⟨fun c=>?_,fun c=>?_⟩
 ·have c:((aF a q).2 != 0)=true:=c
  have c:(aF a q).2≠0:=by simpa using c
  have hA:iV g a=.error (aF a q).2:=by unfold iV;rw [<- hq,if_pos c]
  have Q:vQ day (iV g a) (.int .i64 (aF a q).2) [(9501,Blk.own vh 136 2 (g.h).length (cat ao (g.h))),(9504,Blk.own vc 183 3 (g.c).length (cat ai (g.c))),(9505,Blk.own vp 183 3 (g.p).length (cat ai (g.p))),(9500,Blk.row 93 7 (LdA vh vc vp day))]:=⟨g,vh,vc,vp,hh,hc,hp,rfl,by rw [hA];exact ⟨rfl,c⟩⟩
  exact ⟨_,[],Q,⟨.inl rfl,.inl rfl,.inl rfl,rfl,trivial⟩,rfl⟩
 ·have c:((aF a q).2 != 0)=false:=c
  have c:(aF a q).2=0:=by simpa using c
  obtain ⟨p1,p2,p3,p4,-,-⟩:=vO c
  have hA:iV g a=match fl (cM ltB g.h a.ins 0) (aF a q).1.ins (aF a q).1.qty with
   | .error e=>.error e
   | .ok h=>.ok ⟨h,kS g.c (a.cur,0) (aF a q).1.cash,g.p⟩:=by unfold iV;rw [<- hq,if_neg (fun h=>h c)];rfl
  clear AZ hR
  generalize (aF a q).1=EF at *
  refine ⟨_,A2,?_⟩
  refine .inr (.inr (.inr ⟨[],[],[_,_,_],[_,_],_,AO,rfl,⟨.inl rfl,rfl,trivial⟩,by kernel_rfl,(by change _=true;kernel_rfl),?_⟩))
  rintro r U ⟨vh1,n1,rfl,hv1,rfl,rfl⟩
  have CO:=Gj hE' (vh:=vh1) (vp:=vp) (day:=day) hc rfl (by omega) ho.c.1 ho.c.2 (a.cur,0) EF.cash
  refine ⟨by kernel_rfl,by kernel_rfl,_,A8,_,rn a.cur rfl,_,rfl,?_⟩
  refine .inr (.inr (.inr ⟨[(9501,9504)],[],[_,_,_],[_,_],_,CO,rfl,⟨.inl rfl,rfl,trivial⟩,by kernel_rfl,(by change _=true;kernel_rfl),?_⟩))
  rintro r U ⟨vc1,n2,rfl,hv2,rfl,rfl⟩
  have HO:=CK hE' (vc:=vc1) (vp:=vp) (day:=day) hv1 rfl (by omega) hs1 hz1 hb1 EF.ins (d:=EF.qty) (by omega)
  refine ⟨by kernel_rfl,by kernel_rfl,_,rfl,_,rfl,.inr (.inr (.inr ⟨[],[],[_,_,_],[_,_],_,HO,rfl,⟨.inl rfl,rfl,trivial⟩,rfl,trivial,?_⟩))⟩
  rintro r U ⟨vh',n',rfl,hv',rfl,rfl⟩
  rcases nT (cM ltB g.h a.ins 0) EF.ins EF.qty with ⟨e,e1,e2,e3⟩ | ⟨H',e1,e3⟩
  ·rw [e1] at hA
   rw [e3] at hv' ⊢
   have Q:vQ day (iV g a) (.int .i64 e) [(9501,Blk.own vh' 136 2 (cM ltB g.h a.ins 0).length (cat ao (cM ltB g.h a.ins 0))),(9504,Blk.own vc1 183 3 (kS g.c (a.cur,0) EF.cash).length (cat ai (kS g.c (a.cur,0) EF.cash))),(9505,Blk.own vp 183 3 (g.p).length (cat ai (g.p))),(9500,Blk.row 93 7 (LdA vh' vc1 vp day))]:=⟨⟨cM ltB g.h a.ins 0,kS g.c (a.cur,0) EF.cash,g.p⟩,vh',vc1,vp,hv',hv2,hp,rfl,by rw [hA];exact ⟨rfl,e2⟩⟩
   exact ⟨rfl,_,[],Q,⟨.inl rfl,.inl rfl,.inl rfl,rfl,trivial⟩,rfl⟩
  ·rw [e1] at hA
   rw [e3] at hv' ⊢
   have Q:vQ day (iV g a) (.int .i64 0) [(9501,Blk.own vh' 136 2 (H').length (cat ao (H'))),(9504,Blk.own vc1 183 3 (kS g.c (a.cur,0) EF.cash).length (cat ai (kS g.c (a.cur,0) EF.cash))),(9505,Blk.own vp 183 3 (g.p).length (cat ai (g.p))),(9500,Blk.row 93 7 (LdA vh' vc1 vp day))]:=⟨⟨H',kS g.c (a.cur,0) EF.cash,g.p⟩,vh',vc1,vp,hv',hv2,hp,rfl,by rw [hA];exact ⟨rfl,rfl⟩⟩
   exact ⟨rfl,_,[],Q,⟨.inl rfl,.inl rfl,.inl rfl,rfl,trivial⟩,rfl⟩
theorem fP (n lo hi:Int):ax Tryz.prog 38 [SV.c (.int .i64 n),SV.c (.int .i64 lo),SV.c (.int .i64 hi)] (.bool (inB n lo hi)):=by
 refine aj af ah No _ _ rfl rfl fun w=>?_
 refine ⟨fun c=>⟨bv ?_,trivial⟩,fun c=>⟨bv ?_,trivial⟩⟩
 ·have c:=ab (show decide (n >= lo)=true from c)
  unfold inB
  rw [decide_eq_true (show lo<=n by omega),Bool.true_and]
 ·have c:=ae (show decide (n >= lo)=false from c)
  unfold inB
  rw [decide_eq_false (show ¬ lo<=n by omega),Bool.false_and]
def c9 (C:List (Ky×Int)):Bool:=C.all fun x=>inB x.2 (-1000000000000000) 1000000000000000
theorem AR {C:List (Ky×Int)} {i:Nat} {x:Ky×Int} (h:C[i]? = some x):c9 (C.take (i+1))=(c9 (C.take i) && inB x.2 (-1000000000000000) 1000000000000000):=by
 unfold c9
 rw [List.take_add_one,h,List.all_append]
 simp
theorem ms (x:Ky×Int) {pl:List (Nat×Nat)} (hpl:pl=[(0,1),(1,1),(2,1)]):Instr.fill (fun k=>pl[k]?) ln.zero [(0,.string (S x.1.1)),(1,.int .i64 x.1.2),(2,.int .i64 x.2)]=some (ai x):=by
 subst hpl;rfl
theorem fN (x:Ky×Int):Instr.fill (fun k=>some (k*ln.size,ln.size)) (madeCells ln.zero (1*ln.size)) [(0,.agg (ai x))]=some (ai x):=by kernel_rfl
theorem me:∃ q,Tryz.prog.info? 49=some q/\q.bytes=32:=jM (by kernel_rfl)
theorem qd {α:Type} (g:α->Array Value) {l:List α} {i:Nat} {x:α} (h:l[i]? = some x):cat g (l.take i)++g x=cat g (l.take (i+1)):=by
 rw [List.take_add_one,h]
 show _=cat g (l.take i++[x])
 rw [Go.SX.cat_append,bp]
def NI (C:List (Ky×Int)) (v:Value) (n:Nat) (r:Value) (U:az):Prop:=∃ s,IsL s n/\r=.tuple #[s,.bool (c9 C)]/\U=[(9501,Blk.own v 183 3 n (cat ai C)),(9506,Blk.own s 49 3 n (cat ai C))]
theorem qk {E:Env} (hE:E.P=Tryz.prog) {v:Value} {C:List (Ky×Int)} {n:Nat} (hv:IsL v n) (hn:n=C.length) (hn2:n<=100000000000):OwnC E 91 [SV.c (.agg #[fnW 44,v])] [(9501,Blk.own v 183 3 n (cat ai C))] (NI C v n):=by
 refine av [] af ah ME E hE [SV.c (.agg #[fnW 44,v])] [(9501,Blk.own v 183 3 n (cat ai C))] _ rfl rfl fun w X β hT=>?_
 obtain ⟨xa,xc,rfl⟩:=hv.len
 refine ⟨rfl,_,rfl,_,fun w' _=>am Tryz.underlying89 w',?_⟩
 refine ⟨fun q f m=>∃ (i:Nat) (s:Value),q=n - i/\i<=n/\IsL s i/\f=[(4,SV.c s),(5,SV.c (.bool (c9 (C.take i)))),(9,SV.c (.slice xa n xc)),(10,SV.c (.int .i64 (n:Nat))),(11,SV.c (.int .i64 (i:Nat)))]/\m=[(9501,Blk.own (.slice xa n xc) 183 3 n (cat ai C)),(9506,Blk.own s 49 3 i (cat ai (C.take i)))],n,⟨_,_,⟨0,.slice none 0 0,rfl,by omega,.nil,rfl,rfl⟩,⟨rfl,rfl,rfl,rfl,rfl,trivial⟩,⟨.inl rfl,.inr ⟨rfl,rfl,rfl⟩,trivial⟩,rfl⟩,?_⟩
 rintro q f m ⟨i,s,rfl,hi,hs,rfl,rfl⟩
 refine ⟨fun h=>?_,fun h=>?_⟩
 ·have h:i < n:=by have:=ab h;omega
  rcases hv with ⟨hs1,hs2⟩ | ⟨g0,c0,hs1⟩
  ·omega
  cases hs1
  obtain ⟨y,hy⟩:∃ y,C[i]? = some y:=⟨_,List.getElem?_eq_getElem (by omega)⟩
  have L1:=bc aS hy
  have hsz:(cat ai C).size=n*3:=by rw [Go.SX.cat_size aS,hn]
  refine ⟨by omega,by omega,.inr ⟨9501,g0,_,n,_,_,_,_,rfl,rfl,(by rw [qy,hsz];show i*3+3<=n*3;omega),ai y,(by rw [qy];exact L1),cv y,?_⟩⟩
  have X1:(ai y).extract 0 (0+1*3)=ai y:=by simp [ai]
  obtain ⟨q,hq,hb⟩:=me
  refine ⟨_,rfl,_,rfl,_,rfl,_,ms y rfl,.inl ⟨by decide,by decide,_,fN y,rfl,by decide,9506,i,_,.inl rfl,by decide,(cv y).one,rfl,_,X1,?_⟩⟩
  refine ⟨by omega,by unfold maxLen;omega,⟨q,hq,by rw [hb];omega⟩,trivial,fun g2 cap2=>?_⟩
  have hT:=AR hy
  refine ⟨fun c=>?_,fun c=>?_⟩
  ·have c:c9 (C.take i)=true:=c
   refine ⟨_,rfl,.inl ⟨_,fP y.2 (-1000000000000000) 1000000000000000,?_⟩⟩
   exact ⟨n - (i+1),_,_,by omega,⟨i+1,_,rfl,by omega,.some,rfl,rfl⟩,⟨rfl,iT (by rw [hT,c];rfl),rfl,rfl,ag (au (by omega)),trivial⟩,⟨.inl rfl,.inl (aC (qd ai hy)),trivial⟩,rfl⟩
  ·have c:c9 (C.take i)=false:=c
   exact ⟨n - (i+1),_,_,by omega,⟨i+1,_,rfl,by omega,.some,rfl,rfl⟩,⟨rfl,iT (by rw [hT,c];rfl),rfl,rfl,ag (au (by omega)),trivial⟩,⟨.inl rfl,.inl (aC (qd ai hy)),trivial⟩,rfl⟩
 ·have h:i=n:=by have:=ae h;omega
  subst h
  rw [List.take_of_length_le (by omega)]
  exact ⟨[_,_],[],⟨s,hs,rfl,rfl⟩,⟨.inl rfl,.inl rfl,trivial⟩,rfl⟩
theorem qg (l:List UInt8) (lo hi:Int) (dg:Bool) (hl:l.length<=9223372036854775807):ax Tryz.prog 95 [SV.c (.string (S l)),SV.c (.int .i64 lo),SV.c (.int .i64 hi),SV.c (.bool dg)] (.bool (fx dg l && (decide (lo<=l.length) && decide ((l.length:Int)<=hi)))):=by
 refine aj af ah MA _ _ rfl rfl fun w=>?_
 refine ⟨_,fun w _=>aw Tryz.underlying9 w,?_⟩
 refine ⟨fun q f m=>∃ i:Nat,q=l.length - i/\i<=l.length/\(∀ j,j < i->dz dg l j=true)/\f=[(0,SV.c (.string (S l))),(1,SV.c (.int .i64 lo)),(2,SV.c (.int .i64 hi)),(3,SV.c (.bool dg)),(11,SV.c (.int .i64 (l.length:Nat))),(12,SV.c (.int .i64 i))]/\m=[],l.length,⟨_,_,⟨0,rfl,Nat.zero_le _,fun j hj=>absurd hj (by omega),rfl,rfl⟩,⟨rfl,rfl,rfl,rfl,rfl,rfl,trivial⟩,trivial,rfl⟩,?_⟩
 rintro q f m ⟨i,rfl,hi1,hall,rfl,rfl⟩
 refine ⟨fun h=>?_,fun h=>?_⟩
 ·have h:i < l.length:=by have:=ab h;omega
  have hx:=cx (E:=(gQ Tryz.prog tt Tryz.f95.ntmps w).toEnv) Tryz.underlying9 (k:=.i64) i rfl h
  have hc:dz dg l i=((decide (65<=(l.getD i 0).toNat) && decide ((l.getD i 0).toNat<=90)) || (dg && !decide (i=0) && decide (48<=(l.getD i 0).toNat) && decide ((l.getD i 0).toNat<=57))):=rfl
  generalize (l.getD i 0).toNat=x at *
  have stop:dz dg l i=false->dW [.bool false]=.bool (fx dg l && (decide (lo<=l.length) && decide ((l.length:Int)<=hi))):=fun e=>by rw [dC h e];rfl
  have hnext:dz dg l i=true->∀ j,j < i+1->dz dg l j=true:=fun e j hj=>by
   by_cases e2:j=i
   ·rw [e2];exact e
   ·exact hall j (by omega)
  refine ⟨_,hx,fun h1=>⟨_,hx,fun h2=>?_,fun h2=>?_⟩,fun h1=>⟨fun h2=>?_,nofun⟩⟩
  ·have h1:=ae h1
   have h2:=ab h2
   have hlow:(decide (65<=x) && decide (x<=90))=false:=by rw [decide_eq_false (by omega:¬ x<=90),Bool.and_false]
   rw [hlow,Bool.false_or] at hc
   refine ⟨fun h3=>⟨fun h4=>⟨_,hx,fun h5=>⟨_,hx,fun h6=>⟨stop ?_,trivial⟩,fun h6=>?_⟩,fun h5=>⟨fun _=>⟨stop ?_,trivial⟩,nofun⟩⟩,fun h4=>⟨nofun,fun _=>⟨fun _=>⟨stop ?_,trivial⟩,nofun⟩⟩⟩,fun h3=>⟨nofun,fun _=>⟨nofun,fun _=>⟨fun _=>⟨stop ?_,trivial⟩,nofun⟩⟩⟩⟩
   ·have h6:=ab h6
    rw [hc,decide_eq_false (by omega:¬ x<=57),Bool.and_false]
   ·have h3:dg=true:=bR h3
    have h4:¬ i=0:=by intro e;subst e;simp at h4
    have h5:=ae h5
    have h6:=ae h6
    exact ⟨l.length - (i+1),_,_,by omega,⟨i+1,rfl,by omega,hnext (by rw [hc,h3,decide_eq_false h4,decide_eq_true (by omega:48<=x),decide_eq_true (by omega:x<=57)];rfl),rfl,rfl⟩,⟨rfl,rfl,rfl,rfl,rfl,ag (by rw [i64_in (by omega)];rfl),trivial⟩,trivial,rfl⟩
   ·have h5:=ab h5
    rw [hc,decide_eq_false (by omega:¬ 48<=x),Bool.and_false,Bool.false_and]
   ·have h4:i=0:=by have:(i:Int)=0:=by simpa using h4
                    omega
    rw [hc,decide_eq_true h4,Bool.not_true,Bool.and_false,Bool.false_and,Bool.false_and]
   ·have h3:dg=false:=bnt h3
    rw [hc,h3];rfl
  ·have h1:=ae h1
   have h2:=ae h2
   refine ⟨nofun,fun _=>?_⟩
   exact ⟨l.length - (i+1),_,_,by omega,⟨i+1,rfl,by omega,hnext (by rw [hc,decide_eq_true (by omega:65<=x),decide_eq_true (by omega:x<=90)];rfl),rfl,rfl⟩,⟨rfl,rfl,rfl,rfl,rfl,ag (by rw [i64_in (by omega)];rfl),trivial⟩,trivial,rfl⟩
  ·have h1:=ab h1
   have hlow:(decide (65<=x) && decide (x<=90))=false:=by rw [decide_eq_false (by omega:¬ 65<=x),Bool.false_and]
   rw [hlow,Bool.false_or] at hc
   refine ⟨fun h3=>⟨fun h4=>⟨_,hx,fun h5=>⟨_,hx,fun h6=>⟨stop ?_,trivial⟩,fun h6=>?_⟩,fun h5=>⟨fun _=>⟨stop ?_,trivial⟩,nofun⟩⟩,fun h4=>⟨nofun,fun _=>⟨fun _=>⟨stop ?_,trivial⟩,nofun⟩⟩⟩,fun h3=>⟨nofun,fun _=>⟨nofun,fun _=>⟨fun _=>⟨stop ?_,trivial⟩,nofun⟩⟩⟩⟩
   ·have h6:=ab h6
    rw [hc,decide_eq_false (by omega:¬ x<=57),Bool.and_false]
   ·have h3:dg=true:=bR h3
    have h4:¬ i=0:=by intro e;subst e;simp at h4
    have h5:=ae h5
    have h6:=ae h6
    exact ⟨l.length - (i+1),_,_,by omega,⟨i+1,rfl,by omega,hnext (by rw [hc,h3,decide_eq_false h4,decide_eq_true (by omega:48<=x),decide_eq_true (by omega:x<=57)];rfl),rfl,rfl⟩,⟨rfl,rfl,rfl,rfl,rfl,ag (by rw [i64_in (by omega)];rfl),trivial⟩,trivial,rfl⟩
   ·have h5:=ab h5
    rw [hc,decide_eq_false (by omega:¬ 48<=x),Bool.and_false,Bool.false_and]
   ·have h4:i=0:=by have:(i:Int)=0:=by simpa using h4
                    omega
    rw [hc,decide_eq_true h4,Bool.not_true,Bool.and_false,Bool.false_and,Bool.false_and]
   ·have h3:dg=false:=bnt h3
    rw [hc,h3];rfl
 ·have h:i=l.length:=by have:=ae h;omega
  subst h
  rw [gJ hall,Bool.true_and]
  refine ⟨_,fun w _=>aw Tryz.underlying9 w,fun h2=>⟨_,fun w _=>aw Tryz.underlying9 w,bv ?_,trivial⟩,fun h2=>⟨bv ?_,trivial⟩⟩
  ·rw [decide_eq_true (ab h2:lo<=(l.length:Int)),Bool.true_and]
  ·rw [decide_eq_false (ae h2:¬ lo<=(l.length:Int)),Bool.false_and]
theorem sF (l:List UInt8) (hl:l.length<=9223372036854775807):ax Tryz.prog 56 [SV.c (.string (S l))] (.bool (fx true l && (decide (1<=l.length) && decide (l.length<=12)))):=by
 refine aj af ah M7 _ _ rfl rfl fun w=>?_
 refine .inl ⟨_,qg l 1 12 true hl,bv ?_,trivial⟩
 congr 2
 ·rw [Bool.eq_iff_iff];simp only [decide_eq_true_eq];omega
 ·rw [Bool.eq_iff_iff];simp only [decide_eq_true_eq];omega
theorem ES (l:List UInt8) (hl:l.length<=9223372036854775807):ax Tryz.prog 56 [SV.c (.string (S l))] (.bool (cC l)):=sF l hl
theorem Fk (l:List UInt8) (hl:l.length<=9223372036854775807):ax Tryz.prog 57 [SV.c (.string (S l))] (.bool (dL l)):=by
 refine aj af ah M6 _ _ rfl rfl fun w=>?_
 exact .inl ⟨_,qg l 3 3 false hl,rfl,trivial⟩
theorem my {d:Nat} (a b:EC) (w:World):(Op.equalIn (d+1+1) 31 (.agg a.A) (.agg b.A)).run Tryz.prog w=.ok (a.beq b) w:=by
 rw [run_equalIn_struct w (d+1) 31 _ _ (by simp only [Program.fieldsOf,Tryz.underlying31]) (by kernel_rfl)]
 rw [show (Tryz.prog.fieldsOf 31).toList=[⟨ "Kind",3,0,false,"","",0⟩,⟨ "Key",9,1,false,"","",8⟩,⟨ "Day",3,2,false,"","",24⟩,⟨ "Settle",3,3,false,"","",32⟩,⟨ "Instrument",9,4,false,"","",40⟩,⟨ "Quantity",3,5,false,"","",56⟩,⟨ "Amount",3,6,false,"","",64⟩,⟨ "Currency",9,7,false,"","",72⟩,⟨ "Known",3,8,false,"","",88⟩,⟨ "Void",4,9,false,"","",96⟩] from by simp only [Program.fieldsOf,Tryz.underlying31]]
 refine aU (by decide) (ar ee rfl a.g0 w) (ar ee rfl b.g0 w) (cH _ Tryz.underlying3 _ _ w) fun _=>?_
 refine aU (by decide) (ar jd rfl a.g1 w) (ar jd rfl b.g1 w) (iN _ _ w) fun _=>?_
 refine aU (by decide) (ar ee rfl a.g2 w) (ar ee rfl b.g2 w) (cH _ Tryz.underlying3 _ _ w) fun _=>?_
 refine aU (by decide) (ar ee rfl a.g3 w) (ar ee rfl b.g3 w) (cH _ Tryz.underlying3 _ _ w) fun _=>?_
 refine aU (by decide) (ar jd rfl a.g4 w) (ar jd rfl b.g4 w) (iN _ _ w) fun _=>?_
 refine aU (by decide) (ar ee rfl a.g5 w) (ar ee rfl b.g5 w) (cH _ Tryz.underlying3 _ _ w) fun _=>?_
 refine aU (by decide) (ar ee rfl a.g6 w) (ar ee rfl b.g6 w) (cH _ Tryz.underlying3 _ _ w) fun _=>?_
 refine aU (by decide) (ar jd rfl a.g7 w) (ar jd rfl b.g7 w) (iN _ _ w) fun _=>?_
 refine aU (by decide) (ar ee rfl a.g8 w) (ar ee rfl b.g8 w) (cH _ Tryz.underlying3 _ _ w) fun _=>?_
 refine aU (by decide) (ar zo rfl a.g9 w) (ar zo rfl b.g9 w) (run_equalIn_bool' w _ 4 _ _ Tryz.underlying4) fun _=>jQ
theorem nU:Tryz.prog.eqGuardType Tryz.prog.depth 31=false:=by kernel_rfl
theorem rp {E:Env} (hE:E.P=Tryz.prog) (a b:EC) {u v:Operand}:bD E (do eqGuard .eql 31 u v (.agg a.A) (.agg b.A);binOp .eql 31 (.agg a.A) (.agg b.A)) (.bool (a.beq b)) :=
 jh (by rw [hE];exact nU) fun w=>by rw [hE];exact my a b w
theorem zM {E:Env} (hE:E.P=Tryz.prog) (a b:EC) {u v:Operand}:bD E (do eqGuard .neq 31 u v (.agg a.A) (.agg b.A);binOp .neq 31 (.agg a.A) (.agg b.A)) (.bool (!(a.beq b))) :=
 jg (by rw [hE];exact nU) fun w=>by rw [hE];exact my a b w
theorem f4 (key:List UInt8) (known:Int) {pl:List (Nat×Nat)} (hpl:pl=[(0,1),(1,1),(2,1),(3,1),(4,1),(5,1),(6,1),(7,1),(8,1),(9,1)]):Instr.fill (fun k=>pl[k]?) dE.zero [(1,.string (S key)),(8,.int .i64 known),(9,.bool true)]=some (EC.nil key known).A:=by
 subst hpl;kernel_rfl
theorem DZ {a:EC} (ha:a.In):ax Tryz.prog 74 [SV.c (.agg a.A)] (.bool (aV a)):=by
 refine aj af ah MT _ _ rfl rfl fun w=>?_
 have no:iL a=false->dW [.bool false]=.bool (aV a):=fun h=>by rw [aV,h];rfl
 have len:∀ (E:Env),E.P=Tryz.prog->∀ (ty:TypeId) (l:List UInt8) (cs:Array Bool) (w:World),OldW E w->(builtin .len #[9] ty cs #[.string (S l)]).run E.P w=.ok (.value (.int .i64 (l.length:Nat))) w:=fun E hE ty l cs w _=>by rw [hE];exact aw Tryz.underlying9 w
 refine ⟨rfl,_,rfl,_,len _ rfl _ _ _,.inl ⟨_,fP _ 1 64,fun c1=>?_,fun c1=>?_⟩⟩
 ·have c1:(!inB a.key.length 1 64)=false:=c1
  have c1:inB a.key.length 1 64=true:=by simpa using c1
  refine ⟨_,rfl,.inl ⟨_,fP _ 1 2147483647,fun c2=>?_,fun c2=>?_⟩⟩
  ·have c2:(!inB a.known 1 2147483647)=true:=c2
   exact ⟨no (by unfold iL;rw [c1];simpa using c2),trivial⟩
  ·have c2:(!inB a.known 1 2147483647)=false:=c2
   have c2:inB a.known 1 2147483647=true:=by simpa using c2
   have hh:iL a=true:=by unfold iL;rw [c1,c2];rfl
   have va:aV a=(if a.void then a.beq (.nil a.key a.known) else dh a && dD a):=by rw [aV,hh,Bool.true_and]
   rw [va]
   refine ⟨_,rfl,fun h5=>?_,fun h5=>?_⟩
   ·have h5:a.void=true:=h5
    rw [if_pos h5]
    exact ⟨_,rfl,_,rfl,_,f4 a.key a.known rfl,_,rp rfl a (.nil a.key a.known),rfl,trivial⟩
   ·have h5:¬ (a.void=true):=by intro e;rw [e] at h5;cases h5
    rw [if_neg h5]
    have nob:dh a=false->dW [.bool false]=.bool (dh a && dD a):=fun h=>by rw [h];rfl
    refine ⟨_,rfl,_,rfl,.inl ⟨_,fP _ 0 _,fun d1=>?_,fun d1=>?_⟩⟩
    ·have d1:(!inB a.day 0 a.settle)=false:=d1
     have d1:inB a.day 0 a.settle=true:=by simpa using d1
     refine ⟨_,rfl,fun d2=>?_,fun d2=>?_⟩
     ·have d2:=ae (show decide (a.settle > 73048)=false from d2)
      refine ⟨_,rfl,.inl ⟨_,fP _ (-1000000000000000) 1000000000000000,fun d3=>?_,fun d3=>?_⟩⟩
      ·have d3:(!inB a.amt (-1000000000000000) 1000000000000000)=false:=d3
       have d3:inB a.amt (-1000000000000000) 1000000000000000=true:=by simpa using d3
       refine ⟨_,rfl,.inl ⟨_,Fk _ ha.cur,fun d4=>?_,fun d4=>?_⟩⟩
       ·have d4:(!dL a.cur)=true:=d4
        have d4:dL a.cur=false:=by simpa using d4
        exact ⟨nob (by unfold dh;rw [d4];simp),trivial⟩
       ·have d4:(!dL a.cur)=false:=d4
        have d4:dL a.cur=true:=by simpa using d4
        have hb:dh a=true:=by unfold dh;rw [d1,d3,d4,decide_eq_true (show a.settle<=73048 by omega)];rfl
        rw [hb,Bool.true_and]
        refine ⟨_,rfl,fun k1=>?_,fun k1=>?_⟩
        ·have k1:(a.kind == 1)=true:=k1
         have k1:a.kind=1:=by simpa using k1
         have hk:dD a=(cC a.ins && (!(a.qty == 0) && inB a.qty (-1000000000000000) 1000000000000000)):=by unfold dD;rw [if_pos k1]
         rw [hk]
         refine ⟨_,rfl,.inl ⟨_,ES _ ha.ins,fun e1=>?_,fun e1=>?_⟩⟩
         ·have e1:cC a.ins=true:=e1
          refine ⟨_,rfl,fun e2=>?_,fun e2=>?_⟩
          ·have e2:(a.qty != 0)=true:=e2
           refine ⟨_,rfl,.inl ⟨_,fP _ (-1000000000000000) 1000000000000000,bv ?_,trivial⟩⟩
           rw [e1,show (a.qty == 0)=false by simpa using e2];rfl
          ·have e2:(a.qty != 0)=false:=e2
           refine ⟨bv ?_,trivial⟩
           rw [show (a.qty == 0)=true by simpa using e2,e1];rfl
         ·have e1:cC a.ins=false:=e1
          refine ⟨nofun,fun _=>⟨bv ?_,trivial⟩⟩
          rw [e1];rfl
        ·have k1:(a.kind == 1)=false:=k1
         have k1:¬ a.kind=1:=by simpa using k1
         refine ⟨fun k2=>?_,fun k2=>?_⟩
         ·have k2:(a.kind == 2)=true:=k2
          have k2:a.kind=2:=by simpa using k2
          have hk:dD a=(decide (a.ins=[]) && (a.qty == 0)):=by unfold dD;rw [if_neg k1,if_pos k2]
          rw [hk]
          refine ⟨_,rfl,fun e1=>?_,fun e1=>?_⟩
          ·have e1:decide (a.ins=[])=true:=(dN a.ins []).symm.trans e1
           refine ⟨_,rfl,bv ?_,trivial⟩
           rw [e1];rfl
          ·have e1:decide (a.ins=[])=false:=(dN a.ins []).symm.trans e1
           refine ⟨bv ?_,trivial⟩
           rw [e1];rfl
         ·have k2:(a.kind == 2)=false:=k2
          have k2:¬ a.kind=2:=by simpa using k2
          refine ⟨bv ?_,trivial⟩
          unfold dD;rw [if_neg k1,if_neg k2]
      ·have d3:(!inB a.amt (-1000000000000000) 1000000000000000)=true:=d3
       have d3:inB a.amt (-1000000000000000) 1000000000000000=false:=by simpa using d3
       refine ⟨fun _=>⟨nob (by unfold dh;rw [d3];simp),trivial⟩,nofun⟩
     ·have d2:=ab (show decide (a.settle > 73048)=true from d2)
      refine ⟨nofun,fun _=>⟨fun _=>⟨nob (by unfold dh;rw [decide_eq_false (show ¬ a.settle<=73048 by omega)];simp),trivial⟩,nofun⟩⟩
    ·have d1:(!inB a.day 0 a.settle)=true:=by simpa using d1
     have d1:inB a.day 0 a.settle=false:=by simpa using d1
     refine ⟨nofun,fun _=>⟨nofun,fun _=>⟨fun _=>⟨nob (by unfold dh;rw [d1];rfl),trivial⟩,nofun⟩⟩⟩
 ·have c1:(!inB a.key.length 1 64)=true:=by simpa using c1
  have c1:inB a.key.length 1 64=false:=by simpa using c1
  refine ⟨fun _=>⟨no (by unfold iL;rw [c1];rfl),trivial⟩,nofun⟩
theorem Dv {a:EC} (ha:a.In):ax Tryz.prog 73 [SV.c (.agg a.A)] (.bool (!aV a)):=by
 refine aj af ah MU _ _ rfl rfl fun w=>?_
 exact ⟨rfl,.inl ⟨_,DZ ha,rfl,trivial⟩⟩
theorem vP {xs:List EC} {i:Nat} {y:EC} (hy:xs[i]? = some y) (h:aV y=false):xs.all aV=false:=by
 rw [List.all_eq_false]
 exact ⟨y,List.mem_of_getElem? hy,by rw [h];simp⟩
theorem rL {xs:List EC} (h:∀ (j:Nat) y,xs[j]? = some y->aV y=true):xs.all aV=true:=by
 rw [List.all_eq_true]
 intro x hx
 obtain ⟨j,hj⟩:=List.getElem?_of_mem hx
 exact h j x hj
theorem CH {E:Env} (hE:E.P=Tryz.prog) {v:Value} {xs:List EC} (hv:Lst E v 10 xs.length (cat EC.A xs)) (hn:xs.length<=2000000000000) (hin:∀ y∈xs,y.In):OwnC E 109 [SV.c v,SV.c (fnW 73)] [] (fun r U=>(∃ n:Int,r=.int .i64 n/\decide (n >= 0)=!(xs.all aV))/\U=[]):=by
 refine av [] af ah Lq E hE [SV.c v,SV.c (fnW 73)] [] _ rfl rfl fun w X β hT=>?_
 obtain ⟨a,cap,rfl,hc,h4⟩:=(hv.of_old hT).shape
 refine ⟨_,fun w' _=>am Tryz.underlying26 w',?_⟩
 refine ⟨fun q f m=>∃ (i:Nat),q=xs.length - i/\i<=xs.length/\(∀ (j:Nat) y,j < i->xs[j]? = some y->aV y=true)/\f=[(0,SV.c (.slice a xs.length cap)),(1,SV.c (fnW 73)),(6,SV.c (.slice a xs.length cap)),(7,SV.c (.int .i64 (xs.length:Nat))),(8,SV.c (.int .i64 (i:Nat)))]/\m=[],xs.length,⟨_,_,⟨0,rfl,by omega,fun j y h=>by omega,rfl,rfl⟩,⟨rfl,rfl,rfl,rfl,rfl,trivial⟩,trivial,rfl⟩,?_⟩
 rintro q f m ⟨i,rfl,hi,hok,rfl,rfl⟩
 refine ⟨fun h=>?_,fun h=>?_⟩
 ·have h:i < xs.length:=by have:=ab h;omega
  obtain ⟨b,o,rfl,h5⟩:=h4 (by omega)
  obtain ⟨y,hy⟩:∃ y,xs[i]? = some y:=⟨_,List.getElem?_eq_getElem h⟩
  have hE':VOk (aR Tryz.prog tt Tryz.f109.ntmps w X (aA [] β)):=af
  have L1:=bF hE' h5 EC.size hy (ty:=31) (ti:=dE) rfl rfl rfl (p:=o+(i:Int).toNat*10) rfl
  have K1:=Dv (hin y (List.mem_of_getElem? hy))
  generalize hY:y.A=YA at L1 K1
  refine ⟨by omega,by omega,.inl ⟨_,L1,.inl ⟨_,K1,fun c=>?_,fun c=>?_⟩⟩⟩
  ·have c:(!aV y)=true:=c
   have hb:=vP hy (by simpa using c)
   exact ⟨[],[],⟨⟨(i:Nat),rfl,by rw [hb];simp⟩,rfl⟩,trivial,rfl⟩
  ·have c:(!aV y)=false:=c
   have c:aV y=true:=by simpa using c
   refine ⟨xs.length - (i+1),_,_,by omega,⟨i+1,rfl,by omega,fun j z hj hz=>?_,rfl,rfl⟩,⟨rfl,rfl,rfl,rfl,ag (au (by omega)),trivial⟩,trivial,rfl⟩
   rcases Nat.lt_or_ge j i with h9 | h9
   ·exact hok j z h9 hz
   ·have:j=i:=by omega
    subst this
    rw [hy] at hz;cases hz
    exact c
 ·have h:i=xs.length:=by have:=ae h;omega
  subst h
  have hg:=rL fun j y hy=>hok j y (List.getElem?_eq_some_iff.1 hy).1 hy
  exact ⟨[],[],⟨⟨-1,rfl,by rw [hg];rfl⟩,rfl⟩,trivial,rfl⟩
theorem vA {E:Env} (hE:E.P=Tryz.prog) {v:Value} {xs:List EC} (hv:Lst E v 10 xs.length (cat EC.A xs)) (hn:xs.length<=2000000000000) (hin:∀ y∈xs,y.In):OwnC E 72 [SV.c v,SV.c (fnW 73)] [] (fun r U=>r=.bool (!(xs.all aV))/\U=[]):=by
 refine av [] af ah MV E hE [SV.c v,SV.c (fnW 73)] [] _ rfl rfl fun w X β hT=>?_
 have I1:=CH rfl (hv.of_old hT) hn hin
 refine .inr (.inr (.inr ⟨[],[],[_,_],[],_,I1,rfl,trivial,rfl,trivial,?_⟩))
 rintro r U ⟨⟨n,rfl,h1⟩,rfl⟩
 exact ⟨rfl,[],[],⟨by rw [<- h1];rfl,rfl⟩,trivial,rfl⟩
def mkE (a:EC):MK:=⟨a.key,a.known,a.void⟩
theorem yq {E:Env} (hE:E.P=Tryz.prog) {v:Value} {xs:List EC} (hv:Lst E v 10 xs.length (cat EC.A xs)) (hn:xs.length<=2000000000000):OwnC E 49 [SV.c v] [] (AT 2000 143 3 xs.length (cat MK.A (xs.map mkE))):=by
 refine av [] af ah Nd E hE [SV.c v] [] _ rfl rfl fun w X β hT=>?_
 obtain ⟨a,cap,rfl,hc,h4⟩:=(hv.of_old hT).shape
 refine ⟨_,fun w' _=>am Tryz.underlying26 w',?_⟩
 refine ⟨fun q f m=>∃ (i:Nat) (x:Value),q=xs.length - i/\i<=xs.length/\IsL x i/\f=[(3,SV.c x),(6,SV.c (.slice a xs.length cap)),(7,SV.c (.int .i64 (xs.length:Nat))),(8,SV.c (.int .i64 (i:Nat)))]/\m=[(2000,Blk.own x 143 3 i (cat MK.A ((xs.take i).map mkE)))],xs.length,⟨_,_,⟨0,.slice none 0 0,by omega,by omega,.nil,rfl,rfl⟩,⟨rfl,rfl,rfl,rfl,trivial⟩,⟨.inr ⟨rfl,rfl,rfl⟩,trivial⟩,rfl⟩,?_⟩
 rintro q f m ⟨i,x,rfl,hi,hx,rfl,rfl⟩
 refine ⟨fun h=>?_,fun h=>?_⟩
 ·have h:i < xs.length:=by have:=ab h;omega
  obtain ⟨b,o,rfl,h5⟩:=h4 (by omega)
  obtain ⟨y,hy⟩:∃ y,xs[i]? = some y:=⟨_,List.getElem?_eq_getElem h⟩
  have hE':VOk (aR Tryz.prog tt Tryz.f49.ntmps w X (aA [] β)):=af
  have L1:=bF hE' h5 EC.size hy (ty:=31) (ti:=dE) rfl rfl rfl (p:=o+(i:Int).toNat*10) rfl
  refine ⟨by omega,by omega,.inl ⟨_,L1,y.fits,?_⟩⟩
  refine ⟨_,y.g1,_,y.g8,_,y.g9,_,jP (mkE y) rfl,?_⟩
  refine .inl ⟨by decide,by decide,_,iM (mkE y),rfl,by decide,2000,i,_,.inl rfl,by decide,(mkE y).one,rfl,_,(mkE y).ext3,?_⟩
  obtain ⟨q,hq,hb⟩:=jN
  refine ⟨by omega,by unfold maxLen;omega,⟨q,hq,by rw [hb];omega⟩,trivial,fun g2 cap2=>?_⟩
  exact ⟨xs.length - (i+1),_,_,by omega,⟨i+1,_,rfl,by omega,.some,rfl,rfl⟩,⟨rfl,rfl,rfl,ag (au (by omega)),trivial⟩,⟨.inl (aC (mE mkE MK.A hy)),trivial⟩,rfl⟩
 ·have h:i=xs.length:=by have:=ae h;omega
  subst h
  rw [List.take_length]
  exact ⟨[(2000,Blk.own x 143 3 xs.length (cat MK.A (xs.map mkE)))],[],⟨hx,rfl⟩,⟨.inl rfl,trivial⟩,rfl⟩

def cP (xs:List EC):Int:=if xs.all aV then dq (xs.map mkE) else 180
theorem pH:∃ q,Tryz.prog.info? 31=some q/\q.bytes=104:=jM (by kernel_rfl)
def gV (xs:List EC) (k:Int):List Nat:=mM (xs.map mkE) k
def d9 (xs:List EC) (k:Int):List EC:=if cP xs=0 then (gV xs k).filterMap (fun i=>xs[i]?) else []
def Gm (xs:List EC) (k:Int) (x:Value) (U:az):Prop:=∃ s n,n=(d9 xs k).length/\x=.tuple #[s,.int .i64 (cP xs)]/\IsL s n/\U=[(3000,Blk.own s 31 10 n (cat EC.A (d9 xs k)))]
theorem mJ {xs:List EC} {k:Int} {i:Nat} (h:i∈gV xs k):i < xs.length:=by
 unfold gV mM at h
 rw [List.mem_filter,List.mem_range,List.length_map] at h
 exact h.1
theorem mK (xs:List EC) (k:Int):(gV xs k).length<=xs.length:=by
 unfold gV mM
 have:=List.length_filter_le (kf (xs.map mkE) k) (List.range (xs.map mkE).length)
 simpa using this
theorem nz {xs:List EC} (h:cP xs=0):dq (xs.map mkE)=0/\xs.length<=4096:=by
 unfold cP at h
 split at h
 ·refine ⟨h,?_⟩
  unfold dq at h
  split at h
  ·simp at h
  ·rename_i h2;simpa using h2
 ·simp at h
theorem tE {xs:List EC} {l:List Nat} {j i:Nat} {y:EC} (h:l[j]? = some i) (hy:xs[i]? = some y):(l.take (j+1)).filterMap (fun i=>xs[i]?)=(l.take j).filterMap (fun i=>xs[i]?)++[y]:=by
 rw [List.take_add_one,h,List.filterMap_append]
 simp [hy]
theorem oB {xs:List EC}:∀ {l:List Nat},(∀ i∈l,i < xs.length)->(l.filterMap (fun i=>xs[i]?)).length=l.length
 | [],_=>rfl
 | i :: r,h=>by
  rw [List.filterMap_cons,List.getElem?_eq_getElem (h i (by simp))]
  simp [oB (l:=r) fun j hj=>h j (by simp [hj])]
theorem nr (a:EC):Instr.fill (fun k=>some (k*dE.size,dE.size)) (madeCells dE.zero (1*dE.size)) [(0,.agg a.A)]=some a.A:=by kernel_rfl
theorem EC.ext10 (a:EC):a.A.extract 0 (0+1*10)=a.A:=by
 have:a.A.size=10:=a.size
 simp [this]
theorem yY {E:Env} (hE:E.P=Tryz.prog) {v:Value} {xs:List EC} (hv:Lst E v 10 xs.length (cat EC.A xs)) (hn:xs.length<=2000000000000) (hin:∀ y∈xs,y.In):OwnC E 33 [SV.c v] [] (fun x U=>x=.int .i64 (cP xs)/\U=[]):=by
 refine av [] af ah Nt E hE [SV.c v] [] _ rfl rfl fun w X β hT=>?_
 have hv':=hv.of_old hT
 have C0:=vA rfl hv' hn hin
 have M1:=yq rfl hv' hn
 refine .inr (.inr (.inl ⟨[],[_,_],[],_,[],C0,rfl,trivial,rfl,rfl,fun c=>?_,fun c=>?_⟩))
 ·have c:(!xs.all aV)=true:=c
  have c:xs.all aV=false:=by simpa using c
  exact ⟨[],[],⟨by unfold cP;rw [c];rfl,rfl⟩,trivial,rfl⟩
 ·have c:(!xs.all aV)=false:=c
  have c:xs.all aV=true:=by simpa using c
  refine .inr (.inr (.inr ⟨[],[2000],[_],[],_,M1,rfl,trivial,rfl,trivial,?_⟩))
  rintro x U ⟨hx,rfl⟩
  refine ⟨rfl,?_⟩
  have C1:=rF (E:=(aR Tryz.prog tt Tryz.f33.ntmps w X (aA [] β)).toEnv) rfl (x:=x) (xs:=xs.map mkE) (n:=xs.length) (by simp)
  refine .inr (.inr (.inl ⟨[],[_],[_],_,[_],C1,rfl,⟨.inl rfl,trivial⟩,rfl,rfl,?_⟩))
  exact ⟨[],[],⟨by unfold cP;rw [c];rfl,rfl⟩,trivial,rfl⟩
theorem FK {E:Env} (hE:E.P=Tryz.prog) {v:Value} {k:Int} {xs:List EC} (hv:Lst E v 10 xs.length (cat EC.A xs)) (hn:xs.length<=2000000000000) (hin:∀ y∈xs,y.In):OwnC E 18 [SV.c v,SV.c (.int .i64 k)] [] (Gm xs k):=by
 refine av [] af ah Nz E hE [SV.c v,SV.c (.int .i64 k)] [] _ rfl rfl fun w X β hT=>?_
 have hv':=hv.of_old hT
 have C1:=yY rfl hv' hn hin
 have M1:=yq rfl hv' hn
 refine .inr (.inr (.inl ⟨[],[_],[],_,[],C1,rfl,trivial,rfl,rfl,fun h=>?_,fun h=>?_⟩))
 ·have h:(cP xs != 0)=true:=h
  have h:cP xs≠0:=by simpa using h
  have e1:d9 xs k=[]:=by rw [d9,if_neg h]
  exact ⟨[(3000,Blk.own (.slice none 0 0) 31 10 0 #[])],[],⟨_,0,by rw [e1];rfl,rfl,.nil,by rw [e1];rfl⟩,⟨.inr ⟨rfl,rfl,rfl⟩,trivial⟩,rfl⟩
 have h:(cP xs != 0)=false:=h
 have h0:cP xs=0:=by simpa using h
 obtain ⟨h1,h4k⟩:=nz h0
 have e1:ja (xs.map mkE) k=(gV xs k).map (fun i:Nat=>(i:Int)):=by rw [ja,if_pos h1];rfl
 have e2:d9 xs k=(gV xs k).filterMap (fun i=>xs[i]?):=by rw [d9,if_pos h0]
 have hmem:∀ i∈gV xs k,i < xs.length:=fun i h=>mJ h
 have hlen:=mK xs k
 generalize gV xs k=l at e1 e2 hmem hlen
 refine .inr (.inr (.inr ⟨[],[2000],[_],[],_,M1,rfl,trivial,rfl,trivial,?_⟩))
 rintro x U ⟨hx,rfl⟩
 refine ⟨rfl,?_⟩
 have C2:=xy (E:=(aR Tryz.prog tt Tryz.f18.ntmps w X (aA [] β)).toEnv) rfl (x:=x) (xs:=xs.map mkE) (n:=xs.length) (k:=k) (by simp) (by omega)
 refine .inr (.inr (.inr ⟨[],[1000],[_,_],[_],_,C2,rfl,⟨.inl rfl,trivial⟩,rfl,trivial,?_⟩))
 rintro r U ⟨U0,⟨s,n,hsn,rfl,hs,rfl⟩,rfl⟩
 rw [e1] at hsn ⊢
 rw [h1]
 refine ⟨rfl,?_⟩
 obtain ⟨sa,sc,rfl⟩:=hs.len
 refine ⟨_,fun w' _=>am Tryz.underlying22 w',?_⟩
 have hnl:n=l.length:=by rw [hsn,List.length_map]
 obtain ⟨a,cap,rfl,hc,h4⟩:=hv'.shape
 refine ⟨fun q f m=>∃ (j:Nat) (y:Value) (N:Nat),q=l.length - j/\j<=l.length/\N=j/\IsL y N/\f=[(0,SV.c (.slice a xs.length cap)),(8,SV.c (.int .i64 0)),(9,SV.c y),(24,SV.c (.slice sa n sc)),(25,SV.c (.int .i64 (n:Nat))),(26,SV.c (.int .i64 (j:Nat)))]/\m=[(3000,Blk.own y 31 10 N (cat EC.A ((l.take j).filterMap (fun i=>xs[i]?)))),(1000,Blk.own (.slice sa n sc) 3 1 n (bd (l.map fun i:Nat=>(i:Int))))],l.length,⟨_,_,⟨0,.slice none 0 0,0,by omega,by omega,rfl,.nil,rfl,rfl⟩,⟨rfl,rfl,rfl,rfl,rfl,rfl,trivial⟩,⟨.inr ⟨rfl,rfl,rfl⟩,.inl rfl,trivial⟩,rfl⟩,?_⟩
 rintro q f m ⟨j,y,N,rfl,hj,hN,hy,rfl,rfl⟩
 refine ⟨fun h=>?_,fun h=>?_⟩
 ·have h:j < n:=by have:=ab h;omega
  obtain ⟨i,hi⟩:∃ i,l[j]? = some i:=⟨_,List.getElem?_eq_getElem (show j < l.length by omega)⟩
  have hil:=hmem i (List.mem_of_getElem? hi)
  obtain ⟨z,hz⟩:∃ z,xs[i]? = some z:=⟨_,List.getElem?_eq_getElem hil⟩
  obtain ⟨b,o,rfl,h5⟩:=h4 (by omega)
  have hE':VOk (aR Tryz.prog tt Tryz.f18.ntmps w X (aA [] β)):=af
  have L1:=bF hE' h5 EC.size hz (ty:=31) (ti:=dE) rfl rfl rfl (p:=o+((i:Nat):Int).toNat*10) rfl
  rcases hs with ⟨hs1,hs2⟩ | ⟨g0,c0,hs1⟩
  ·omega
  cases hs1
  refine ⟨by omega,by omega,.inr ⟨1000,g0,_,n,_,_,_,_,rfl,rfl,_,(by rw [uy];exact oy hi),?_⟩⟩
  have F1:=nr z
  have F2:=z.fits.one
  have F3:=z.ext10
  have F4:z.A.size=1*10:=z.size
  have F5:cat EC.A ((l.take j).filterMap (fun i=>xs[i]?))++z.A=cat EC.A ((l.take (j+1)).filterMap (fun i=>xs[i]?)):=by rw [tE hi hz,cat_append,bp]
  generalize hY:z.A=ZA at L1 F1 F2 F3 F4 F5
  refine ⟨by omega,by omega,.inl ⟨_,L1,.inl ⟨by decide,by decide,_,F1,F4,by decide,3000,N,_,.inl rfl,by decide,F2,F4,_,F3,?_⟩⟩⟩
  obtain ⟨q,hq,hb⟩:=pH
  refine ⟨by omega,by unfold maxLen;omega,⟨q,hq,by rw [hb];omega⟩,trivial,fun g2 cap2=>?_⟩
  exact ⟨l.length - (j+1),_,_,by omega,⟨j+1,_,N+1,rfl,by omega,by omega,.some,rfl,rfl⟩,⟨rfl,rfl,rfl,rfl,rfl,ag (au (by omega)),trivial⟩,⟨.inl (aC F5),.inl rfl,trivial⟩,rfl⟩
 ·have h:j=l.length:=by have:=ae h;omega
  subst h
  rw [List.take_length]
  have e3:=oB hmem
  exact ⟨[(3000,Blk.own y 31 10 N (cat EC.A (l.filterMap (fun i=>xs[i]?))))],[],⟨y,N,by rw [e2,e3];exact hN,by rw [h0];rfl,hy,by rw [e2]⟩,⟨.inl rfl,trivial⟩,rfl⟩

end Go.Proofs.YtekfkdddadcalaaGreatDoor
