/- sums by texts: an answer, an addition. sums by balances: an ; no condition. -/
import Derived.Test.YtekfkdddadcalaaGreatDoorPositionPlaysQ26
open List (getElem?_eq_getElem length_append length_cons take_add_one)
open Go.IntKind (i64)
set_option maxRecDepth 100000
set_option maxHeartbeats 4000000
namespace Go.Proofs.YtekfkdddadcalaaGreatDoor
open Go Go.RowKit Go.SX
section
variable {κ:Type} [DecidableEq κ] {lt:κ->κ->Bool}
theorem Cc {α:Type} {p:α->Bool} {x:α}:∀ {l:List α},x∈l.takeWhile p->p x=true
 | [],h=>by cases h
 | y :: l,h=>by
  rw [List.takeWhile_cons] at h
  split at h
  ·rename_i hy
   rcases List.mem_cons.1 h with rfl | h
   ·exact hy
   ·exact Cc h
  ·cases h
theorem jP (O:StrictO lt) {H:List (κ×Int)} (hs:SrtA lt H) (k:κ):(d7 H k=true->∃ p m s,H=p++(k,m) :: s/\iM lt H k=p.length/\az H k=m/\(∀ x∈p,lt x.1 k=true)/\(∀ x∈s,lt k x.1=true))/\(d7 H k=false->∃ p s,H=p++s/\iM lt H k=p.length/\az H k=0/\(∀ x∈p,lt x.1 k=true)/\(∀ x∈s,lt k x.1=true)):=by
 have hsplit:=List.takeWhile_append_dropWhile (p:=fun x:κ×Int=>lt x.1 k) (l:=H)
 have h1:∀ x∈H.takeWhile (fun x=>lt x.1 k),lt x.1 k=true:=fun x hx=>Cc (p:=fun x:κ×Int=>lt x.1 k) hx
 have h0:∀ y t,H.dropWhile (fun x=>lt x.1 k)=y :: t->lt y.1 k=false:=fun y t e=>by
  have:=List.head?_dropWhile_not (p:=fun x:κ×Int=>lt x.1 k) (l:=H)
  rw [e] at this
  simpa using this
 generalize H.takeWhile (fun x=>lt x.1 k)=p at *
 generalize H.dropWhile (fun x=>lt x.1 k)=s at *
 subst hsplit
 have hs':=hs
 unfold SrtA at hs'
 rw [List.pairwise_append] at hs'
 have h2:∀ x∈s,lt x.1 k=false:=fun x hx=>by
  cases s with
  | nil=>cases hx
  | cons y t =>
   have hy:=h0 y t rfl
   rcases List.mem_cons.1 hx with rfl | hx
   ·exact hy
   ·cases e:lt x.1 k with
    | false=>rfl
    | true=>rw [O.tr _ _ _ ((List.pairwise_cons.1 hs'.2.1).1 x hx) e] at hy;cases hy
 have hp:=oU h1 h2
 have hh:=tB (k:=k) O hs h1 h2
 cases s with
 | nil =>
  refine ⟨fun h=>?_,fun _=>⟨p,[],rfl,hp,?_,h1,fun x hx=>by cases hx⟩⟩
  ·rw [hh] at h;cases h
  ·rw [eF fun x hx=>O.ne (h1 x hx)];rfl
 | cons y t =>
  obtain ⟨a,m⟩:=y
  have hyt:=(List.pairwise_cons.1 hs'.2.1).1
  refine ⟨fun h=>?_,fun h=>?_⟩
  ·rw [hh] at h
   have e:a=k:=ab h
   subst e
   exact ⟨p,m,t,rfl,hp,by rw [eF fun x hx=>O.ne (h1 x hx),cX],h1,hyt⟩
  ·rw [hh] at h
   have e:a≠k:=ae h
   have hka:lt k a=true:=by
    cases q:lt k a with
    | true=>rfl
    | false=>exact absurd (O.tri a k (h2 (a,m) (by simp)) q) e
   have h3:∀ x∈(a,m) :: t,lt k x.1=true:=fun x hx=>by
    rcases List.mem_cons.1 hx with rfl | hx
    ·exact hka
    ·exact O.tr _ _ _ hka (hyt x hx)
   exact ⟨p,(a,m) :: t,rfl,hp,by rw [eF fun x hx=>O.ne (h1 x hx)];exact dr fun x hx=>(O.ne (h3 x hx)).symm,h1,h3⟩
theorem ni (O:StrictO lt) {H p s:List (κ×Int)} {k:κ} (hs:SrtA lt H) (hz:NzA H) (hH:H=p++s\/∃ m,H=p++(k,m) :: s) (h1:∀ x∈p,lt x.1 k=true) (h2:∀ x∈s,lt k x.1=true) (v:Int):cS lt H k v=if v=0 then p++s else p++(k,v) :: s:=by
 have hps:SrtA lt (p++s):=by
  rcases hH with rfl | ⟨m,rfl⟩
  ·exact hs
  ·exact hs.parts.2.2
 have hg:∀ k',k'≠k->az H k'=az (p++s) k':=fun k' hk=>by
  rcases hH with rfl | ⟨m,rfl⟩
  ·rfl
  ·exact iP hk
 have hn:NzA (p++s):=fun x hx=>by
  rcases hH with rfl | ⟨m,rfl⟩
  ·exact hz x hx
  ·rcases List.mem_append.1 hx with h | h
   ·exact hz x (by simp [h])
   ·exact hz x (by simp [h])
 split
 ·rename_i e;subst e
  exact (s9 O hs hz (Upd.gone O h1 h2 hps hg) hn).symm
 ·rename_i e
  refine (s9 O hs hz (Upd.mid O h1 h2 hps hg) fun x hx=>?_).symm
  rcases List.mem_append.1 hx with h | h
  ·exact hn x (by simp [h])
  ·rcases List.mem_cons.1 h with rfl | h
   ·exact e
   ·exact hn x (by simp [h])
end
theorem xe (j:Nat):bg 0 ((j:Nat):Int) fR.size=j*2:=by
 show bg 0 ((j:Nat):Int) 2=j*2
 simp [bg]
theorem wP {H p s:List (Bs×Int)} {k:Bs} {m:Int} (h:H=p++(k,m) :: s):(cat ao H)[p.length*2+1]? = some (.int .i64 m):=by
 have g1:H[p.length]? = some (k,m):=by rw [h];exact cK _ _ _
 rw [cq aJ H p.length (k,m) 1 g1 (by decide)]
 rfl
theorem Co {p s:List (Bs×Int)} {k:Bs} {m v:Int}:(cat ao (p++(k,m) :: s)).setIfInBounds (p.length*2+1) (.int .i64 v)=cat ao (p++(k,v) :: s):=by
 have h1:=io aJ (l:=p++(k,m) :: s) (j:=p.length) (by simp) (k,v)
 rw [oR] at h1
 rw [<- h1]
 apply Array.ext_getElem?
 intro j
 have hsz:(cat ao (p++(k,m) :: s)).size=(p++(k,m) :: s).length*2:=Go.SX.cat_size aJ _
 have hl:(p++(k,m) :: s).length=p.length+(s.length+1):=by simp
 rw [bM,Array.getElem?_setIfInBounds]
 have hlen:(ao (k,v)).toList.length=2:=rfl
 rw [hlen]
 by_cases c:p.length*2+1=j
 ·subst c
  rw [if_pos rfl,if_pos (by rw [hsz];omega),if_neg (by omega),if_pos (by rw [hsz];omega)]
  rw [show p.length*2+1 - p.length*2=1 by omega];rfl
 ·rw [if_neg c]
  by_cases c2:j=p.length*2
  ·subst c2
   rw [if_neg (by omega),if_pos (by rw [hsz];omega),Nat.sub_self]
   have g1:(p++(k,m) :: s)[p.length]? = some (k,m):=cK _ _ _
   have:=cq aJ _ p.length (k,m) 0 g1 (by decide)
   rw [Nat.add_zero] at this
   rw [this];rfl
  ·rw [if_pos (by omega)]
theorem GZ {E:Env} (hE:E.P=Tryz.prog) {vh vc vp:Value} {day:Int} {H:List (Bs×Int)} {n:Nat} (hv:IsL vh n) (hn:n=H.length) (hn2:H.length<=1000000000000) (hs:SrtA ltB H) (k:Bs):OwnC E 86 [SV.ptr 9500 0,SV.c (.string (S k))] [(9501,Blk.own vh 136 2 n (cat ao H)),(9500,Blk.row 93 7 (LdA vh vc vp day))] (fun r U=>r=.int .i64 (az H k)/\U=[(9501,Blk.own vh 136 2 n (cat ao H)),(9500,Blk.row 93 7 (LdA vh vc vp day))]):=by
 refine av [] af ah NL E hE [SV.ptr 9500 0,SV.c (.string (S k))] [(9501,Blk.own vh 136 2 n (cat ao H)),(9500,Blk.row 93 7 (LdA vh vc vp day))] _ rfl rfl fun w X β hT=>?_
 have PO:=yJ (E:=(aN Tryz.prog tt Tryz.f86.ntmps w X (ay [(9501,Blk.own vh 136 2 n (cat ao H)),(9500,Blk.row 93 7 (LdA vh vc vp day))] β)).toEnv) rfl (vh:=vh) (vc:=vc) (vp:=vp) (day:=day) hn hn2 hs k
 refine .inr (.inr (.inl ⟨[],[_,_],[_,_],_,[_,_],PO,rfl,⟨.inl rfl,rfl,trivial⟩,rfl,rfl,fun c=>?_,fun c=>?_⟩))
 ·have c:d7 H k=true:=c
  obtain ⟨p,m,s,hH,hp,hg,-,-⟩:=(jP cd hs k).1 c
  have hlH:=congrArg List.length hH
  simp only [length_append,length_cons] at hlH
  rcases hv with ⟨rfl,h0⟩ | ⟨g0,c0,rfl⟩
  ·omega
  have L1:=wP hH
  rw [hp]
  refine ⟨_,rfl,by omega,by omega,.inr ⟨9501,g0,_,n,_,_,_,_,rfl,rfl,_,(by rw [xe];exact L1),?_⟩⟩
  exact ⟨[_,_],[],⟨by rw [hg];rfl,rfl⟩,⟨.inl rfl,rfl,trivial⟩,rfl⟩
 ·have c:d7 H k=false:=c
  obtain ⟨p,s,hH,hp,hg,-,-⟩:=(jP cd hs k).2 c
  exact ⟨[_,_],[],⟨by rw [hg];rfl,rfl⟩,⟨.inl rfl,rfl,trivial⟩,rfl⟩
theorem A9 (k:Bs) {pl:List (Nat×Nat)} (hpl:pl=[(0,1),(1,1)]):Instr.fill (fun k=>pl[k]?) fR.zero [(0,.string (S k))]=some (ao (k,0)):=by
 subst hpl;rfl
theorem A7 (x:Bs×Int):Instr.fill (fun k=>some (k*fR.size,fR.size)) (madeCells fR.zero (1*fR.size)) [(0,.agg (ao x))]=some (ao x):=by kernel_rfl
theorem wy (vh vc vp u:Value) (day:Int):(LdA vh vc vp day).setIfInBounds 1 u=LdA u vc vp day:=rfl
def OQ (H:List (Bs×Int)) (vc vp:Value) (day:Int) (r:Value) (U:aA):Prop:=∃ vh n,r=.tuple #[]/\IsL vh n/\n=H.length/\U=[(9501,Blk.own vh 136 2 n (cat ao H)),(9500,Blk.row 93 7 (LdA vh vc vp day))]
theorem be {v:Value} {n:Nat} (h:IsL v n):v.oneCell'=true:=by
 rcases h with ⟨rfl,-⟩ | ⟨g,c,rfl⟩<;>rfl
theorem Hb {E:Env} (hE:E.P=Tryz.prog) {vh vc vp:Value} {day:Int} {H:List (Bs×Int)} {n:Nat} (hv:IsL vh n) (hn:n=H.length) (hn2:H.length<=100000000000) (hs:SrtA ltB H) (hz:NzA H) (k:Bs) (d:Int):OwnC E 88 [SV.ptr 9500 0,SV.c (.string (S k)),SV.c (.int .i64 d)] [(9501,Blk.own vh 136 2 n (cat ao H)),(9500,Blk.row 93 7 (LdA vh vc vp day))] (OQ (cS ltB H k (w64 (az H k+d))) vc vp day):=by
 refine av [3] af ah NJ E hE [SV.ptr 9500 0,SV.c (.string (S k)),SV.c (.int .i64 d)] [(9501,Blk.own vh 136 2 n (cat ao H)),(9500,Blk.row 93 7 (LdA vh vc vp day))] _ rfl rfl fun w X β hT=>?_
 have hE':(aN Tryz.prog tt Tryz.f88.ntmps w X (ay [(9501,Blk.own vh 136 2 n (cat ao H)),(9500,Blk.row 93 7 (LdA vh vc vp day))] β)).toEnv.P=Tryz.prog:=rfl
 have PO:=yJ hE' (vh:=vh) (vc:=vc) (vp:=vp) (day:=day) hn (by omega) hs k
 refine .inr (.inr (.inl ⟨[],[_,_],[_,_],_,[_,_],PO,rfl,⟨.inl rfl,rfl,trivial⟩,rfl,rfl,?_⟩))
 refine ⟨fun f mm=>∃ (v1:Value) (n1:Nat) (p s:List (Bs×Int)) (m:Int),IsL v1 n1/\n1=p.length+(s.length+1)/\n1<=H.length+1/\m=az H k/\(∀ v,cS ltB H k v=if v=0 then p++s else p++(k,v) :: s)/\f=[(0,SV.ptr 9500 0),(2,SV.c (.int .i64 d)),(6,SV.c (.int .i64 (p.length:Nat)))]/\mm=[(9501,Blk.own v1 136 2 n1 (cat ao (p++(k,m) :: s))),(9500,Blk.row 93 7 (LdA v1 vc vp day))],⟨fun c=>?_,fun c=>?_⟩,?_⟩
 ·have c:(!d7 H k)=true:=c
  have c:d7 H k=false:=by simpa using c
  obtain ⟨p,s,rfl,hp,hg,h1,h2⟩:=(jP cd hs k).2 c
  have SA:=ni cd hs hz (.inl rfl) h1 h2
  rw [length_append] at hn2
  have I1:=Du hE' (v:=vh) (p:=p) (s:=s) hn (by rw [hn,length_append];omega) (k,0) (i:=(iM ltB (p++s) k:Nat)) (by rw [hp]) (m:=2)
  have e9:=be hv
  refine ⟨_,rfl,_,A9 k rfl,.inl ⟨by decide,by decide,_,A7 (k,0),rfl,?_⟩⟩
  refine .inr (.inr (.inr ⟨[(9503,24)],[9501],[_,_,_],[_,_],_,I1,rfl,⟨.inl rfl,rfl,trivial⟩,rfl,trivial,?_⟩))
  rintro v1 U ⟨hv1,rfl⟩
  refine ⟨rfl,by decide,be hv1,_,wy vh vc vp v1 day,?_⟩
  exact ⟨_,_,⟨v1,n+1,p,s,0,hv1,by rw [hn,length_append];omega,by rw [hn];exact Nat.le_refl _,hg.symm,SA,rfl,rfl⟩,⟨rfl,rfl,ag (by rw [hp]),trivial⟩,⟨.inl rfl,rfl,trivial⟩,rfl⟩
 ·have c:(!d7 H k)=false:=c
  have c:d7 H k=true:=by simpa using c
  obtain ⟨p,m,s,rfl,hp,hg,h1,h2⟩:=(jP cd hs k).1 c
  have SA:=ni cd hs hz (.inr ⟨m,rfl⟩) h1 h2
  exact ⟨_,_,⟨vh,n,p,s,m,hv,by rw [hn,length_append,length_cons],by omega,hg.symm,SA,rfl,rfl⟩,⟨rfl,rfl,ag (by rw [hp]),trivial⟩,⟨.inl rfl,rfl,trivial⟩,rfl⟩
 clear PO hv
 rintro f1 m1 ⟨v1,n1,p,s,m,hv1,hn1,hn1H,hm,SA,rfl,rfl⟩
 rcases hv1 with ⟨rfl,h0⟩ | ⟨g0,c0,rfl⟩
 ·omega
 have L1:=wP (H:=p++(k,m) :: s) rfl
 have S1:=Co (p:=p) (s:=s) (k:=k) (m:=m) (v:=w64 (m+d))
 have L2:=wP (H:=p++(k,w64 (m+d)) :: s) rfl
 have hsz:(cat ao (p++(k,m) :: s)).size=n1*2:=by rw [Go.SX.cat_size aJ,length_append,length_cons,hn1]
 rw [<- hm,SA]
 refine ⟨_,rfl,by omega,by omega,.inr ⟨9501,g0,_,n1,_,_,_,_,rfl,rfl,.int .i64 m,(by rw [xe];exact L1),?_⟩⟩
 refine ⟨by omega,by omega,⟨9501,g0,_,n1,_,_,_,_,rfl,rfl,(by rw [xe,hsz];omega),rfl,cat ao (p++(k,w64 (m+d)) :: s),(by rw [xe];exact S1),?_⟩⟩
 refine ⟨_,rfl,by omega,by omega,.inr ⟨9501,g0,_,n1,_,_,_,_,rfl,rfl,.int .i64 (w64 (m+d)),(by rw [xe];exact L2),fun c=>?_,fun c=>?_⟩⟩
 ·have c:(w64 (m+d) == 0)=true:=c
  have c:w64 (m+d)=0:=by simpa using c
  rw [if_pos c]
  have DO:=Ej hE' (v:=.slice (some ⟨g0,0,none⟩) n1 c0) (p:=p) (s:=s) (x:=(k,w64 (m+d))) (n:=n1) (by rw [length_append,length_cons];exact hn1) (by omega) (i:=(p.length:Nat)) (j:=i64.wrap ((p.length:Nat)+1)) rfl (aq (by omega))
  refine ⟨_,rfl,.inr (.inr (.inr ⟨[],[9501],[_,_,_],[_],_,DO,rfl,⟨.inl rfl,trivial⟩,rfl,trivial,?_⟩))⟩
  rintro v2 U ⟨hv2,rfl⟩
  refine ⟨rfl,by decide,be hv2,_,wy _ vc vp v2 day,?_⟩
  exact ⟨[_,_],[],⟨v2,_,rfl,hv2,rfl,rfl⟩,⟨.inl rfl,rfl,trivial⟩,rfl⟩
 ·have c:(w64 (m+d) == 0)=false:=c
  have c:w64 (m+d)≠0:=by simpa using c
  rw [if_neg c]
  exact ⟨[_,_],[],⟨_,n1,rfl,.inr ⟨g0,c0,rfl⟩,by rw [length_append,length_cons];exact hn1,rfl⟩,⟨.inl rfl,rfl,trivial⟩,rfl⟩
end Go.Proofs.YtekfkdddadcalaaGreatDoor
namespace Go.Proofs.YtekfkdddadcalaaGreatDoor
open Go Go.RowKit Go.SX
open Go.Proofs.Tryz (prog)
theorem rl (j:Nat):bg 0 ((j:Nat):Int) dW.size=j*3:=by
 show bg 0 ((j:Nat):Int) 3=j*3
 simp [bg]
theorem sZ {H p s:List (Ky×Int)} {k:Ky} {m:Int} (h:H=p++(k,m) :: s):(cat ai H)[p.length*3+2]? = some (.int .i64 m):=by
 have g1:H[p.length]? = some (k,m):=by rw [h];exact cK _ _ _
 rw [cq aH H p.length (k,m) 2 g1 (by decide)]
 rfl
theorem uo {p s:List (Ky×Int)} {k:Ky} {m v:Int}:(cat ai (p++(k,m) :: s)).setIfInBounds (p.length*3+2) (.int .i64 v)=cat ai (p++(k,v) :: s):=by
 have h1:=io aH (l:=p++(k,m) :: s) (j:=p.length) (by simp) (k,v)
 rw [oR] at h1
 rw [<- h1]
 apply Array.ext_getElem?
 intro j
 have hsz:(cat ai (p++(k,m) :: s)).size=(p++(k,m) :: s).length*3:=Go.SX.cat_size aH _
 have hl:(p++(k,m) :: s).length=p.length+(s.length+1):=by simp
 rw [bM,Array.getElem?_setIfInBounds]
 have hlen:(ai (k,v)).toList.length=3:=rfl
 rw [hlen]
 have g1:(p++(k,m) :: s)[p.length]? = some (k,m):=cK _ _ _
 by_cases c:p.length*3+2=j
 ·subst c
  rw [if_pos rfl,if_pos (by rw [hsz];omega),if_neg (by omega),if_pos (by rw [hsz];omega)]
  rw [show p.length*3+2 - p.length*3=2 by omega];rfl
 ·rw [if_neg c]
  by_cases c2:j=p.length*3
  ·subst c2
   rw [if_neg (by omega),if_pos (by rw [hsz];omega),Nat.sub_self]
   have:=cq aH _ p.length (k,m) 0 g1 (by decide)
   rw [Nat.add_zero] at this
   rw [this];rfl
  ·by_cases c3:j=p.length*3+1
   ·subst c3
    rw [if_neg (by omega),if_pos (by rw [hsz];omega),show p.length*3+1 - p.length*3=1 by omega]
    have:=cq aH _ p.length (k,m) 1 g1 (by decide)
    rw [this];rfl
   ·rw [if_pos (by omega)]
theorem DY (k:Ky) {pl:List (Nat×Nat)} (hpl:pl=[(0,2),(2,1)]):Instr.fill (fun k=>pl[k]?) dW.zero [(0,.agg (KyA k))]=some (ai (k,0)):=by
 subst hpl;rfl
theorem DW (x:Ky×Int):Instr.fill (fun k=>some (k*dW.size,dW.size)) (madeCells dW.zero (1*dW.size)) [(0,.agg (ai x))]=some (ai x):=by kernel_rfl
theorem wx (vh vc vp u:Value) (day:Int):(LdA vh vc vp day).setIfInBounds 3 u=LdA vh u vp day:=rfl
def MM (H:List (Ky×Int)) (vh vp:Value) (day:Int) (r:Value) (U:aA):Prop:=∃ vc n,r=.tuple #[]/\IsL vc n/\n=H.length/\U=[(9501,Blk.own vc 183 3 n (cat ai H)),(9500,Blk.row 93 7 (LdA vh vc vp day))]
theorem Hc {E:Env} (hE:E.P=prog) {vh vc vp:Value} {day:Int} {H:List (Ky×Int)} {n:Nat} (hv:IsL vc n) (hn:n=H.length) (hn2:H.length<=100000000000) (hs:SrtA bh H) (hz:NzA H) (k:Ky) (d:Int):OwnC E 89 [SV.ptr 9500 2,SV.c (.agg (KyA k)),SV.c (.int .i64 d)] [(9501,Blk.own vc 183 3 n (cat ai H)),(9500,Blk.row 93 7 (LdA vh vc vp day))] (MM (cS bh H k (w64 (az H k+d))) vh vp day):=by
 refine av [4] af ah JZ E hE [SV.ptr 9500 2,SV.c (.agg (KyA k)),SV.c (.int .i64 d)] [(9501,Blk.own vc 183 3 n (cat ai H)),(9500,Blk.row 93 7 (LdA vh vc vp day))] _ rfl rfl fun w X β hT=>?_
 have hE':(aN prog tt Tryz.f89.ntmps w X (ay [(9501,Blk.own vc 183 3 n (cat ai H)),(9500,Blk.row 93 7 (LdA vh vc vp day))] β)).toEnv.P=prog:=rfl
 have PO:=uQ hE' (vh:=vh) (vc:=vc) (vp:=vp) (day:=day) (off:=2) rfl (vl:=vc) rfl hn (by omega) hs k
 refine ⟨rfl,?_⟩
 refine .inr (.inr (.inl ⟨[],[_,_],[_,_],_,[_,_],PO,rfl,⟨.inl rfl,rfl,trivial⟩,rfl,rfl,?_⟩))
 refine ⟨fun f mm=>∃ (v1:Value) (n1:Nat) (p s:List (Ky×Int)) (m:Int),IsL v1 n1/\n1=p.length+(s.length+1)/\n1<=H.length+1/\m=az H k/\(∀ v,cS bh H k v=if v=0 then p++s else p++(k,v) :: s)/\f=[(0,SV.ptr 9500 2),(2,SV.c (.int .i64 d)),(6,SV.c (.int .i64 (p.length:Nat)))]/\mm=[(9501,Blk.own v1 183 3 n1 (cat ai (p++(k,m) :: s))),(9500,Blk.row 93 7 (LdA vh v1 vp day))],⟨fun c=>?_,fun c=>?_⟩,?_⟩
 ·have c:(!d7 H k)=true:=c
  have c:d7 H k=false:=by simpa using c
  obtain ⟨p,s,rfl,hp,hg,h1,h2⟩:=(jP bu hs k).2 c
  have SA:=ni bu hs hz (.inl rfl) h1 h2
  rw [length_append] at hn2
  have I1:=vo hE' (v:=vc) (p:=p) (s:=s) hn (by rw [hn,length_append];omega) (k,0) (i:=(iM bh (p++s) k:Nat)) (by rw [hp]) (m:=3)
  have e9:=be hv
  refine ⟨_,rfl,_,DY k rfl,.inl ⟨by decide,by decide,_,DW (k,0),rfl,?_⟩⟩
  refine .inr (.inr (.inr ⟨[(9503,24)],[9501],[_,_,_],[_,_],_,I1,rfl,⟨.inl rfl,rfl,trivial⟩,by kernel_rfl,(by change _=true;kernel_rfl),?_⟩))
  rintro v1 U ⟨hv1,rfl⟩
  refine ⟨by kernel_rfl,by decide,be hv1,_,wx vh vc vp v1 day,by kernel_rfl,?_⟩
  exact ⟨_,_,⟨v1,n+1,p,s,0,hv1,by rw [hn,length_append];omega,by rw [hn];exact Nat.le_refl _,hg.symm,SA,rfl,rfl⟩,⟨rfl,rfl,ag (by rw [hp]),trivial⟩,⟨.inl rfl,rfl,trivial⟩,rfl⟩
 ·have c:(!d7 H k)=false:=c
  have c:d7 H k=true:=by simpa using c
  obtain ⟨p,m,s,rfl,hp,hg,h1,h2⟩:=(jP bu hs k).1 c
  have SA:=ni bu hs hz (.inr ⟨m,rfl⟩) h1 h2
  exact ⟨_,_,⟨vc,n,p,s,m,hv,by rw [hn,length_append,length_cons],by omega,hg.symm,SA,rfl,rfl⟩,⟨rfl,rfl,ag (by rw [hp]),trivial⟩,⟨.inl rfl,rfl,trivial⟩,rfl⟩
 clear PO hv
 rintro f1 m1 ⟨v1,n1,p,s,m,hv1,hn1,hn1H,hm,SA,rfl,rfl⟩
 rcases hv1 with ⟨rfl,h0⟩ | ⟨g0,c0,rfl⟩
 ·omega
 have L1:=sZ (H:=p++(k,m) :: s) rfl
 have S1:=uo (p:=p) (s:=s) (k:=k) (m:=m) (v:=w64 (m+d))
 have L2:=sZ (H:=p++(k,w64 (m+d)) :: s) rfl
 have hsz:(cat ai (p++(k,m) :: s)).size=n1*3:=by rw [Go.SX.cat_size aH,length_append,length_cons,hn1]
 rw [<- hm,SA]
 refine ⟨_,rfl,by omega,by omega,.inr ⟨9501,g0,_,n1,_,_,_,_,rfl,rfl,.int .i64 m,(by rw [rl];exact L1),?_⟩⟩
 refine ⟨by omega,by omega,⟨9501,g0,_,n1,_,_,_,_,rfl,rfl,(by rw [rl,hsz];omega),rfl,cat ai (p++(k,w64 (m+d)) :: s),(by rw [rl];exact S1),?_⟩⟩
 refine ⟨_,rfl,by omega,by omega,.inr ⟨9501,g0,_,n1,_,_,_,_,rfl,rfl,.int .i64 (w64 (m+d)),(by rw [rl];exact L2),fun c=>?_,fun c=>?_⟩⟩
 ·have c:(w64 (m+d) == 0)=true:=c
  have c:w64 (m+d)=0:=by simpa using c
  rw [if_pos c]
  have DO:=v6 hE' (v:=.slice (some ⟨g0,0,none⟩) n1 c0) (p:=p) (s:=s) (x:=(k,w64 (m+d))) (n:=n1) (by rw [length_append,length_cons];exact hn1) (by omega) (i:=(p.length:Nat)) (j:=i64.wrap ((p.length:Nat)+1)) rfl (aq (by omega))
  refine ⟨_,rfl,.inr (.inr (.inr ⟨[],[9501],[_,_,_],[_],_,DO,rfl,⟨.inl rfl,trivial⟩,rfl,trivial,?_⟩))⟩
  rintro v2 U ⟨hv2,rfl⟩
  refine ⟨rfl,by decide,be hv2,_,wx vh _ vp v2 day,?_⟩
  exact ⟨[_,_],[],⟨v2,_,rfl,hv2,rfl,rfl⟩,⟨.inl rfl,rfl,trivial⟩,rfl⟩
 ·have c:(w64 (m+d) == 0)=false:=c
  have c:w64 (m+d)≠0:=by simpa using c
  rw [if_neg c]
  exact ⟨[_,_],[],⟨_,n1,rfl,.inr ⟨g0,c0,rfl⟩,by rw [length_append,length_cons];exact hn1,rfl⟩,⟨.inl rfl,rfl,trivial⟩,rfl⟩
theorem DX (k:Ky) {pl:List (Nat×Nat)} (hpl:pl=[(0,2),(2,1)]):Instr.fill (fun k=>pl[k]?) dW.zero [(0,.agg (KyA k))]=some (ai (k,0)):=by
 subst hpl;rfl
theorem DV (x:Ky×Int):Instr.fill (fun k=>some (k*dW.size,dW.size)) (madeCells dW.zero (1*dW.size)) [(0,.agg (ai x))]=some (ai x):=by kernel_rfl
theorem ww (vh vc vp u:Value) (day:Int):(LdA vh vc vp day).setIfInBounds 5 u=LdA vh vc u day:=rfl
def ML (H:List (Ky×Int)) (vh vc:Value) (day:Int) (r:Value) (U:aA):Prop:=∃ vp n,r=.tuple #[]/\IsL vp n/\n=H.length/\U=[(9501,Blk.own vp 183 3 n (cat ai H)),(9500,Blk.row 93 7 (LdA vh vc vp day))]
theorem ME {E:Env} (hE:E.P=prog) {vh vc vp:Value} {day:Int} {H:List (Ky×Int)} {n:Nat} (hv:IsL vp n) (hn:n=H.length) (hn2:H.length<=100000000000) (hs:SrtA bh H) (hz:NzA H) (k:Ky) (d:Int):OwnC E 89 [SV.ptr 9500 4,SV.c (.agg (KyA k)),SV.c (.int .i64 d)] [(9501,Blk.own vp 183 3 n (cat ai H)),(9500,Blk.row 93 7 (LdA vh vc vp day))] (ML (cS bh H k (w64 (az H k+d))) vh vc day):=by
 refine av [4] af ah JZ E hE [SV.ptr 9500 4,SV.c (.agg (KyA k)),SV.c (.int .i64 d)] [(9501,Blk.own vp 183 3 n (cat ai H)),(9500,Blk.row 93 7 (LdA vh vc vp day))] _ rfl rfl fun w X β hT=>?_
 have hE':(aN prog tt Tryz.f89.ntmps w X (ay [(9501,Blk.own vp 183 3 n (cat ai H)),(9500,Blk.row 93 7 (LdA vh vc vp day))] β)).toEnv.P=prog:=rfl
 have PO:=uQ hE' (vh:=vh) (vc:=vc) (vp:=vp) (day:=day) (off:=4) rfl (vl:=vp) rfl hn (by omega) hs k
 refine ⟨rfl,?_⟩
 refine .inr (.inr (.inl ⟨[],[_,_],[_,_],_,[_,_],PO,rfl,⟨.inl rfl,rfl,trivial⟩,rfl,rfl,?_⟩))
 refine ⟨fun f mm=>∃ (v1:Value) (n1:Nat) (p s:List (Ky×Int)) (m:Int),IsL v1 n1/\n1=p.length+(s.length+1)/\n1<=H.length+1/\m=az H k/\(∀ v,cS bh H k v=if v=0 then p++s else p++(k,v) :: s)/\f=[(0,SV.ptr 9500 4),(2,SV.c (.int .i64 d)),(6,SV.c (.int .i64 (p.length:Nat)))]/\mm=[(9501,Blk.own v1 183 3 n1 (cat ai (p++(k,m) :: s))),(9500,Blk.row 93 7 (LdA vh vc v1 day))],⟨fun c=>?_,fun c=>?_⟩,?_⟩
 ·have c:(!d7 H k)=true:=c
  have c:d7 H k=false:=by simpa using c
  obtain ⟨p,s,rfl,hp,hg,h1,h2⟩:=(jP bu hs k).2 c
  have SA:=ni bu hs hz (.inl rfl) h1 h2
  rw [length_append] at hn2
  have I1:=vo hE' (v:=vp) (p:=p) (s:=s) hn (by rw [hn,length_append];omega) (k,0) (i:=(iM bh (p++s) k:Nat)) (by rw [hp]) (m:=3)
  have e9:=be hv
  refine ⟨_,rfl,_,DX k rfl,.inl ⟨by decide,by decide,_,DV (k,0),rfl,?_⟩⟩
  refine .inr (.inr (.inr ⟨[(9503,24)],[9501],[_,_,_],[_,_],_,I1,rfl,⟨.inl rfl,rfl,trivial⟩,by kernel_rfl,(by change _=true;kernel_rfl),?_⟩))
  rintro v1 U ⟨hv1,rfl⟩
  refine ⟨by kernel_rfl,by decide,be hv1,_,ww vh vc vp v1 day,by kernel_rfl,?_⟩
  exact ⟨_,_,⟨v1,n+1,p,s,0,hv1,by rw [hn,length_append];omega,by rw [hn];exact Nat.le_refl _,hg.symm,SA,rfl,rfl⟩,⟨rfl,rfl,ag (by rw [hp]),trivial⟩,⟨.inl rfl,rfl,trivial⟩,rfl⟩
 ·have c:(!d7 H k)=false:=c
  have c:d7 H k=true:=by simpa using c
  obtain ⟨p,m,s,rfl,hp,hg,h1,h2⟩:=(jP bu hs k).1 c
  have SA:=ni bu hs hz (.inr ⟨m,rfl⟩) h1 h2
  exact ⟨_,_,⟨vp,n,p,s,m,hv,by rw [hn,length_append,length_cons],by omega,hg.symm,SA,rfl,rfl⟩,⟨rfl,rfl,ag (by rw [hp]),trivial⟩,⟨.inl rfl,rfl,trivial⟩,rfl⟩
 clear PO hv
 rintro f1 m1 ⟨v1,n1,p,s,m,hv1,hn1,hn1H,hm,SA,rfl,rfl⟩
 rcases hv1 with ⟨rfl,h0⟩ | ⟨g0,c0,rfl⟩
 ·omega
 have L1:=sZ (H:=p++(k,m) :: s) rfl
 have S1:=uo (p:=p) (s:=s) (k:=k) (m:=m) (v:=w64 (m+d))
 have L2:=sZ (H:=p++(k,w64 (m+d)) :: s) rfl
 have hsz:(cat ai (p++(k,m) :: s)).size=n1*3:=by rw [Go.SX.cat_size aH,length_append,length_cons,hn1]
 rw [<- hm,SA]
 refine ⟨_,rfl,by omega,by omega,.inr ⟨9501,g0,_,n1,_,_,_,_,rfl,rfl,.int .i64 m,(by rw [rl];exact L1),?_⟩⟩
 refine ⟨by omega,by omega,⟨9501,g0,_,n1,_,_,_,_,rfl,rfl,(by rw [rl,hsz];omega),rfl,cat ai (p++(k,w64 (m+d)) :: s),(by rw [rl];exact S1),?_⟩⟩
 refine ⟨_,rfl,by omega,by omega,.inr ⟨9501,g0,_,n1,_,_,_,_,rfl,rfl,.int .i64 (w64 (m+d)),(by rw [rl];exact L2),fun c=>?_,fun c=>?_⟩⟩
 ·have c:(w64 (m+d) == 0)=true:=c
  have c:w64 (m+d)=0:=by simpa using c
  rw [if_pos c]
  have DO:=v6 hE' (v:=.slice (some ⟨g0,0,none⟩) n1 c0) (p:=p) (s:=s) (x:=(k,w64 (m+d))) (n:=n1) (by rw [length_append,length_cons];exact hn1) (by omega) (i:=(p.length:Nat)) (j:=i64.wrap ((p.length:Nat)+1)) rfl (aq (by omega))
  refine ⟨_,rfl,.inr (.inr (.inr ⟨[],[9501],[_,_,_],[_],_,DO,rfl,⟨.inl rfl,trivial⟩,rfl,trivial,?_⟩))⟩
  rintro v2 U ⟨hv2,rfl⟩
  refine ⟨rfl,by decide,be hv2,_,ww vh vc _ v2 day,?_⟩
  exact ⟨[_,_],[],⟨v2,_,rfl,hv2,rfl,rfl⟩,⟨.inl rfl,rfl,trivial⟩,rfl⟩
 ·have c:(w64 (m+d) == 0)=false:=c
  have c:w64 (m+d)≠0:=by simpa using c
  rw [if_neg c]
  exact ⟨[_,_],[],⟨_,n1,rfl,.inr ⟨g0,c0,rfl⟩,by rw [length_append,length_cons];exact hn1,rfl⟩,⟨.inl rfl,rfl,trivial⟩,rfl⟩
theorem pi {n:Int} (h : -9223372036854775808<=n/\n<=9223372036854775807):w64 n=n:=i64_in h
def HB (H:List (Bs×Int)):Prop:=∀ x∈H,0<=x.2/\x.2<=1000000000000000
theorem HB.get {H:List (Bs×Int)} (h:HB H) (k:Bs):0<=az H k/\az H k<=1000000000000000:=by
 by_cases e:az H k=0
 ·rw [e];decide
 ·exact h _ (iQ e)
theorem HB.set {H:List (Bs×Int)} (h:HB H) (hs:SrtA ltB H) {k:Bs} {v:Int} (hv:0<=v/\v<=1000000000000000):HB (cS ltB H k v):=by
 obtain ⟨p,s,e,h1,h2,h3,h4⟩:=gE cd k v hs
 have hm:∀ x∈p++s,x∈H:=fun x hx=>by
  rcases h4 with e | ⟨n,e⟩<;>rw [e]
  ·exact hx
  ·rcases List.mem_append.1 hx with hx | hx<;>simp [hx]
 intro x hx
 rw [e] at hx
 split at hx
 ·exact h x (hm x hx)
 ·rcases List.mem_append.1 hx with hx | hx
  ·exact h x (hm x (by simp [hx]))
  ·rcases List.mem_cons.1 hx with rfl | hx
   ·exact hv
   ·exact h x (hm x (by simp [hx]))
def jt (H:List (Bs×Int)) (k:Bs) (d:Int):List (Bs×Int)×Int:=match fH H k d with
 | .error e=>(H,e)
 | .ok H'=>(H',0)
def zO (H:List (Bs×Int)) (k:Bs) (d:Int) (vc vp:Value) (day:Int) (r:Value) (U:aA):Prop:=∃ vh n,r=.int .i64 (jt H k d).2/\IsL vh n/\n=(jt H k d).1.length/\U=[(9501,Blk.own vh 136 2 n (cat ao (jt H k d).1)),(9500,Blk.row 93 7 (LdA vh vc vp day))]
theorem DC {E:Env} (hE:E.P=prog) {vh vc vp:Value} {day:Int} {H:List (Bs×Int)} {n:Nat} (hv:IsL vh n) (hn:n=H.length) (hn2:H.length<=100000000000) (hs:SrtA ltB H) (hz:NzA H) (hb:HB H) (k:Bs) {d:Int} (hd : -1000000000000000<=d/\d<=1000000000000000):OwnC E 90 [SV.ptr 9500 0,SV.c (.string (S k)),SV.c (.int .i64 d)] [(9501,Blk.own vh 136 2 n (cat ao H)),(9500,Blk.row 93 7 (LdA vh vc vp day))] (zO H k d vc vp day):=by
 refine av [] af ah NI E hE [SV.ptr 9500 0,SV.c (.string (S k)),SV.c (.int .i64 d)] [(9501,Blk.own vh 136 2 n (cat ao H)),(9500,Blk.row 93 7 (LdA vh vc vp day))] _ rfl rfl fun w X β hT=>?_
 have hE':(aN prog tt Tryz.f90.ntmps w X (ay [(9501,Blk.own vh 136 2 n (cat ao H)),(9500,Blk.row 93 7 (LdA vh vc vp day))] β)).toEnv.P=prog:=rfl
 have GO:=GZ hE' (vc:=vc) (vp:=vp) (day:=day) hv hn (by omega) hs k
 have AO:=Hb hE' (vc:=vc) (vp:=vp) (day:=day) hv hn hn2 hs hz k d
 have hg:=hb.get k
 have ew:i64.wrap (az H k+d)=az H k+d:=i64_in (by omega)
 have hw:w64 (az H k+d)=az H k+d:=ew
 rw [hw] at AO
 refine .inr (.inr (.inl ⟨[],[_,_],[_,_],_,[_,_],GO,rfl,⟨.inl rfl,rfl,trivial⟩,rfl,rfl,fun c=>?_,fun c=>?_⟩))
 ·have c:decide (i64.wrap (az H k+d) < 0)=true:=c
  have c:=ab c
  rw [ew] at c
  have hR:jt H k d=(H,181):=by unfold jt fH;rw [if_pos c]
  have Q:zO H k d vc vp day (.int .i64 181) [(9501,Blk.own vh 136 2 n (cat ao H)),(9500,Blk.row 93 7 (LdA vh vc vp day))]:=⟨vh,n,by rw [hR],hv,by rw [hR];exact hn,by rw [hR]⟩
  exact ⟨_,[],Q,⟨.inl rfl,rfl,trivial⟩,rfl⟩
 ·have c:decide (i64.wrap (az H k+d) < 0)=false:=c
  have c:=ae c
  rw [ew] at c
  refine ⟨fun c2=>?_,fun c2=>?_⟩
  ·have c2:decide (i64.wrap (az H k+d) > 1000000000000000)=true:=c2
   have c2:=ab c2
   rw [ew] at c2
   have hR:jt H k d=(H,171):=by unfold jt fH;rw [if_neg c,if_pos c2]
   have Q:zO H k d vc vp day (.int .i64 171) [(9501,Blk.own vh 136 2 n (cat ao H)),(9500,Blk.row 93 7 (LdA vh vc vp day))]:=⟨vh,n,by rw [hR],hv,by rw [hR];exact hn,by rw [hR]⟩
   exact ⟨_,[],Q,⟨.inl rfl,rfl,trivial⟩,rfl⟩
  ·have c2:decide (i64.wrap (az H k+d) > 1000000000000000)=false:=c2
   have c2:=ae c2
   rw [ew] at c2
   have hR:jt H k d=(cS ltB H k (az H k+d),0):=by unfold jt fH;rw [if_neg c,if_neg c2]
   refine .inr (.inr (.inr ⟨[],[],[_,_,_],[_,_],_,AO,rfl,⟨.inl rfl,rfl,trivial⟩,rfl,trivial,?_⟩))
   rintro r U ⟨vh',n',rfl,hv',hn',rfl⟩
   have Q:zO H k d vc vp day (.int .i64 0) [(9501,Blk.own vh' 136 2 n' (cat ao (cS ltB H k (az H k+d)))),(9500,Blk.row 93 7 (LdA vh' vc vp day))]:=⟨vh',n',by rw [hR],hv',by rw [hR];exact hn',by rw [hR]⟩
   exact ⟨rfl,_,[],Q,⟨.inl rfl,rfl,trivial⟩,rfl⟩
def wu (day:Int) (R:Except Int Led) (r:Value) (U:aA):Prop:=∃ (g:Led) (vh vc vp:Value),IsL vh g.h.length/\IsL vc g.c.length/\IsL vp g.p.length/\U=[(9501,Blk.own vh 136 2 (g.h).length (cat ao g.h)),(9504,Blk.own vc 183 3 (g.c).length (cat ai g.c)),(9505,Blk.own vp 183 3 (g.p).length (cat ai g.p)),(9500,Blk.row 93 7 (LdA vh vc vp day))]/\match R with
 | .error e=>r=.int .i64 e/\e≠0
 | .ok g2=>r=.int .i64 0/\g=g2
theorem se (c:Bs) {pl:List (Nat×Nat)} (hpl:pl=[(0,1),(1,1)]):Instr.fill (fun k=>pl[k]?) Ch.zero [(0,.string (S c))]=some (KyA (c,0)):=by
 subst hpl;rfl
theorem nR (c:Bs) (d:Int) {pl:List (Nat×Nat)} (hpl:pl=[(0,1),(1,1)]):Instr.fill (fun k=>pl[k]?) Ch.zero [(0,.string (S c)),(1,.int .i64 d)]=some (KyA (c,d)):=by
 subst hpl;rfl
theorem lB (day:Int) (g:Led) (x:EC):(aK day g x).h=g.h:=by unfold aK;split<;>rfl
theorem oy (H:List (Bs×Int)) (k:Bs) (d:Int):(∃ e,fH H k d=.error e/\e≠0/\jt H k d=(H,e))\/∃ H',fH H k d=.ok H'/\jt H k d=(H',0):=by
 unfold jt fH
 split
 ·exact .inl ⟨181,rfl,by decide,rfl⟩
 ·split
  ·exact .inl ⟨171,rfl,by decide,rfl⟩
  ·exact .inr ⟨_,rfl,rfl⟩
theorem zo {E:Env} (hE:E.P=prog) {g:Led} {vh vc vp:Value} {day:Int} (ho:LedOk g) (hh:IsL vh g.h.length) (hc:IsL vc g.c.length) (hp:IsL vp g.p.length) (hl:g.h.length<=10000000000/\g.c.length<=10000000000/\g.p.length<=10000000000) {x:EC} (hq : -1000000000000000<=x.qty/\x.qty<=1000000000000000):OwnC E 46 [SV.ptr 9500 0,SV.c (.agg x.A)] [(9501,Blk.own vh 136 2 (g.h).length (cat ao g.h)),(9504,Blk.own vc 183 3 (g.c).length (cat ai g.c)),(9505,Blk.own vp 183 3 (g.p).length (cat ai g.p)),(9500,Blk.row 93 7 (LdA vh vc vp day))] (wu day (iz day g x)):=by
 refine av [4] af ah Ok E hE [SV.ptr 9500 0,SV.c (.agg x.A)] [(9501,Blk.own vh 136 2 (g.h).length (cat ao g.h)),(9504,Blk.own vc 183 3 (g.c).length (cat ai g.c)),(9505,Blk.own vp 183 3 (g.p).length (cat ai g.p)),(9500,Blk.row 93 7 (LdA vh vc vp day))] _ rfl rfl fun w X β hT=>?_
 have hE':(aN prog tt Tryz.f46.ntmps w X (ay [(9501,Blk.own vh 136 2 (g.h).length (cat ao g.h)),(9504,Blk.own vc 183 3 (g.c).length (cat ai g.c)),(9505,Blk.own vp 183 3 (g.p).length (cat ai g.p)),(9500,Blk.row 93 7 (LdA vh vc vp day))] β)).toEnv.P=prog:=rfl
 refine ⟨rfl,fun f mm=>∃ (vc' vp':Value),IsL vc' (aK day g x).c.length/\IsL vp' (aK day g x).p.length/\f=[(0,SV.ptr 9500 0),(3,SV.ptr 3 0)]/\mm=[(3,Blk.row 31 10 x.A),(9501,Blk.own vh 136 2 (g.h).length (cat ao g.h)),(9504,Blk.own vc' 183 3 ((aK day g x).c).length (cat ai (aK day g x).c)),(9505,Blk.own vp' 183 3 ((aK day g x).p).length (cat ai (aK day g x).p)),(9500,Blk.row 93 7 (LdA vh vc' vp' day))],⟨_,rfl,_,rfl,by kernel_rfl,fun c=>?_,fun c=>?_⟩,?_⟩
 ·have c:decide (x.settle<=day)=true:=c
  have c:=ab c
  have hS:aK day g x=⟨g.h,kj g.c (x.cur,0) x.amt,g.p⟩:=by unfold aK;rw [if_pos c]
  have AO:=Hc hE' (vh:=vh) (vp:=vp) (day:=day) hc rfl (by omega) ho.c.1 ho.c.2 (x.cur,0) x.amt
  refine ⟨_,rfl,_,se x.cur rfl,_,rfl,?_⟩
  refine .inr (.inr (.inr ⟨[(9501,9504)],[],[_,_,_],[_,_],_,AO,rfl,⟨.inl rfl,rfl,trivial⟩,by kernel_rfl,(by change _=true;kernel_rfl),?_⟩))
  rintro r U ⟨vc',n',rfl,hv',rfl,rfl⟩
  exact ⟨by kernel_rfl,by kernel_rfl,_,_,⟨vc',vp,by rw [hS];exact hv',by rw [hS];exact hp,rfl,rfl⟩,⟨rfl,rfl,trivial⟩,⟨rfl,.inl rfl,.inl (by rw [hS];rfl),.inl (by rw [hS];rfl),rfl,trivial⟩,rfl⟩
 ·have c:decide (x.settle<=day)=false:=c
  have c:=ae c
  have hS:aK day g x=⟨g.h,g.c,kj g.p (x.cur,x.settle) x.amt⟩:=by unfold aK;rw [if_neg c]
  have AO:=ME hE' (vh:=vh) (vc:=vc) (day:=day) hp rfl (by omega) ho.p.1 ho.p.2 (x.cur,x.settle) x.amt
  refine ⟨_,rfl,_,rfl,_,nR x.cur x.settle rfl,_,rfl,?_⟩
  refine .inr (.inr (.inr ⟨[(9501,9505)],[],[_,_,_],[_,_],_,AO,rfl,⟨.inl rfl,rfl,trivial⟩,by kernel_rfl,(by change _=true;kernel_rfl),?_⟩))
  rintro r U ⟨vp',n',rfl,hv',rfl,rfl⟩
  exact ⟨by kernel_rfl,by kernel_rfl,_,_,⟨vc,vp',by rw [hS];exact hc,by rw [hS];exact hv',rfl,rfl⟩,⟨rfl,rfl,trivial⟩,⟨rfl,.inl rfl,.inl (by rw [hS];rfl),.inl (by rw [hS];rfl),rfl,trivial⟩,rfl⟩
 ·rintro f1 m1 ⟨vc',vp',hc',hp',rfl,rfl⟩
  have hSh:=lB day g x
  have HO:=DC hE' (vc:=vc') (vp:=vp') (day:=day) hh rfl (by omega) ho.h.1 ho.h.2 ho.b x.ins hq
  refine ⟨_,rfl,fun c=>?_,fun c=>?_⟩
  ·have c:(x.kind == 2)=true:=c
   have c:x.kind=2:=by simpa using c
   have hR:iz day g x=.ok (aK day g x):=by unfold iz;rw [if_pos c]
   have Q:wu day (iz day g x) (.int .i64 0) [(9501,Blk.own vh 136 2 (g.h).length (cat ao g.h)),(9504,Blk.own vc' 183 3 ((aK day g x).c).length (cat ai (aK day g x).c)),(9505,Blk.own vp' 183 3 ((aK day g x).p).length (cat ai (aK day g x).p)),(9500,Blk.row 93 7 (LdA vh vc' vp' day))]:=⟨aK day g x,vh,vc',vp',by rw [hSh];exact hh,hc',hp',by rw [hSh],by rw [hR];exact ⟨rfl,rfl⟩⟩
   exact ⟨_,[],Q,⟨.inl rfl,.inl rfl,.inl rfl,rfl,trivial⟩,rfl⟩
  ·have c:(x.kind == 2)=false:=c
   have c:¬ x.kind=2:=by simpa using c
   refine ⟨_,rfl,_,rfl,.inr (.inr (.inr ⟨[],[],[_,_,_],[_,_],_,HO,rfl,⟨.inl rfl,rfl,trivial⟩,rfl,trivial,?_⟩))⟩
   rintro r U ⟨vh',n',rfl,hv',rfl,rfl⟩
   rcases oy g.h x.ins x.qty with ⟨e,e1,e2,e3⟩ | ⟨H',e1,e3⟩
   ·have hR:iz day g x=.error e:=by unfold iz;rw [if_neg c,e1]
    rw [e3] at hv' ⊢
    have Q:wu day (iz day g x) (.int .i64 e) [(9501,Blk.own vh' 136 2 (g.h).length (cat ao g.h)),(9504,Blk.own vc' 183 3 ((aK day g x).c).length (cat ai (aK day g x).c)),(9505,Blk.own vp' 183 3 ((aK day g x).p).length (cat ai (aK day g x).p)),(9500,Blk.row 93 7 (LdA vh' vc' vp' day))]:=⟨aK day g x,vh',vc',vp',by rw [hSh];exact hv',hc',hp',by rw [hSh],by rw [hR];exact ⟨rfl,e2⟩⟩
    exact ⟨rfl,_,[],Q,⟨.inl rfl,.inl rfl,.inl rfl,rfl,trivial⟩,rfl⟩
   ·have hR:iz day g x=.ok { aK day g x with h:=H' }:=by unfold iz;rw [if_neg c,e1]
    rw [e3] at hv' ⊢
    have Q:wu day (iz day g x) (.int .i64 0) [(9501,Blk.own vh' 136 2 (H').length (cat ao H')),(9504,Blk.own vc' 183 3 ((aK day g x).c).length (cat ai (aK day g x).c)),(9505,Blk.own vp' 183 3 ((aK day g x).p).length (cat ai (aK day g x).p)),(9500,Blk.row 93 7 (LdA vh' vc' vp' day))]:=⟨{ aK day g x with h:=H' },vh',vc',vp',hv',hc',hp',rfl,by rw [hR];exact ⟨rfl,rfl⟩⟩
    exact ⟨rfl,_,[],Q,⟨.inl rfl,.inl rfl,.inl rfl,rfl,trivial⟩,rfl⟩
theorem qV {a:AC} {q:Int} (h:(aG a q).2=0):0<=q/\q<=1000000000000000/\0<=(aG a q).1.qty/\(aG a q).1.qty<=1000000000000000/\fi a=true/\(aG a q).1.ins=fT a:=by
 unfold aG at h ⊢
 split at h
 ·cases h
 rename_i h1
 split at h
 ·cases h
 rename_i h2
 split at h
 ·cases h
 rename_i h3
 split at h
 ·rename_i h4;exact absurd h h4
 rename_i h4
 rw [if_neg h1,if_neg h2,if_neg h3,if_neg h4]
 have ha:fi a=true:=by simpa using h1
 refine ⟨by omega,by omega,?_,by show iN a q<=_;omega,ha,rfl⟩
 show 0<=iN a q
 refine (te (a:=a) (q:=q) (by omega) (by omega) ?_).1
 rcases qZ ha with h5 | h5
 ·exact .inl h5.1
 ·exact .inr h5.2
theorem Hd {E:Env} (hE:E.P=prog) {g:Led} {vh vc vp:Value} {day:Int} (ho:LedOk g) (hh:IsL vh g.h.length) (hc:IsL vc g.c.length) (hp:IsL vp g.p.length) (hl:g.h.length<=10000000000/\g.c.length<=10000000000/\g.p.length<=10000000000) {a:AC} (ha:a.In):OwnC E 45 [SV.ptr 9500 0,SV.c (.agg a.A)] [(9501,Blk.own vh 136 2 (g.h).length (cat ao (g.h))),(9504,Blk.own vc 183 3 (g.c).length (cat ai (g.c))),(9505,Blk.own vp 183 3 (g.p).length (cat ai (g.p))),(9500,Blk.row 93 7 (LdA vh vc vp day))] (wu day (iE g a)):=by
 refine av [] af ah Ol E hE [SV.ptr 9500 0,SV.c (.agg a.A)] [(9501,Blk.own vh 136 2 (g.h).length (cat ao (g.h))),(9504,Blk.own vc 183 3 (g.c).length (cat ai (g.c))),(9505,Blk.own vp 183 3 (g.p).length (cat ai (g.p))),(9500,Blk.row 93 7 (LdA vh vc vp day))] _ rfl rfl fun w X β hT=>?_
 have hE':(aN prog tt Tryz.f45.ntmps w X (ay [(9501,Blk.own vh 136 2 (g.h).length (cat ao (g.h))),(9504,Blk.own vc 183 3 (g.c).length (cat ai (g.c))),(9505,Blk.own vp 183 3 (g.p).length (cat ai (g.p))),(9500,Blk.row 93 7 (LdA vh vc vp day))] β)).toEnv.P=prog:=rfl
 have GO:=GZ hE' (vc:=vc) (vp:=vp) (day:=day) hh rfl (by omega) ho.h.1 a.ins
 have A0:=a.size
 have A2:=a.g2
 have A8:=a.g73
 have AZ:=Gx ha (az g.h a.ins)
 have hR:iE g a=iE g a:=rfl
 have hhb:=HB.get ho.b a.ins
 generalize a.A=AA at A0 A2 A8 AZ ⊢
 obtain ⟨q,hq⟩:∃ q,q=az g.h a.ins:=⟨_,rfl⟩
 rw [<- hq] at GO AZ hhb
 have AO:=Hb hE' (vc:=vc) (vp:=vp) (day:=day) hh rfl (by omega) ho.h.1 ho.h.2 a.ins (i64.wrap (0 - q))
 rw [<- hq] at AO
 have hw0:w64 (q+i64.wrap (0 - q))=0:=by
  rw [i64_in (x:=0 - q) (by omega),pi (by omega)];omega
 rw [hw0] at AO
 have hs1:=(dY cd ho.h.1 a.ins 0).srt
 have hz1:=oS cd ho.h.1 ho.h.2 a.ins 0
 have hb1:HB (cS ltB g.h a.ins 0):=HB.set ho.b ho.h.1 (by decide)
 have hl1:=fE (lt:=ltB) g.h a.ins 0
 refine ⟨A0,_,A2,?_⟩
 refine .inr (.inr (.inl ⟨[],[_,_],[_,_],_,[_,_],GO,rfl,⟨.inl rfl,rfl,trivial⟩,by kernel_rfl,by kernel_rfl,by kernel_rfl,?_⟩))
 refine .inl ⟨_,AZ,(aG a q).1.fits,?_⟩
 refine ⟨fun c=>?_,fun c=>?_⟩
 ·have c:((aG a q).2 != 0)=true:=c
  have c:(aG a q).2≠0:=by simpa using c
  have hA:iE g a=.error (aG a q).2:=by unfold iE;rw [<- hq,if_pos c]
  have Q:wu day (iE g a) (.int .i64 (aG a q).2) [(9501,Blk.own vh 136 2 (g.h).length (cat ao (g.h))),(9504,Blk.own vc 183 3 (g.c).length (cat ai (g.c))),(9505,Blk.own vp 183 3 (g.p).length (cat ai (g.p))),(9500,Blk.row 93 7 (LdA vh vc vp day))]:=⟨g,vh,vc,vp,hh,hc,hp,rfl,by rw [hA];exact ⟨rfl,c⟩⟩
  exact ⟨_,[],Q,⟨.inl rfl,.inl rfl,.inl rfl,rfl,trivial⟩,rfl⟩
 ·have c:((aG a q).2 != 0)=false:=c
  have c:(aG a q).2=0:=by simpa using c
  obtain ⟨p1,p2,p3,p4,-,-⟩:=qV c
  have hA:iE g a=match fH (cS ltB g.h a.ins 0) (aG a q).1.ins (aG a q).1.qty with
   | .error e=>.error e
   | .ok h=>.ok ⟨h,kj g.c (a.cur,0) (aG a q).1.cash,g.p⟩:=by unfold iE;rw [<- hq,if_neg (fun h=>h c)];rfl
  clear AZ hR
  generalize (aG a q).1=EF at *
  refine ⟨_,A2,?_⟩
  refine .inr (.inr (.inr ⟨[],[],[_,_,_],[_,_],_,AO,rfl,⟨.inl rfl,rfl,trivial⟩,by kernel_rfl,(by change _=true;kernel_rfl),?_⟩))
  rintro r U ⟨vh1,n1,rfl,hv1,rfl,rfl⟩
  have CO:=Hc hE' (vh:=vh1) (vp:=vp) (day:=day) hc rfl (by omega) ho.c.1 ho.c.2 (a.cur,0) EF.cash
  refine ⟨by kernel_rfl,by kernel_rfl,_,A8,_,se a.cur rfl,_,rfl,?_⟩
  refine .inr (.inr (.inr ⟨[(9501,9504)],[],[_,_,_],[_,_],_,CO,rfl,⟨.inl rfl,rfl,trivial⟩,by kernel_rfl,(by change _=true;kernel_rfl),?_⟩))
  rintro r U ⟨vc1,n2,rfl,hv2,rfl,rfl⟩
  have HO:=DC hE' (vc:=vc1) (vp:=vp) (day:=day) hv1 rfl (by omega) hs1 hz1 hb1 EF.ins (d:=EF.qty) (by omega)
  refine ⟨by kernel_rfl,by kernel_rfl,_,rfl,_,rfl,.inr (.inr (.inr ⟨[],[],[_,_,_],[_,_],_,HO,rfl,⟨.inl rfl,rfl,trivial⟩,rfl,trivial,?_⟩))⟩
  rintro r U ⟨vh',n',rfl,hv',rfl,rfl⟩
  rcases oy (cS ltB g.h a.ins 0) EF.ins EF.qty with ⟨e,e1,e2,e3⟩ | ⟨H',e1,e3⟩
  ·rw [e1] at hA
   rw [e3] at hv' ⊢
   have Q:wu day (iE g a) (.int .i64 e) [(9501,Blk.own vh' 136 2 (cS ltB g.h a.ins 0).length (cat ao (cS ltB g.h a.ins 0))),(9504,Blk.own vc1 183 3 (kj g.c (a.cur,0) EF.cash).length (cat ai (kj g.c (a.cur,0) EF.cash))),(9505,Blk.own vp 183 3 (g.p).length (cat ai (g.p))),(9500,Blk.row 93 7 (LdA vh' vc1 vp day))]:=⟨⟨cS ltB g.h a.ins 0,kj g.c (a.cur,0) EF.cash,g.p⟩,vh',vc1,vp,hv',hv2,hp,rfl,by rw [hA];exact ⟨rfl,e2⟩⟩
   exact ⟨rfl,_,[],Q,⟨.inl rfl,.inl rfl,.inl rfl,rfl,trivial⟩,rfl⟩
  ·rw [e1] at hA
   rw [e3] at hv' ⊢
   have Q:wu day (iE g a) (.int .i64 0) [(9501,Blk.own vh' 136 2 (H').length (cat ao (H'))),(9504,Blk.own vc1 183 3 (kj g.c (a.cur,0) EF.cash).length (cat ai (kj g.c (a.cur,0) EF.cash))),(9505,Blk.own vp 183 3 (g.p).length (cat ai (g.p))),(9500,Blk.row 93 7 (LdA vh' vc1 vp day))]:=⟨⟨H',kj g.c (a.cur,0) EF.cash,g.p⟩,vh',vc1,vp,hv',hv2,hp,rfl,by rw [hA];exact ⟨rfl,rfl⟩⟩
   exact ⟨rfl,_,[],Q,⟨.inl rfl,.inl rfl,.inl rfl,rfl,trivial⟩,rfl⟩
theorem dS (n lo hi:Int):aw prog 38 [SV.c (.int .i64 n),SV.c (.int .i64 lo),SV.c (.int .i64 hi)] (.bool (inB n lo hi)):=by
 refine aj af ah Ou _ _ rfl rfl fun w=>?_
 refine ⟨fun c=>⟨bv ?_,trivial⟩,fun c=>⟨bv ?_,trivial⟩⟩
 ·have c:=ab (show decide (n >= lo)=true from c)
  unfold inB
  rw [decide_eq_true (show lo<=n by omega),Bool.true_and]
 ·have c:=ae (show decide (n >= lo)=false from c)
  unfold inB
  rw [decide_eq_false (show ¬ lo<=n by omega),Bool.false_and]
def da (C:List (Ky×Int)):Bool:=C.all fun x=>inB x.2 (-1000000000000000) 1000000000000000
theorem BE {C:List (Ky×Int)} {i:Nat} {x:Ky×Int} (h:C[i]? = some x):da (C.take (i+1))=(da (C.take i) && inB x.2 (-1000000000000000) 1000000000000000):=by
 unfold da
 rw [take_add_one,h,List.all_append]
 simp
theorem mJ (x:Ky×Int) {pl:List (Nat×Nat)} (hpl:pl=[(0,1),(1,1),(2,1)]):Instr.fill (fun k=>pl[k]?) jy.zero [(0,.string (S x.1.1)),(1,.int .i64 x.1.2),(2,.int .i64 x.2)]=some (ai x):=by
 subst hpl;rfl
theorem gd (x:Ky×Int):Instr.fill (fun k=>some (k*jy.size,jy.size)) (madeCells jy.zero (1*jy.size)) [(0,.agg (ai x))]=some (ai x):=by kernel_rfl
theorem mz:∃ q,Tryz.prog.info? 49=some q/\q.bytes=32:=j7 (by kernel_rfl)
theorem qL {α:Type} (g:α->Array Value) {l:List α} {i:Nat} {x:α} (h:l[i]? = some x):cat g (l.take i)++g x=cat g (l.take (i+1)):=by
 rw [take_add_one,h]
 show _=cat g (l.take i++[x])
 rw [Go.SX.cat_append,bw]
def OP (C:List (Ky×Int)) (v:Value) (n:Nat) (r:Value) (U:aA):Prop:=∃ s,IsL s n/\r=.tuple #[s,.bool (da C)]/\U=[(9501,Blk.own v 183 3 n (cat ai C)),(9506,Blk.own s 49 3 n (cat ai C))]
theorem qT {E:Env} (hE:E.P=prog) {v:Value} {C:List (Ky×Int)} {n:Nat} (hv:IsL v n) (hn:n=C.length) (hn2:n<=100000000000):OwnC E 91 [SV.c (.agg #[fnW 44,v])] [(9501,Blk.own v 183 3 n (cat ai C))] (OP C v n):=by
 refine av [] af ah NH E hE [SV.c (.agg #[fnW 44,v])] [(9501,Blk.own v 183 3 n (cat ai C))] _ rfl rfl fun w X β hT=>?_
 obtain ⟨xa,xc,rfl⟩:=hv.len
 refine ⟨rfl,_,rfl,_,fun w' _=>ak Tryz.underlying89 w',?_⟩
 refine ⟨fun q f m=>∃ (i:Nat) (s:Value),q=n - i/\i<=n/\IsL s i/\f=[(4,SV.c s),(5,SV.c (.bool (da (C.take i)))),(9,SV.c (.slice xa n xc)),(10,SV.c (.int .i64 (n:Nat))),(11,SV.c (.int .i64 (i:Nat)))]/\m=[(9501,Blk.own (.slice xa n xc) 183 3 n (cat ai C)),(9506,Blk.own s 49 3 i (cat ai (C.take i)))],n,⟨_,_,⟨0,.slice none 0 0,rfl,by omega,.nil,rfl,rfl⟩,⟨rfl,rfl,rfl,rfl,rfl,trivial⟩,⟨.inl rfl,.inr ⟨rfl,rfl,rfl⟩,trivial⟩,rfl⟩,?_⟩
 rintro q f m ⟨i,s,rfl,hi,hs,rfl,rfl⟩
 refine ⟨fun h=>?_,fun h=>?_⟩
 ·have h:i < n:=by have:=ab h;omega
  rcases hv with ⟨hs1,hs2⟩ | ⟨g0,c0,hs1⟩
  ·omega
  cases hs1
  obtain ⟨y,hy⟩:∃ y,C[i]? = some y:=⟨_,getElem?_eq_getElem (by omega)⟩
  have L1:=bd aH hy
  have hsz:(cat ai C).size=n*3:=by rw [Go.SX.cat_size aH,hn]
  refine ⟨by omega,by omega,.inr ⟨9501,g0,_,n,_,_,_,_,rfl,rfl,(by rw [rl,hsz];show i*3+3<=n*3;omega),ai y,(by rw [rl];exact L1),cf y,?_⟩⟩
  have X1:(ai y).extract 0 (0+1*3)=ai y:=by simp [ai]
  obtain ⟨q,hq,hb⟩:=mz
  refine ⟨_,rfl,_,rfl,_,rfl,_,mJ y rfl,.inl ⟨by decide,by decide,_,gd y,rfl,by decide,9506,i,_,.inl rfl,by decide,(cf y).one,rfl,_,X1,?_⟩⟩
  refine ⟨by omega,by unfold maxLen;omega,⟨q,hq,by rw [hb];omega⟩,trivial,fun g2 cap2=>?_⟩
  have hT:=BE hy
  refine ⟨fun c=>?_,fun c=>?_⟩
  ·have c:da (C.take i)=true:=c
   refine ⟨_,rfl,.inl ⟨_,dS y.2 (-1000000000000000) 1000000000000000,?_⟩⟩
   exact ⟨n - (i+1),_,_,by omega,⟨i+1,_,rfl,by omega,.some,rfl,rfl⟩,⟨rfl,jo (by rw [hT,c];rfl),rfl,rfl,ag (aq (by omega)),trivial⟩,⟨.inl rfl,.inl (aB (qL ai hy)),trivial⟩,rfl⟩
  ·have c:da (C.take i)=false:=c
   exact ⟨n - (i+1),_,_,by omega,⟨i+1,_,rfl,by omega,.some,rfl,rfl⟩,⟨rfl,jo (by rw [hT,c];rfl),rfl,rfl,ag (aq (by omega)),trivial⟩,⟨.inl rfl,.inl (aB (qL ai hy)),trivial⟩,rfl⟩
 ·have h:i=n:=by have:=ae h;omega
  subst h
  rw [List.take_of_length_le (by omega)]
  exact ⟨[_,_],[],⟨s,hs,rfl,rfl⟩,⟨.inl rfl,.inl rfl,trivial⟩,rfl⟩
theorem qO (l:List UInt8) (lo hi:Int) (dg:Bool) (hl:l.length<=9223372036854775807):aw prog 95 [SV.c (.string (S l)),SV.c (.int .i64 lo),SV.c (.int .i64 hi),SV.c (.bool dg)] (.bool (fQ dg l && (decide (lo<=l.length) && decide ((l.length:Int)<=hi)))):=by
 refine aj af ah ND _ _ rfl rfl fun w=>?_
 refine ⟨_,fun w _=>ax Tryz.underlying9 w,?_⟩
 refine ⟨fun q f m=>∃ i:Nat,q=l.length - i/\i<=l.length/\(∀ j,j < i->dK dg l j=true)/\f=[(0,SV.c (.string (S l))),(1,SV.c (.int .i64 lo)),(2,SV.c (.int .i64 hi)),(3,SV.c (.bool dg)),(11,SV.c (.int .i64 (l.length:Nat))),(12,SV.c (.int .i64 i))]/\m=[],l.length,⟨_,_,⟨0,rfl,Nat.zero_le _,fun j hj=>absurd hj (by omega),rfl,rfl⟩,⟨rfl,rfl,rfl,rfl,rfl,rfl,trivial⟩,trivial,rfl⟩,?_⟩
 rintro q f m ⟨i,rfl,hi1,hall,rfl,rfl⟩
 refine ⟨fun h=>?_,fun h=>?_⟩
 ·have h:i < l.length:=by have:=ab h;omega
  have hx:=cI (E:=(iy prog tt Tryz.f95.ntmps w).toEnv) Tryz.underlying9 (k:=.i64) i rfl h
  have hc:dK dg l i=((decide (65<=(l.getD i 0).toNat) && decide ((l.getD i 0).toNat<=90)) || (dg && !decide (i=0) && decide (48<=(l.getD i 0).toNat) && decide ((l.getD i 0).toNat<=57))):=rfl
  generalize (l.getD i 0).toNat=x at *
  have stop:dK dg l i=false->eD [.bool false]=.bool (fQ dg l && (decide (lo<=l.length) && decide ((l.length:Int)<=hi))):=fun e=>by rw [dN h e];rfl
  have hnext:dK dg l i=true->∀ j,j < i+1->dK dg l j=true:=fun e j hj=>by
   by_cases e2:j=i
   ·rw [e2];exact e
   ·exact hall j (by omega)
  refine ⟨_,hx,fun h1=>⟨_,hx,fun h2=>?_,fun h2=>?_⟩,fun h1=>⟨fun h2=>?_,nofun⟩⟩
  ·have h1:=ae h1
   have h2:=ab h2
   have hlow:(decide (65<=x) && decide (x<=90))=false:=by rw [decide_eq_false (by omega:¬ x<=90),Bool.and_false]
   rw [hlow,Bool.false_or] at hc
   refine ⟨fun h3=>⟨fun h4=>⟨_,hx,fun h5=>⟨_,hx,fun h6=>⟨stop ?_,trivial⟩,fun h6=>?_⟩,fun h5=>⟨fun _=>⟨stop ?_,trivial⟩,nofun⟩⟩,fun h4=>⟨nofun,fun _=>⟨fun _=>⟨stop ?_,trivial⟩,nofun⟩⟩⟩,fun h3=>⟨nofun,fun _=>⟨nofun,fun _=>⟨fun _=>⟨stop ?_,trivial⟩,nofun⟩⟩⟩⟩
   ·have h6:=ab h6
    rw [hc,decide_eq_false (by omega:¬ x<=57),Bool.and_false]
   ·have h3:dg=true:=bV h3
    have h4:¬ i=0:=by intro e;subst e;simp at h4
    have h5:=ae h5
    have h6:=ae h6
    exact ⟨l.length - (i+1),_,_,by omega,⟨i+1,rfl,by omega,hnext (by rw [hc,h3,decide_eq_false h4,decide_eq_true (by omega:48<=x),decide_eq_true (by omega:x<=57)];rfl),rfl,rfl⟩,⟨rfl,rfl,rfl,rfl,rfl,ag (by rw [i64_in (by omega)];rfl),trivial⟩,trivial,rfl⟩
   ·have h5:=ab h5
    rw [hc,decide_eq_false (by omega:¬ 48<=x),Bool.and_false,Bool.false_and]
   ·have h4:i=0:=by have:(i:Int)=0:=by simpa using h4
                    omega
    rw [hc,decide_eq_true h4,Bool.not_true,Bool.and_false,Bool.false_and,Bool.false_and]
   ·have h3:dg=false:=bnt h3
    rw [hc,h3];rfl
  ·have h1:=ae h1
   have h2:=ae h2
   refine ⟨nofun,fun _=>?_⟩
   exact ⟨l.length - (i+1),_,_,by omega,⟨i+1,rfl,by omega,hnext (by rw [hc,decide_eq_true (by omega:65<=x),decide_eq_true (by omega:x<=90)];rfl),rfl,rfl⟩,⟨rfl,rfl,rfl,rfl,rfl,ag (by rw [i64_in (by omega)];rfl),trivial⟩,trivial,rfl⟩
  ·have h1:=ab h1
   have hlow:(decide (65<=x) && decide (x<=90))=false:=by rw [decide_eq_false (by omega:¬ 65<=x),Bool.false_and]
   rw [hlow,Bool.false_or] at hc
   refine ⟨fun h3=>⟨fun h4=>⟨_,hx,fun h5=>⟨_,hx,fun h6=>⟨stop ?_,trivial⟩,fun h6=>?_⟩,fun h5=>⟨fun _=>⟨stop ?_,trivial⟩,nofun⟩⟩,fun h4=>⟨nofun,fun _=>⟨fun _=>⟨stop ?_,trivial⟩,nofun⟩⟩⟩,fun h3=>⟨nofun,fun _=>⟨nofun,fun _=>⟨fun _=>⟨stop ?_,trivial⟩,nofun⟩⟩⟩⟩
   ·have h6:=ab h6
    rw [hc,decide_eq_false (by omega:¬ x<=57),Bool.and_false]
   ·have h3:dg=true:=bV h3
    have h4:¬ i=0:=by intro e;subst e;simp at h4
    have h5:=ae h5
    have h6:=ae h6
    exact ⟨l.length - (i+1),_,_,by omega,⟨i+1,rfl,by omega,hnext (by rw [hc,h3,decide_eq_false h4,decide_eq_true (by omega:48<=x),decide_eq_true (by omega:x<=57)];rfl),rfl,rfl⟩,⟨rfl,rfl,rfl,rfl,rfl,ag (by rw [i64_in (by omega)];rfl),trivial⟩,trivial,rfl⟩
   ·have h5:=ab h5
    rw [hc,decide_eq_false (by omega:¬ 48<=x),Bool.and_false,Bool.false_and]
   ·have h4:i=0:=by have:(i:Int)=0:=by simpa using h4
                    omega
    rw [hc,decide_eq_true h4,Bool.not_true,Bool.and_false,Bool.false_and,Bool.false_and]
   ·have h3:dg=false:=bnt h3
    rw [hc,h3];rfl
 ·have h:i=l.length:=by have:=ae h;omega
  subst h
  rw [iq hall,Bool.true_and]
  refine ⟨_,fun w _=>ax Tryz.underlying9 w,fun h2=>⟨_,fun w _=>ax Tryz.underlying9 w,bv ?_,trivial⟩,fun h2=>⟨bv ?_,trivial⟩⟩
  ·rw [decide_eq_true (ab h2:lo<=(l.length:Int)),Bool.true_and]
  ·rw [decide_eq_false (ae h2:¬ lo<=(l.length:Int)),Bool.false_and]
theorem tz (l:List UInt8) (hl:l.length<=9223372036854775807):aw prog 56 [SV.c (.string (S l))] (.bool (fQ true l && (decide (1<=l.length) && decide (l.length<=12)))):=by
 refine aj af ah Ob _ _ rfl rfl fun w=>?_
 refine .inl ⟨_,qO l 1 12 true hl,bv ?_,trivial⟩
 congr 2
 ·rw [Bool.eq_iff_iff];simp only [decide_eq_true_eq];omega
 ·rw [Bool.eq_iff_iff];simp only [decide_eq_true_eq];omega
theorem ze (l:List UInt8) (hl:l.length<=9223372036854775807):aw prog 56 [SV.c (.string (S l))] (.bool (bp l)):=tz l hl
theorem zv (l:List UInt8) (hl:l.length<=9223372036854775807):aw prog 57 [SV.c (.string (S l))] (.bool (bH l)):=by
 refine aj af ah Oa _ _ rfl rfl fun w=>?_
 exact .inl ⟨_,qO l 3 3 false hl,rfl,trivial⟩
theorem mO {d:Nat} (a b:EC) (w:World):(Op.equalIn (d+1+1) 31 (.agg a.A) (.agg b.A)).run prog w=.ok (a.beq b) w:=by
 rw [run_equalIn_struct w (d+1) 31 _ _ (by simp only [Program.fieldsOf,Tryz.underlying31]) (by kernel_rfl)]
 rw [show (Tryz.prog.fieldsOf 31).toList=[⟨ "Kind",3,0,false,"","",0⟩,⟨ "Key",9,1,false,"","",8⟩,⟨ "Day",3,2,false,"","",24⟩,⟨ "Settle",3,3,false,"","",32⟩,⟨ "Instrument",9,4,false,"","",40⟩,⟨ "Quantity",3,5,false,"","",56⟩,⟨ "Amount",3,6,false,"","",64⟩,⟨ "Currency",9,7,false,"","",72⟩,⟨ "Known",3,8,false,"","",88⟩,⟨ "Void",4,9,false,"","",96⟩] from by simp only [Program.fieldsOf,Tryz.underlying31]]
 refine aX (by decide) (au eK rfl a.g0 w) (au eK rfl b.g0 w) (cP _ Tryz.underlying3 _ _ w) fun _=>?_
 refine aX (by decide) (au jx rfl a.g1 w) (au jx rfl b.g1 w) (ji _ _ w) fun _=>?_
 refine aX (by decide) (au eK rfl a.g2 w) (au eK rfl b.g2 w) (cP _ Tryz.underlying3 _ _ w) fun _=>?_
 refine aX (by decide) (au eK rfl a.g3 w) (au eK rfl b.g3 w) (cP _ Tryz.underlying3 _ _ w) fun _=>?_
 refine aX (by decide) (au jx rfl a.g4 w) (au jx rfl b.g4 w) (ji _ _ w) fun _=>?_
 refine aX (by decide) (au eK rfl a.g5 w) (au eK rfl b.g5 w) (cP _ Tryz.underlying3 _ _ w) fun _=>?_
 refine aX (by decide) (au eK rfl a.g6 w) (au eK rfl b.g6 w) (cP _ Tryz.underlying3 _ _ w) fun _=>?_
 refine aX (by decide) (au jx rfl a.g7 w) (au jx rfl b.g7 w) (ji _ _ w) fun _=>?_
 refine aX (by decide) (au eK rfl a.g8 w) (au eK rfl b.g8 w) (cP _ Tryz.underlying3 _ _ w) fun _=>?_
 refine aX (by decide) (au z8 rfl a.g9 w) (au z8 rfl b.g9 w) (run_equalIn_bool' w _ 4 _ _ Tryz.underlying4) fun _=>kb
theorem oz:Tryz.prog.eqGuardType Tryz.prog.depth 31=false:=by kernel_rfl
theorem sf {E:Env} (hE:E.P=prog) (a b:EC) {u v:Operand}:bG E (do eqGuard .eql 31 u v (.agg a.A) (.agg b.A);binOp .eql 31 (.agg a.A) (.agg b.A)) (.bool (a.beq b)) :=
 jC (by rw [hE];exact oz) fun w=>by rw [hE];exact mO a b w
theorem AD {E:Env} (hE:E.P=prog) (a b:EC) {u v:Operand}:bG E (do eqGuard .neq 31 u v (.agg a.A) (.agg b.A);binOp .neq 31 (.agg a.A) (.agg b.A)) (.bool (!(a.beq b))) :=
 jB (by rw [hE];exact oz) fun w=>by rw [hE];exact mO a b w
theorem gP (key:List UInt8) (known:Int) {pl:List (Nat×Nat)} (hpl:pl=[(0,1),(1,1),(2,1),(3,1),(4,1),(5,1),(6,1),(7,1),(8,1),(9,1)]):Instr.fill (fun k=>pl[k]?) fe.zero [(1,.string (S key)),(8,.int .i64 known),(9,.bool true)]=some (EC.nil key known).A:=by
 subst hpl;kernel_rfl
theorem EX {a:EC} (ha:a.In):aw prog 74 [SV.c (.agg a.A)] (.bool (aY a)):=by
 refine aj af ah NV _ _ rfl rfl fun w=>?_
 have no:jg a=false->eD [.bool false]=.bool (aY a):=fun h=>by rw [aY,h];rfl
 have len:∀ (E:Env),E.P=prog->∀ (ty:TypeId) (l:List UInt8) (cs:Array Bool) (w:World),OldW E w->(builtin .len #[9] ty cs #[.string (S l)]).run E.P w=.ok (.value (.int .i64 (l.length:Nat))) w:=fun E hE ty l cs w _=>by rw [hE];exact ax Tryz.underlying9 w
 refine ⟨rfl,_,rfl,_,len _ rfl _ _ _,.inl ⟨_,dS _ 1 64,fun c1=>?_,fun c1=>?_⟩⟩
 ·have c1:(!inB a.key.length 1 64)=false:=c1
  have c1:inB a.key.length 1 64=true:=by simpa using c1
  refine ⟨_,rfl,.inl ⟨_,dS _ 1 2147483647,fun c2=>?_,fun c2=>?_⟩⟩
  ·have c2:(!inB a.known 1 2147483647)=true:=c2
   exact ⟨no (by unfold jg;rw [c1];simpa using c2),trivial⟩
  ·have c2:(!inB a.known 1 2147483647)=false:=c2
   have c2:inB a.known 1 2147483647=true:=by simpa using c2
   have hh:jg a=true:=by unfold jg;rw [c1,c2];rfl
   have va:aY a=(if a.void then a.beq (.nil a.key a.known) else dq a && dO a):=by rw [aY,hh,Bool.true_and]
   rw [va]
   refine ⟨_,rfl,fun h5=>?_,fun h5=>?_⟩
   ·have h5:a.void=true:=h5
    rw [if_pos h5]
    exact ⟨_,rfl,_,rfl,_,gP a.key a.known rfl,_,sf rfl a (.nil a.key a.known),rfl,trivial⟩
   ·have h5:¬ (a.void=true):=by intro e;rw [e] at h5;cases h5
    rw [if_neg h5]
    have nob:dq a=false->eD [.bool false]=.bool (dq a && dO a):=fun h=>by rw [h];rfl
    refine ⟨_,rfl,_,rfl,.inl ⟨_,dS _ 0 _,fun d1=>?_,fun d1=>?_⟩⟩
    ·have d1:(!inB a.day 0 a.settle)=false:=d1
     have d1:inB a.day 0 a.settle=true:=by simpa using d1
     refine ⟨_,rfl,fun d2=>?_,fun d2=>?_⟩
     ·have d2:=ae (show decide (a.settle > 73048)=false from d2)
      refine ⟨_,rfl,.inl ⟨_,dS _ (-1000000000000000) 1000000000000000,fun d3=>?_,fun d3=>?_⟩⟩
      ·have d3:(!inB a.amt (-1000000000000000) 1000000000000000)=false:=d3
       have d3:inB a.amt (-1000000000000000) 1000000000000000=true:=by simpa using d3
       refine ⟨_,rfl,.inl ⟨_,zv _ ha.cur,fun d4=>?_,fun d4=>?_⟩⟩
       ·have d4:(!bH a.cur)=true:=d4
        have d4:bH a.cur=false:=by simpa using d4
        exact ⟨nob (by unfold dq;rw [d4];simp),trivial⟩
       ·have d4:(!bH a.cur)=false:=d4
        have d4:bH a.cur=true:=by simpa using d4
        have hb:dq a=true:=by unfold dq;rw [d1,d3,d4,decide_eq_true (show a.settle<=73048 by omega)];rfl
        rw [hb,Bool.true_and]
        refine ⟨_,rfl,fun k1=>?_,fun k1=>?_⟩
        ·have k1:(a.kind == 1)=true:=k1
         have k1:a.kind=1:=by simpa using k1
         have hk:dO a=(bp a.ins && (!(a.qty == 0) && inB a.qty (-1000000000000000) 1000000000000000)):=by unfold dO;rw [if_pos k1]
         rw [hk]
         refine ⟨_,rfl,.inl ⟨_,ze _ ha.ins,fun e1=>?_,fun e1=>?_⟩⟩
         ·have e1:bp a.ins=true:=e1
          refine ⟨_,rfl,fun e2=>?_,fun e2=>?_⟩
          ·have e2:(a.qty != 0)=true:=e2
           refine ⟨_,rfl,.inl ⟨_,dS _ (-1000000000000000) 1000000000000000,bv ?_,trivial⟩⟩
           rw [e1,show (a.qty == 0)=false by simpa using e2];rfl
          ·have e2:(a.qty != 0)=false:=e2
           refine ⟨bv ?_,trivial⟩
           rw [show (a.qty == 0)=true by simpa using e2,e1];rfl
         ·have e1:bp a.ins=false:=e1
          refine ⟨nofun,fun _=>⟨bv ?_,trivial⟩⟩
          rw [e1];rfl
        ·have k1:(a.kind == 1)=false:=k1
         have k1:¬ a.kind=1:=by simpa using k1
         refine ⟨fun k2=>?_,fun k2=>?_⟩
         ·have k2:(a.kind == 2)=true:=k2
          have k2:a.kind=2:=by simpa using k2
          have hk:dO a=(decide (a.ins=[]) && (a.qty == 0)):=by unfold dO;rw [if_neg k1,if_pos k2]
          rw [hk]
          refine ⟨_,rfl,fun e1=>?_,fun e1=>?_⟩
          ·have e1:decide (a.ins=[])=true:=(dP a.ins []).symm.trans e1
           refine ⟨_,rfl,bv ?_,trivial⟩
           rw [e1];rfl
          ·have e1:decide (a.ins=[])=false:=(dP a.ins []).symm.trans e1
           refine ⟨bv ?_,trivial⟩
           rw [e1];rfl
         ·have k2:(a.kind == 2)=false:=k2
          have k2:¬ a.kind=2:=by simpa using k2
          refine ⟨bv ?_,trivial⟩
          unfold dO;rw [if_neg k1,if_neg k2]
      ·have d3:(!inB a.amt (-1000000000000000) 1000000000000000)=true:=d3
       have d3:inB a.amt (-1000000000000000) 1000000000000000=false:=by simpa using d3
       refine ⟨fun _=>⟨nob (by unfold dq;rw [d3];simp),trivial⟩,nofun⟩
     ·have d2:=ab (show decide (a.settle > 73048)=true from d2)
      refine ⟨nofun,fun _=>⟨fun _=>⟨nob (by unfold dq;rw [decide_eq_false (show ¬ a.settle<=73048 by omega)];simp),trivial⟩,nofun⟩⟩
    ·have d1:(!inB a.day 0 a.settle)=true:=by simpa using d1
     have d1:inB a.day 0 a.settle=false:=by simpa using d1
     refine ⟨nofun,fun _=>⟨nofun,fun _=>⟨fun _=>⟨nob (by unfold dq;rw [d1];rfl),trivial⟩,nofun⟩⟩⟩
 ·have c1:(!inB a.key.length 1 64)=true:=by simpa using c1
  have c1:inB a.key.length 1 64=false:=by simpa using c1
  refine ⟨fun _=>⟨no (by unfold jg;rw [c1];rfl),trivial⟩,nofun⟩
theorem Ep {a:EC} (ha:a.In):aw prog 73 [SV.c (.agg a.A)] (.bool (!aY a)):=by
 refine aj af ah NW _ _ rfl rfl fun w=>?_
 exact ⟨rfl,.inl ⟨_,EX ha,rfl,trivial⟩⟩
theorem wt {xs:List EC} {i:Nat} {y:EC} (hy:xs[i]? = some y) (h:aY y=false):xs.all aY=false:=by
 rw [List.all_eq_false]
 exact ⟨y,List.mem_of_getElem? hy,by rw [h];simp⟩
theorem sJ {xs:List EC} (h:∀ (j:Nat) y,xs[j]? = some y->aY y=true):xs.all aY=true:=by
 rw [List.all_eq_true]
 intro x hx
 obtain ⟨j,hj⟩:=List.getElem?_of_mem hx
 exact h j x hj
theorem Dy {E:Env} (hE:E.P=prog) {v:Value} {xs:List EC} (hv:Lst E v 10 xs.length (cat EC.A xs)) (hn:xs.length<=2000000000000) (hin:∀ y∈xs,y.In):OwnC E 109 [SV.c v,SV.c (fnW 73)] [] (fun r U=>(∃ n:Int,r=.int .i64 n/\decide (n >= 0)=!(xs.all aY))/\U=[]):=by
 refine av [] af ah Mw E hE [SV.c v,SV.c (fnW 73)] [] _ rfl rfl fun w X β hT=>?_
 obtain ⟨a,cap,rfl,hc,h4⟩:=(hv.of_old hT).shape
 refine ⟨_,fun w' _=>ak Tryz.underlying26 w',?_⟩
 refine ⟨fun q f m=>∃ (i:Nat),q=xs.length - i/\i<=xs.length/\(∀ (j:Nat) y,j < i->xs[j]? = some y->aY y=true)/\f=[(0,SV.c (.slice a xs.length cap)),(1,SV.c (fnW 73)),(6,SV.c (.slice a xs.length cap)),(7,SV.c (.int .i64 (xs.length:Nat))),(8,SV.c (.int .i64 (i:Nat)))]/\m=[],xs.length,⟨_,_,⟨0,rfl,by omega,fun j y h=>by omega,rfl,rfl⟩,⟨rfl,rfl,rfl,rfl,rfl,trivial⟩,trivial,rfl⟩,?_⟩
 rintro q f m ⟨i,rfl,hi,hok,rfl,rfl⟩
 refine ⟨fun h=>?_,fun h=>?_⟩
 ·have h:i < xs.length:=by have:=ab h;omega
  obtain ⟨b,o,rfl,h5⟩:=h4 (by omega)
  obtain ⟨y,hy⟩:∃ y,xs[i]? = some y:=⟨_,getElem?_eq_getElem h⟩
  have hE':VOk (aN prog tt Tryz.f109.ntmps w X (ay [] β)):=af
  have L1:=bi hE' h5 EC.size hy (ty:=31) (ti:=fe) rfl rfl rfl (p:=o+(i:Int).toNat*10) rfl
  have K1:=Ep (hin y (List.mem_of_getElem? hy))
  generalize hY:y.A=YA at L1 K1
  refine ⟨by omega,by omega,.inl ⟨_,L1,.inl ⟨_,K1,fun c=>?_,fun c=>?_⟩⟩⟩
  ·have c:(!aY y)=true:=c
   have hb:=wt hy (by simpa using c)
   exact ⟨[],[],⟨⟨(i:Nat),rfl,by rw [hb];simp⟩,rfl⟩,trivial,rfl⟩
  ·have c:(!aY y)=false:=c
   have c:aY y=true:=by simpa using c
   refine ⟨xs.length - (i+1),_,_,by omega,⟨i+1,rfl,by omega,fun j z hj hz=>?_,rfl,rfl⟩,⟨rfl,rfl,rfl,rfl,ag (aq (by omega)),trivial⟩,trivial,rfl⟩
   rcases Nat.lt_or_ge j i with h9 | h9
   ·exact hok j z h9 hz
   ·have:j=i:=by omega
    subst this
    rw [hy] at hz;cases hz
    exact c
 ·have h:i=xs.length:=by have:=ae h;omega
  subst h
  have hg:=sJ fun j y hy=>hok j y (List.getElem?_eq_some_iff.1 hy).1 hy
  exact ⟨[],[],⟨⟨-1,rfl,by rw [hg];rfl⟩,rfl⟩,trivial,rfl⟩
theorem wb {E:Env} (hE:E.P=prog) {v:Value} {xs:List EC} (hv:Lst E v 10 xs.length (cat EC.A xs)) (hn:xs.length<=2000000000000) (hin:∀ y∈xs,y.In):OwnC E 72 [SV.c v,SV.c (fnW 73)] [] (fun r U=>r=.bool (!(xs.all aY))/\U=[]):=by
 refine av [] af ah NX E hE [SV.c v,SV.c (fnW 73)] [] _ rfl rfl fun w X β hT=>?_
 have I1:=Dy rfl (hv.of_old hT) hn hin
 refine .inr (.inr (.inr ⟨[],[],[_,_],[],_,I1,rfl,trivial,rfl,trivial,?_⟩))
 rintro r U ⟨⟨n,rfl,h1⟩,rfl⟩
 exact ⟨rfl,[],[],⟨by rw [<- h1];rfl,rfl⟩,trivial,rfl⟩
def mkE (a:EC):MK:=⟨a.key,a.known,a.void⟩
theorem yY {E:Env} (hE:E.P=prog) {v:Value} {xs:List EC} (hv:Lst E v 10 xs.length (cat EC.A xs)) (hn:xs.length<=2000000000000):OwnC E 49 [SV.c v] [] (BI 2000 143 3 xs.length (cat MK.A (xs.map mkE))):=by
 refine av [] af ah Oi E hE [SV.c v] [] _ rfl rfl fun w X β hT=>?_
 obtain ⟨a,cap,rfl,hc,h4⟩:=(hv.of_old hT).shape
 refine ⟨_,fun w' _=>ak Tryz.underlying26 w',?_⟩
 refine ⟨fun q f m=>∃ (i:Nat) (x:Value),q=xs.length - i/\i<=xs.length/\IsL x i/\f=[(3,SV.c x),(6,SV.c (.slice a xs.length cap)),(7,SV.c (.int .i64 (xs.length:Nat))),(8,SV.c (.int .i64 (i:Nat)))]/\m=[(2000,Blk.own x 143 3 i (cat MK.A ((xs.take i).map mkE)))],xs.length,⟨_,_,⟨0,.slice none 0 0,by omega,by omega,.nil,rfl,rfl⟩,⟨rfl,rfl,rfl,rfl,trivial⟩,⟨.inr ⟨rfl,rfl,rfl⟩,trivial⟩,rfl⟩,?_⟩
 rintro q f m ⟨i,x,rfl,hi,hx,rfl,rfl⟩
 refine ⟨fun h=>?_,fun h=>?_⟩
 ·have h:i < xs.length:=by have:=ab h;omega
  obtain ⟨b,o,rfl,h5⟩:=h4 (by omega)
  obtain ⟨y,hy⟩:∃ y,xs[i]? = some y:=⟨_,getElem?_eq_getElem h⟩
  have hE':VOk (aN prog tt Tryz.f49.ntmps w X (ay [] β)):=af
  have L1:=bi hE' h5 EC.size hy (ty:=31) (ti:=fe) rfl rfl rfl (p:=o+(i:Int).toNat*10) rfl
  refine ⟨by omega,by omega,.inl ⟨_,L1,y.fits,?_⟩⟩
  refine ⟨_,y.g1,_,y.g8,_,y.g9,_,ka (mkE y) rfl,?_⟩
  refine .inl ⟨by decide,by decide,_,jh (mkE y),rfl,by decide,2000,i,_,.inl rfl,by decide,(mkE y).one,rfl,_,(mkE y).ext3,?_⟩
  obtain ⟨q,hq,hb⟩:=j8
  refine ⟨by omega,by unfold maxLen;omega,⟨q,hq,by rw [hb];omega⟩,trivial,fun g2 cap2=>?_⟩
  exact ⟨xs.length - (i+1),_,_,by omega,⟨i+1,_,rfl,by omega,.some,rfl,rfl⟩,⟨rfl,rfl,rfl,ag (aq (by omega)),trivial⟩,⟨.inl (aB (mS mkE MK.A hy)),trivial⟩,rfl⟩
 ·have h:i=xs.length:=by have:=ae h;omega
  subst h
  rw [List.take_length]
  exact ⟨[(2000,Blk.own x 143 3 xs.length (cat MK.A (xs.map mkE)))],[],⟨hx,rfl⟩,⟨.inl rfl,trivial⟩,rfl⟩

def cT (xs:List EC):Int:=if xs.all aY then dC (xs.map mkE) else 180
theorem qj:∃ q,Tryz.prog.info? 31=some q/\q.bytes=104:=j7 (by kernel_rfl)
def iH (xs:List EC) (k:Int):List Nat:=m7 (xs.map mkE) k
def dQ (xs:List EC) (k:Int):List EC:=if cT xs=0 then (iH xs k).filterMap (fun i=>xs[i]?) else []
def Hf (xs:List EC) (k:Int) (x:Value) (U:aA):Prop:=∃ s n,n=(dQ xs k).length/\x=.tuple #[s,.int .i64 (cT xs)]/\IsL s n/\U=[(3000,Blk.own s 31 10 n (cat EC.A (dQ xs k)))]
theorem mY {xs:List EC} {k:Int} {i:Nat} (h:i∈iH xs k):i < xs.length:=by
 unfold iH m7 at h
 rw [List.mem_filter,List.mem_range,List.length_map] at h
 exact h.1
theorem mZ (xs:List EC) (k:Int):(iH xs k).length<=xs.length:=by
 unfold iH m7
 have:=List.length_filter_le (kB (xs.map mkE) k) (List.range (xs.map mkE).length)
 simpa using this
theorem nZ {xs:List EC} (h:cT xs=0):dC (xs.map mkE)=0/\xs.length<=4096:=by
 unfold cT at h
 split at h
 ·refine ⟨h,?_⟩
  unfold dC at h
  split at h
  ·simp at h
  ·rename_i h2;simpa using h2
 ·simp at h
theorem uk {xs:List EC} {l:List Nat} {j i:Nat} {y:EC} (h:l[j]? = some i) (hy:xs[i]? = some y):(l.take (j+1)).filterMap (fun i=>xs[i]?)=(l.take j).filterMap (fun i=>xs[i]?)++[y]:=by
 rw [take_add_one,h,List.filterMap_append]
 simp [hy]
theorem o5 {xs:List EC}:∀ {l:List Nat},(∀ i∈l,i < xs.length)->(l.filterMap (fun i=>xs[i]?)).length=l.length
 | [],_=>rfl
 | i :: r,h=>by
  rw [List.filterMap_cons,getElem?_eq_getElem (h i (by simp))]
  simp [o5 (l:=r) fun j hj=>h j (by simp [hj])]
theorem nT (a:EC):Instr.fill (fun k=>some (k*fe.size,fe.size)) (madeCells fe.zero (1*fe.size)) [(0,.agg a.A)]=some a.A:=by kernel_rfl
theorem EC.ext10 (a:EC):a.A.extract 0 (0+1*10)=a.A:=by
 have:a.A.size=10:=a.size
 simp [this]
theorem zF {E:Env} (hE:E.P=prog) {v:Value} {xs:List EC} (hv:Lst E v 10 xs.length (cat EC.A xs)) (hn:xs.length<=2000000000000) (hin:∀ y∈xs,y.In):OwnC E 33 [SV.c v] [] (fun x U=>x=.int .i64 (cT xs)/\U=[]):=by
 refine av [] af ah Oz E hE [SV.c v] [] _ rfl rfl fun w X β hT=>?_
 have hv':=hv.of_old hT
 have C0:=wb rfl hv' hn hin
 have M1:=yY rfl hv' hn
 refine .inr (.inr (.inl ⟨[],[_,_],[],_,[],C0,rfl,trivial,rfl,rfl,fun c=>?_,fun c=>?_⟩))
 ·have c:(!xs.all aY)=true:=c
  have c:xs.all aY=false:=by simpa using c
  exact ⟨[],[],⟨by unfold cT;rw [c];rfl,rfl⟩,trivial,rfl⟩
 ·have c:(!xs.all aY)=false:=c
  have c:xs.all aY=true:=by simpa using c
  refine .inr (.inr (.inr ⟨[],[2000],[_],[],_,M1,rfl,trivial,rfl,trivial,?_⟩))
  rintro x U ⟨hx,rfl⟩
  refine ⟨rfl,?_⟩
  have C1:=sD (E:=(aN prog tt Tryz.f33.ntmps w X (ay [] β)).toEnv) rfl (x:=x) (xs:=xs.map mkE) (n:=xs.length) (by simp)
  refine .inr (.inr (.inl ⟨[],[_],[_],_,[_],C1,rfl,⟨.inl rfl,trivial⟩,rfl,rfl,?_⟩))
  exact ⟨[],[],⟨by unfold cT;rw [c];rfl,rfl⟩,trivial,rfl⟩
theorem GI {E:Env} (hE:E.P=prog) {v:Value} {k:Int} {xs:List EC} (hv:Lst E v 10 xs.length (cat EC.A xs)) (hn:xs.length<=2000000000000) (hin:∀ y∈xs,y.In):OwnC E 18 [SV.c v,SV.c (.int .i64 k)] [] (Hf xs k):=by
 refine av [] af ah OG E hE [SV.c v,SV.c (.int .i64 k)] [] _ rfl rfl fun w X β hT=>?_
 have hv':=hv.of_old hT
 have C1:=zF rfl hv' hn hin
 have M1:=yY rfl hv' hn
 refine .inr (.inr (.inl ⟨[],[_],[],_,[],C1,rfl,trivial,rfl,rfl,fun h=>?_,fun h=>?_⟩))
 ·have h:(cT xs != 0)=true:=h
  have h:cT xs≠0:=by simpa using h
  have e1:dQ xs k=[]:=by rw [dQ,if_neg h]
  exact ⟨[(3000,Blk.own (.slice none 0 0) 31 10 0 #[])],[],⟨_,0,by rw [e1];rfl,rfl,.nil,by rw [e1];rfl⟩,⟨.inr ⟨rfl,rfl,rfl⟩,trivial⟩,rfl⟩
 have h:(cT xs != 0)=false:=h
 have h0:cT xs=0:=by simpa using h
 obtain ⟨h1,h4k⟩:=nZ h0
 have e1:ju (xs.map mkE) k=(iH xs k).map (fun i:Nat=>(i:Int)):=by rw [ju,if_pos h1];rfl
 have e2:dQ xs k=(iH xs k).filterMap (fun i=>xs[i]?):=by rw [dQ,if_pos h0]
 have hmem:∀ i∈iH xs k,i < xs.length:=fun i h=>mY h
 have hlen:=mZ xs k
 generalize iH xs k=l at e1 e2 hmem hlen
 refine .inr (.inr (.inr ⟨[],[2000],[_],[],_,M1,rfl,trivial,rfl,trivial,?_⟩))
 rintro x U ⟨hx,rfl⟩
 refine ⟨rfl,?_⟩
 have C2:=x0 (E:=(aN prog tt Tryz.f18.ntmps w X (ay [] β)).toEnv) rfl (x:=x) (xs:=xs.map mkE) (n:=xs.length) (k:=k) (by simp) (by omega)
 refine .inr (.inr (.inr ⟨[],[1000],[_,_],[_],_,C2,rfl,⟨.inl rfl,trivial⟩,rfl,trivial,?_⟩))
 rintro r U ⟨U0,⟨s,n,hsn,rfl,hs,rfl⟩,rfl⟩
 rw [e1] at hsn ⊢
 rw [h1]
 refine ⟨rfl,?_⟩
 obtain ⟨sa,sc,rfl⟩:=hs.len
 refine ⟨_,fun w' _=>ak Tryz.underlying22 w',?_⟩
 have hnl:n=l.length:=by rw [hsn,List.length_map]
 obtain ⟨a,cap,rfl,hc,h4⟩:=hv'.shape
 refine ⟨fun q f m=>∃ (j:Nat) (y:Value) (N:Nat),q=l.length - j/\j<=l.length/\N=j/\IsL y N/\f=[(0,SV.c (.slice a xs.length cap)),(8,SV.c (.int .i64 0)),(9,SV.c y),(24,SV.c (.slice sa n sc)),(25,SV.c (.int .i64 (n:Nat))),(26,SV.c (.int .i64 (j:Nat)))]/\m=[(3000,Blk.own y 31 10 N (cat EC.A ((l.take j).filterMap (fun i=>xs[i]?)))),(1000,Blk.own (.slice sa n sc) 3 1 n (aO (l.map fun i:Nat=>(i:Int))))],l.length,⟨_,_,⟨0,.slice none 0 0,0,by omega,by omega,rfl,.nil,rfl,rfl⟩,⟨rfl,rfl,rfl,rfl,rfl,rfl,trivial⟩,⟨.inr ⟨rfl,rfl,rfl⟩,.inl rfl,trivial⟩,rfl⟩,?_⟩
 rintro q f m ⟨j,y,N,rfl,hj,hN,hy,rfl,rfl⟩
 refine ⟨fun h=>?_,fun h=>?_⟩
 ·have h:j < n:=by have:=ab h;omega
  obtain ⟨i,hi⟩:∃ i,l[j]? = some i:=⟨_,getElem?_eq_getElem (show j < l.length by omega)⟩
  have hil:=hmem i (List.mem_of_getElem? hi)
  obtain ⟨z,hz⟩:∃ z,xs[i]? = some z:=⟨_,getElem?_eq_getElem hil⟩
  obtain ⟨b,o,rfl,h5⟩:=h4 (by omega)
  have hE':VOk (aN prog tt Tryz.f18.ntmps w X (ay [] β)):=af
  have L1:=bi hE' h5 EC.size hz (ty:=31) (ti:=fe) rfl rfl rfl (p:=o+((i:Nat):Int).toNat*10) rfl
  rcases hs with ⟨hs1,hs2⟩ | ⟨g0,c0,hs1⟩
  ·omega
  cases hs1
  refine ⟨by omega,by omega,.inr ⟨1000,g0,_,n,_,_,_,_,rfl,rfl,_,(by rw [u3];exact oZ hi),?_⟩⟩
  have F1:=nT z
  have F2:=z.fits.one
  have F3:=z.ext10
  have F4:z.A.size=1*10:=z.size
  have F5:cat EC.A ((l.take j).filterMap (fun i=>xs[i]?))++z.A=cat EC.A ((l.take (j+1)).filterMap (fun i=>xs[i]?)):=by rw [uk hi hz,cat_append,bw]
  generalize hY:z.A=ZA at L1 F1 F2 F3 F4 F5
  refine ⟨by omega,by omega,.inl ⟨_,L1,.inl ⟨by decide,by decide,_,F1,F4,by decide,3000,N,_,.inl rfl,by decide,F2,F4,_,F3,?_⟩⟩⟩
  obtain ⟨q,hq,hb⟩:=qj
  refine ⟨by omega,by unfold maxLen;omega,⟨q,hq,by rw [hb];omega⟩,trivial,fun g2 cap2=>?_⟩
  exact ⟨l.length - (j+1),_,_,by omega,⟨j+1,_,N+1,rfl,by omega,by omega,.some,rfl,rfl⟩,⟨rfl,rfl,rfl,rfl,rfl,ag (aq (by omega)),trivial⟩,⟨.inl (aB F5),.inl rfl,trivial⟩,rfl⟩
 ·have h:j=l.length:=by have:=ae h;omega
  subst h
  rw [List.take_length]
  have e3:=o5 hmem
  exact ⟨[(3000,Blk.own y 31 10 N (cat EC.A (l.filterMap (fun i=>xs[i]?))))],[],⟨y,N,by rw [e2,e3];exact hN,by rw [h0];rfl,hy,by rw [e2]⟩,⟨.inl rfl,trivial⟩,rfl⟩

end Go.Proofs.YtekfkdddadcalaaGreatDoor
