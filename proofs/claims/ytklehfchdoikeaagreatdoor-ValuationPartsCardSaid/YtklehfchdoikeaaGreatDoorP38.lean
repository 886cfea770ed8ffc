/- exact values over one denominator. the exact value of a made; no condition. -/
import Derived.Test.YtklehfchdoikeaaGreatDoorP37
import Derived.Test.YtklehfchdoikeaaGreatDoorP30
set_option maxRecDepth 100000
set_option maxHeartbeats 4000000
namespace Go.Proofs.YtklehfchdoikeaaGreatDoor
open Go Go.RowKit Go.SX
/-! ### a quotient by its value -/
/-! ### rates of exchange -/
def kq (p:RQ):Int:=p.p*1000000 / p.q
/-! ### sums -/
/-! ### terms as they are computed -/
/-! ### the items of a made valuation without given prices -/
structure InV (v:VQ):Prop where
 hb:v.g.h.length<=6000000000000/\v.g.c.length<=6000000000000/\v.g.p.length<=6000000000000
 ih:∀ x∈v.g.h,x.1.length<=9223372036854775807
 ic:∀ x∈v.g.c,x.1.1.length<=9223372036854775807
 ip:∀ x∈v.g.p,x.1.1.length<=9223372036854775807
 qb:v.qs.length<=1000000000000
 qin:∀ y∈v.qs,y.In
 sb:v.pol.srcs.length<=1000000000000000
 pin:v.pol.In
 nb:v.nst.length<=2000000000000
 nin:∀ y∈v.nst,y.In
 ab:v.acs.length<=2000000000000
 ain:∀ y∈v.acs,y.In
 cur:v.cur.length<=9223372036854775807
 piv:v.piv.length<=9223372036854775807
theorem InV.vin {E:Env} {v:VQ} (h:InV v) {vh vc vp vq vs vn va:Value} (L0:Lst E vh 2 v.g.h.length (cat dI v.g.h)) (L1:Lst E vc 3 v.g.c.length (cat cj v.g.c)) (L2:Lst E vp 3 v.g.p.length (cat cj v.g.p)) (L3:Lst E vq 72 v.qs.length (cat QC.A v.qs)) (L4:Lst E vs 1 v.pol.srcs.length (cat bF v.pol.srcs)) (L5:Lst E vn 68 v.nst.length (cat NeQ.A v.nst)) (L6:Lst E va 136 v.acs.length (cat AcQ.A v.acs)):VIn E v vh vc vp vq vs vn va :=
 ⟨⟨L0,L1,L2,h.hb,h.ih,h.ic,h.ip⟩,⟨L3,h.qb,h.qin,L4,h.sb,h.pin⟩,L5,h.nb,h.nin,L6,h.ab,h.ain,h.cur,h.piv⟩
theorem MdV.inv {D:Int} {v:VQ} (h:MdV D v) (hD:0<=D/\D<=73048):InV v:=by
 obtain ⟨last,-,-,hb⟩:=h.qs
 obtain ⟨m,-,hm4,hm⟩:=h.srcs
 have g1:=h.g.hl
 have g2:=h.g.cl
 have g3:=h.g.pl
 have k4:∀ x∈bK,x.length<=100:=by decide
 have k3:∀ x∈cF,x.length<=100:=by decide
 have c3:∀ x∈jJ,x.length<=100:=by decide
 refine ⟨⟨by omega,by omega,by omega⟩,fun x hx=>?_,fun x hx=>?_,fun x hx=>?_,by have:=h.ql;omega,fun y hy=>sX (hb.each y hy),?_,h.pol.1,by have:=h.nst.1;omega,fun y hy=>(h.nst.2 y hy).inn,by have:=h.acs.1;omega,fun y hy=>(h.acs.2 y hy).inn hD,?_,?_⟩
 ·have:=k4 _ (List.mem_of_mem_take (h.g.hx x hx).1)
  omega
 ·have:=k3 _ (List.mem_of_mem_take (h.g.cx x hx).1)
  omega
 ·have:=k3 _ (List.mem_of_mem_take (h.g.px x hx).1)
  omega
 ·rw [hm,List.length_take]
  omega
 ·have:=c3 _ h.cur
  omega
 ·rw [h.piv]
  decide
theorem Lst.drop {E:Env} {a:Option Addr} {n cap sz i:Nat} {A B:Array Value} (h:Lst E (.slice a n cap) sz n A) (hi:i<=n) (hB:B=A.extract (i*sz) (n*sz)):Lst E (.slice (if cap=i then a else a.map (·.add (i*sz))) (n - i) (cap - i)) sz (n - i) B:=by
 subst hB
 obtain ⟨h1,h2,h3,a',cap',he,hc,h4⟩:=h
 cases he
 have hm:i*sz<=n*sz:=Nat.mul_le_mul_right _ hi
 refine ⟨by rw [Array.size_extract,h1,Nat.sub_mul];omega,by omega,?_,_,cap - i,rfl,by omega,fun hp=>?_⟩
 ·rw [Array.all_eq_true] at h3 ⊢
  intro k hk
  rw [Array.getElem_extract]
  exact h3 _ _
 ·obtain ⟨b,o,rfl,h5⟩:=h4 (by omega)
  rw [if_neg (by omega)]
  refine ⟨b,o+i*sz,by simp [Addr.add],fun w hw j u hj=>?_⟩
  rw [Nat.add_assoc]
  refine h5 w hw (i*sz+j) u ?_
  rw [Array.getElem?_extract] at hj
  split at hj
  ·exact hj
  ·cases hj
theorem IA {α:Type} {g:α->Array Value} {s:Nat} (hg:∀ x,(g x).size=s) (xs:List α) (i:Nat) (hi:i<=xs.length):cat g (xs.drop i)=(cat g xs).extract (i*s) (xs.length*s):=by
 have h1:cat g xs=cat g (xs.take i)++cat g (xs.drop i):=by rw [<- cat_append,List.take_append_drop]
 have h2:(cat g (xs.take i)).size=i*s:=by rw [Go.SX.cat_size hg];simp [Nat.min_eq_left hi]
 have h3:(cat g (xs.drop i)).size=xs.length*s - i*s:=by rw [Go.SX.cat_size hg,List.length_drop,Nat.sub_mul]
 rw [h1,Array.extract_append,h2,Nat.sub_self,<- h3,Array.extract_size]
 have:(cat g (xs.take i)).extract (i*s) (xs.length*s)=#[]:=by
  rw [Array.extract_eq_empty_iff]
  omega
 rw [this,Array.empty_append]
theorem InV.takes {v:VQ} (h:InV v) (i k n m:Nat):InV (v.takes i k n m):=by
 have hb:=h.hb
 have ab:=h.ab
 refine ⟨?_,fun x hx=>h.ih x (List.mem_of_mem_take hx),fun x hx=>h.ic x (List.mem_of_mem_take hx),fun x hx=>h.ip x (List.mem_of_mem_take hx),h.qb,h.qin,h.sb,h.pin,h.nb,h.nin,?_,fun x hx=>h.ain x (List.mem_of_mem_take hx),h.cur,h.piv⟩
 ·show (v.g.h.take i).length<=_/\(v.g.c.take k).length<=_/\(v.g.p.take n).length<=_
  rw [List.length_take,List.length_take,List.length_take]
  omega
 ·show (v.acs.take m).length<=_
  rw [List.length_take]
  omega
theorem InV.drops {v:VQ} (h:InV v) (i k n m:Nat):InV (v.drops i k n m):=by
 have hb:=h.hb
 have ab:=h.ab
 refine ⟨?_,fun x hx=>h.ih x (List.mem_of_mem_drop hx),fun x hx=>h.ic x (List.mem_of_mem_drop hx),fun x hx=>h.ip x (List.mem_of_mem_drop hx),h.qb,h.qin,h.sb,h.pin,h.nb,h.nin,?_,fun x hx=>h.ain x (List.mem_of_mem_drop hx),h.cur,h.piv⟩
 ·show (v.g.h.drop i).length<=_/\(v.g.c.drop k).length<=_/\(v.g.p.drop n).length<=_
  rw [List.length_drop,List.length_drop,List.length_drop]
  omega
 ·show (v.acs.drop m).length<=_
  rw [List.length_drop]
  omega
theorem Lst.cut {α:Type} {g:α->Array Value} {s:Nat} (hg:∀ x,(g x).size=s) {E:Env} {a:Option Addr} {n cap i:Nat} {xs:List α} (hn:n=xs.length) (h:Lst E (.slice a n cap) s n (cat g xs)) (hi:i<=n) :
    Lst E (.slice a i cap) s (xs.take i).length (cat g (xs.take i))/\Lst E (.slice (if cap=i then a else a.map (·.add (i*s))) (n - i) (cap - i)) s (xs.drop i).length (cat g (xs.drop i)):=by
 subst hn
 have l1:(xs.take i).length=i:=by rw [List.length_take];omega
 have l2:(xs.drop i).length=xs.length - i:=List.length_drop
 rw [l1,l2]
 exact ⟨Lst.take h hi (qd hg xs i hi),Lst.drop h hi (IA hg xs i hi)⟩
structure Held (w:VQ) (vh vc vp vq vs vn va:Value) (l:List OB):Prop where
 inv:InV w
 one:∀ b∈l,b.A.all (·.oneCell')=true
 lst:∀ E:Env,(∀ b∈l,Lst E b.v b.sz b.n b.A)->Lst E vh 2 w.g.h.length (cat dI w.g.h)/\Lst E vc 3 w.g.c.length (cat cj w.g.c)/\Lst E vp 3 w.g.p.length (cat cj w.g.p)/\Lst E vq 72 w.qs.length (cat QC.A w.qs)/\Lst E vs 1 w.pol.srcs.length (cat bF w.pol.srcs)/\Lst E vn 68 w.nst.length (cat NeQ.A w.nst)/\Lst E va 136 w.acs.length (cat AcQ.A w.acs)
theorem Held.vin {w:VQ} {vh vc vp vq vs vn va:Value} {l:List OB} (H:Held w vh vc vp vq vs vn va l) {E:Env} (hl:∀ b∈l,Lst E b.v b.sz b.n b.A):VIn E w vh vc vp vq vs vn va:=by
 obtain ⟨h1,h2,h3,h4,h5,h6,h7⟩:=H.lst E hl
 exact H.inv.vin h1 h2 h3 h4 h5 h6 h7
theorem Held.val {w:VQ} {vh vc vp vq vs vn va:Value} {l:List OB} (H:Held w vh vc vp vq vs vn va l) {E:Env} (hE:E.P=Tryz.prog) {A:Array Value} (hA:VA w vh vc vp vq vs vn va A) (hd:Go.SX.distinct (l.map OB.k)=true) (h9:(l.map OB.k).contains 9800=false):OwnC E 11 [SV.c (.agg A)] (l.map OB.m) (fun x U=>∃ U0,(EX (aZ w) x U0/\(∀ y∈(aZ w).1.lines,y.In)/\(aZ w).1.lines.length<=512)/\U=l.map OB.m++U0):=by
 refine Gr l hd H.one ?_ (by rw [hE];exact NR.enters) fun E0 h0 ho hl=>(Bt (h0.trans hE) hA (H.vin hl)).mono fun x U hq=>⟨hq,Jf (H.vin hl)⟩
 rintro x U ⟨⟨y,_,_,rfl⟩,-⟩ b hb
 have hk:b.k≠9800:=fun e=>by
  have:=List.mem_map_of_mem (f:=OB.k) hb
  rw [e] at this
  simp only [List.contains_eq_mem,decide_eq_false_iff_not] at h9
  exact h9 this
 simp only [aw]
 rw [if_neg (fun e=>hk e.symm)]
abbrev obV (vh vc vp vq vs vn va:Value) (nh nc np nq nn na:Nat) (H:List (Bs×Int)) (C P:List (Ky×Int)) (Q:List QC) (N:List NeQ) (A:List AcQ):List OB:=[⟨9506,vh,59,2,nh,cat dI H⟩,⟨9507,vc,88,3,nc,cat cj C⟩,⟨9508,vp,88,3,np,cat cj P⟩,⟨3000,vq,63,72,nq,cat QC.A Q⟩,⟨9102,vs,9,1,4,cat bF bO⟩,⟨9303,vn,67,68,nn,cat NeQ.A N⟩,⟨9304,va,69,136,na,cat AcQ.A A⟩]
abbrev J7 (vh vc vp vq vs vn va:Value) (nh nc np nq nn na:Nat) (H:List (Bs×Int)) (C P:List (Ky×Int)) (Q:List QC) (N:List NeQ) (A:List AcQ):aA:=[(9506,Blk.own vh 59 2 nh (cat dI H)),(9507,Blk.own vc 88 3 nc (cat cj C)),(9508,Blk.own vp 88 3 np (cat cj P)),(3000,Blk.own vq 63 72 nq (cat QC.A Q)),(9102,Blk.own vs 9 1 4 (cat bF bO)),(9303,Blk.own vn 67 68 nn (cat NeQ.A N)),(9304,Blk.own va 69 136 na (cat AcQ.A A))]
theorem wc {vh vc vp vq vs vn va:Value} {nh nc np nq nn na:Nat} {H:List (Bs×Int)} {C P:List (Ky×Int)} {Q:List QC} {N:List NeQ} {A:List AcQ}:∀ b∈obV vh vc vp vq vs vn va nh nc np nq nn na H C P Q N A,b.A.all (·.oneCell')=true:=by
 intro b hb
 simp only [List.mem_cons,List.not_mem_nil,or_false] at hb
 rcases hb with rfl | rfl | rfl | rfl | rfl | rfl | rfl
 ·exact Go.SX.cat_all sm _
 ·exact Go.SX.cat_all gO _
 ·exact Go.SX.cat_all gO _
 ·exact Go.SX.cat_all QC.all1 _
 ·exact Go.SX.cat_all gP _
 ·exact Go.SX.cat_all NeQ.one _
 ·exact Go.SX.cat_all AcQ.one _
theorem we {vh vc vp vq vs vn va:Value} {nh nc np nq nn na:Nat} {H:List (Bs×Int)} {C P:List (Ky×Int)} {Q:List QC} {N:List NeQ} {A:List AcQ} {E:Env} (hl:∀ b∈obV vh vc vp vq vs vn va nh nc np nq nn na H C P Q N A,Lst E b.v b.sz b.n b.A):Lst E vh 2 nh (cat dI H)/\Lst E vc 3 nc (cat cj C)/\Lst E vp 3 np (cat cj P)/\Lst E vq 72 nq (cat QC.A Q)/\Lst E vs 1 4 (cat bF bO)/\Lst E vn 68 nn (cat NeQ.A N)/\Lst E va 136 na (cat AcQ.A A):=by
 refine ⟨?_,?_,?_,?_,?_,?_,?_⟩
 ·exact hl ⟨9506,vh,59,2,nh,cat dI H⟩ (by simp)
 ·exact hl ⟨9507,vc,88,3,nc,cat cj C⟩ (by simp)
 ·exact hl ⟨9508,vp,88,3,np,cat cj P⟩ (by simp)
 ·exact hl ⟨3000,vq,63,72,nq,cat QC.A Q⟩ (by simp)
 ·exact hl ⟨9102,vs,9,1,4,cat bF bO⟩ (by simp)
 ·exact hl ⟨9303,vn,67,68,nn,cat NeQ.A N⟩ (by simp)
 ·exact hl ⟨9304,va,69,136,na,cat AcQ.A A⟩ (by simp)
theorem src_lst {E:Env} {g m:Nat} (hm:m<=4) (h:Lst E (.slice (some ⟨g,0,none⟩) 4 4) 1 4 (cat bF bO)):Lst E (.slice (some ⟨g,0,none⟩) m 4) 1 (bO.take m).length (cat bF (bO.take m)):=(Lst.cut dj (xs:=bO) rfl h hm).1
theorem Hx {w:VQ} {vh vc vp vq vn va:Value} {g m:Nat} (hi:InV w) (hm:m<=4) (hs:w.pol.srcs=bO.take m) {nh nc np nq nn na:Nat} (n1:nh=w.g.h.length) (n2:nc=w.g.c.length) (n3:np=w.g.p.length) (n4:nq=w.qs.length) (n5:nn=w.nst.length) (n6:na=w.acs.length):Held w vh vc vp vq (.slice (some ⟨g,0,none⟩) m 4) vn va (obV vh vc vp vq (.slice (some ⟨g,0,none⟩) 4 4) vn va nh nc np nq nn na w.g.h w.g.c w.g.p w.qs w.nst w.acs):=by
 subst n1 n2 n3 n4 n5 n6
 refine ⟨hi,wc,fun E hl=>?_⟩
 obtain ⟨h1,h2,h3,h4,h5,h6,h7⟩:=we hl
 refine ⟨h1,h2,h3,h4,?_,h6,h7⟩
 rw [hs]
 exact src_lst hm h5
theorem wm {x:Value} {n:Nat} (h:IsL x n):∃ a c,x=.slice a n c:=by
 rcases h with ⟨rfl,rfl⟩ | ⟨g,cap,rfl⟩
 ·exact ⟨_,_,rfl⟩
 ·exact ⟨_,_,rfl⟩
def U6 (D:Int) (k:Nat) (v:Value) (x:Value) (U:aA):Prop:=∃ (w:VQ) (k':Nat) (vh vc vp vq vn va:Value) (g m:Nat),k<=k'/\k'<=k+1000/\MdV D w/\IsL vh w.g.h.length/\IsL vc w.g.c.length/\IsL vp w.g.p.length/\IsL vq w.qs.length/\IsL vn w.nst.length/\IsL va w.acs.length/\1<=m/\m<=4/\w.pol.srcs=bO.take m/\x=.agg (w.A vh vc vp vq (.slice (some ⟨g,0,none⟩) m 4) vn va)/\U=(1000,Blk.row 53 2 (tb v k')) :: J7 vh vc vp vq (.slice (some ⟨g,0,none⟩) 4 4) vn va w.g.h.length w.g.c.length w.g.p.length w.qs.length w.nst.length w.acs.length w.g.h w.g.c w.g.p w.qs w.nst w.acs
theorem VQ.fitsL {v:VQ} {vh vc vp vq vs vn va:Value} {n1 n2 n3 n4 n5 n6 n7:Nat} (h1:IsL vh n1) (h2:IsL vc n2) (h3:IsL vp n3) (h4:IsL vq n4) (h5:IsL vs n5) (h6:IsL vn n6) (h7:IsL va n7):Fits (v.A vh vc vp vq vs vn va) 78:=VQ.fits (fD h1) (fD h2) (fD h3) (fD h4) (fD h5) (fD h6) (fD h7)
theorem rC {E:Env} (hE:E.P=Tryz.prog) {w:VQ} {vh vc vp vq vn va:Value} {g m:Nat} (hi:InV w) (hm:m<=4) (hs:w.pol.srcs=bO.take m) {nh nc np nq nn na:Nat} (n1:nh=w.g.h.length) (n2:nc=w.g.c.length) (n3:np=w.g.p.length) (n4:nq=w.qs.length) (n5:nn=w.nst.length) (n6:na=w.acs.length):OwnC E 11 [SV.c (.agg (w.A vh vc vp vq (.slice (some ⟨g,0,none⟩) m 4) vn va))] (J7 vh vc vp vq (.slice (some ⟨g,0,none⟩) 4 4) vn va nh nc np nq nn na w.g.h w.g.c w.g.p w.qs w.nst w.acs) (fun x U=>∃ U0,(EX (aZ w) x U0/\(∀ y∈(aZ w).1.lines,y.In)/\(aZ w).1.lines.length<=512)/\U=J7 vh vc vp vq (.slice (some ⟨g,0,none⟩) 4 4) vn va nh nc np nq nn na w.g.h w.g.c w.g.p w.qs w.nst w.acs++U0) :=
 (Hx hi hm hs n1 n2 n3 n4 n5 n6).val hE (VQ.at ..) rfl rfl
theorem OwnC.capsV {E:Env} {f:FuncId} {sv:List SV} {pre:aA} {Q:Value->aA->Prop} (h:OwnC E f sv pre Q):OwnC E f sv pre (fun x U=>Q x U/\∀ d g n cap e sz A,aw U d=some (Blk.own (.slice (some ⟨g,0,none⟩) n cap) e sz n A)->n<=cap) :=
 ⟨h.1,fun ρ w xs h1 h2=>(h.2 ρ w xs h1 h2).mono fun _ w' ⟨x,U,h3,h4,h5,h6⟩=>⟨x,U,h3,⟨h4,fun d g n cap e sz A hg=>by
  obtain ⟨-,h7⟩:=(h5.loose d _ hg rfl).2
  rcases h7 with h8 | ⟨g',cap',cur,hv,-,-,h9,-⟩
  ·cases h8.1
  ·cases hv
   exact h9⟩,h5,h6⟩⟩
theorem wO {x:Value} {n:Nat} (h:IsL x n) (hc:∀ g cap,x=.slice (some ⟨g,0,none⟩) n cap->n<=cap):∃ a c,x=.slice a n c/\n<=c:=by
 rcases h with ⟨rfl,rfl⟩ | ⟨g,cap,rfl⟩
 ·exact ⟨_,_,rfl,Nat.le_refl _⟩
 ·exact ⟨_,_,rfl,hc g cap rfl⟩
theorem VQ.layL (w:VQ) (vh vc vp vq vs vn va:Value):w.A vh vc vp vq vs vn va=#[.string (S w.cur),.string (S w.piv),.int .i64 w.day,.int .i64 w.known,vh,vc,vp,vq]++(w.pol.A vs++#[vn,va]):=rfl
theorem VQ.layR (w:VQ) (vh vc vp vq vs vn va:Value):w.A vh vc vp vq vs vn va=(#[.string (S w.cur),.string (S w.piv),.int .i64 w.day,.int .i64 w.known,vh,vc,vp,vq]++w.pol.A vs)++#[vn,va]:=by rw [VQ.layL,Array.append_assoc]
theorem VQ.layP (w:VQ) (vh vc vp vq vs vn va:Value):w.A vh vc vp vq vs vn va=#[.string (S w.cur),.string (S w.piv),.int .i64 w.day,.int .i64 w.known]++(#[vh,vc,vp]++(#[vq]++(w.pol.A vs++#[vn,va]))):=by
 have h:∀ R:Array Value,#[.string (S w.cur),.string (S w.piv),.int .i64 w.day,.int .i64 w.known,vh,vc,vp,vq]++R=#[.string (S w.cur),.string (S w.piv),.int .i64 w.day,.int .i64 w.known]++(#[vh,vc,vp,vq]++R):=fun R=>by
  rw [<- Array.append_assoc]
  rfl
 simp [VQ.A]
 exact h _
theorem VQ.set3 (w:VQ) (vh vc vp vq vs vn va:Value) (n:Int):(w.A vh vc vp vq vs vn va).setIfInBounds (0+3) (.int .i64 n)=({ w with known:=n }:VQ).A vh vc vp vq vs vn va:=by
 rw [VQ.layL,VQ.layL,Array.setIfInBounds_append_left (by simp)]
 rfl
theorem VQ.set7 (w:VQ) (vh vc vp vq vs vn va:Value) (x:Value) (l:List QC):(w.A vh vc vp vq vs vn va).setIfInBounds (0+7) x=({ w with qs:=l }:VQ).A vh vc vp x vs vn va:=by
 rw [VQ.layL,VQ.layL,Array.setIfInBounds_append_left (by simp)]
 rfl
theorem VQ.set76 (w:VQ) (vh vc vp vq vs vn va:Value) (x:Value) (l:List NeQ):(w.A vh vc vp vq vs vn va).setIfInBounds (0+76) x=({ w with nst:=l }:VQ).A vh vc vp vq vs x va:=by
 rw [VQ.layR,VQ.layR,jb 0 (by simp [PL.size])]
 rfl
theorem VQ.set77 (w:VQ) (vh vc vp vq vs vn va:Value) (x:Value) (l:List AcQ):(w.A vh vc vp vq vs vn va).setIfInBounds (0+77) x=({ w with acs:=l }:VQ).A vh vc vp vq vs vn x:=by
 rw [VQ.layR,VQ.layR,jb 1 (by simp [PL.size])]
 rfl
theorem VQ.setpf (w:VQ) (vh vc vp vq vs vn va:Value) (xh xc xp:Value) (g:Led):aM (w.A vh vc vp vq vs vn va) (0+4) #[xh,xc,xp].toList=({ w with g:=g }:VQ).A xh xc xp vq vs vn va:=by
 rw [VQ.layP,VQ.layP,ja (by simp) (by simp)]
theorem Ea (c:Bs) (day:Int) (p:PL) (g:Led) (qs:List QC) (a1 a2 a3 a4 a5:Option Addr) (n1 n2 n3 n4 n5 c1 c2 c3 c4 c5:Nat) {pl:List (Nat×Nat)} (hpl:pl=[(0,1),(1,1),(2,1),(3,1),(4,3),(7,1),(8,68),(76,1),(77,1)]):Instr.fill (fun k=>pl[k]?) FB.zero [(0,.string (S c)),(1,.string (S [85,83,68])),(2,.int .i64 day),(4,.agg #[.slice a1 n1 c1,.slice a2 n2 c2,.slice a3 n3 c3]),(5,.slice a4 n4 c4),(6,.agg (p.A (.slice a5 n5 c5)))]=some (VQ.A ⟨c,aV,day,0,g,qs,p,[],[]⟩ (.slice a1 n1 c1) (.slice a2 n2 c2) (.slice a3 n3 c3) (.slice a4 n4 c4) (.slice a5 n5 c5) (.slice none 0 0) (.slice none 0 0)):=by
 subst hpl
 kernel_rfl
def feA (nm:Bs) (r:RQ) (b:Int):Array Value:=#[.string (S nm)]++(r.A++#[.int .i64 b])
theorem yL (nm:Bs) (r:RQ) (b:Int):Fits (feA nm r b) 68:=⟨by simp [feA,RQ.A_size],by
 rw [feA,Array.all_append,Array.all_append,r.A_fits.one]
 simp [Value.oneCell']⟩
theorem Ei (nm:Bs) (r:RQ) (b:Int) {pl:List (Nat×Nat)} (hpl:pl=[(0,1),(1,66),(67,1)]):Instr.fill (fun k=>pl[k]?) FC.zero [(0,.string (S nm)),(1,.agg r.A),(2,.int .i64 b)]=some (feA nm r b):=by
 subst hpl
 kernel_rfl
theorem Pw (nm:Bs):Gen 140 [SV.c (.string (S nm))] 6 (fun x=>∃ (r:RQ) (b:Int),x=.agg (feA nm r b)/\uA r/\1<=b/\b<=4):=by
 intro zs k hk
 obtain ⟨r1,k1,a1,b1,⟨pc,rfl,c1⟩,O1⟩:=uz zs k (by omega)
 obtain ⟨r2,k2,a2,b2,⟨b,rfl,c2⟩,O2⟩:=py (lo:=1) (hi:=4) (by decide) (by decide) (by decide) zs k1 (by omega)
 refine ⟨_,k2,by omega,by omega,⟨pc,b,rfl,c1,c2.1,c2.2⟩,fun E v d hE hv=>?_⟩
 refine aQ [] ai ak Sm E hE d (53,2,tb v k,tb v k2) [SV.ptr 1000 0,SV.c (.string (S nm))] _ rfl rfl fun w β hT=>?_
 have hv:=hv.of_old hE.symm hT
 have F1:=Ei nm pc b rfl
 have F2:=yL nm pc b
 have RF:=pc.A_fits
 generalize feA nm pc b=FA at *
 generalize pc.A=PA at *
 exact .inr ⟨_,_,_,O1 _ v 1000 rfl hv,⟨rfl,trivial⟩,rfl,.inr ⟨_,_,_,O2 _ v 1000 rfl hv,⟨rfl,trivial⟩,rfl,_,F1,F2,rfl,rfl,trivial⟩⟩
theorem HO {r:RQ} (hr:r.In) (hk:r.ok=true):ay Tryz.prog 200 [SV.c (.agg r.A)] (.tuple #[.agg (eA (r.p / r.q)),.int .i64 0]):=by
 obtain ⟨-,-,hq,-,-⟩:=RQ.ok_bits hk
 refine al ai ak Rn _ _ rfl rfl fun w=>?_
 refine ⟨r.A_size,.inl ⟨_,eS hr,fun h1=>?_,fun h1=>?_⟩⟩
 ·rw [hk] at h1
  exact absurd h1 (by decide)
 ·exact ⟨by decide,_,r.cat_l,by decide,_,r.cat_r,.inl ⟨_,p8 hr.num hr.den (by omega),am _,am _,am _,rfl,trivial⟩⟩
theorem TX {z:Int} (h:0<=z/\z < 4294967296):(eA z)[1]? = some (.int .u32 z):=by
 have h2:dg z.natAbs 0=z.natAbs:=by
  unfold dg
  rw [Nat.pow_zero,Nat.div_one]
  exact Nat.mod_eq_of_lt (by show z.natAbs < 4294967296;omega)
 have h3:(eA z)[1]? = some (.int .u32 ((dg z.natAbs 0:Nat):Int)):=by kernel_rfl
 rw [h3,h2,show ((z.natAbs:Nat):Int)=z by omega]
theorem Ku {r:RQ} (hr:r.In) (hk:r.ok=true) (h:0<=r.p / r.q/\r.p / r.q < 4294967296):ay Tryz.prog 141 [SV.c (.agg r.A)] (.int .i64 (r.p / r.q)):=by
 refine al ai ak Sl _ _ rfl rfl fun w=>?_
 refine ⟨r.A_size,.inl ⟨_,HO hr hk,am _,by decide,by decide,_,TX h,?_,trivial⟩⟩
 show cW [.int .i64 (IntKind.i64.wrap (r.p / r.q))]=_
 rw [i64_in (by omega)]
 rfl
theorem H0 (nm:Bs) (r e:RQ) (b t:Int) {pl:List (Nat×Nat)} (hpl:pl=[(0,1),(1,66),(67,1),(68,66),(134,1),(135,1)]):Instr.fill (fun k=>pl[k]?) iY.zero [(0,.string (S nm)),(1,.agg r.A),(2,.int .i64 b),(3,.agg e.A),(5,.int .i64 t)]=some (AcQ.A ⟨nm,r,b,e,0,t⟩):=by
 subst hpl
 kernel_rfl
theorem AcQ.set134 (a:AcQ) (n:Int):a.A.setIfInBounds (0+134) (.int .i64 n)=({ a with paid:=n }:AcQ).A:=by
 have e:∀ a:AcQ,a.A=(#[.string (S a.nm)]++(a.rate.A++(#[.int .i64 a.basis]++a.exact.A)))++#[.int .i64 a.paid,.int .i64 a.til]:=fun a=>by simp [AcQ.A]
 rw [e,e,jb 0 (by simp [RQ.A_size])]
 rfl
theorem Py (nm:Bs) (r:RQ) (b:Int):(feA nm r b)[0]? = some (.string (S nm)):=by kernel_rfl
theorem Px (nm:Bs) (r:RQ) (b:Int):(feA nm r b).extract 1 (1+66)=r.A:=by kernel_rfl
theorem Nr (nm:Bs) (r:RQ) (b:Int):(feA nm r b)[67]? = some (.int .i64 b):=by kernel_rfl
theorem HU (i c:Bs) (r:RQ) {pl:List (Nat×Nat)} (hpl:pl=[(0,1),(1,1),(2,66)]):Instr.fill (fun k=>pl[k]?) tT.zero [(0,.string (S i)),(1,.string (S c)),(2,.agg r.A)]=some (NeQ.A ⟨i,c,r⟩):=by
 subst hpl
 kernel_rfl
theorem GT {n d:Int} (h1:0<=n) (h2:n<=1000000) (h3:1<=d) (h4:d<=365):(mkQ n d).1.ok=true/\0<=(mkQ n d).1.p / (mkQ n d).1.q/\(mkQ n d).1.p / (mkQ n d).1.q<=1000000:=by
 have hb:=Bi (n:=n) (d:=d) (lo:=0) (hi:=1000000) h3 (uf (by omega) (by omega)) (uf (by omega) (by omega)) (by omega) (by
  have:=Int.mul_le_mul_of_nonneg_left h3 (show (0:Int)<=1000000 by decide)
  omega)
 unfold dE at hb
 simp only [Bool.and_eq_true,decide_eq_true_eq] at hb
 obtain ⟨hk,h0,h1⟩:=hb
 obtain ⟨-,-,hq,-,-⟩:=RQ.ok_bits hk
 refine ⟨hk,Int.ediv_nonneg (by omega) (by omega),?_⟩
 have:=Int.ediv_le_ediv hq h1
 rw [Int.mul_ediv_cancel _ (show (mkQ n d).1.q≠0 by omega)] at this
 exact this
theorem Ee (a:NeQ):Instr.fill (fun k=>some (k*tT.size,tT.size)) (madeCells tT.zero (1*tT.size)) [(0,.agg a.A)]=some a.A:=by
 kernel_rfl
theorem Ek (a:AcQ):Instr.fill (fun k=>some (k*iY.size,iY.size)) (madeCells iY.zero (1*iY.size)) [(0,.agg a.A)]=some a.A:=by
 kernel_rfl
theorem NeQ.ext68 (a:NeQ):a.A.extract 0 (0+1*68)=a.A:=by
 have:a.A.size=68:=a.size
 simp [this]
theorem AcQ.ext136 (a:AcQ):a.A.extract 0 (0+1*136)=a.A:=by
 have:a.A.size=136:=a.size
 simp [this]
theorem Hm:∃ q,Tryz.prog.info? 67=some q/\q.bytes=296:=fE (by kernel_rfl)
theorem Hp:∃ q,Tryz.prog.info? 69=some q/\q.bytes=568:=fE (by kernel_rfl)
theorem ET {nm:Bs} (hnm:nm∈iF) {day:Int} (_hD:0<=day/\day<=73048):Gen 72 [SV.c (.string (S nm)),SV.c (.int .i64 day)] 12 (fun x=>∃ a:AcQ,x=.agg a.A/\AcM day a):=by
 intro zs k hk
 obtain ⟨r1,k1,a1,b1,⟨rate,b,rfl,c1,d1,d2⟩,O1⟩:=Pw nm zs k (by omega)
 obtain ⟨r2,k2,a2,b2,⟨i2,rfl,c2⟩,O2⟩:=bQ (n:=1000000) (by decide) zs k1 (by omega)
 obtain ⟨r3,k3,a3,b3,⟨i3,rfl,c3⟩,O3⟩:=dX (xs:=[1,2,365,360,7]) (by decide) (by decide) zs k2 (by omega)
 have q2:0<=i2/\i2<=1000000:=by omega
 have q3:1<=i3/\i3<=365:=by simp at c3;omega
 obtain ⟨e1,e2,e3⟩:=GT q2.1 q2.2 q3.1 q3.2
 have M:=dT (n:=i2) (d:=i3) (by omega) (by omega) (by omega) (by omega)
 have FL:=Ku (cD i2 i3) e1 ⟨e2,by omega⟩
 generalize hfl:(mkQ i2 i3).1.p / (mkQ i2 i3).1.q=fl at *
 obtain ⟨r4,k4,a4,b4,⟨i4,rfl,c4⟩,O4⟩:=bQ (n:=1+fl) (by omega) zs k3 (by omega)
 have q4:0<=i4/\i4<=fl:=by omega
 refine ⟨_,k4,by omega,by omega,⟨⟨nm,rate,b,(mkQ i2 i3).1,i4,day⟩,rfl,hnm,c1,⟨d1,d2⟩,⟨i2,i3,rfl,q2.1,q2.2,q3.1,q3.2⟩,⟨q4.1,by rw [hfl];exact q4.2⟩,rfl⟩,fun E v d hE hv=>?_⟩
 refine aQ [] ai ak Un E hE d (53,2,tb v k,tb v k4) [SV.ptr 1000 0,SV.c (.string (S nm)),SV.c (.int .i64 day)] _ rfl rfl fun w β hT=>?_
 have hv:=hv.of_old hE.symm hT
 have G0:=Py nm rate b
 have G1:=Px nm rate b
 have G2:=Nr nm rate b
 have G3:=yL nm rate b
 have RF:=rate.A_fits
 have EF:=(mkQ i2 i3).1.A_fits
 have F1:=H0 nm rate (mkQ i2 i3).1 b day rfl
 have F2:=AcQ.fits ⟨nm,rate,b,(mkQ i2 i3).1,0,day⟩
 have F3:=AcQ.set134 ⟨nm,rate,b,(mkQ i2 i3).1,0,day⟩ i4
 have F4:=AcQ.fits ⟨nm,rate,b,(mkQ i2 i3).1,i4,day⟩
 have e5:IntKind.i64.wrap (1+fl)=1+fl:=i64_in (by omega)
 rw [<- e5] at O4
 have G5:=AcQ.gexact ⟨nm,rate,b,(mkQ i2 i3).1,0,day⟩
 generalize AcQ.A ⟨nm,rate,b,(mkQ i2 i3).1,i4,day⟩=YB at *
 generalize AcQ.A ⟨nm,rate,b,(mkQ i2 i3).1,0,day⟩=YA at *
 generalize feA nm rate b=FA at *
 generalize rate.A=RA' at *
 generalize (mkQ i2 i3).1.A=EA at *
 refine .inr ⟨_,_,_,O1 _ v 1000 rfl hv,⟨rfl,trivial⟩,rfl,G3,_,G0,by decide,_,G1,_,G2,?_⟩
 refine .inr ⟨_,_,_,O2 _ v 1000 rfl hv,⟨rfl,trivial⟩,rfl,by decide,by decide,cd [1,2,365,360,7],by kernel_rfl,rfl,?_⟩
 refine .inr ⟨_,_,_,O3 _ v 1000 21 (by decide) rfl hv,⟨rfl,rfl,trivial⟩,rfl,.inl ⟨_,M,_,F1,F2,by kernel_rfl,?_⟩⟩
 refine ⟨by decide,_,G5,.inl ⟨_,FL,.inr ⟨_,_,_,O4 _ v 1000 rfl hv,⟨rfl,trivial⟩,rfl,by decide,rfl,_,F3,F4,rfl,rfl,trivial⟩⟩⟩
theorem ke {E:Env} (hE:E.P=Tryz.prog) {v:Value} {zs:List Int} (hv:Tp E v zs) {k:Nat} (hk:k+5000<=4000000000000000000) {day:Int} (hD:0<=day/\day<=73048):OwnC E 17 [SV.ptr 1000 0,SV.c (.int .i64 day)] [(1000,Blk.row 53 2 (tb v k))] (U6 day k v):=by
 refine aD [5] ai ak UX E hE [SV.ptr 1000 0,SV.c (.int .i64 day)] [(1000,Blk.row 53 2 (tb v k))] _ rfl rfl fun w X β hT=>?_
 have hE':(aY Tryz.prog tt Tryz.f17.ntmps w X (aJ [(1000,Blk.row 53 2 (tb v k))] β) [5]).toEnv.P=Tryz.prog:=rfl
 have hv':Tp (aY Tryz.prog tt Tryz.f17.ntmps w X (aJ [(1000,Blk.row 53 2 (tb v k))] β) [5]).toEnv v zs:=hv.of_old hE.symm hT
 obtain ⟨r1,k1,a1,b1,⟨cur,rfl,c1⟩,O1⟩:=Ip zs k (by omega)
 refine .inr (.inl ⟨_,_,_,O1 _ v 1000 rfl hv',⟨rfl,trivial⟩,rfl,?_⟩)
 have A2:=xM hE' hv' (k:=k1) (by omega) hD
 refine .inr (.inr (.inr ⟨[],[9506,9507,9508],[_,_],[_],_,A2,rfl,⟨rfl,trivial⟩,rfl,trivial,?_⟩))
 rintro r U ⟨g,k2,xh,xc,xp,a2,b2,hM,hxh,hxc,hxp,rfl,rfl⟩
 obtain ⟨ah,ch,rfl⟩:=wm hxh
 obtain ⟨ac,cc,rfl⟩:=wm hxc
 obtain ⟨ap,cp,rfl⟩:=wm hxp
 refine ⟨rfl,?_⟩
 obtain ⟨r3,k3,a3,b3,⟨i3,rfl,c3⟩,O3⟩:=bQ (n:=8) (by decide) zs k2 (by omega)
 obtain ⟨n,rfl⟩:∃ n:Nat,i3=(n:Nat):=⟨i3.toNat,by omega⟩
 have hn7:n<=7:=by omega
 refine .inr (.inl ⟨_,_,_,O3 _ v 1000 rfl hv',⟨rfl,trivial⟩,rfl,?_⟩)
 have A4:=Nl hE' hv' (n:=n) (k:=k3) hn7 (by omega) hD
 refine .inr (.inr (.inr ⟨[],[3000],[_,_,_],[_],_,A4,rfl,⟨rfl,trivial⟩,rfl,trivial,?_⟩))
 rintro r U ⟨qs,k4,last,a4,b4,hq,hql,hb,l6,l60,rfl⟩
 obtain ⟨aq,cq,rfl⟩:=wm hq
 refine ⟨rfl,?_⟩
 have A5:=Kv hE' hv' (k:=k4) (by omega)
 refine .inr (.inr (.inr ⟨[],[9102],[_],[_],_,A5,rfl,⟨rfl,trivial⟩,rfl,trivial,?_⟩))
 rintro r U ⟨p,g5,m5,k5,a5,b5,hpin,hpo,hps,m1,m4,rfl,rfl⟩
 refine ⟨rfl,?_⟩
 have F1:=Ea cur day p g qs ah ac ap aq (some ⟨g5,0,none⟩) g.h.length g.c.length g.p.length (6+n) m5 ch cc cp cq 4 (pl:=[(0,1),(1,1),(2,1),(3,1),(4,3),(7,1),(8,68),(76,1),(77,1)]) rfl
 have F2:=VQ.fitsL (v:=⟨cur,aV,day,0,g,qs,p,[],[]⟩) hxh hxc hxp hq (vs:=.slice (some ⟨g5,0,none⟩) m5 4) (.inr ⟨g5,4,rfl⟩) (vn:=.slice none 0 0) (.inl ⟨rfl,rfl⟩) (va:=.slice none 0 0) (.inl ⟨rfl,rfl⟩)
 obtain ⟨r6,k6,a6,b6,⟨known,rfl,c6⟩,O6⟩:=dX (xs:=[6,6,10,40,2147483647]) (by decide) (by decide) zs k5 (by omega)
 have q6:6<=known/\known<=2147483647:=by simp at c6;omega
 have S3:=VQ.set3 ⟨cur,aV,day,0,g,qs,p,[],[]⟩ (.slice ah g.h.length ch) (.slice ac g.c.length cc) (.slice ap g.p.length cp) (.slice aq (6+n) cq) (.slice (some ⟨g5,0,none⟩) m5 4) (.slice none 0 0) (.slice none 0 0) known
 generalize hW0:VQ.A ⟨cur,aV,day,0,g,qs,p,[],[]⟩ (.slice ah g.h.length ch) (.slice ac g.c.length cc) (.slice ap g.p.length cp) (.slice aq (6+n) cq) (.slice (some ⟨g5,0,none⟩) m5 4) (.slice none 0 0) (.slice none 0 0)=W0 at F1 F2 S3
 generalize hPA:p.A (.slice (some ⟨g5,0,none⟩) m5 4)=PA at F1 ⊢
 refine ⟨_,F1,F2,?_⟩
 refine .inl ⟨by decide,by decide,cd [6,6,10,40,2147483647],by kernel_rfl,rfl,.inr (.inl ⟨_,_,_,O6 _ v 1000 22 (by decide) rfl hv',⟨rfl,rfl,trivial⟩,rfl,by decide,rfl,_,S3,?_⟩)⟩
 clear F1 F2 S3 hW0 hPA
 refine ⟨fun f m=>∃ (kk:Nat) (N:List NeQ) (vn:Value),k<=kk/\kk<=k+600/\IsL vn N.length/\N.length<=1/\(∀ y∈N,NeM y)/\f=[(0,SV.ptr 1000 0),(1,SV.c (.int .i64 day)),(4,SV.ptr 4 0),(5,SV.ptr 5 0)]/\m=[(1000,Blk.row 53 2 (tb v kk)),(4,Blk.row 39 78 FB.zero),(5,Blk.row 39 78 (VQ.A ⟨cur,aV,day,known,g,qs,p,N,[]⟩ (.slice ah g.h.length ch) (.slice ac g.c.length cc) (.slice ap g.p.length cp) (.slice aq (6+n) cq) (.slice (some ⟨g5,0,none⟩) m5 4) vn (.slice none 0 0))),(9506,Blk.own (.slice ah g.h.length ch) 59 2 g.h.length (cat dI g.h)),(9507,Blk.own (.slice ac g.c.length cc) 88 3 g.c.length (cat cj g.c)),(9508,Blk.own (.slice ap g.p.length cp) 88 3 g.p.length (cat cj g.p)),(3000,Blk.own (.slice aq (6+n) cq) 63 72 (6+n) (cat QC.A qs)),(9102,Blk.own (.slice (some ⟨g5,0,none⟩) 4 4) 9 1 4 (cat bF bO)),(9303,Blk.own vn 67 68 N.length (cat NeQ.A N))],?_,?_⟩
 ·obtain ⟨r7,k7,a7,b7,⟨t,rfl⟩,O7⟩:=cU (a:=1) (b:=4) (by decide) zs k6 (by omega)
  refine .inr (.inl ⟨_,_,_,O7 _ v 1000 rfl hv',⟨rfl,trivial⟩,rfl,fun ht=>?_,fun ht=>?_⟩)
  ·obtain ⟨r8,k8,a8,b8,⟨ins,rfl,c8⟩,O8⟩:=Jr zs k7 (by omega)
   obtain ⟨r9,k9,a9,b9,⟨nc,rfl,c9⟩,O9⟩:=Ip zs k8 (by omega)
   obtain ⟨r10,k10,a10,b10,⟨i10,rfl,c10⟩,O10⟩:=py (lo:=-50) (hi:=100000) (by decide) (by decide) (by decide) zs k9 (by omega)
   obtain ⟨r11,k11,a11,b11,⟨i11,rfl,c11⟩,O11⟩:=dX (xs:=[1,3,1000,997]) (by decide) (by decide) zs k10 (by omega)
   have q11:1<=i11/\i11<=1000:=by simp at c11;omega
   have M:=dT (n:=i10) (d:=i11) (by omega) (by omega) (by omega) (by omega)
   have E1:=HU ins nc (mkQ i10 i11).1 (pl:=[(0,1),(1,1),(2,66)]) rfl
   have E2:=Ee ⟨ins,nc,(mkQ i10 i11).1⟩
   have E3:=NeQ.one ⟨ins,nc,(mkQ i10 i11).1⟩
   have E4:(NeQ.A ⟨ins,nc,(mkQ i10 i11).1⟩).size=1*68:=NeQ.size _
   have E5:=NeQ.ext68 ⟨ins,nc,(mkQ i10 i11).1⟩
   have E6:#[]++NeQ.A ⟨ins,nc,(mkQ i10 i11).1⟩=cat NeQ.A [⟨ins,nc,(mkQ i10 i11).1⟩]:=fg [] _
   have hne:NeM ⟨ins,nc,(mkQ i10 i11).1⟩:=⟨c8,c9,i10,i11,rfl,c10.1,c10.2,q11.1,q11.2⟩
   have G76:=(VQ.at ⟨cur,aV,day,known,g,qs,p,[],[]⟩ (.slice ah g.h.length ch) (.slice ac g.c.length cc) (.slice ap g.p.length cp) (.slice aq (6+n) cq) (.slice (some ⟨g5,0,none⟩) m5 4) (.slice none 0 0) (.slice none 0 0)).g76
   have S76:=fun x=>VQ.set76 ⟨cur,aV,day,known,g,qs,p,[],[]⟩ (.slice ah g.h.length ch) (.slice ac g.c.length cc) (.slice ap g.p.length cp) (.slice aq (6+n) cq) (.slice (some ⟨g5,0,none⟩) m5 4) (.slice none 0 0) (.slice none 0 0) x [⟨ins,nc,(mkQ i10 i11).1⟩]
   obtain ⟨q,hq',hb'⟩:=Hm
   generalize hYA:NeQ.A ⟨ins,nc,(mkQ i10 i11).1⟩=YA at E1 E2 E3 E4 E5 E6
   generalize (mkQ i10 i11).1.A=MA at M E1
   refine ⟨_,G76,.inr (.inl ⟨_,_,_,O8 _ v 1000 rfl hv',⟨rfl,trivial⟩,rfl,.inr (.inl ⟨_,_,_,O9 _ v 1000 rfl hv',⟨rfl,trivial⟩,rfl,.inr (.inl ⟨_,_,_,O10 _ v 1000 rfl hv',⟨rfl,trivial⟩,rfl,?_⟩)⟩)⟩)⟩
   refine .inl ⟨by decide,by decide,cd [1,3,1000,997],by kernel_rfl,rfl,.inr (.inl ⟨_,_,_,O11 _ v 1000 36 (by decide) rfl hv',⟨rfl,rfl,trivial⟩,rfl,.inl ⟨_,M,_,E1,?_⟩⟩)⟩
   refine .inl ⟨by decide,by decide,_,E2,E4,by decide,9303,0,#[],.inr ⟨rfl,rfl,rfl,rfl⟩,by decide,E3,E4,_,E5,by omega,by unfold maxLen;omega,⟨q,hq',by rw [hb'];omega⟩,by change _=true;kernel_rfl,fun g2 cap2=>?_⟩
   refine ⟨by decide,rfl,_,S76 _,by kernel_rfl,_,_,⟨k11,[⟨ins,nc,(mkQ i10 i11).1⟩],_,by omega,by omega,.some,Nat.le_refl 1,by simpa using hne,rfl,rfl⟩,⟨rfl,rfl,rfl,rfl,trivial⟩,⟨rfl,rfl,rfl,.inl rfl,.inl rfl,.inl rfl,.inl rfl,.inl rfl,.inl (bC E6),trivial⟩,rfl⟩
  ·exact ⟨_,_,⟨k7,[],.slice none 0 0,by omega,by omega,.nil,by decide,nofun,rfl,rfl⟩,⟨rfl,rfl,rfl,rfl,trivial⟩,⟨rfl,rfl,rfl,.inl rfl,.inl rfl,.inl rfl,.inl rfl,.inl rfl,.inr ⟨rfl,rfl,rfl⟩,trivial⟩,rfl⟩
 rintro f1 m1 ⟨kk,N,vn,hk1,hk2,hvn,hN1,hN,rfl,rfl⟩
 refine ⟨fun q f m=>∃ (i kq:Nat) (As:List AcQ) (va:Value),q=2 - i/\i<=2/\k<=kq/\kq<=k+600+20*i/\As.length=i/\IsL va i/\(∀ y∈As,AcM day y)/\f=[(0,SV.ptr 1000 0),(1,SV.c (.int .i64 day)),(4,SV.ptr 4 0),(5,SV.ptr 5 0),(6,SV.c (.int .i64 (i:Nat)))]/\m=[(1000,Blk.row 53 2 (tb v kq)),(4,Blk.row 39 78 FB.zero),(5,Blk.row 39 78 (VQ.A ⟨cur,aV,day,known,g,qs,p,N,As⟩ (.slice ah g.h.length ch) (.slice ac g.c.length cc) (.slice ap g.p.length cp) (.slice aq (6+n) cq) (.slice (some ⟨g5,0,none⟩) m5 4) vn va)),(9506,Blk.own (.slice ah g.h.length ch) 59 2 g.h.length (cat dI g.h)),(9507,Blk.own (.slice ac g.c.length cc) 88 3 g.c.length (cat cj g.c)),(9508,Blk.own (.slice ap g.p.length cp) 88 3 g.p.length (cat cj g.p)),(3000,Blk.own (.slice aq (6+n) cq) 63 72 (6+n) (cat QC.A qs)),(9102,Blk.own (.slice (some ⟨g5,0,none⟩) 4 4) 9 1 4 (cat bF bO)),(9303,Blk.own vn 67 68 N.length (cat NeQ.A N)),(9304,Blk.own va 69 136 i (cat AcQ.A As))],2,⟨_,_,⟨0,kk,[],.slice none 0 0,by omega,by omega,by omega,by omega,rfl,.nil,nofun,rfl,rfl⟩,⟨rfl,rfl,rfl,rfl,rfl,trivial⟩,⟨rfl,rfl,rfl,.inl rfl,.inl rfl,.inl rfl,.inl rfl,.inl rfl,.inl rfl,.inr ⟨rfl,rfl,rfl⟩,trivial⟩,rfl⟩,?_⟩
 rintro q f m ⟨i,kq,As,va,rfl,hi,hq1,hq2,hAs,hva,hAm,rfl,rfl⟩
 obtain ⟨r7,k7,a7,b7,⟨i7,rfl,c7⟩,O7⟩:=bQ (n:=3) (by decide) zs kq (by omega)
 refine .inr (.inl ⟨_,_,_,O7 _ v 1000 rfl hv',⟨rfl,trivial⟩,rfl,fun h=>?_,fun h=>?_⟩)
 ·have h:i < 2:=by have:=af h;omega
  have h3:i < iF.length:=by show i < 3;omega
  obtain ⟨nm,hnm⟩:∃ s,s=iF[i]:=⟨_,rfl⟩
  have G0:=i0 (xs:=iF) (i:=i) h3
  rw [<- hnm] at G0
  obtain ⟨r8,k8,a8,b8,⟨a,rfl,c8⟩,O8⟩:=ET (nm:=nm) (by rw [hnm];exact List.getElem_mem h3) hD zs k7 (by omega)
  have G77:=(VQ.at ⟨cur,aV,day,known,g,qs,p,N,As⟩ (.slice ah g.h.length ch) (.slice ac g.c.length cc) (.slice ap g.p.length cp) (.slice aq (6+n) cq) (.slice (some ⟨g5,0,none⟩) m5 4) vn va).g77
  have S77:=fun x=>VQ.set77 ⟨cur,aV,day,known,g,qs,p,N,As⟩ (.slice ah g.h.length ch) (.slice ac g.c.length cc) (.slice ap g.p.length cp) (.slice aq (6+n) cq) (.slice (some ⟨g5,0,none⟩) m5 4) vn va x (As++[a])
  have F1:=Ek a
  have F2:=a.one
  have F3:=a.ext136
  have F4:a.A.size=1*136:=a.size
  have F5:cat AcQ.A As++a.A=cat AcQ.A (As++[a]):=fg As a
  obtain ⟨q,hq',hb'⟩:=Hp
  generalize hYA:a.A=YA at *
  refine ⟨_,G77,.inl ⟨by decide,by decide,kN iF,by kernel_rfl,rfl,by omega,by omega,_,G0,.inr (.inl ⟨_,_,_,O8 _ v 1000 rfl hv',⟨rfl,trivial⟩,rfl,?_⟩)⟩⟩
  refine .inl ⟨by decide,by decide,_,F1,F4,by decide,9304,i,_,.inl rfl,by decide,F2,F4,_,F3,by omega,by unfold maxLen;omega,⟨q,hq',by rw [hb'];omega⟩,by change _=true;kernel_rfl,fun g2 cap2=>?_⟩
  refine ⟨by decide,rfl,_,S77 _,by kernel_rfl,2 - (i+1),_,_,by omega,⟨i+1,k8,As++[a],_,rfl,by omega,by omega,by omega,by simp [hAs],.some,fun y hy=>?_,rfl,rfl⟩,⟨rfl,rfl,rfl,rfl,ar (ax (by omega)),trivial⟩,⟨rfl,rfl,rfl,.inl rfl,.inl rfl,.inl rfl,.inl rfl,.inl rfl,.inl rfl,.inl (bC F5),trivial⟩,rfl⟩
  rcases List.mem_append.1 hy with hy | hy
  ·exact hAm y hy
  ·rw [List.mem_singleton.1 hy];exact c8
 ·have FF:=VQ.fitsL (v:=⟨cur,aV,day,known,g,qs,p,N,As⟩) hxh hxc hxp hq (vs:=.slice (some ⟨g5,0,none⟩) m5 4) (.inr ⟨g5,4,rfl⟩) hvn hva
  subst hAs
  refine ⟨FF,(1000,Blk.row 53 2 (tb v k7)) :: J7 (.slice ah g.h.length ch) (.slice ac g.c.length cc) (.slice ap g.p.length cp) (.slice aq (6+n) cq) (.slice (some ⟨g5,0,none⟩) 4 4) vn va g.h.length g.c.length g.p.length qs.length N.length As.length g.h g.c g.p qs N As,[],?_,⟨rfl,.inl rfl,.inl rfl,.inl rfl,.inl (by rw [hql];rfl),.inl rfl,.inl rfl,.inl rfl,trivial⟩,rfl⟩
  refine ⟨⟨cur,aV,day,known,g,qs,p,N,As⟩,k7,_,_,_,.slice aq (6+n) cq,vn,va,g5,m5,by omega,by omega,⟨c1,rfl,rfl,q6,hM,⟨last,l6,l60,hb⟩,⟨?_,?_⟩,⟨hpin,hpo⟩,⟨m5,m1,m4,hps⟩,⟨hN1,hN⟩,⟨hi,hAm⟩⟩,hxh,hxc,hxp,by rw [hql];exact hq,hvn,hva,m1,m4,hps,rfl,rfl⟩
  ·show 6<=qs.length
   omega
  ·show qs.length<=14
   omega
theorem oH {E:Env} (hE:E.P=Tryz.prog) {s:ShQ} {vl:Value} {n:Nat} (hn:n=s.lines.length) (hin:∀ y∈s.lines,y.In) (hcur:s.cur.length<=9223372036854775807):OwnC E 31 [SV.c (.agg (s.A vl))] [(9820,Blk.own vl 77 137 n (cat LnQ.A s.lines))] (fun r U=>r=.bool true/\U=[(9820,Blk.own vl 77 137 n (cat LnQ.A s.lines))]):=by
 subst hn
 refine (Gr (f:=31) (sv:=[SV.c (.agg (s.A vl))]) (Q:=fun r U=>r=.bool true/\U=[]) [⟨9820,vl,77,137,s.lines.length,cat LnQ.A s.lines⟩] rfl ?_ ?_ (by rw [hE];exact P8.enters) fun E0 h0 ho hl=>vv (h0.trans hE) (hl ⟨9820,vl,77,137,s.lines.length,cat LnQ.A s.lines⟩ (List.mem_singleton.2 rfl)) hin hcur).mono ?_
 ·intro b hb
  obtain rfl:=List.mem_singleton.1 hb
  exact Go.SX.cat_all LnQ.one _
 ·rintro x U ⟨_,rfl⟩ b hb
  rfl
 ·rintro x U ⟨U0,⟨h1,rfl⟩,rfl⟩
  exact ⟨h1,rfl⟩
theorem LnQ.s0 (a:LnQ) (n:Int):a.A.setIfInBounds 0 (.int .i64 n)=({ a with kind:=n }:LnQ).A:=by
 rw [LnQ.lay4,LnQ.lay4,Array.setIfInBounds_append_left (by simp)]
 rfl
theorem LnQ.s3 (a:LnQ) (n:Int):a.A.setIfInBounds 3 (.int .i64 n)=({ a with qty:=n }:LnQ).A:=by
 rw [LnQ.lay4,LnQ.lay4,Array.setIfInBounds_append_left (by simp)]
 rfl
theorem LnQ.s136 (a:LnQ) (n:Int):a.A.setIfInBounds 136 (.int .i64 n)=({ a with amt:=n }:LnQ).A:=LnQ.setamt a n
theorem sV {v:VQ} (h:(aZ v).2=0) : -1000000000000000<=(aZ v).1.total/\(aZ v).1.total<=1000000000000000/\∀ y∈(aZ v).1.lines,-1000000000000000<=y.amt/\y.amt<=1000000000000000:=by
 have hv:=w5 h
 unfold eH at hv
 split at hv
 ·rename_i hc
  simp only [Bool.and_eq_true] at hc
  obtain ⟨-,h1,-,h3⟩:=hc
  unfold inB at h3
  simp only [Bool.and_eq_true,decide_eq_true_eq] at h3
  refine ⟨h3.1,h3.2,fun y hy=>?_⟩
  have h2:=List.all_eq_true.1 h1 y hy
  unfold iM at h2
  simp only [Bool.and_eq_true,decide_eq_true_eq] at h2
  have h4:=h2.1
  have:=lP y.qty y.price y.rate
  rw [h4] at this
  exact this
 ·cases hv
end Go.Proofs.YtklehfchdoikeaaGreatDoor
