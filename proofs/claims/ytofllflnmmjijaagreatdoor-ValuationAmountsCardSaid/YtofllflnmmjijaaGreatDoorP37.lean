/- sheets alike. the example of the chapter: its lists and values. the example of the chapter: the walk. the example of the chapter. the laws of ValuationVerifies and ValuationAmounts. the law of ValuationExact, given the range of its lines. the lines of a value are in range; no condition. -/
import Derived.Test.YtofllflnmmjijaaGreatDoorP36
import Derived.Test.YtofllflnmmjijaaGreatDoorP32
set_option maxRecDepth 100000
set_option maxHeartbeats 4000000
namespace Go.Proofs.YtofllflnmmjijaaGreatDoor
open Go Go.RowKit Go.SX
def LnQ.beq (a b:LnQ):Bool:=(a.kind == b.kind) && (decide (a.nm=b.nm) && ((a.day == b.day) && ((a.qty == b.qty) && (a.price.beq b.price && (a.rate.beq b.rate && ((a.amt == b.amt) && true))))))
theorem LnQ.beq_self (a:LnQ):a.beq a=true:=by simp [LnQ.beq,RQ.beq_self]
def v_usd:Bs:=[85,83,68]
def v_eur:Bs:=[69,85,82]
def v_eu:Bs:=[69,85,82,85,83,68]
def vL:List QC:=[⟨[97],[65,67,77,69],v_usd,9,(mkQ 405 4).1,1,false⟩,⟨[97],v_eu,v_usd,9,(mkQ 5 4).1,2,false⟩]
def vPol:PL:=⟨[[97]],(mkQ 0 1).1,0⟩
def kV (c:Bs):VQ:=⟨c,v_usd,9,9,⟨[([65,67,77,69],10)],[((v_usd,0),500)],[]⟩,vL,vPol,[],[]⟩
theorem kV1:(valQ (kV v_usd)).2=0:=by kernel_rfl
theorem kV2:(valQ (kV v_usd)).1.total=101750:=by kernel_rfl
theorem kV3:(valQ (kV v_usd)).1.lines.length=2:=by kernel_rfl
theorem kV4:(valQ (kV v_eur)).2=0:=by kernel_rfl
theorem kV5:(valQ (kV v_eur)).1.total=81400:=by kernel_rfl
theorem kV6:verQ (valQ (kV v_usd)).1=0:=by kernel_rfl
theorem kV7:verQ shZero=200:=by kernel_rfl
theorem value_p {E:Env} (hE:E.P=Tryz.prog) {v:VQ} {vh vc vp vq vs vn va:Value} {A:Array Value} (hA:VA v vh vc vp vq vs vn va A) (l:List OB) (hd:Go.SX.distinct (l.map OB.k)=true) (h9:(l.map OB.k).contains 9800=false) (h1:∀ b∈l,b.A.all (·.oneCell')=true)
    (h:∀ E0:Env,E0.P=Tryz.prog→(∀ w,OldW E0 w→OldW E w)→(∀ b∈l,Lst E0 b.v b.sz b.n b.A)→VIn E0 v vh vc vp vq vs vn va):OwnC E 6 [SV.c (.agg A)] (l.map OB.m) (fun x U=>∃ U0,ShQx (valQ v) x U0∧U=l.map OB.m++U0) :=
 peel l hd h1 (fun x U hq b hb=>by
  obtain ⟨y,_,_,rfl⟩:=hq
  have hk:b.k≠9800:=fun e=>by
   have:=List.mem_map_of_mem (f:=OB.k) hb
   rw [e] at this
   simp only [List.contains_eq_mem,decide_eq_false_iff_not] at h9
   exact h9 this
  simp only [getM]
  rw [if_neg (fun e=>hk e.symm)]) (by rw [hE];exact at6.enters) fun E0 h0 ho hl=>value_v (h0.trans hE) hA (h E0 (h0.trans hE) ho hl)
theorem verify_p {E:Env} (hE:E.P=Tryz.prog) {s:ShQ} {vl:Value} {n:Nat} (hn:n=s.lines.length) (hin:∀ y∈s.lines,y.In) (hcur:s.cur.length≤9223372036854775807):OwnC E 14 [SV.c (.agg (s.A vl))] [(9820,Blk.own vl 60 137 n (cat LnQ.A s.lines))] (fun r U=>r=.int .i64 (verQ s)∧U=[(9820,Blk.own vl 60 137 n (cat LnQ.A s.lines))]):=by
 subst hn
 refine (peel (f:=14) (sv:=[SV.c (.agg (s.A vl))]) (Q:=fun r U=>r=.int .i64 (verQ s)∧U=[]) [⟨9820,vl,60,137,s.lines.length,cat LnQ.A s.lines⟩] rfl ?_ ?_ (by rw [hE];exact at14.enters) fun E0 h0 ho hl=>verify_v (h0.trans hE) (hl ⟨9820,vl,60,137,s.lines.length,cat LnQ.A s.lines⟩ (List.mem_singleton.2 rfl)) hin hcur).mono ?_
 ·intro b hb
  obtain rfl:=List.mem_singleton.1 hb
  exact Go.SX.cat_all LnQ.one _
 ·rintro x U ⟨_,rfl⟩ b hb
  rfl
 ·rintro x U ⟨U0,⟨h1,rfl⟩,rfl⟩
  exact ⟨h1,rfl⟩
theorem fill_v1 (a:Option Addr) (m c:Nat) (r:RQ) (l:List (List UInt8)) {pl:List (Nat×Nat)} (hpl:pl=[(0,1),(1,66),(67,1)]):Instr.fill (fun k=>pl[k]?) ti35.zero [(0,.slice a m c),(1,.agg r.A)]=some (PL.A ⟨l,r,0⟩ (.slice a m c)):=by
 subst hpl
 kernel_rfl
def vA0 (c:Bs) (vh vc vq:Value) (p:PL) (vs:Value):Array Value:=VQ.A ⟨c,v_usd,9,9,⟨[],[],[]⟩,[],p,[],[]⟩ vh vc (.slice none 0 0) vq vs (.slice none 0 0) (.slice none 0 0)
theorem fill_v2 (a:Option Addr) (m c:Nat) (p:PL) {pl:List (Nat×Nat)} (hpl:pl=[(0,1),(1,1),(2,1),(3,1),(4,3),(7,1),(8,68),(76,1),(77,1)]):Instr.fill (fun k=>pl[k]?) ti39.zero [(0,.string (S [85,83,68])),(1,.string (S [85,83,68])),(2,.int .i64 9),(3,.int .i64 9),(6,.agg (p.A (.slice a m c)))]=some (vA0 v_usd (.slice none 0 0) (.slice none 0 0) (.slice none 0 0) p (.slice a m c)):=by
 subst hpl
 kernel_rfl
theorem fill_v3 (src ins:List UInt8) (day known:Int) (r:RQ) {pl:List (Nat×Nat)} (hpl:pl=[(0,1),(1,1),(2,1),(3,1),(4,66),(70,1),(71,1)]):Instr.fill (fun k=>pl[k]?) ti80.zero [(0,.string (S src)),(1,.string (S ins)),(2,.string (S [85,83,68])),(3,.int .i64 day),(4,.agg r.A),(5,.int .i64 known)]=some (QC.A ⟨src,ins,[85,83,68],day,r,known,false⟩):=by
 subst hpl
 kernel_rfl
theorem fill_v4 (a b:QC):Instr.fill (fun k=>some (k*ti80.size,ti80.size)) (madeCells ti80.zero (2*ti80.size)) [(0,.agg a.A),(1,.agg b.A)]=some (cat QC.A [a,b]):=by kernel_rfl
theorem fill_v5:Instr.fill (fun k=>some (k*ti9.size,ti9.size)) (madeCells ti9.zero (1*ti9.size)) [(0,.string (S [97]))]=some (cat strA vPol.srcs):=by kernel_rfl
theorem fill_v6 {pl:List (Nat×Nat)} (hpl:pl=[(0,1),(1,1)]):Instr.fill (fun k=>pl[k]?) ti76.zero [(0,.string (S [65,67,77,69])),(1,.int .i64 10)]=some (sumA ([65,67,77,69],10)):=by
 subst hpl
 kernel_rfl
theorem fill_v7:Instr.fill (fun k=>some (k*ti76.size,ti76.size)) (madeCells ti76.zero (1*ti76.size)) [(0,.agg (sumA ([65,67,77,69],10)))]=some (cat sumA (kV v_usd).g.h):=by kernel_rfl
theorem fill_v8 {pl:List (Nat×Nat)} (hpl:pl=[(0,1),(1,1),(2,1)]):Instr.fill (fun k=>pl[k]?) ti78.zero [(0,.string (S [85,83,68])),(2,.int .i64 500)]=some (sumK (([85,83,68],0),500)):=by
 subst hpl
 kernel_rfl
theorem fill_v9:Instr.fill (fun k=>some (k*ti78.size,ti78.size)) (madeCells ti78.zero (1*ti78.size)) [(0,.agg (sumK (([85,83,68],0),500)))]=some (cat sumK (kV v_usd).g.c):=by kernel_rfl
theorem fill_v10 (a b:Option Addr) (n m c d:Nat) {pl:List (Nat×Nat)} (hpl:pl=[(0,1),(1,1),(2,1)]):Instr.fill (fun k=>pl[k]?) ti25.zero [(0,.slice a n c),(1,.slice b m d)]=some #[.slice a n c,.slice b m d,.slice none 0 0]:=by
 subst hpl
 kernel_rfl
theorem vA_pf (p:PL) (vs vh vc:Value):splice (vA0 v_usd (.slice none 0 0) (.slice none 0 0) (.slice none 0 0) p vs) (0+4) #[vh,vc,.slice none 0 0].toList=vA0 v_usd vh vc (.slice none 0 0) p vs:=by kernel_rfl
theorem vA_q (p:PL) (vs vh vc vq:Value):(vA0 v_usd vh vc (.slice none 0 0) p vs).setIfInBounds (0+7) vq=vA0 v_usd vh vc vq p vs:=by kernel_rfl
theorem vA_cur (p:PL) (vs vh vc vq:Value):(vA0 v_usd vh vc vq p vs).setIfInBounds (0+0) (.string (S [69,85,82]))=vA0 v_eur vh vc vq p vs:=by kernel_rfl
theorem vA_fits (c:Bs) (p:PL) (a1 a2 a3 a4:Option Addr) (n1 n2 n3 n4 c1 c2 c3 c4:Nat):Fits (vA0 c (.slice a1 n1 c1) (.slice a2 n2 c2) (.slice a3 n3 c3) p (.slice a4 n4 c4)) 78:=by
 have hp:=p.fits (v:=.slice a4 n4 c4) rfl
 refine ⟨by simp [vA0,VQ.A,p.size],?_⟩
 have:=hp.one
 simp only [vA0,VQ.A,Array.all_append,Bool.and_eq_true]
 exact ⟨by simp [Value.oneCell'],this,by simp [Value.oneCell']⟩
theorem vL_in:∀ y∈vL,y.In:=by
 intro y hy
 simp only [vL,List.mem_cons,List.not_mem_nil,or_false] at hy
 rcases hy with rfl | rfl
 ·exact ⟨mkQ_in _ _,by show (1:Nat)≤_;decide,by show (4:Nat)≤_;decide,by show (3:Nat)≤_;decide,by show (-9223372036854775808:Int)≤9∧(9:Int)≤9223372036854775807;decide⟩
 ·exact ⟨mkQ_in _ _,by show (1:Nat)≤_;decide,by show (6:Nat)≤_;decide,by show (3:Nat)≤_;decide,by show (-9223372036854775808:Int)≤9∧(9:Int)≤9223372036854775807;decide⟩
theorem vPol_in:vPol.In:=⟨mkQ_in _ _,by decide,by decide⟩
theorem kV_L {E:Env} (hE:E.P=Tryz.prog) {c:Bs} (hc:c.length≤9223372036854775807) {vh vc vq vs:Value} {A:Array Value} (hA:vA0 c vh vc vq vPol vs=A):OwnC E 6 [SV.c (.agg A)] [(9911,Blk.own vh 76 2 1 (cat sumA (kV v_usd).g.h)),(9912,Blk.own vc 78 3 1 (cat sumK (kV v_usd).g.c)),(9913,Blk.own vq 80 72 2 (cat QC.A vL)),(9914,Blk.own vs 9 1 1 (cat strA vPol.srcs))]
    (fun x U=>∃ U0,ShQx (valQ (kV c)) x U0∧U=[(9911,Blk.own vh 76 2 1 (cat sumA (kV v_usd).g.h)),(9912,Blk.own vc 78 3 1 (cat sumK (kV v_usd).g.c)),(9913,Blk.own vq 80 72 2 (cat QC.A vL)),(9914,Blk.own vs 9 1 1 (cat strA vPol.srcs))]++U0):=by
 refine value_p hE (v:=kV c) (vh:=vh) (vc:=vc) (vp:=.slice none 0 0) (vq:=vq) (vs:=vs) (vn:=.slice none 0 0) (va:=.slice none 0 0) (by rw [← hA];exact VQ.at (kV c) _ _ _ _ _ _ _) [⟨9911,vh,76,2,1,cat sumA (kV v_usd).g.h⟩,⟨9912,vc,78,3,1,cat sumK (kV v_usd).g.c⟩,⟨9913,vq,80,72,2,cat QC.A vL⟩,⟨9914,vs,9,1,1,cat strA vPol.srcs⟩] rfl rfl ?_ ?_
 ·intro b hb
  simp only [List.mem_cons,List.not_mem_nil,or_false] at hb
  rcases hb with rfl | rfl | rfl | rfl
  ·exact Go.SX.cat_all sumA_one _
  ·exact Go.SX.cat_all sumK_one _
  ·exact Go.SX.cat_all QC.all1 _
  ·exact Go.SX.cat_all strA_one _
 ·intro E0 h0 ho hl
  have l1:=hl ⟨9911,vh,76,2,1,cat sumA (kV v_usd).g.h⟩ (by simp)
  have l2:=hl ⟨9912,vc,78,3,1,cat sumK (kV v_usd).g.c⟩ (by simp)
  have l3:=hl ⟨9913,vq,80,72,2,cat QC.A vL⟩ (by simp)
  have l4:=hl ⟨9914,vs,9,1,1,cat strA vPol.srcs⟩ (by simp)
  exact ⟨⟨l1,l2,Lst.nil _ _,⟨by show 1≤_;decide,by show 1≤_;decide,by show 0≤_;decide⟩,by show ∀ x∈[(([65,67,77,69]:Bs),(10:Int))],_;simp,by show ∀ x∈[((v_usd,(0:Int)),(500:Int))],_;simp [v_usd],nofun⟩,⟨l3,by show 2≤_;decide,vL_in,l4,by show 1≤_;decide,vPol_in⟩,Lst.nil _ _,by show 0≤_;decide,nofun,Lst.nil _ _,by show 0≤_;decide,nofun,hc,by show 3≤_;decide⟩
theorem sh_fits (s:ShQ) (a:Option Addr) (n c:Nat):Fits (s.A (.slice a n c)) 5:=⟨rfl,by simp [ShQ.A,Value.oneCell']⟩
theorem kV8:(valQ (kV v_usd)).1.cur=v_usd:=by kernel_rfl
theorem known_v0 {E:Env} (hE:E.P=Tryz.prog) (k7:∀ y∈(valQ (kV v_usd)).1.lines,y.In):OwnC E 8 [] [] (fun x U=>x=.bool true∧U=[]):=by
 refine sx_ownC [] tt_ok mixed at8 E hE [] [] _ rfl rfl fun w X β hT=>?_
 have hE':(envC Tryz.prog tt Tryz.f8.ntmps w X (tiedK [] β)).toEnv.P=Tryz.prog:=rfl
 have O1:=made_of (n:=0) (d:=1) (by decide) (by decide) (by decide) (by decide)
 have O2:=made_of (n:=405) (d:=4) (by decide) (by decide) (by decide) (by decide)
 have O3:=made_of (n:=5) (d:=4) (by decide) (by decide) (by decide) (by decide)
 have P1:=fun (g:Nat)=>fill_v1 (some ⟨g,0,none⟩) 1 1 (mkQ 0 1).1 vPol.srcs (pl:=[(0,1),(1,66),(67,1)]) rfl
 rw [show (⟨vPol.srcs,(mkQ 0 1).1,0⟩:PL)=vPol from rfl] at P1
 have P2:=fun (g:Nat)=>fill_v2 (some ⟨g,0,none⟩) 1 1 vPol (pl:=[(0,1),(1,1),(2,1),(3,1),(4,3),(7,1),(8,68),(76,1),(77,1)]) rfl
 refine .inr ⟨by decide,by decide,by decide,_,fill_v5,rfl,trivial,fun g=>?_⟩
 refine .inl ⟨_,O1,?_⟩
 have P1:=P1 g
 have P2:=P2 g
 have PF1:=vA_fits v_usd vPol none none none (some ⟨g,0,none⟩) 0 0 0 1 0 0 0 1
 have S1:=fun (vh vc:Value)=>vA_pf vPol (.slice (some ⟨g,0,none⟩) 1 1) vh vc
 generalize hPA:vPol.A (.slice (some ⟨g,0,none⟩) 1 1)=PA at P1 P2
 generalize hV0:vA0 v_usd (.slice none 0 0) (.slice none 0 0) (.slice none 0 0) vPol (.slice (some ⟨g,0,none⟩) 1 1)=V0 at P2 PF1 S1
 refine ⟨_,P1,_,P2,PF1,_,fill_v6 rfl,?_⟩
 refine .inr ⟨by decide,by decide,by decide,_,fill_v7,rfl,trivial,fun gh=>?_⟩
 refine ⟨_,fill_v8 rfl,?_⟩
 refine .inr ⟨by decide,by decide,by decide,_,fill_v9,rfl,trivial,fun gc=>?_⟩
 have P3:=fill_v10 (some ⟨gh,0,none⟩) (some ⟨gc,0,none⟩) 1 1 1 1 (pl:=[(0,1),(1,1),(2,1)]) rfl
 have S1:=S1 (.slice (some ⟨gh,0,none⟩) 1 1) (.slice (some ⟨gc,0,none⟩) 1 1)
 have S2:=fun (vq:Value)=>vA_q vPol (.slice (some ⟨g,0,none⟩) 1 1) (.slice (some ⟨gh,0,none⟩) 1 1) (.slice (some ⟨gc,0,none⟩) 1 1) vq
 generalize hV1:vA0 v_usd (.slice (some ⟨gh,0,none⟩) 1 1) (.slice (some ⟨gc,0,none⟩) 1 1) (.slice none 0 0) vPol (.slice (some ⟨g,0,none⟩) 1 1)=V1 at S1 S2
 refine ⟨_,P3,by decide,fits3 rfl rfl rfl,V1,S1,?_⟩
 have Q1:=fill_v3 [97] [65,67,77,69] 9 1 (mkQ 405 4).1 (pl:=[(0,1),(1,1),(2,1),(3,1),(4,66),(70,1),(71,1)]) rfl
 have Q2:=fill_v3 [97] [69,85,82,85,83,68] 9 2 (mkQ 5 4).1 (pl:=[(0,1),(1,1),(2,1),(3,1),(4,66),(70,1),(71,1)]) rfl
 have QL:=fill_v4 ⟨[97],[65,67,77,69],[85,83,68],9,(mkQ 405 4).1,1,false⟩ ⟨[97],[69,85,82,85,83,68],[85,83,68],9,(mkQ 5 4).1,2,false⟩
 have QS:(cat QC.A vL).size=2*72:=by rw [Go.SX.cat_size QC.size];rfl
 refine .inl ⟨_,O2,_,Q1,.inl ⟨_,O3,_,Q2,.inr ⟨by decide,by decide,by decide,cat QC.A vL,QL,QS,trivial,fun gq=>?_⟩⟩⟩
 have S3:=vA_cur vPol (.slice (some ⟨g,0,none⟩) 1 1) (.slice (some ⟨gh,0,none⟩) 1 1) (.slice (some ⟨gc,0,none⟩) 1 1) (.slice (some ⟨gq,0,none⟩) 2 2)
 have S2:=S2 (.slice (some ⟨gq,0,none⟩) 2 2)
 have L1:=fun A hA=>kV_L (A:=A) hE' (c:=v_usd) (by decide) (vh:=.slice (some ⟨gh,0,none⟩) 1 1) (vc:=.slice (some ⟨gc,0,none⟩) 1 1) (vq:=.slice (some ⟨gq,0,none⟩) 2 2) (vs:=.slice (some ⟨g,0,none⟩) 1 1) hA
 have L2:=fun A hA=>kV_L (A:=A) hE' (c:=v_eur) (by decide) (vh:=.slice (some ⟨gh,0,none⟩) 1 1) (vc:=.slice (some ⟨gc,0,none⟩) 1 1) (vq:=.slice (some ⟨gq,0,none⟩) 2 2) (vs:=.slice (some ⟨g,0,none⟩) 1 1) hA
 have PF2:=vA_fits v_usd vPol (some ⟨gh,0,none⟩) (some ⟨gc,0,none⟩) (some ⟨gq,0,none⟩) (some ⟨g,0,none⟩) 1 1 2 1 1 1 2 1
 have PF3:=vA_fits v_eur vPol (some ⟨gh,0,none⟩) (some ⟨gc,0,none⟩) (some ⟨gq,0,none⟩) (some ⟨g,0,none⟩) 1 1 2 1 1 1 2 1
 generalize hV2:vA0 v_usd (.slice (some ⟨gh,0,none⟩) 1 1) (.slice (some ⟨gc,0,none⟩) 1 1) (.slice (some ⟨gq,0,none⟩) 2 2) vPol (.slice (some ⟨g,0,none⟩) 1 1)=V2 at S2 S3 L1 PF2
 generalize hV3:vA0 v_eur (.slice (some ⟨gh,0,none⟩) 1 1) (.slice (some ⟨gc,0,none⟩) 1 1) (.slice (some ⟨gq,0,none⟩) 2 2) vPol (.slice (some ⟨g,0,none⟩) 1 1)=V3 at S3 L2 PF3
 have L1:=L1 V2 rfl
 have L2:=L2 V3 rfl
 have k1:=kV1
 have k2:=kV2
 have k3:=kV3
 have k4:=kV4
 have k5:=kV5
 have k6:=kV6
 have k8:=kV8
 generalize valQ (kV v_usd)=R1 at *
 generalize valQ (kV v_eur)=R2 at *
 obtain ⟨⟨c1,d1,n1,ls1,tot1⟩,e1⟩:=R1
 obtain ⟨⟨c2,d2,n2,ls2,tot2⟩,e2⟩:=R2
 have k1:e1=0:=k1
 have k2:tot1=101750:=k2
 have k3:ls1.length=2:=k3
 have k4:e2=0:=k4
 have k6:verQ ⟨c1,d1,n1,ls1,tot1⟩=0:=k6
 have k8:c1=v_usd:=k8
 have k7:∀ y∈ls1,y.In:=k7
 have k5:tot2=81400:=k5
 subst k1 k2 k4 k5
 refine ⟨by decide,rfl,V2,S2,?_⟩
 refine .inr (.inr (.inr ⟨[(9911,11),(9912,13),(9913,20),(9914,6)],[9800],[_],[_,_,_,_],_,L1,rfl,⟨.inl rfl,.inl rfl,.inl rfl,.inl rfl,trivial⟩,rfl,trivial,?_⟩))
 rintro r U ⟨U0,⟨xl,q1,rfl,rfl⟩,rfl⟩
 obtain ⟨xa,xc,rfl⟩:=(show IsL xl ls1.length from q1).len
 refine ⟨rfl,sh_fits _ _ _ _,by decide,rfl,V3,S3,?_⟩
 refine .inr (.inr (.inr ⟨[(9911,11),(9912,13),(9913,20),(9914,6),(9800,9801)],[9801],[_],[_,_,_,_],_,L2,rfl,⟨.inl rfl,.inl rfl,.inl rfl,.inl rfl,trivial⟩,rfl,trivial,?_⟩))
 rintro r U ⟨U0,⟨yl,q2,rfl,rfl⟩,rfl⟩
 obtain ⟨ya,yc,rfl⟩:=(show IsL yl ls2.length from q2).len
 refine ⟨rfl,sh_fits _ _ _ _,?_⟩
 have tf:∀ {p:Prop},true=false→p:=fun h=>by cases h
 have VF:=fun (E0:Env) (h0:E0.P=Tryz.prog)=>verify_p (E:=E0) h0 (s:=⟨c1,d1,n1,ls1,101750⟩) (vl:=.slice xa ls1.length xc) (n:=ls1.length) rfl k7 (by rw [k8];decide)
 have VZ:=fun (E0:Env) (h0:E0.P=Tryz.prog)=>verify_v (E:=E0) h0 (s:=shZero) (vl:=.slice none 0 0) (Lst.nil _ _) nofun (by decide)
 rw [k6] at VF
 rw [kV7] at VZ
 refine ⟨fun _=>?_,fun h=>tf h⟩
 refine ⟨_,rfl,fun _=>?_,fun h=>tf h⟩
 refine ⟨_,rfl,_,fun w' _=>run_len_sl Tryz.underlying40 w',fun _=>?_,fun h=>absurd (of_decide_eq_false (show decide (((ls1.length:Nat):Int)=2)=false from h)) (by omega)⟩
 refine ⟨fun _=>?_,fun h=>tf h⟩
 refine ⟨_,rfl,fun _=>?_,fun h=>tf h⟩
 refine .inr (.inr (.inl ⟨[(9820,9800)],[_],[_],_,[_],VF _ hE',rfl,⟨.inl rfl,trivial⟩,rfl,rfl,?_⟩))
 refine ⟨fun _=>?_,fun h=>tf h⟩
 refine ⟨_,rfl,.inr (.inr (.inl ⟨[],[_],[],_,[],VZ _ hE',rfl,trivial,rfl,rfl,?_⟩))⟩
 exact ⟨[],[],⟨rfl,rfl⟩,trivial,rfl⟩
theorem kV9:(valQ (kV v_usd)).1.lines=[⟨1,[65,67,77,69],9,10,(mkQ 405 4).1,(mkQ 1 1).1,101250⟩,⟨2,v_usd,9,500,(mkQ 1 100).1,(mkQ 1 1).1,500⟩]:=by kernel_rfl
theorem kV7b:∀ y∈(valQ (kV v_usd)).1.lines,y.In:=by
 rw [kV9]
 intro y hy
 simp only [List.mem_cons,List.not_mem_nil,or_false] at hy
 rcases hy with rfl | rfl
 ·exact ⟨by show (4:Nat)≤_;decide,by show (-9223372036854775808:Int)≤1∧(1:Int)≤9223372036854775807;decide,by show (-9223372036854775808:Int)≤9∧(9:Int)≤9223372036854775807;decide,by show (-9223372036854775808:Int)≤10∧(10:Int)≤9223372036854775807;decide,by show (-9223372036854775808:Int)≤101250∧(101250:Int)≤9223372036854775807;decide,mkQ_in _ _,mkQ_in _ _⟩
 ·exact ⟨by show (3:Nat)≤_;decide,by show (-9223372036854775808:Int)≤2∧(2:Int)≤9223372036854775807;decide,by show (-9223372036854775808:Int)≤9∧(9:Int)≤9223372036854775807;decide,by show (-9223372036854775808:Int)≤500∧(500:Int)≤9223372036854775807;decide,by show (-9223372036854775808:Int)≤500∧(500:Int)≤9223372036854775807;decide,mkQ_in _ _,mkQ_in _ _⟩
theorem known_v:Pure Tryz.prog 8 [] (.bool true):=pure_of (vs:=[]) at8.enters fun _w=>known_v0 rfl kV7b
theorem verifies_law {E:Env} (hE:E.P=Tryz.prog) {s:ShQ} {vl:Value} (hv:Lst E vl 137 s.lines.length (cat LnQ.A s.lines)) (hin:∀ y∈s.lines,y.In) (hcur:s.cur.length≤9223372036854775807):OwnC E 5 [SV.c (.agg (s.A vl))] [] (fun r U=>r=.bool true∧U=[]):=by
 refine sx_ownC [] tt_ok mixed at5 E hE [SV.c (.agg (s.A vl))] [] _ rfl rfl fun w X β hT=>?_
 have hE':(envC Tryz.prog tt Tryz.f5.ntmps w X (tiedK [] β)).toEnv.P=Tryz.prog:=rfl
 have V1:=verify_v hE' (hv.of_old hT) hin hcur
 have V2:=verify_r hE' (hv.of_old hT) hin
 generalize verQ s=VQ at *
 refine ⟨rfl,.inl ⟨_,known_v,fun _=>?_,fun h=>by cases h⟩⟩
 refine .inr (.inr (.inl ⟨[],[_],[],_,[],V1,rfl,trivial,rfl,rfl,?_⟩))
 refine .inr (.inr (.inl ⟨[],[_],[],_,[],V2,rfl,trivial,rfl,rfl,?_⟩))
 exact ⟨by kernel_rfl,[],[],⟨by simp [mkRes],rfl⟩,trivial,rfl⟩
theorem amounts_law {n:Int} {p r:RQ} (hn : -9223372036854775808≤n∧n≤9223372036854775807) (hp:p.In) (hr:r.In):Pure Tryz.prog 4 [SV.c (.int .i64 n),SV.c (.agg p.A),SV.c (.agg r.A)] (.bool true):=by
 have A1:=amount_v hn hp hr
 have A2:=amount_r hn hp hr
 obtain ⟨m,e,hm⟩:∃ m e,amtQ n p r=(m,e):=⟨_,_,rfl⟩
 rw [hm] at A1 A2
 have P1:=p.A_fits
 have R1:=r.A_fits
 generalize p.A=PA at *
 generalize r.A=RA at *
 refine sx_pure tt_ok mixed at4 _ _ rfl rfl fun w=>?_
 refine ⟨P1.1,R1.1,?_⟩
 refine .inl ⟨_,A1,.inl ⟨_,A2,.inl ⟨_,known_v,?_⟩⟩⟩
 refine ⟨fun _=>?_,fun h=>by cases h⟩
 refine ⟨fun _=>?_,fun h=>by simp at h⟩
 exact ⟨by simp [mkRes],trivial⟩
end Go.Proofs.YtofllflnmmjijaaGreatDoor
