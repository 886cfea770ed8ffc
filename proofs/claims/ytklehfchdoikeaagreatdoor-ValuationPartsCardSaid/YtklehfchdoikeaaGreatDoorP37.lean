/- valuations and sheets that came in. sheets alike. the exampl; no condition. -/
import Derived.Test.YtklehfchdoikeaaGreatDoorP34
import Derived.Test.YtklehfchdoikeaaGreatDoorP29
import Derived.Test.YtklehfchdoikeaaGreatDoorP36
set_option maxRecDepth 100000
set_option maxHeartbeats 4000000
namespace Go.Proofs.YtklehfchdoikeaaGreatDoor
open Go Go.RowKit Go.SX
open ChangeShapes WideShapes
instance:Inhabited Bs:=⟨[]⟩
instance:Inhabited NeQ:=⟨⟨[],[],aG⟩⟩
instance:Inhabited AcQ:=⟨⟨[],aG,0,aG,0,0⟩⟩
instance:Inhabited LnQ:=⟨⟨0,[],0,0,aG,aG,0⟩⟩
end Go.Proofs.YtklehfchdoikeaaGreatDoor
namespace Go.Proofs.YtklehfchdoikeaaGreatDoor
open Go Go.RowKit Go.SX
def LnQ.beq (a b:LnQ):Bool:=(a.kind == b.kind) && (decide (a.nm=b.nm) && ((a.day == b.day) && ((a.qty == b.qty) && (a.price.beq b.price && (a.rate.beq b.rate && ((a.amt == b.amt) && true))))))
theorem En {d:Nat} {a b:LnQ} (ha:a.In) (hb:b.In) (w:World):(Op.equalIn (d+1+1+1+1+1) 77 (.agg a.A) (.agg b.A)).run Tryz.prog w=.ok (a.beq b) w:=by
 rw [run_equalIn_struct w (d+1+1+1+1) 77 _ _ (by simp only [Program.fieldsOf,Tryz.underlying77]) (by kernel_rfl)]
 rw [show (Tryz.prog.fieldsOf 77).toList=[⟨ "Kind",3,0,false,"","",0⟩,⟨ "Name",9,1,false,"","",8⟩,⟨ "Day",3,2,false,"","",24⟩,⟨ "Quantity",3,3,false,"","",32⟩,⟨ "Price",33,4,false,"","",40⟩,⟨ "Rate",33,70,false,"","",304⟩,⟨ "Amount",3,136,false,"","",568⟩] from by simp only [Program.fieldsOf,Tryz.underlying77]]
 refine bT (by decide) (be mh rfl a.g0 w) (be mh rfl b.g0 w) (ie _ Tryz.underlying3 _ _ w) fun _=>?_
 refine bT (by decide) (be Jl rfl a.g1 w) (be Jl rfl b.g1 w) (H5 _ _ w) fun _=>?_
 refine bT (by decide) (be mh rfl a.g2 w) (be mh rfl b.g2 w) (ie _ Tryz.underlying3 _ _ w) fun _=>?_
 refine bT (by decide) (be mh rfl a.g3 w) (be mh rfl b.g3 w) (ie _ Tryz.underlying3 _ _ w) fun _=>?_
 refine bT (a:=.agg a.price.A) (b:=.agg b.price.A) (by decide) ?_ ?_ (ff ha.price hb.price w) fun _=>?_
 ·rw [bZ o8 rfl _ _ w];exact congrArg (fun x=>Result.ok (Value.agg x) w) a.gprice
 ·rw [bZ o8 rfl _ _ w];exact congrArg (fun x=>Result.ok (Value.agg x) w) b.gprice
 refine bT (a:=.agg a.rate.A) (b:=.agg b.rate.A) (by decide) ?_ ?_ (ff ha.rate hb.rate w) fun _=>?_
 ·rw [bZ o8 rfl _ _ w];exact congrArg (fun x=>Result.ok (Value.agg x) w) a.grate
 ·rw [bZ o8 rfl _ _ w];exact congrArg (fun x=>Result.ok (Value.agg x) w) b.grate
 exact bT (by decide) (be mh rfl a.g136 w) (be mh rfl b.g136 w) (ie _ Tryz.underlying3 _ _ w) fun _=>rO
theorem HF:Tryz.prog.eqGuardType Tryz.prog.depth 77=false:=by kernel_rfl
theorem LnQ.beq_self (a:LnQ):a.beq a=true:=by simp [LnQ.beq,RQ.beq_self]
theorem J1 {E:Env} (hE:E.P=Tryz.prog) {a:LnQ} (ha:a.In) {u v:Operand}:bH E (do eqGuard .neq 77 u v (.agg a.A) (.agg a.A);binOp .neq 77 (.agg a.A) (.agg a.A)) (.bool false):=by
 have:=xw (E:=E) (t:=77) (x:=u) (y:=v) (by rw [hE];exact HF) fun w=>by rw [hE];exact En ha ha w
 rwa [LnQ.beq_self] at this
theorem qK (j:Nat):aO 0 ((j:Nat):Int) fR.size=j*137:=by
 show aO 0 ((j:Nat):Int) 137=j*137
 simp [aO]
abbrev lnB (v:Value) (l:List LnQ):Blk:=Blk.own v 77 137 l.length (cat LnQ.A l)
theorem F9 {E:Env} (hE:E.P=Tryz.prog) {s:ShQ} {x y:Value} (hx:IsL x s.lines.length) (hy:IsL y s.lines.length) (hb:s.lines.length<=1000000000000) (hin:∀ l∈s.lines,l.In):OwnC E 16 [SV.c (.agg (s.A x)),SV.c (.agg (s.A y))] [(9800,lnB x s.lines),(9801,lnB y s.lines)] (fun r U=>r=.bool true/\U=[(9800,lnB x s.lines),(9801,lnB y s.lines)]):=by
 refine aD [] ai ak UY E hE [SV.c (.agg (s.A x)),SV.c (.agg (s.A y))] [(9800,lnB x s.lines),(9801,lnB y s.lines)] _ rfl rfl fun w X β hT=>?_
 have hE':(aY Tryz.prog tt Tryz.f16.ntmps w X (aJ [(9800,lnB x s.lines),(9801,lnB y s.lines)] β)).toEnv.P=Tryz.prog:=rfl
 obtain ⟨xa,xc,rfl⟩:=hx.len
 obtain ⟨ya,yc,rfl⟩:=hy.len
 have nt:∀ {p:Prop},false=true->p:=fun h=>by cases h
 refine ⟨rfl,rfl,_,rfl,_,rfl,fun _=>?_,fun h=>absurd h (by simp)⟩
 refine ⟨_,rfl,_,rfl,fun _=>?_,fun h=>absurd h (by simp)⟩
 refine ⟨_,rfl,_,rfl,fun _=>?_,fun h=>absurd h (by simp)⟩
 refine ⟨_,rfl,_,rfl,fun _=>?_,fun h=>absurd h (by simp)⟩
 refine ⟨_,rfl,_,fun w1 _=>ao Tryz.underlying40 w1,_,rfl,_,fun w1 _=>ao Tryz.underlying40 w1,?_⟩
 refine ⟨fun c=>absurd c (by simp),fun _=>?_⟩
 refine ⟨fun q f m=>∃ i:Nat,q=s.lines.length - i/\i<=s.lines.length/\f=[(2,SV.ptr 2 0),(3,SV.ptr 3 0),(5,SV.c (.int .i64 (i:Nat)))]/\m=[(3,Blk.row 42 5 (s.A (.slice ya s.lines.length yc))),(2,Blk.row 42 5 (s.A (.slice xa s.lines.length xc))),(9800,lnB (.slice xa s.lines.length xc) s.lines),(9801,lnB (.slice ya s.lines.length yc) s.lines)],s.lines.length,⟨_,_,⟨0,by omega,by omega,rfl,rfl⟩,⟨rfl,rfl,rfl,trivial⟩,⟨rfl,rfl,.inl rfl,.inl rfl,trivial⟩,rfl⟩,?_⟩
 rintro q f m ⟨i,rfl,hi,rfl,rfl⟩
 refine ⟨_,rfl,_,fun w' _=>ao Tryz.underlying40 w',fun h=>?_,fun h=>?_⟩
 ·have h:i < s.lines.length:=by have:=af h;omega
  rcases hx with ⟨hs1,hs2⟩ | ⟨g0,c0,hs1⟩
  ·omega
  cases hs1
  rcases hy with ⟨hs1,hs2⟩ | ⟨g1,c1,hs1⟩
  ·omega
  cases hs1
  obtain ⟨y,hy⟩:∃ y,s.lines[i]? = some y:=⟨_,List.getElem?_eq_getElem (by omega)⟩
  have L1:=cr LnQ.size hy
  have hsz:(cat LnQ.A s.lines).size=s.lines.length*137:=Go.SX.cat_size LnQ.size _
  have N1:=fun (u v:Operand)=>J1 hE' (hin y (List.mem_of_getElem? hy)) (u:=u) (v:=v)
  have F1:=y.fits
  generalize hYA:y.A=YA at L1 N1 F1
  refine ⟨_,rfl,by omega,by omega,.inr ⟨9800,g0,_,s.lines.length,_,_,_,_,rfl,rfl,(by rw [qK,hsz];show i*137+137<=s.lines.length*137;omega),YA,(by rw [qK];exact L1),?_⟩⟩
  refine ⟨_,rfl,by omega,by omega,.inr ⟨9801,g1,_,s.lines.length,_,_,_,_,rfl,rfl,(by rw [qK,hsz];show i*137+137<=s.lines.length*137;omega),YA,(by rw [qK];exact L1),?_⟩⟩
  refine ⟨_,N1 _ _,by kernel_rfl,nt,fun _=>?_⟩
  exact ⟨s.lines.length - (i+1),_,_,by omega,⟨i+1,rfl,by omega,rfl,rfl⟩,⟨rfl,rfl,ar (ax (by omega)),trivial⟩,⟨rfl,rfl,.inl rfl,.inl rfl,trivial⟩,rfl⟩
 ·have h:i=s.lines.length:=by have:=ag h;omega
  subst h
  exact ⟨[_,_],[],⟨rfl,rfl⟩,⟨.inl rfl,.inl rfl,trivial⟩,rfl⟩
def aV:Bs:=[85,83,68]
def sd:Bs:=[69,85,82]
def Tf:Bs:=[69,85,82,85,83,68]
def vL:List QC:=[⟨[97],[65,67,77,69],aV,9,(mkQ 405 4).1,1,false⟩,⟨[97],Tf,aV,9,(mkQ 5 4).1,2,false⟩]
def gE:PL:=⟨[[97]],(mkQ 0 1).1,0⟩
def kV (c:Bs):VQ:=⟨c,aV,9,9,⟨[([65,67,77,69],10)],[((aV,0),500)],[]⟩,vL,gE,[],[]⟩
theorem kV1:(aZ (kV aV)).2=0:=by kernel_rfl
theorem kV2:(aZ (kV aV)).1.total=101750:=by kernel_rfl
theorem kV3:(aZ (kV aV)).1.lines.length=2:=by kernel_rfl
theorem kV4:(aZ (kV sd)).2=0:=by kernel_rfl
theorem kV5:(aZ (kV sd)).1.total=81400:=by kernel_rfl
theorem kV6:eH (aZ (kV aV)).1=0:=by kernel_rfl
theorem kV7:eH dJ=200:=by kernel_rfl
theorem Jb {E:Env} (hE:E.P=Tryz.prog) {v:VQ} {vh vc vp vq vs vn va:Value} {A:Array Value} (hA:VA v vh vc vp vq vs vn va A) (l:List OB) (hd:Go.SX.distinct (l.map OB.k)=true) (h9:(l.map OB.k).contains 9800=false) (h1:∀ b∈l,b.A.all (·.oneCell')=true)
    (h:∀ E0:Env,E0.P=Tryz.prog->(∀ w,OldW E0 w->OldW E w)->(∀ b∈l,Lst E0 b.v b.sz b.n b.A)->VIn E0 v vh vc vp vq vs vn va):OwnC E 11 [SV.c (.agg A)] (l.map OB.m) (fun x U=>∃ U0,EX (aZ v) x U0/\U=l.map OB.m++U0) :=
 Gr l hd h1 (fun x U hq b hb=>by
  obtain ⟨y,_,_,rfl⟩:=hq
  have hk:b.k≠9800:=fun e=>by
   have:=List.mem_map_of_mem (f:=OB.k) hb
   rw [e] at this
   simp only [List.contains_eq_mem,decide_eq_false_iff_not] at h9
   exact h9 this
  simp only [aw]
  rw [if_neg (fun e=>hk e.symm)]) (by rw [hE];exact NR.enters) fun E0 h0 ho hl=>Bt (h0.trans hE) hA (h E0 (h0.trans hE) ho hl)
theorem kd {E:Env} (hE:E.P=Tryz.prog) {s:ShQ} {vl:Value} {n:Nat} (hn:n=s.lines.length) (hin:∀ y∈s.lines,y.In) (hcur:s.cur.length<=9223372036854775807):OwnC E 30 [SV.c (.agg (s.A vl))] [(9820,Blk.own vl 77 137 n (cat LnQ.A s.lines))] (fun r U=>r=.int .i64 (eH s)/\U=[(9820,Blk.own vl 77 137 n (cat LnQ.A s.lines))]):=by
 subst hn
 refine (Gr (f:=30) (sv:=[SV.c (.agg (s.A vl))]) (Q:=fun r U=>r=.int .i64 (eH s)/\U=[]) [⟨9820,vl,77,137,s.lines.length,cat LnQ.A s.lines⟩] rfl ?_ ?_ (by rw [hE];exact P9.enters) fun E0 h0 ho hl=>rZ (h0.trans hE) (hl ⟨9820,vl,77,137,s.lines.length,cat LnQ.A s.lines⟩ (List.mem_singleton.2 rfl)) hin hcur).mono ?_
 ·intro b hb
  obtain rfl:=List.mem_singleton.1 hb
  exact Go.SX.cat_all LnQ.one _
 ·rintro x U ⟨_,rfl⟩ b hb
  rfl
 ·rintro x U ⟨U0,⟨h1,rfl⟩,rfl⟩
  exact ⟨h1,rfl⟩
theorem KG (a:Option Addr) (m c:Nat) (r:RQ) (l:List (List UInt8)) {pl:List (Nat×Nat)} (hpl:pl=[(0,1),(1,66),(67,1)]):Instr.fill (fun k=>pl[k]?) Jo.zero [(0,.slice a m c),(1,.agg r.A)]=some (PL.A ⟨l,r,0⟩ (.slice a m c)):=by
 subst hpl
 kernel_rfl
def vA0 (c:Bs) (vh vc vq:Value) (p:PL) (vs:Value):Array Value:=VQ.A ⟨c,aV,9,9,⟨[],[],[]⟩,[],p,[],[]⟩ vh vc (.slice none 0 0) vq vs (.slice none 0 0) (.slice none 0 0)
theorem KF (a:Option Addr) (m c:Nat) (p:PL) {pl:List (Nat×Nat)} (hpl:pl=[(0,1),(1,1),(2,1),(3,1),(4,3),(7,1),(8,68),(76,1),(77,1)]):Instr.fill (fun k=>pl[k]?) FB.zero [(0,.string (S [85,83,68])),(1,.string (S [85,83,68])),(2,.int .i64 9),(3,.int .i64 9),(6,.agg (p.A (.slice a m c)))]=some (vA0 aV (.slice none 0 0) (.slice none 0 0) (.slice none 0 0) p (.slice a m c)):=by
 subst hpl
 kernel_rfl
theorem Cu (src ins:List UInt8) (day known:Int) (r:RQ) {pl:List (Nat×Nat)} (hpl:pl=[(0,1),(1,1),(2,1),(3,1),(4,66),(70,1),(71,1)]):Instr.fill (fun k=>pl[k]?) gJ.zero [(0,.string (S src)),(1,.string (S ins)),(2,.string (S [85,83,68])),(3,.int .i64 day),(4,.agg r.A),(5,.int .i64 known)]=some (QC.A ⟨src,ins,[85,83,68],day,r,known,false⟩):=by
 subst hpl
 kernel_rfl
theorem Ct (a b:QC):Instr.fill (fun k=>some (k*gJ.size,gJ.size)) (madeCells gJ.zero (2*gJ.size)) [(0,.agg a.A),(1,.agg b.A)]=some (cat QC.A [a,b]):=by kernel_rfl
theorem KE:Instr.fill (fun k=>some (k*ti9.size,ti9.size)) (madeCells ti9.zero (1*ti9.size)) [(0,.string (S [97]))]=some (cat bF gE.srcs):=by kernel_rfl
theorem KD {pl:List (Nat×Nat)} (hpl:pl=[(0,1),(1,1)]):Instr.fill (fun k=>pl[k]?) gK.zero [(0,.string (S [65,67,77,69])),(1,.int .i64 10)]=some (dI ([65,67,77,69],10)):=by
 subst hpl
 kernel_rfl
theorem KC:Instr.fill (fun k=>some (k*gK.size,gK.size)) (madeCells gK.zero (1*gK.size)) [(0,.agg (dI ([65,67,77,69],10)))]=some (cat dI (kV aV).g.h):=by kernel_rfl
theorem KB {pl:List (Nat×Nat)} (hpl:pl=[(0,1),(1,1),(2,1)]):Instr.fill (fun k=>pl[k]?) dw.zero [(0,.string (S [85,83,68])),(2,.int .i64 500)]=some (cj (([85,83,68],0),500)):=by
 subst hpl
 kernel_rfl
theorem KA:Instr.fill (fun k=>some (k*dw.size,dw.size)) (madeCells dw.zero (1*dw.size)) [(0,.agg (cj (([85,83,68],0),500)))]=some (cat cj (kV aV).g.c):=by kernel_rfl
theorem HP (a b:Option Addr) (n m c d:Nat) {pl:List (Nat×Nat)} (hpl:pl=[(0,1),(1,1),(2,1)]):Instr.fill (fun k=>pl[k]?) De.zero [(0,.slice a n c),(1,.slice b m d)]=some #[.slice a n c,.slice b m d,.slice none 0 0]:=by
 subst hpl
 kernel_rfl
theorem Oa (p:PL) (vs vh vc:Value):aM (vA0 aV (.slice none 0 0) (.slice none 0 0) (.slice none 0 0) p vs) (0+4) #[vh,vc,.slice none 0 0].toList=vA0 aV vh vc (.slice none 0 0) p vs:=by kernel_rfl
theorem Tg (p:PL) (vs vh vc vq:Value):(vA0 aV vh vc (.slice none 0 0) p vs).setIfInBounds (0+7) vq=vA0 aV vh vc vq p vs:=by kernel_rfl
theorem Mv (p:PL) (vs vh vc vq:Value):(vA0 aV vh vc vq p vs).setIfInBounds (0+0) (.string (S [69,85,82]))=vA0 sd vh vc vq p vs:=by kernel_rfl
theorem vF (c:Bs) (p:PL) (a1 a2 a3 a4:Option Addr) (n1 n2 n3 n4 c1 c2 c3 c4:Nat):Fits (vA0 c (.slice a1 n1 c1) (.slice a2 n2 c2) (.slice a3 n3 c3) p (.slice a4 n4 c4)) 78:=by
 have hp:=p.fits (v:=.slice a4 n4 c4) rfl
 refine ⟨by simp [vA0,VQ.A,p.size],?_⟩
 have:=hp.one
 simp only [vA0,VQ.A,Array.all_append,Bool.and_eq_true]
 exact ⟨by simp [Value.oneCell'],this,by simp [Value.oneCell']⟩
theorem N9:∀ y∈vL,y.In:=by
 intro y hy
 simp only [vL,List.mem_cons,List.not_mem_nil,or_false] at hy
 rcases hy with rfl | rfl
 ·exact ⟨cD _ _,by show (1:Nat)<=_;decide,by show (4:Nat)<=_;decide,by show (3:Nat)<=_;decide,by show (-9223372036854775808:Int)<=9/\(9:Int)<=9223372036854775807;decide⟩
 ·exact ⟨cD _ _,by show (1:Nat)<=_;decide,by show (6:Nat)<=_;decide,by show (3:Nat)<=_;decide,by show (-9223372036854775808:Int)<=9/\(9:Int)<=9223372036854775807;decide⟩
theorem Jg:gE.In:=⟨cD _ _,by decide,by decide⟩
theorem Ps {E:Env} (hE:E.P=Tryz.prog) {c:Bs} (hc:c.length<=9223372036854775807) {vh vc vq vs:Value} {A:Array Value} (hA:vA0 c vh vc vq gE vs=A):OwnC E 11 [SV.c (.agg A)] [(9911,Blk.own vh 59 2 1 (cat dI (kV aV).g.h)),(9912,Blk.own vc 88 3 1 (cat cj (kV aV).g.c)),(9913,Blk.own vq 63 72 2 (cat QC.A vL)),(9914,Blk.own vs 9 1 1 (cat bF gE.srcs))]
    (fun x U=>∃ U0,EX (aZ (kV c)) x U0/\U=[(9911,Blk.own vh 59 2 1 (cat dI (kV aV).g.h)),(9912,Blk.own vc 88 3 1 (cat cj (kV aV).g.c)),(9913,Blk.own vq 63 72 2 (cat QC.A vL)),(9914,Blk.own vs 9 1 1 (cat bF gE.srcs))]++U0):=by
 refine Jb hE (v:=kV c) (vh:=vh) (vc:=vc) (vp:=.slice none 0 0) (vq:=vq) (vs:=vs) (vn:=.slice none 0 0) (va:=.slice none 0 0) (by rw [<- hA];exact VQ.at (kV c) _ _ _ _ _ _ _) [⟨9911,vh,59,2,1,cat dI (kV aV).g.h⟩,⟨9912,vc,88,3,1,cat cj (kV aV).g.c⟩,⟨9913,vq,63,72,2,cat QC.A vL⟩,⟨9914,vs,9,1,1,cat bF gE.srcs⟩] rfl rfl ?_ ?_
 ·intro b hb
  simp only [List.mem_cons,List.not_mem_nil,or_false] at hb
  rcases hb with rfl | rfl | rfl | rfl
  ·exact Go.SX.cat_all sm _
  ·exact Go.SX.cat_all gO _
  ·exact Go.SX.cat_all QC.all1 _
  ·exact Go.SX.cat_all gP _
 ·intro E0 h0 ho hl
  have l1:=hl ⟨9911,vh,59,2,1,cat dI (kV aV).g.h⟩ (by simp)
  have l2:=hl ⟨9912,vc,88,3,1,cat cj (kV aV).g.c⟩ (by simp)
  have l3:=hl ⟨9913,vq,63,72,2,cat QC.A vL⟩ (by simp)
  have l4:=hl ⟨9914,vs,9,1,1,cat bF gE.srcs⟩ (by simp)
  exact ⟨⟨l1,l2,Lst.nil _ _,⟨by show 1<=_;decide,by show 1<=_;decide,by show 0<=_;decide⟩,by show ∀ x∈[(([65,67,77,69]:Bs),(10:Int))],_;simp,by show ∀ x∈[((aV,(0:Int)),(500:Int))],_;simp [aV],nofun⟩,⟨l3,by show 2<=_;decide,N9,l4,by show 1<=_;decide,Jg⟩,Lst.nil _ _,by show 0<=_;decide,nofun,Lst.nil _ _,by show 0<=_;decide,nofun,hc,by show 3<=_;decide⟩
theorem fA (s:ShQ) (a:Option Addr) (n c:Nat):Fits (s.A (.slice a n c)) 5:=⟨rfl,by simp [ShQ.A,Value.oneCell']⟩
theorem kV8:(aZ (kV aV)).1.cur=aV:=by kernel_rfl
theorem Hd {E:Env} (hE:E.P=Tryz.prog) (k7:∀ y∈(aZ (kV aV)).1.lines,y.In):OwnC E 13 [] [] (fun x U=>x=.bool true/\U=[]):=by
 refine aD [] ai ak So E hE [] [] _ rfl rfl fun w X β hT=>?_
 have hE':(aY Tryz.prog tt Tryz.f13.ntmps w X (aJ [] β)).toEnv.P=Tryz.prog:=rfl
 have O1:=dT (n:=0) (d:=1) (by decide) (by decide) (by decide) (by decide)
 have O2:=dT (n:=405) (d:=4) (by decide) (by decide) (by decide) (by decide)
 have O3:=dT (n:=5) (d:=4) (by decide) (by decide) (by decide) (by decide)
 have P1:=fun (g:Nat)=>KG (some ⟨g,0,none⟩) 1 1 (mkQ 0 1).1 gE.srcs (pl:=[(0,1),(1,66),(67,1)]) rfl
 rw [show (⟨gE.srcs,(mkQ 0 1).1,0⟩:PL)=gE from rfl] at P1
 have P2:=fun (g:Nat)=>KF (some ⟨g,0,none⟩) 1 1 gE (pl:=[(0,1),(1,1),(2,1),(3,1),(4,3),(7,1),(8,68),(76,1),(77,1)]) rfl
 refine .inr ⟨by decide,by decide,by decide,_,KE,rfl,trivial,fun g=>?_⟩
 refine .inl ⟨_,O1,?_⟩
 have P1:=P1 g
 have P2:=P2 g
 have PF1:=vF aV gE none none none (some ⟨g,0,none⟩) 0 0 0 1 0 0 0 1
 have S1:=fun (vh vc:Value)=>Oa gE (.slice (some ⟨g,0,none⟩) 1 1) vh vc
 generalize hPA:gE.A (.slice (some ⟨g,0,none⟩) 1 1)=PA at P1 P2
 generalize hV0:vA0 aV (.slice none 0 0) (.slice none 0 0) (.slice none 0 0) gE (.slice (some ⟨g,0,none⟩) 1 1)=V0 at P2 PF1 S1
 refine ⟨_,P1,_,P2,PF1,_,KD rfl,?_⟩
 refine .inr ⟨by decide,by decide,by decide,_,KC,rfl,trivial,fun gh=>?_⟩
 refine ⟨_,KB rfl,?_⟩
 refine .inr ⟨by decide,by decide,by decide,_,KA,rfl,trivial,fun gc=>?_⟩
 have P3:=HP (some ⟨gh,0,none⟩) (some ⟨gc,0,none⟩) 1 1 1 1 (pl:=[(0,1),(1,1),(2,1)]) rfl
 have S1:=S1 (.slice (some ⟨gh,0,none⟩) 1 1) (.slice (some ⟨gc,0,none⟩) 1 1)
 have S2:=fun (vq:Value)=>Tg gE (.slice (some ⟨g,0,none⟩) 1 1) (.slice (some ⟨gh,0,none⟩) 1 1) (.slice (some ⟨gc,0,none⟩) 1 1) vq
 generalize hV1:vA0 aV (.slice (some ⟨gh,0,none⟩) 1 1) (.slice (some ⟨gc,0,none⟩) 1 1) (.slice none 0 0) gE (.slice (some ⟨g,0,none⟩) 1 1)=V1 at S1 S2
 refine ⟨_,P3,by decide,Cs rfl rfl rfl,V1,S1,?_⟩
 have Q1:=Cu [97] [65,67,77,69] 9 1 (mkQ 405 4).1 (pl:=[(0,1),(1,1),(2,1),(3,1),(4,66),(70,1),(71,1)]) rfl
 have Q2:=Cu [97] [69,85,82,85,83,68] 9 2 (mkQ 5 4).1 (pl:=[(0,1),(1,1),(2,1),(3,1),(4,66),(70,1),(71,1)]) rfl
 have QL:=Ct ⟨[97],[65,67,77,69],[85,83,68],9,(mkQ 405 4).1,1,false⟩ ⟨[97],[69,85,82,85,83,68],[85,83,68],9,(mkQ 5 4).1,2,false⟩
 have QS:(cat QC.A vL).size=2*72:=by rw [Go.SX.cat_size QC.size];rfl
 refine .inl ⟨_,O2,_,Q1,.inl ⟨_,O3,_,Q2,.inr ⟨by decide,by decide,by decide,cat QC.A vL,QL,QS,trivial,fun gq=>?_⟩⟩⟩
 have S3:=Mv gE (.slice (some ⟨g,0,none⟩) 1 1) (.slice (some ⟨gh,0,none⟩) 1 1) (.slice (some ⟨gc,0,none⟩) 1 1) (.slice (some ⟨gq,0,none⟩) 2 2)
 have S2:=S2 (.slice (some ⟨gq,0,none⟩) 2 2)
 have L1:=fun A hA=>Ps (A:=A) hE' (c:=aV) (by decide) (vh:=.slice (some ⟨gh,0,none⟩) 1 1) (vc:=.slice (some ⟨gc,0,none⟩) 1 1) (vq:=.slice (some ⟨gq,0,none⟩) 2 2) (vs:=.slice (some ⟨g,0,none⟩) 1 1) hA
 have L2:=fun A hA=>Ps (A:=A) hE' (c:=sd) (by decide) (vh:=.slice (some ⟨gh,0,none⟩) 1 1) (vc:=.slice (some ⟨gc,0,none⟩) 1 1) (vq:=.slice (some ⟨gq,0,none⟩) 2 2) (vs:=.slice (some ⟨g,0,none⟩) 1 1) hA
 have PF2:=vF aV gE (some ⟨gh,0,none⟩) (some ⟨gc,0,none⟩) (some ⟨gq,0,none⟩) (some ⟨g,0,none⟩) 1 1 2 1 1 1 2 1
 have PF3:=vF sd gE (some ⟨gh,0,none⟩) (some ⟨gc,0,none⟩) (some ⟨gq,0,none⟩) (some ⟨g,0,none⟩) 1 1 2 1 1 1 2 1
 generalize hV2:vA0 aV (.slice (some ⟨gh,0,none⟩) 1 1) (.slice (some ⟨gc,0,none⟩) 1 1) (.slice (some ⟨gq,0,none⟩) 2 2) gE (.slice (some ⟨g,0,none⟩) 1 1)=V2 at S2 S3 L1 PF2
 generalize hV3:vA0 sd (.slice (some ⟨gh,0,none⟩) 1 1) (.slice (some ⟨gc,0,none⟩) 1 1) (.slice (some ⟨gq,0,none⟩) 2 2) gE (.slice (some ⟨g,0,none⟩) 1 1)=V3 at S3 L2 PF3
 have L1:=L1 V2 rfl
 have L2:=L2 V3 rfl
 have k1:=kV1
 have k2:=kV2
 have k3:=kV3
 have k4:=kV4
 have k5:=kV5
 have k6:=kV6
 have k8:=kV8
 generalize aZ (kV aV)=R1 at *
 generalize aZ (kV sd)=R2 at *
 obtain ⟨⟨c1,d1,n1,ls1,tot1⟩,e1⟩:=R1
 obtain ⟨⟨c2,d2,n2,ls2,tot2⟩,e2⟩:=R2
 have k1:e1=0:=k1
 have k2:tot1=101750:=k2
 have k3:ls1.length=2:=k3
 have k4:e2=0:=k4
 have k6:eH ⟨c1,d1,n1,ls1,tot1⟩=0:=k6
 have k8:c1=aV:=k8
 have k7:∀ y∈ls1,y.In:=k7
 have k5:tot2=81400:=k5
 subst k1 k2 k4 k5
 refine ⟨by decide,rfl,V2,S2,?_⟩
 refine .inr (.inr (.inr ⟨[(9911,11),(9912,13),(9913,20),(9914,6)],[9800],[_],[_,_,_,_],_,L1,rfl,⟨.inl rfl,.inl rfl,.inl rfl,.inl rfl,trivial⟩,rfl,trivial,?_⟩))
 rintro r U ⟨U0,⟨xl,q1,rfl,rfl⟩,rfl⟩
 obtain ⟨xa,xc,rfl⟩:=(show IsL xl ls1.length from q1).len
 refine ⟨rfl,fA _ _ _ _,by decide,rfl,V3,S3,?_⟩
 refine .inr (.inr (.inr ⟨[(9911,11),(9912,13),(9913,20),(9914,6),(9800,9801)],[9801],[_],[_,_,_,_],_,L2,rfl,⟨.inl rfl,.inl rfl,.inl rfl,.inl rfl,trivial⟩,rfl,trivial,?_⟩))
 rintro r U ⟨U0,⟨yl,q2,rfl,rfl⟩,rfl⟩
 obtain ⟨ya,yc,rfl⟩:=(show IsL yl ls2.length from q2).len
 refine ⟨rfl,fA _ _ _ _,?_⟩
 have tf:∀ {p:Prop},true=false->p:=fun h=>by cases h
 have VF:=fun (E0:Env) (h0:E0.P=Tryz.prog)=>kd (E:=E0) h0 (s:=⟨c1,d1,n1,ls1,101750⟩) (vl:=.slice xa ls1.length xc) (n:=ls1.length) rfl k7 (by rw [k8];decide)
 have VZ:=fun (E0:Env) (h0:E0.P=Tryz.prog)=>rZ (E:=E0) h0 (s:=dJ) (vl:=.slice none 0 0) (Lst.nil _ _) nofun (by decide)
 rw [k6] at VF
 rw [kV7] at VZ
 refine ⟨fun _=>?_,fun h=>tf h⟩
 refine ⟨_,rfl,fun _=>?_,fun h=>tf h⟩
 refine ⟨_,rfl,_,fun w' _=>ao Tryz.underlying40 w',fun _=>?_,fun h=>absurd (ag (show decide (((ls1.length:Nat):Int)=2)=false from h)) (by omega)⟩
 refine ⟨fun _=>?_,fun h=>tf h⟩
 refine ⟨_,rfl,fun _=>?_,fun h=>tf h⟩
 refine .inr (.inr (.inl ⟨[(9820,9800)],[_],[_],_,[_],VF _ hE',rfl,⟨.inl rfl,trivial⟩,rfl,rfl,?_⟩))
 refine ⟨fun _=>?_,fun h=>tf h⟩
 refine ⟨_,rfl,.inr (.inr (.inl ⟨[],[_],[],_,[],VZ _ hE',rfl,trivial,rfl,rfl,?_⟩))⟩
 exact ⟨[],[],⟨rfl,rfl⟩,trivial,rfl⟩
theorem kV9:(aZ (kV aV)).1.lines=[⟨1,[65,67,77,69],9,10,(mkQ 405 4).1,(mkQ 1 1).1,101250⟩,⟨2,aV,9,500,(mkQ 1 100).1,(mkQ 1 1).1,500⟩]:=by kernel_rfl
theorem TV:∀ y∈(aZ (kV aV)).1.lines,y.In:=by
 rw [kV9]
 intro y hy
 simp only [List.mem_cons,List.not_mem_nil,or_false] at hy
 rcases hy with rfl | rfl
 ·exact ⟨by show (4:Nat)<=_;decide,by show (-9223372036854775808:Int)<=1/\(1:Int)<=9223372036854775807;decide,by show (-9223372036854775808:Int)<=9/\(9:Int)<=9223372036854775807;decide,by show (-9223372036854775808:Int)<=10/\(10:Int)<=9223372036854775807;decide,by show (-9223372036854775808:Int)<=101250/\(101250:Int)<=9223372036854775807;decide,cD _ _,cD _ _⟩
 ·exact ⟨by show (3:Nat)<=_;decide,by show (-9223372036854775808:Int)<=2/\(2:Int)<=9223372036854775807;decide,by show (-9223372036854775808:Int)<=9/\(9:Int)<=9223372036854775807;decide,by show (-9223372036854775808:Int)<=500/\(500:Int)<=9223372036854775807;decide,by show (-9223372036854775808:Int)<=500/\(500:Int)<=9223372036854775807;decide,cD _ _,cD _ _⟩
theorem fb:ay Tryz.prog 13 [] (.bool true):=rH (vs:=[]) So.enters fun _w=>Hd rfl TV
theorem vv {E:Env} (hE:E.P=Tryz.prog) {s:ShQ} {vl:Value} (hv:Lst E vl 137 s.lines.length (cat LnQ.A s.lines)) (hin:∀ y∈s.lines,y.In) (hcur:s.cur.length<=9223372036854775807):OwnC E 31 [SV.c (.agg (s.A vl))] [] (fun r U=>r=.bool true/\U=[]):=by
 refine aD [] ai ak P8 E hE [SV.c (.agg (s.A vl))] [] _ rfl rfl fun w X β hT=>?_
 have hE':(aY Tryz.prog tt Tryz.f31.ntmps w X (aJ [] β)).toEnv.P=Tryz.prog:=rfl
 have V1:=rZ hE' (hv.of_old hT) hin hcur
 have V2:=Fe hE' (hv.of_old hT) hin
 generalize eH s=VQ at *
 refine ⟨rfl,.inl ⟨_,fb,fun _=>?_,fun h=>by cases h⟩⟩
 refine .inr (.inr (.inl ⟨[],[_],[],_,[],V1,rfl,trivial,rfl,rfl,?_⟩))
 refine .inr (.inr (.inl ⟨[],[_],[],_,[],V2,rfl,trivial,rfl,rfl,?_⟩))
 exact ⟨by kernel_rfl,[],[],⟨by simp [cW],rfl⟩,trivial,rfl⟩
theorem zr {n:Int} {p r:RQ} (hn : -9223372036854775808<=n/\n<=9223372036854775807) (hp:p.In) (hr:r.In):ay Tryz.prog 24 [SV.c (.int .i64 n),SV.c (.agg p.A),SV.c (.agg r.A)] (.bool true):=by
 have A1:=tL hn hp hr
 have A2:=zt hn hp hr
 obtain ⟨m,e,hm⟩:∃ m e,eL n p r=(m,e):=⟨_,_,rfl⟩
 rw [hm] at A1 A2
 have P1:=p.A_fits
 have R1:=r.A_fits
 generalize p.A=PA at *
 generalize r.A=RA at *
 refine al ai ak UT _ _ rfl rfl fun w=>?_
 refine ⟨P1.1,R1.1,?_⟩
 refine .inl ⟨_,A1,.inl ⟨_,A2,.inl ⟨_,fb,?_⟩⟩⟩
 refine ⟨fun _=>?_,fun h=>by cases h⟩
 refine ⟨fun _=>?_,fun h=>by simp at h⟩
 exact ⟨by simp [cW],trivial⟩
theorem Ix {o:Option QC} (h:∀ q,o=some q->q.In) : -9223372036854775808<=(j9 o).day/\(j9 o).day<=9223372036854775807:=by
 cases o with
 | none=>exact ⟨by decide,by decide⟩
 | some q=>exact (h q rfl).day
theorem Do {L:List QC} {tol:RQ} (h:∀ z∈L,z.In) : -9223372036854775808<=(dt L tol).day/\(dt L tol).day<=9223372036854775807 :=
 Ix fun q e=>h q (List.mem_of_find?_eq_some e)
theorem DS {E:Env} {v:VQ} {vh vc vp vq vs vn va:Value} (I:VIn E v vh vc vp vq vs vn va) (hc:cM v=true) {it:ItQ} (hi:it∈aP v):(aU v it).1.nm.length<=9223372036854775807/\(-9223372036854775808<=(aU v it).1.kind/\(aU v it).1.kind<=9223372036854775807)/\(-9223372036854775808<=(aU v it).1.day/\(aU v it).1.day<=9223372036854775807):=by
 obtain ⟨-,-,hd,-,hv,-⟩:=fx hc
 have kk:∀ n:Int,1<=n->n<=4->-9223372036854775808<=n/\n<=9223372036854775807:=fun n a b=>by omega
 have key:∀ x∈v.g.p,0<=x.1.2/\x.1.2<=73048:=fun x hx=>by
  unfold bP at hv
  simp only [Bool.and_eq_true] at hv
  obtain ⟨i,hi⟩:=List.getElem?_of_mem hx
  have:=fQ hv.2.2.2.1 (List.getElem?_eq_some_iff.1 hi).1
  unfold okK inB at this
  rw [hi] at this
  simp only [Bool.and_eq_true,decide_eq_true_eq] at this
  exact this.2.1
 unfold aP at hi
 simp only [List.mem_append,List.mem_map] at hi
 rcases hi with ⟨x,hx,rfl⟩ | ⟨x,hx,rfl⟩ | ⟨x,hx,rfl⟩ | ⟨x,hx,rfl⟩
 ·have h1:=I.pf.ih x hx
  cases e:v.nst.find? (fun n=>decide (n.ins=x.1)) with
  | some n =>
   simp only [aU,e]
   exact ⟨h1,⟨by decide,by decide⟩,by omega,by omega⟩
  | none =>
   simp only [aU,e]
   exact ⟨h1,⟨by decide,by decide⟩,Do fun z hz=>(q0 I.q.inn hz).1⟩
 ·have h1:=I.pf.ic x hx
  refine ⟨h1,kk 2 (by decide) (by decide),?_⟩
  show -9223372036854775808<=v.day/\v.day<=9223372036854775807
  omega
 ·have h1:=I.pf.ip x hx
  have h2:=key x hx
  refine ⟨h1,kk 3 (by decide) (by decide),?_⟩
  show -9223372036854775808<=x.1.2/\x.1.2<=9223372036854775807
  omega
 ·have h1:=I.ain x hx
  exact ⟨h1.nm,kk 4 (by decide) (by decide),h1.til⟩
theorem sA {v:VQ}:∀ {l:List ItQ} {x:List LnQ},bz v l=.ok x->∀ y∈x,∃ i∈l,bE v i=.ok y
 | [],x,h=>by cases h;simp
 | i :: l,x,h=>by
  rw [bz] at h
  cases e:bE v i with
  | error e'=>rw [e] at h;cases h
  | ok y =>
   rw [e] at h
   simp only at h
   cases e2:bz v l with
   | error e'=>rw [e2] at h;cases h
   | ok z =>
    rw [e2] at h
    simp only [Except.ok.injEq] at h
    subst h
    intro w hw
    rcases List.mem_cons.1 hw with rfl | hw
    ·exact ⟨i,by simp,e⟩
    ·obtain ⟨j,hj,e3⟩:=sA e2 w hw
     exact ⟨j,by simp [hj],e3⟩
theorem Jf {E:Env} {v:VQ} {vh vc vp vq vs vn va:Value} (I:VIn E v vh vc vp vq vs vn va):(∀ y∈(aZ v).1.lines,y.In)/\(aZ v).1.lines.length<=512:=by
 have z:(∀ y∈dJ.lines,y.In)/\dJ.lines.length<=512:=⟨by simp [dJ],by simp [dJ]⟩
 unfold aZ
 cases hc:cM v with
 | false=>exact z
 | true =>
  simp only [if_true]
  cases e:bz v (aP v) with
  | error e'=>exact z
  | ok ls =>
   simp only
   split
   ·exact z
   ·refine ⟨fun y hy=>?_,?_⟩
    ·obtain ⟨i,hi,e2⟩:=sA e y hy
     obtain ⟨-,-,e3,e4⟩:=qv e2
     obtain ⟨a1,a2,a3⟩:=DS I hc hi
     obtain ⟨b1,b2,b3⟩:=Cf hc I.q.inn I.nin hi
     have b4:=lP y.qty y.price y.rate
     rw [e3] at b4
     rw [e4]
     exact ⟨a1,a2,a3,⟨by show _<=(aU v i).1.qty;omega,by show (aU v i).1.qty<=_;omega⟩,⟨by show _<=y.amt;omega,by show y.amt<=_;omega⟩,b1,xF⟩
    ·show ls.length<=512
     rw [(eX e).1,gA]
     exact (fx hc).2.2.2.2.2.2.2.2.2
/-! ### errors of a value -/
theorem Dh {v:VQ} {i:ItQ} {e:Int} (h:bE v i=.error e):e≠0:=by
 unfold bE at h
 split at h
 ·rename_i h1
  cases h
  exact h1
 split at h
 ·rename_i h1
  cases h
  exact h1
 split at h
 ·rename_i h1
  cases h
  exact h1
 cases h
theorem sB {v:VQ}:∀ {l:List ItQ} {e:Int},bz v l=.error e->∃ i∈l,bE v i=.error e
 | [],e,h=>by cases h
 | i :: l,e,h=>by
  rw [bz] at h
  cases e1:bE v i with
  | error e' =>
   rw [e1] at h
   cases h
   exact ⟨i,by simp,e1⟩
  | ok y =>
   rw [e1] at h
   simp only at h
   cases e2:bz v l with
   | error e' =>
    rw [e2] at h
    cases h
    obtain ⟨j,hj,e3⟩:=sB e2
    exact ⟨j,by simp [hj],e3⟩
   | ok z=>rw [e2] at h;cases h
theorem sC {v:VQ}:∀ {l:List ItQ} {x:List LnQ},bz v l=.ok x->∀ i∈l,∃ y,bE v i=.ok y
 | [],x,h=>by simp
 | i :: l,x,h=>by
  rw [bz] at h
  cases e1:bE v i with
  | error e'=>rw [e1] at h;cases h
  | ok y =>
   rw [e1] at h
   simp only at h
   cases e2:bz v l with
   | error e'=>rw [e2] at h;cases h
   | ok z =>
    intro j hj
    rcases List.mem_cons.1 hj with rfl | hj
    ·exact ⟨y,e1⟩
    ·exact sC e2 j hj
theorem o7 {v:VQ} (h:(aZ v).2=0):cM v=true/\∃ ls,bz v (aP v)=.ok ls/\(-1000000000000000<=ba ls/\ba ls<=1000000000000000)/\aZ v=(⟨v.cur,v.day,v.known,ls,ba ls⟩,0):=by
 unfold aZ at h ⊢
 cases hc:cM v with
 | false =>
  rw [hc] at h
  exact absurd (show (201:Int)=0 from h) (by decide)
 | true =>
  rw [hc] at h
  simp only [if_true] at h ⊢
  cases e:bz v (aP v) with
  | error e' =>
   rw [e] at h
   obtain ⟨i,-,e2⟩:=sB e
   exact absurd h (Dh e2)
  | ok ls =>
   rw [e] at h
   simp only at h ⊢
   by_cases ht:ba ls < -1000000000000000\/ba ls > 1000000000000000
   ·rw [if_pos ht] at h
    exact absurd h (by decide)
   ·rw [if_neg ht]
    exact ⟨trivial,ls,rfl,by omega,rfl⟩
theorem Jd {v:VQ} (hc:cM v=true) (h:(aZ v).2≠0):(∃ i∈aP v,∃ e,bE v i=.error e)\/(aZ v).2=33:=by
 unfold aZ at h ⊢
 rw [hc] at h ⊢
 simp only [if_true] at h ⊢
 cases e:bz v (aP v) with
 | error e' =>
  obtain ⟨i,hi,e2⟩:=sB e
  exact .inl ⟨i,hi,e',e2⟩
 | ok ls =>
  rw [e] at h
  simp only at h ⊢
  by_cases ht:ba ls < -1000000000000000\/ba ls > 1000000000000000
  ·rw [if_pos ht]
   exact .inr rfl
  ·rw [if_neg ht] at h
   exact absurd rfl h
/-! ### a value is verified -/
theorem EL {xs:List QC} {k:Int} {p:PL} {ins:List UInt8} {day:Int} {z:QC} (hz:z∈bq xs k p ins day):0<=z.day/\z.day<=73048:=by
 unfold bq at hz
 split at hz
 ·obtain ⟨h1,-⟩:=q8 hz
  obtain ⟨-,h3,-⟩:=qk h1
  unfold bW at h3
  simp only [Bool.and_eq_true,decide_eq_true_eq] at h3
  exact h3.2.2.2.1
 ·cases hz
theorem zU {L:List QC} {tol:RQ} (h:∀ z∈L,0<=z.day/\z.day<=73048):0<=(dt L tol).day/\(dt L tol).day<=73048:=by
 unfold dt
 cases e:L.find? (dq (eJ L) (cV L) tol) with
 | none=>exact ⟨by decide,by decide⟩
 | some q=>exact h q (List.mem_of_find?_eq_some e)
theorem EU {a:AcQ} (h:cg a=true):0<=a.til/\a.til<=73048:=by
 unfold cg inB at h
 simp only [Bool.and_eq_true,decide_eq_true_eq] at h
 exact h.2.2.2.2
theorem J9 {v:VQ} (hc:cM v=true) {it:ItQ} (hi:it∈aP v):inB (aU v it).1.kind 1 4=true/\inB (aU v it).1.day 0 73048=true:=by
 obtain ⟨-,-,hd,-,hv,-,-,-,ha,-⟩:=fx hc
 have key:∀ x∈v.g.p,0<=x.1.2/\x.1.2<=73048:=fun x hx=>by
  unfold bP at hv
  simp only [Bool.and_eq_true] at hv
  obtain ⟨i,hi⟩:=List.getElem?_of_mem hx
  have:=fQ hv.2.2.2.1 (List.getElem?_eq_some_iff.1 hi).1
  unfold okK inB at this
  rw [hi] at this
  simp only [Bool.and_eq_true,decide_eq_true_eq] at this
  exact this.2.1
 have mk:∀ {n:Int},0<=n/\n<=73048->inB n 0 73048=true:=fun h=>by
  unfold inB
  simp only [Bool.and_eq_true,decide_eq_true_eq]
  exact h
 unfold aP at hi
 simp only [List.mem_append,List.mem_map] at hi
 rcases hi with ⟨x,hx,rfl⟩ | ⟨x,hx,rfl⟩ | ⟨x,hx,rfl⟩ | ⟨x,hx,rfl⟩
 ·cases e:v.nst.find? (fun n=>decide (n.ins=x.1)) with
  | some n =>
   simp only [aU,e]
   exact ⟨rfl,mk hd⟩
  | none =>
   simp only [aU,e]
   exact ⟨rfl,mk (zU fun z hz=>EL hz)⟩
 ·exact ⟨rfl,mk hd⟩
 ·exact ⟨rfl,mk (key x hx)⟩
 ·exact ⟨rfl,mk (EU (List.all_eq_true.1 ha x hx))⟩
theorem ox {n lo hi:Int} (h:lo<=n/\n<=hi):inB n lo hi=true:=by
 unfold inB
 simp only [Bool.and_eq_true,decide_eq_true_eq]
 exact h
theorem w5 {v:VQ} (h:(aZ v).2=0):eH (aZ v).1=0:=by
 obtain ⟨hc,ls,hr,ht,he⟩:=o7 h
 rw [he]
 obtain ⟨h1,-,h3,h4,-,-,-,-,-,h10⟩:=fx hc
 have hl:=(eX hr).1
 rw [gA] at hl
 have hall:ls.all iM=true:=by
  rw [List.all_eq_true]
  intro y hy
  obtain ⟨i,hi,e2⟩:=sA hr y hy
  obtain ⟨-,-,e3,e4⟩:=qv e2
  obtain ⟨a1,a2⟩:=J9 hc hi
  have k1:y.kind=(aU v i).1.kind:=by rw [e4]
  have k2:y.day=(aU v i).1.day:=by rw [e4]
  unfold iM
  rw [decide_eq_true e3,k1,k2,a1,a2]
  rfl
 unfold eH
 rw [if_pos]
 simp only [Bool.and_eq_true,decide_eq_true_eq]
 exact ⟨⟨h1,ox h3,ox h4,by omega⟩,hall,trivial,ox ht⟩
theorem C9 {s:ShQ} (h:eH s=0) {n:Int} (hn:n≠s.total):eH { s with total:=n }=200:=by
 unfold eH at h ⊢
 have ht:ba s.lines=s.total:=by
  split at h
  ·rename_i h1
   simp only [Bool.and_eq_true,decide_eq_true_eq] at h1
   exact h1.2.2.1
  ·exact absurd h (by decide)
 rw [if_neg]
 simp only [Bool.and_eq_true,decide_eq_true_eq]
 exact fun h2=>hn (by rw [<- ht];exact h2.2.2.1.symm)
theorem Br {s:ShQ} (h:eH s=0) {i:Nat} {y:LnQ} (hy:s.lines[i]? = some y) {n:Int} (hn:n≠y.amt) (t:Int):eH { s with lines:=s.lines.set i { y with amt:=n },total:=t }=200:=by
 have hi:=(List.getElem?_eq_some_iff.1 hy).1
 have ha:eL y.qty y.price y.rate=(y.amt,0):=by
  unfold eH at h
  split at h
  ·rename_i h1
   simp only [Bool.and_eq_true,decide_eq_true_eq] at h1
   have:=List.all_eq_true.1 h1.2.1 y (List.mem_of_getElem? hy)
   unfold iM at this
   simp only [Bool.and_eq_true,decide_eq_true_eq] at this
   exact this.1
  ·exact absurd h (by decide)
 unfold eH
 rw [if_neg]
 simp only [Bool.and_eq_true,decide_eq_true_eq]
 intro h2
 have:=List.all_eq_true.1 h2.2.1 { y with amt:=n } (List.mem_of_getElem? (i:=i) (by rw [List.getElem?_set_self hi]))
 unfold iM at this
 simp only [Bool.and_eq_true,decide_eq_true_eq] at this
 have h3:eL y.qty y.price y.rate=(n,0):=this.1
 rw [ha] at h3
 exact hn (Prod.ext_iff.1 h3).1.symm
/-! ### what a step reads -/
structure LikeV (v w:VQ):Prop where
 cur:w.cur=v.cur
 piv:w.piv=v.piv
 day:w.day=v.day
 known:w.known=v.known
 qs:w.qs=v.qs
 pol:w.pol=v.pol
 nst:w.nst=v.nst
theorem LikeV.line {v w:VQ} (h:LikeV v w) (i:ItQ):aU w i=aU v i:=by
 cases v;cases w
 obtain ⟨h1,h2,h3,h4,h5,h6,h7⟩:=h
 simp only at h1 h2 h3 h4 h5 h6 h7
 subst h1 h2 h3 h4 h5 h6 h7
 cases i<;>rfl
theorem LikeV.step {v w:VQ} (h:LikeV v w) (i:ItQ):bE w i=bE v i:=by
 unfold bE
 rw [h.line i,h.qs,h.known,h.pol,h.day,h.piv,h.cur]
theorem lC {v w:VQ} (h:∀ i,bE w i=bE v i):∀ l,bz w l=bz v l
 | []=>rfl
 | i :: l=>by rw [bz,bz,h i,lC h l]
theorem ol {v:VQ}:∀ {l:List ItQ},(∀ i∈l,∃ y,bE v i=.ok y)->∃ x,bz v l=.ok x
 | [],_=>⟨[],rfl⟩
 | i :: l,h=>by
  obtain ⟨y,hy⟩:=h i (by simp)
  obtain ⟨x,hx⟩:=ol (l:=l) fun j hj=>h j (by simp [hj])
  exact ⟨y :: x,by rw [bz,hy,hx]⟩
def Le (v:VQ) (i:ItQ):Int:=match bE v i with
 | .ok y=>y.amt
 | .error _=>0
theorem pv {v:VQ}:∀ {l:List ItQ} {x:List LnQ},bz v l=.ok x->ba x=(l.map (Le v)).sum
 | [],x,h=>by cases h;rfl
 | i :: l,x,h=>by
  rw [bz] at h
  cases e1:bE v i with
  | error e'=>rw [e1] at h;cases h
  | ok y =>
   rw [e1] at h
   simp only at h
   cases e2:bz v l with
   | error e'=>rw [e2] at h;cases h
   | ok z =>
    rw [e2] at h
    simp only [Except.ok.injEq] at h
    subst h
    have h1:=pv e2
    have h2:Le v i=y.amt:=by unfold Le;rw [e1]
    have h3:ba (y :: z)=y.amt+ba z:=by simp [ba]
    rw [h3,List.map_cons,List.sum_cons,h1,h2]
/-! ### parts of a portfolio -/
theorem GB {l:List (Bs×Int)} {n i:Nat} (hi:i < n):okH (l.take n) i=okH l i:=by
 unfold okH
 rw [List.getElem?_take_of_lt hi,List.getElem?_take_of_lt (show i - 1 < n by omega)]
theorem Gy {l:List (Ky×Int)} {n i:Nat} (hi:i < n):okK (l.take n) i=okK l i:=by
 unfold okK
 rw [List.getElem?_take_of_lt hi,List.getElem?_take_of_lt (show i - 1 < n by omega)]
theorem GC {l:List (Bs×Int)} {n i:Nat} (h:okH l (n+i)=true):okH (l.drop n) i=true:=by
 unfold okH at h ⊢
 rw [List.getElem?_drop]
 cases e:l[n+i]? with
 | none=>rfl
 | some x =>
  rw [e] at h
  simp only [Bool.and_eq_true,Bool.or_eq_true,decide_eq_true_eq] at h ⊢
  refine ⟨h.1,h.2.1,?_⟩
  by_cases h0:i=0
  ·exact .inl h0
  ·right
   rw [List.getElem?_drop,show n+(i - 1)=n+i - 1 by omega]
   exact h.2.2.resolve_left (by omega)
theorem Gz {l:List (Ky×Int)} {n i:Nat} (h:okK l (n+i)=true):okK (l.drop n) i=true:=by
 unfold okK at h ⊢
 rw [List.getElem?_drop]
 cases e:l[n+i]? with
 | none=>rfl
 | some x =>
  rw [e] at h
  simp only [Bool.and_eq_true,Bool.or_eq_true,decide_eq_true_eq] at h ⊢
  refine ⟨h.1,h.2.1,h.2.2.1,h.2.2.2.1,?_⟩
  by_cases h0:i=0
  ·exact .inl h0
  ·right
   rw [List.getElem?_drop,show n+(i - 1)=n+i - 1 by omega]
   exact h.2.2.2.2.resolve_left (by omega)
theorem ES {l:List (Bs×Int)} (h:cY (okH l) l.length=true) (n:Nat):cY (okH (l.take n)) (l.take n).length=true/\cY (okH (l.drop n)) (l.drop n).length=true:=by
 refine ⟨cN fun i hi=>?_,cN fun i hi=>?_⟩
 ·rw [List.length_take] at hi
  rw [GB (by omega)]
  exact fQ h (by omega)
 ·rw [List.length_drop] at hi
  exact GC (fQ h (by omega))
theorem vr {l:List (Ky×Int)} (h:cY (okK l) l.length=true) (n:Nat):cY (okK (l.take n)) (l.take n).length=true/\cY (okK (l.drop n)) (l.drop n).length=true:=by
 refine ⟨cN fun i hi=>?_,cN fun i hi=>?_⟩
 ·rw [List.length_take] at hi
  rw [Gy (by omega)]
  exact fQ h (by omega)
 ·rw [List.length_drop] at hi
  exact Gz (fQ h (by omega))
def Led.takes (g:Led) (i k n:Nat):Led:=⟨g.h.take i,g.c.take k,g.p.take n⟩
def Led.drops (g:Led) (i k n:Nat):Led:=⟨g.h.drop i,g.c.drop k,g.p.drop n⟩
theorem vz {g:Led} (h:bP g=true) (i k n:Nat):bP (g.takes i k n)=true/\bP (g.drops i k n)=true:=by
 unfold bP at h
 simp only [Bool.and_eq_true,Bool.not_eq_true',decide_eq_false_iff_not] at h
 obtain ⟨⟨h1,h2⟩,h3,h4,h5,h6⟩:=h
 have d1:jT (g.c.take k)=true:=by
  unfold jT at h6 ⊢
  rw [List.all_eq_true] at h6 ⊢
  exact fun x hx=>h6 x (List.mem_of_mem_take hx)
 have d2:jT (g.c.drop k)=true:=by
  unfold jT at h6 ⊢
  rw [List.all_eq_true] at h6 ⊢
  exact fun x hx=>h6 x (List.mem_of_mem_drop hx)
 unfold bP Led.takes Led.drops
 simp only [Bool.and_eq_true,Bool.not_eq_true',decide_eq_false_iff_not,List.length_take,List.length_drop]
 have a1:=ES h3 i
 have a2:=vr h4 k
 have a3:=vr h5 n
 rw [List.length_take,List.length_drop] at a1 a2 a3
 exact ⟨⟨⟨by omega,by omega⟩,a1.1,a2.1,a3.1,d1⟩,⟨by omega,by omega⟩,a1.2,a2.2,a3.2,d2⟩
def VQ.takes (v:VQ) (i k n m:Nat):VQ:={ v with g:=v.g.takes i k n,acs:=v.acs.take m }
def VQ.drops (v:VQ) (i k n m:Nat):VQ:={ v with g:=v.g.drops i k n,acs:=v.acs.drop m }
theorem y9 {v:VQ} (h:cM v=true) (i k n m:Nat):cM (v.takes i k n m)=true/\cM (v.drops i k n m)=true:=by
 unfold cM at h
 simp only [Bool.and_eq_true,decide_eq_true_eq] at h
 obtain ⟨a1,⟨a5,a6⟩,⟨a8,a9⟩,a10⟩:=h
 obtain ⟨p1,p2⟩:=vz a5 i k n
 rw [List.all_eq_true] at a9
 unfold cM VQ.takes VQ.drops
 simp only [Bool.and_eq_true,decide_eq_true_eq,List.length_take,List.length_drop,Led.takes,Led.drops]
 refine ⟨⟨a1,⟨p1,a6⟩,⟨by omega,?_⟩,by omega⟩,a1,⟨p2,a6⟩,⟨by omega,?_⟩,by omega⟩
 ·rw [List.all_eq_true]
  exact fun x hx=>a9 x (List.mem_of_mem_take hx)
 ·rw [List.all_eq_true]
  exact fun x hx=>a9 x (List.mem_of_mem_drop hx)
theorem sk (v:VQ) (i k n m:Nat):LikeV v (v.takes i k n m):=⟨rfl,rfl,rfl,rfl,rfl,rfl,rfl⟩
theorem tz (v:VQ) (i k n m:Nat):LikeV v (v.drops i k n m):=⟨rfl,rfl,rfl,rfl,rfl,rfl,rfl⟩
theorem pM {α:Type} {l:List α} {x:α} (n:Nat) (h:x∈l):x∈l.take n\/x∈l.drop n:=by
 rw [<- List.take_append_drop n l] at h
 exact List.mem_append.1 h
theorem Aq {v:VQ} {it:ItQ} (i k n m:Nat) (h:it∈aP v):it∈aP (v.takes i k n m)\/it∈aP (v.drops i k n m):=by
 unfold aP VQ.takes VQ.drops Led.takes Led.drops at *
 simp only [List.mem_append,List.mem_map] at h ⊢
 rcases h with ⟨x,hx,rfl⟩ | ⟨x,hx,rfl⟩ | ⟨x,hx,rfl⟩ | ⟨x,hx,rfl⟩
 ·rcases pM i hx with h | h
  ·exact .inl (.inl ⟨x,h,rfl⟩)
  ·exact .inr (.inl ⟨x,h,rfl⟩)
 ·rcases pM k hx with h | h
  ·exact .inl (.inr (.inl ⟨x,h,rfl⟩))
  ·exact .inr (.inr (.inl ⟨x,h,rfl⟩))
 ·rcases pM n hx with h | h
  ·exact .inl (.inr (.inr (.inl ⟨x,h,rfl⟩)))
  ·exact .inr (.inr (.inr (.inl ⟨x,h,rfl⟩)))
 ·rcases pM m hx with h | h
  ·exact .inl (.inr (.inr (.inr ⟨x,h,rfl⟩)))
  ·exact .inr (.inr (.inr (.inr ⟨x,h,rfl⟩)))
theorem DW {v:VQ} {it:ItQ} (i k n m:Nat) (h:it∈aP (v.takes i k n m)\/it∈aP (v.drops i k n m)):it∈aP v:=by
 unfold aP VQ.takes VQ.drops Led.takes Led.drops at *
 simp only [List.mem_append,List.mem_map] at h ⊢
 rcases h with (⟨x,hx,rfl⟩ | ⟨x,hx,rfl⟩ | ⟨x,hx,rfl⟩ | ⟨x,hx,rfl⟩) | (⟨x,hx,rfl⟩ | ⟨x,hx,rfl⟩ | ⟨x,hx,rfl⟩ | ⟨x,hx,rfl⟩)
 ·exact .inl ⟨x,List.mem_of_mem_take hx,rfl⟩
 ·exact .inr (.inl ⟨x,List.mem_of_mem_take hx,rfl⟩)
 ·exact .inr (.inr (.inl ⟨x,List.mem_of_mem_take hx,rfl⟩))
 ·exact .inr (.inr (.inr ⟨x,List.mem_of_mem_take hx,rfl⟩))
 ·exact .inl ⟨x,List.mem_of_mem_drop hx,rfl⟩
 ·exact .inr (.inl ⟨x,List.mem_of_mem_drop hx,rfl⟩)
 ·exact .inr (.inr (.inl ⟨x,List.mem_of_mem_drop hx,rfl⟩))
 ·exact .inr (.inr (.inr ⟨x,List.mem_of_mem_drop hx,rfl⟩))
theorem pg {α:Type} (f:α->Int) (l:List α) (n:Nat):(l.map f).sum=((l.take n).map f).sum+((l.drop n).map f).sum:=by
 conv=>lhs;rw [<- List.take_append_drop n l]
 rw [List.map_append,List.sum_append_int]
theorem DV (v:VQ) (f:ItQ->Int) (i k n m:Nat):((aP v).map f).sum=((aP (v.takes i k n m)).map f).sum+((aP (v.drops i k n m)).map f).sum:=by
 unfold aP VQ.takes VQ.drops Led.takes Led.drops
 simp only [List.map_append,List.sum_append_int,List.map_map]
 rw [pg _ v.g.h i,pg _ v.g.c k,pg _ v.g.p n,pg _ v.acs m]
 omega
theorem w6 {v:VQ} {ls:List LnQ} (hc:cM v=true) (hr:bz v (aP v)=.ok ls):aZ v=if ba ls < -1000000000000000\/ba ls > 1000000000000000 then (dJ,33) else (⟨v.cur,v.day,v.known,ls,ba ls⟩,0):=by
 unfold aZ
 rw [hc,hr]
 rfl
theorem Dy {v:VQ} (h:(aZ v).2≠0) (hc:cM v=true) (i k n m:Nat):(aZ (v.takes i k n m)).2≠0\/(aZ (v.drops i k n m)).2≠0\/(aZ v).2=33:=by
 rcases Jd hc h with ⟨it,hi,e,he⟩ | h3
 ·have key:∀ w:VQ,LikeV v w->it∈aP w->(aZ w).2≠0:=fun w hl hm h0=>by
    obtain ⟨-,ls,hr,-⟩:=o7 h0
    obtain ⟨y,hy⟩:=sC hr it hm
    rw [hl.step,he] at hy
    cases hy
  rcases Aq i k n m hi with h1 | h1
  ·exact .inl (key _ (sk v i k n m) h1)
  ·exact .inr (.inl (key _ (tz v i k n m) h1))
 ·exact .inr (.inr h3)
theorem Ae {v:VQ} (h:(aZ v).2=0) (i k n m:Nat):(aZ (v.takes i k n m)).2=33\/(aZ (v.drops i k n m)).2=33\/((aZ (v.takes i k n m)).2=0/\(aZ (v.drops i k n m)).2=0/\(aZ (v.takes i k n m)).1.total+(aZ (v.drops i k n m)).1.total=(aZ v).1.total/\(aZ (v.takes i k n m)).1.lines.length+(aZ (v.drops i k n m)).1.lines.length=(aZ v).1.lines.length):=by
 obtain ⟨hc,ls,hr,ht,he⟩:=o7 h
 obtain ⟨c1,c2⟩:=y9 hc i k n m
 have L1:=sk v i k n m
 have L2:=tz v i k n m
 have S:=DV v (Le v) i k n m
 have sub:=fun it=>DW (v:=v) (it:=it) i k n m
 have n1:=gA (v.takes i k n m)
 have n2:=gA (v.drops i k n m)
 have n0:=gA v
 have nn:(aP (v.takes i k n m)).length+(aP (v.drops i k n m)).length=(aP v).length:=by
  rw [n1,n2,n0]
  simp only [VQ.takes,VQ.drops,Led.takes,Led.drops,List.length_take,List.length_drop]
  omega
 generalize v.takes i k n m=x at *
 generalize v.drops i k n m=y at *
 have A:=sC hr
 obtain ⟨lx,hx⟩:=ol (v:=v) (l:=aP x) fun it hit=>A it (sub it (.inl hit))
 obtain ⟨ly,hy⟩:=ol (v:=v) (l:=aP y) fun it hit=>A it (sub it (.inr hit))
 have tx:=pv hx
 have ty:=pv hy
 have tv:=pv hr
 have mx:=(eX hx).1
 have my:=(eX hy).1
 have mv:=(eX hr).1
 rw [<- lC L1.step] at hx
 rw [<- lC L2.step] at hy
 have vx:=w6 c1 hx
 have vy:=w6 c2 hy
 rw [he,vx,vy]
 by_cases b1:ba lx < -1000000000000000\/ba lx > 1000000000000000
 ·rw [if_pos b1]
  exact .inl rfl
 by_cases b2:ba ly < -1000000000000000\/ba ly > 1000000000000000
 ·rw [if_pos b2]
  exact .inr (.inl rfl)
 rw [if_neg b1,if_neg b2]
 exact .inr (.inr ⟨rfl,rfl,by show ba lx+ba ly=ba ls;omega,by show lx.length+ly.length=ls.length;omega⟩)
/-! ### a book of which no more is known -/
structure AlikeQ (k:Int) (xs ys:List QC):Prop where
 c:cf ys=cf xs
 v:eQ ys k=eQ xs k
theorem AlikeQ.cand {k:Int} {xs ys:List QC} (h:AlikeQ k xs ys) (p:PL) (ins:List UInt8) (day:Int):bq ys k p ins day=bq xs k p ins day:=by
 unfold bq io
 rw [h.c,h.v]
theorem AlikeQ.sel {k:Int} {xs ys:List QC} (h:AlikeQ k xs ys) (p:PL) (ins:List UInt8) (day:Int):oh ys k p ins day=oh xs k p ins day:=by
 unfold oh
 rw [h.cand]
 unfold io
 rw [h.c]
theorem AlikeQ.leg {k:Int} {xs ys:List QC} (h:AlikeQ k xs ys) (p:PL) (day:Int) (a b:List UInt8):iN ys k p day a b=iN xs k p day a b:=by
 unfold iN jl
 simp only [h.cand,h.sel]
theorem AlikeQ.rate {k:Int} {xs ys:List QC} (h:AlikeQ k xs ys) (p:PL) (day:Int) (u a b:List UInt8):cv ys k p day u a b=cv xs k p day u a b:=by
 unfold cv fV
 simp only [h.leg,h.c]
theorem AlikeQ.val {v:VQ} {ys:List QC} (h:AlikeQ v.known v.qs ys):aZ { v with qs:=ys }=aZ v:=by
 have hl:∀ i,aU { v with qs:=ys } i=aU v i:=fun i=>by
  cases i with
  | h x=>simp only [aU,h.cand,h.sel]
  | b x k=>rfl
  | f a=>rfl
 have hs:∀ i,bE { v with qs:=ys } i=bE v i:=fun i=>by
  unfold bE
  simp only [hl,h.rate]
 have hc:cM { v with qs:=ys }=cM v:=by
  unfold cM
  simp only [h.c]
 unfold aZ
 rw [hc,lC hs]
 rfl
theorem yd {D last:Int} {xs:List QC} {q r:QC} (hb:IsBook D last xs) (hd:0<=D/\D<=73048) (h0:0<=last) (hl:last<=60) (hn:xs.length<=4000) (h1:go D 61 q) (h2:go D 62 r):AlikeQ 60 xs ((xs++[q])++[r]):=by
 have b1:=hb.snoc h0 (show last < 61 by omega) h1 hd.1 hd.2 (by omega)
 have b2:=b1.snoc (by omega) (show (61:Int) < 62 by omega) h2 hd.1 hd.2 (by omega)
 have c0:=qh hb (by omega) (by omega)
 have c1:=qh b1 (by omega) (by rw [List.length_append,List.length_singleton];omega)
 have c2:=qh b2 (by omega) (by rw [List.length_append,List.length_append,List.length_singleton,List.length_singleton];omega)
 have ft:∀ l:List QC,l.filter (fun _=>true)=l:=fun l=>List.filter_eq_self.2 fun _ _=>rfl
 have v1:=wY (k:=60) (alive:=fun _=>true) c0 c1 (.inl (by rw [h1.2.2.2.2.1];omega))
 have v2:=wY (k:=60) (alive:=fun _=>true) c1 c2 (.inl (by rw [h2.2.2.2.2.1];omega))
 rw [ft,ft] at v1 v2
 exact ⟨by rw [c0,c2],by rw [v2,v1]⟩
/-! ### made valuations -/
theorem Bi {n d lo hi:Int} (hd:1<=d) (bn:Bd 60 n) (bd:Bd 60 d) (h1:lo*d<=n) (h2:n<=hi*d):dE (mkQ n d).1 lo hi=true:=by
 obtain ⟨r,e,hk,hv,-,-⟩:=mq (show 0 < d by omega) bn bd
 obtain ⟨-,-,hq,-,-⟩:=RQ.ok_bits hk
 rw [e]
 unfold dE
 simp only [Bool.and_eq_true,decide_eq_true_eq]
 refine ⟨hk,?_,?_⟩
 ·refine Int.le_of_mul_le_mul_right (a:=d) ?_ (by omega)
  rw [hv,Int.mul_assoc,Int.mul_comm r.q,<- Int.mul_assoc]
  exact Int.mul_le_mul_of_nonneg_right h1 (by omega)
 ·refine Int.le_of_mul_le_mul_right (a:=d) ?_ (by omega)
  rw [hv,Int.mul_assoc,Int.mul_comm r.q,<- Int.mul_assoc]
  exact Int.mul_le_mul_of_nonneg_right h2 (by omega)
def iF:List Bs:=[[97,117,100,105,116],[109,97,110,97,103,101,109,101,110,116],[99,117,115,116,111,100,121]]
structure AcM (D:Int) (a:AcQ):Prop where
 nm:a.nm∈iF
 rate:uA a.rate
 basis:1<=a.basis/\a.basis<=4
 exact:∃ n d:Int,a.exact=(mkQ n d).1/\0<=n/\n<=1000000/\1<=d/\d<=365
 paid:0<=a.paid/\a.paid<=a.exact.p / a.exact.q
 til:a.til=D
structure NeM (n:NeQ):Prop where
 ins:n.ins∈bK
 cur:n.cur∈jJ
 price:∃ a d:Int,n.price=(mkQ a d).1/\-50<=a/\a<=100000/\1<=d/\d<=1000
theorem sK {a:AcQ} (hb:dE a.exact 0 1000000000000=true):0<=a.exact.p / a.exact.q/\a.exact.p / a.exact.q<=1000000000000/\a.exact.p / a.exact.q<=jh a:=by
 unfold dE at hb
 simp only [Bool.and_eq_true,decide_eq_true_eq] at hb
 obtain ⟨hk,h0,h1⟩:=hb
 obtain ⟨-,-,hq,-,-⟩:=RQ.ok_bits hk
 have b0:0<=a.exact.p / a.exact.q:=Int.ediv_nonneg (by omega) (by omega)
 have b1:a.exact.p / a.exact.q<=1000000000000:=by
  have:=Int.ediv_le_ediv hq h1
  rw [Int.mul_ediv_cancel _ (show a.exact.q≠0 by omega)] at this
  exact this
 refine ⟨b0,b1,?_⟩
 have e1:a.exact.p*((tp (0:Int).toNat:Nat):Int)=a.exact.p:=Int.mul_one _
 have hz:a.exact.p / a.exact.q<=vU 6 a.exact.p a.exact.q/\vU 6 a.exact.p a.exact.q<=a.exact.p / a.exact.q+1:=by
  unfold vU
  split
  ·omega
  ·split<;>omega
 unfold jh f8
 rw [hk,e1]
 rw [if_neg (by decide),if_neg (by decide),if_neg (by decide)]
 generalize vU 6 a.exact.p a.exact.q=z at *
 unfold kR
 rw [if_neg (fun h=>h rfl),if_neg (by show ¬(z < _\/z > _);omega)]
 exact hz.1
theorem AcM.bet {D:Int} {a:AcQ} (h:AcM D a):dE a.exact 0 1000000000000=true:=by
 obtain ⟨n,d,e,h1,h2,h3,h4⟩:=h.exact
 rw [e]
 exact Bi h3 (uf (by omega) (by omega)) (uf (by omega) (by omega)) (by omega) (by omega)
theorem AcM.ok {D:Int} {a:AcQ} (h:AcM D a) (hD:0<=D/\D<=73048):cg a=true:=by
 have hn:cQ a.nm=true:=by
  have:∀ x∈iF,cQ x=true:=by decide
  exact this _ h.nm
 obtain ⟨f0,f1,f2⟩:=sK h.bet
 have hb:dE a.exact 0 1000000000000000=true:=by
  have hb:=h.bet
  unfold dE at hb ⊢
  simp only [Bool.and_eq_true,decide_eq_true_eq] at hb ⊢
  obtain ⟨hk,h0,h1⟩:=hb
  obtain ⟨-,-,hq,-,-⟩:=RQ.ok_bits hk
  exact ⟨hk,h0,by omega⟩
 have h3:=h.paid
 unfold cg o9
 simp only [Bool.and_eq_true,decide_eq_true_eq]
 exact ⟨⟨hn,h.rate.2.1,h.rate.2.2,ox h.basis⟩,hb,h3.1,by omega,ox (by rw [h.til];exact hD)⟩
theorem AcM.inn {D:Int} {a:AcQ} (h:AcM D a) (hD:0<=D/\D<=73048):a.In:=by
 obtain ⟨f0,f1,-⟩:=sK h.bet
 have h3:=h.paid
 have h4:=h.basis
 have h5:=h.til
 have hn:a.nm.length<=100:=by
  have:∀ x∈iF,x.length<=100:=by decide
  exact this _ h.nm
 obtain ⟨n,d,e,-⟩:=h.exact
 exact ⟨by omega,h.rate.1,by omega,by rw [e];exact cD _ _,by omega,by omega⟩
theorem NeM.one {n:NeQ} (h:NeM n):(dE n.price (-1000000000) 1000000000 && (cB n.ins && aF n.cur))=true:=by
 have h1:cB n.ins=true:=by
  have:∀ x∈bK,cB x=true:=by decide
  exact this _ h.ins
 have h2:aF n.cur=true:=by
  have:∀ x∈jJ,aF x=true:=by decide
  exact this _ h.cur
 obtain ⟨a,d,e,g1,g2,g3,g4⟩:=h.price
 rw [h1,h2,e,Bi g3 (uf (by omega) (by omega)) (uf (by omega) (by omega)) (by omega) (by omega)]
 rfl
theorem NeM.inn {n:NeQ} (h:NeM n):n.In:=by
 have h1:n.ins.length<=100:=by
  have:∀ x∈bK,x.length<=100:=by decide
  exact this _ h.ins
 have h2:n.cur.length<=100:=by
  have:∀ x∈jJ,x.length<=100:=by decide
  exact this _ h.cur
 obtain ⟨a,d,e,-⟩:=h.price
 exact ⟨by omega,by omega,by rw [e];exact cD _ _⟩
structure MdV (D:Int) (v:VQ):Prop where
 cur:v.cur∈jJ
 piv:v.piv=aV
 day:v.day=D
 known:6<=v.known/\v.known<=2147483647
 g:PfM 4 3 3 (min 73048 (D+1)) v.g
 qs:∃ last,6<=last/\last<=60/\IsBook D last v.qs
 ql:6<=v.qs.length/\v.qs.length<=14
 pol:v.pol.In/\bc v.pol=true
 srcs:∃ m,1<=m/\m<=4/\v.pol.srcs=bO.take m
 nst:v.nst.length<=1/\∀ n∈v.nst,NeM n
 acs:v.acs.length<=2/\∀ a∈v.acs,AcM D a
theorem MdV.chk {D:Int} {v:VQ} (h:MdV D v) (hD:0<=D/\D<=73048):cM v=true:=by
 have h1:aF v.cur=true:=by
  have:∀ x∈jJ,aF x=true:=by decide
  exact this _ h.cur
 have h2:aF v.piv=true:=by rw [h.piv];decide
 obtain ⟨last,l1,l2,hb⟩:=h.qs
 have h3:=qh hb (by omega) (by have:=h.ql;omega)
 have h4:bP v.g=true:=h.g.valid (by omega) (by omega) (by omega)
 have h5:jS v.nst=true:=by
  have n1:=h.nst.1
  unfold jS
  rw [Bool.and_eq_true,decide_eq_true_eq]
  refine ⟨cN fun i hi=>?_,by omega⟩
  obtain rfl:i=0:=by omega
  unfold Ag
  rw [List.getElem?_eq_getElem hi]
  simp only [List.take_zero,List.any_nil,Bool.not_false,Bool.and_true]
  exact (h.nst.2 _ (List.getElem_mem hi)).one
 have h6:v.acs.all cg=true:=List.all_eq_true.2 fun a ha=>(h.acs.2 a ha).ok hD
 have g1:=h.g.hl
 have g2:=h.g.cl
 have g3:=h.g.pl
 have g4:=h.acs.1
 have g5:=h.known
 unfold cM
 simp only [Bool.and_eq_true,decide_eq_true_eq]
 exact ⟨⟨h1,h2,ox (by rw [h.day];exact hD),ox (by omega)⟩,⟨h4,h3,h.pol.2,h5⟩,⟨by omega,h6⟩,by omega⟩
end Go.Proofs.YtklehfchdoikeaaGreatDoor
