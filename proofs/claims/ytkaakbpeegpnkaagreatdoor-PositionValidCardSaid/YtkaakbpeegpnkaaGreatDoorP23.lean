/- entries, what a fund has, and the order in which it is carried out: plain law. the sort of entries: ranges swapped, turned, sorted by insertion. the sort of entries: merged, in blocks; no condition. -/
import Derived.Test.YtkaakbpeegpnkaaGreatDoorP22
set_option maxRecDepth 100000
set_option maxHeartbeats 4000000
namespace Go.Proofs.YtkaakbpeegpnkaaGreatDoor
open Go Go.RowKit Go.SX
structure EC where
 kind:Int
 key:List UInt8
 day:Int
 settle:Int
 ins:List UInt8
 qty:Int
 amt:Int
 cur:List UInt8
 known:Int
 void:Bool
def EC.A (a:EC):Array Value:=#[.int .i64 a.kind,.string (S a.key),.int .i64 a.day,.int .i64 a.settle,.string (S a.ins),.int .i64 a.qty,.int .i64 a.amt,.string (S a.cur),.int .i64 a.known,.bool a.void]
structure EC.In (a:EC):Prop where
 key:a.key.length≤9223372036854775807
 ins:a.ins.length≤9223372036854775807
 cur:a.cur.length≤9223372036854775807
theorem EC.size (a:EC):a.A.size=10:=rfl
theorem EC.fits (a:EC):Fits a.A 10:=⟨rfl,by simp [EC.A,Value.oneCell']⟩
theorem EC.one (a:EC):a.A.all (·.oneCell')=true:=a.fits.one
theorem EC.g0 (a:EC):a.A[0]? = some (.int .i64 a.kind):=rfl
theorem EC.g1 (a:EC):a.A[1]? = some (.string (S a.key)):=rfl
theorem EC.g2 (a:EC):a.A[2]? = some (.int .i64 a.day):=rfl
theorem EC.g3 (a:EC):a.A[3]? = some (.int .i64 a.settle):=rfl
theorem EC.g4 (a:EC):a.A[4]? = some (.string (S a.ins)):=rfl
theorem EC.g5 (a:EC):a.A[5]? = some (.int .i64 a.qty):=rfl
theorem EC.g6 (a:EC):a.A[6]? = some (.int .i64 a.amt):=rfl
theorem EC.g7 (a:EC):a.A[7]? = some (.string (S a.cur)):=rfl
theorem EC.g8 (a:EC):a.A[8]? = some (.int .i64 a.known):=rfl
theorem EC.g9 (a:EC):a.A[9]? = some (.bool a.void):=rfl
def EC.beq (a b:EC):Bool:=(a.kind == b.kind) && (decide (a.key=b.key) && ((a.day == b.day) && ((a.settle == b.settle) && (decide (a.ins=b.ins) && ((a.qty == b.qty) && ((a.amt == b.amt) && (decide (a.cur=b.cur) && ((a.known == b.known) && ((a.void == b.void) && true)))))))))
def EC.nil (key:List UInt8) (known:Int):EC:=⟨0,key,0,0,[],0,0,[],known,true⟩
def EC.zero:EC:=⟨0,[],0,0,[],0,0,[],0,false⟩
def inB (n lo hi:Int):Bool:=decide (lo≤n) && decide (n≤hi)
def hdrE (a:EC):Bool:=inB a.key.length 1 64 && inB a.known 1 2147483647
def bodyE (a:EC):Bool:=inB a.day 0 a.settle && (decide (a.settle≤73048) && (inB a.amt (-1000000000000000) 1000000000000000 && curOk a.cur))
def kindE (a:EC):Bool :=
 if a.kind=1 then insOk a.ins && (!(a.qty == 0) && inB a.qty (-1000000000000000) 1000000000000000)
 else if a.kind=2 then decide (a.ins=[]) && (a.qty == 0)
 else false
def validE (a:EC):Bool:=hdrE a && (if a.void then a.beq (.nil a.key a.known) else bodyE a && kindE a)
/-! ### what a fund has, by plain functions -/
abbrev Bs:=List UInt8
abbrev Ky:=Bs×Int
def ltB:Bs→Bs→Bool
 | [],[]=>false
 | [],_ :: _=>true
 | _ :: _,[]=>false
 | a :: x,b :: y=>if a < b then true else if b < a then false else ltB x y
def ltK2 (a b:Ky):Bool:=if ltB a.1 b.1 then true else if ltB b.1 a.1 then false else decide (a.2 < b.2)
theorem ltB_irr:∀ a,ltB a a=false
 | []=>rfl
 | a :: x=>by rw [ltB,if_neg (UInt8.lt_irrefl a),if_neg (UInt8.lt_irrefl a),ltB_irr x]
theorem ltB_tr:∀ a b c,ltB a b=true→ltB b c=true→ltB a c=true
 | [],[],_,h,_=>by cases h
 | [],_ :: _,[],_,h=>by cases h
 | [],_ :: _,_ :: _,_,_=>rfl
 | _ :: _,[],_,h,_=>by cases h
 | _ :: _,_ :: _,[],_,h=>by cases h
 | a :: x,b :: y,c :: z,h1,h2=>by
  rw [ltB] at h1 h2 ⊢
  by_cases q1:a < b
  ·by_cases q2:b < c
   ·rw [if_pos (UInt8.lt_trans q1 q2)]
   ·rw [if_neg q2] at h2
    by_cases q3:c < b
    ·rw [if_pos q3] at h2;cases h2
    ·have:b=c:=by
       have e1:=UInt8.not_lt.1 q2
       have e2:=UInt8.not_lt.1 q3
       exact UInt8.le_antisymm e2 e1
     subst this
     rw [if_pos q1]
  ·rw [if_neg q1] at h1
   by_cases q4:b < a
   ·rw [if_pos q4] at h1;cases h1
   ·rw [if_neg q4] at h1
    have hab:a=b:=UInt8.le_antisymm (UInt8.not_lt.1 q4) (UInt8.not_lt.1 q1)
    subst hab
    by_cases q2:a < c
    ·rw [if_pos q2]
    ·rw [if_neg q2] at h2 ⊢
     by_cases q3:c < a
     ·rw [if_pos q3] at h2;cases h2
     ·rw [if_neg q3] at h2 ⊢
      exact ltB_tr x y z h1 h2
theorem ltB_tri:∀ a b,ltB a b=false→ltB b a=false→a=b
 | [],[],_,_=>rfl
 | [],_ :: _,h,_=>by cases h
 | _ :: _,[],_,h=>by cases h
 | a :: x,b :: y,h1,h2=>by
  rw [ltB] at h1 h2
  by_cases q1:a < b
  ·rw [if_pos q1] at h1;cases h1
  ·by_cases q2:b < a
   ·rw [if_pos q2] at h2;cases h2
   ·rw [if_neg q1,if_neg q2] at h1
    rw [if_neg q2,if_neg q1] at h2
    rw [UInt8.le_antisymm (UInt8.not_lt.1 q2) (UInt8.not_lt.1 q1),ltB_tri x y h1 h2]
theorem ltB_ok:StrictO ltB:=⟨ltB_irr,ltB_tr,ltB_tri⟩
theorem ltK2_ok:StrictO ltK2:=by
 refine ⟨fun a=>?_,fun a b c h1 h2=>?_,fun a b h1 h2=>?_⟩
 ·unfold ltK2
  rw [ltB_irr]
  simp
 ·unfold ltK2 at h1 h2 ⊢
  by_cases q1:ltB a.1 b.1=true
  ·by_cases q2:ltB b.1 c.1=true
   ·rw [if_pos (ltB_tr _ _ _ q1 q2)]
   ·rw [if_neg q2] at h2
    by_cases q3:ltB c.1 b.1=true
    ·rw [if_pos q3] at h2;cases h2
    ·have:b.1=c.1:=ltB_tri _ _ (by simpa using q2) (by simpa using q3)
     rw [← this,if_pos q1]
  ·rw [if_neg q1] at h1
   by_cases q4:ltB b.1 a.1=true
   ·rw [if_pos q4] at h1;cases h1
   ·rw [if_neg q4] at h1
    have hab:a.1=b.1:=ltB_tri _ _ (by simpa using q1) (by simpa using q4)
    rw [hab]
    by_cases q2:ltB b.1 c.1=true
    ·rw [if_pos q2]
    ·rw [if_neg q2] at h2 ⊢
     by_cases q3:ltB c.1 b.1=true
     ·rw [if_pos q3] at h2;cases h2
     ·rw [if_neg q3] at h2 ⊢
      simp only [decide_eq_true_eq] at h1 h2 ⊢
      omega
 ·unfold ltK2 at h1 h2
  by_cases q1:ltB a.1 b.1=true
  ·rw [if_pos q1] at h1;cases h1
  ·by_cases q2:ltB b.1 a.1=true
   ·rw [if_pos q2] at h2;cases h2
   ·rw [if_neg q1,if_neg q2] at h1
    rw [if_neg q2,if_neg q1] at h2
    simp only [decide_eq_false_iff_not] at h1 h2
    exact Prod.ext (ltB_tri _ _ (by simpa using q1) (by simpa using q2)) (by omega)
structure Led where
 h:List (Bs×Int)
 c:List (Ky×Int)
 p:List (Ky×Int)
def Led.zero:Led:=⟨[],[],[]⟩
def w64 (n:Int):Int:=IntKind.i64.wrap n
def holdL (h:List (Bs×Int)) (k:Bs) (n:Int):Except Int (List (Bs×Int)) :=
 if getA h k+n < 0 then .error 181 else if getA h k+n > 1000000000000000 then .error 171 else .ok (setA ltB h k (getA h k+n))
def payL (f:List (Ky×Int)) (k:Ky) (n:Int):List (Ky×Int):=setA ltK2 f k (w64 (getA f k+n))
def actL (g:Led) (a:AC):Except Int Led :=
 if (applyA a (getA g.h a.ins)).2≠0 then .error (applyA a (getA g.h a.ins)).2
 else match holdL (setA ltB g.h a.ins 0) (applyA a (getA g.h a.ins)).1.ins (applyA a (getA g.h a.ins)).1.qty with
  | .error e=>.error e
  | .ok h=>.ok ⟨h,payL g.c (a.cur,0) (applyA a (getA g.h a.ins)).1.cash,g.p⟩
def settleL (day:Int) (g:Led) (x:EC):Led :=
 if x.settle≤day then ⟨g.h,payL g.c (x.cur,0) x.amt,g.p⟩ else ⟨g.h,g.c,payL g.p (x.cur,x.settle) x.amt⟩
def entL (day:Int) (g:Led) (x:EC):Except Int Led :=
 if x.kind=2 then .ok (settleL day g x)
 else match holdL g.h x.ins x.qty with
  | .error e=>.error e
  | .ok h=>.ok { settleL day g x with h:=h }
abbrev Ev:=AC ⊕ EC
def dayO:Ev→Int
 | .inl a=>a.day
 | .inr x=>x.day
def stepL (day:Int) (g:Led):Ev→Except Int Led
 | .inl a=>actL g a
 | .inr x=>entL day g x
def runL (day:Int):Led→List Ev→Except Int Led
 | g,[]=>.ok g
 | g,o :: r=>match stepL day g o with
  | .error e=>.error e
  | .ok g'=>runL day g' r
def opsL (al:List AC) (xs:List EC) (day:Int):List Ev:=stabK dayO ((al.map (Sum.inl:AC→Ev)++xs.map (Sum.inr:EC→Ev)).filter fun o=>decide (dayO o≤day))
theorem ops_merge (al:List AC) (xs:List EC) (day:Int):opsL al xs day=(mergeK dayO ((stabK AC.day al).map (Sum.inl:AC→Ev)) ((stabK EC.day xs).map (Sum.inr:EC→Ev))).filter fun o=>decide (dayO o≤day):=by
 unfold opsL
 rw [← stabK_filter]
 congr 1
 rw [stabK_map (key:=AC.day) (key':=dayO) (Sum.inl:AC→Ev) (fun _=>rfl),stabK_map (key:=EC.day) (key':=dayO) (Sum.inr:EC→Ev) (fun _=>rfl)]
 exact ((Stab.merge dayO (stabK_stab dayO _) (stabK_stab dayO _)).eq dayO).symm
theorem flatMap_eq {α β:Type} {f g:α→List β}:∀ {l:List α},(∀ x∈l,f x=g x)→l.flatMap f=l.flatMap g
 | [],_=>rfl
 | a :: r,h=>by rw [List.flatMap_cons,List.flatMap_cons,h a (by simp),flatMap_eq fun x hx=>h x (by simp [hx])]
theorem ops_days (al:List AC) (xs:List EC) (day:Int) {D:List Int} (hD:D.Pairwise (· < ·)) (hm:∀ d,d∈D↔d≤day∧((∃ a∈al,a.day=d)∨∃ x∈xs,x.day=d)):opsL al xs day=D.flatMap fun d=>(al.filter fun a=>decide (a.day=d)).map (Sum.inl:AC→Ev)++(xs.filter fun x=>decide (x.day=d)).map (Sum.inr:EC→Ev):=by
 unfold opsL
 rw [← days_stab dayO hD]
 ·refine flatMap_eq fun d hd=>?_
  have h1:=(hm d).1 hd
  rw [List.filter_filter]
  have:(fun o:Ev=>atK dayO d o && decide (dayO o≤day))=atK dayO d:=by
   funext o
   unfold atK
   by_cases c:dayO o=d
   ·rw [decide_eq_true c,decide_eq_true (by omega)];rfl
   ·rw [decide_eq_false c];rfl
  rw [this,List.filter_append,List.filter_map,List.filter_map]
  rfl
 ·intro o ho
  obtain ⟨h1,h2⟩:=List.mem_filter.1 ho
  have h2:=of_decide_eq_true h2
  refine (hm _).2 ⟨h2,?_⟩
  rcases List.mem_append.1 h1 with h | h
  ·obtain ⟨a,ha,rfl⟩:=List.mem_map.1 h
   exact .inl ⟨a,ha,rfl⟩
  ·obtain ⟨x,hx,rfl⟩:=List.mem_map.1 h
   exact .inr ⟨x,hx,rfl⟩
def finE (g:Led):Int:=if g.h.length > 64∨g.c.length > 8 then 123 else if g.c.all (fun x=>inB x.2 (-1000000000000000) 1000000000000000) && g.p.all (fun x=>inB x.2 (-1000000000000000) 1000000000000000) then 0 else 33
def finL (g:Except Int Led):Led×Int:=match g with
 | .error e=>(.zero,e)
 | .ok g=>if finE g=0 then (g,0) else (.zero,finE g)
structure LedOk (g:Led):Prop where
 h:SrtA ltB g.h∧NzA g.h
 c:SrtA ltK2 g.c∧NzA g.c
 p:SrtA ltK2 g.p∧NzA g.p
 b:∀ x∈g.h,0≤x.2∧x.2≤1000000000000000
theorem LedOk.zero:LedOk .zero:=⟨⟨.nil,fun _ h=>by cases h⟩,⟨.nil,fun _ h=>by cases h⟩,⟨.nil,fun _ h=>by cases h⟩,fun _ h=>by cases h⟩
def fnW (g:FuncId):Value:=.func (.func g) #[] #[]

theorem offe (j:Nat):offAt 0 ((j:Nat):Int) ti47.size=j*10:=by
 show offAt 0 ((j:Nat):Int) 10=j*10
 simp [offAt]
def dayIne (M:List EC):Prop:=∀ z∈M,0≤z.day∧z.day≤73048
theorem dayIne_app {A B:List EC} (h:dayIne (A++B)):dayIne A∧dayIne B:=⟨fun z hz=>h z (by simp [hz]),fun z hz=>h z (by simp [hz])⟩
theorem cmp_e {a b:EC} (h1:0≤a.day∧a.day≤73048) (h2:0≤b.day∧b.day≤73048):Pure Tryz.prog 25 [SV.c (.agg a.A),SV.c (.agg b.A)] (.int .i64 (a.day - b.day)):=by
 have F1:=a.size
 have F2:=b.size
 have G1:=a.g2
 have G2:=b.g2
 generalize a.A=YA at *
 generalize b.A=YB at *
 refine sx_pure tt_ok mixed at25 _ _ rfl rfl fun w=>?_
 refine ⟨F1,F2,_,G1,_,G2,?_,trivial⟩
 rw [i64_in (by omega)];rfl
theorem swapR_e {E:Env} (hE:E.P=Tryz.prog) {x:Value} {n:Nat} (hx:IsL x n) {P U Q V R:List EC} (hn:n=(P++U++Q++V++R).length) (hs:n≤1000000000000) (hV:V.length=U.length) {a b k:Int} (ha:a=P.length) (hb:b=P.length+U.length+Q.length) (hk:k=U.length):OwnC E 175 [SV.c x,SV.c (.int .i64 a),SV.c (.int .i64 b),SV.c (.int .i64 k),SV.c (fnW 25)] ([(6000,Blk.own x 47 10 n (cat EC.A (P++U++Q++V++R)))]) (fun r W=>r=.tuple #[]∧W=[(6000,Blk.own x 47 10 n (cat EC.A (P++V++Q++U++R)))]):=by
 obtain ⟨xa,xc,rfl⟩:=hx.len
 subst ha hb hk
 simp only [List.length_append] at hn
 refine sx_ownC [] tt_ok mixed at175 E hE [SV.c (.slice xa n xc),SV.c (.int .i64 P.length),SV.c (.int .i64 (P.length+U.length+Q.length)),SV.c (.int .i64 U.length),SV.c (fnW 25)] ([(6000,Blk.own (.slice xa n xc) 47 10 n (cat EC.A (P++U++Q++V++R)))]) _ rfl rfl fun w X β hT=>?_
 refine ⟨fun q f m=>∃ (U1 U2 V1 V2 M':List EC),q=U2.length∧U=U1++U2∧V=V1++V2∧V1.length=U1.length∧M'=P++V1++U2++Q++U1++V2++R∧f=[(0,SV.c (.slice xa n xc)),(1,SV.c (.int .i64 P.length)),(2,SV.c (.int .i64 (P.length+U.length+Q.length))),(3,SV.c (.int .i64 U.length)),(10,SV.c (.int .i64 (U1.length:Nat)))]∧m=[(6000,Blk.own (.slice xa n xc) 47 10 n (cat EC.A M'))],U.length,⟨_,_,⟨[],U,[],V,P++U++Q++V++R,rfl,rfl,rfl,rfl,by simp,rfl,rfl⟩,⟨rfl,rfl,rfl,rfl,rfl,trivial⟩,⟨.inl rfl,trivial⟩,rfl⟩,?_⟩
 rintro q f m ⟨U1,U2,V1,V2,M',rfl,hU,hV',hl,hM,rfl,rfl⟩
 have hlU:U.length=U1.length+U2.length:=by rw [hU,List.length_append]
 have hlV:V.length=V1.length+V2.length:=by rw [hV',List.length_append]
 refine ⟨fun h=>?_,fun h=>?_⟩
 ·have h:(U1.length:Int) < U.length:=of_decide_eq_true h
  rcases hx with ⟨hs1,hs2⟩ | ⟨g0,c0,hs1⟩
  ·omega
  cases hs1
  cases U2 with
  | nil=>simp at hlU;omega
  | cons u U2 =>
  cases V2 with
  | nil=>simp at hlV;simp at hlU;omega
  | cons v V2 =>
  simp only [List.length_cons] at hlU hlV
  have hM2:M'=(P++V1)++u :: ((U2++Q++U1)++v :: (V2++R)):=by rw [hM];simp
  have hA:(P++V1).length=P.length+U1.length:=by rw [List.length_append,hl]
  have hB:(P++V1).length+1+(U2++Q++U1).length=P.length+U.length+Q.length+U1.length:=by simp only [List.length_append,hl];omega
  have g1:M'[P.length+U1.length]? = some u:=by rw [hM2,← hA];exact at_mid _ _ _
  have g2:M'[P.length+U.length+Q.length+U1.length]? = some v:=by rw [hM2,← hB];exact at_two _ _ _ _ _
  have hsw:(M'.set (P.length+U1.length) v).set (P.length+U.length+Q.length+U1.length) u=(P++V1)++v :: ((U2++Q++U1)++u :: (V2++R)):=by rw [hM2,← hA,← hB];exact swap_two _ _ _ _ _
  have hlen:M'.length=n:=by rw [hM2];simp only [List.length_append,List.length_cons];omega
  have e1:IntKind.i64.wrap ((P.length:Int)+U1.length)=((P.length+U1.length:Nat):Int):=by rw [i64_in (by omega)];omega
  have e2:IntKind.i64.wrap ((P.length:Int)+U.length+Q.length+U1.length)=((P.length+U.length+Q.length+U1.length:Nat):Int):=by rw [i64_in (by omega)];omega
  have L1:=cat_extract EC.size g1
  have L2:=cat_extract EC.size g2
  have st1:splice (cat EC.A M') ((P.length+U1.length)*10) v.A.toList=cat EC.A (M'.set (P.length+U1.length) v):=cat_set EC.size (by omega) v
  have st2:splice (cat EC.A (M'.set (P.length+U1.length) v)) ((P.length+U.length+Q.length+U1.length)*10) u.A.toList=cat EC.A ((M'.set (P.length+U1.length) v).set (P.length+U.length+Q.length+U1.length) u):=cat_set EC.size (by rw [List.length_set];omega) u
  have s1:(cat EC.A M').size=n*10:=by rw [Go.SX.cat_size EC.size,hlen]
  have s2:(cat EC.A (M'.set (P.length+U1.length) v)).size=n*10:=by rw [Go.SX.cat_size EC.size,List.length_set,hlen]
  rw [hsw] at st2
  have j1:(P.length+U1.length)*10+10≤(cat EC.A M').size:=by rw [s1];omega
  have j2:(P.length+U.length+Q.length+U1.length)*10+10≤(cat EC.A M').size:=by rw [s1];omega
  have j3:(P.length+U.length+Q.length+U1.length)*10+10≤(cat EC.A (M'.set (P.length+U1.length) v)).size:=by rw [s2];omega
  have UF:=u.fits
  have VF:=v.fits
  have hout:(P++V1)++v :: ((U2++Q++U1)++u :: (V2++R))=P++(V1++[v])++U2++Q++(U1++[u])++V2++R:=by simp
  rw [hout] at st2
  generalize hX:cat EC.A M'=XA at *
  generalize hX2:cat EC.A (M'.set (P.length+U1.length) v)=XB at *
  generalize hY:u.A=UA at *
  generalize hY2:v.A=VA at *
  refine ⟨by rw [e2];omega,by rw [e2];omega,.inr ⟨6000,g0,_,n,_,_,_,_,rfl,rfl,(by rw [e2,offe];exact j2),VA,(by rw [e2,offe];exact L2),?_⟩⟩
  refine ⟨by rw [e1];omega,by rw [e1];omega,.inr ⟨6000,g0,_,n,_,_,_,_,rfl,rfl,(by rw [e1,offe];exact j1),UA,(by rw [e1,offe];exact L1),?_⟩⟩
  refine ⟨by rw [e1];omega,by rw [e1];omega,⟨6000,g0,_,n,_,_,_,_,rfl,rfl,(by rw [e1,offe];exact j1),VF,XB,(by rw [e1,offe];exact st1),?_⟩⟩
  refine ⟨by rw [e2];omega,by rw [e2];omega,⟨6000,g0,_,n,_,_,_,_,rfl,rfl,(by rw [e2,offe];exact j3),UF,cat EC.A (P++(V1++[v])++U2++Q++(U1++[u])++V2++R),(by rw [e2,offe];exact st2),?_⟩⟩
  refine ⟨by kernel_rfl,U2.length,_,_,by simp,⟨U1++[u],U2,V1++[v],V2,_,rfl,by rw [hU];simp,by rw [hV'];simp,by simp [hl],rfl,rfl,rfl⟩,⟨rfl,rfl,rfl,rfl,c_int (by rw [i64_succ (by omega),List.length_append];rfl),trivial⟩,⟨.inl rfl,trivial⟩,rfl⟩
 ·have h:¬ (U1.length:Int) < U.length:=of_decide_eq_false h
  have h2:U2=[]:=List.eq_nil_of_length_eq_zero (by omega)
  have h3:V2=[]:=List.eq_nil_of_length_eq_zero (by omega)
  subst h2 h3
  rw [List.append_nil] at hU hV'
  refine ⟨[(6000,Blk.own (.slice xa n xc) 47 10 n (cat EC.A M'))],[],⟨rfl,?_⟩,⟨.inl rfl,trivial⟩,rfl⟩
  rw [hM,hU,hV'];simp

theorem ld_e {M:List EC} {n:Nat} (hlen:M.length=n) {k:Nat} {y:EC} (h:M[k]? = some y) {iv:Int} (e:iv=((k:Nat):Int)):(0≤iv∧iv < (n:Int))∧offAt 0 iv ti47.size+10≤(cat EC.A M).size∧(cat EC.A M).extract (offAt 0 iv ti47.size) (offAt 0 iv ti47.size+10)=y.A:=by
 have hk:=(List.getElem?_eq_some_iff.1 h).1
 subst e
 refine ⟨⟨by omega,by omega⟩,?_,?_⟩
 ·rw [offe,Go.SX.cat_size EC.size]
  have:(k+1)*10≤M.length*10:=Nat.mul_le_mul_right 10 hk
  omega
 ·rw [offe];exact cat_extract EC.size h
theorem st_e {M:List EC} {n:Nat} (hlen:M.length=n) {k:Nat} (hk:k < n) (y:EC) {iv:Int} (e:iv=((k:Nat):Int)):(0≤iv∧iv < (n:Int))∧offAt 0 iv ti47.size+10≤(cat EC.A M).size∧splice (cat EC.A M) (offAt 0 iv ti47.size) y.A.toList=cat EC.A (M.set k y):=by
 subst e
 refine ⟨⟨by omega,by omega⟩,?_,?_⟩
 ·rw [offe,Go.SX.cat_size EC.size]
  have:(k+1)*10≤M.length*10:=Nat.mul_le_mul_right 10 (by omega)
  omega
 ·rw [offe];exact cat_set EC.size (by omega) y
theorem rot_e {E:Env} (hE:E.P=Tryz.prog) {x:Value} {n:Nat} (hx:IsL x n) {P U V R:List EC} (hn:n=(P++U++V++R).length) (hs:n≤1000000000000) (hU0:0 < U.length) (hV0:0 < V.length) {a m b:Int} (ha:a=P.length) (hm:m=P.length+U.length) (hb:b=P.length+U.length+V.length):OwnC E 130 [SV.c x,SV.c (.int .i64 a),SV.c (.int .i64 m),SV.c (.int .i64 b),SV.c (fnW 25)] ([(6000,Blk.own x 47 10 n (cat EC.A (P++U++V++R)))]) (fun r W=>r=.tuple #[]∧W=[(6000,Blk.own x 47 10 n (cat EC.A (P++V++U++R)))]):=by
 obtain ⟨xa,xc,rfl⟩:=hx.len
 subst ha hm hb
 simp only [List.length_append] at hn
 refine sx_ownC [] tt_ok mixed at130 E hE [SV.c (.slice xa n xc),SV.c (.int .i64 P.length),SV.c (.int .i64 (P.length+U.length)),SV.c (.int .i64 (P.length+U.length+V.length)),SV.c (fnW 25)] ([(6000,Blk.own (.slice xa n xc) 47 10 n (cat EC.A (P++U++V++R)))]) _ rfl rfl fun w X β hT=>?_
 have SW:=fun (P U Q V R:List EC) (hn:n=(P++U++Q++V++R).length) (hV:V.length=U.length) (a b k:Int) (ha:a=P.length) (hb:b=P.length+U.length+Q.length) (hk:k=U.length)=>swapR_e (E:=(envC Tryz.prog tt Tryz.f130.ntmps w X (tiedK ([(6000,Blk.own (.slice xa n xc) 47 10 n (cat EC.A (P++U++V++R)))]) β)).toEnv) rfl hx hn hs hV ha hb hk
 refine ⟨fun q f m=>∃ (P' U' V' R' M':List EC),q=U'.length+V'.length∧M'=P'++U'++V'++R'∧P'.length+U'.length=P.length+U.length∧n=P'.length+U'.length+V'.length+R'.length∧0 < U'.length∧0 < V'.length∧P++V++U++R=P'++V'++U'++R'∧f=[(0,SV.c (.slice xa n xc)),(2,SV.c (.int .i64 (P.length+U.length))),(4,SV.c (fnW 25)),(10,SV.c (.int .i64 (U'.length:Nat))),(11,SV.c (.int .i64 (V'.length:Nat)))]∧m=[(6000,Blk.own (.slice xa n xc) 47 10 n (cat EC.A M'))],U.length+V.length,⟨_,_,⟨P,U,V,R,P++U++V++R,rfl,rfl,rfl,by omega,hU0,hV0,rfl,rfl,rfl⟩,⟨rfl,rfl,rfl,c_int (by rw [i64_in (by omega)];omega),c_int (by rw [i64_in (by omega)];omega),trivial⟩,⟨.inl rfl,trivial⟩,rfl⟩,?_⟩
 rintro q f m ⟨P',U',V',R',M',rfl,hM,hPU,hn',hU1,hV1,hgoal,rfl,rfl⟩
 refine ⟨fun h=>?_,fun h=>?_⟩
 ·have h:((U'.length:Int) != V'.length)=true:=h
  have h:U'.length≠V'.length:=by
   intro e;rw [e] at h;simp at h
  refine ⟨fun g=>?_,fun g=>?_⟩
  ·have g:(U'.length:Int) > V'.length:=of_decide_eq_true g
   obtain ⟨U1,U2,rfl,hl⟩:∃ U1 U2,U'=U1++U2∧U1.length=V'.length:=⟨U'.take V'.length,U'.drop V'.length,(List.take_append_drop _ _).symm,by rw [List.length_take];omega⟩
   rw [List.length_append] at hPU hn' hU1 g h
   have C1:=SW P' U1 U2 V' R' (by simp only [List.length_append];omega) hl.symm (IntKind.i64.wrap ((P.length+U.length:Int) - ((U1++U2).length:Nat))) (P.length+U.length) (V'.length:Nat) (by rw [List.length_append,i64_in (by omega)];omega) (by omega) (by omega)
   refine .inr (.inr (.inl ⟨[],[_,_,_,_,_],[_],_,[_],C1,rfl,⟨.inl (own_eq (congrArg (cat EC.A) (by rw [hM];simp))),trivial⟩,rfl,rfl,?_⟩))
   refine ⟨U2.length+V'.length,_,_,by rw [List.length_append];omega,⟨P'++V',U2,U1,R',P'++V'++U2++U1++R',by omega,rfl,by rw [List.length_append];omega,by rw [List.length_append];omega,by omega,by omega,by rw [hgoal];simp,rfl,rfl⟩,⟨rfl,rfl,rfl,c_int (by rw [List.length_append,i64_in (by omega)];omega),c_int (by omega),trivial⟩,⟨.inl rfl,trivial⟩,rfl⟩
  ·have g:¬ (U'.length:Int) > V'.length:=of_decide_eq_false g
   obtain ⟨V1,V2,rfl,hl⟩:∃ V1 V2,V'=V1++V2∧V2.length=U'.length:=⟨V'.take (V'.length - U'.length),V'.drop (V'.length - U'.length),(List.take_append_drop _ _).symm,by rw [List.length_drop];omega⟩
   rw [List.length_append] at hn' hV1 g h
   have C1:=SW P' U' V1 V2 R' (by simp only [List.length_append];omega) hl (IntKind.i64.wrap ((P.length+U.length:Int) - (U'.length:Nat))) (IntKind.i64.wrap (IntKind.i64.wrap ((P.length+U.length:Int)+((V1++V2).length:Nat)) - (U'.length:Nat))) (U'.length:Nat) (by rw [i64_in (by omega)];omega) (by rw [List.length_append,i64_in (x:=(P.length+U.length:Int)+_) (by omega),i64_in (by omega)];omega) (by omega)
   refine .inr (.inr (.inl ⟨[],[_,_,_,_,_],[_],_,[_],C1,rfl,⟨.inl (own_eq (congrArg (cat EC.A) (by rw [hM];simp))),trivial⟩,rfl,rfl,?_⟩))
   refine ⟨U'.length+V1.length,_,_,by rw [List.length_append];omega,⟨P',V2,V1,U'++R',P'++V2++V1++U'++R',by omega,by simp,by omega,by rw [List.length_append];omega,by omega,by omega,by rw [hgoal];simp,rfl,rfl⟩,⟨rfl,rfl,rfl,c_int (by omega),c_int (by rw [List.length_append,i64_in (by omega)];omega),trivial⟩,⟨.inl rfl,trivial⟩,rfl⟩
 ·have h:((U'.length:Int) != V'.length)=false:=h
  have h:U'.length=V'.length:=by simp at h;omega
  have C1:=SW P' U' [] V' R' (by simp only [List.length_append,List.length_nil];omega) h.symm (IntKind.i64.wrap ((P.length+U.length:Int) - (U'.length:Nat))) (P.length+U.length) (U'.length:Nat) (by rw [i64_in (by omega)];omega) (by simp;omega) (by omega)
  refine .inr (.inr (.inl ⟨[],[_,_,_,_,_],[_],_,[_],C1,rfl,⟨.inl (own_eq (congrArg (cat EC.A) (by rw [hM];simp))),trivial⟩,rfl,rfl,?_⟩))
  refine ⟨[(6000,Blk.own (.slice xa n xc) 47 10 n (cat EC.A (P'++V'++[]++U'++R')))],[],⟨rfl,?_⟩,⟨.inl rfl,trivial⟩,rfl⟩
  rw [hgoal];simp

theorem insrt_e {E:Env} (hE:E.P=Tryz.prog) {x:Value} {n:Nat} (hx:IsL x n) {P L R:List EC} (hn:n=(P++L++R).length) (hs:n≤1000000000000) (hd:dayIne L) {a b:Int} (ha:a=P.length) (hb:b=P.length+L.length):OwnC E 87 [SV.c x,SV.c (.int .i64 a),SV.c (.int .i64 b),SV.c (fnW 25)] ([(6000,Blk.own x 47 10 n (cat EC.A (P++L++R)))]) (fun r W=>r=.tuple #[]∧W=[(6000,Blk.own x 47 10 n (cat EC.A (P++stabK EC.day L++R)))]):=by
 obtain ⟨xa,xc,rfl⟩:=hx.len
 subst ha hb
 simp only [List.length_append] at hn
 refine sx_ownC [] tt_ok mixed at87 E hE [SV.c (.slice xa n xc),SV.c (.int .i64 P.length),SV.c (.int .i64 (P.length+L.length)),SV.c (fnW 25)] ([(6000,Blk.own (.slice xa n xc) 47 10 n (cat EC.A (P++L++R)))]) _ rfl rfl fun w X β hT=>?_
 refine ⟨fun q f m=>∃ (i:Nat) (M':List EC),q=L.length+1 - i∧1≤i∧(i≤L.length∨i=1)∧M'=P++((sortR (ltK EC.day) (L.take i)).reverse++(L.drop i++R))∧f=[(0,SV.c (.slice xa n xc)),(1,SV.c (.int .i64 P.length)),(2,SV.c (.int .i64 (P.length+L.length))),(3,SV.c (fnW 25)),(8,SV.c (.int .i64 ((P.length+i:Nat):Int)))]∧m=[(6000,Blk.own (.slice xa n xc) 47 10 n (cat EC.A M'))],L.length,⟨_,_,⟨1,P++L++R,by omega,by omega,by omega,?_,rfl,rfl⟩,⟨rfl,rfl,rfl,rfl,c_int (by rw [i64_in (by omega)];omega),trivial⟩,⟨.inl rfl,trivial⟩,rfl⟩,?_⟩
 ·cases L with
  | nil=>simp [sortR]
  | cons z r=>simp [sortR,insR]
 rintro q f m ⟨i,M',rfl,hi1,hi,hM',rfl,rfl⟩
 refine ⟨fun h=>?_,fun h=>?_⟩
 ·have h:i < L.length:=by have:=of_decide_eq_true h;omega
  obtain ⟨z,hz⟩:∃ z,L[i]? = some z:=⟨_,List.getElem?_eq_getElem (by omega)⟩
  rcases hx with ⟨hs1,hs2⟩ | ⟨g0,c0,hs1⟩
  ·omega
  cases hs1
  have hdr:L.drop i=z :: L.drop (i+1):=drop_at hz
  have hzd:=hd z (List.mem_of_getElem? hz)
  generalize hR:sortR (ltK EC.day) (L.take i)=Q at *
  have hRl:Q.length=i:=by rw [← hR,sortR_len];simp;omega
  have hRok:∀ y∈Q,0≤y.day∧y.day≤73048:=fun y hy=>by
   rw [← hR,sortR_mem] at hy
   exact hd y (List.mem_of_mem_take hy)
  refine ⟨fun q f m=>∃ (r1 r2:List EC) (M':List EC),q=r2.length∧r1++r2=Q∧insR (ltK EC.day) z Q=r1++insR (ltK EC.day) z r2∧M'=P++(r2.reverse++z :: (r1.reverse++(L.drop (i+1)++R)))∧f=[(0,SV.c (.slice (some ⟨g0,0,none⟩) n xc)),(1,SV.c (.int .i64 P.length)),(2,SV.c (.int .i64 (P.length+L.length))),(3,SV.c (fnW 25)),(8,SV.c (.int .i64 ((P.length+i:Nat):Int))),(9,SV.c (.int .i64 ((P.length+r2.length:Nat):Int)))]∧m=[(6000,Blk.own (.slice (some ⟨g0,0,none⟩) n xc) 47 10 n (cat EC.A M'))],i,⟨_,_,⟨[],Q,M',hRl.symm,rfl,rfl,by rw [hM',hdr];simp,rfl,rfl⟩,⟨rfl,rfl,rfl,rfl,rfl,by rw [hRl];rfl,trivial⟩,⟨.inl rfl,trivial⟩,rfl⟩,?_⟩
  rintro q f m ⟨r1,r2,M2,rfl,hr12,hins,hM2,rfl,rfl⟩
  have hlen:M2.length=n:=by
   have h1:=congrArg List.length hr12
   rw [hM2]
   simp only [List.length_append,List.length_cons,List.length_reverse,List.length_drop] at *
   omega
  have fin:∀ r,insR (ltK EC.day) z Q=r→M2=P++(r.reverse++(L.drop (i+1)++R))→M2=P++((sortR (ltK EC.day) (L.take (i+1))).reverse++(L.drop (i+1)++R)):=fun r h1 h2=>by rw [sortR_take hz,hR,h1,h2]
  cases r2 with
  | nil =>
   refine ⟨fun c=>?_,fun _=>⟨by kernel_rfl,nofun,fun _=>?_⟩⟩
   ·have c:=of_decide_eq_true c
    simp at c
   exact ⟨L.length+1 - (i+1),_,_,by omega,⟨i+1,M2,rfl,by omega,by omega,fin _ hins (by rw [hM2,insR_nil'];simp),rfl,rfl⟩,⟨rfl,rfl,rfl,rfl,c_int (by rw [i64_in (by omega)];omega),trivial⟩,⟨.inl rfl,trivial⟩,rfl⟩
  | cons y r2 =>
   have hl12:r1.length+r2.length+1=i:=by have:=congrArg List.length hr12;simp at this;omega
   refine ⟨fun _=>?_,fun c=>?_⟩
   ·have ew:IntKind.i64.wrap (((P.length+(y :: r2).length:Nat):Int) - 1)=((P.length+r2.length:Nat):Int):=by
      rw [List.length_cons,i64_in (by omega)];omega
    have e0:((P.length+(y :: r2).length:Nat):Int)=((P.length+r2.length+1:Nat):Int):=by rw [List.length_cons];rfl
    have hM3:M2=(P++r2.reverse)++y :: z :: (r1.reverse++(L.drop (i+1)++R)):=by rw [hM2];simp
    have hA:(P++r2.reverse).length=P.length+r2.length:=by rw [List.length_append,List.length_reverse]
    have g1:M2[P.length+r2.length]? = some y:=by rw [hM3,← hA];exact at_mid _ _ _
    have g2:M2[P.length+r2.length+1]? = some z:=by rw [hM3,← hA];exact at_mid1 _ _ _ _
    have hyR:y∈Q:=by rw [← hr12];simp
    have K1:=cmp_e hzd (hRok y hyR)
    have hsw:((M2.set (P.length+r2.length+1) y).set (P.length+r2.length) z)=P++(r2.reverse++z :: ((r1++[y]).reverse++(L.drop (i+1)++R))):=by
     rw [hM3,← hA,swap_list];simp
    have D1:=ld_e hlen g1 ew
    have D2:=ld_e hlen g2 e0
    have S1:=st_e hlen (k:=P.length+r2.length+1) (by have:=(List.getElem?_eq_some_iff.1 g2).1;omega) y e0
    have S2:=st_e (M:=M2.set (P.length+r2.length+1) y) (n:=n) (by rw [List.length_set];exact hlen) (k:=P.length+r2.length) (by have:=(List.getElem?_eq_some_iff.1 g1).1;omega) z ew
    rw [hsw] at S2
    have YF:=y.fits
    have ZF:=z.fits
    generalize hX:cat EC.A M2=XA at *
    generalize hX2:cat EC.A (M2.set (P.length+r2.length+1) y)=XB at *
    generalize hY:z.A=ZA at *
    generalize hY2:y.A=YA at *
    refine ⟨D2.1.1,D2.1.2,.inr ⟨6000,g0,_,n,_,_,_,_,rfl,rfl,D2.2.1,ZA,D2.2.2,?_⟩⟩
    refine ⟨D1.1.1,D1.1.2,.inr ⟨6000,g0,_,n,_,_,_,_,rfl,rfl,D1.2.1,YA,D1.2.2,.inl ⟨_,K1,by kernel_rfl,fun c=>?_,fun c=>?_⟩⟩⟩
    ·have c:decide (z.day - y.day < 0)=true:=c
     have hl:ltK EC.day z y=true:=by have:=of_decide_eq_true c;unfold ltK;exact decide_eq_true (by omega)
     refine ⟨D1.1.1,D1.1.2,.inr ⟨6000,g0,_,n,_,_,_,_,rfl,rfl,D1.2.1,YA,D1.2.2,?_⟩⟩
     refine ⟨D2.1.1,D2.1.2,.inr ⟨6000,g0,_,n,_,_,_,_,rfl,rfl,D2.2.1,ZA,D2.2.2,?_⟩⟩
     refine ⟨S1.1.1,S1.1.2,⟨6000,g0,_,n,_,_,_,_,rfl,rfl,S1.2.1,YF,XB,S1.2.2,?_⟩⟩
     refine ⟨S2.1.1,S2.1.2,⟨6000,g0,_,n,_,_,_,_,rfl,rfl,S2.2.1,ZF,_,S2.2.2,?_⟩⟩
     exact ⟨by kernel_rfl,r2.length,_,_,by simp,⟨r1++[y],r2,_,rfl,by rw [← hr12];simp,by rw [hins,insR_go' hl];simp,rfl,rfl,rfl⟩,⟨rfl,rfl,rfl,rfl,rfl,c_int ew,trivial⟩,⟨.inl rfl,trivial⟩,rfl⟩
    ·have c:decide (z.day - y.day < 0)=false:=c
     have hl:ltK EC.day z y=false:=by have:=of_decide_eq_false c;unfold ltK;exact decide_eq_false (by omega)
     exact ⟨L.length+1 - (i+1),_,_,by omega,⟨i+1,M2,rfl,by omega,by omega,fin _ hins (by rw [hM2,insR_stop' hl];simp),rfl,rfl⟩,⟨rfl,rfl,rfl,rfl,c_int (by rw [i64_in (by omega)];omega),trivial⟩,⟨.inl (own_eq hX.symm),trivial⟩,rfl⟩
   ·have c:=of_decide_eq_false c
    rw [List.length_cons] at c
    omega
 ·have h:L.length≤i:=by have:=of_decide_eq_false h;omega
  have e1:M'=P++stabK EC.day L++R:=by
   rw [hM',List.take_of_length_le (by omega),List.drop_of_length_le (by omega)]
   simp [stabK]
  exact ⟨[(6000,Blk.own (.slice xa n xc) 47 10 n (cat EC.A M'))],[],⟨rfl,by rw [e1]⟩,⟨.inl rfl,trivial⟩,rfl⟩
end Go.Proofs.YtkaakbpeegpnkaaGreatDoor
namespace Go.Proofs.YtkaakbpeegpnkaaGreatDoor
open Go Go.RowKit Go.SX
theorem half_ij {i j:Nat} (h:i+j≤1000000000000000):IntKind.i64.wrap ((IntKind.u64.wrap (IntKind.i64.wrap ((i:Int)+j))).fdiv (2 ^ min (1:Int).toNat IntKind.u64.bits))=(((i+j) / 2:Nat):Int):=by
 have e1:IntKind.u64.wrap ((i:Int)+j)=((i+j:Nat):Int):=by
  rw [IntKind.wrap_u64];omega
 have e2:((2:Int) ^ min (1:Int).toNat IntKind.u64.bits)=2:=by decide
 rw [i64_in (x:=(i:Int)+j) (by omega),e1,e2,Int.fdiv_eq_ediv_of_nonneg _ (by decide),i64_in (by omega)]
 omega
section
variable {α:Type}
theorem at_A {P A B R:List α} {j:Nat} {y:α} (h:A[j]? = some y):(P++A++B++R)[P.length+j]? = some y:=by
 have hj:=(List.getElem?_eq_some_iff.1 h).1
 rw [List.append_assoc,List.append_assoc,List.getElem?_append_right (by omega),Nat.add_sub_cancel_left,List.getElem?_append_left hj]
 exact h
theorem at_B {P A B R:List α} {j:Nat} {y:α} (h:B[j]? = some y):(P++A++B++R)[P.length+A.length+j]? = some y:=by
 have hj:=(List.getElem?_eq_some_iff.1 h).1
 rw [List.append_assoc,List.getElem?_append_right (by rw [List.length_append];omega),List.length_append,Nat.add_sub_cancel_left,List.getElem?_append_left hj]
 exact h
variable (key:α→Int)
theorem sym_c1 {A1 A2 B1 B2:List α} (hA:Srt key (A1++A2)) (hB:Srt key (B1++B2)) {u h:Nat} (h1:A1.length=u) (h2:B1.length=h - u) (k:u=0∨u+(B1.length+B2.length)=h∨∃ x,(A1++A2)[u - 1]? = some x∧∃ y,(B1++B2)[h - u]? = some y∧key x≤key y):∀ x∈A1,∀ y∈B2,key x≤key y:=by
 intro x hx y hy
 unfold Srt at hA hB
 rw [List.pairwise_append] at hA hB
 rcases k with k | k | ⟨a,ha,b,hb,k⟩
 ·rw [k] at h1
  rw [List.eq_nil_of_length_eq_zero h1] at hx;cases hx
 ·have:B2=[]:=List.eq_nil_of_length_eq_zero (by omega)
  rw [this] at hy;cases hy
 ·have hu:0 < A1.length:=by
    rcases Nat.eq_zero_or_pos A1.length with e | e
    ·rw [List.eq_nil_of_length_eq_zero e] at hx;cases hx
    ·exact e
  rw [List.getElem?_append_left (by omega)] at ha
  rw [List.getElem?_append_right (by omega)] at hb
  have e1:key x≤key a:=by
   obtain ⟨i,hi⟩:=List.getElem?_of_mem hx
   have hil:=(List.getElem?_eq_some_iff.1 hi)
   have hal:=(List.getElem?_eq_some_iff.1 ha)
   rcases Nat.lt_or_ge i (u - 1) with q | q
   ·have:=List.pairwise_iff_getElem.1 hA.1 i (u - 1) hil.1 hal.1 q
    rw [hil.2,hal.2] at this
    exact this
   ·have:i=u - 1:=by have:=hil.1;omega
    subst this
    rw [hi] at ha;cases ha;exact Int.le_refl _
  have e2:key b≤key y:=by
   obtain ⟨i,hi⟩:=List.getElem?_of_mem hy
   have hil:=(List.getElem?_eq_some_iff.1 hi)
   have hbl:=(List.getElem?_eq_some_iff.1 hb)
   rcases Nat.eq_zero_or_pos i with q | q
   ·subst q
    rw [show h - u - B1.length=0 by omega,hi] at hb
    cases hb;exact Int.le_refl _
   ·have:=List.pairwise_iff_getElem.1 hB.2.1 (h - u - B1.length) i hbl.1 hil.1 (by omega)
    rw [hil.2,hbl.2] at this
    exact this
  omega
theorem sym_c2 {A1 A2 B1 B2:List α} (hA:Srt key (A1++A2)) (hB:Srt key (B1++B2)) {u h:Nat} (h1:A1.length=u) (h2:B1.length=h - u) (k:u=A1.length+A2.length∨u=h∨∃ x,(A1++A2)[u]? = some x∧∃ y,(B1++B2)[h - u - 1]? = some y∧key y < key x):∀ y∈B1,∀ x∈A2,key y < key x:=by
 intro y hy x hx
 unfold Srt at hA hB
 rw [List.pairwise_append] at hA hB
 rcases k with k | k | ⟨a,ha,b,hb,k⟩
 ·have:A2=[]:=List.eq_nil_of_length_eq_zero (by omega)
  rw [this] at hx;cases hx
 ·have:B1=[]:=List.eq_nil_of_length_eq_zero (by omega)
  rw [this] at hy;cases hy
 ·have hu:0 < B1.length:=by
    rcases Nat.eq_zero_or_pos B1.length with e | e
    ·rw [List.eq_nil_of_length_eq_zero e] at hy;cases hy
    ·exact e
  rw [List.getElem?_append_right (by omega)] at ha
  rw [List.getElem?_append_left (by omega)] at hb
  have e1:key y≤key b:=by
   obtain ⟨i,hi⟩:=List.getElem?_of_mem hy
   have hil:=(List.getElem?_eq_some_iff.1 hi)
   have hal:=(List.getElem?_eq_some_iff.1 hb)
   rcases Nat.lt_or_ge i (h - u - 1) with q | q
   ·have:=List.pairwise_iff_getElem.1 hB.1 i (h - u - 1) hil.1 hal.1 q
    rw [hil.2,hal.2] at this
    exact this
   ·have:i=h - u - 1:=by have:=hil.1;omega
    subst this
    rw [hi] at hb;cases hb;exact Int.le_refl _
  have e2:key a≤key x:=by
   obtain ⟨i,hi⟩:=List.getElem?_of_mem hx
   have hil:=(List.getElem?_eq_some_iff.1 hi)
   have hbl:=(List.getElem?_eq_some_iff.1 ha)
   rcases Nat.eq_zero_or_pos i with q | q
   ·subst q
    rw [show u - A1.length=0 by omega,hi] at ha
    cases ha;exact Int.le_refl _
   ·have:=List.pairwise_iff_getElem.1 hA.2.1 (u - A1.length) i hbl.1 hil.1 (by omega)
    rw [hil.2,hbl.2] at this
    exact this
  omega
end

theorem sym_e {x:Value} {n:Nat} (hx:IsL x n) (hs:n≤1000000000000):∀ (t:Nat) {E:Env} (_:E.P=Tryz.prog) {P A B R:List EC} (_:A.length+B.length≤t) (_:n=(P++A++B++R).length) (_:0 < A.length) (_:0 < B.length) (_:Srt EC.day A) (_:Srt EC.day B) (_:dayIne A) (_:dayIne B) {a m b:Int} (_:a=P.length) (_:m=P.length+A.length) (_:b=P.length+A.length+B.length),OwnC E 88 [SV.c x,SV.c (.int .i64 a),SV.c (.int .i64 m),SV.c (.int .i64 b),SV.c (fnW 25)] ([(6000,Blk.own x 47 10 n (cat EC.A (P++A++B++R)))]) (fun r W=>r=.tuple #[]∧W=[(6000,Blk.own x 47 10 n (cat EC.A (P++mergeK EC.day A B++R)))]):=by
 intro t
 induction t with
 | zero=>intro E _ P A B R h1 _ h2;omega
 | succ t ih =>
 intro E hE P A B R ht hn hA0 hB0 hsA hsB hdA hdB a m b ha hm hb
 obtain ⟨xa,xc,rfl⟩:=hx.len
 subst ha hm hb
 simp only [List.length_append] at hn
 refine sx_ownC [32,41,43] tt_ok mixed at88 E hE [SV.c (.slice xa n xc),SV.c (.int .i64 P.length),SV.c (.int .i64 (P.length+A.length)),SV.c (.int .i64 (P.length+A.length+B.length)),SV.c (fnW 25)] ([(6000,Blk.own (.slice xa n xc) 47 10 n (cat EC.A (P++A++B++R)))]) _ rfl rfl fun w X β hT=>?_
 have hE':(envC Tryz.prog tt Tryz.f88.ntmps w X (tiedK ([(6000,Blk.own (.slice xa n xc) 47 10 n (cat EC.A (P++A++B++R)))]) β)).toEnv.P=Tryz.prog:=rfl
 have RT:=fun (P U V R:List EC) hn h1 h2 (a m b:Int) ha hm hb=>rot_e hE' hx (P:=P) (U:=U) (V:=V) (R:=R) hn hs h1 h2 (a:=a) (m:=m) (b:=b) ha hm hb
 have SM:=fun (P A B R:List EC) h0 h1 h2 h3 h4 h5 h6 h7 (a m b:Int) ha hm hb=>ih hE' (P:=P) (A:=A) (B:=B) (R:=R) h0 h1 h2 h3 h4 h5 h6 h7 (a:=a) (m:=m) (b:=b) ha hm hb
 clear ih
 rcases hx with ⟨hs1,hs2⟩ | ⟨g0,c0,hs1⟩
 ·omega
 cases hs1
 refine ⟨fun h=>?_,fun h=>?_⟩
 ·have h:(IntKind.i64.wrap ((P.length+A.length:Int) - P.length) == 1)=true:=h
  have h:A.length=1:=by rw [i64_in (by omega)] at h;simp at h;omega
  match A,h with
  | [y],_ =>
  simp only [List.length_cons,List.length_nil] at hn hA0 ht
  have hyd:=hdA y (by simp)
  refine ⟨fun q f m=>∃ (B1 Bm B2:List EC),q=Bm.length∧B=B1++(Bm++B2)∧(∀ z∈B1,z.day < y.day)∧(∀ z∈B2,y.day≤z.day)∧f=[(0,SV.c (.slice (some ⟨g0,0,none⟩) n xc)),(1,SV.c (.int .i64 P.length)),(4,SV.c (fnW 25)),(10,SV.c (.int .i64 ((P.length+1+B1.length:Nat):Int))),(11,SV.c (.int .i64 ((P.length+1+B1.length+Bm.length:Nat):Int)))]∧m=[(6000,Blk.own (.slice (some ⟨g0,0,none⟩) n xc) 47 10 n (cat EC.A (P++[y]++B++R)))],B.length,⟨_,_,⟨[],B,[],rfl,by simp,by simp,by simp,rfl,rfl⟩,⟨rfl,rfl,rfl,c_int (by simp),c_int (by simp),trivial⟩,⟨.inl rfl,trivial⟩,rfl⟩,?_⟩
  rintro q f m ⟨B1,Bm,B2,rfl,hB,h1,h2,rfl,rfl⟩
  have hlB:B.length=B1.length+(Bm.length+B2.length):=by rw [hB,List.length_append,List.length_append]
  refine ⟨fun c=>?_,fun c=>?_⟩
  ·have c:0 < Bm.length:=by have:=of_decide_eq_true c;omega
   have hk:Bm.length / 2 < Bm.length:=by omega
   obtain ⟨z,hz⟩:∃ z,Bm[Bm.length / 2]? = some z:=⟨_,List.getElem?_eq_getElem hk⟩
   have hBm:Bm=Bm.take (Bm.length / 2)++z :: Bm.drop (Bm.length / 2+1):=by rw [← drop_at hz,List.take_append_drop]
   have hlt:(Bm.take (Bm.length / 2)).length=Bm.length / 2:=by rw [List.length_take];omega
   have hld:(Bm.drop (Bm.length / 2+1)).length=Bm.length - (Bm.length / 2+1):=List.length_drop
   generalize Bm.take (Bm.length / 2)=C1 at *
   generalize Bm.drop (Bm.length / 2+1)=C2 at *
   have ew:IntKind.i64.wrap ((IntKind.u64.wrap (IntKind.i64.wrap (((P.length+1+B1.length:Nat):Int)+((P.length+1+B1.length+Bm.length:Nat):Int)))).fdiv (2 ^ min (1:Int).toNat IntKind.u64.bits))=((P.length+1+B1.length+Bm.length / 2:Nat):Int):=by
    rw [half_ij (by omega)];congr 1;omega
   have hM1:P++[y]++B++R=P++y :: (B++R):=by simp
   have hM2:P++[y]++B++R=(P++[y]++B1++C1)++z :: (C2++B2++R):=by rw [hB,hBm];simp
   have hl2:(P++[y]++B1++C1).length=P.length+1+B1.length+Bm.length / 2:=by simp only [List.length_append,List.length_cons,List.length_nil,hlt]
   have g1:(P++[y]++B++R)[P.length]? = some y:=by rw [hM1];exact at_mid _ _ _
   have g2:(P++[y]++B++R)[P.length+1+B1.length+Bm.length / 2]? = some z:=by rw [hM2,← hl2];exact at_mid _ _ _
   have hlen:(P++[y]++B++R).length=n:=by simp only [List.length_append,List.length_cons,List.length_nil];omega
   have hzB:z∈B:=by rw [hB,hBm];simp
   have K1:=cmp_e (hdB z hzB) hyd
   have D1:=ld_e hlen g2 ew
   have D2:=ld_e hlen g1 (iv:=(P.length:Int)) rfl
   have hsB':=hsB
   rw [hB,hBm] at hsB'
   unfold Srt at hsB'
   simp only [List.pairwise_append,List.pairwise_cons] at hsB'
   generalize hX:cat EC.A (P++[y]++B++R)=XA at *
   generalize hY:z.A=ZA at *
   generalize hY2:y.A=YA at *
   refine ⟨by decide,D1.1.1,D1.1.2,.inr ⟨6000,g0,_,n,_,_,_,_,rfl,rfl,D1.2.1,ZA,D1.2.2,?_⟩⟩
   refine ⟨D2.1.1,D2.1.2,.inr ⟨6000,g0,_,n,_,_,_,_,rfl,rfl,D2.2.1,YA,D2.2.2,.inl ⟨_,K1,by kernel_rfl,fun c1=>?_,fun c1=>?_⟩⟩⟩
   ·have c1:decide (z.day - y.day < 0)=true:=c1
    have c1:=of_decide_eq_true c1
    refine ⟨C2.length,_,_,by omega,⟨B1++C1++[z],C2,B2,rfl,by rw [hB,hBm];simp,?_,h2,rfl,rfl⟩,⟨rfl,rfl,rfl,c_int (by rw [ew,i64_in (by omega)];simp only [List.length_append,List.length_cons,List.length_nil,hlt];omega),c_int (by simp only [List.length_append,List.length_cons,List.length_nil,hlt];omega),trivial⟩,⟨.inl rfl,trivial⟩,rfl⟩
    intro u hu
    simp only [List.mem_append,List.mem_singleton] at hu
    rcases hu with (hu | hu) | rfl
    ·exact h1 u hu
    ·have:=hsB'.2.1.1.2.2 u hu z (by simp)
     omega
    ·omega
   ·have c1:decide (z.day - y.day < 0)=false:=c1
    have c1:=of_decide_eq_false c1
    refine ⟨C1.length,_,_,by omega,⟨B1,C1,z :: (C2++B2),rfl,by rw [hB,hBm];simp,h1,?_,rfl,rfl⟩,⟨rfl,rfl,rfl,c_int rfl,c_int (by rw [ew,hlt]),trivial⟩,⟨.inl rfl,trivial⟩,rfl⟩
    intro u hu
    simp only [List.mem_cons,List.mem_append] at hu
    rcases hu with rfl | hu | hu
    ·omega
    ·have:=hsB'.2.1.1.2.1.1 u hu
     omega
    ·exact h2 u hu
  ·have c:Bm=[]:=List.eq_nil_of_length_eq_zero (by have:=of_decide_eq_false c;omega)
   subst c
   rw [List.nil_append] at hB
   have hgoal:mergeK EC.day [y] B=B1++y :: B2:=by rw [hB];exact merge_left1 EC.day h1 h2
   rw [hgoal]
   simp only [List.length_nil] at hlB
   refine ⟨fun q f m=>∃ (D1 D2 M':List EC),q=D2.length∧B1=D1++D2∧M'=(P++D1)++y :: (D2++B2++R)∧f=[(0,SV.c (.slice (some ⟨g0,0,none⟩) n xc)),(10,SV.c (.int .i64 ((P.length+1+B1.length:Nat):Int))),(13,SV.c (.int .i64 ((P.length+D1.length:Nat):Int)))]∧m=[(6000,Blk.own (.slice (some ⟨g0,0,none⟩) n xc) 47 10 n (cat EC.A M'))],B1.length,⟨_,_,⟨[],B1,P++[y]++B++R,rfl,rfl,by rw [hB];simp,rfl,rfl⟩,⟨rfl,rfl,c_int (by simp),trivial⟩,⟨.inl rfl,trivial⟩,rfl⟩,?_⟩
   rintro q f m ⟨D1,D2,M',rfl,hB1,hM,rfl,rfl⟩
   have hlB1:B1.length=D1.length+D2.length:=by rw [hB1,List.length_append]
   have ei:IntKind.i64.wrap (((P.length+1+B1.length:Nat):Int) - 1)=((P.length+B1.length:Nat):Int):=by rw [i64_in (by omega)];omega
   have hlen:M'.length=n:=by rw [hM];simp only [List.length_append,List.length_cons];omega
   refine ⟨fun c=>?_,fun c=>?_⟩
   ·have c:=of_decide_eq_true c
    rw [ei] at c
    cases D2 with
    | nil=>simp at hlB1;omega
    | cons z D2 =>
    simp only [List.length_cons] at hlB1
    have hl2:(P++D1).length=P.length+D1.length:=List.length_append
    have g1:M'[P.length+D1.length]? = some y:=by rw [hM,← hl2];exact at_mid _ _ _
    have g2:M'[P.length+D1.length+1]? = some z:=by rw [hM,← hl2];exact at_mid1 _ _ _ _
    have hsw:(M'.set (P.length+D1.length) z).set (P.length+D1.length+1) y=(P++(D1++[z]))++y :: (D2++B2++R):=by
     rw [hM,← hl2,List.cons_append,List.cons_append]
     have:=swap_two (P++D1) [] (D2++B2++R) y z
     rw [List.nil_append,List.length_nil,Nat.add_zero] at this
     rw [this];simp
    have ew:IntKind.i64.wrap (((P.length+D1.length:Nat):Int)+1)=((P.length+D1.length+1:Nat):Int):=by rw [i64_in (by omega)];omega
    have L1:=ld_e hlen g2 ew
    have L2:=ld_e hlen g1 (iv:=((P.length+D1.length:Nat):Int)) rfl
    have S1:=st_e hlen (k:=P.length+D1.length) (by omega) z (iv:=((P.length+D1.length:Nat):Int)) rfl
    have S2:=st_e (M:=M'.set (P.length+D1.length) z) (n:=n) (by rw [List.length_set];exact hlen) (k:=P.length+D1.length+1) (by omega) y ew
    rw [hsw] at S2
    have YF:=y.fits
    have ZF:=z.fits
    generalize hX:cat EC.A M'=XA at *
    generalize hX2:cat EC.A (M'.set (P.length+D1.length) z)=XB at *
    generalize hY:z.A=ZA at *
    generalize hY2:y.A=YA at *
    refine ⟨L1.1.1,L1.1.2,.inr ⟨6000,g0,_,n,_,_,_,_,rfl,rfl,L1.2.1,ZA,L1.2.2,?_⟩⟩
    refine ⟨L2.1.1,L2.1.2,.inr ⟨6000,g0,_,n,_,_,_,_,rfl,rfl,L2.2.1,YA,L2.2.2,?_⟩⟩
    refine ⟨S1.1.1,S1.1.2,⟨6000,g0,_,n,_,_,_,_,rfl,rfl,S1.2.1,ZF,XB,S1.2.2,?_⟩⟩
    refine ⟨S2.1.1,S2.1.2,⟨6000,g0,_,n,_,_,_,_,rfl,rfl,S2.2.1,YF,_,S2.2.2,?_⟩⟩
    exact ⟨by kernel_rfl,D2.length,_,_,by simp,⟨D1++[z],D2,_,rfl,by rw [hB1];simp,rfl,rfl,rfl⟩,⟨rfl,rfl,c_int (by rw [ew,List.length_append];rfl),trivial⟩,⟨.inl rfl,trivial⟩,rfl⟩
   ·have c:=of_decide_eq_false c
    rw [ei] at c
    have c:D2=[]:=List.eq_nil_of_length_eq_zero (by omega)
    subst c
    rw [List.append_nil] at hB1
    exact ⟨[(6000,Blk.own (.slice (some ⟨g0,0,none⟩) n xc) 47 10 n (cat EC.A M'))],[],⟨rfl,by rw [hM,hB1];simp⟩,⟨.inl rfl,trivial⟩,rfl⟩
 have h:(IntKind.i64.wrap ((P.length+A.length:Int) - P.length) == 1)=false:=h
 have h:A.length≠1:=by rw [i64_in (by omega)] at h;simp at h;omega
 refine ⟨fun h'=>?_,fun h'=>?_⟩
 ·have h':(IntKind.i64.wrap ((P.length+A.length+B.length:Int) - (P.length+A.length)) == 1)=true:=h'
  have h':B.length=1:=by rw [i64_in (by omega)] at h';simp at h';omega
  match B,h' with
  | [y],_ =>
  simp only [List.length_cons,List.length_nil] at hn hB0 ht
  have hyd:=hdB y (by simp)
  refine ⟨fun q f m=>∃ (A1 Am A2:List EC),q=Am.length∧A=A1++(Am++A2)∧(∀ z∈A1,z.day≤y.day)∧(∀ z∈A2,y.day < z.day)∧f=[(0,SV.c (.slice (some ⟨g0,0,none⟩) n xc)),(2,SV.c (.int .i64 (P.length+A.length))),(4,SV.c (fnW 25)),(14,SV.c (.int .i64 ((P.length+A1.length:Nat):Int))),(15,SV.c (.int .i64 ((P.length+A1.length+Am.length:Nat):Int)))]∧m=[(6000,Blk.own (.slice (some ⟨g0,0,none⟩) n xc) 47 10 n (cat EC.A (P++A++[y]++R)))],A.length,⟨_,_,⟨[],A,[],rfl,by simp,by simp,by simp,rfl,rfl⟩,⟨rfl,rfl,rfl,c_int (by simp),c_int (by simp),trivial⟩,⟨.inl rfl,trivial⟩,rfl⟩,?_⟩
  rintro q f m ⟨A1,Am,A2,rfl,hA,h1,h2,rfl,rfl⟩
  have hlA:A.length=A1.length+(Am.length+A2.length):=by rw [hA,List.length_append,List.length_append]
  refine ⟨fun c=>?_,fun c=>?_⟩
  ·have c:0 < Am.length:=by have:=of_decide_eq_true c;omega
   have hk:Am.length / 2 < Am.length:=by omega
   obtain ⟨z,hz⟩:∃ z,Am[Am.length / 2]? = some z:=⟨_,List.getElem?_eq_getElem hk⟩
   have hAm:Am=Am.take (Am.length / 2)++z :: Am.drop (Am.length / 2+1):=by rw [← drop_at hz,List.take_append_drop]
   have hlt:(Am.take (Am.length / 2)).length=Am.length / 2:=by rw [List.length_take];omega
   have hld:(Am.drop (Am.length / 2+1)).length=Am.length - (Am.length / 2+1):=List.length_drop
   generalize Am.take (Am.length / 2)=C1 at *
   generalize Am.drop (Am.length / 2+1)=C2 at *
   have ew:IntKind.i64.wrap ((IntKind.u64.wrap (IntKind.i64.wrap (((P.length+A1.length:Nat):Int)+((P.length+A1.length+Am.length:Nat):Int)))).fdiv (2 ^ min (1:Int).toNat IntKind.u64.bits))=((P.length+A1.length+Am.length / 2:Nat):Int):=by
    rw [half_ij (by omega)];congr 1;omega
   have hM1:P++A++[y]++R=(P++A)++y :: R:=by simp
   have hM2:P++A++[y]++R=(P++A1++C1)++z :: (C2++A2++[y]++R):=by rw [hA,hAm];simp
   have hl1:(P++A).length=P.length+A.length:=List.length_append
   have hl2:(P++A1++C1).length=P.length+A1.length+Am.length / 2:=by simp only [List.length_append,hlt]
   have g1:(P++A++[y]++R)[P.length+A.length]? = some y:=by rw [hM1,← hl1];exact at_mid _ _ _
   have g2:(P++A++[y]++R)[P.length+A1.length+Am.length / 2]? = some z:=by rw [hM2,← hl2];exact at_mid _ _ _
   have hlen:(P++A++[y]++R).length=n:=by simp only [List.length_append,List.length_cons,List.length_nil];omega
   have hzA:z∈A:=by rw [hA,hAm];simp
   have K1:=cmp_e hyd (hdA z hzA)
   have D1:=ld_e hlen g2 ew
   have D2:=ld_e hlen g1 (iv:=(P.length+A.length:Int)) rfl
   have hsA':=hsA
   rw [hA,hAm] at hsA'
   unfold Srt at hsA'
   simp only [List.pairwise_append,List.pairwise_cons] at hsA'
   generalize hX:cat EC.A (P++A++[y]++R)=XA at *
   generalize hY:z.A=ZA at *
   generalize hY2:y.A=YA at *
   refine ⟨by decide,D2.1.1,D2.1.2,.inr ⟨6000,g0,_,n,_,_,_,_,rfl,rfl,D2.2.1,YA,D2.2.2,?_⟩⟩
   refine ⟨D1.1.1,D1.1.2,.inr ⟨6000,g0,_,n,_,_,_,_,rfl,rfl,D1.2.1,ZA,D1.2.2,.inl ⟨_,K1,by kernel_rfl,fun c1=>?_,fun c1=>?_⟩⟩⟩
   ·have c1:(!decide (y.day - z.day < 0))=true:=c1
    have c1:¬ (y.day - z.day < 0):=by simpa using c1
    refine ⟨C2.length,_,_,by omega,⟨A1++C1++[z],C2,A2,rfl,by rw [hA,hAm];simp,?_,h2,rfl,rfl⟩,⟨rfl,rfl,rfl,c_int (by rw [ew,i64_in (by omega)];simp only [List.length_append,List.length_cons,List.length_nil,hlt];omega),c_int (by simp only [List.length_append,List.length_cons,List.length_nil,hlt];omega),trivial⟩,⟨.inl rfl,trivial⟩,rfl⟩
    intro u hu
    simp only [List.mem_append,List.mem_singleton] at hu
    rcases hu with (hu | hu) | rfl
    ·exact h1 u hu
    ·have:=hsA'.2.1.1.2.2 u hu z (by simp)
     omega
    ·omega
   ·have c1:(!decide (y.day - z.day < 0))=false:=c1
    have c1:y.day - z.day < 0:=by simpa using c1
    refine ⟨C1.length,_,_,by omega,⟨A1,C1,z :: (C2++A2),rfl,by rw [hA,hAm];simp,h1,?_,rfl,rfl⟩,⟨rfl,rfl,rfl,c_int rfl,c_int (by rw [ew,hlt]),trivial⟩,⟨.inl rfl,trivial⟩,rfl⟩
    intro u hu
    simp only [List.mem_cons,List.mem_append] at hu
    rcases hu with rfl | hu | hu
    ·omega
    ·have:=hsA'.2.1.1.2.1.1 u hu
     omega
    ·exact h2 u hu
  ·have c:Am=[]:=List.eq_nil_of_length_eq_zero (by have:=of_decide_eq_false c;omega)
   subst c
   rw [List.nil_append] at hA
   have hgoal:mergeK EC.day A [y]=A1++y :: A2:=by rw [hA];exact merge_one EC.day h1 h2
   rw [hgoal]
   simp only [List.length_nil] at hlA
   refine ⟨fun q f m=>∃ (D1 D2 M':List EC),q=D1.length∧A2=D1++D2∧M'=(P++A1++D1)++y :: (D2++R)∧f=[(0,SV.c (.slice (some ⟨g0,0,none⟩) n xc)),(14,SV.c (.int .i64 ((P.length+A1.length:Nat):Int))),(17,SV.c (.int .i64 ((P.length+A1.length+D1.length:Nat):Int)))]∧m=[(6000,Blk.own (.slice (some ⟨g0,0,none⟩) n xc) 47 10 n (cat EC.A M'))],A2.length,⟨_,_,⟨A2,[],P++A++[y]++R,rfl,by simp,by rw [hA];simp,rfl,rfl⟩,⟨rfl,rfl,c_int (by omega),trivial⟩,⟨.inl rfl,trivial⟩,rfl⟩,?_⟩
   rintro q f m ⟨D1,D2,M',rfl,hA2,hM,rfl,rfl⟩
   have hlA2:A2.length=D1.length+D2.length:=by rw [hA2,List.length_append]
   have hlen:M'.length=n:=by rw [hM];simp only [List.length_append,List.length_cons];omega
   refine ⟨fun c=>?_,fun c=>?_⟩
   ·have c:=of_decide_eq_true c
    have hne:D1≠[]:=by rintro rfl;simp at c
    obtain ⟨E1,z,rfl⟩:∃ E1 z,D1=E1++[z]:=⟨D1.dropLast,D1.getLast hne,(List.dropLast_concat_getLast hne).symm⟩
    have hl0:(E1++[z]).length=E1.length+1:=by simp
    rw [hl0] at hlA2 c ⊢
    have hl2:(P++A1++E1).length=P.length+A1.length+E1.length:=by simp only [List.length_append]
    have hM3:M'=(P++A1++E1)++z :: y :: (D2++R):=by rw [hM];simp
    have g1:M'[P.length+A1.length+E1.length]? = some z:=by rw [hM3,← hl2];exact at_mid _ _ _
    have g2:M'[P.length+A1.length+E1.length+1]? = some y:=by rw [hM3,← hl2];exact at_mid1 _ _ _ _
    have hsw:(M'.set (P.length+A1.length+E1.length+1) z).set (P.length+A1.length+E1.length) y=(P++A1++E1)++y :: ((z :: D2)++R):=by
     rw [hM3,← hl2,swap_list];rfl
    have ew:IntKind.i64.wrap (((P.length+A1.length+(E1.length+1):Nat):Int) - 1)=((P.length+A1.length+E1.length:Nat):Int):=by rw [i64_in (by omega)];omega
    have e0:((P.length+A1.length+(E1.length+1):Nat):Int)=((P.length+A1.length+E1.length+1:Nat):Int):=rfl
    have L1:=ld_e hlen g1 ew
    have L2:=ld_e hlen g2 e0
    have S1:=st_e hlen (k:=P.length+A1.length+E1.length+1) (by omega) z e0
    have S2:=st_e (M:=M'.set (P.length+A1.length+E1.length+1) z) (n:=n) (by rw [List.length_set];exact hlen) (k:=P.length+A1.length+E1.length) (by omega) y ew
    rw [hsw] at S2
    have YF:=y.fits
    have ZF:=z.fits
    generalize hX:cat EC.A M'=XA at *
    generalize hX2:cat EC.A (M'.set (P.length+A1.length+E1.length+1) z)=XB at *
    generalize hY:z.A=ZA at *
    generalize hY2:y.A=YA at *
    refine ⟨L1.1.1,L1.1.2,.inr ⟨6000,g0,_,n,_,_,_,_,rfl,rfl,L1.2.1,ZA,L1.2.2,?_⟩⟩
    refine ⟨L2.1.1,L2.1.2,.inr ⟨6000,g0,_,n,_,_,_,_,rfl,rfl,L2.2.1,YA,L2.2.2,?_⟩⟩
    refine ⟨S1.1.1,S1.1.2,⟨6000,g0,_,n,_,_,_,_,rfl,rfl,S1.2.1,ZF,XB,S1.2.2,?_⟩⟩
    refine ⟨S2.1.1,S2.1.2,⟨6000,g0,_,n,_,_,_,_,rfl,rfl,S2.2.1,YF,_,S2.2.2,?_⟩⟩
    exact ⟨by kernel_rfl,E1.length,_,_,by simp,⟨E1,z :: D2,_,rfl,by rw [hA2];simp,rfl,rfl,rfl⟩,⟨rfl,rfl,c_int ew,trivial⟩,⟨.inl rfl,trivial⟩,rfl⟩
   ·have c:=of_decide_eq_false c
    have c:D1=[]:=List.eq_nil_of_length_eq_zero (by omega)
    subst c
    rw [List.nil_append] at hA2
    exact ⟨[(6000,Blk.own (.slice (some ⟨g0,0,none⟩) n xc) 47 10 n (cat EC.A M'))],[],⟨rfl,by rw [hM,hA2];simp⟩,⟨.inl rfl,trivial⟩,rfl⟩
 have h':(IntKind.i64.wrap ((P.length+A.length+B.length:Int) - (P.length+A.length)) == 1)=false:=h'
 have h':B.length≠1:=by rw [i64_in (by omega)] at h';simp at h';omega
 obtain ⟨hh,hhe⟩:∃ hh,hh=(A.length+B.length) / 2:=⟨_,rfl⟩
 have em:IntKind.i64.wrap ((IntKind.u64.wrap (IntKind.i64.wrap ((P.length:Int)+(P.length+A.length+B.length)))).fdiv (2 ^ min (1:Int).toNat IntKind.u64.bits))=((P.length+hh:Nat):Int):=by
  have:=half_ij (i:=P.length) (j:=P.length+A.length+B.length) (by omega)
  rw [show ((P.length:Int)+(P.length+A.length+B.length))=(P.length:Int)+((P.length+A.length+B.length:Nat):Int) from rfl,this]
  congr 1;omega
 have en:IntKind.i64.wrap (IntKind.i64.wrap ((IntKind.u64.wrap (IntKind.i64.wrap ((P.length:Int)+(P.length+A.length+B.length)))).fdiv (2 ^ min (1:Int).toNat IntKind.u64.bits))+(P.length+A.length))=((2*P.length+hh+A.length:Nat):Int):=by
  rw [em,i64_in (by omega)];omega
 have hlen:(P++A++B++R).length=n:=by simp only [List.length_append];omega
 refine ⟨by decide,fun f mm=>∃ (u v:Nat),u≤v∧v≤A.length∧v≤hh∧hh≤u+B.length∧(u=0∨u+B.length=hh)∧(v=A.length∨v=hh)∧f=[(0,SV.c (.slice (some ⟨g0,0,none⟩) n xc)),(1,SV.c (.int .i64 P.length)),(2,SV.c (.int .i64 (P.length+A.length))),(3,SV.c (.int .i64 (P.length+A.length+B.length))),(4,SV.c (fnW 25)),(18,SV.c (.int .i64 ((P.length+hh:Nat):Int))),(19,SV.c (.int .i64 ((2*P.length+hh+A.length:Nat):Int))),(20,SV.c (.int .i64 ((P.length+u:Nat):Int))),(21,SV.c (.int .i64 ((P.length+v:Nat):Int)))]∧mm=[(6000,Blk.own (.slice (some ⟨g0,0,none⟩) n xc) 47 10 n (cat EC.A (P++A++B++R)))],⟨fun g=>?_,fun g=>?_⟩,?_⟩
 ·have g:=of_decide_eq_true g
  rw [em] at g
  exact ⟨_,_,⟨hh - B.length,hh,by omega,by omega,by omega,by omega,by omega,by omega,rfl,rfl⟩,⟨rfl,rfl,rfl,rfl,rfl,c_int em,c_int en,c_int (by rw [en,i64_in (by omega)];omega),c_int em,trivial⟩,⟨.inl rfl,trivial⟩,rfl⟩
 ·have g:=of_decide_eq_false g
  rw [em] at g
  exact ⟨_,_,⟨0,A.length,by omega,by omega,by omega,by omega,by omega,by omega,rfl,rfl⟩,⟨rfl,rfl,rfl,rfl,rfl,c_int em,c_int en,c_int (by omega),c_int (by omega),trivial⟩,⟨.inl rfl,trivial⟩,rfl⟩
 clear em en
 rintro f1 m1 ⟨u,v,k1,k2,k3,k4,k5,k6,rfl,rfl⟩
 have k5':u=0∨u+B.length=hh∨∃ x y,A[u - 1]? = some x∧B[hh - u]? = some y∧x.day≤y.day:=by omega
 have k6':v=A.length∨v=hh∨∃ x y,A[v]? = some x∧B[hh - v - 1]? = some y∧y.day < x.day:=by omega
 refine ⟨fun q f m=>∃ (u v:Nat),q=v - u∧u≤v∧v≤A.length∧v≤hh∧hh≤u+B.length∧(u=0∨u+B.length=hh∨∃ x y,A[u - 1]? = some x∧B[hh - u]? = some y∧x.day≤y.day)∧(v=A.length∨v=hh∨∃ x y,A[v]? = some x∧B[hh - v - 1]? = some y∧y.day < x.day)∧f=[(0,SV.c (.slice (some ⟨g0,0,none⟩) n xc)),(1,SV.c (.int .i64 P.length)),(2,SV.c (.int .i64 (P.length+A.length))),(3,SV.c (.int .i64 (P.length+A.length+B.length))),(4,SV.c (fnW 25)),(18,SV.c (.int .i64 ((P.length+hh:Nat):Int))),(19,SV.c (.int .i64 ((2*P.length+hh+A.length:Nat):Int))),(20,SV.c (.int .i64 ((P.length+u:Nat):Int))),(21,SV.c (.int .i64 ((P.length+v:Nat):Int))),(22,SV.c (.int .i64 (((2*P.length+hh+A.length:Nat):Int) - 1)))]∧m=[(6000,Blk.own (.slice (some ⟨g0,0,none⟩) n xc) 47 10 n (cat EC.A (P++A++B++R)))],v - u,⟨_,_,⟨u,v,rfl,k1,k2,k3,k4,k5',k6',rfl,rfl⟩,⟨rfl,rfl,rfl,rfl,rfl,rfl,rfl,rfl,rfl,c_int (i64_in (by omega)),trivial⟩,⟨.inl rfl,trivial⟩,rfl⟩,?_⟩
 clear k1 k2 k3 k4 k5 k6 k5' k6' u v
 rintro q f m ⟨u,v,rfl,k1,k2,k3,k4,k5,k6,rfl,rfl⟩
 refine ⟨fun c=>?_,fun c=>?_⟩
 ·have c:u < v:=by have:=of_decide_eq_true c;omega
  obtain ⟨w',hw⟩:∃ w',w'=(u+v) / 2:=⟨_,rfl⟩
  obtain ⟨za,hza⟩:∃ z,A[w']? = some z:=⟨_,List.getElem?_eq_getElem (by omega)⟩
  obtain ⟨zb,hzb⟩:∃ z,B[hh - 1 - w']? = some z:=⟨_,List.getElem?_eq_getElem (by omega)⟩
  have ew:IntKind.i64.wrap ((IntKind.u64.wrap (IntKind.i64.wrap (((P.length+u:Nat):Int)+((P.length+v:Nat):Int)))).fdiv (2 ^ min (1:Int).toNat IntKind.u64.bits))=((P.length+w':Nat):Int):=by
   rw [half_ij (by omega)];congr 1;omega
  have ep:IntKind.i64.wrap ((((2*P.length+hh+A.length:Nat):Int) - 1) - IntKind.i64.wrap ((IntKind.u64.wrap (IntKind.i64.wrap (((P.length+u:Nat):Int)+((P.length+v:Nat):Int)))).fdiv (2 ^ min (1:Int).toNat IntKind.u64.bits)))=((P.length+A.length+(hh - 1 - w'):Nat):Int):=by
   rw [ew,i64_in (by omega)];omega
  have K1:=cmp_e (hdB zb (List.mem_of_getElem? hzb)) (hdA za (List.mem_of_getElem? hza))
  have D1:=ld_e hlen (at_B (P:=P) (A:=A) (R:=R) hzb) ep
  have D2:=ld_e hlen (at_A (P:=P) (B:=B) (R:=R) hza) ew
  generalize hX:cat EC.A (P++A++B++R)=XA at *
  generalize hY:za.A=ZA at *
  generalize hY2:zb.A=ZB at *
  refine ⟨by decide,D1.1.1,D1.1.2,.inr ⟨6000,g0,_,n,_,_,_,_,rfl,rfl,D1.2.1,ZB,D1.2.2,?_⟩⟩
  refine ⟨D2.1.1,D2.1.2,.inr ⟨6000,g0,_,n,_,_,_,_,rfl,rfl,D2.2.1,ZA,D2.2.2,.inl ⟨_,K1,by kernel_rfl,fun c1=>?_,fun c1=>?_⟩⟩⟩
  ·have c1:(!decide (zb.day - za.day < 0))=true:=c1
   have c1:¬ (zb.day - za.day < 0):=by simpa using c1
   exact ⟨v - (w'+1),_,_,by omega,⟨w'+1,v,rfl,by omega,k2,k3,by omega,.inr (.inr ⟨za,zb,hza,by rw [show hh - (w'+1)=hh - 1 - w' by omega];exact hzb,by omega⟩),k6,rfl,rfl⟩,⟨rfl,rfl,rfl,rfl,rfl,rfl,rfl,c_int (by rw [ew,i64_in (by omega)];omega),rfl,rfl,trivial⟩,⟨.inl rfl,trivial⟩,rfl⟩
  ·have c1:(!decide (zb.day - za.day < 0))=false:=c1
   have c1:zb.day - za.day < 0:=by simpa using c1
   exact ⟨w' - u,_,_,by omega,⟨u,w',rfl,by omega,by omega,by omega,k4,k5,.inr (.inr ⟨za,zb,hza,by rw [show hh - w' - 1=hh - 1 - w' by omega];exact hzb,by omega⟩),rfl,rfl⟩,⟨rfl,rfl,rfl,rfl,rfl,rfl,rfl,rfl,c_int ew,rfl,trivial⟩,⟨.inl rfl,trivial⟩,rfl⟩
 have c:u=v:=by have:=of_decide_eq_false c;omega
 subst c
 obtain ⟨A1,A2,rfl,hA1⟩:∃ A1 A2,A=A1++A2∧A1.length=u:=⟨A.take u,A.drop u,(List.take_append_drop _ _).symm,by rw [List.length_take];omega⟩
 obtain ⟨B1,B2,rfl,hB1⟩:∃ B1 B2,B=B1++B2∧B1.length=hh - u:=⟨B.take (hh - u),B.drop (hh - u),(List.take_append_drop _ _).symm,by rw [List.length_take];omega⟩
 have hsA':=hsA
 have hsB':=hsB
 unfold Srt at hsA' hsB'
 rw [List.pairwise_append] at hsA' hsB'
 have cr:∀ x∈A1,∀ y∈B2,x.day≤y.day:=sym_c1 EC.day hsA hsB hA1 hB1 (by simpa using k5)
 have cl:∀ y∈B1,∀ x∈A2,y.day < x.day:=sym_c2 EC.day hsA hsB hA1 hB1 (by simpa using k6)
 rw [merge_split EC.day A1 B1 A2 B2 cr cl]
 clear k5 k6
 have hlA:(A1++A2).length=u+A2.length:=by rw [List.length_append,hA1]
 have hlB:(B1++B2).length=(hh - u)+B2.length:=by rw [List.length_append,hB1]
 rw [hlA,hlB] at ht hn hhe
 rw [hlB] at k4
 rw [hlA] at k2
 have e24:IntKind.i64.wrap (((2*P.length+hh+(A1++A2).length:Nat):Int) - ((P.length+u:Nat):Int))=((P.length+(A1++A2).length+(hh - u):Nat):Int):=by rw [hlA,i64_in (by omega)];omega
 have dA:=dayIne_app hdA
 have dB:=dayIne_app hdB
 refine ⟨fun f mm=>f=[(0,SV.c (.slice (some ⟨g0,0,none⟩) n xc)),(1,SV.c (.int .i64 P.length)),(3,SV.c (.int .i64 (P.length+(A1++A2).length+(B1++B2).length))),(4,SV.c (fnW 25)),(18,SV.c (.int .i64 ((P.length+hh:Nat):Int))),(20,SV.c (.int .i64 ((P.length+u:Nat):Int))),(24,SV.c (.int .i64 ((P.length+(A1++A2).length+(hh - u):Nat):Int)))]∧mm=[(6000,Blk.own (.slice (some ⟨g0,0,none⟩) n xc) 47 10 n (cat EC.A (P++A1++B1++(A2++B2++R))))],?_,?_⟩
 ·have goR:0 < A2.length→0 < B1.length→_:=fun h1 h2=>RT (P++A1) A2 B1 (B2++R) (by simp only [List.length_append];omega) h1 h2 ((P.length+u:Nat):Int) ((P.length:Int)+((A1++A2).length:Nat)) (IntKind.i64.wrap (((2*P.length+hh+(A1++A2).length:Nat):Int) - ((P.length+u:Nat):Int))) (by rw [List.length_append,hA1]) (by rw [hlA,List.length_append,hA1];omega) (by rw [e24,hlA,List.length_append,hA1,hB1];omega)
  refine ⟨fun c1=>⟨fun c2=>?_,fun c2=>?_⟩,fun c1=>⟨nofun,fun _=>?_⟩⟩
  ·have c1:=of_decide_eq_true c1
   have c2:=of_decide_eq_true c2
   rw [e24,hlA] at c2
   rw [hlA] at c1
   refine .inr (.inr (.inl ⟨[],[_,_,_,_,_],[_],_,[_],goR (by omega) (by omega),rfl,⟨.inl (own_eq (congrArg (cat EC.A) (by simp))),trivial⟩,rfl,rfl,?_⟩))
   exact ⟨_,_,⟨rfl,rfl⟩,⟨rfl,rfl,rfl,rfl,rfl,rfl,c_int e24,trivial⟩,⟨.inl (own_eq (congrArg (cat EC.A) (by simp))),trivial⟩,rfl⟩
  ·have c2:=of_decide_eq_false c2
   rw [e24,hlA] at c2
   have:B1=[]:=List.eq_nil_of_length_eq_zero (by omega)
   subst this
   exact ⟨_,_,⟨rfl,rfl⟩,⟨rfl,rfl,rfl,rfl,rfl,rfl,c_int e24,trivial⟩,⟨.inl (own_eq (congrArg (cat EC.A) (by simp))),trivial⟩,rfl⟩
  ·have c1:decide (((P.length+u:Nat):Int) < (P.length:Int)+((A1++A2).length:Nat))=false:=c1
   have c1:=of_decide_eq_false c1
   rw [hlA] at c1
   have:A2=[]:=List.eq_nil_of_length_eq_zero (by omega)
   subst this
   exact ⟨_,_,⟨rfl,rfl⟩,⟨rfl,rfl,rfl,rfl,rfl,rfl,c_int e24,trivial⟩,⟨.inl (own_eq (congrArg (cat EC.A) (by simp))),trivial⟩,rfl⟩
 rintro f1 m1 ⟨rfl,rfl⟩
 have hml:=merge_len EC.day A1 B1
 refine ⟨fun f mm=>f=[(0,SV.c (.slice (some ⟨g0,0,none⟩) n xc)),(3,SV.c (.int .i64 (P.length+(A1++A2).length+(B1++B2).length))),(4,SV.c (fnW 25)),(18,SV.c (.int .i64 ((P.length+hh:Nat):Int))),(24,SV.c (.int .i64 ((P.length+(A1++A2).length+(hh - u):Nat):Int)))]∧mm=[(6000,Blk.own (.slice (some ⟨g0,0,none⟩) n xc) 47 10 n (cat EC.A (P++mergeK EC.day A1 B1++A2++B2++R)))],?_,?_⟩
 ·have goS:0 < A1.length→0 < B1.length→_:=fun h1 h2=>SM P A1 B1 (A2++B2++R) (by omega) (by simp only [List.length_append];omega) h1 h2 hsA'.1 hsB'.1 dA.1 dB.1 (P.length:Int) ((P.length+u:Nat):Int) ((P.length+hh:Nat):Int) rfl (by rw [hA1];rfl) (by rw [hA1,hB1];omega)
  refine ⟨fun c1=>⟨fun c2=>?_,fun c2=>?_⟩,fun c1=>⟨nofun,fun _=>?_⟩⟩
  ·have c1:=of_decide_eq_true c1
   have c2:=of_decide_eq_true c2
   refine .inr (.inr (.inl ⟨[],[_,_,_,_,_],[_],_,[_],goS (by omega) (by omega),rfl,⟨.inl rfl,trivial⟩,rfl,rfl,?_⟩))
   exact ⟨_,_,⟨rfl,rfl⟩,⟨rfl,rfl,rfl,rfl,rfl,trivial⟩,⟨.inl (own_eq (congrArg (cat EC.A) (by simp))),trivial⟩,rfl⟩
  ·have c2:=of_decide_eq_false c2
   have:B1=[]:=List.eq_nil_of_length_eq_zero (by omega)
   subst this
   exact ⟨_,_,⟨rfl,rfl⟩,⟨rfl,rfl,rfl,rfl,rfl,trivial⟩,⟨.inl (own_eq (congrArg (cat EC.A) (by rw [mergeK_nr];simp))),trivial⟩,rfl⟩
  ·have c1:decide ((P.length:Int) < ((P.length+u:Nat):Int))=false:=c1
   have c1:=of_decide_eq_false c1
   have:A1=[]:=List.eq_nil_of_length_eq_zero (by omega)
   subst this
   exact ⟨_,_,⟨rfl,rfl⟩,⟨rfl,rfl,rfl,rfl,rfl,trivial⟩,⟨.inl (own_eq (congrArg (cat EC.A) (by rw [mergeK_nl];simp))),trivial⟩,rfl⟩
 rintro f1 m1 ⟨rfl,rfl⟩
 have goT:0 < A2.length→0 < B2.length→_:=fun h1 h2=>SM (P++mergeK EC.day A1 B1) A2 B2 R (by omega) (by simp only [List.length_append];omega) h1 h2 hsA'.2.1 hsB'.2.1 dA.2 dB.2 ((P.length+hh:Nat):Int) ((P.length+(A1++A2).length+(hh - u):Nat):Int) ((P.length:Int)+((A1++A2).length:Nat)+((B1++B2).length:Nat)) (by rw [List.length_append,hml,hA1,hB1];omega) (by rw [hlA,List.length_append,hml,hA1,hB1];omega) (by rw [hlA,hlB,List.length_append,hml,hA1,hB1];omega)
 refine ⟨fun c1=>⟨fun c2=>?_,fun c2=>?_⟩,fun c1=>⟨nofun,fun _=>?_⟩⟩
 ·have c1:=of_decide_eq_true c1
  have c2:=of_decide_eq_true c2
  rw [hlA] at c1
  rw [hlA,hlB] at c2
  refine .inr (.inr (.inl ⟨[],[_,_,_,_,_],[_],_,[_],goT (by omega) (by omega),rfl,⟨.inl rfl,trivial⟩,rfl,rfl,?_⟩))
  exact ⟨[(6000,Blk.own (.slice (some ⟨g0,0,none⟩) n xc) 47 10 n (cat EC.A (P++mergeK EC.day A1 B1++mergeK EC.day A2 B2++R)))],[],⟨rfl,by simp⟩,⟨.inl rfl,trivial⟩,rfl⟩
 ·have c2:=of_decide_eq_false c2
  rw [hlA,hlB] at c2
  have:B2=[]:=List.eq_nil_of_length_eq_zero (by omega)
  subst this
  exact ⟨[(6000,Blk.own (.slice (some ⟨g0,0,none⟩) n xc) 47 10 n (cat EC.A (P++mergeK EC.day A1 B1++A2++[]++R)))],[],⟨rfl,by rw [mergeK_nr];simp⟩,⟨.inl rfl,trivial⟩,rfl⟩
 ·have c1:decide (((P.length+hh:Nat):Int) < ((P.length+(A1++A2).length+(hh - u):Nat):Int))=false:=c1
  have c1:=of_decide_eq_false c1
  rw [hlA] at c1
  have:A2=[]:=List.eq_nil_of_length_eq_zero (by omega)
  subst this
  exact ⟨[(6000,Blk.own (.slice (some ⟨g0,0,none⟩) n xc) 47 10 n (cat EC.A (P++mergeK EC.day A1 B1++[]++B2++R)))],[],⟨rfl,by rw [mergeK_nl];simp⟩,⟨.inl rfl,trivial⟩,rfl⟩
theorem dayIne_stab {a xs M:List EC} (h:Stab EC.day a xs) (hs:∀ z∈xs,z∈M) (hd:dayIne M):dayIne a:=fun z hz=>hd z (hs z (h.perm.mem_iff.1 hz))
theorem stable_e {E:Env} (hE:E.P=Tryz.prog) {x:Value} {n:Nat} (hx:IsL x n) {M:List EC} (hn:n=M.length) (hs:n≤1000000000000) (hd:dayIne M):OwnC E 58 [SV.c x,SV.c (.int .i64 (n:Nat)),SV.c (fnW 25)] ([(6000,Blk.own x 47 10 n (cat EC.A M))]) (fun r W=>r=.tuple #[]∧W=[(6000,Blk.own x 47 10 n (cat EC.A (stabK EC.day M)))]):=by
 obtain ⟨xa,xc,rfl⟩:=hx.len
 refine sx_ownC [] tt_ok mixed at58 E hE [SV.c (.slice xa n xc),SV.c (.int .i64 (n:Nat)),SV.c (fnW 25)] ([(6000,Blk.own (.slice xa n xc) 47 10 n (cat EC.A M))]) _ rfl rfl fun w X β hT=>?_
 have hE':(envC Tryz.prog tt Tryz.f58.ntmps w X (tiedK ([(6000,Blk.own (.slice xa n xc) 47 10 n (cat EC.A M))]) β)).toEnv.P=Tryz.prog:=rfl
 have IN:=fun (P L R:List EC) hn hd (a b:Int) ha hb=>insrt_e hE' hx (P:=P) (L:=L) (R:=R) hn hs hd (a:=a) (b:=b) ha hb
 have SM:=fun (P A B R:List EC) h1 h2 h3 h4 h5 h6 h7 (a m b:Int) ha hm hb=>sym_e hx hs (A.length+B.length) hE' (P:=P) (A:=A) (B:=B) (R:=R) (Nat.le_refl _) h1 h2 h3 h4 h5 h6 h7 (a:=a) (m:=m) (b:=b) ha hm hb
 refine ⟨fun q f m=>∃ (D X' Y M':List EC),q=Y.length∧M=X'++Y∧Whole EC.day 20 D X'∧M'=D++Y++[]∧f=[(0,SV.c (.slice xa n xc)),(1,SV.c (.int .i64 (n:Nat))),(2,SV.c (fnW 25)),(6,SV.c (.int .i64 20)),(7,SV.c (.int .i64 (D.length:Nat))),(8,SV.c (.int .i64 ((D.length+20:Nat):Int)))]∧m=[(6000,Blk.own (.slice xa n xc) 47 10 n (cat EC.A M'))],M.length,⟨_,_,⟨[],[],M,M,rfl,rfl,.nil,by simp,rfl,rfl⟩,⟨rfl,rfl,rfl,rfl,rfl,rfl,trivial⟩,⟨.inl rfl,trivial⟩,rfl⟩,?_⟩
 rintro q f m ⟨D,X',Y,M',rfl,hM,hW,hM',rfl,rfl⟩
 have hDl:=hW.len
 have hMl:=congrArg List.length hM
 rw [List.length_append] at hMl
 refine ⟨fun c=>?_,fun c=>?_⟩
 ·have c:=of_decide_eq_true c
  obtain ⟨Y1,Y2,rfl,hY⟩:∃ Y1 Y2,Y=Y1++Y2∧Y1.length=20:=⟨Y.take 20,Y.drop 20,(List.take_append_drop _ _).symm,by rw [List.length_take];omega⟩
  rw [List.length_append] at hMl
  have C1:=IN D Y1 Y2 (by simp only [List.length_append];omega) (fun z hz=>hd z (by rw [hM];simp [hz])) (D.length:Nat) ((D.length+20:Nat):Int) rfl (by rw [hY];rfl)
  have hs1:=stabK_stab EC.day Y1
  have hl1:(stabK EC.day Y1).length=20:=by rw [hs1.len,hY]
  refine .inr (.inr (.inl ⟨[],[_,_,_,_],[_],_,[_],C1,rfl,⟨.inl (own_eq (congrArg (cat EC.A) (by rw [hM'];simp))),trivial⟩,rfl,rfl,?_⟩))
  exact ⟨Y2.length,_,_,by rw [List.length_append];omega,⟨D++stabK EC.day Y1,X'++Y1,Y2,_,rfl,by rw [hM];simp,.snoc hW hl1 hs1,rfl,rfl,rfl⟩,⟨rfl,rfl,rfl,rfl,c_int (by rw [List.length_append,hl1]),c_int (by rw [List.length_append,hl1,i64_in (by omega)];omega),trivial⟩,⟨.inl (own_eq (congrArg (cat EC.A) (by simp))),trivial⟩,rfl⟩
 ·have c:=of_decide_eq_false c
  have C1:=IN D Y [] (by simp only [List.length_append,List.length_nil];omega) (fun z hz=>hd z (by rw [hM];simp [hz])) (D.length:Nat) (n:Nat) rfl (by omega)
  have hs1:=stabK_stab EC.day Y
  have hB:=hW.bks EC.day (Bks.last (by rw [hs1.len];omega) hs1)
  rw [← hM] at hB
  refine .inr (.inr (.inl ⟨[],[_,_,_,_],[_],_,[_],C1,rfl,⟨.inl (own_eq (congrArg (cat EC.A) hM')),trivial⟩,rfl,rfl,?_⟩))
  clear c C1 hs1 hW hM hM' hMl hDl
  generalize D++stabK EC.day Y=L at hB ⊢
  refine ⟨fun q f m=>∃ (bs:Nat) (L:List EC),q=n - bs∧20≤bs∧bs≤2*n+20∧Bks EC.day bs L M∧f=[(0,SV.c (.slice xa n xc)),(1,SV.c (.int .i64 (n:Nat))),(2,SV.c (fnW 25)),(6,SV.c (.int .i64 (bs:Nat)))]∧m=[(6000,Blk.own (.slice xa n xc) 47 10 n (cat EC.A L))],n - 20,⟨_,_,⟨20,L,rfl,by omega,by omega,hB,rfl,rfl⟩,⟨rfl,rfl,rfl,rfl,trivial⟩,⟨.inl (own_eq (congrArg (cat EC.A) (List.append_nil L))),trivial⟩,rfl⟩,?_⟩
  clear hB L
  rintro q f m ⟨bs,L,rfl,hb20,hb2,hB,rfl,rfl⟩
  have hLl:=hB.len
  refine ⟨fun c=>?_,fun c=>?_⟩
  ·have c:=of_decide_eq_true c
   refine ⟨fun q f m=>∃ (D X' L2 Y M':List EC),q=L2.length∧M=X'++Y∧Whole EC.day (2*bs) D X'∧Bks EC.day bs L2 Y∧M'=D++L2∧f=[(0,SV.c (.slice xa n xc)),(1,SV.c (.int .i64 (n:Nat))),(2,SV.c (fnW 25)),(6,SV.c (.int .i64 (bs:Nat))),(7,SV.c (.int .i64 (D.length:Nat))),(8,SV.c (.int .i64 ((D.length+2*bs:Nat):Int)))]∧m=[(6000,Blk.own (.slice xa n xc) 47 10 n (cat EC.A M'))],L.length,⟨_,_,⟨[],[],L,M,L,rfl,rfl,.nil,hB,rfl,rfl,rfl⟩,⟨rfl,rfl,rfl,rfl,rfl,c_int (by rw [i64_in (by omega)];simp),trivial⟩,⟨.inl rfl,trivial⟩,rfl⟩,?_⟩
   rintro q f m ⟨D,X',L2,Y,M',rfl,hM,hW,hB2,hM',rfl,rfl⟩
   have hDl:=hW.len
   have hL2:=hB2.len
   have hMl:=congrArg List.length hM
   rw [List.length_append] at hMl
   have em:IntKind.i64.wrap ((D.length:Int)+(bs:Nat))=((D.length+bs:Nat):Int):=by rw [i64_in (by omega)];omega
   refine ⟨fun c2=>?_,fun c2=>?_⟩
   ·have c2:=of_decide_eq_true c2
    obtain ⟨a1,l1,x1,y1,rfl,rfl,ha1,hs1,hB3⟩:=hB2.uncons EC.day (by omega)
    rw [List.length_append] at hL2
    obtain ⟨a2,l2,x2,y2,rfl,rfl,ha2,hs2,hB4⟩:=hB3.uncons EC.day (by omega)
    have d1:=dayIne_stab hs1 (M:=M) (fun z hz=>by rw [hM];simp [hz]) hd
    have d2:=dayIne_stab hs2 (M:=M) (fun z hz=>by rw [hM];simp [hz]) hd
    have hl:=hs1.len
    have hl':=hs2.len
    have hl3:=hB4.len
    simp only [List.length_append] at hL2 hMl
    have C1:=SM D a1 a2 l2 (by simp only [List.length_append];omega) (by omega) (by omega) hs1.srt hs2.srt d1 d2 (D.length:Nat) (IntKind.i64.wrap ((D.length:Int)+(bs:Nat))) ((D.length+2*bs:Nat):Int) rfl (by rw [em,ha1];rfl) (by rw [ha1,ha2];omega)
    have hml:=merge_len EC.day a1 a2
    refine .inr (.inr (.inl ⟨[],[_,_,_,_,_],[_],_,[_],C1,rfl,⟨.inl (own_eq (congrArg (cat EC.A) (by rw [hM'];simp))),trivial⟩,rfl,rfl,?_⟩))
    exact ⟨l2.length,_,_,by simp only [List.length_append];omega,⟨D++mergeK EC.day a1 a2,X'++(x1++x2),l2,y2,_,rfl,by rw [hM];simp,.snoc hW (by omega) (Stab.merge EC.day hs1 hs2),hB4,rfl,rfl,rfl⟩,⟨rfl,rfl,rfl,rfl,c_int (by rw [List.length_append,hml,ha1,ha2];omega),c_int (by rw [List.length_append,hml,ha1,ha2,i64_in (x:=2*((bs:Nat):Int)) (by omega),i64_in (by omega)];omega),trivial⟩,⟨.inl rfl,trivial⟩,rfl⟩
   ·have c2:=of_decide_eq_false c2
    refine ⟨fun c3=>?_,fun c3=>?_⟩
    ·have c3:=of_decide_eq_true c3
     rw [em] at c3
     obtain ⟨a1,l1,x1,y1,rfl,rfl,ha1,hs1,hB3⟩:=hB2.uncons EC.day (by omega)
     have hl:=hs1.len
     have hl3:=hB3.len
     simp only [List.length_append] at hL2 hMl
     have hs2:=hB3.one EC.day (by omega)
     have d1:=dayIne_stab hs1 (M:=M) (fun z hz=>by rw [hM];simp [hz]) hd
     have d2:=dayIne_stab hs2 (M:=M) (fun z hz=>by rw [hM];simp [hz]) hd
     have C1:=SM D a1 l1 [] (by simp only [List.length_append,List.length_nil];omega) (by omega) (by omega) hs1.srt hs2.srt d1 d2 (D.length:Nat) (IntKind.i64.wrap ((D.length:Int)+(bs:Nat))) (n:Nat) rfl (by rw [em,ha1];rfl) (by omega)
     have hml:=merge_len EC.day a1 l1
     have hB5:=hW.bks EC.day (Bks.last (bs:=2*bs) (by omega) (Stab.merge EC.day hs1 hs2))
     rw [← hM] at hB5
     refine .inr (.inr (.inl ⟨[],[_,_,_,_,_],[_],_,[_],C1,rfl,⟨.inl (own_eq (congrArg (cat EC.A) (by rw [hM'];simp))),trivial⟩,rfl,rfl,?_⟩))
     exact ⟨n - 2*bs,_,_,by omega,⟨2*bs,_,rfl,by omega,by omega,hB5,rfl,rfl⟩,⟨rfl,rfl,rfl,c_int (by rw [i64_in (by omega)];omega),trivial⟩,⟨.inl (own_eq (congrArg (cat EC.A) (by simp))),trivial⟩,rfl⟩
    ·have c3:=of_decide_eq_false c3
     rw [em] at c3
     have hs2:=hB2.one EC.day (by omega)
     have hB5:=hW.bks EC.day (Bks.last (bs:=2*bs) (by omega) hs2)
     rw [← hM] at hB5
     exact ⟨n - 2*bs,_,_,by omega,⟨2*bs,_,rfl,by omega,by omega,hB5,rfl,rfl⟩,⟨rfl,rfl,rfl,c_int (by rw [i64_in (by omega)];omega),trivial⟩,⟨.inl (own_eq (congrArg (cat EC.A) hM')),trivial⟩,rfl⟩
  ·have c:=of_decide_eq_false c
   have hS:=hB.one EC.day (by omega)
   exact ⟨[(6000,Blk.own (.slice xa n xc) 47 10 n (cat EC.A L))],[],⟨rfl,by rw [hS.eq EC.day]⟩,⟨.inl rfl,trivial⟩,rfl⟩
theorem sortS_e {E:Env} (hE:E.P=Tryz.prog) {x:Value} {n:Nat} (hx:IsL x n) {M:List EC} (hn:n=M.length) (hs:n≤1000000000000) (hd:dayIne M):OwnC E 24 [SV.c x,SV.c (fnW 25)] ([(6000,Blk.own x 47 10 n (cat EC.A M))]) (fun r W=>r=.tuple #[]∧W=[(6000,Blk.own x 47 10 n (cat EC.A (stabK EC.day M)))]):=by
 obtain ⟨xa,xc,rfl⟩:=hx.len
 refine sx_ownC [] tt_ok mixed at24 E hE [SV.c (.slice xa n xc),SV.c (fnW 25)] ([(6000,Blk.own (.slice xa n xc) 47 10 n (cat EC.A M))]) _ rfl rfl fun w X β hT=>?_
 have I1:=stable_e (E:=(envC Tryz.prog tt Tryz.f24.ntmps w X (tiedK ([(6000,Blk.own (.slice xa n xc) 47 10 n (cat EC.A M))]) β)).toEnv) rfl hx hn hs hd
 refine ⟨_,fun w' _=>run_len_sl Tryz.underlying22 w',?_⟩
 refine .inr (.inr (.inl ⟨[],[_,_,_],[_],_,[_],I1,rfl,⟨.inl rfl,trivial⟩,rfl,rfl,?_⟩))
 exact ⟨[(6000,Blk.own (.slice xa n xc) 47 10 n (cat EC.A (stabK EC.day M)))],[],⟨rfl,rfl⟩,⟨.inl rfl,trivial⟩,rfl⟩
end Go.Proofs.YtkaakbpeegpnkaaGreatDoor
