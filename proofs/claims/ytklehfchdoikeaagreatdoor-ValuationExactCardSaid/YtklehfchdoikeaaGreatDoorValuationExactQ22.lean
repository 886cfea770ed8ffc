/- walks: the text of a day. walks: days as dates, the referenc; no condition. -/
import Derived.Test.YtklehfchdoikeaaGreatDoorValuationExactQ20
import Derived.Test.YtklehfchdoikeaaGreatDoorValuationExactQ15
import Derived.Test.YtklehfchdoikeaaGreatDoorValuationExactQ11
set_option maxRecDepth 100000
set_option maxHeartbeats 4000000
namespace Go.Proofs.YtklehfchdoikeaaGreatDoor
open Go Go.RowKit Go.SX
theorem yv (a:Nat) (l:List UInt8):cJ a 0 l=l:=by cases a<;>rfl
theorem yw {b N:Nat} (h:N≠0) (l:List UInt8):cJ (b+1) N l=cJ b (N / 10) (l.set b (UInt8.ofNat (48+N % 10))):=by rw [cJ,if_neg h]
theorem FG {y:Nat} (h1:2000<=y) (h2:y<=2199) (m d:Nat):∃ a b c e,mb y m d 1=[a,b,c,e,45,48,48,45,48,48]:=⟨_,_,_,_,sG (by omega) (by omega) 48 48 48 48 [45,48,48,45,48,48]⟩
theorem KA {y m:Nat} (h1:2000<=y) (h2:y<=2199) (h3:1<=m) (h4:m<=12) (d:Nat):∃ a b c e f g,mb y m d 2=[a,b,c,e,45,f,g,45,48,48]:=by
 obtain ⟨a,b,c,e,h⟩:=FG h1 h2 m d
 have h:cJ 4 y rM=[a,b,c,e,45,48,48,45,48,48]:=h
 refine ⟨a,b,c,e,UInt8.ofNat (48+m / 10),UInt8.ofNat (48+m % 10),?_⟩
 show cJ 7 m (cJ 4 y rM)=_
 rw [h]
 exact qS (k:=4) h3 (by omega) [a,b,c,e,45,48,48,45,48,48]
theorem Am {v k:Nat} (hv:v<=99) (h:0 < v / 10 ^ k):k<=1:=by
 rcases Nat.lt_or_ge k 2 with h1 | h1
 ·omega
 ·exfalso
  have:10 ^ 2<=10 ^ k:=Nat.pow_le_pow_right (by omega) h1
  rw [Nat.div_eq_of_lt (by omega)] at h
  omega
def Zer (b N:Nat) (l:List UInt8):Prop:=∀ j,j < b->0 < N / 10 ^ (b - 1 - j)->l[j]? = some 48
theorem Zer.here {b N:Nat} {l:List UInt8} (h:Zer (b+1) N l) (hN:0 < N):l[b]? = some 48:=h b (by omega) (by rw [show b+1 - 1 - b=0 by omega];simpa using hN)
theorem Zer.step {b N:Nat} {l:List UInt8} (h:Zer (b+1) N l) (x:UInt8):Zer b (N / 10) (l.set b x):=fun j hj hd=>by
 rw [List.getElem?_set_ne (by omega)]
 refine h j (by omega) ?_
 rw [Nat.div_div_eq_div_mul,<- Nat.pow_succ'] at hd
 rw [show b+1 - 1 - j=(b - 1 - j).succ by omega]
 exact hd
theorem Cj {y m d:Nat} (h1:2000<=y) (h2:y<=2199) (h3:1<=m) (h4:m<=12) (h5:1<=d) (h6:d<=31) {i:Nat} (hi:i < 3):∃ v a:Nat,(#[.int .i64 y,.int .i64 3,.int .i64 m,.int .i64 6,.int .i64 d,.int .i64 9]:Array Value).extract (i*2) (i*2+2)=#[.int .i64 (v:Nat),.int .i64 (((a:Nat):Int) - 1)]/\a<=10/\v < 10 ^ a/\mb y m d (i+1)=cJ a v (mb y m d i)/\v<=9999/\Zer a v (mb y m d i):=by
 obtain rfl | rfl | rfl:i=0\/i=1\/i=2:=by omega
 ·refine ⟨y,4,rfl,by omega,by omega,rfl,by omega,fun j hj _=>?_⟩
  obtain rfl | rfl | rfl | rfl:j=0\/j=1\/j=2\/j=3:=by omega
  all_goals rfl
 ·refine ⟨m,7,rfl,by omega,by omega,rfl,by omega,fun j hj hd=>?_⟩
  have:=Am (by omega) hd
  obtain ⟨a,b,c,e,h⟩:=FG h1 h2 m d
  rw [h]
  obtain rfl | rfl:j=5\/j=6:=by omega
  all_goals rfl
 ·refine ⟨d,10,rfl,by omega,by omega,rfl,by omega,fun j hj hd=>?_⟩
  have:=Am (by omega) hd
  obtain ⟨a,b,c,e,f,g,h⟩:=KA h1 h2 h3 h4 d
  rw [h]
  obtain rfl | rfl:j=8\/j=9:=by omega
  all_goals rfl
theorem dD {i:Nat} (h:i<=4000000000000000000):IntKind.i64.wrap (((i:Nat):Int)+1)=((i+1:Nat):Int):=by rw [i64_in (by omega)];rfl
def ww (n:Int):Value:=if 0<=n/\n<=73048 then .tuple #[.string (S (rL n.toNat)),.int .i64 0] else .tuple #[.string (S []),.int .i64 50]
theorem Ko (n:Int):aw Tryz.prog 230 [SV.c (.int .i64 n)] (ww n):=by
 refine pr (vs:=[.int .i64 n]) I7.enters fun w0=>?_
 refine aA [] ai ak I7 _ rfl [SV.c (.int .i64 n)] [] _ rfl rfl fun w X β hT=>?_
 have hc:=My n
 by_cases h:0<=n/\n<=73048
 ·rw [rN,if_pos h] at hc
  rw [ww,if_pos h]
  obtain ⟨b1,b2,b3,b4,b5,b6⟩:=Aw (n:=n.toNat) (by omega)
  have hd:rL n.toNat=mb (eH n.toNat).1 (eH n.toNat).2.1 (eH n.toNat).2.2 3:=(Ck b1 b2 b3 b4 b5 b6).symm
  rw [hd]
  generalize (eH n.toNat).1=y at *
  generalize (eH n.toNat).2.1=mo at *
  generalize (eH n.toNat).2.2=d at *
  refine .inl ⟨_,hc,fun h=>absurd h (by decide),fun _=>?_⟩
  refine .inr ⟨by decide,by decide,by decide,bytesRow ⟨rM.toArray⟩ 10,by kernel_rfl,by kernel_rfl,trivial,fun g=>?_⟩
  refine yN rfl rfl Tryz.underlying277 Tryz.underlying5 22 (l:=rM) rfl rfl rfl rfl fun fz=>?_
  refine ⟨#[.int .i64 y,.int .i64 3],rfl,#[.int .i64 mo,.int .i64 6],rfl,#[.int .i64 d,.int .i64 9],rfl,?_⟩
  refine .inr ⟨by decide,by decide,by decide,#[.int .i64 y,.int .i64 3,.int .i64 mo,.int .i64 6,.int .i64 d,.int .i64 9],by kernel_rfl,rfl,trivial,fun g2=>?_⟩
  refine ⟨_,fun w' _=>al Tryz.underlying279 w',?_⟩
  refine ⟨fun q f m=>∃ i:Nat,q=3 - i/\i<=3/\f=[(8,SV.c (.slice (some ⟨g,0,none⟩) 10 10)),(30,SV.c (.slice (some ⟨g2,0,none⟩) 3 3)),(31,SV.c (.int .i64 3)),(32,SV.c (.int .i64 (i:Nat)))]/\m=[(22,Blk.res g (fun o=>o=.cells (bytesRow ⟨(mb y mo d i).toArray⟩ 10) 5 ((bytesRow ⟨(mb y mo d i).toArray⟩ 10).size,fz))),(30,Blk.own (.slice (some ⟨g2,0,none⟩) 3 3) 278 2 3 #[.int .i64 y,.int .i64 3,.int .i64 mo,.int .i64 6,.int .i64 d,.int .i64 9])],3,⟨_,_,⟨0,rfl,by omega,rfl,rfl⟩,⟨rfl,rfl,rfl,rfl,trivial⟩,⟨rfl,.inl rfl,trivial⟩,rfl⟩,?_⟩
  rintro q f m ⟨i,rfl,hi,rfl,rfl⟩
  refine ⟨fun h1=>?_,fun h1=>?_⟩
  ·have h1:i < 3:=by have:=af h1;omega
   obtain ⟨v,a,hx1,ha,hva,hst,hv4,hz0⟩:=Cj b1 b2 b3 b4 b5 b6 h1
   refine ⟨by omega,by omega,.inr ⟨30,g2,_,3,3,_,_,_,rfl,rfl,?_⟩⟩
   have ho:aL 0 ((i:Nat):Int) uQ.size=i*2:=by show aL 0 ((i:Nat):Int) 2=i*2;simp [aL]
   have h6:aL 0 ((i:Nat):Int) uQ.size+2<=6:=by rw [ho];omega
   have hx1:(#[.int .i64 y,.int .i64 3,.int .i64 mo,.int .i64 6,.int .i64 d,.int .i64 9]:Array Value).extract (aL 0 ((i:Nat):Int) uQ.size) (aL 0 ((i:Nat):Int) uQ.size+2)=#[.int .i64 (v:Nat),.int .i64 (((a:Nat):Int) - 1)]:=by rw [ho];exact hx1
   refine ⟨h6,#[.int .i64 (v:Nat),.int .i64 (((a:Nat):Int) - 1)],hx1,?_⟩
   refine ⟨⟨rfl,by simp [Value.oneCell']⟩,_,rfl,?_⟩
   refine ⟨fun q f m=>∃ (b N:Nat) (l:List UInt8),q=b/\b<=10/\N < 10 ^ b/\N<=9999/\l.length=10/\Zer b N l/\cJ b N l=mb y mo d (i+1)/\f=[(8,SV.c (.slice (some ⟨g,0,none⟩) 10 10)),(10,SV.ptr 10 0),(11,SV.c (.int .i64 (((b:Nat):Int) - 1))),(30,SV.c (.slice (some ⟨g2,0,none⟩) 3 3)),(31,SV.c (.int .i64 3)),(32,SV.c (.int .i64 (i:Nat)))]/\m=[(22,Blk.res g (fun o=>o=.cells (bytesRow ⟨l.toArray⟩ 10) 5 ((bytesRow ⟨l.toArray⟩ 10).size,fz))),(10,Blk.row 278 2 #[.int .i64 (N:Nat),.int .i64 (((a:Nat):Int) - 1)]),(30,Blk.own (.slice (some ⟨g2,0,none⟩) 3 3) 278 2 3 #[.int .i64 y,.int .i64 3,.int .i64 mo,.int .i64 6,.int .i64 d,.int .i64 9])],a,⟨_,_,⟨a,v,mb y mo d i,rfl,ha,hva,hv4,wL _ _ _ _,hz0,hst.symm,rfl,rfl⟩,⟨rfl,rfl,rfl,rfl,rfl,rfl,trivial⟩,⟨rfl,rfl,.inl rfl,trivial⟩,rfl⟩,?_⟩
   rintro q f m ⟨b,N,l,rfl,hb,hN,hN4,hl,hzr,hfl,rfl,rfl⟩
   refine ⟨_,rfl,fun c1=>?_,fun c1=>?_⟩
   ·have c1:=af c1
    have c1':0 < N:=by omega
    obtain ⟨b,rfl⟩:∃ b,q=b+1:=⟨q - 1,by
     rcases Nat.eq_zero_or_pos q with h0 | h0
     ·subst h0;simp at hN;omega
     ·omega⟩
    have e0:(((b+1:Nat):Int) - 1)=((b:Nat):Int):=by omega
    rw [e0]
    refine ⟨by omega,by omega,?_⟩
    have ho2:aL 0 ((b:Nat):Int) ti5.size=b:=by show aL 0 ((b:Nat):Int) 1=b;simp [aL]
    rw [ho2]
    have hE':VOk (aT Tryz.prog tt Tryz.f230.ntmps w X (aF [] β)):=ai
    refine CC hE' rfl rfl rfl 22 (l:=l) rfl rfl (hzr.here c1') ?_
    refine ⟨_,rfl,by decide,by omega,by omega,?_⟩
    rw [ho2]
    have hr10:=Nat.mod_lt N (show 0 < 10 by omega)
    have e1:IntKind.u8.wrap ((((48:UInt8).toNat:Nat):Int)+IntKind.u8.wrap (((N:Nat):Int).tmod 10))=(((UInt8.ofNat (48+N % 10)).toNat:Nat):Int):=by
     rw [show ((N:Nat):Int).tmod 10=((N % 10:Nat):Int) from jt N 10]
     generalize N % 10=r at hr10
     obtain rfl | rfl | rfl | rfl | rfl | rfl | rfl | rfl | rfl | rfl:r=0\/r=1\/r=2\/r=3\/r=4\/r=5\/r=6\/r=7\/r=8\/r=9:=by omega
     all_goals rfl
    refine yP hE' rfl rfl rfl 22 (l:=l) (b:=UInt8.ofNat (48+N % 10)) rfl (am e1) rfl (by omega) ?_
    have e2:IntKind.i64.wrap (((N:Nat):Int).tdiv 10)=((N / 10:Nat):Int):=by rw [show ((N:Nat):Int).tdiv 10=((N / 10:Nat):Int) from nM N 10,i64_in (by omega)]
    refine ⟨by kernel_rfl,_,rfl,by decide,by decide,rfl,#[.int .i64 (N / 10:Nat),.int .i64 (((a:Nat):Int) - 1)],by rw [e2];rfl,?_⟩
    have e3:IntKind.i64.wrap (((b:Nat):Int) - 1)=((b:Nat):Int) - 1:=i64_in (by omega)
    exact ⟨b,_,_,by omega,⟨b,N / 10,l.set b (UInt8.ofNat (48+N % 10)),rfl,by omega,Nat.div_lt_of_lt_mul (by rw [<- Nat.pow_succ'];exact hN),by omega,by rw [List.length_set];exact hl,hzr.step _,by rw [<- yw (by omega)];exact hfl,rfl,rfl⟩,⟨rfl,rfl,am e3,rfl,rfl,rfl,trivial⟩,⟨rfl,rfl,.inl rfl,trivial⟩,rfl⟩
   ·have c1:=ag c1
    have c1:N=0:=by omega
    subst c1
    have hB:mb y mo d (i+1)=l:=by rw [<- hfl,yv]
    subst hB
    exact ⟨3 - (i+1),_,_,by omega,⟨i+1,rfl,by omega,rfl,rfl⟩,⟨rfl,rfl,rfl,am (dD (by omega)),trivial⟩,⟨rfl,.inl rfl,trivial⟩,rfl⟩
  ·have h1:i=3:=by have:=ag h1;omega
   subst h1
   refine yO rfl rfl Tryz.underlying277 Tryz.underlying9 Tryz.underlying5 22 (l:=mb y mo d 3) (wL _ _ _ _).symm rfl rfl ?_
   exact ⟨[],[],⟨rfl,rfl⟩,trivial,rfl⟩
 ·rw [rN,if_neg h] at hc
  refine .inl ⟨_,hc,fun _=>?_,fun h=>absurd h (by decide)⟩
  exact ⟨[],[],⟨by rw [ww,if_neg h];rfl,rfl⟩,trivial,rfl⟩
theorem Ki (y:Nat):aw Tryz.prog 307 [SV.c (.int .i64 (y:Nat))] (.bool (aQ y)):=by
 refine aj ai ak MX _ _ rfl rfl fun w=>?_
 have e4:((y:Nat):Int).tmod 4=((y % 4:Nat):Int):=jt y 4
 have e100:((y:Nat):Int).tmod 100=((y % 100:Nat):Int):=jt y 100
 have e400:((y:Nat):Int).tmod 400=((y % 400:Nat):Int):=jt y 400
 refine ⟨by decide,fun h=>⟨by decide,fun h2=>⟨by decide,bv ?_,trivial⟩,fun h2=>⟨bv ?_,trivial⟩⟩,fun h=>⟨bv ?_,trivial⟩⟩
 ·rw [e4,nn] at h;rw [e100,zP] at h2
  have h2:(y % 100 != 0)=false:=h2
  rw [e400,nn]
  unfold aQ;rw [h,h2];rfl
 ·rw [e4,nn] at h;rw [e100,zP] at h2
  have h2:(y % 100 != 0)=true:=h2
  unfold aQ;rw [h,h2];rfl
 ·rw [e4,nn] at h
  have h:(y % 4 == 0)=false:=h
  unfold aQ;rw [h];rfl
theorem FE (y:Nat):aw Tryz.prog 284 [SV.c (.int .i64 (y:Nat))] (.int .i64 (ff y:Nat)):=by
 refine aj ai ak Nc _ _ rfl rfl fun w=>?_
 refine .inl ⟨_,Ki y,fun h=>⟨?_,trivial⟩,fun h=>⟨?_,trivial⟩⟩
 ·have h:aQ y=true:=h
  unfold ff;rw [h];rfl
 ·have h:aQ y=false:=h
  unfold ff;rw [h];rfl
theorem Ey (y:Nat) {m:Nat} (h1:1<=m) (h2:m<=12):aw Tryz.prog 285 [SV.c (.int .i64 (y:Nat)),SV.c (.int .i64 (m:Nat))] (.int .i64 (mlN (aQ y) m:Nat)):=by
 have hd:=FE y
 obtain rfl | rfl | rfl | rfl | rfl | rfl | rfl | rfl | rfl | rfl | rfl | rfl:m=1\/m=2\/m=3\/m=4\/m=5\/m=6\/m=7\/m=8\/m=9\/m=10\/m=11\/m=12:=by omega
 ·refine aj ai ak jW _ _ rfl rfl fun w=>?_
  exact ⟨fun h=>absurd h (by decide),fun _=>⟨fun h=>absurd h (by decide),fun _=>⟨fun h=>absurd h (by decide),fun _=>⟨fun h=>absurd h (by decide),fun _=>⟨fun h=>absurd h (by decide),fun _=>⟨rfl,trivial⟩⟩⟩⟩⟩⟩
 ·refine aj ai ak jW _ _ rfl rfl fun w=>?_
  refine ⟨fun _=>.inl ⟨_,hd,?_,trivial⟩,fun h=>absurd h (by decide)⟩
  unfold ff mlN
  cases aQ y<;>rfl
 ·refine aj ai ak jW _ _ rfl rfl fun w=>?_
  exact ⟨fun h=>absurd h (by decide),fun _=>⟨fun h=>absurd h (by decide),fun _=>⟨fun h=>absurd h (by decide),fun _=>⟨fun h=>absurd h (by decide),fun _=>⟨fun h=>absurd h (by decide),fun _=>⟨rfl,trivial⟩⟩⟩⟩⟩⟩
 ·refine aj ai ak jW _ _ rfl rfl fun w=>?_
  exact ⟨fun h=>absurd h (by decide),fun _=>⟨fun _=>⟨fun _=>⟨rfl,trivial⟩,fun h=>absurd h (by decide)⟩,fun h=>absurd h (by decide)⟩⟩
 ·refine aj ai ak jW _ _ rfl rfl fun w=>?_
  exact ⟨fun h=>absurd h (by decide),fun _=>⟨fun h=>absurd h (by decide),fun _=>⟨fun h=>absurd h (by decide),fun _=>⟨fun h=>absurd h (by decide),fun _=>⟨fun h=>absurd h (by decide),fun _=>⟨rfl,trivial⟩⟩⟩⟩⟩⟩
 ·refine aj ai ak jW _ _ rfl rfl fun w=>?_
  exact ⟨fun h=>absurd h (by decide),fun _=>⟨fun h=>absurd h (by decide),fun _=>⟨fun _=>⟨fun _=>⟨rfl,trivial⟩,fun h=>absurd h (by decide)⟩,fun h=>absurd h (by decide)⟩⟩⟩
 ·refine aj ai ak jW _ _ rfl rfl fun w=>?_
  exact ⟨fun h=>absurd h (by decide),fun _=>⟨fun h=>absurd h (by decide),fun _=>⟨fun h=>absurd h (by decide),fun _=>⟨fun h=>absurd h (by decide),fun _=>⟨fun h=>absurd h (by decide),fun _=>⟨rfl,trivial⟩⟩⟩⟩⟩⟩
 ·refine aj ai ak jW _ _ rfl rfl fun w=>?_
  exact ⟨fun h=>absurd h (by decide),fun _=>⟨fun h=>absurd h (by decide),fun _=>⟨fun h=>absurd h (by decide),fun _=>⟨fun h=>absurd h (by decide),fun _=>⟨fun h=>absurd h (by decide),fun _=>⟨rfl,trivial⟩⟩⟩⟩⟩⟩
 ·refine aj ai ak jW _ _ rfl rfl fun w=>?_
  exact ⟨fun h=>absurd h (by decide),fun _=>⟨fun h=>absurd h (by decide),fun _=>⟨fun h=>absurd h (by decide),fun _=>⟨fun _=>⟨fun _=>⟨rfl,trivial⟩,fun h=>absurd h (by decide)⟩,fun h=>absurd h (by decide)⟩⟩⟩⟩
 ·refine aj ai ak jW _ _ rfl rfl fun w=>?_
  exact ⟨fun h=>absurd h (by decide),fun _=>⟨fun h=>absurd h (by decide),fun _=>⟨fun h=>absurd h (by decide),fun _=>⟨fun h=>absurd h (by decide),fun _=>⟨fun h=>absurd h (by decide),fun _=>⟨rfl,trivial⟩⟩⟩⟩⟩⟩
 ·refine aj ai ak jW _ _ rfl rfl fun w=>?_
  exact ⟨fun h=>absurd h (by decide),fun _=>⟨fun h=>absurd h (by decide),fun _=>⟨fun h=>absurd h (by decide),fun _=>⟨fun h=>absurd h (by decide),fun _=>⟨fun _=>⟨rfl,trivial⟩,fun h=>absurd h (by decide)⟩⟩⟩⟩⟩
 ·refine aj ai ak jW _ _ rfl rfl fun w=>?_
  exact ⟨fun h=>absurd h (by decide),fun _=>⟨fun h=>absurd h (by decide),fun _=>⟨fun h=>absurd h (by decide),fun _=>⟨fun h=>absurd h (by decide),fun _=>⟨fun h=>absurd h (by decide),fun _=>⟨rfl,trivial⟩⟩⟩⟩⟩⟩
theorem Mz (n:Int):aw Tryz.prog 239 [SV.c (.int .i64 n)] (rN n):=by
 refine aj ai ak NT _ _ rfl rfl fun w=>?_
 refine .inl ⟨_,qk n,fun h=>?_,fun h=>?_⟩
 ·have h:(decide (n < 0) || decide (n > 73048))=true:=h
  have h:¬ (0<=n/\n<=73048):=by simp at h;omega
  exact ⟨by rw [rN,if_neg h];rfl,trivial⟩
 have h:(decide (n < 0) || decide (n > 73048))=false:=h
 have h:0<=n/\n<=73048:=by simp at h;omega
 rw [rN,if_pos h]
 obtain ⟨k,rfl⟩:∃ k:Nat,n=k:=⟨n.toNat,by omega⟩
 rw [Int.toNat_natCast]
 have hk:k<=73048:=by omega
 refine ⟨fun q f m=>∃ y r:Nat,q=2200 - y/\2000<=y/\y<=2199/\ysN y+r=k/\f=[(0,SV.c (.int .i64 (r:Nat))),(2,SV.c (.int .i64 (y:Nat))),(3,SV.c (.int .i64 1))]/\m=[],200,⟨_,_,⟨2000,k,rfl,by omega,by omega,by rw [show ysN 2000=0 from rfl,Nat.zero_add],rfl,rfl⟩,⟨rfl,rfl,rfl,trivial⟩,trivial,rfl⟩,?_⟩
 rintro q f m ⟨y,r,rfl,hy1,hy2,hyk,rfl,rfl⟩
 have hn:=kx hy1 hy2
 have hd:=FE y
 have hdl:ff y<=366:=by unfold ff;split<;>omega
 refine .inl ⟨_,hd,fun h=>?_,fun h=>?_⟩
 ·have h:=af h
  have hlt:y < 2199:=by
   rcases Nat.lt_or_ge y 2199 with h8 | h8
   ·exact h8
   ·exfalso
    have:y=2199:=by omega
    subst this
    have:ysN (2199+1)=73049:=by decide
    omega
  have e1:IntKind.i64.wrap (((r:Nat):Int) - ((ff y:Nat):Int))=((r - ff y:Nat):Int):=by rw [i64_in (by omega)];omega
  refine .inl ⟨_,hd,?_⟩
  exact ⟨2200 - (y+1),_,_,by omega,⟨y+1,r - ff y,rfl,by omega,by omega,by omega,rfl,rfl⟩,⟨am e1,am (dD (by omega)),rfl,trivial⟩,trivial,rfl⟩
 ·have h:=ag h
  have hyr:=pJ hy1 hy2 (r:=r) (by omega) hyk
  have hc:eH k=(y,(fQ (aQ y) r).1,(fQ (aQ y) r).2+1):=by unfold eH;rw [hyr]
  have hrd:r < (if aQ y then 366 else 365):=by
   have:ff y=if aQ y then 366 else 365:=rfl
   omega
  rw [hc]
  refine ⟨fun q f m=>∃ mo s:Nat,q=13 - mo/\1<=mo/\mo<=12/\ahN (aQ y) mo+s=r/\f=[(0,SV.c (.int .i64 (s:Nat))),(2,SV.c (.int .i64 (y:Nat))),(3,SV.c (.int .i64 (mo:Nat)))]/\m=[],12,⟨_,_,⟨1,r,rfl,by omega,by omega,Nat.zero_add r,rfl,rfl⟩,⟨rfl,rfl,rfl,trivial⟩,trivial,rfl⟩,?_⟩
  rintro q f m ⟨mo,s,rfl,hm1,hm2,hms,rfl,rfl⟩
  have hl:=Ey y hm1 hm2
  have han:=Ir (leap:=aQ y) hm1 hm2
  refine .inl ⟨_,hl,fun h=>?_,fun h=>?_⟩
  ·have h:=af h
   have hlt:mo < 12:=by
    rcases Nat.lt_or_ge mo 12 with h8 | h8
    ·exact h8
    ·exfalso
     have:mo=12:=by omega
     subst this
     have:ahN (aQ y) (12+1)=if aQ y then 366 else 365:=rfl
     omega
   have hdl2:mlN (aQ y) mo<=31:=by
    unfold mlN
    repeat' split
    all_goals omega
   have e1:IntKind.i64.wrap (((s:Nat):Int) - ((mlN (aQ y) mo:Nat):Int))=((s - mlN (aQ y) mo:Nat):Int):=by rw [i64_in (by omega)];omega
   refine .inl ⟨_,hl,?_⟩
   exact ⟨13 - (mo+1),_,_,by omega,⟨mo+1,s - mlN (aQ y) mo,rfl,by omega,by omega,by omega,rfl,rfl⟩,⟨am e1,rfl,am (dD (by omega)),trivial⟩,trivial,rfl⟩
  ·have h:=ag h
   rw [Hv hm1 hm2 (by omega) hms]
   exact ⟨by rw [dD (by omega)];rfl,trivial⟩
theorem zn {n:Nat} (hn:n<=99):aw Tryz.prog 240 [SV.c (.int .i64 (n:Nat))] (.string (S (twN n))):=by
 refine aj ai ak NS _ _ rfl rfl fun w=>?_
 have e1:IntKind.i64.wrap (((n:Nat):Int).tdiv 10)=((n / 10:Nat):Int):=by rw [show ((n:Nat):Int).tdiv 10=((n / 10:Nat):Int) from nM n 10,i64_in (by omega)]
 have e2:((n:Nat):Int).tmod 10=((n % 10:Nat):Int):=jt n 10
 have e3:IntKind.i64.wrap (IntKind.i64.wrap (((n:Nat):Int).tdiv 10)+1)=((n / 10+1:Nat):Int):=by rw [e1,dD (by omega)]
 have e4:IntKind.i64.wrap (((n:Nat):Int).tmod 10+1)=((n % 10+1:Nat):Int):=by rw [e2,dD (by omega)]
 have s1:=pZ (E:=(eF Tryz.prog tt Tryz.f240.ntmps w).toEnv) Tryz.underlying9 (l:=ten) (k:=.i64) (k':=.i64) (n / 10) (n / 10+1) e1 e3 (by omega) (by show n / 10+1<=10;omega)
 have s2:=pZ (E:=(eF Tryz.prog tt Tryz.f240.ntmps w).toEnv) Tryz.underlying9 (l:=ten) (k:=.i64) (k':=.i64) (n % 10) (n % 10+1) e2 e4 (by omega) (by show n % 10+1<=10;omega)
 rw [Dj (by omega)] at s1 s2
 refine ⟨by decide,by decide,_,s1,by decide,by decide,_,s2,?_⟩
 have hs:S [UInt8.ofNat (48+n / 10)]++S [UInt8.ofNat (48+n % 10)]=S (twN n):=bg _ _
 refine ⟨by rw [aH,aH];exact (by decide:1+1<=9223372036854775807),by kernel_rfl,?_,trivial⟩
 rw [hs];rfl
theorem KN (a b c d:List UInt8):(((((S a++S b)++S [45])++S c)++S [45])++S d)=S (a++(b++(45 :: (c++(45 :: d))))):=by
 rw [bg,bg,bg,bg,bg]
 congr 1
 simp
theorem Kp (n:Int):aw Tryz.prog 194 [SV.c (.int .i64 n)] (ww n):=by
 refine aj ai ak OA _ _ rfl rfl fun w=>?_
 have hc:=Mz n
 by_cases h:0<=n/\n<=73048
 ·rw [rN,if_pos h] at hc
  rw [ww,if_pos h]
  obtain ⟨b1,b2,b3,b4,b5,b6⟩:=Aw (n:=n.toNat) (by omega)
  have hd:rL n.toNat=twN ((eH n.toNat).1 / 100)++(twN ((eH n.toNat).1 % 100)++(45 :: (twN (eH n.toNat).2.1++(45 :: twN (eH n.toNat).2.2)))):=rfl
  rw [hd,<- KN]
  generalize (eH n.toNat).1=y at *
  generalize (eH n.toNat).2.1=mo at *
  generalize (eH n.toNat).2.2=d at *
  have e1:IntKind.i64.wrap (((y:Nat):Int).tdiv 100)=((y / 100:Nat):Int):=by rw [show ((y:Nat):Int).tdiv 100=((y / 100:Nat):Int) from nM y 100,i64_in (by omega)]
  have e2:((y:Nat):Int).tmod 100=((y % 100:Nat):Int):=jt y 100
  have t1:=zn (n:=y / 100) (by omega)
  rw [<- e1] at t1
  have t2:=zn (n:=y % 100) (by omega)
  rw [<- e2] at t2
  refine .inl ⟨_,hc,fun h=>absurd h (by decide),fun _=>?_⟩
  refine ⟨by decide,.inl ⟨_,t1,by decide,.inl ⟨_,t2,?_⟩⟩⟩
  have t3:=zn (n:=mo) (by omega)
  have t4:=zn (n:=d) (by omega)
  have z1:(S (twN (y / 100))++S (twN (y % 100))).size=4:=by rw [bg,aH];rfl
  have z2:((S (twN (y / 100))++S (twN (y % 100)))++S [45]).size=5:=by rw [bg,bg,aH];rfl
  have z3:(((S (twN (y / 100))++S (twN (y % 100)))++S [45])++S (twN mo)).size=7:=by rw [bg,bg,bg,aH];rfl
  have z4:((((S (twN (y / 100))++S (twN (y % 100)))++S [45])++S (twN mo))++S [45]).size=8:=by rw [bg,bg,bg,bg,aH];rfl
  refine ⟨by rw [aH,aH];exact (by decide:2+2<=9223372036854775807),(show ((S (twN (y / 100))++S (twN (y % 100))).size+(S [45]).size<=9223372036854775807) by rw [z1];decide),.inl ⟨_,t3,(show (((S (twN (y / 100))++S (twN (y % 100)))++S [45]).size+(S (twN mo)).size<=9223372036854775807) by rw [z2,aH];exact (by decide:5+2<=9223372036854775807)),(show ((((S (twN (y / 100))++S (twN (y % 100)))++S [45])++S (twN mo)).size+(S [45]).size<=9223372036854775807) by rw [z3];decide),.inl ⟨_,t4,(show (((((S (twN (y / 100))++S (twN (y % 100)))++S [45])++S (twN mo))++S [45]).size+(S (twN d)).size<=9223372036854775807) by rw [z4,aH];exact (by decide:8+2<=9223372036854775807)),?_⟩⟩⟩
  exact ⟨rfl,trivial⟩
 ·rw [rN,if_neg h] at hc
  refine .inl ⟨_,hc,fun _=>?_,fun h=>absurd h (by decide)⟩
  exact ⟨by rw [ww,if_neg h];rfl,trivial⟩
end Go.Proofs.YtklehfchdoikeaaGreatDoor
