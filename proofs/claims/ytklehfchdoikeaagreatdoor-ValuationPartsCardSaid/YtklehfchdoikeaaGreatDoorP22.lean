/- walks: the text of a day. walks: days as dates, the referenc; no condition. -/
import Derived.Test.YtklehfchdoikeaaGreatDoorP20
import Derived.Test.YtklehfchdoikeaaGreatDoorP14
import Derived.Test.YtklehfchdoikeaaGreatDoorP11
set_option maxRecDepth 100000
set_option maxHeartbeats 4000000
namespace Go.Proofs.YtklehfchdoikeaaGreatDoor
open Go Go.RowKit Go.SX
theorem AK (a:Nat) (l:List UInt8):cy a 0 l=l:=by cases a<;>rfl
theorem AN {b N:Nat} (h:N≠0) (l:List UInt8):cy (b+1) N l=cy b (N / 10) (l.set b (UInt8.ofNat (48+N % 10))):=by rw [cy,if_neg h]
theorem Ij {y:Nat} (h1:2000<=y) (h2:y<=2199) (m d:Nat):∃ a b c e,oB y m d 1=[a,b,c,e,45,48,48,45,48,48]:=⟨_,_,_,_,uS (by omega) (by omega) 48 48 48 48 [45,48,48,45,48,48]⟩
theorem Nx {y m:Nat} (h1:2000<=y) (h2:y<=2199) (h3:1<=m) (h4:m<=12) (d:Nat):∃ a b c e f g,oB y m d 2=[a,b,c,e,45,f,g,45,48,48]:=by
 obtain ⟨a,b,c,e,h⟩:=Ij h1 h2 m d
 have h:cy 4 y uc=[a,b,c,e,45,48,48,45,48,48]:=h
 refine ⟨a,b,c,e,UInt8.ofNat (48+m / 10),UInt8.ofNat (48+m % 10),?_⟩
 show cy 7 m (cy 4 y uc)=_
 rw [h]
 exact tm (k:=4) h3 (by omega) [a,b,c,e,45,48,48,45,48,48]
theorem Cy {v k:Nat} (hv:v<=99) (h:0 < v / 10 ^ k):k<=1:=by
 rcases Nat.lt_or_ge k 2 with h1 | h1
 ·omega
 ·exfalso
  have:10 ^ 2<=10 ^ k:=Nat.pow_le_pow_right (by omega) h1
  rw [Nat.div_eq_of_lt (by omega)] at h
  omega
def Zer (b N:Nat) (l:List UInt8):Prop:=∀ j,j < b->0 < N / 10 ^ (b - 1 - j)->l[j]? = some 48
theorem Zer.here {b N:Nat} {l:List UInt8} (h:Zer (b+1) N l) (hN:0 < N):l[b]? = some 48:=h b (by omega) (by rw [show b+1 - 1 - b=0 by omega];simpa using hN)
theorem Zer.step {b N:Nat} {l:List UInt8} (h:Zer (b+1) N l) (x:UInt8):Zer b (N / 10) (l.set b x):=fun j hj hd=>by
 rw [List.getElem?_set_ne (by omega)]
 refine h j (by omega) ?_
 rw [Nat.div_div_eq_div_mul,<- Nat.pow_succ'] at hd
 rw [show b+1 - 1 - j=(b - 1 - j).succ by omega]
 exact hd
theorem Et {y m d:Nat} (h1:2000<=y) (h2:y<=2199) (h3:1<=m) (h4:m<=12) (h5:1<=d) (h6:d<=31) {i:Nat} (hi:i < 3):∃ v a:Nat,(#[.int .i64 y,.int .i64 3,.int .i64 m,.int .i64 6,.int .i64 d,.int .i64 9]:Array Value).extract (i*2) (i*2+2)=#[.int .i64 (v:Nat),.int .i64 (((a:Nat):Int) - 1)]/\a<=10/\v < 10 ^ a/\oB y m d (i+1)=cy a v (oB y m d i)/\v<=9999/\Zer a v (oB y m d i):=by
 obtain rfl | rfl | rfl:i=0\/i=1\/i=2:=by omega
 ·refine ⟨y,4,rfl,by omega,by omega,rfl,by omega,fun j hj _=>?_⟩
  obtain rfl | rfl | rfl | rfl:j=0\/j=1\/j=2\/j=3:=by omega
  all_goals rfl
 ·refine ⟨m,7,rfl,by omega,by omega,rfl,by omega,fun j hj hd=>?_⟩
  have:=Cy (by omega) hd
  obtain ⟨a,b,c,e,h⟩:=Ij h1 h2 m d
  rw [h]
  obtain rfl | rfl:j=5\/j=6:=by omega
  all_goals rfl
 ·refine ⟨d,10,rfl,by omega,by omega,rfl,by omega,fun j hj hd=>?_⟩
  have:=Cy (by omega) hd
  obtain ⟨a,b,c,e,f,g,h⟩:=Nx h1 h2 h3 h4 d
  rw [h]
  obtain rfl | rfl:j=8\/j=9:=by omega
  all_goals rfl
theorem DZ {i:Nat} (h:i<=4000000000000000000):IntKind.i64.wrap (((i:Nat):Int)+1)=((i+1:Nat):Int):=by rw [i64_in (by omega)];rfl
def Ks (n:Int):Value:=if 0<=n/\n<=73048 then .tuple #[.string (S (Eu n.toNat)),.int .i64 0] else .tuple #[.string (S []),.int .i64 50]
theorem Nm (n:Int):ay Tryz.prog 230 [SV.c (.int .i64 n)] (Ks n):=by
 refine rH (vs:=[.int .i64 n]) Mc.enters fun w0=>?_
 refine aD [] ai ak Mc _ rfl [SV.c (.int .i64 n)] [] _ rfl rfl fun w X β hT=>?_
 have hc:=PC n
 by_cases h:0<=n/\n<=73048
 ·rw [It,if_pos h] at hc
  rw [Ks,if_pos h]
  obtain ⟨b1,b2,b3,b4,b5,b6⟩:=KY (n:=n.toNat) (by omega)
  have hd:Eu n.toNat=oB (il n.toNat).1 (il n.toNat).2.1 (il n.toNat).2.2 3:=(Ev b1 b2 b3 b4 b5 b6).symm
  rw [hd]
  generalize (il n.toNat).1=y at *
  generalize (il n.toNat).2.1=mo at *
  generalize (il n.toNat).2.2=d at *
  refine .inl ⟨_,hc,fun h=>absurd h (by decide),fun _=>?_⟩
  refine .inr ⟨by decide,by decide,by decide,bytesRow ⟨uc.toArray⟩ 10,by kernel_rfl,by kernel_rfl,trivial,fun g=>?_⟩
  refine Bc rfl rfl Tryz.underlying277 Tryz.underlying5 22 (l:=uc) rfl rfl rfl rfl fun fz=>?_
  refine ⟨#[.int .i64 y,.int .i64 3],rfl,#[.int .i64 mo,.int .i64 6],rfl,#[.int .i64 d,.int .i64 9],rfl,?_⟩
  refine .inr ⟨by decide,by decide,by decide,#[.int .i64 y,.int .i64 3,.int .i64 mo,.int .i64 6,.int .i64 d,.int .i64 9],by kernel_rfl,rfl,trivial,fun g2=>?_⟩
  refine ⟨_,fun w' _=>ao Tryz.underlying279 w',?_⟩
  refine ⟨fun q f m=>∃ i:Nat,q=3 - i/\i<=3/\f=[(8,SV.c (.slice (some ⟨g,0,none⟩) 10 10)),(30,SV.c (.slice (some ⟨g2,0,none⟩) 3 3)),(31,SV.c (.int .i64 3)),(32,SV.c (.int .i64 (i:Nat)))]/\m=[(22,Blk.res g (fun o=>o=.cells (bytesRow ⟨(oB y mo d i).toArray⟩ 10) 5 ((bytesRow ⟨(oB y mo d i).toArray⟩ 10).size,fz))),(30,Blk.own (.slice (some ⟨g2,0,none⟩) 3 3) 278 2 3 #[.int .i64 y,.int .i64 3,.int .i64 mo,.int .i64 6,.int .i64 d,.int .i64 9])],3,⟨_,_,⟨0,rfl,by omega,rfl,rfl⟩,⟨rfl,rfl,rfl,rfl,trivial⟩,⟨rfl,.inl rfl,trivial⟩,rfl⟩,?_⟩
  rintro q f m ⟨i,rfl,hi,rfl,rfl⟩
  refine ⟨fun h1=>?_,fun h1=>?_⟩
  ·have h1:i < 3:=by have:=af h1;omega
   obtain ⟨v,a,hx1,ha,hva,hst,hv4,hz0⟩:=Et b1 b2 b3 b4 b5 b6 h1
   refine ⟨by omega,by omega,.inr ⟨30,g2,_,3,3,_,_,_,rfl,rfl,?_⟩⟩
   have ho:aO 0 ((i:Nat):Int) xb.size=i*2:=by show aO 0 ((i:Nat):Int) 2=i*2;simp [aO]
   have h6:aO 0 ((i:Nat):Int) xb.size+2<=6:=by rw [ho];omega
   have hx1:(#[.int .i64 y,.int .i64 3,.int .i64 mo,.int .i64 6,.int .i64 d,.int .i64 9]:Array Value).extract (aO 0 ((i:Nat):Int) xb.size) (aO 0 ((i:Nat):Int) xb.size+2)=#[.int .i64 (v:Nat),.int .i64 (((a:Nat):Int) - 1)]:=by rw [ho];exact hx1
   refine ⟨h6,#[.int .i64 (v:Nat),.int .i64 (((a:Nat):Int) - 1)],hx1,?_⟩
   refine ⟨⟨rfl,by simp [Value.oneCell']⟩,_,rfl,?_⟩
   refine ⟨fun q f m=>∃ (b N:Nat) (l:List UInt8),q=b/\b<=10/\N < 10 ^ b/\N<=9999/\l.length=10/\Zer b N l/\cy b N l=oB y mo d (i+1)/\f=[(8,SV.c (.slice (some ⟨g,0,none⟩) 10 10)),(10,SV.ptr 10 0),(11,SV.c (.int .i64 (((b:Nat):Int) - 1))),(30,SV.c (.slice (some ⟨g2,0,none⟩) 3 3)),(31,SV.c (.int .i64 3)),(32,SV.c (.int .i64 (i:Nat)))]/\m=[(22,Blk.res g (fun o=>o=.cells (bytesRow ⟨l.toArray⟩ 10) 5 ((bytesRow ⟨l.toArray⟩ 10).size,fz))),(10,Blk.row 278 2 #[.int .i64 (N:Nat),.int .i64 (((a:Nat):Int) - 1)]),(30,Blk.own (.slice (some ⟨g2,0,none⟩) 3 3) 278 2 3 #[.int .i64 y,.int .i64 3,.int .i64 mo,.int .i64 6,.int .i64 d,.int .i64 9])],a,⟨_,_,⟨a,v,oB y mo d i,rfl,ha,hva,hv4,yS _ _ _ _,hz0,hst.symm,rfl,rfl⟩,⟨rfl,rfl,rfl,rfl,rfl,rfl,trivial⟩,⟨rfl,rfl,.inl rfl,trivial⟩,rfl⟩,?_⟩
   rintro q f m ⟨b,N,l,rfl,hb,hN,hN4,hl,hzr,hfl,rfl,rfl⟩
   refine ⟨_,rfl,fun c1=>?_,fun c1=>?_⟩
   ·have c1:=af c1
    have c1':0 < N:=by omega
    obtain ⟨b,rfl⟩:∃ b,q=b+1:=⟨q - 1,by
     rcases Nat.eq_zero_or_pos q with h0 | h0
     ·subst h0;simp at hN;omega
     ·omega⟩
    have e0:(((b+1:Nat):Int) - 1)=((b:Nat):Int):=by omega
    rw [e0]
    refine ⟨by omega,by omega,?_⟩
    have ho2:aO 0 ((b:Nat):Int) ti5.size=b:=by show aO 0 ((b:Nat):Int) 1=b;simp [aO]
    rw [ho2]
    have hE':VOk (aY Tryz.prog tt Tryz.f230.ntmps w X (aJ [] β)):=ai
    refine EP hE' rfl rfl rfl 22 (l:=l) rfl rfl (hzr.here c1') ?_
    refine ⟨_,rfl,by decide,by omega,by omega,?_⟩
    rw [ho2]
    have hr10:=Nat.mod_lt N (show 0 < 10 by omega)
    have e1:IntKind.u8.wrap ((((48:UInt8).toNat:Nat):Int)+IntKind.u8.wrap (((N:Nat):Int).tmod 10))=(((UInt8.ofNat (48+N % 10)).toNat:Nat):Int):=by
     rw [show ((N:Nat):Int).tmod 10=((N % 10:Nat):Int) from vI N 10]
     generalize N % 10=r at hr10
     obtain rfl | rfl | rfl | rfl | rfl | rfl | rfl | rfl | rfl | rfl:r=0\/r=1\/r=2\/r=3\/r=4\/r=5\/r=6\/r=7\/r=8\/r=9:=by omega
     all_goals rfl
    refine Bf hE' rfl rfl rfl 22 (l:=l) (b:=UInt8.ofNat (48+N % 10)) rfl (ar e1) rfl (by omega) ?_
    have e2:IntKind.i64.wrap (((N:Nat):Int).tdiv 10)=((N / 10:Nat):Int):=by rw [show ((N:Nat):Int).tdiv 10=((N / 10:Nat):Int) from vJ N 10,i64_in (by omega)]
    refine ⟨by kernel_rfl,_,rfl,by decide,by decide,rfl,#[.int .i64 (N / 10:Nat),.int .i64 (((a:Nat):Int) - 1)],by rw [e2];rfl,?_⟩
    have e3:IntKind.i64.wrap (((b:Nat):Int) - 1)=((b:Nat):Int) - 1:=i64_in (by omega)
    exact ⟨b,_,_,by omega,⟨b,N / 10,l.set b (UInt8.ofNat (48+N % 10)),rfl,by omega,Nat.div_lt_of_lt_mul (by rw [<- Nat.pow_succ'];exact hN),by omega,by rw [List.length_set];exact hl,hzr.step _,by rw [<- AN (by omega)];exact hfl,rfl,rfl⟩,⟨rfl,rfl,ar e3,rfl,rfl,rfl,trivial⟩,⟨rfl,rfl,.inl rfl,trivial⟩,rfl⟩
   ·have c1:=ag c1
    have c1:N=0:=by omega
    subst c1
    have hB:oB y mo d (i+1)=l:=by rw [<- hfl,AK]
    subst hB
    exact ⟨3 - (i+1),_,_,by omega,⟨i+1,rfl,by omega,rfl,rfl⟩,⟨rfl,rfl,rfl,ar (DZ (by omega)),trivial⟩,⟨rfl,.inl rfl,trivial⟩,rfl⟩
  ·have h1:i=3:=by have:=ag h1;omega
   subst h1
   refine Be rfl rfl Tryz.underlying277 Tryz.underlying9 Tryz.underlying5 22 (l:=oB y mo d 3) (yS _ _ _ _).symm rfl rfl ?_
   exact ⟨[],[],⟨rfl,rfl⟩,trivial,rfl⟩
 ·rw [It,if_neg h] at hc
  refine .inl ⟨_,hc,fun _=>?_,fun h=>absurd h (by decide)⟩
  exact ⟨[],[],⟨by rw [Ks,if_neg h];rfl,rfl⟩,trivial,rfl⟩
end Go.Proofs.YtklehfchdoikeaaGreatDoor
