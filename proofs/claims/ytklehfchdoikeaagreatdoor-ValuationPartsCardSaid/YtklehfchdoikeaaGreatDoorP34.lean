/- chapter 20: Verify, the program. chapter 20: Verify, the doc; no condition. -/
import Derived.Test.YtklehfchdoikeaaGreatDoorP33
set_option maxRecDepth 100000
set_option maxHeartbeats 4000000
namespace Go.Proofs.YtklehfchdoikeaaGreatDoor
open Go Go.RowKit Go.SX
def yk (s:ShQ):Bool:=aF s.cur && (inB s.day 0 73048 && (inB s.known 0 2147483647 && decide (s.lines.length<=512)))
theorem Fi {s:ShQ} (h:yk s=false):eH s=200:=by unfold yk at h;unfold eH;rw [h];rfl
theorem Fh {s:ShQ} {i:Nat} {y:LnQ} (hy:s.lines[i]? = some y) (h:iM y=false):eH s=200:=by
 have:s.lines.all iM=false:=by
  rw [List.all_eq_false]
  exact ⟨y,List.mem_of_getElem? hy,by rw [h];simp⟩
 unfold eH;rw [this];simp
theorem Fg {s:ShQ} (h:(decide (ba s.lines=s.total) && inB s.total (-1000000000000000) 1000000000000000)=false):eH s=200:=by unfold eH;rw [h];simp
theorem Ff {s:ShQ} (h1:yk s=true) (h2:∀ (j:Nat) y,s.lines[j]? = some y->iM y=true) (h:(decide (ba s.lines=s.total) && inB s.total (-1000000000000000) 1000000000000000)=true):eH s=0:=by
 have:s.lines.all iM=true:=by
  rw [List.all_eq_true]
  intro x hx
  obtain ⟨j,hj⟩:=List.getElem?_of_mem hx
  exact h2 j x hj
 unfold yk at h1
 unfold eH;rw [h1,this,h];rfl
theorem G8 {y:LnQ} (h:iM y=true) : -1000000000000000<=y.amt/\y.amt<=1000000000000000:=by
 unfold iM at h
 simp only [Bool.and_eq_true,decide_eq_true_eq] at h
 have:=lP y.qty y.price y.rate
 rw [h.1] at this
 exact this
theorem xd {ls:List LnQ} {i:Nat} {y:LnQ} (hy:ls[i]? = some y):ba (ls.take (i+1))=ba (ls.take i)+y.amt:=by
 rw [List.take_add_one,hy]
 exact uj _ _
theorem BD {ls:List LnQ} {i:Nat} (h:∀ (j:Nat) y,j < i->ls[j]? = some y->iM y=true) (hi:i<=512) : -512000000000000000<=ba (ls.take i)/\ba (ls.take i)<=512000000000000000:=by
 have:=vH (ls.take i) fun x hx=>by
  obtain ⟨j,hj⟩:=List.getElem?_of_mem hx
  have hl:=(List.getElem?_eq_some_iff.1 hj).1
  rw [List.length_take] at hl
  rw [List.getElem?_take_of_lt (by omega)] at hj
  exact G8 (h j x (by omega) hj)
 have hl:(ls.take i).length<=512:=by rw [List.length_take];omega
 omega
theorem rZ {E:Env} (hE:E.P=Tryz.prog) {s:ShQ} {vl:Value} (hv:Lst E vl 137 s.lines.length (cat LnQ.A s.lines)) (hin:∀ y∈s.lines,y.In) (hcur:s.cur.length<=9223372036854775807):OwnC E 30 [SV.c (.agg (s.A vl))] [] (fun r U=>r=.int .i64 (eH s)/\U=[]):=by
 refine aD [] ai ak P9 E hE [SV.c (.agg (s.A vl))] [] _ rfl rfl fun w X β hT=>?_
 obtain ⟨a,cap,rfl,-,h4⟩:=(hv.of_old hT).shape
 have K1:=jI s.cur hcur
 have D1:=eO s.day 0 73048
 have D2:=eO s.known 0 2147483647
 have W1:=eO s.total (-1000000000000000) 1000000000000000
 have t1:=Fi (s:=s)
 have t2:=fun i y=>Fh (s:=s) (i:=i) (y:=y)
 have t3:=Fg (s:=s)
 have t4:=Ff (s:=s)
 have hh:yk s=(aF s.cur && (inB s.day 0 73048 && (inB s.known 0 2147483647 && decide (s.lines.length<=512)))):=rfl
 generalize eH s=VR at *
 have nf:∀ {p:Prop},true=false->p:=fun h=>by cases h
 refine ⟨rfl,_,rfl,.inl ⟨_,K1,fun c1=>?_,fun c1=>?_⟩⟩
 case refine_2 =>
  have c1:aF s.cur=false:=bu c1
  exact ⟨nf,fun _=>⟨nf,fun _=>⟨fun _=>⟨[],[],⟨by rw [t1 (by rw [hh,c1];rfl)];rfl,rfl⟩,trivial,rfl⟩,nf⟩⟩⟩
 have c1:aF s.cur=true:=bw c1
 refine ⟨_,rfl,.inl ⟨_,D1,fun c2=>?_,fun c2=>?_⟩⟩
 case refine_2 =>
  have c2:inB s.day 0 73048=false:=bu c2
  exact ⟨nf,fun _=>⟨fun _=>⟨[],[],⟨by rw [t1 (by rw [hh,c2];simp)];rfl,rfl⟩,trivial,rfl⟩,nf⟩⟩
 have c2:inB s.day 0 73048=true:=bw c2
 refine ⟨_,rfl,.inl ⟨_,D2,fun c3=>?_,fun c3=>?_⟩⟩
 case refine_2 =>
  have c3:inB s.known 0 2147483647=false:=bu c3
  exact ⟨fun _=>⟨[],[],⟨by rw [t1 (by rw [hh,c3];simp)];rfl,rfl⟩,trivial,rfl⟩,nf⟩
 have c3:inB s.known 0 2147483647=true:=bw c3
 refine ⟨_,rfl,_,fun w' _=>ao Tryz.underlying40 w',fun c4=>?_,fun c4=>?_⟩
 ·have c4:s.lines.length > 512:=by have:=af (show decide (((s.lines.length:Nat):Int) > 512)=true from c4);omega
  exact ⟨[],[],⟨by rw [t1 (by rw [hh,decide_eq_false (show ¬ s.lines.length<=512 by omega)];simp)];rfl,rfl⟩,trivial,rfl⟩
 have c4:¬ s.lines.length > 512:=by have:=ag (show decide (((s.lines.length:Nat):Int) > 512)=false from c4);omega
 have hh1:yk s=true:=by rw [hh,c1,c2,c3,decide_eq_true (show s.lines.length<=512 by omega)];rfl
 clear hh
 refine ⟨_,rfl,_,fun w' _=>ao Tryz.underlying40 w',?_⟩
 refine ⟨fun q f m=>∃ (i:Nat),q=s.lines.length - i/\i<=s.lines.length/\(∀ (j:Nat) y,j < i->s.lines[j]? = some y->iM y=true)/\f=[(1,SV.ptr 1 0),(3,SV.c (.int .i64 (ba (s.lines.take i)))),(31,SV.c (.slice a s.lines.length cap)),(32,SV.c (.int .i64 (s.lines.length:Nat))),(33,SV.c (.int .i64 (i:Nat)))]/\m=[(1,Blk.row 42 5 (s.A (.slice a s.lines.length cap)))],s.lines.length,⟨_,_,⟨0,rfl,by omega,fun j y h=>by omega,rfl,rfl⟩,⟨rfl,rfl,rfl,rfl,rfl,trivial⟩,⟨rfl,trivial⟩,rfl⟩,?_⟩
 rintro q f m ⟨i,rfl,hi,hok,rfl,rfl⟩
 refine ⟨fun h=>?_,fun h=>?_⟩
 ·have h:i < s.lines.length:=by have:=af h;omega
  obtain ⟨b,o,rfl,h5⟩:=h4 (by omega)
  obtain ⟨y,hy⟩:∃ y,s.lines[i]? = some y:=⟨_,List.getElem?_eq_getElem h⟩
  have hyi:=hin y (List.mem_of_getElem? hy)
  have hE':VOk (aY Tryz.prog tt Tryz.f30.ntmps w X (aJ [] β)):=ai
  have L1:=bN hE' h5 LnQ.size hy (ty:=77) (ti:=fR) rfl rfl rfl (p:=o+(i:Int).toNat*137) rfl
  have AM:=tL hyi.qty hyi.price hyi.rate
  have hs:iM y=(decide (eL y.qty y.price y.rate=(y.amt,0)) && (inB y.kind 1 4 && inB y.day 0 73048)):=rfl
  have t2:=t2 i y hy
  have Y0:=y.g0
  have Y2:=y.g2
  have Y3:=y.g3
  have YA:=y.g136
  have YP:=y.gprice
  have YR:=y.grate
  have YF:=y.fits
  have X1:=eO y.kind 1 4
  have X2:=eO y.day 0 73048
  have tt1:=xd hy
  have tb:=BD hok (by omega)
  obtain ⟨n,e,hN⟩:∃ n e,eL y.qty y.price y.rate=(n,e):=⟨_,_,rfl⟩
  have hnb:=lP y.qty y.price y.rate
  rw [hN] at AM hs hnb
  have hnb : -1000000000000000<=n/\n<=1000000000000000:=hnb
  have ret:iM y=false->cW [.int .i64 200]=Value.int .i64 VR:=fun h=>by rw [t2 h];rfl
  generalize hYY:y.A=YY at *
  refine ⟨by omega,by omega,.inl ⟨_,L1,YF,_,Y3,by decide,_,YP,by decide,_,YR,.inl ⟨_,AM,fun c5=>?_,fun c5=>?_⟩⟩⟩
  case refine_2 =>
   have c5:(e != 0)=true:=c5
   have c5:e≠0:=by simpa using c5
   exact ⟨nf,fun _=>⟨nf,fun _=>⟨fun _=>⟨[],[],⟨ret (by rw [hs,decide_eq_false (fun g=>c5 (congrArg Prod.snd g))];rfl),rfl⟩,trivial,rfl⟩,nf⟩⟩⟩
  have c5:(e != 0)=false:=c5
  have c5:e=0:=by simpa using c5
  subst c5
  refine ⟨_,YA,fun c6=>?_,fun c6=>?_⟩
  case refine_2 =>
   have c6:(n != y.amt)=true:=c6
   have c6:n≠y.amt:=by simpa using c6
   exact ⟨nf,fun _=>⟨fun _=>⟨[],[],⟨ret (by rw [hs,decide_eq_false (fun g=>c6 (congrArg Prod.fst g))];rfl),rfl⟩,trivial,rfl⟩,nf⟩⟩
  have c6:(n != y.amt)=false:=c6
  have c6:n=y.amt:=by simpa using c6
  refine ⟨_,Y0,.inl ⟨_,X1,fun c7=>?_,fun c7=>?_⟩⟩
  case refine_2 =>
   have c7:inB y.kind 1 4=false:=bu c7
   exact ⟨fun _=>⟨[],[],⟨ret (by rw [hs,c7];simp),rfl⟩,trivial,rfl⟩,nf⟩
  have c7:inB y.kind 1 4=true:=bw c7
  refine ⟨_,Y2,.inl ⟨_,X2,fun c8=>?_,fun c8=>?_⟩⟩
  ·have c8:inB y.day 0 73048=false:=bu c8
   exact ⟨[],[],⟨ret (by rw [hs,c8];simp),rfl⟩,trivial,rfl⟩
  have c8:inB y.day 0 73048=true:=bw c8
  have hg:iM y=true:=by rw [hs,c6,c7,c8];simp
  have hw:IntKind.i64.wrap (ba (s.lines.take i)+n)=ba (s.lines.take (i+1)):=by rw [tt1,<- c6];exact i64_in (by omega)
  refine ⟨s.lines.length - (i+1),_,_,by omega,⟨i+1,rfl,by omega,fun j z hj hz=>?_,rfl,rfl⟩,⟨rfl,ar hw,rfl,rfl,ar (ax (by omega)),trivial⟩,⟨rfl,trivial⟩,rfl⟩
  rcases Nat.lt_or_ge j i with h9 | h9
  ·exact hok j z h9 hz
  ·have:j=i:=by omega
   subst this
   rw [hy] at hz;cases hz
   exact hg
 ·have h:i=s.lines.length:=by have:=ag h;omega
  subst h
  rw [List.take_length]
  refine ⟨_,rfl,fun c5=>?_,fun c5=>?_⟩
  case refine_2 =>
   have c5:(ba s.lines != s.total)=true:=c5
   have c5:ba s.lines≠s.total:=by simpa using c5
   exact ⟨fun _=>⟨[],[],⟨by rw [t3 (by rw [decide_eq_false c5];rfl)];rfl,rfl⟩,trivial,rfl⟩,nf⟩
  have c5:(ba s.lines != s.total)=false:=c5
  have c5:ba s.lines=s.total:=by simpa using c5
  rw [<- c5] at W1
  refine .inl ⟨_,W1,fun c6=>?_,fun c6=>?_⟩
  ·have c6:=bu c6
   exact ⟨[],[],⟨by rw [t3 (by rw [<- c5,c6];simp)];rfl,rfl⟩,trivial,rfl⟩
  ·have c6:=bw c6
   exact ⟨[],[],⟨by rw [t4 hh1 (fun j y hy=>hok j y (List.getElem?_eq_some_iff.1 hy).1 hy) (by rw [<- c5,c6];simp)];rfl,rfl⟩,trivial,rfl⟩
theorem Fe {E:Env} (hE:E.P=Tryz.prog) {s:ShQ} {vl:Value} (hv:Lst E vl 137 s.lines.length (cat LnQ.A s.lines)) (hin:∀ y∈s.lines,y.In):OwnC E 81 [SV.c (.agg (s.A vl))] [] (fun r U=>r=.int .i64 (eH s)/\U=[]):=by
 refine aD [] ai ak Ue E hE [SV.c (.agg (s.A vl))] [] _ rfl rfl fun w X β hT=>?_
 obtain ⟨a,cap,rfl,-,h4⟩:=(hv.of_old hT).shape
 have K1:=KV s.cur
 have D1:=LH s.day
 rw [BT] at D1
 have t1:=Fi (s:=s)
 have t2:=fun i y=>Fh (s:=s) (i:=i) (y:=y)
 have t3:=Fg (s:=s)
 have t4:=Ff (s:=s)
 have hh:yk s=(aF s.cur && (inB s.day 0 73048 && (inB s.known 0 2147483647 && decide (s.lines.length<=512)))):=rfl
 generalize eH s=VR at *
 have nf:∀ {p:Prop},true=false->p:=fun h=>by cases h
 refine ⟨rfl,_,rfl,.inl ⟨_,K1,fun c1=>?_,fun c1=>?_⟩⟩
 case refine_2 =>
  have c1:aF s.cur=false:=bu c1
  exact ⟨nf,fun _=>⟨nf,fun _=>⟨nf,fun _=>⟨fun _=>⟨[],[],⟨by rw [t1 (by rw [hh,c1];rfl)];rfl,rfl⟩,trivial,rfl⟩,nf⟩⟩⟩⟩
 have c1:aF s.cur=true:=bw c1
 refine ⟨_,rfl,.inl ⟨_,D1,fun c2=>?_,fun c2=>?_⟩⟩
 case refine_2 =>
  have c2:inB s.day 0 73048=false:=bu c2
  exact ⟨nf,fun _=>⟨nf,fun _=>⟨fun _=>⟨[],[],⟨by rw [t1 (by rw [hh,c2];simp)];rfl,rfl⟩,trivial,rfl⟩,nf⟩⟩⟩
 have c2:inB s.day 0 73048=true:=bw c2
 refine ⟨_,rfl,fun c3=>?_,fun c3=>?_⟩
 case refine_2 =>
  have c3:=af (show decide (s.known < 0)=true from c3)
  exact ⟨nf,fun _=>⟨fun _=>⟨[],[],⟨by rw [t1 (by rw [hh];unfold inB;rw [decide_eq_false (show ¬ 0<=s.known by omega)];simp)];rfl,rfl⟩,trivial,rfl⟩,nf⟩⟩
 have c3:=ag (show decide (s.known < 0)=false from c3)
 refine ⟨_,rfl,fun c3'=>?_,fun c3'=>?_⟩
 case refine_2 =>
  have c3':=af (show decide (s.known > 2147483647)=true from c3')
  exact ⟨fun _=>⟨[],[],⟨by rw [t1 (by rw [hh];unfold inB;rw [decide_eq_false (show ¬ s.known<=2147483647 by omega)];simp)];rfl,rfl⟩,trivial,rfl⟩,nf⟩
 have c3':=ag (show decide (s.known > 2147483647)=false from c3')
 have ck:inB s.known 0 2147483647=true:=by unfold inB;rw [<- Bool.decide_and,decide_eq_true (by omega)]
 refine ⟨_,rfl,_,fun w' _=>ao Tryz.underlying40 w',fun c4=>?_,fun c4=>?_⟩
 ·have c4:s.lines.length > 512:=by have:=af (show decide (((s.lines.length:Nat):Int) > 512)=true from c4);omega
  exact ⟨[],[],⟨by rw [t1 (by rw [hh,decide_eq_false (show ¬ s.lines.length<=512 by omega)];simp)];rfl,rfl⟩,trivial,rfl⟩
 have c4:¬ s.lines.length > 512:=by have:=ag (show decide (((s.lines.length:Nat):Int) > 512)=false from c4);omega
 have hh1:yk s=true:=by rw [hh,c1,c2,ck,decide_eq_true (show s.lines.length<=512 by omega)];rfl
 clear hh
 refine ⟨fun q f m=>∃ (i:Nat),q=s.lines.length - i/\i<=s.lines.length/\(∀ (j:Nat) y,j < i->s.lines[j]? = some y->iM y=true)/\f=[(1,SV.ptr 1 0),(3,SV.c (.int .i64 (ba (s.lines.take i)))),(4,SV.c (.int .i64 (i:Nat)))]/\m=[(1,Blk.row 42 5 (s.A (.slice a s.lines.length cap)))],s.lines.length,⟨_,_,⟨0,rfl,by omega,fun j y h=>by omega,rfl,rfl⟩,⟨rfl,rfl,rfl,trivial⟩,⟨rfl,trivial⟩,rfl⟩,?_⟩
 rintro q f m ⟨i,rfl,hi,hok,rfl,rfl⟩
 refine ⟨_,rfl,_,fun w' _=>ao Tryz.underlying40 w',fun h=>?_,fun h=>?_⟩
 ·have h:i < s.lines.length:=by have:=af h;omega
  obtain ⟨b,o,rfl,h5⟩:=h4 (by omega)
  obtain ⟨y,hy⟩:∃ y,s.lines[i]? = some y:=⟨_,List.getElem?_eq_getElem h⟩
  have hyi:=hin y (List.mem_of_getElem? hy)
  have hE':VOk (aY Tryz.prog tt Tryz.f81.ntmps w X (aJ [] β)):=ai
  have L1:=bN hE' h5 LnQ.size hy (ty:=77) (ti:=fR) rfl rfl rfl (p:=aO o ((i:Nat):Int) fR.size) (MW o i 137 (by decide))
  have AM:=zt hyi.qty hyi.price hyi.rate
  have hs:iM y=(decide (eL y.qty y.price y.rate=(y.amt,0)) && (inB y.kind 1 4 && inB y.day 0 73048)):=rfl
  have t2:=t2 i y hy
  have Y0:=y.g0
  have Y2:=y.g2
  have Y3:=y.g3
  have YA:=y.g136
  have YP:=y.gprice
  have YR:=y.grate
  have YF:=y.fits
  have X2:=LH y.day
  rw [BT] at X2
  have tt1:=xd hy
  have tb:=BD hok (by omega)
  obtain ⟨n,e,hN⟩:∃ n e,eL y.qty y.price y.rate=(n,e):=⟨_,_,rfl⟩
  have hnb:=lP y.qty y.price y.rate
  rw [hN] at AM hs hnb
  have hnb : -1000000000000000<=n/\n<=1000000000000000:=hnb
  have ret:iM y=false->cW [.int .i64 200]=Value.int .i64 VR:=fun h=>by rw [t2 h];rfl
  generalize hYY:y.A=YY at *
  refine ⟨_,rfl,by omega,by omega,.inl ⟨_,L1,YF,_,Y3,by decide,_,YP,by decide,_,YR,.inl ⟨_,AM,fun c5=>?_,fun c5=>?_⟩⟩⟩
  case refine_2 =>
   have c5:(e != 0)=true:=c5
   have c5:e≠0:=by simpa using c5
   exact ⟨nf,fun _=>⟨nf,fun _=>⟨nf,fun _=>⟨fun _=>⟨[],[],⟨ret (by rw [hs,decide_eq_false (fun g=>c5 (congrArg Prod.snd g))];rfl),rfl⟩,trivial,rfl⟩,nf⟩⟩⟩⟩
  have c5:(e != 0)=false:=c5
  have c5:e=0:=by simpa using c5
  subst c5
  refine ⟨_,YA,fun c6=>?_,fun c6=>?_⟩
  case refine_2 =>
   have c6:(n != y.amt)=true:=c6
   have c6:n≠y.amt:=by simpa using c6
   exact ⟨nf,fun _=>⟨nf,fun _=>⟨fun _=>⟨[],[],⟨ret (by rw [hs,decide_eq_false (fun g=>c6 (congrArg Prod.fst g))];rfl),rfl⟩,trivial,rfl⟩,nf⟩⟩⟩
  have c6:(n != y.amt)=false:=c6
  have c6:n=y.amt:=by simpa using c6
  refine ⟨_,Y0,fun c7=>?_,fun c7=>?_⟩
  case refine_2 =>
   have c7:=af (show decide (y.kind < 1)=true from c7)
   exact ⟨nf,fun _=>⟨fun _=>⟨[],[],⟨ret (by rw [hs];unfold inB;rw [decide_eq_false (show ¬ 1<=y.kind by omega)];simp),rfl⟩,trivial,rfl⟩,nf⟩⟩
  have c7:=ag (show decide (y.kind < 1)=false from c7)
  refine ⟨_,Y0,fun c7'=>?_,fun c7'=>?_⟩
  case refine_2 =>
   have c7':=af (show decide (y.kind > 4)=true from c7')
   exact ⟨fun _=>⟨[],[],⟨ret (by rw [hs];unfold inB;rw [decide_eq_false (show ¬ y.kind<=4 by omega)];simp),rfl⟩,trivial,rfl⟩,nf⟩
  have c7':=ag (show decide (y.kind > 4)=false from c7')
  have c7:inB y.kind 1 4=true:=by unfold inB;rw [<- Bool.decide_and,decide_eq_true (by omega)]
  refine ⟨_,Y2,.inl ⟨_,X2,fun c8=>?_,fun c8=>?_⟩⟩
  ·have c8:inB y.day 0 73048=false:=bu c8
   exact ⟨[],[],⟨ret (by rw [hs,c8];simp),rfl⟩,trivial,rfl⟩
  have c8:inB y.day 0 73048=true:=bw c8
  have hg:iM y=true:=by rw [hs,c6,c7,c8];simp
  have hw:IntKind.i64.wrap (ba (s.lines.take i)+n)=ba (s.lines.take (i+1)):=by rw [tt1,<- c6];exact i64_in (by omega)
  refine ⟨s.lines.length - (i+1),_,_,by omega,⟨i+1,rfl,by omega,fun j z hj hz=>?_,rfl,rfl⟩,⟨rfl,ar hw,ar (ax (by omega)),trivial⟩,⟨rfl,trivial⟩,rfl⟩
  rcases Nat.lt_or_ge j i with h9 | h9
  ·exact hok j z h9 hz
  ·have:j=i:=by omega
   subst this
   rw [hy] at hz;cases hz
   exact hg
 ·have h:i=s.lines.length:=by have:=ag h;omega
  subst h
  rw [List.take_length]
  refine ⟨_,rfl,fun c5=>?_,fun c5=>?_⟩
  case refine_2 =>
   have c5:(ba s.lines != s.total)=true:=c5
   have c5:ba s.lines≠s.total:=by simpa using c5
   exact ⟨nf,fun _=>⟨fun _=>⟨[],[],⟨by rw [t3 (by rw [decide_eq_false c5];rfl)];rfl,rfl⟩,trivial,rfl⟩,nf⟩⟩
  have c5:(ba s.lines != s.total)=false:=c5
  have c5:ba s.lines=s.total:=by simpa using c5
  refine ⟨fun c6=>?_,fun c6=>?_⟩
  case refine_2 =>
   have c6:=af (show decide (ba s.lines > 1000000000000000)=true from c6)
   exact ⟨fun _=>⟨[],[],⟨by rw [t3 (by unfold inB;rw [decide_eq_false (show ¬ s.total<=1000000000000000 by omega)];simp)];rfl,rfl⟩,trivial,rfl⟩,nf⟩
  have c6:=ag (show decide (ba s.lines > 1000000000000000)=false from c6)
  refine ⟨fun c7=>?_,fun c7=>?_⟩
  ·have c7:=af (show decide (ba s.lines < -1000000000000000)=true from c7)
   exact ⟨[],[],⟨by rw [t3 (by unfold inB;rw [decide_eq_false (show ¬ -1000000000000000<=s.total by omega)];simp)];rfl,rfl⟩,trivial,rfl⟩
  ·have c7:=ag (show decide (ba s.lines < -1000000000000000)=false from c7)
   exact ⟨[],[],⟨by rw [t4 hh1 (fun j y hy=>hok j y (List.getElem?_eq_some_iff.1 hy).1 hy) (by unfold inB;rw [<- Bool.decide_and,decide_eq_true c5,decide_eq_true (by omega)];rfl)];rfl,rfl⟩,trivial,rfl⟩
structure OB where
 k:Key
 v:Value
 e:TypeId
 sz:Nat
 n:Nat
 A:Array Value
abbrev OB.m (b:OB):Key×Blk:=(b.k,Blk.own b.v b.e b.sz b.n b.A)
theorem yz:∀ {a b:aA} {k:Key},aw a k=none->aw b k=none->aw (a++b) k=none
 | [],b,k,_,h=>h
 | (d,B) :: a,b,k,h1,h2=>by
  simp only [aw] at h1 ⊢
  rw [List.cons_append]
  simp only [aw]
  by_cases e:d=k
  ·rw [if_pos e] at h1;cases h1
  ·rw [if_neg e] at h1 ⊢
   exact yz h1 h2
theorem te:∀ {l:List OB} {k:Key},(l.map OB.k).contains k=false->aw (l.map OB.m) k=none
 | [],k,_=>rfl
 | b :: l,k,h=>by
  rw [List.map_cons,List.contains_cons,Bool.or_eq_false_iff] at h
  rw [List.map_cons]
  simp only [aw]
  rw [if_neg (fun e=>by rw [e] at h;simp at h)]
  exact te h.2
theorem He (l:List OB):Go.SX.keysM (l.map OB.m)=l.map OB.k:=by
 unfold Go.SX.keysM
 rw [List.map_map]
 rfl
theorem Gr {f:FuncId} {sv:List SV} {Q:Value->aA->Prop}:∀ (l:List OB),Go.SX.distinct (l.map OB.k)=true->(∀ b∈l,b.A.all (·.oneCell')=true)->(∀ x U,Q x U->∀ b∈l,aw U b.k=none)->∀ {E:Env},Go.SX.Enters E.P f ->
    (∀ E0:Env,E0.P=E.P->(∀ w,OldW E0 w->OldW E w)->(∀ b∈l,Lst E0 b.v b.sz b.n b.A)->OwnC E0 f sv [] Q)->OwnC E f sv (l.map OB.m) (fun x U=>∃ U0,Q x U0/\U=l.map OB.m++U0)
 | [],_,_,_,E,_,h=>(h E rfl (fun _ h=>h) (fun b hb=>by cases hb)).mono fun x U hq=>⟨U,hq,rfl⟩
 | b :: l,hd,hA,hQ,E,hent,h=>by
  rw [List.map_cons] at hd
  simp only [Go.SX.distinct,Bool.and_eq_true,Bool.not_eq_true'] at hd
  refine (OwnC.with_own2 (k:=b.k) (v:=b.v) (e:=b.e) (sz:=b.sz) (n:=b.n) (A:=b.A) (pre:=l.map OB.m) (Q:=fun x U=>∃ U0,Q x U0/\U=l.map OB.m++U0) (te hd.1) (by rw [He];exact hd.2) (hA b (by simp)) hent ?_ ?_).mono ?_
  ·intro E0 h0 ho hl
   refine Gr l hd.2 (fun c hc=>hA c (by simp [hc])) (fun x U hq c hc=>hQ x U hq c (by simp [hc])) (by rw [h0];exact hent) fun E1 h1 ho1 hl1=>?_
   refine h E1 (h1.trans h0) (fun w hw=>ho w (ho1 w hw)) fun c hc=>?_
   rcases List.mem_cons.1 hc with rfl | hc
   ·exact hl.of_old ho1
   ·exact hl1 c hc
  ·rintro x U ⟨U0,hq,rfl⟩
   exact yz (te hd.1) (hQ x U0 hq b (by simp))
  ·rintro x U ⟨U0,⟨U1,hq,rfl⟩,rfl⟩
   exact ⟨U1,hq,rfl⟩
end Go.Proofs.YtklehfchdoikeaaGreatDoor
