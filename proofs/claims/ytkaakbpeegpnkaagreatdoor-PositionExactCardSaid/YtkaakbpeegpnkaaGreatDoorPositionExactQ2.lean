/- the reference: a day put into a list of days. the reference: the days. the reference: act. the reference: At; no condition. -/
import Derived.Test.YtkaakbpeegpnkaaGreatDoorPositionExactQ1
import Derived.Test.YtkaakbpeegpnkaaGreatDoorP30
set_option maxRecDepth 100000
set_option maxHeartbeats 4000000
namespace Go.Proofs.YtkaakbpeegpnkaaGreatDoor
open Go Go.RowKit Go.SX
theorem src_part {E:Env} {m:Mem} {d:Key} {g off k c cap:Nat} {e:TypeId} {sz n:Nat} {A:Array Value} (hm:m d=some (Blk.own (.slice (some ⟨g,0,none⟩) n cap) e sz n A)) (hA:A.all (·.oneCell')=true) (h:off+k*sz≤A.size):Go.SX.Src E m [d] (SV.c (.slice (some ⟨g,off,none⟩) k c)) sz k (A.extract off (off+k*sz)):=by
 refine ⟨by rw [Array.size_extract];omega,?_,fun m' ρ w u hm' hw hv=>?_⟩
 ·rw [Array.all_eq_true] at hA ⊢
  intro i hi
  rw [Array.getElem_extract]
  exact hA _ _
 have hv:u=_:=hv
 subst hv
 have h1:=(hw.loose d _ ((hm' d (by simp)).trans hm) rfl).2
 have h1:w.ownsRow 0 e sz (.slice (some ⟨g,0,none⟩) n cap) n A.toList:=h1
 refine ⟨_,c,rfl,fun j x hj=>?_⟩
 rw [Array.getElem?_extract] at hj
 split at hj
 ·have:=World.ownsRow.cells h1 (g:=g) rfl (off+j) x (by simpa using hj)
  rw [add_flat] at this ⊢
  rw [Nat.zero_add] at this
  exact this
 ·cases hj
theorem ints_take (l:List Int) (i:Nat) (_h:i≤l.length):(ints l).extract 0 (0+i*1)=ints (l.take i):=by
 apply Array.ext'
 simp [ints,List.map_take]
theorem ints_drop (l:List Int) (i:Nat) (_h:i≤l.length):(ints l).extract (i*1) (i*1+(l.length - i)*1)=ints (l.drop i):=by
 apply Array.ext'
 have:List.take (l.length - i) (List.drop i (List.map (Value.int IntKind.i64) l))=List.drop i (List.map (Value.int IntKind.i64) l):=List.take_of_length_le (by simp)
 simp [ints,List.map_drop,this]
theorem ints_all (l:List Int):(ints l).all (·.oneCell')=true:=by
 unfold ints
 rw [List.all_toArray]
 simp [Value.oneCell']
theorem ints_cat (l m:List Int):ints l++ints m=ints (l++m):=by simp [ints]
theorem fill_0:Instr.fill (fun k=>some (k*ti3.size,ti3.size)) (madeCells ti3.zero (0*ti3.size)) []=some #[]:=by
 have e0:madeCells ti3.zero (0*ti3.size)=#[]:=by
  apply Array.ext'
  unfold madeCells
  simp
 rw [e0]
 rfl
theorem ints_gt {l:List Int} {i:Nat} {y:Int} (h:l[i]? = some y):(ints l)[i]? = some (.int .i64 y):=by simp [ints,h]
theorem ints_size (l:List Int):(ints l).size=l.length:=by simp [ints]
theorem ins_r {E:Env} (hE:E.P=Tryz.prog) {v:Value} {l:List Int} {d most:Int} {n:Nat} (hv:IsL v n) (hk:∃ a c,v=.slice a n c∧n≤c) (hn:n=l.length) (hb:n≤1000000000000):OwnC E 71 [SV.c v,SV.c (.int .i64 d),SV.c (.int .i64 most)] [(9620,Blk.own v 3 1 n (ints l))] (fun r U=>IsL r (insM l d most).length∧U=[(9620,Blk.own r 3 1 (insM l d most).length (ints (insM l d most)))]):=by
 refine sx_ownC [4,6,7] tt_ok mixed at71 E hE [SV.c v,SV.c (.int .i64 d),SV.c (.int .i64 most)] [(9620,Blk.own v 3 1 n (ints l))] _ rfl rfl fun w X β hT=>?_
 obtain ⟨xa,xc,rfl,hk⟩:=hk
 refine ⟨fun f m=>∃ i:Nat,i≤n∧(∀ (j:Nat) y,j < i→l[j]? = some y→y < d)∧(∀ y,l[i]? = some y→¬ y < d)∧f=[(0,SV.c (.slice xa n xc)),(1,SV.c (.int .i64 d)),(2,SV.c (.int .i64 most)),(7,SV.c (.int .i64 (i:Nat)))]∧m=[(9620,Blk.own (.slice xa n xc) 3 1 n (ints l))],?_,?_⟩
 ·refine ⟨fun q f m=>∃ i:Nat,q=n - i∧i≤n∧(∀ (j:Nat) y,j < i→l[j]? = some y→y < d)∧f=[(0,SV.c (.slice xa n xc)),(1,SV.c (.int .i64 d)),(2,SV.c (.int .i64 most)),(7,SV.c (.int .i64 (i:Nat)))]∧m=[(9620,Blk.own (.slice xa n xc) 3 1 n (ints l))],n,⟨_,_,⟨0,by omega,by omega,fun j y h=>absurd h (by omega),rfl,rfl⟩,⟨rfl,rfl,rfl,rfl,trivial⟩,⟨.inl rfl,trivial⟩,rfl⟩,?_⟩
  rintro q f m ⟨i,rfl,hi,hlt,rfl,rfl⟩
  refine ⟨_,fun w' _=>run_len_sl Tryz.underlying41 w',?_⟩
  refine ⟨fun c=>?_,fun c=>?_⟩
  ·have c:i < n:=by have:=of_decide_eq_true (show decide (((i:Nat):Int) < (n:Nat))=true from c);omega
   rcases hv with ⟨hs1,hs2⟩ | ⟨g0,c0,hs1⟩
   ·omega
   cases hs1
   obtain ⟨y,hy⟩:∃ y,l[i]? = some y:=⟨_,List.getElem?_eq_getElem (by omega)⟩
   refine ⟨by omega,by omega,.inr ⟨9620,g0,_,n,_,_,_,_,rfl,rfl,.int .i64 y,(by rw [off18];exact ints_gt hy),?_⟩⟩
   refine ⟨fun c1=>?_,fun c1=>?_⟩
   ·have c1:y < d:=of_decide_eq_true c1
    exact ⟨n - (i+1),_,_,by omega,⟨i+1,rfl,by omega,fun j z hj hz=>by
     rcases Nat.lt_succ_iff_lt_or_eq.1 hj with h | rfl
     ·exact hlt j z h hz
     ·rw [hy] at hz;cases hz;exact c1,rfl,rfl⟩,⟨rfl,rfl,rfl,c_int (i64_succ (by omega)),trivial⟩,⟨.inl rfl,trivial⟩,rfl⟩
   ·have c1:¬ y < d:=of_decide_eq_false c1
    exact ⟨_,_,⟨i,hi,hlt,fun z hz=>by rw [hy] at hz;cases hz;exact c1,rfl,rfl⟩,⟨rfl,rfl,rfl,rfl,trivial⟩,⟨.inl rfl,trivial⟩,rfl⟩
  ·have c:i=n:=by have:=of_decide_eq_false (show decide (((i:Nat):Int) < (n:Nat))=false from c);omega
   refine ⟨nofun,fun _=>?_⟩
   exact ⟨_,_,⟨i,hi,hlt,(fun z hz=>by rw [List.getElem?_eq_none (by omega)] at hz;cases hz),rfl,rfl⟩,⟨rfl,rfl,rfl,rfl,trivial⟩,⟨.inl rfl,trivial⟩,rfl⟩
 ·rintro f1 m1 ⟨i,hi,hlt,hge,rfl,rfl⟩
  have IA:=insD_at d l i hlt hge (by omega)
  obtain ⟨xa2,xc2,hv2⟩:∃ a c,Value.slice xa n xc=.slice a n c:=⟨xa,xc,rfl⟩
  refine ⟨fun f m=>insM l d most=l.take i++d :: l.drop i∧f=[(0,SV.c (.slice xa n xc)),(1,SV.c (.int .i64 d)),(7,SV.c (.int .i64 (i:Nat)))]∧m=[(9620,Blk.own (.slice xa n xc) 3 1 n (ints l))],?_,?_⟩
  ·have stay:insM l d most=l→IsL (.slice xa n xc) (insM l d most).length∧[(9620,Blk.own (.slice xa n xc) 3 1 n (ints l))]=[(9620,Blk.own (.slice xa n xc) 3 1 (insM l d most).length (ints (insM l d most)))]:=fun h=>by rw [h,← hn];exact ⟨hv,rfl⟩
   refine ⟨fun c=>?_,fun c=>?_⟩
   ·have c:¬ d > most:=of_decide_eq_false c
    have hM:insM l d most=insD d l:=by unfold insM;rw [if_neg c]
    refine ⟨_,fun w' _=>run_len_sl Tryz.underlying41 w',?_⟩
    refine ⟨fun c1=>?_,fun c1=>?_⟩
    ·have c1:i < n:=by have:=of_decide_eq_true (show decide (((i:Nat):Int) < (n:Nat))=true from c1);omega
     rcases hv with ⟨hs1,hs2⟩ | ⟨g0,c0,hs1⟩
     ·omega
     cases hs1
     obtain ⟨y,hy⟩:∃ y,l[i]? = some y:=⟨_,List.getElem?_eq_getElem (by omega)⟩
     refine ⟨by omega,by omega,.inr ⟨9620,g0,_,n,_,_,_,_,rfl,rfl,.int .i64 y,(by rw [off18];exact ints_gt hy),?_⟩⟩
     refine ⟨fun c2=>?_,fun c2=>?_⟩
     ·have c2:(y == d)=true:=c2
      have c2:y=d:=by simpa using c2
      exact ⟨_,[],stay (by rw [hM,IA,if_pos (by rw [hy,c2])]),⟨.inl rfl,trivial⟩,rfl⟩
     ·have c2:(y == d)=false:=c2
      have c2:y≠d:=by simpa using c2
      exact ⟨_,_,⟨by rw [hM,IA,if_neg (by rw [hy];exact fun h=>c2 (Option.some.inj h))],rfl,rfl⟩,⟨rfl,rfl,rfl,trivial⟩,⟨.inl rfl,trivial⟩,rfl⟩
    ·have c1:i=n:=by have:=of_decide_eq_false (show decide (((i:Nat):Int) < (n:Nat))=false by simpa using c1);omega
     refine ⟨nofun,fun _=>?_⟩
     exact ⟨_,_,⟨by rw [hM,IA,if_neg (by rw [List.getElem?_eq_none (by omega)];exact nofun)],rfl,rfl⟩,⟨rfl,rfl,rfl,trivial⟩,⟨.inl rfl,trivial⟩,rfl⟩
   ·have c:d > most:=of_decide_eq_true (show decide (d > most)=true by simpa using c)
    refine ⟨fun _=>?_,nofun⟩
    exact ⟨_,[],stay (by unfold insM;rw [if_pos c]),⟨.inl rfl,trivial⟩,rfl⟩
  ·rintro f2 m2 ⟨hM,rfl,rfl⟩
   refine ⟨fun f m=>∃ gg cc,f=[(0,SV.c (.slice xa n xc)),(1,SV.c (.int .i64 d)),(7,SV.c (.int .i64 (i:Nat))),(8,SV.c (.slice (some ⟨gg,0,none⟩) i cc))]∧m=[(41,Blk.own (.slice (some ⟨gg,0,none⟩) i cc) 3 1 i (ints (l.take i))),(9620,Blk.own (.slice xa n xc) 3 1 n (ints l))],?_,?_⟩
   ·refine goodX_buildOwn tt_ok rfl ⟨by decide,.inr rfl,by decide,#[],fill_0,rfl,trivial,fun g=>?_⟩
    refine ⟨_,runs_hi18 (E:=(envC Tryz.prog tt Tryz.f71.ntmps w X (tiedK [(9620,Blk.own (.slice xa n xc) 3 1 n (ints l))] β) [4,6,7])) tt_ok Tryz.underlying41 (j:=ti3) rfl i rfl (by omega),?_⟩
    refine ⟨by decide,41,0,#[],.inl rfl,?_⟩
    obtain ⟨q,hq,hqb⟩:=info_int
    rcases Nat.eq_zero_or_pos i with rfl | hp
    ·refine .inl ⟨rfl,?_⟩
     exact ⟨_,_,⟨g,0,rfl,rfl⟩,⟨rfl,rfl,rfl,rfl,trivial⟩,⟨.inl rfl,.inl rfl,trivial⟩,rfl⟩
    ·rcases hv with ⟨hs1,hs2⟩ | ⟨g0,c0,hs1⟩
     ·omega
     cases hs1
     refine .inr ⟨[9620],i,ints (l.take i),by rw [← ints_take l i (by omega)];exact src_part (n:=n) (cap:=xc) rfl (ints_all l) (by rw [ints_size];show 0+i*1≤_;omega),?_⟩
     refine ⟨by omega,by unfold maxLen;omega,⟨q,hq,by rw [hqb];omega⟩,trivial,fun g2 cap2=>?_⟩
     exact ⟨_,_,⟨g2,cap2,rfl,rfl⟩,⟨rfl,rfl,rfl,by rw [Nat.zero_add];rfl,trivial⟩,⟨.inl (by rw [Nat.zero_add,Array.empty_append];rfl),.inl rfl,trivial⟩,rfl⟩
   ·rintro f3 m3 ⟨gg,cc,rfl,rfl⟩
    refine .inl ⟨by decide,by decide,_,fill_int1 d,rfl,by decide,?_⟩
    obtain ⟨q,hq,hqb⟩:=info_int
    refine ⟨41,i,_,.inl rfl,by decide,(by simp [Value.oneCell']),rfl,_,ext_int1 _,?_⟩
    refine ⟨by omega,by unfold maxLen;omega,⟨q,hq,by rw [hqb];omega⟩,trivial,fun g2 cap2=>?_⟩
    have hsl:ints (l.take i)++#[.int .i64 d]=ints (l.take i++[d]):=ints_add _ _
    rw [hsl]
    refine ⟨_,runs_lo18 (E:=(envC Tryz.prog tt Tryz.f71.ntmps w X (tiedK [(9620,Blk.own (.slice xa n xc) 3 1 n (ints l))] β) [4,6,7])) tt_ok Tryz.underlying41 (j:=ti3) rfl i rfl (by omega),?_⟩
    refine ⟨by decide,41,i+1,_,.inl rfl,?_⟩
    have hlt:(l.take i).length=i:=by rw [List.length_take];omega
    have hld:(l.drop i).length=n - i:=by rw [List.length_drop,hn]
    have hL:(insM l d most).length=n+1:=by rw [hM,List.length_append,List.length_cons,hlt,hld];omega
    by_cases he:i=n
    ·have hr:insM l d most=l.take i++[d]:=by rw [hM,List.drop_eq_nil_of_le (by omega)]
     refine .inl ⟨by rw [show n - i=0 by omega];rfl,?_⟩
     exact ⟨[(9620,Blk.own (.slice (some ⟨g2,0,none⟩) (i+1) cap2) 3 1 (i+1) (ints (l.take i++[d])))],[(9620,41)],⟨by rw [hL,← he];exact .some,by rw [hL,← he,hr];rfl⟩,⟨.inl rfl,trivial⟩,rfl⟩
    ·rcases hv with ⟨hs1,hs2⟩ | ⟨g0,c0,hs1⟩
     ·omega
     cases hs1
     rw [if_neg (by omega)]
     have ea:Option.map (fun x:Addr=>x.add (i*ti3.size)) (some ⟨g0,0,none⟩)=some ⟨g0,i*1,none⟩:=by
      show some (Addr.add ⟨g0,0,none⟩ (i*1))=_
      rw [add_flat,Nat.zero_add]
     rw [ea]
     refine .inr ⟨[9620],n - i,ints (l.drop i),by rw [← ints_drop l i (by omega),← hn];exact src_part (n:=n) (cap:=xc) rfl (ints_all l) (by rw [ints_size];show i*1+(n - i)*1≤_;omega),?_⟩
     refine ⟨by omega,by unfold maxLen;omega,⟨q,hq,by rw [hqb];omega⟩,trivial,fun g3 cap3=>?_⟩
     have hr:ints (l.take i++[d])++ints (l.drop i)=ints (insM l d most):=by rw [ints_cat,hM,List.append_assoc];rfl
     rw [hr,show i+1+(n - i)=(insM l d most).length by rw [hL];omega]
     exact ⟨[(9620,Blk.own (.slice (some ⟨g3,0,none⟩) (insM l d most).length cap3) 3 1 (insM l d most).length (ints (insM l d most)))],[(9620,41)],⟨.some,rfl⟩,⟨.inl rfl,trivial⟩,rfl⟩
theorem offAc (j:Nat):offAt 0 ((j:Nat):Int) ti61.size=j*76:=by
 show offAt 0 ((j:Nat):Int) 76=j*76
 simp [offAt]
theorem days_r8 {E:Env} (hE:E.P=Tryz.prog) {va vx:Value} {al:List AC} {xs:List EC} {na nx:Nat} {day:Int} (ha:IsL va na) (hx:IsL vx nx) (hna:na=al.length) (hnx:nx=xs.length) (hb:na≤100000000000∧nx≤100000000000):OwnC E 35 [SV.c va,SV.c vx,SV.c (.int .i64 day)] [(9630,Blk.own va 61 76 na (cat AC.A al)),(9631,Blk.own vx 47 10 nx (cat EC.A xs))] (fun r U=>IsL r (allD al xs day).length∧U=[(9630,Blk.own va 61 76 na (cat AC.A al)),(9631,Blk.own vx 47 10 nx (cat EC.A xs)),(9620,Blk.own r 3 1 (allD al xs day).length (ints (allD al xs day)))]):=by
 refine sx_ownC [6] tt_ok mixed at35 E hE [SV.c va,SV.c vx,SV.c (.int .i64 day)] [(9630,Blk.own va 61 76 na (cat AC.A al)),(9631,Blk.own vx 47 10 nx (cat EC.A xs))] _ rfl rfl fun w X β hT=>?_
 have hE':(envC Tryz.prog tt Tryz.f35.ntmps w X (tiedK [(9630,Blk.own va 61 76 na (cat AC.A al)),(9631,Blk.own vx 47 10 nx (cat EC.A xs))] β) [6]).toEnv.P=Tryz.prog:=rfl
 obtain ⟨aa,ac,rfl⟩:=ha.len
 obtain ⟨xa,xc,rfl⟩:=hx.len
 refine ⟨fun f m=>∃ y,IsL y (daysD day [] (al.map AC.day)).length∧(∃ a c,y=.slice a (daysD day [] (al.map AC.day)).length c∧(daysD day [] (al.map AC.day)).length≤c)∧f=[(1,SV.c (.slice xa nx xc)),(2,SV.c (.int .i64 day)),(7,SV.c y)]∧m=[(9630,Blk.own (.slice aa na ac) 61 76 na (cat AC.A al)),(9631,Blk.own (.slice xa nx xc) 47 10 nx (cat EC.A xs)),(9620,Blk.own y 3 1 (daysD day [] (al.map AC.day)).length (ints (daysD day [] (al.map AC.day))))],?_,?_⟩
 ·refine ⟨fun q f m=>∃ (i:Nat) (y:Value) (L:List Int),q=na - i∧i≤na∧L=daysD day [] ((al.map AC.day).take i)∧IsL y L.length∧(∃ a c,y=.slice a L.length c∧L.length≤c)∧f=[(0,SV.c (.slice aa na ac)),(1,SV.c (.slice xa nx xc)),(2,SV.c (.int .i64 day)),(7,SV.c y),(8,SV.c (.int .i64 (i:Nat)))]∧m=[(9630,Blk.own (.slice aa na ac) 61 76 na (cat AC.A al)),(9631,Blk.own (.slice xa nx xc) 47 10 nx (cat EC.A xs)),(9620,Blk.own y 3 1 L.length (ints L))],na,⟨_,_,⟨0,.slice none 0 0,[],by omega,by omega,rfl,.nil,⟨none,0,rfl,by decide⟩,rfl,rfl⟩,⟨rfl,rfl,rfl,rfl,rfl,trivial⟩,⟨.inl rfl,.inl rfl,.inr ⟨rfl,rfl,rfl⟩,trivial⟩,rfl⟩,?_⟩
  rintro q f m ⟨i,y,L,rfl,hi,hL,hy,hk,rfl,rfl⟩
  refine ⟨_,fun w' _=>run_len_sl Tryz.underlying23 w',fun c=>?_,fun c=>?_⟩
  ·have c:i < na:=by have:=of_decide_eq_true c;omega
   rcases ha with ⟨hs1,hs2⟩ | ⟨g0,c0,hs1⟩
   ·omega
   cases hs1
   obtain ⟨z,hz⟩:∃ z,al[i]? = some z:=⟨_,List.getElem?_eq_getElem (by omega)⟩
   have LA:(cat AC.A al)[i*76+4]? = some (.int .i64 z.day):=(cat_get AC.size al i z 4 hz (by decide)).trans z.g4
   have hd:(al.map AC.day)[i]? = some z.day:=by rw [List.getElem?_map,hz];rfl
   have hlen:L.length≤200000000000:=by
    have:=daysD_len day ((al.map AC.day).take i) []
    rw [hL]
    simp only [List.length_take,List.length_map,List.length_nil] at this
    omega
   have IR:=OwnC.caps8 (ins_r hE' (d:=z.day) (most:=day) hy hk rfl (by omega))
   refine ⟨by omega,by omega,.inr ⟨9630,g0,_,na,_,_,_,_,rfl,rfl,.int .i64 z.day,(by rw [offAc];exact LA),?_⟩⟩
   refine .inr (.inr (.inr ⟨[],[],[_,_,_],[_],_,IR,rfl,⟨.inl rfl,trivial⟩,rfl,trivial,?_⟩))
   rintro r U ⟨⟨hr,rfl⟩,hcap⟩
   have hcap:=hcap 9620 _ _ _ _ _ rfl
   refine ⟨by kernel_rfl,?_⟩
   exact ⟨na - (i+1),_,_,by omega,⟨i+1,r,insM L z.day day,rfl,by omega,by rw [daysD_one hd,hL],hr,hcap,rfl,rfl⟩,⟨rfl,rfl,rfl,rfl,c_int (i64_succ (by omega)),trivial⟩,⟨.inl rfl,.inl rfl,.inl rfl,trivial⟩,rfl⟩
  ·have c:i=na:=by have:=of_decide_eq_false c;omega
   have hLL:L=daysD day [] (al.map AC.day):=by rw [hL,List.take_of_length_le (by rw [List.length_map];omega)]
   rw [hLL] at hy hk
   exact ⟨_,_,⟨y,hy,hk,rfl,rfl⟩,⟨rfl,rfl,rfl,trivial⟩,⟨.inl rfl,.inl rfl,.inl (by rw [hLL];rfl),trivial⟩,rfl⟩
 ·rintro f1 m1 ⟨y0,hy0,hk0,rfl,rfl⟩
  refine ⟨fun q f m=>∃ (i:Nat) (y:Value) (L:List Int),q=nx - i∧i≤nx∧L=daysD day [] (al.map AC.day++(xs.map EC.day).take i)∧IsL y L.length∧(∃ a c,y=.slice a L.length c∧L.length≤c)∧f=[(1,SV.c (.slice xa nx xc)),(2,SV.c (.int .i64 day)),(7,SV.c y),(9,SV.c (.int .i64 (i:Nat)))]∧m=[(9630,Blk.own (.slice aa na ac) 61 76 na (cat AC.A al)),(9631,Blk.own (.slice xa nx xc) 47 10 nx (cat EC.A xs)),(9620,Blk.own y 3 1 L.length (ints L))],nx,⟨_,_,⟨0,y0,daysD day [] (al.map AC.day),by omega,by omega,by rw [List.take_zero,List.append_nil],hy0,hk0,rfl,rfl⟩,⟨rfl,rfl,rfl,rfl,trivial⟩,⟨.inl rfl,.inl rfl,.inl rfl,trivial⟩,rfl⟩,?_⟩
  rintro q f m ⟨i,y,L,rfl,hi,hL,hy,hk,rfl,rfl⟩
  refine ⟨_,fun w' _=>run_len_sl Tryz.underlying22 w',fun c=>?_,fun c=>?_⟩
  ·have c:i < nx:=by have:=of_decide_eq_true c;omega
   rcases hx with ⟨hs1,hs2⟩ | ⟨g0,c0,hs1⟩
   ·omega
   cases hs1
   obtain ⟨z,hz⟩:∃ z,xs[i]? = some z:=⟨_,List.getElem?_eq_getElem (by omega)⟩
   have LA:(cat EC.A xs)[i*10+2]? = some (.int .i64 z.day):=(cat_get EC.size xs i z 2 hz (by decide)).trans z.g2
   have hd:(xs.map EC.day)[i]? = some z.day:=by rw [List.getElem?_map,hz];rfl
   have hlen:L.length≤200000000000:=by
    have:=daysD_len day (al.map AC.day++(xs.map EC.day).take i) []
    rw [hL]
    simp only [List.length_append,List.length_take,List.length_map,List.length_nil] at this
    omega
   have IR:=OwnC.caps8 (ins_r hE' (d:=z.day) (most:=day) hy hk rfl (by omega))
   refine ⟨by omega,by omega,.inr ⟨9631,g0,_,nx,_,_,_,_,rfl,rfl,.int .i64 z.day,(by rw [offE];exact LA),?_⟩⟩
   refine .inr (.inr (.inr ⟨[],[],[_,_,_],[_],_,IR,rfl,⟨.inl rfl,trivial⟩,rfl,trivial,?_⟩))
   rintro r U ⟨⟨hr,rfl⟩,hcap⟩
   have hcap:=hcap 9620 _ _ _ _ _ rfl
   refine ⟨by kernel_rfl,?_⟩
   exact ⟨nx - (i+1),_,_,by omega,⟨i+1,r,insM L z.day day,rfl,by omega,by rw [take_one hd,← List.append_assoc,daysD_app,← hL];rfl,hr,hcap,rfl,rfl⟩,⟨rfl,rfl,rfl,c_int (i64_succ (by omega)),trivial⟩,⟨.inl rfl,.inl rfl,.inl rfl,trivial⟩,rfl⟩
  ·have c:i=nx:=by have:=of_decide_eq_false c;omega
   have hLL:L=allD al xs day:=by rw [hL,List.take_of_length_le (by rw [List.length_map];omega)];rfl
   clear hL
   subst hLL
   exact ⟨[_,_,_],[],⟨hy,rfl⟩,⟨.inl rfl,.inl rfl,.inl rfl,trivial⟩,rfl⟩
theorem act_r {E:Env} (hE:E.P=Tryz.prog) {g:Led} {vh vc vp:Value} (hh:IsL vh g.h.length) (hc:IsL vc g.c.length) (hp:IsL vp g.p.length) (hl:g.h.length≤10000000000∧g.c.length≤10000000000∧g.p.length≤10000000000) {a:AC} (ha:a.In):OwnC E 36 [SV.ptr 9700 0,SV.c (.agg a.A)] [(9701,Blk.own vh 90 2 g.h.length (cat sumA g.h)),(9702,Blk.own vc 85 3 g.c.length (cat sumK g.c)),(9703,Blk.own vp 85 3 g.p.length (cat sumK g.p)),(9700,Blk.row 30 3 #[vh,vc,vp])] (RefQ (actR g a)):=by
 refine sx_ownC [] tt_ok mixed at36 E hE [SV.ptr 9700 0,SV.c (.agg a.A)] [(9701,Blk.own vh 90 2 g.h.length (cat sumA g.h)),(9702,Blk.own vc 85 3 g.c.length (cat sumK g.c)),(9703,Blk.own vp 85 3 g.p.length (cat sumK g.p)),(9700,Blk.row 30 3 #[vh,vc,vp])] _ rfl rfl fun w X β hT=>?_
 have hE':(envC Tryz.prog tt Tryz.f36.ntmps w X (tiedK [(9701,Blk.own vh 90 2 g.h.length (cat sumA g.h)),(9702,Blk.own vc 85 3 g.c.length (cat sumK g.c)),(9703,Blk.own vp 85 3 g.p.length (cat sumK g.p)),(9700,Blk.row 30 3 #[vh,vc,vp])] β)).toEnv.P=Tryz.prog:=rfl
 have HO:=held_ro hE' (x:=vh) (vc:=vc) (vp:=vp) (H:=g.h) (k:=a.ins) rfl (by omega)
 have A0:=a.size
 have AF:=a.fits
 have AG0:=a.g0
 have A2:=a.g2
 have A3:=a.g3
 have A8:=a.g73
 have AZ:=apply_r ha (getA g.h a.ins)
 generalize a.A=AA at A0 AF AG0 A2 A3 A8 AZ ⊢
 refine ⟨A0,?_⟩
 refine ⟨_,A2,?_⟩
 refine .inr (.inr (.inl ⟨[(9610,9701)],[_,_],[_],_,[_],HO,rfl,⟨.inl rfl,trivial⟩,by kernel_rfl,by kernel_rfl,?_⟩))
 refine .inl ⟨_,AZ,(applyA a (getA g.h a.ins)).1.fits,?_⟩
 have hR:(applyA a (getA g.h a.ins)).2=0→actR g a=if a.kind=3 then (if w64 ((applyA a (getA g.h a.ins)).1.qty+getA (putR g.h a.ins 0) a.into) > 1000000000000000 then .error 171 else .ok ⟨putR (putR g.h a.ins 0) (applyA a (getA g.h a.ins)).1.ins (w64 ((applyA a (getA g.h a.ins)).1.qty+getA (putR g.h a.ins 0) a.into)),payR g.c (a.cur,0) (applyA a (getA g.h a.ins)).1.cash,g.p⟩) else .ok ⟨putR g.h (applyA a (getA g.h a.ins)).1.ins (applyA a (getA g.h a.ins)).1.qty,payR g.c (a.cur,0) (applyA a (getA g.h a.ins)).1.cash,g.p⟩:=fun h=>by unfold actR;rw [if_neg (fun h'=>h' h)]
 refine ⟨by kernel_rfl,fun c=>?_,fun c=>?_⟩
 ·have c:((applyA a (getA g.h a.ins)).2 != 0)=true:=c
  have c:(applyA a (getA g.h a.ins)).2≠0:=by simpa using c
  have eR:actR g a=.error (applyA a (getA g.h a.ins)).2:=by unfold actR;rw [if_pos c]
  rw [eR]
  exact ⟨[(9701,Blk.own vh 90 2 g.h.length (cat sumA g.h)),(9702,Blk.own vc 85 3 g.c.length (cat sumK g.c)),(9703,Blk.own vp 85 3 g.p.length (cat sumK g.p)),(9700,Blk.row 30 3 #[vh,vc,vp])],[],⟨g,vh,vc,vp,hh,hc,hp,rfl,rfl,c⟩,⟨.inl rfl,.inl rfl,.inl rfl,rfl,trivial⟩,rfl⟩
 have c:((applyA a (getA g.h a.ins)).2 != 0)=false:=c
 have c:(applyA a (getA g.h a.ins)).2=0:=by simpa using c
 have hR:=hR c
 clear AZ c
 generalize (applyA a (getA g.h a.ins)).1=x at hR ⊢
 refine ⟨_,AG0,fun k1=>?_,fun k1=>?_⟩
 ·have k1:(a.kind == 3)=true:=k1
  have k1:a.kind=3:=by simpa using k1
  rw [if_pos k1] at hR
  have TO:=put_ro hE' (x:=vh) (H:=g.h) (k:=a.ins) (m:=0) rfl (by omega)
  have hl1:=putR_len g.h a.ins 0
  refine ⟨_,rfl,_,A2,?_⟩
  refine .inr (.inr (.inr ⟨[(9610,9701)],[9600],[_,_,_],[_],_,TO,rfl,⟨.inl rfl,trivial⟩,by kernel_rfl,(by change _=true;kernel_rfl),?_⟩))
  rintro r U ⟨hv1,rfl⟩
  generalize putR g.h a.ins 0=H1 at hv1 hR hl1 ⊢
  have HO2:=held_ro hE' (x:=r) (vc:=vc) (vp:=vp) (H:=H1) (k:=a.into) rfl (by omega)
  obtain ⟨ya,yc,rfl⟩:=hv1.len
  refine ⟨by kernel_rfl,by decide,rfl,#[.slice ya H1.length yc,vc,vp],rfl,by kernel_rfl,?_⟩
  refine ⟨_,rfl,_,A3,?_⟩
  refine .inr (.inr (.inl ⟨[(9610,9600)],[_,_],[_],_,[_],HO2,rfl,⟨.inl rfl,trivial⟩,by kernel_rfl,by kernel_rfl,?_⟩))
  refine ⟨by decide,rfl,#[.string (S x.ins),.int .i64 (w64 (x.qty+getA H1 a.into)),.int .i64 x.cash],rfl,by kernel_rfl,?_⟩
  refine ⟨_,rfl,fun c1=>?_,fun c1=>?_⟩
  ·have c1:w64 (x.qty+getA H1 a.into) > 1000000000000000:=of_decide_eq_true c1
   rw [if_pos c1] at hR
   rw [hR]
   exact ⟨[(9701,Blk.own (.slice ya H1.length yc) 90 2 H1.length (cat sumA H1)),(9702,Blk.own vc 85 3 g.c.length (cat sumK g.c)),(9703,Blk.own vp 85 3 g.p.length (cat sumK g.p)),(9700,Blk.row 30 3 #[.slice ya H1.length yc,vc,vp])],[(9701,9600)],⟨⟨H1,g.c,g.p⟩,.slice ya H1.length yc,vc,vp,hv1,hc,hp,rfl,rfl,by decide⟩,⟨.inl rfl,.inl rfl,.inl rfl,rfl,trivial⟩,rfl⟩
  ·have c1:¬ w64 (x.qty+getA H1 a.into) > 1000000000000000:=of_decide_eq_false c1
   rw [if_neg c1] at hR
   generalize w64 (x.qty+getA H1 a.into)=z at hR ⊢
   have TO2:=put_ro hE' (x:=.slice ya H1.length yc) (H:=H1) (k:=x.ins) (m:=z) rfl (by omega)
   refine ⟨_,rfl,_,rfl,_,rfl,?_⟩
   refine .inr (.inr (.inr ⟨[(9610,9600),(9600,9630)],[9630],[_,_,_],[_],_,TO2,rfl,⟨.inl rfl,trivial⟩,by kernel_rfl,(by change _=true;kernel_rfl),?_⟩))
   rintro r U ⟨hv2,rfl⟩
   generalize putR H1 x.ins z=H2 at hv2 hR ⊢
   obtain ⟨yb,yd,rfl⟩:=hv2.len
   refine ⟨by kernel_rfl,by decide,rfl,#[.slice yb H2.length yd,vc,vp],rfl,by kernel_rfl,?_⟩
   have PO:=pay_ro hE' (x:=vc) (C:=g.c) (k:=(a.cur,0)) (m:=x.cash) rfl (by omega)
   refine ⟨_,rfl,_,A8,_,rfl,_,fill_b2 a.cur x.cash rfl,?_⟩
   refine .inr (.inr (.inr ⟨[(9611,9702)],[9601],[_,_],[_],_,PO,rfl,⟨.inl rfl,trivial⟩,by kernel_rfl,(by change _=true;kernel_rfl),?_⟩))
   rintro r U ⟨hv,rfl⟩
   generalize payR g.c (a.cur,0) x.cash=C2 at hv hR ⊢
   obtain ⟨yg,yk,rfl⟩:=hv.len
   refine ⟨by kernel_rfl,by decide,rfl,#[.slice yb H2.length yd,.slice yg C2.length yk,vp],rfl,by kernel_rfl,?_⟩
   rw [hR]
   exact ⟨[(9701,Blk.own (.slice yb H2.length yd) 90 2 H2.length (cat sumA H2)),(9702,Blk.own (.slice yg C2.length yk) 85 3 C2.length (cat sumK C2)),(9703,Blk.own vp 85 3 g.p.length (cat sumK g.p)),(9700,Blk.row 30 3 #[.slice yb H2.length yd,.slice yg C2.length yk,vp])],[(9701,9630),(9702,9601)],⟨⟨H2,C2,g.p⟩,.slice yb H2.length yd,.slice yg C2.length yk,vp,hv2,hv,hp,rfl,rfl,rfl⟩,⟨.inl rfl,.inl rfl,.inl rfl,rfl,trivial⟩,rfl⟩
 ·have k1:(a.kind == 3)=false:=k1
  have k1:¬ a.kind=3:=by simpa using k1
  rw [if_neg k1] at hR
  have TO:=put_ro hE' (x:=vh) (H:=g.h) (k:=x.ins) (m:=x.qty) rfl (by omega)
  refine ⟨_,rfl,_,rfl,_,rfl,?_⟩
  refine .inr (.inr (.inr ⟨[(9610,9701)],[9600],[_,_,_],[_],_,TO,rfl,⟨.inl rfl,trivial⟩,by kernel_rfl,(by change _=true;kernel_rfl),?_⟩))
  rintro r U ⟨hv2,rfl⟩
  generalize putR g.h x.ins x.qty=H2 at hv2 hR ⊢
  obtain ⟨yb,yd,rfl⟩:=hv2.len
  refine ⟨by kernel_rfl,by decide,rfl,#[.slice yb H2.length yd,vc,vp],rfl,by kernel_rfl,?_⟩
  have PO:=pay_ro hE' (x:=vc) (C:=g.c) (k:=(a.cur,0)) (m:=x.cash) rfl (by omega)
  refine ⟨_,rfl,_,A8,_,rfl,_,fill_b2 a.cur x.cash rfl,?_⟩
  refine .inr (.inr (.inr ⟨[(9611,9702)],[9601],[_,_],[_],_,PO,rfl,⟨.inl rfl,trivial⟩,by kernel_rfl,(by change _=true;kernel_rfl),?_⟩))
  rintro r U ⟨hv,rfl⟩
  generalize payR g.c (a.cur,0) x.cash=C2 at hv hR ⊢
  obtain ⟨ya,yc,rfl⟩:=hv.len
  refine ⟨by kernel_rfl,by decide,rfl,#[.slice yb H2.length yd,.slice ya C2.length yc,vp],rfl,by kernel_rfl,?_⟩
  rw [hR]
  exact ⟨[(9701,Blk.own (.slice yb H2.length yd) 90 2 H2.length (cat sumA H2)),(9702,Blk.own (.slice ya C2.length yc) 85 3 C2.length (cat sumK C2)),(9703,Blk.own vp 85 3 g.p.length (cat sumK g.p)),(9700,Blk.row 30 3 #[.slice yb H2.length yd,.slice ya C2.length yc,vp])],[(9701,9600),(9702,9601)],⟨⟨H2,C2,g.p⟩,.slice yb H2.length yd,.slice ya C2.length yc,vp,hv2,hv,hp,rfl,rfl,rfl⟩,⟨.inl rfl,.inl rfl,.inl rfl,rfl,trivial⟩,rfl⟩
theorem act_lenR {g g':Led} {a:AC} (e:actR g a=.ok g'):g'.h.length≤g.h.length+2∧g'.c.length≤g.c.length+1∧g'.p=g.p:=by
 unfold actR at e
 split at e
 ·cases e
 ·split at e
  ·split at e
   ·cases e
   ·cases e
    have h1:=putR_len g.h a.ins 0
    have h2:=putR_len (putR g.h a.ins 0) (applyA a (getA g.h a.ins)).1.ins (w64 ((applyA a (getA g.h a.ins)).1.qty+getA (putR g.h a.ins 0) a.into))
    exact ⟨by show (putR _ _ _).length≤_;omega,payR_len _ _ _,rfl⟩
  ·cases e
   have h1:=putR_len g.h (applyA a (getA g.h a.ins)).1.ins (applyA a (getA g.h a.ins)).1.qty
   exact ⟨by show (putR _ _ _).length≤_;omega,payR_len _ _ _,rfl⟩
theorem cash_lenR (day:Int) (g:Led) (x:EC):(cashR day g x).h=g.h∧(cashR day g x).c.length≤g.c.length+1∧(cashR day g x).p.length≤g.p.length+1:=by
 unfold cashR
 split
 ·exact ⟨rfl,payR_len _ _ _,by simp⟩
 ·exact ⟨rfl,by simp,payR_len _ _ _⟩
theorem ent_lenR {day:Int} {g g':Led} {x:EC} (e:entR day g x=.ok g'):g'.h.length≤g.h.length+1∧g'.c.length≤g.c.length+1∧g'.p.length≤g.p.length+1:=by
 unfold entR at e
 split at e
 ·split at e
  ·cases e
  ·split at e
   ·cases e
   ·cases e
    have h:=cash_lenR day { g with h:=putR g.h x.ins (w64 (getA g.h x.ins+x.qty)) } x
    have h1:=putR_len g.h x.ins (w64 (getA g.h x.ins+x.qty))
    refine ⟨by rw [h.1];exact h1,h.2.1,h.2.2⟩
 ·cases e
  have h:=cash_lenR day g x
  exact ⟨by rw [h.1];omega,h.2.1,h.2.2⟩
theorem at_r8 {E:Env} (hE:E.P=Tryz.prog) {ve va:Value} {xs:List EC} {al:List AC} {k day:Int} (hv:Lst E ve 10 xs.length (cat EC.A xs)) (hva:Lst E va 76 al.length (cat AC.A al)) (hn:xs.length≤2000000000000) (hm:al.length≤1000000000000) (hin:∀ y∈xs,y.In) (hina:∀ y∈al,y.In):OwnC E 8 [SV.c ve,SV.c va,SV.c (.int .i64 k),SV.c (.int .i64 day)] [] (AtQ (atP xs al k day)):=by
 refine sx_ownC [] tt_ok mixed at8 E hE [SV.c ve,SV.c va,SV.c (.int .i64 k),SV.c (.int .i64 day)] [] _ rfl rfl fun w X β hT=>?_
 have hv':=hv.of_old hT
 have hva':=hva.of_old hT
 have hE':(envC Tryz.prog tt Tryz.f8.ntmps w X (tiedK [] β)).toEnv.P=Tryz.prog:=rfl
 have C1:=vis_er18 (k:=k) hE' hv' hn hin
 have C2:=vis_zra (k:=k) hE' hva' hm hina
 refine .inr (.inr (.inr ⟨[],[3000],[_,_],[],_,C1,rfl,trivial,rfl,trivial,?_⟩))
 rintro r U ⟨sx,nx,hsx,rfl,hx,rfl⟩
 refine ⟨rfl,?_⟩
 have bad:∀ e:Int,atP xs al k day=(.zero,e)→AtQ (atP xs al k day) (.tuple #[.agg #[.slice none 0 0,.slice none 0 0,.slice none 0 0],.int .i64 e]) [(9506,Blk.own (.slice none 0 0) 90 2 0 #[]),(9507,Blk.own (.slice none 0 0) 85 3 0 #[]),(9508,Blk.own (.slice none 0 0) 85 3 0 #[])]:=fun e h=>by
  rw [h];exact AtQ.bad e
 refine ⟨fun h=>?_,fun h=>?_⟩
 ·have h:(chkX xs != 0)=true:=h
  have h:chkX xs≠0:=by simpa using h
  have hP:atP xs al k day=(.zero,chkX xs):=by unfold atP;rw [if_pos h]
  refine ⟨_,rfl,nil3_fits,?_⟩
  exact ⟨_,[],bad _ hP,⟨.inr ⟨rfl,rfl,rfl⟩,.inr ⟨rfl,rfl,rfl⟩,.inr ⟨rfl,rfl,rfl⟩,trivial⟩,rfl⟩
 have h:(chkX xs != 0)=false:=h
 have hX:chkX xs=0:=by simpa using h
 refine .inr (.inr (.inr ⟨[(3000,3001)],[3001],[_,_],[],_,C2,rfl,trivial,rfl,trivial,?_⟩))
 rintro r U ⟨sa,na,hsa,rfl,ha,rfl⟩
 refine ⟨rfl,?_⟩
 refine ⟨fun h=>?_,fun h=>?_⟩
 ·have h:(chkA al != 0)=true:=h
  have h:chkA al≠0:=by simpa using h
  have hP:atP xs al k day=(.zero,chkA al):=by unfold atP;rw [if_neg (fun h=>h hX),if_pos h]
  refine ⟨_,rfl,nil3_fits,?_⟩
  exact ⟨_,[],bad _ hP,⟨.inr ⟨rfl,rfl,rfl⟩,.inr ⟨rfl,rfl,rfl⟩,.inr ⟨rfl,rfl,rfl⟩,trivial⟩,rfl⟩
 have h:(chkA al != 0)=false:=h
 have hA:chkA al=0:=by simpa using h
 refine .inl ⟨_,out_r day,fun h=>?_,fun h=>?_⟩
 ·have h:(decide (day < 0) || decide (day > 73048))=true:=h
  have hP:atP xs al k day=(.zero,50):=by
   unfold atP
   rw [if_neg (fun h=>h hX),if_neg (fun h=>h hA),if_pos]
   rw [Bool.eq_false_iff]
   intro h2
   have h2:=inB_iff.1 h2
   simp only [Bool.or_eq_true,decide_eq_true_eq] at h
   omega
  refine ⟨_,rfl,nil3_fits,?_⟩
  exact ⟨_,[],bad _ hP,⟨.inr ⟨rfl,rfl,rfl⟩,.inr ⟨rfl,rfl,rfl⟩,.inr ⟨rfl,rfl,rfl⟩,trivial⟩,rfl⟩
 have h:(decide (day < 0) || decide (day > 73048))=false:=h
 have hD:inB day 0 73048=true:=by
  simp only [Bool.or_eq_false_iff,decide_eq_false_iff_not] at h
  exact inB_iff.2 ⟨by omega,by omega⟩
 have hP:atP xs al k day=finR (runR day .zero ((allD (visA al k) (visX xs k) day).flatMap (onD (visA al k) (visX xs k)))):=by
  rw [← ops_all,at_sim];unfold atP;rw [if_neg (fun h=>h hX),if_neg (fun h=>h hA),if_neg (by rw [hD];decide)]
 have mA:∀ a∈visA al k,a.In:=fun a h=>hina a (visA_mem a h).1
 have nX:nx≤4096:=by rw [hsx];exact visX_len hX
 have nA:na≤4096:=by rw [hsa];exact visA_len hA
 obtain ⟨aaa,aac,rfl⟩:=ha.len
 obtain ⟨xxa,xxc,rfl⟩:=hx.len
 have DR:=days_r8 hE' (day:=day) ha hx hsa hsx (by omega)
 generalize visA al k=A at hsa hP mA DR ⊢
 generalize visX xs k=B at hsx hP DR ⊢
 have lD:(allD A B day).length≤na+nx:=by
  have:=daysD_len day (A.map AC.day++B.map EC.day) []
  simp only [List.length_append,List.length_map,List.length_nil] at this
  unfold allD;omega
 refine .inr (.inr (.inr ⟨[(9630,3001),(9631,3000)],[9620],[_,_,_],[_,_],_,DR,rfl,⟨.inl rfl,.inl rfl,trivial⟩,rfl,trivial,?_⟩))
 rintro vD U ⟨hvD,rfl⟩
 generalize allD A B day=D at hP lD hvD ⊢
 refine ⟨by kernel_rfl,?_⟩
 obtain ⟨aD,cD,rfl⟩:=hvD.len
 refine ⟨fun q f m=>∃ (i:Nat) (r:Led) (vh vc vp:Value),q=D.length - i∧i≤D.length∧IsL vh r.h.length∧IsL vc r.c.length∧IsL vp r.p.length∧(r.h.length≤2*(i*(na+nx))∧r.c.length≤i*(na+nx)∧r.p.length≤i*(na+nx))∧runR day .zero (D.flatMap (onD A B))=runR day r ((D.drop i).flatMap (onD A B))∧f=[(3,SV.c (.int .i64 day)),(8,SV.ptr 8 0),(10,SV.c (.slice xxa nx xxc)),(12,SV.c (.slice aaa na aac)),(13,SV.ptr 13 0),(14,SV.c (.slice aD D.length cD)),(15,SV.c (.int .i64 (i:Nat)))]∧m=[(8,Blk.row 30 3 #[.slice none 0 0,.slice none 0 0,.slice none 0 0]),(13,Blk.row 30 3 #[vh,vc,vp]),(3000,Blk.own (.slice xxa nx xxc) 47 10 nx (cat EC.A B)),(3001,Blk.own (.slice aaa na aac) 61 76 na (cat AC.A A)),(9620,Blk.own (.slice aD D.length cD) 3 1 D.length (ints D)),(9701,Blk.own vh 90 2 (r.h).length (cat sumA r.h)),(9702,Blk.own vc 85 3 (r.c).length (cat sumK r.c)),(9703,Blk.own vp 85 3 (r.p).length (cat sumK r.p))],D.length,⟨_,_,⟨0,.zero,.slice none 0 0,.slice none 0 0,.slice none 0 0,by omega,by omega,.nil,.nil,.nil,⟨by show (0:Nat)≤_;omega,by show (0:Nat)≤_;omega,by show (0:Nat)≤_;omega⟩,rfl,rfl,rfl⟩,⟨rfl,rfl,rfl,rfl,rfl,rfl,rfl,trivial⟩,⟨rfl,rfl,.inl rfl,.inl rfl,.inl rfl,.inr ⟨rfl,rfl,rfl⟩,.inr ⟨rfl,rfl,rfl⟩,.inr ⟨rfl,rfl,rfl⟩,trivial⟩,rfl⟩,?_⟩
 rintro q f m ⟨i,r,vh,vc,vp,rfl,hi,hh,hc,hp,hl,hR,rfl,rfl⟩
 have hPb:i*(na+nx)≤8192*8192:=Nat.mul_le_mul (by omega) (by omega)
 refine ⟨_,fun w' _=>run_len_sl Tryz.underlying41 w',fun c=>?_,fun c=>?_⟩
 ·have c:i < D.length:=by have:=of_decide_eq_true c;omega
  have hlt:(i+1)*(na+nx)=i*(na+nx)+(na+nx):=Nat.succ_mul _ _
  generalize i*(na+nx)=P0 at hlt hl hPb
  obtain ⟨d,hd⟩:∃ d,D[i]? = some d:=⟨_,List.getElem?_eq_getElem c⟩
  have hdd:=drop_at hd
  rw [hdd,List.flatMap_cons] at hR
  rw [show onD A B d=(A.filter fun a=>decide (a.day=d)).map (Sum.inl:AC→Ev)++(B.filter fun x=>decide (x.day=d)).map (Sum.inr:EC→Ev) from rfl] at hR
  rw [List.append_assoc] at hR
  rcases hvD with ⟨hs1,hs2⟩ | ⟨gD,c0,hs1⟩
  ·omega
  cases hs1
  have LD:(ints D)[i]? = some (.int .i64 d):=ints_gt hd
  obtain ⟨T,hT0⟩:∃ T,T=(D.drop (i+1)).flatMap (onD A B):=⟨_,rfl⟩
  obtain ⟨TB,hTB⟩:∃ TB,TB=(B.filter fun x=>decide (x.day=d)).map (Sum.inr:EC→Ev)++T:=⟨_,rfl⟩
  rw [← hT0,← hTB] at hR
  refine ⟨fun q f m=>∃ (j:Nat) (r2:Led) (wh wc wp:Value),q=na - j∧j≤na∧IsL wh r2.h.length∧IsL wc r2.c.length∧IsL wp r2.p.length∧(r2.h.length≤2*(P0+j)∧r2.c.length≤P0+j∧r2.p.length≤P0+j)∧runR day .zero (D.flatMap (onD A B))=runR day r2 (((A.drop j).filter fun a=>decide (a.day=d)).map (Sum.inl:AC→Ev)++TB)∧f=[(3,SV.c (.int .i64 day)),(8,SV.ptr 8 0),(10,SV.c (.slice xxa nx xxc)),(12,SV.c (.slice aaa na aac)),(13,SV.ptr 13 0),(14,SV.c (.slice (some ⟨gD,0,none⟩) D.length cD)),(15,SV.c (.int .i64 (i:Nat))),(16,SV.c (.int .i64 (j:Nat)))]∧m=[(8,Blk.row 30 3 #[.slice none 0 0,.slice none 0 0,.slice none 0 0]),(13,Blk.row 30 3 #[wh,wc,wp]),(3000,Blk.own (.slice xxa nx xxc) 47 10 nx (cat EC.A B)),(3001,Blk.own (.slice aaa na aac) 61 76 na (cat AC.A A)),(9620,Blk.own (.slice (some ⟨gD,0,none⟩) D.length cD) 3 1 D.length (ints D)),(9701,Blk.own wh 90 2 (r2.h).length (cat sumA r2.h)),(9702,Blk.own wc 85 3 (r2.c).length (cat sumK r2.c)),(9703,Blk.own wp 85 3 (r2.p).length (cat sumK r2.p))],na,⟨_,_,⟨0,r,vh,vc,vp,by omega,by omega,hh,hc,hp,by omega,hR,rfl,rfl⟩,⟨rfl,rfl,rfl,rfl,rfl,rfl,rfl,rfl,trivial⟩,⟨rfl,rfl,.inl rfl,.inl rfl,.inl rfl,.inl rfl,.inl rfl,.inl rfl,trivial⟩,rfl⟩,?_⟩
  rintro q f m ⟨j,r2,wh,wc,wp,rfl,hj,hh2,hc2,hp2,hl2,hR2,rfl,rfl⟩
  refine ⟨_,fun w' _=>run_len_sl Tryz.underlying23 w',fun c1=>?_,fun c1=>?_⟩
  ·have c1:j < na:=by have:=of_decide_eq_true c1;omega
   rcases ha with ⟨hs1,hs2⟩ | ⟨gA,cA0,hs1⟩
   ·omega
   cases hs1
   obtain ⟨a,haj⟩:∃ a,A[j]? = some a:=⟨_,List.getElem?_eq_getElem (by omega)⟩
   have LA:(cat AC.A A)[j*76+4]? = some (.int .i64 a.day):=(cat_get AC.size A j a 4 haj (by decide)).trans a.g4
   rw [drop_at haj,List.filter_cons] at hR2
   refine ⟨by omega,by omega,.inr ⟨3001,gA,_,na,_,_,_,_,rfl,rfl,.int .i64 a.day,(by rw [offAc];exact LA),?_⟩⟩
   refine ⟨by omega,by omega,.inr ⟨9620,gD,_,D.length,_,_,_,_,rfl,rfl,.int .i64 d,(by rw [off18];exact LD),?_⟩⟩
   refine ⟨by kernel_rfl,fun c2=>?_,fun c2=>?_⟩
   ·have c2:(a.day != d)=true:=c2
    have c2:¬ a.day=d:=by simpa using c2
    rw [if_neg (by simpa using c2)] at hR2
    exact ⟨na - (j+1),_,_,by omega,⟨j+1,r2,wh,wc,wp,rfl,by omega,hh2,hc2,hp2,by omega,hR2,rfl,rfl⟩,⟨rfl,rfl,rfl,rfl,rfl,rfl,rfl,c_int (i64_succ (by omega)),trivial⟩,⟨rfl,rfl,.inl rfl,.inl rfl,.inl rfl,.inl rfl,.inl rfl,.inl rfl,trivial⟩,rfl⟩
   ·have c2:(a.day != d)=false:=c2
    have c2:a.day=d:=by simpa using c2
    rw [if_pos (by simpa using c2),List.map_cons,List.cons_append,runR] at hR2
    have AO:=act_r hE' (g:=r2) hh2 hc2 hp2 (by omega) (mA a (List.mem_of_getElem? haj))
    have EA:=cat_extract AC.size haj
    have hszA:(cat AC.A A).size=na*76:=by rw [Go.SX.cat_size AC.size,hsa]
    generalize a.A=AA at AO EA
    refine ⟨by omega,by omega,.inr ⟨3001,gA,_,na,_,_,_,_,rfl,rfl,(by rw [offAc,hszA];show j*76+76≤na*76;omega),AA,(by rw [offAc];exact EA),?_⟩⟩
    refine .inr (.inr (.inr ⟨[(9700,13)],[],[_,_],[_,_,_,_],_,AO,rfl,⟨.inl rfl,.inl rfl,.inl rfl,rfl,trivial⟩,by kernel_rfl,trivial,?_⟩))
    rintro r U ⟨g2,zh,zc,zp,k1,k2,k3,rfl,hM⟩
    refine ⟨by kernel_rfl,?_⟩
    have hst:stepR day r2 (.inl a)=actR r2 a:=rfl
    rw [hst] at hR2
    cases hS:actR r2 a with
    | error e =>
     rw [hS] at hM hR2
     obtain ⟨rfl,he⟩:=hM
     have hR2:runR day .zero (D.flatMap (onD A B))=.error e:=hR2
     refine ⟨fun _=>?_,fun c3=>absurd (show (e != 0)=false from c3) (by simpa using he)⟩
     refine ⟨_,rfl,nil3_fits,?_⟩
     exact ⟨_,[],bad e (by rw [hP,hR2];rfl),⟨.inr ⟨rfl,rfl,rfl⟩,.inr ⟨rfl,rfl,rfl⟩,.inr ⟨rfl,rfl,rfl⟩,trivial⟩,rfl⟩
    | ok g' =>
     rw [hS] at hM hR2
     obtain ⟨rfl,rfl⟩:=hM
     obtain ⟨s1,s2,s3⟩:=act_lenR hS
     refine ⟨nofun,fun _=>?_⟩
     exact ⟨na - (j+1),_,_,by omega,⟨j+1,g2,zh,zc,zp,rfl,by omega,k1,k2,k3,⟨by omega,by omega,by rw [s3];omega⟩,hR2,rfl,rfl⟩,⟨rfl,rfl,rfl,rfl,rfl,rfl,rfl,c_int (i64_succ (by omega)),trivial⟩,⟨rfl,rfl,.inl rfl,.inl rfl,.inl rfl,.inl rfl,.inl rfl,.inl rfl,trivial⟩,rfl⟩
  ·have c1:j=na:=by have:=of_decide_eq_false c1;omega
   rw [List.drop_eq_nil_of_le (by omega),List.filter_nil,List.map_nil,List.nil_append] at hR2
   clear hl hR hh hc hp
   subst hTB
   refine ⟨fun q f m=>∃ (j:Nat) (r3:Led) (wh wc wp:Value),q=nx - j∧j≤nx∧IsL wh r3.h.length∧IsL wc r3.c.length∧IsL wp r3.p.length∧(r3.h.length≤2*(P0+na+j)∧r3.c.length≤P0+na+j∧r3.p.length≤P0+na+j)∧runR day .zero (D.flatMap (onD A B))=runR day r3 (((B.drop j).filter fun x=>decide (x.day=d)).map (Sum.inr:EC→Ev)++T)∧f=[(3,SV.c (.int .i64 day)),(8,SV.ptr 8 0),(10,SV.c (.slice xxa nx xxc)),(12,SV.c (.slice aaa na aac)),(13,SV.ptr 13 0),(14,SV.c (.slice (some ⟨gD,0,none⟩) D.length cD)),(15,SV.c (.int .i64 (i:Nat))),(18,SV.c (.int .i64 (j:Nat)))]∧m=[(8,Blk.row 30 3 #[.slice none 0 0,.slice none 0 0,.slice none 0 0]),(13,Blk.row 30 3 #[wh,wc,wp]),(3000,Blk.own (.slice xxa nx xxc) 47 10 nx (cat EC.A B)),(3001,Blk.own (.slice aaa na aac) 61 76 na (cat AC.A A)),(9620,Blk.own (.slice (some ⟨gD,0,none⟩) D.length cD) 3 1 D.length (ints D)),(9701,Blk.own wh 90 2 (r3.h).length (cat sumA r3.h)),(9702,Blk.own wc 85 3 (r3.c).length (cat sumK r3.c)),(9703,Blk.own wp 85 3 (r3.p).length (cat sumK r3.p))],nx,⟨_,_,⟨0,r2,wh,wc,wp,by omega,by omega,hh2,hc2,hp2,by omega,hR2,rfl,rfl⟩,⟨rfl,rfl,rfl,rfl,rfl,rfl,rfl,rfl,trivial⟩,⟨rfl,rfl,.inl rfl,.inl rfl,.inl rfl,.inl rfl,.inl rfl,.inl rfl,trivial⟩,rfl⟩,?_⟩
   clear hl2 hR2 hh2 hc2 hp2
   rintro q f m ⟨j,r3,wh,wc,wp,rfl,hj,hh3,hc3,hp3,hl3,hR3,rfl,rfl⟩
   refine ⟨_,fun w' _=>run_len_sl Tryz.underlying22 w',fun c1=>?_,fun c1=>?_⟩
   ·have c1:j < nx:=by have:=of_decide_eq_true c1;omega
    rcases hx with ⟨hs1,hs2⟩ | ⟨gX,cX0,hs1⟩
    ·omega
    cases hs1
    obtain ⟨x,hxj⟩:∃ x,B[j]? = some x:=⟨_,List.getElem?_eq_getElem (by omega)⟩
    have LX:(cat EC.A B)[j*10+2]? = some (.int .i64 x.day):=(cat_get EC.size B j x 2 hxj (by decide)).trans x.g2
    rw [drop_at hxj,List.filter_cons] at hR3
    refine ⟨by omega,by omega,.inr ⟨3000,gX,_,nx,_,_,_,_,rfl,rfl,.int .i64 x.day,(by rw [offE];exact LX),?_⟩⟩
    refine ⟨by omega,by omega,.inr ⟨9620,gD,_,D.length,_,_,_,_,rfl,rfl,.int .i64 d,(by rw [off18];exact LD),?_⟩⟩
    refine ⟨by kernel_rfl,fun c2=>?_,fun c2=>?_⟩
    ·have c2:(x.day != d)=true:=c2
     have c2:¬ x.day=d:=by simpa using c2
     rw [if_neg (by simpa using c2)] at hR3
     exact ⟨nx - (j+1),_,_,by omega,⟨j+1,r3,wh,wc,wp,rfl,by omega,hh3,hc3,hp3,by omega,hR3,rfl,rfl⟩,⟨rfl,rfl,rfl,rfl,rfl,rfl,rfl,c_int (i64_succ (by omega)),trivial⟩,⟨rfl,rfl,.inl rfl,.inl rfl,.inl rfl,.inl rfl,.inl rfl,.inl rfl,trivial⟩,rfl⟩
    ·have c2:(x.day != d)=false:=c2
     have c2:x.day=d:=by simpa using c2
     rw [if_pos (by simpa using c2),List.map_cons,List.cons_append,runR] at hR3
     have AO:=enter_r hE' (g:=r3) (day:=day) hh3 hc3 hp3 (by omega) (x:=x)
     have EA:=cat_extract EC.size hxj
     have hszX:(cat EC.A B).size=nx*10:=by rw [Go.SX.cat_size EC.size,hsx]
     generalize x.A=AA at AO EA
     refine ⟨by omega,by omega,.inr ⟨3000,gX,_,nx,_,_,_,_,rfl,rfl,(by rw [offE,hszX];show j*10+10≤nx*10;omega),AA,(by rw [offE];exact EA),?_⟩⟩
     refine .inr (.inr (.inr ⟨[(9700,13)],[],[_,_,_],[_,_,_,_],_,AO,rfl,⟨.inl rfl,.inl rfl,.inl rfl,rfl,trivial⟩,by kernel_rfl,trivial,?_⟩))
     rintro r U ⟨g2,zh,zc,zp,k1,k2,k3,rfl,hM⟩
     refine ⟨by kernel_rfl,?_⟩
     have hst:stepR day r3 (.inr x)=entR day r3 x:=rfl
     rw [hst] at hR3
     cases hS:entR day r3 x with
     | error e =>
      rw [hS] at hM hR3
      obtain ⟨rfl,he⟩:=hM
      have hR3:runR day .zero (D.flatMap (onD A B))=.error e:=hR3
      refine ⟨fun _=>?_,fun c3=>absurd (show (e != 0)=false from c3) (by simpa using he)⟩
      refine ⟨_,rfl,nil3_fits,?_⟩
      exact ⟨_,[],bad e (by rw [hP,hR3];rfl),⟨.inr ⟨rfl,rfl,rfl⟩,.inr ⟨rfl,rfl,rfl⟩,.inr ⟨rfl,rfl,rfl⟩,trivial⟩,rfl⟩
     | ok g' =>
      rw [hS] at hM hR3
      obtain ⟨rfl,rfl⟩:=hM
      obtain ⟨s1,s2,s3⟩:=ent_lenR hS
      refine ⟨nofun,fun _=>?_⟩
      exact ⟨nx - (j+1),_,_,by omega,⟨j+1,g2,zh,zc,zp,rfl,by omega,k1,k2,k3,⟨by omega,by omega,by omega⟩,hR3,rfl,rfl⟩,⟨rfl,rfl,rfl,rfl,rfl,rfl,rfl,c_int (i64_succ (by omega)),trivial⟩,⟨rfl,rfl,.inl rfl,.inl rfl,.inl rfl,.inl rfl,.inl rfl,.inl rfl,trivial⟩,rfl⟩
   ·have c1:j=nx:=by have:=of_decide_eq_false c1;omega
    rw [List.drop_eq_nil_of_le (by omega),List.filter_nil,List.map_nil,List.nil_append] at hR3
    exact ⟨D.length - (i+1),_,_,by omega,⟨i+1,r3,wh,wc,wp,rfl,by omega,hh3,hc3,hp3,⟨by rw [hlt];omega,by rw [hlt];omega,by rw [hlt];omega⟩,by rw [hR3,hT0],rfl,rfl⟩,⟨rfl,rfl,rfl,rfl,rfl,rfl,c_int (i64_succ (by omega)),trivial⟩,⟨rfl,rfl,.inl rfl,.inl rfl,.inl rfl,.inl rfl,.inl rfl,.inl rfl,trivial⟩,rfl⟩
 ·have c:i=D.length:=by have:=of_decide_eq_false c;omega
  rw [List.drop_eq_nil_of_le (by omega)] at hR
  have hF:atP xs al k day=finN r:=by rw [hP,hR];rfl
  have FO:=finish_r hE' (g:=r) hh hc hp (by omega)
  refine .inr (.inr (.inr ⟨[],[9506,9507,9508],[_],[_,_,_],_,FO,rfl,⟨.inl rfl,.inl rfl,.inl rfl,trivial⟩,rfl,trivial,?_⟩))
  rintro r' U ⟨xh,xc,xp,q1,q2,q3,rfl,rfl⟩
  refine ⟨by kernel_rfl,?_⟩
  have Q:AtQ (atP xs al k day) (.tuple #[.agg #[xh,xc,xp],.int .i64 (finN r).2]) [(9506,Blk.own xh 90 2 (finN r).1.h.length (cat sumA (finN r).1.h)),(9507,Blk.own xc 85 3 (finN r).1.c.length (cat sumK (finN r).1.c)),(9508,Blk.own xp 85 3 (finN r).1.p.length (cat sumK (finN r).1.p))]:=by
   rw [hF];exact ⟨xh,xc,xp,q1,q2,q3,rfl,rfl⟩
  exact ⟨fits3 (isL_one q1) (isL_one q2) (isL_one q3),_,[],Q,⟨.inl rfl,.inl rfl,.inl rfl,trivial⟩,rfl⟩
end Go.Proofs.YtkaakbpeegpnkaaGreatDoor
