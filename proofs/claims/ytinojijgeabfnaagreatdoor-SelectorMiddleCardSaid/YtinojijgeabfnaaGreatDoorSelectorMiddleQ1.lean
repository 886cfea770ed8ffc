/- the law SelectorMiddle: walk; no condition. -/
import Derived.Test.YtinojijgeabfnaaGreatDoorP33
set_option maxRecDepth 100000
set_option maxHeartbeats 4000000
namespace Go.Proofs.YtinojijgeabfnaaGreatDoor
open Go Go.RowKit Go.SX
theorem has_m {E:Env} (hE:E.P=Tryz.prog) {v:Value} {xs:List (List UInt8)} {s:List UInt8} (hv:Lst E v 1 xs.length (cat strA xs)) (hn:xs.length≤1000000000000):OwnC E 34 [SV.c v,SV.c (.string (S s))] [] (fun x U=>x=.bool (xs.contains s)∧U=[]):=by
 refine sx_ownC [] tt_ok mixed at34 E hE [SV.c v,SV.c (.string (S s))] [] _ rfl rfl fun w X β hT=>?_
 have hv':=hv.of_old hT
 obtain ⟨a,cap,rfl,hc,h4⟩:=hv'.shape
 refine ⟨fun q f m=>∃ (i:Nat),q=xs.length - i∧i≤xs.length∧(xs.take i).contains s=false∧f=[(0,SV.c (.slice a xs.length cap)),(1,SV.c (.string (S s))),(5,SV.c (.int .i64 (i:Nat)))]∧m=[],xs.length,⟨_,_,⟨0,by omega,by omega,rfl,rfl,rfl⟩,⟨rfl,rfl,rfl,trivial⟩,trivial,rfl⟩,?_⟩
 rintro q f m ⟨i,rfl,hi,hno,rfl,rfl⟩
 refine ⟨_,fun w' _=>run_len_sl Tryz.underlying23 w',fun h=>?_,fun h=>?_⟩
 ·have h:i < xs.length:=by have:=of_decide_eq_true h;omega
  obtain ⟨b,o,rfl,h5⟩:=h4 (by omega)
  obtain ⟨y,hy⟩:∃ y,xs[i]? = some y:=⟨_,List.getElem?_eq_getElem h⟩
  have hE':VOk (envC Tryz.prog tt Tryz.f34.ntmps w X (tiedK [] β)):=tt_ok
  have L1:=lst_at hE' h5 strA_size hy (j:=0) (v:=.string (S y)) rfl (ty:=9) (ti:=ti9) rfl rfl (p:=offAt o ((i:Nat):Int) ti9.size) (off_one o i)
  refine ⟨by omega,by omega,.inl ⟨_,L1,fun c=>?_,fun c=>?_⟩⟩
  ·have c:=str_eq c
   exact ⟨[],[],⟨by rw [contains_at hy c.symm];rfl,rfl⟩,trivial,rfl⟩
  ·have c:=str_ne c
   exact ⟨xs.length - (i+1),_,_,by omega,⟨i+1,rfl,by omega,contains_step hy hno (Ne.symm c),rfl,rfl⟩,⟨rfl,rfl,c_int (i64_succ (by omega)),trivial⟩,trivial,rfl⟩
 ·have h:i=xs.length:=by have:=of_decide_eq_false h;omega
  subst h
  rw [List.take_length] at hno
  exact ⟨[],[],⟨by rw [hno];rfl,rfl⟩,trivial,rfl⟩
theorem has_own {E:Env} (hE:E.P=Tryz.prog) {x:Value} {xs:List (List UInt8)} {n:Nat} (hn:n=xs.length) (hb:n≤1000000000000) (s:List UInt8):OwnC E 34 [SV.c x,SV.c (.string (S s))] [(9000,Blk.own x 9 1 n (cat strA xs))] (fun r U=>r=.bool (xs.contains s)∧U=[(9000,Blk.own x 9 1 n (cat strA xs))]):=by
 subst hn
 refine (OwnC.with_own (k:=9000) (v:=x) (e:=9) (sz:=1) (n:=xs.length) (A:=cat strA xs) (pre:=[]) rfl rfl (Go.SX.cat_all strA_one xs) (by rw [hE];exact at34.enters) (fun E0 h hl1=>has_m (h.trans hE) hl1 hb) (fun x U h=>by rw [h.2];rfl)).mono ?_
 rintro r U ⟨U0,⟨h1,rfl⟩,rfl⟩
 exact ⟨h1,rfl⟩
theorem selectorMiddle_f {v:Value} {zs:List Int} (w:World) (hv:Tp (envC Tryz.prog tt Tryz.f6.ntmps w [] []).toEnv v zs):Calls Tryz.prog 6 #[v] w fun e w'=>e=.returned (.bool true)∧Below w.heap.size w w':=by
 refine sx_atX [] tt_ok mixed at6 [v] _ w rfl ?_
 have hv0:=hv
 obtain ⟨a,cap,rfl,-⟩:=hv0
 refine ⟨_,fill_tape a zs.length cap rfl,rfl,?_⟩
 generalize hvv:Value.slice a zs.length cap=v at *
 refine .inr (.inr (.inr ⟨[(1000,22)],[3000,9101],[_],[_],_,comparable_z rfl hv (k:=0) (by omega),rfl,⟨rfl,trivial⟩,rfl,trivial,?_⟩))
 rintro x U ⟨l,tol,y,z,n,k1,h1,h2,hn1,hn4,hl,hls,ht,hy,hz,rfl,rfl⟩
 refine ⟨rfl,?_⟩
 have hcm:∀ i q,l[i]? = some q→isCm i q:=fun i q h=>(hls i q h).cm
 have hin:∀ q∈l,q.In:=fun q hq=>by
  obtain ⟨j,hj⟩:=List.getElem?_of_mem hq
  exact (hcm j q hj).inn
 rcases hy with ⟨hq,hq2⟩ | ⟨gy,yc,hq⟩
 ·omega
 subst hq
 have PF:=(cmpP n tol).fits (v:=z) (by obtain ⟨a1,c1,rfl⟩:=hz.len;rfl)
 have PG:=(cmpP n tol).g1 z
 have hz2:n=(cmpP n tol).srcs.length:=by
  show n=(src4.take n).length
  rw [List.length_take];show n=min n 4;omega
 obtain ⟨e1,e2⟩:=cm_cands hcm hl hn1 hn4 ht
 have X1:=select_own (E:=(envC Tryz.prog tt Tryz.f6.ntmps w [] []).toEnv) rfl (x:=.slice (some ⟨gy,0,none⟩) n yc) (y:=z) (xs:=l) (p:=cmpP n tol) (nx:=n) (ny:=n) hl.symm hz2 (by omega) (by omega) hin (cmpP_in (tol3_in ht)) 99 acme 9497
 generalize (cmpP n tol).A z=PA at *
 refine ⟨PF,?_⟩
 refine .inr (.inr (.inr ⟨[(9200,3000)],[9000],[_,_,_,_,_],[_,_],_,X1,rfl,⟨.inl rfl,.inl rfl,trivial⟩,rfl,trivial,?_⟩))
 rintro r1 U1 ⟨U0,⟨s1,n1,hn1',rfl,hs1,rfl⟩,rfl⟩
 refine ⟨rfl,?_⟩
 rw [show (cmpP n tol).tol=tol from rfl,e1] at hn1' ⊢
 rw [e2]
 obtain ⟨sa1,sc1,rfl⟩:=hs1.len
 have CF1:=(selCh l tol).fits (a:=sa1) (n:=n1) (c:=sc1)
 have C0:=CH.g0 (selCh l tol) (.slice sa1 n1 sc1)
 have C2:=CH.g2 (selCh l tol) (.slice sa1 n1 sc1)
 have C3:=CH.g3 (selCh l tol) (.slice sa1 n1 sc1)
 have C4:=CH.g4 (selCh l tol) (.slice sa1 n1 sc1)
 have HH:=fun (E0:Env) (h0:E0.P=Tryz.prog) (s:List UInt8)=>has_own (E:=E0) h0 (x:=.slice sa1 n1 sc1) (xs:=selBad l tol) (n:=n1) hn1' (by have:=selBad_len l tol;omega) s
 generalize (selCh l tol).A (.slice sa1 n1 sc1)=CH1 at *
 refine ⟨CF1,fun h=>absurd h (by decide),fun _=>?_⟩
 have jb:∀ i:Nat,i < n→i*72+4+66≤(cat QC.A l).size:=fun i hi=>by
  rw [Go.SX.cat_size QC.size]
  have:=Nat.mul_le_mul_right 72 (show i+1≤l.length by omega)
  omega
 refine ⟨fun q f m=>∃ (i:Nat),q=n - i∧i≤n∧(∀ (j:Nat) (q:QC),j < i→l[j]? = some q→¬ (belowQ l q.price.p≤(n - 1) / 2∧aboveQ l q.price.p≤n / 2))∧f=[(4,SV.c (.slice (some ⟨gy,0,none⟩) n yc)),(5,SV.ptr 5 0),(6,SV.ptr 6 0),(8,SV.c (.int .i64 (i:Nat)))]∧m=[(5,Blk.row 31 68 PA),(6,Blk.row 33 70 CH1),(3000,Blk.own (.slice (some ⟨gy,0,none⟩) n yc) 40 72 n (cat QC.A l)),(9000,Blk.own (.slice sa1 n1 sc1) 9 1 n1 (cat strA (selBad l tol)))],n,⟨_,_,⟨0,rfl,by omega,fun j q h=>by omega,rfl,rfl⟩,⟨rfl,rfl,rfl,rfl,trivial⟩,⟨rfl,rfl,.inl rfl,.inl rfl,trivial⟩,rfl⟩,?_⟩
 rintro q f m ⟨i,rfl,hi,hno,rfl,rfl⟩
 refine ⟨_,fun w' _=>run_len_sl Tryz.underlying22 w',fun h=>?_,fun h=>?_⟩
 ·have h:i < n:=by have:=of_decide_eq_true h;omega
  obtain ⟨q0,hq0⟩:∃ q,l[i]? = some q:=⟨_,List.getElem?_eq_getElem (by omega)⟩
  have hc0:=hcm i q0 hq0
  have Q0:=hc0.inn.price
  have gp0:=cat_price hq0
  generalize hXL:cat QC.A l=XL at *
  refine ⟨by omega,by omega,.inr ⟨3000,gy,_,n,_,_,_,_,rfl,rfl,by rw [off72];exact jb i h,q0.price.A,(by rw [off72];exact gp0),q0.price.A_fits,?_⟩⟩
  refine ⟨fun q f m=>∃ (k:Nat),q=n - k∧k≤n∧f=[(4,SV.c (.slice (some ⟨gy,0,none⟩) n yc)),(5,SV.ptr 5 0),(6,SV.ptr 6 0),(8,SV.c (.int .i64 (i:Nat))),(9,SV.ptr 9 0),(10,SV.c (.int .i64 ((belowQ (l.take k) q0.price.p:Nat):Int))),(11,SV.c (.int .i64 ((aboveQ (l.take k) q0.price.p:Nat):Int))),(12,SV.c (.int .i64 (k:Nat)))]∧m=[(5,Blk.row 31 68 PA),(6,Blk.row 33 70 CH1),(9,Blk.row 29 66 q0.price.A),(3000,Blk.own (.slice (some ⟨gy,0,none⟩) n yc) 40 72 n XL),(9000,Blk.own (.slice sa1 n1 sc1) 9 1 n1 (cat strA (selBad l tol)))],n,⟨_,_,⟨0,rfl,by omega,rfl,rfl⟩,⟨rfl,rfl,rfl,rfl,rfl,rfl,rfl,rfl,trivial⟩,⟨rfl,rfl,rfl,.inl rfl,.inl rfl,trivial⟩,rfl⟩,?_⟩
  rintro q f m ⟨k,rfl,hk,rfl,rfl⟩
  refine ⟨_,fun w' _=>run_len_sl Tryz.underlying22 w',fun h2=>?_,fun h2=>?_⟩
  ·have h2:k < n:=by have:=of_decide_eq_true h2;omega
   obtain ⟨q1,hq1⟩:∃ q,l[k]? = some q:=⟨_,List.getElem?_eq_getElem (by omega)⟩
   have hc1:=hcm k q1 hq1
   have gp1:=cat_price hq1
   rw [hXL] at gp1
   have CM:=cm_cmp hc1 hc0
   have eb:=below_step hq1 q0.price.p
   have ea:=above_step hq1 q0.price.p
   have bb:=List.countP_le_length (p:=fun q:QC=>decide (q.price.p < q0.price.p)) (l:=l.take k)
   have ba:=List.countP_le_length (p:=fun q:QC=>decide (q0.price.p < q.price.p)) (l:=l.take k)
   rw [List.length_take] at bb ba
   have bb:belowQ (l.take k) q0.price.p≤4:=by unfold belowQ;omega
   have ba:aboveQ (l.take k) q0.price.p≤4:=by unfold aboveQ;omega
   have F0:=q0.price.A_fits
   have F1:=q1.price.A_fits
   have c1:=cmpI_neg q1.price.p q0.price.p
   have c2:=cmpI_pos q1.price.p q0.price.p
   generalize q0.price.A=A0 at *
   generalize q1.price.A=A1 at *
   refine ⟨by omega,by omega,.inr ⟨3000,gy,_,n,_,_,_,_,rfl,rfl,by rw [off72];exact jb k h2,A1,(by rw [off72];exact gp1),.inl ⟨_,CM,by kernel_rfl,fun c=>?_,fun c=>?_⟩⟩⟩
   ·have c:=c1.symm.trans c
    refine ⟨by omega,by omega,.inr ⟨3000,gy,_,n,_,_,_,_,rfl,rfl,by rw [off72];exact jb k h2,A1,(by rw [off72];exact gp1),.inl ⟨_,CM,by kernel_rfl,fun d=>?_,fun d=>?_⟩⟩⟩
    ·have d:=c2.symm.trans d
     exact ⟨n - (k+1),_,_,by omega,⟨k+1,rfl,by omega,rfl,rfl⟩,⟨rfl,rfl,rfl,rfl,rfl,c_int (by rw [eb,if_pos c,i64_in (by omega)];omega),c_int (by rw [ea,if_pos d,i64_in (by omega)];omega),c_int (i64_succ (by omega)),trivial⟩,⟨rfl,rfl,rfl,.inl rfl,.inl rfl,trivial⟩,rfl⟩
    ·have d:=c2.symm.trans d
     exact ⟨n - (k+1),_,_,by omega,⟨k+1,rfl,by omega,rfl,rfl⟩,⟨rfl,rfl,rfl,rfl,rfl,c_int (by rw [eb,if_pos c,i64_in (by omega)];omega),c_int (by rw [ea,if_neg (by rw [d];simp)];omega),c_int (i64_succ (by omega)),trivial⟩,⟨rfl,rfl,rfl,.inl rfl,.inl rfl,trivial⟩,rfl⟩
   ·have c:=c1.symm.trans c
    refine ⟨by omega,by omega,.inr ⟨3000,gy,_,n,_,_,_,_,rfl,rfl,by rw [off72];exact jb k h2,A1,(by rw [off72];exact gp1),.inl ⟨_,CM,by kernel_rfl,fun d=>?_,fun d=>?_⟩⟩⟩
    ·have d:=c2.symm.trans d
     exact ⟨n - (k+1),_,_,by omega,⟨k+1,rfl,by omega,rfl,rfl⟩,⟨rfl,rfl,rfl,rfl,rfl,c_int (by rw [eb,if_neg (by rw [c];simp)];omega),c_int (by rw [ea,if_pos d,i64_in (by omega)];omega),c_int (i64_succ (by omega)),trivial⟩,⟨rfl,rfl,rfl,.inl rfl,.inl rfl,trivial⟩,rfl⟩
    ·have d:=c2.symm.trans d
     exact ⟨n - (k+1),_,_,by omega,⟨k+1,rfl,by omega,rfl,rfl⟩,⟨rfl,rfl,rfl,rfl,rfl,c_int (by rw [eb,if_neg (by rw [c];simp)];omega),c_int (by rw [ea,if_neg (by rw [d];simp)];omega),c_int (i64_succ (by omega)),trivial⟩,⟨rfl,rfl,rfl,.inl rfl,.inl rfl,trivial⟩,rfl⟩
  ·have h2:k=n:=by have:=of_decide_eq_false h2;omega
   subst h2
   have etk:l.take k=l:=by rw [← hl,List.take_length]
   rw [etk]
   have w1:(IntKind.i64.wrap ((k:Int) - 1)).tdiv 2=(((k - 1) / 2:Nat):Int):=by rw [i64_in (by omega),Int.tdiv_eq_ediv_of_nonneg (by omega)];omega
   have w1':IntKind.i64.wrap (((k - 1) / 2:Nat):Int)=(((k - 1) / 2:Nat):Int):=i64_in (by omega)
   have w2:((k:Int)).tdiv 2=((k / 2:Nat):Int):=by rw [Int.tdiv_eq_ediv_of_nonneg (by omega)];omega
   have w2':IntKind.i64.wrap ((k / 2:Nat):Int)=((k / 2:Nat):Int):=i64_in (by omega)
   have hno2:¬ (belowQ l q0.price.p≤(k - 1) / 2∧aboveQ l q0.price.p≤k / 2)→∀ (j:Nat) (q:QC),j < i+1→l[j]? = some q→¬ (belowQ l q.price.p≤(k - 1) / 2∧aboveQ l q.price.p≤k / 2):=fun hx j q hj hq=>by
    rcases Nat.lt_or_ge j i with h9 | h9
    ·exact hno j q h9 hq
    ·have:j=i:=by omega
     subst this
     rw [hq0] at hq
     cases hq
     exact hx
   refine ⟨_,fun w' _=>run_len_sl Tryz.underlying22 w',by decide,fun c=>?_,fun c=>?_⟩
   ·have c:decide (((belowQ l q0.price.p:Nat):Int) > IntKind.i64.wrap ((IntKind.i64.wrap ((k:Int) - 1)).tdiv 2))=false:=c
    rw [w1,w1'] at c
    have c:=of_decide_eq_false c
    refine ⟨_,fun w' _=>run_len_sl Tryz.underlying22 w',by decide,fun d=>?_,fun d=>?_⟩
    ·have d:decide (((aboveQ l q0.price.p:Nat):Int) > IntKind.i64.wrap (((k:Nat):Int).tdiv 2))=true:=d
     rw [w2,w2'] at d
     have d:=of_decide_eq_true d
     exact ⟨k - (i+1),_,_,by omega,⟨i+1,rfl,by omega,hno2 (fun h=>absurd h.2 (by omega)),rfl,rfl⟩,⟨rfl,rfl,rfl,c_int (i64_succ (by omega)),trivial⟩,⟨rfl,rfl,.inl rfl,.inl rfl,trivial⟩,rfl⟩
    ·have d:decide (((aboveQ l q0.price.p:Nat):Int) > IntKind.i64.wrap (((k:Nat):Int).tdiv 2))=false:=d
     rw [w2,w2'] at d
     have d:=of_decide_eq_false d
     obtain ⟨md,hyd,-,-,hmid,-⟩:=mid_main hcm (by omega)
     rw [hl] at hmid
     have hyp:=hmid q0.price.p (by omega) (by omega)
     have hyq:yardQ l=q0.price:=by rw [hyd,← hyp];exact hc0.price.1.symm
     refine ⟨fun q f m=>∃ (j:Nat),q=k - j∧j≤k∧f=[(4,SV.c (.slice (some ⟨gy,0,none⟩) k yc)),(5,SV.ptr 5 0),(6,SV.ptr 6 0),(9,SV.ptr 9 0),(13,SV.c (.bool ((l.take j).any (nearB l tol)))),(14,SV.c (.int .i64 (j:Nat)))]∧m=[(5,Blk.row 31 68 PA),(6,Blk.row 33 70 CH1),(9,Blk.row 29 66 q0.price.A),(3000,Blk.own (.slice (some ⟨gy,0,none⟩) k yc) 40 72 k XL),(9000,Blk.own (.slice sa1 n1 sc1) 9 1 n1 (cat strA (selBad l tol)))],k,⟨_,_,⟨0,rfl,by omega,rfl,rfl⟩,⟨rfl,rfl,rfl,rfl,rfl,rfl,trivial⟩,⟨rfl,rfl,rfl,.inl rfl,.inl rfl,trivial⟩,rfl⟩,?_⟩
     rintro q f m ⟨j,rfl,hj,rfl,rfl⟩
     refine ⟨_,fun w' _=>run_len_sl Tryz.underlying22 w',fun h3=>?_,fun h3=>?_⟩
     ·have h3:j < k:=by have:=of_decide_eq_true h3;omega
      obtain ⟨q1,hq1⟩:∃ q,l[j]? = some q:=⟨_,List.getElem?_eq_getElem (by omega)⟩
      have hc1:=hcm j q1 hq1
      have gp1:=cat_price hq1
      have gs1:XL[j*72+0]? = some (.string (S q1.src)):=by rw [← hXL,cat_get QC.size l j q1 0 hq1 (by decide)];exact q1.g0
      have gd1:XL[j*72+3]? = some (.int .i64 q1.day):=by rw [← hXL,cat_get QC.size l j q1 3 hq1 (by decide)];exact q1.g3
      rw [hXL] at gp1
      have v0:=(right_price (valid_right hc0.valid) hc0.vo).1
      have v1:=(right_price (valid_right hc1.valid) hc1.vo).1
      obtain ⟨o1,o2,o3,b1,b2,b3,b4⟩:=near_ok v1 v0 (tol3_ok ht).1 (tol3_ok ht).2
      have SB:=subR_r hc1.inn.price hc0.inn.price
      have AB:=absR_r (sumQ_in true q1.price q0.price)
      have ML:=mulR_r (tol3_in ht) hc0.inn.price
      have CM2:=compareR_r (absQ_in (sumQ_in true q1.price q0.price)) (mulQ_in tol q0.price) (by rw [Int.natAbs_mul];exact Nat.lt_of_le_of_lt (Nat.mul_le_mul b1 b4) big_a) (by rw [Int.natAbs_mul];exact Nat.lt_of_le_of_lt (Nat.mul_le_mul b3 b2) big_b)
      have eN:decide (cmpI ((absQ (sumQ true q1.price q0.price).1).1.p*(mulQ tol q0.price).1.q) ((mulQ tol q0.price).1.p*(absQ (sumQ true q1.price q0.price).1).1.q)≤0)=nearB l tol q1:=by unfold nearB;rw [hyq];rfl
      have F1:=(sumQ true q1.price q0.price).1.A_fits
      have F2:=(absQ (sumQ true q1.price q0.price).1).1.A_fits
      have F3:=(mulQ tol q0.price).1.A_fits
      have F4:=q1.price.A_fits
      refine ⟨by omega,by omega,.inr ⟨3000,gy,_,k,_,_,_,_,rfl,rfl,by rw [off72];exact jb j h3,q1.price.A,(by rw [off72];exact gp1),.inl ⟨_,SB,F1,by kernel_rfl,.inl ⟨_,AB,F2,?_⟩⟩⟩⟩
      have PG2:PA.extract 1 (1+66)=tol.A:=PG
      refine ⟨by decide,_,PG2,.inl ⟨_,ML,F3,?_⟩⟩
      refine .inl ⟨_,CM2,?_⟩
      have HC:(selBad l tol).contains q1.src=!nearB l tol q1:=by
       rw [← cm_has hcm tol hq1,Bool.eq_iff_iff];simp
      refine ⟨_,C4,by omega,by omega,.inr ⟨3000,gy,_,k,_,_,_,_,rfl,rfl,.string (S q1.src),(by rw [off72];exact gs1),?_⟩⟩
      refine .inr (.inr (.inl ⟨[],[_,_],[_],_,[_],HH _ rfl q1.src,rfl,⟨.inl rfl,trivial⟩,rfl,rfl,fun c=>?_,fun c=>?_⟩))
      ·refine ⟨fun d=>?_,fun d=>?_⟩
       ·have d:decide (cmpI ((absQ (sumQ true q1.price q0.price).1).1.p*(mulQ tol q0.price).1.q) ((mulQ tol q0.price).1.p*(absQ (sumQ true q1.price q0.price).1).1.q)≤0)=true:=d
        rw [eN] at d
        refine ⟨fun e=>?_,fun e=>?_⟩
        ·have e:(!(l.take j).any (nearB l tol))=true:=e
         have e:(l.take j).any (nearB l tol)=false:=by simpa using e
         have hch:=cm_first hcm tol hq1 d e
         have D0:CH1[0]? = some (.string (S q1.src)):=by rw [C0,hch];rfl
         have D2:CH1[2]? = some (.int .i64 q1.day):=by rw [C2,hch];rfl
         have D3:CH1.extract 3 (3+66)=q1.price.A:=by rw [C3,hch];rfl
         refine ⟨_,D0,by omega,by omega,.inr ⟨3000,gy,_,k,_,_,_,_,rfl,rfl,.string (S q1.src),(by rw [off72];exact gs1),fun x=>?_,fun x=>?_⟩⟩
         ·refine ⟨by decide,_,D3,by omega,by omega,.inr ⟨3000,gy,_,k,_,_,_,_,rfl,rfl,by rw [off72];exact jb j h3,q1.price.A,(by rw [off72];exact gp1),_,neqs_ratio rfl hc1.inn.price,fun x2=>?_,fun x2=>absurd x2 (by decide)⟩⟩
          refine ⟨_,D2,by omega,by omega,.inr ⟨3000,gy,_,k,_,_,_,_,rfl,rfl,.int .i64 q1.day,(by rw [off72];exact gd1),?_⟩⟩
          refine ⟨by kernel_rfl,fun z=>?_,fun _=>?_⟩
          ·exfalso
           have z:(q1.day != q1.day)=true:=z
           simp at z
          ·exact ⟨fun g=>⟨k - (j+1),_,_,by omega,⟨j+1,rfl,by omega,rfl,rfl⟩,⟨rfl,rfl,rfl,rfl,congrArg (fun b=>SV.c (.bool b)) (show decide (cmpI ((absQ (sumQ true q1.price q0.price).1).1.p*(mulQ tol q0.price).1.q) ((mulQ tol q0.price).1.p*(absQ (sumQ true q1.price q0.price).1).1.q)≤0)=_ from by have g:(l.take j).any (nearB l tol)=false:=g;rw [any_step hq1,g,Bool.false_or,eN]),c_int (i64_succ (by omega)),trivial⟩,⟨rfl,rfl,rfl,.inl rfl,.inl rfl,trivial⟩,rfl⟩,fun g=>⟨k - (j+1),_,_,by omega,⟨j+1,rfl,by omega,rfl,rfl⟩,⟨rfl,rfl,rfl,rfl,congrArg (fun b=>SV.c (.bool b)) (show true=_ from by have g:(l.take j).any (nearB l tol)=true:=g;rw [any_step hq1,g,Bool.true_or]),c_int (i64_succ (by omega)),trivial⟩,⟨rfl,rfl,rfl,.inl rfl,.inl rfl,trivial⟩,rfl⟩⟩
         ·exfalso
          have x:(!(S q1.src).toList == (S q1.src).toList)=true:=x
          simp at x
        ·refine ⟨by kernel_rfl,fun z=>absurd z (by decide),fun _=>?_⟩
         exact ⟨fun g=>⟨k - (j+1),_,_,by omega,⟨j+1,rfl,by omega,rfl,rfl⟩,⟨rfl,rfl,rfl,rfl,congrArg (fun b=>SV.c (.bool b)) (show decide (cmpI ((absQ (sumQ true q1.price q0.price).1).1.p*(mulQ tol q0.price).1.q) ((mulQ tol q0.price).1.p*(absQ (sumQ true q1.price q0.price).1).1.q)≤0)=_ from by have g:(l.take j).any (nearB l tol)=false:=g;rw [any_step hq1,g,Bool.false_or,eN]),c_int (i64_succ (by omega)),trivial⟩,⟨rfl,rfl,rfl,.inl rfl,.inl rfl,trivial⟩,rfl⟩,fun g=>⟨k - (j+1),_,_,by omega,⟨j+1,rfl,by omega,rfl,rfl⟩,⟨rfl,rfl,rfl,rfl,congrArg (fun b=>SV.c (.bool b)) (show true=_ from by have g:(l.take j).any (nearB l tol)=true:=g;rw [any_step hq1,g,Bool.true_or]),c_int (i64_succ (by omega)),trivial⟩,⟨rfl,rfl,rfl,.inl rfl,.inl rfl,trivial⟩,rfl⟩⟩
       ·have d:decide (cmpI ((absQ (sumQ true q1.price q0.price).1).1.p*(mulQ tol q0.price).1.q) ((mulQ tol q0.price).1.p*(absQ (sumQ true q1.price q0.price).1).1.q)≤0)=false:=d
        rw [eN] at d
        refine ⟨fun z=>absurd z (by decide),fun _=>?_⟩
        refine ⟨by kernel_rfl,fun z=>absurd z (by decide),fun _=>?_⟩
        exact ⟨fun g=>⟨k - (j+1),_,_,by omega,⟨j+1,rfl,by omega,rfl,rfl⟩,⟨rfl,rfl,rfl,rfl,congrArg (fun b=>SV.c (.bool b)) (show decide (cmpI ((absQ (sumQ true q1.price q0.price).1).1.p*(mulQ tol q0.price).1.q) ((mulQ tol q0.price).1.p*(absQ (sumQ true q1.price q0.price).1).1.q)≤0)=_ from by have g:(l.take j).any (nearB l tol)=false:=g;rw [any_step hq1,g,Bool.false_or,eN]),c_int (i64_succ (by omega)),trivial⟩,⟨rfl,rfl,rfl,.inl rfl,.inl rfl,trivial⟩,rfl⟩,fun g=>⟨k - (j+1),_,_,by omega,⟨j+1,rfl,by omega,rfl,rfl⟩,⟨rfl,rfl,rfl,rfl,congrArg (fun b=>SV.c (.bool b)) (show true=_ from by have g:(l.take j).any (nearB l tol)=true:=g;rw [any_step hq1,g,Bool.true_or]),c_int (i64_succ (by omega)),trivial⟩,⟨rfl,rfl,rfl,.inl rfl,.inl rfl,trivial⟩,rfl⟩⟩
      ·exfalso
       have c:(decide (cmpI ((absQ (sumQ true q1.price q0.price).1).1.p*(mulQ tol q0.price).1.q) ((mulQ tol q0.price).1.p*(absQ (sumQ true q1.price q0.price).1).1.q)≤0) == (selBad l tol).contains q1.src)=true:=c
       rw [eN,HC] at c
       revert c
       cases nearB l tol q1<;>simp
     ·have h3:j=k:=by have:=of_decide_eq_false h3;omega
      subst h3
      have hany:=cm_any hcm (by omega) ht
      rw [etk,hany]
      exact .inl ⟨_,known_f,fun _=>⟨rfl,trivial⟩,fun h=>absurd h (by decide)⟩
   ·have c:decide (((belowQ l q0.price.p:Nat):Int) > IntKind.i64.wrap ((IntKind.i64.wrap ((k:Int) - 1)).tdiv 2))=true:=c
    rw [w1,w1'] at c
    have c:=of_decide_eq_true c
    refine ⟨fun _=>?_,fun h=>absurd h (by decide)⟩
    exact ⟨k - (i+1),_,_,by omega,⟨i+1,rfl,by omega,hno2 (fun h=>absurd h.1 (by omega)),rfl,rfl⟩,⟨rfl,rfl,rfl,c_int (i64_succ (by omega)),trivial⟩,⟨rfl,rfl,.inl rfl,.inl rfl,trivial⟩,rfl⟩
 ·have h:i=n:=by have:=of_decide_eq_false h;omega
  subst h
  exfalso
  obtain ⟨m,-,-,-,-,a1,a2,j,q,hq,hm⟩:=mid_main hcm (by omega)
  rw [hl] at a1 a2
  have:=hno j q (by have:=(List.getElem?_eq_some_iff.1 hq).1;omega) hq
  rw [hm] at this
  exact this ⟨a1,a2⟩
end Go.Proofs.YtinojijgeabfnaaGreatDoor
