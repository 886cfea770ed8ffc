/- walks: the reference, texts of whole numbers. walks: the ref; no condition. -/
import Derived.Test.YtklehfchdoikeaaGreatDoorValuationExactQ17
set_option maxRecDepth 100000
set_option maxHeartbeats 4000000
namespace Go.Proofs.YtklehfchdoikeaaGreatDoor
open Go Go.RowKit Go.SX
theorem pZ {E:Env} {t:TypeId} (hu:E.P.underlying t=some .string) {l:List UInt8} {k k':IntKind} {x y:Int} (a b:Nat) (hx:x=a) (hy:y=b) (hab:a<=b) (hb:b<=l.length):bB E (Instr.sliceAt t (.string (S l)) (some (.int k x)) (some (.int k' y)) none) (.string (S ((l.take b).drop a))):=fun w _=>by
 subst hx;subst hy
 have h:=run_slice_string (P:=E.P) w t (S l) k k' a b hu (by omega) (by omega) (by rw [aH];omega)
 simp only [Instr.sliceAt,Sem.run_bind,run_underlying hu,Result.andThen_ok]
 rw [h,Gx]
 simp
def ten:List UInt8:=[48,49,50,51,52,53,54,55,56,57]
theorem Dj {r:Nat} (h:r < 10):(ten.take (r+1)).drop r=[UInt8.ofNat (48+r)]:=by
 obtain rfl | rfl | rfl | rfl | rfl | rfl | rfl | rfl | rfl | rfl:r=0\/r=1\/r=2\/r=3\/r=4\/r=5\/r=6\/r=7\/r=8\/r=9:=by omega
 all_goals rfl
theorem Kv (M:Nat):(eA (M:Int)).extract 1 33=mA M:=by
 unfold eA;rw [Int.natAbs_natCast];exact cz
theorem Fa {A:Array Value} {z:Int} (h:IsI A z):aw Tryz.prog 305 [SV.c (.agg A)] (.string (ug z)):=by
 have hab:=Gt h
 have hzl:=h.lt
 obtain ⟨neg,N,hN,rfl,ez⟩:=h.raw
 have eN:z.natAbs=N:=by rw [ez,bD]
 rw [eN] at hab
 have hl309:(eS N).length<=309:=mP yB _ (Nat.lt_of_lt_of_le hN uC)
 refine dz [10] ai ak MZ _ _ rfl rfl fun w=>?_
 refine ⟨br _ _,by decide,_,cz,.inl ⟨_,lf hN,fun h1=>?_,fun h1=>?_⟩⟩
 ·have h1:N=0:=af h1
  have:z=0:=by omega
  subst this
  exact ⟨rfl,trivial⟩
 have hN0:N≠0:=ag h1
 have hfm:nh z=if neg then 45 :: (eS N).reverse else (eS N).reverse:=by
  unfold nh bu
  rw [eN,if_neg hN0,ez]
  cases neg
  ·rw [if_neg (by simp [zN]),if_neg Bool.false_ne_true]
  ·rw [if_pos (by simp [zN];omega),if_pos rfl]
 refine .inl ⟨_,hab,ao _,?_⟩
 refine ⟨fun M f m=>M < BB ^ 32/\∃ l:List UInt8,l.reverse++eS M=eS N/\f=[(1,SV.ptr 1 0),(3,SV.c (.string (S l))),(4,SV.ptr 4 0)]/\m=[(1,Blk.row 31 33 (iA neg N)),(4,Blk.row 31 33 (eA (M:Int)))],N,⟨_,_,⟨hN,[],rfl,rfl,rfl⟩,⟨rfl,rfl,rfl,trivial⟩,⟨rfl,rfl,trivial⟩,rfl⟩,?_⟩
 rintro M f m ⟨hM,l,hd,rfl,rfl⟩
 refine ⟨by decide,_,Kv M,.inl ⟨_,lf hM,fun h2=>?_,fun h2=>?_⟩⟩
 ·have h2:M≠0:=ag (bnt h2)
  rw [gt h2] at hd
  have hll:l.length+1<=309:=by
   have:=congrArg List.length hd
   simp at this;omega
  have ht:=dE 10 (by omega) (by omega)
  have hdm:=ko (aJ (z:=(M:Int)) (by simpa using hM)) (aJ (z:=10) (dP (by omega) (by omega))) (by omega)
  rw [show (M:Int) / 10=((M / 10:Nat):Int) by omega,show (M:Int) % 10=((M % 10:Nat):Int) by omega] at hdm
  have hg:(eA ((M % 10:Nat):Int))[1]? = some (.int .u32 (dg (M % 10) 0:Nat)):=by
   have:=ot (neg:=decide (((M % 10:Nat):Int) < 0)) (N:=(((M % 10:Nat):Int)).natAbs) (i:=0) (by omega)
   rw [Int.natAbs_natCast] at this
   exact this
  have e0:dg (M % 10) 0=M % 10:=by rw [dg0];omega
  rw [e0] at hg
  have e1:IntKind.u32.wrap (((M % 10:Nat):Int)+1)=((M % 10+1:Nat):Int):=by rw [eQ (by omega)];omega
  have hsub:=pZ (E:=(eF Tryz.prog tt Tryz.f305.ntmps w [10]).toEnv) Tryz.underlying9 (l:=ten) (k:=.u32) (k':=.u32) (M % 10) (M % 10+1) rfl e1 (by omega) (by show M % 10+1<=10;omega)
  rw [Dj (by omega)] at hsub
  have es:S [UInt8.ofNat (48+M % 10)]++S l=S (UInt8.ofNat (48+M % 10) :: l):=bg _ _
  refine .inl ⟨_,ht,.inl ⟨_,hdm,ao _,ao _,by kernel_rfl,by decide,by decide,_,hg,by decide,by decide,_,hg,_,hsub,by rw [aH,aH];simp;omega,ao _,?_⟩⟩
  refine ⟨fun f m=>f=[(1,SV.ptr 1 0),(3,SV.c (.string (S (UInt8.ofNat (48+M % 10) :: l)))),(35,SV.c (.agg (eA ((M / 10:Nat):Int))))]/\m=[(1,Blk.row 31 33 (iA neg N))],⟨_,_,⟨rfl,rfl⟩,⟨rfl,ri es,rfl,trivial⟩,⟨rfl,trivial⟩,rfl⟩,?_⟩
  rintro f m ⟨rfl,rfl⟩
  exact ⟨ao _,M / 10,_,_,by omega,⟨Nat.lt_of_le_of_lt (Nat.div_le_self _ _) hM,UInt8.ofNat (48+M % 10) :: l,by rw [<- hd];simp,rfl,rfl⟩,⟨rfl,rfl,rfl,trivial⟩,⟨rfl,rfl,trivial⟩,rfl⟩
 ·have h2:M=0:=af (bnf h2)
  subst h2
  rw [fL,List.append_nil] at hd
  have hl:l=(eS N).reverse:=by rw [<- hd,List.reverse_reverse]
  refine ⟨_,dJ,fun h3=>⟨?_,?_,trivial⟩,fun h3=>⟨?_,trivial⟩⟩
  ·show (S [45]).size+(S l).size<=_
   rw [aH,aH,hl];simp;omega
  ·have h3:neg=true:=h3
   have e3:S [45]++S l=ug z:=by rw [bg,ug,hfm,h3,if_pos rfl,hl];rfl
   rw [<- e3];rfl
  ·have h3:neg=false:=h3
   have e3:S l=ug z:=by rw [ug,hfm,h3,if_neg Bool.false_ne_true,hl];rfl
   rw [<- e3];rfl
def wrt (z:Int) (k:Nat):List UInt8 :=
 (if z < 0 then [45] else [])++(if 0 < k then (ce k (bu z.natAbs)).take ((ce k (bu z.natAbs)).length - k)++(46 :: (ce k (bu z.natAbs)).drop ((ce k (bu z.natAbs)).length - k)) else ce k (bu z.natAbs))
theorem Fc (n:Nat):nh (n:Int)=bu n:=by
 unfold nh;rw [if_neg (by omega),Int.natAbs_natCast]
theorem DU {k i:Nat} {l:List UInt8} (_h:i+l.length<=k):(48:UInt8) :: (List.replicate i 48++l)=List.replicate (i+1) 48++l:=by
 rw [List.replicate_succ];rfl
theorem AU {A:Array Value} {z:Int} (h:IsI A z) {k:Nat} (hk:k<=9):aw Tryz.prog 282 [SV.c (.agg A),SV.c (.int .i64 k)] (.string (S (wrt z k))):=by
 have hl:(bu z.natAbs).length<=309:=ni (k:=yB) (by decide) (Nat.lt_of_lt_of_le h.lt uC)
 have hab:=Gt h
 have hf:=Fa (aJ (z:=(z.natAbs:Int)) (by simpa using h.lt))
 rw [ug,Fc] at hf
 have hf:aw Tryz.prog 305 [SV.c (.agg (eA (z.natAbs:Int)))] (.string (S (bu z.natAbs))):=hf
 have hs:=gD h
 refine dz [4,6] ai ak Nf _ _ rfl rfl fun w=>?_
 refine ⟨h.size,.inl ⟨_,hab,.inl ⟨_,hf,fun f m=>f=[(1,SV.c (.int .i64 k)),(2,SV.ptr 2 0),(5,SV.c (.string (S (ce k (bu z.natAbs)))))]/\m=[(2,Blk.row 31 33 A)],?_,?_⟩⟩⟩
 ·refine ⟨fun q f m=>∃ i:Nat,q=k+1 - i/\(i=0\/i+(bu z.natAbs).length<=k+1)/\f=[(1,SV.c (.int .i64 k)),(2,SV.ptr 2 0),(5,SV.c (.string (S (List.replicate i 48++bu z.natAbs))))]/\m=[(2,Blk.row 31 33 A)],k+1,⟨[(1,SV.c (.int .i64 k)),(2,SV.ptr 2 0),(5,SV.c (.string (S (List.replicate 0 48++bu z.natAbs))))],[(2,Blk.row 31 33 A)],⟨0,rfl,.inl rfl,rfl,rfl⟩,⟨rfl,rfl,rfl,trivial⟩,⟨rfl,trivial⟩,rfl⟩,?_⟩
  rintro q f m ⟨i,rfl,hi,rfl,rfl⟩
  refine ⟨_,fun w _=>az Tryz.underlying9 w,fun h1=>?_,fun h1=>?_⟩
  ·have h1:i+(bu z.natAbs).length<=k:=by
     have:=af h1
     simp only [List.length_append,List.length_replicate] at this;omega
   have es:S [48]++S (List.replicate i 48++bu z.natAbs)=S (List.replicate (i+1) 48++bu z.natAbs):=by
    rw [bg,<- DU h1];rfl
   refine ⟨by rw [aH];show 1+_<=_;simp only [List.length_append,List.length_replicate];omega,k+1 - (i+1),_,_,by omega,⟨i+1,rfl,by omega,rfl,rfl⟩,⟨rfl,rfl,ri es,trivial⟩,⟨rfl,trivial⟩,rfl⟩
  ·have h1:¬ i+(bu z.natAbs).length<=k:=by
     have:=ag h1
     simp only [List.length_append,List.length_replicate] at this;omega
   have e:List.replicate i 48++bu z.natAbs=ce k (bu z.natAbs):=by
    unfold ce
    split
    ·congr 2;omega
    ·have:i=0:=by omega
     subst this;rfl
   exact ⟨_,_,⟨rfl,rfl⟩,⟨rfl,rfl,ri (by rw [e]),trivial⟩,⟨rfl,trivial⟩,rfl⟩
 rintro f m ⟨rfl,rfl⟩
 have hpl:=kf k (bu z.natAbs)
 have hpl2:(ce k (bu z.natAbs)).length<=1000:=by
  unfold ce;split
  ·simp only [List.length_append,List.length_replicate];omega
  ·omega
 unfold wrt
 generalize ce k (bu z.natAbs)=s at *
 refine ⟨fun f m=>∃ t:List UInt8,t.length<=2000/\t=(if 0 < k then s.take (s.length - k)++(46 :: s.drop (s.length - k)) else s)/\f=[(2,SV.ptr 2 0),(5,SV.c (.string (S t)))]/\m=[(2,Blk.row 31 33 A)],⟨fun h1=>?_,fun h1=>?_⟩,?_⟩
 ·have h1:0 < k:=by have:=af h1;omega
  have e2:IntKind.i64.wrap ((s.length:Int) - (k:Nat))=((s.length - k:Nat):Int):=by rw [i64_in (by omega)];omega
  have e3:S (s.take (s.length - k))++S [46]=S (s.take (s.length - k)++[46]):=bg _ _
  have e4:S (s.take (s.length - k))++S [46]++S (s.drop (s.length - k))=S (s.take (s.length - k)++(46 :: s.drop (s.length - k))):=by
   rw [e3,bg,List.append_assoc];rfl
  refine ⟨_,fun w _=>az Tryz.underlying9 w,_,gR Tryz.underlying9 _ e2 (by omega),by rw [aH];show _+1<=_;simp only [List.length_take];omega,_,fun w _=>az Tryz.underlying9 w,_,jw Tryz.underlying9 _ e2 (by omega),?_,by kernel_rfl,_,_,⟨_,?_,by rw [if_pos h1],rfl,rfl⟩,⟨rfl,ri e4,trivial⟩,⟨rfl,trivial⟩,rfl⟩
  ·show (S (s.take (s.length - k))++S [46]).size+(S (s.drop (s.length - k))).size<=_
   rw [e3,aH,aH]
   simp only [List.length_append,List.length_take,List.length_drop,List.length_cons,List.length_nil];omega
  ·simp only [List.length_append,List.length_take,List.length_drop,List.length_cons];omega
 ·have h1:¬ 0 < k:=by have:=ag h1;omega
  exact ⟨_,_,⟨s,by omega,by rw [if_neg h1],rfl,rfl⟩,⟨rfl,rfl,trivial⟩,⟨rfl,trivial⟩,rfl⟩
 rintro f m ⟨t,htl,ht,rfl,rfl⟩
 rw [<- ht]
 refine .inl ⟨_,hs,fun h1=>⟨?_,?_,trivial⟩,fun h1=>⟨?_,trivial⟩⟩
 ·show (S [45]).size+(S t).size<=_
  rw [aH,aH];simp;omega
 ·have h1:decide (sgn z < 0)=true:=h1
  rw [gQ] at h1
  have e:S [45]++S t=S ([45]++t):=bg _ _
  rw [if_pos (af h1),<- e];rfl
 ·have h1:decide (sgn z < 0)=false:=h1
  rw [gQ] at h1
  rw [if_neg (ag h1)];rfl
def isD (b:UInt8):Bool:=decide (48<=b.toNat) && decide (b.toNat<=57)
def b9:List UInt8->Nat
 | []=>0
 | b :: r=>if isD b then b9 r+1 else 0
theorem uq:∀ l:List UInt8,b9 l<=l.length
 | []=>Nat.le_refl _
 | b :: r=>by
  unfold b9
  split
  ·have:=uq r;simp;exact this
  ·simp
theorem uo:∀ (l:List UInt8) (n:Nat),n<=l.length->(∀ j,j < n->isD (l.getD j 0)=true)->(n=l.length\/isD (l.getD n 0)=false)->b9 l=n
 | [],n,h,_,_=>by simp at h;subst h;rfl
 | b :: r,0,_,_,h=>by
  rcases h with h | h
  ·simp at h
  ·unfold b9
   have h:isD b=false:=h
   rw [h];rfl
 | b :: r,n+1,hn,hd,h=>by
  have h0:isD b=true:=hd 0 (by omega)
  unfold b9
  rw [h0,if_pos rfl,uo r n (by simpa using hn) (fun j hj=>by have:=hd (j+1) (by omega);simpa using this) (by
   rcases h with h | h
   ·left;simpa using h
   ·right;simpa using h)]
theorem Fv {l:List UInt8} (h:∀ b∈l,isD b=true):b9 l=l.length:=by
 induction l with
 | nil=>rfl
 | cons b r ih =>
  unfold b9
  rw [h b (by simp),if_pos rfl,ih (fun x hx=>h x (by simp [hx]))]
  rfl
theorem Fu {l m:List UInt8} (h:∀ b∈l,isD b=true) (hm:b9 m=0):b9 (l++m)=l.length:=by
 induction l with
 | nil=>simpa using hm
 | cons b r ih =>
  rw [List.cons_append]
  unfold b9
  rw [h b (by simp),if_pos rfl,ih (fun x hx=>h x (by simp [hx]))]
  rfl
theorem wH (l:List UInt8) (hl:l.length<=9223372036854775807):aw Tryz.prog 306 [SV.c (.string (S l))] (.int .i64 (b9 l:Nat)):=by
 refine aj ai ak MY _ _ rfl rfl fun w=>?_
 refine ⟨fun q f m=>∃ i:Nat,q=l.length - i/\i<=l.length/\(∀ j,j < i->isD (l.getD j 0)=true)/\f=[(0,SV.c (.string (S l))),(3,SV.c (.int .i64 i))]/\m=[],l.length,⟨_,_,⟨0,rfl,Nat.zero_le _,fun j hj=>absurd hj (by omega),rfl,rfl⟩,⟨rfl,rfl,trivial⟩,trivial,rfl⟩,?_⟩
 rintro q f m ⟨i,rfl,hi,hd,rfl,rfl⟩
 refine ⟨_,fun w _=>az Tryz.underlying9 w,fun h1=>?_,fun h1=>⟨nofun,fun _=>?_⟩⟩
 ·have h1:i < l.length:=by have:=af h1;omega
  have hx:=bL (E:=(eF Tryz.prog tt Tryz.f306.ntmps w).toEnv) Tryz.underlying9 (k:=.i64) i rfl h1
  have stop:isD (l.getD i 0)=false->cT [.int .i64 (i:Nat)]=.int .i64 (b9 l:Nat):=fun e=>by rw [uo l i hi hd (.inr e)];rfl
  have hD:isD (l.getD i 0)=(decide (48<=(l.getD i 0).toNat) && decide ((l.getD i 0).toNat<=57)):=rfl
  refine ⟨_,hx,fun h2=>⟨_,hx,fun h3=>?_,fun h3=>⟨stop ?_,trivial⟩⟩,fun h2=>⟨nofun,fun _=>⟨stop ?_,trivial⟩⟩⟩
  ·have e:isD (l.getD i 0)=true:=by
     rw [hD,decide_eq_true (by have:=af h2;omega),decide_eq_true (by have:=af h3;omega)];rfl
   refine ⟨l.length - (i+1),_,_,by omega,⟨i+1,rfl,by omega,fun j hj=>?_,rfl,rfl⟩,⟨rfl,am (by rw [i64_in (by omega)];rfl),trivial⟩,trivial,rfl⟩
   by_cases e2:j=i
   ·rw [e2];exact e
   ·exact hd j (by omega)
  ·rw [hD,decide_eq_false (show ¬ (l.getD i 0).toNat<=57 by have:=ag h3;omega),Bool.and_false]
  ·rw [hD,decide_eq_false (show ¬ 48<=(l.getD i 0).toNat by have:=ag h2;omega),Bool.false_and]
 ·have h1:i=l.length:=by have:=ag h1;omega
  subst h1
  refine ⟨nofun,fun _=>⟨?_,trivial⟩⟩
  rw [uo l _ hi hd (.inl rfl)];rfl
def fj (l:List UInt8):Nat:=l.foldl (fun a b=>a*10+(b.toNat - 48)) 0
theorem Ch (l:List UInt8) (b:UInt8):fj (l++[b])=fj l*10+(b.toNat - 48):=by
 unfold fj;rw [List.foldl_append];rfl
theorem wE:∀ (l:List UInt8) (a:Nat),(∀ b∈l,isD b=true)->l.foldl (fun a b=>a*10+(b.toNat - 48)) a < (a+1)*10 ^ l.length
 | [],a,_=>by simp
 | b :: r,a,h=>by
  have h2:=h b (by simp)
  unfold isD at h2
  simp only [Bool.and_eq_true,decide_eq_true_eq] at h2
  have h3:=wE r (a*10+(b.toNat - 48)) (fun x hx=>h x (by simp [hx]))
  rw [List.foldl_cons,List.length_cons,Nat.pow_succ]
  refine Nat.lt_of_lt_of_le h3 ?_
  rw [Nat.mul_comm (10 ^ r.length) 10,<- Nat.mul_assoc]
  exact Nat.mul_le_mul_right _ (by omega)
theorem H3 {l:List UInt8} (h:∀ b∈l,isD b=true):fj l < 10 ^ l.length:=by
 have:=wE l 0 h
 simpa [fj] using this
theorem sR {l:List UInt8}:∀ b∈l.take (b9 l),isD b=true:=by
 induction l with
 | nil=>intro b hb;simp at hb
 | cons x r ih =>
  intro b hb
  unfold b9 at hb
  split at hb
  ·rename_i hx
   rw [List.take_succ_cons] at hb
   rcases List.mem_cons.1 hb with rfl | hb
   ·exact hx
   ·exact ih b hb
  ·simp at hb
theorem Cg {l:List UInt8} {i:Nat} (hi:i < l.length):fj (l.take (i+1))=fj (l.take i)*10+((l.getD i 0).toNat - 48):=by
 rw [<- List.take_append_getElem hi,Ch,List.getD_eq_getElem?_getD,List.getElem?_eq_getElem hi];rfl
def xP (s:List UInt8) (k:Nat) (neg:Bool):RQ×Bool :=
 if neg && decide (fj s=0) then (.of 0 0,false) else ((mkQ (zN neg (fj s)) (tp k:Nat)).1,true)
def qd (neg:Bool) (whole rest:List UInt8) (p:Int):RQ×Bool :=
 match rest with
 | []=>xP whole 0 neg
 | b :: r=>if b=46 then (if b9 r=0\/b9 r≠r.length\/((b9 r:Nat):Int) > p then (.of 0 0,false) else xP (whole++r) (b9 r) neg) else (.of 0 0,false)
def rB (neg:Bool) (s:List UInt8) (p:Int):RQ×Bool :=
 if b9 s=0\/b9 s > 15\/(b9 s > 1/\s.getD 0 0=48) then (.of 0 0,false) else qd neg (s.take (b9 s)) (s.drop (b9 s)) p
def fu (s:List UInt8) (m:Bool):Bool:=m && (decide (0 < s.length) && decide (s.getD 0 0=45))
def vu (s:List UInt8) (p:Int) (m:Bool):RQ×Bool:=if fu s m then rB true (s.drop 1) p else rB false s p
def Me (x:RQ×Bool):Value:=.tuple #[.agg x.1.A,.bool x.2]
theorem uM (a b:UInt8):(((a.toNat:Nat):Int) == ((b.toNat:Nat):Int))=decide (a=b):=by
 rw [Bool.eq_iff_iff]
 simp only [beq_iff_eq,decide_eq_true_eq]
 constructor
 ·intro h;exact UInt8.toNat_inj.1 (by omega)
 ·intro h;rw [h]
theorem JR (s:List UInt8) (p:Int) (hp:p<=9) (m:Bool) (hs:s.length<=9223372036854775807):aw Tryz.prog 283 [SV.c (.string (S s)),SV.c (.int .i64 p),SV.c (.bool m)] (Me (vu s p m)):=by
 refine dz [2,4,7,16,27] ai ak Nd _ _ rfl rfl fun w=>?_
 have join:∀ b:Bool,b=fu s m->∃ f1 m1,(f1=[(0,SV.c (.string (S s))),(1,SV.c (.int .i64 p)),(6,SV.ptr 6 0),(8,SV.c (.bool (fu s m)))]/\m1=[(6,Blk.row 33 66 bZ.zero)])/\True:=fun _ _=>⟨_,_,⟨rfl,rfl⟩,trivial⟩
 refine ⟨fun f1 m1=>f1=[(0,SV.c (.string (S s))),(1,SV.c (.int .i64 p)),(6,SV.ptr 6 0),(8,SV.c (.bool (fu s m)))]/\m1=[(6,Blk.row 33 66 bZ.zero)],⟨fun h1=>⟨_,fun w _=>az Tryz.underlying9 w,fun h2=>⟨_,bL Tryz.underlying9 0 rfl (by have:=af h2;omega),_,_,⟨rfl,rfl⟩,⟨rfl,rfl,rfl,c_bool ?_,trivial⟩,⟨rfl,trivial⟩,rfl⟩,fun h2=>⟨_,_,⟨rfl,rfl⟩,⟨rfl,rfl,rfl,c_bool ?_,trivial⟩,⟨rfl,trivial⟩,rfl⟩⟩,fun h1=>⟨nofun,fun _=>⟨_,_,⟨rfl,rfl⟩,⟨rfl,rfl,rfl,c_bool ?_,trivial⟩,⟨rfl,trivial⟩,rfl⟩⟩⟩,?_⟩
 ·have h1:m=true:=h1
  have h2:=af h2
  have e:=uM (s.getD 0 0) 45
  rw [fu,h1,decide_eq_true (by omega:0 < s.length),<- e];rfl
 ·have h2:=ag h2
  rw [fu,decide_eq_false (by omega:¬ 0 < s.length),Bool.false_and,Bool.and_false]
 ·have h1:m=false:=h1
  rw [fu,h1];rfl
 rintro f1 m1 ⟨rfl,rfl⟩
 refine ⟨fun f1 m1=>∃ (neg:Bool) (u:List UInt8),u.length<=9223372036854775807/\vu s p m=rB neg u p/\f1=[(0,SV.c (.string (S u))),(1,SV.c (.int .i64 p)),(6,SV.ptr 6 0),(8,SV.c (.bool neg))]/\m1=[(6,Blk.row 33 66 bZ.zero)],⟨fun h1=>?_,fun h1=>?_⟩,?_⟩
 ·have h1:fu s m=true:=h1
  have h0:0 < s.length:=by
   unfold fu at h1
   simp only [Bool.and_eq_true,decide_eq_true_eq] at h1
   exact h1.2.1
  exact ⟨_,jw Tryz.underlying9 1 rfl h0,_,_,⟨true,s.drop 1,by simp;omega,by rw [vu,h1,if_pos rfl],rfl,rfl⟩,⟨rfl,rfl,rfl,c_bool h1,trivial⟩,⟨rfl,trivial⟩,rfl⟩
 ·have h1:fu s m=false:=h1
  exact ⟨_,_,⟨false,s,hs,by rw [vu,h1,if_neg Bool.false_ne_true],rfl,rfl⟩,⟨rfl,rfl,rfl,c_bool h1,trivial⟩,⟨rfl,trivial⟩,rfl⟩
 rintro f1 m1 ⟨neg,u,hu,hS,rfl,rfl⟩
 rw [hS]
 have hdl:=uq u
 have bad:(b9 u=0\/b9 u > 15\/(b9 u > 1/\u.getD 0 0=48))->cT [.agg bZ.zero,.bool false]=Me (rB neg u p):=fun h=>by rw [rB,if_pos h];rfl
 have fit0:Fits bZ.zero 66:=(RQ.of 0 0).A_fits
 have c48:=uM (u.getD 0 0) 48
 have h48:(48:UInt8).toNat=48:=rfl
 rw [h48] at c48
 refine .inl ⟨_,wH u hu,fun f1 m1=>(0 < b9 u/\b9 u<=15/\rB neg u p=qd neg (u.take (b9 u)) (u.drop (b9 u)) p)/\f1=[(0,SV.c (.string (S u))),(1,SV.c (.int .i64 p)),(6,SV.ptr 6 0),(8,SV.c (.bool neg)),(9,SV.c (.int .i64 (b9 u:Nat)))]/\m1=[(6,Blk.row 33 66 bZ.zero)],⟨fun h1=>⟨fun h2=>⟨fun h3=>⟨_,bL Tryz.underlying9 0 rfl (by have:=af h3;omega),fun h4=>⟨bZ.zero,rfl,fit0,bad ?_,trivial⟩,fun h4=>⟨_,_,⟨?_,rfl,rfl⟩,⟨rfl,rfl,rfl,rfl,rfl,trivial⟩,⟨rfl,trivial⟩,rfl⟩⟩,fun h3=>⟨nofun,fun _=>⟨_,_,⟨?_,rfl,rfl⟩,⟨rfl,rfl,rfl,rfl,rfl,trivial⟩,⟨rfl,trivial⟩,rfl⟩⟩⟩,fun h2=>⟨fun _=>⟨bZ.zero,rfl,fit0,bad ?_,trivial⟩,nofun⟩⟩,fun h1=>⟨nofun,fun _=>⟨fun _=>⟨bZ.zero,rfl,fit0,bad ?_,trivial⟩,nofun⟩⟩⟩,?_⟩
 ·have h3:=af h3
  have h4:=af (c48.symm.trans h4)
  exact .inr (.inr ⟨by omega,h4⟩)
 ·have h1:b9 u≠0:=by intro e;rw [e] at h1;simp at h1
  have h2:=ag h2
  have h4:=ag (c48.symm.trans h4)
  refine ⟨by omega,by omega,?_⟩
  rw [rB,if_neg]
  rintro (h | h | h)
  ·exact h1 h
  ·omega
  ·exact h4 h.2
 ·have h1:b9 u≠0:=by intro e;rw [e] at h1;simp at h1
  have h2:=ag h2
  have h3:=ag h3
  refine ⟨by omega,by omega,?_⟩
  rw [rB,if_neg]
  rintro (h | h | h)
  ·exact h1 h
  ·omega
  ·omega
 ·have h2:=af h2
  exact .inr (.inl (by omega))
 ·have h1:b9 u=0:=by have:((b9 u:Nat):Int)=0:=by simpa using h1
                     omega
  exact .inl h1
 rintro f1 m1 ⟨⟨hn0,hn15,hU⟩,rfl,rfl⟩
 rw [hU]
 have hw:=sR (l:=u)
 have hwl:(u.take (b9 u)).length=b9 u:=by simp;omega
 have s1:=gR (E:=(eF Tryz.prog tt Tryz.f283.ntmps w [2,4,7,16,27]).toEnv) Tryz.underlying9 (l:=u) (k:=.i64) (b9 u) rfl hdl
 have s2:=jw (E:=(eF Tryz.prog tt Tryz.f283.ntmps w [2,4,7,16,27]).toEnv) Tryz.underlying9 (l:=u) (k:=.i64) (b9 u) rfl hdl
 have hrl:(u.drop (b9 u)).length<=9223372036854775807:=by simp;omega
 generalize u.take (b9 u)=wh at *
 generalize u.drop (b9 u)=re at *
 clear hU bad c48
 refine ⟨_,s1,_,s2,by kernel_rfl,?_⟩
 refine ⟨fun f1 m1=>∃ (r:List UInt8) (k:Nat),r.length<=9/\k<=9/\(∀ b∈r,isD b=true)/\qd neg wh re p=xP (wh++r) k neg/\f1=[(6,SV.ptr 6 0),(8,SV.c (.bool neg)),(10,SV.c (.string (S wh))),(11,SV.c (.string (S r))),(12,SV.c (.int .i64 k))]/\m1=[(6,Blk.row 33 66 bZ.zero)],⟨_,fun w _=>az Tryz.underlying9 w,fun h1=>?_,fun h1=>?_⟩,?_⟩
 ·have h1:0 < re.length:=by have:=af h1;omega
  obtain ⟨b,r,rfl⟩:∃ b r,re=b :: r:=by cases re with
   | nil=>simp at h1
   | cons b r=>exact ⟨b,r,rfl⟩
  have hrl:r.length<=9223372036854775807:=by simp at hrl;omega
  have hdr:=uq r
  have c46:=uM b 46
  have h46:(46:UInt8).toNat=46:=rfl
  rw [h46] at c46
  refine ⟨_,bL Tryz.underlying9 0 rfl h1,fun h2=>⟨bZ.zero,rfl,fit0,?_,trivial⟩,fun h2=>⟨_,jw Tryz.underlying9 1 rfl h1,.inl ⟨_,wH r hrl,fun h3=>⟨_,fun w _=>az Tryz.underlying9 w,fun h4=>⟨fun h5=>⟨bZ.zero,rfl,fit0,?_,trivial⟩,fun h5=>⟨_,_,⟨r,b9 r,?_,?_,?_,?_,rfl,rfl⟩,⟨rfl,rfl,rfl,rfl,rfl,trivial⟩,⟨rfl,trivial⟩,rfl⟩⟩,fun h4=>⟨fun _=>⟨bZ.zero,rfl,fit0,?_,trivial⟩,nofun⟩⟩,fun h3=>⟨nofun,fun _=>⟨fun _=>⟨bZ.zero,rfl,fit0,?_,trivial⟩,nofun⟩⟩⟩⟩⟩
  ·have h2:b≠46:=ag (c46.symm.trans (bnt h2))
   rw [qd,if_neg h2];rfl
  all_goals have h2:b=46:=af (c46.symm.trans (bnf h2))
  ·have h5:=af h5
   rw [qd,if_pos h2,if_pos (.inr (.inr h5))];rfl
  ·have h5:=ag h5
   have h4:b9 r=r.length:=by have:((b9 r:Nat):Int)=(r.length:Nat):=by simpa using h4
                             omega
   omega
  ·have h5:=ag h5
   omega
  ·have h4:b9 r=r.length:=by have:((b9 r:Nat):Int)=(r.length:Nat):=by simpa using h4
                             omega
   have:=sR (l:=r)
   rw [h4,List.take_length] at this
   exact this
  ·have h5:=ag h5
   have h4:b9 r=r.length:=by have:((b9 r:Nat):Int)=(r.length:Nat):=by simpa using h4
                             omega
   have h3:b9 r≠0:=by intro e;rw [e] at h3;simp at h3
   rw [qd,if_pos h2,if_neg]
   rintro (h | h | h)
   ·exact h3 h
   ·exact h h4
   ·exact h5 h
  ·have h4:b9 r≠r.length:=by
     intro e;rw [e] at h4;simp at h4
   rw [qd,if_pos h2,if_pos (.inr (.inl h4))];rfl
  ·have h3:b9 r=0:=by have:((b9 r:Nat):Int)=0:=by simpa using h3
                      omega
   rw [qd,if_pos h2,if_pos (.inl h3)];rfl
 ·have h1:re=[]:=List.length_eq_zero_iff.1 (by have:=ag h1;omega)
  subst h1
  exact ⟨_,_,⟨[],0,by simp,by omega,by simp,by rw [qd,List.append_nil],rfl,rfl⟩,⟨rfl,rfl,rfl,rfl,rfl,trivial⟩,⟨rfl,trivial⟩,rfl⟩
 rintro f1 m1 ⟨r,k,hr9,hk9,hrd,hR,rfl,rfl⟩
 rw [hR]
 have hld:∀ b∈wh++r,isD b=true:=fun b hb=>by
  rcases List.mem_append.1 hb with h | h
  ·exact hw b h
  ·exact hrd b h
 have hll:(wh++r).length<=24:=by rw [List.length_append];omega
 have es:S wh++S r=S (wh++r):=bg _ _
 have hsz:(S wh).size+(S r).size<=9223372036854775807:=by rw [aH,aH];omega
 unfold xP
 generalize wh++r=l at *
 have big:10 ^ 25<=BB ^ 32:=Nat.le_trans (by decide:10 ^ 25<=BB ^ 3) (Nat.pow_le_pow_right bQ (by omega))
 have hv:∀ i,fj (l.take i) < 10 ^ 24:=fun i=>by
  have h1:=H3 (l:=l.take i) (fun b hb=>hld b (List.mem_of_mem_take hb))
  have h2:(l.take i).length<=24:=by simp;omega
  exact Nat.lt_of_lt_of_le h1 (Nat.pow_le_pow_right (by omega) h2)
 have hvl:=hv l.length
 rw [List.take_length] at hvl
 have p25:10 ^ 25=10 ^ 24*10:=by decide
 have ten:=dE 10 (by omega) (by omega)
 have i10:=aJ (dP (n:=10) (by omega) (by omega))
 have key:∀ i,i < l.length->aw Tryz.prog 142 [SV.c (.agg (eA ((fj (l.take i):Nat):Int))),SV.c (.agg (eA 10))] (.tuple #[.agg (eA ((fj (l.take i)*10:Nat):Int)),.int .i64 0]):=fun i _=>by
  have h1:=hv i
  have h:=sn (aJ (z:=((fj (l.take i):Nat):Int)) (by omega)) i10
  rw [show ((fj (l.take i):Nat):Int)*10=((fj (l.take i)*10:Nat):Int) by omega,eD,if_pos (by omega)] at h
  exact h
 have dig:∀ i,i < l.length->48<=(l.getD i 0).toNat/\(l.getD i 0).toNat<=57:=fun i hi=>by
  have h:=hld (l.getD i 0) (by rw [List.getD_eq_getElem?_getD,List.getElem?_eq_getElem hi];exact List.getElem_mem hi)
  unfold isD at h
  simpa using h
 refine ⟨fJ.zero,rfl,ao 0,hsz,?_⟩
 refine ⟨fun q f mm=>∃ i:Nat,q=l.length - i/\i<=l.length/\f=[(6,SV.ptr 6 0),(8,SV.c (.bool neg)),(12,SV.c (.int .i64 k)),(13,SV.ptr 13 0),(14,SV.c (.string (S l))),(15,SV.c (.int .i64 i))]/\mm=[(6,Blk.row 33 66 bZ.zero),(13,Blk.row 31 33 (eA ((fj (l.take i):Nat):Int)))],l.length,⟨_,_,⟨0,rfl,Nat.zero_le _,rfl,rfl⟩,⟨rfl,rfl,rfl,rfl,ri es,rfl,trivial⟩,⟨rfl,bE (by rw [List.take_zero];rfl),trivial⟩,rfl⟩,?_⟩
 rintro q f mm ⟨i,rfl,hi,rfl,rfl⟩
 refine ⟨_,fun w _=>az Tryz.underlying9 w,fun h1=>?_,fun h1=>?_⟩
 ·have h1:i < l.length:=by have:=af h1;omega
  have hx:=bL (E:=(eF Tryz.prog tt Tryz.f283.ntmps w [2,4,7,16,27]).toEnv) Tryz.underlying9 (k:=.i64) i rfl h1
  obtain ⟨d1,d2⟩:=dig i h1
  have dv:=Cg h1
  have hvi:=hv i
  generalize (l.getD i 0).toNat=c at *
  have ec:IntKind.i64.wrap (IntKind.u8.wrap ((c:Int) - 48))=((c - 48:Nat):Int):=by rw [jr,show ((c:Int) - 48) % 256=((c - 48:Nat):Int) by omega,i64_in (by omega)]
  have hfc:=dE ((c - 48:Nat):Int) (by omega) (by omega)
  rw [<- ec] at hfc
  have hadd:=AR (aJ (z:=((fj (l.take i)*10:Nat):Int)) (by omega)) (aJ (z:=((c - 48:Nat):Int)) (by omega))
  rw [show ((fj (l.take i)*10:Nat):Int)+((c - 48:Nat):Int)=((fj (l.take (i+1)):Nat):Int) by rw [dv];omega,eD,if_pos (by have:=hv (i+1);omega)] at hadd
  rw [<- ec] at hadd
  exact .inl ⟨_,ten,.inl ⟨_,key i h1,ao _,by kernel_rfl,_,hx,.inl ⟨_,hfc,.inl ⟨_,hadd,ao _,by kernel_rfl,l.length - (i+1),_,_,by omega,⟨i+1,rfl,by omega,rfl,rfl⟩,⟨rfl,rfl,rfl,rfl,rfl,am (by rw [i64_in (by omega)];rfl),trivial⟩,⟨rfl,rfl,trivial⟩,rfl⟩⟩⟩⟩
 ·have h1:i=l.length:=by have:=ag h1;omega
  subst h1
  rw [List.take_length]
  have iD:=aJ (z:=((fj l:Nat):Int)) (by omega)
  refine ⟨fun f1 m1=>((neg && decide (fj l=0))=false)/\f1=[(6,SV.ptr 6 0),(12,SV.c (.int .i64 k)),(13,SV.ptr 13 0)]/\m1=[(6,Blk.row 33 66 bZ.zero),(13,Blk.row 31 33 (eA (zN neg (fj l))))],⟨fun h2=>.inl ⟨_,gD iD,fun h3=>⟨bZ.zero,rfl,fit0,?_,trivial⟩,fun h3=>.inl ⟨_,zO iD,ao _,_,_,⟨?_,rfl,rfl⟩,⟨rfl,rfl,rfl,trivial⟩,⟨rfl,bE ?_,trivial⟩,rfl⟩⟩,fun h2=>⟨_,_,⟨?_,rfl,rfl⟩,⟨rfl,rfl,rfl,trivial⟩,⟨rfl,bE ?_,trivial⟩,rfl⟩⟩,?_⟩
  ·have h2:neg=true:=h2
   rw [cR] at h3
   have h3:((fj l:Nat):Int)=0:=af h3
   rw [h2,decide_eq_true (show fj l=0 by omega),Bool.true_and,if_pos rfl];rfl
  ·rw [cR] at h3
   have h3:¬ ((fj l:Nat):Int)=0:=ag h3
   rw [decide_eq_false (show ¬ fj l=0 by omega),Bool.and_false]
  ·have h2:neg=true:=h2
   rw [h2];rfl
  ·have h2:neg=false:=h2
   rw [h2,Bool.false_and]
  ·have h2:neg=false:=h2
   rw [h2];rfl
  rintro f1 m1 ⟨hz,rfl,rfl⟩
  rw [hz,if_neg Bool.false_ne_true]
  have hpk:=oJ (show k<=18 by omega)
  rw [GN] at hpk
  have hmk:=ol (aJ (z:=zN neg (fj l)) (by rw [bD];omega)) (aJ (z:=((tp k:Nat):Int)) (dP (by omega) (by omega)))
  exact .inl ⟨_,zH (by omega),_,ve rfl (.of _ _),.inl ⟨_,hmk,RQ.A_fits _,by kernel_rfl,RQ.A_fits _,rfl,trivial⟩⟩
theorem Bn:∀ (N:Nat),N≠0->∃ l b,eS N=l++[b]/\b≠48:=by
 intro N
 induction N using Nat.strongRecOn with
 | _ N ih =>
  intro h
  rw [gt h]
  by_cases h2:N / 10=0
  ·rw [h2,fL]
   refine ⟨[],_,rfl,?_⟩
   intro e
   have:=congrArg UInt8.toNat e
   rw [kL] at this
   have h48:(48:UInt8).toNat=48:=rfl
   omega
  ·obtain ⟨l,b,e,hb⟩:=ih (N / 10) (by omega) h2
   exact ⟨_ :: l,b,by rw [e];rfl,hb⟩
theorem sF {N:Nat} (h:N≠0):(bu N).getD 0 0≠48:=by
 obtain ⟨l,b,e,hb⟩:=Bn N h
 unfold bu
 rw [if_neg h,e]
 simpa using hb
theorem uO (c:UInt8) (l:List UInt8):∃ m,l=dc c l++List.replicate m c:=by
 unfold dc
 refine ⟨(l.reverse.takeWhile (· == c)).length,?_⟩
 have h:l.reverse=l.reverse.takeWhile (· == c)++l.reverse.dropWhile (· == c):=(List.takeWhile_append_dropWhile).symm
 have h2:l.reverse.takeWhile (· == c)=List.replicate (l.reverse.takeWhile (· == c)).length c:=by
  rw [List.eq_replicate_iff]
  refine ⟨rfl,fun b hb=>?_⟩
  have:=List.all_takeWhile (p:=(· == c)) (l:=l.reverse)
  rw [List.all_eq_true] at this
  simpa using this b hb
 have h3:=congrArg List.reverse h
 rw [List.reverse_reverse,List.reverse_append] at h3
 conv=>lhs;rw [h3]
 congr 1
 rw [h2,List.reverse_replicate,List.length_replicate]
theorem xC {c:UInt8} {l:List UInt8} (h:dc c l≠[]):∃ a b,dc c l=a++[b]/\b≠c:=by
 unfold dc at *
 cases hd:l.reverse.dropWhile (· == c) with
 | nil=>rw [hd] at h;exact absurd rfl h
 | cons b r =>
  refine ⟨r.reverse,b,by simp,?_⟩
  have:=List.head_dropWhile_not (p:=(· == c)) (l:=l.reverse) (by rw [hd];simp)
  simp only [hd,List.head_cons] at this
  simpa using this
theorem sP:∀ {l:List UInt8},(∀ b∈l,isD b=true)->fj l=0->∀ b∈l,b=48:=by
 have aux:∀ (l:List UInt8) (a:Nat),(∀ b∈l,isD b=true)->l.foldl (fun a b=>a*10+(b.toNat - 48)) a=0->a=0/\∀ b∈l,b=48:=by
  intro l
  induction l with
  | nil=>intro a _ h;exact ⟨h,by simp⟩
  | cons b r ih =>
   intro a hd h
   rw [List.foldl_cons] at h
   obtain ⟨h1,h2⟩:=ih _ (fun x hx=>hd x (by simp [hx])) h
   have h3:=hd b (by simp)
   unfold isD at h3
   simp only [Bool.and_eq_true,decide_eq_true_eq] at h3
   refine ⟨by omega,fun x hx=>?_⟩
   rcases List.mem_cons.1 hx with rfl | hx
   ·apply UInt8.toNat_inj.1
    have h48:(48:UInt8).toNat=48:=rfl
    omega
   ·exact h2 x hx
 intro l hd h
 exact (aux l 0 hd h).2
theorem EJ {b:UInt8} (h:48<=b.toNat/\b.toNat<=57):isD b=true:=by
 unfold isD;rw [decide_eq_true h.1,decide_eq_true h.2];rfl
theorem qh (k N:Nat):∀ b∈ce k (bu N),isD b=true:=by
 intro b hb
 unfold ce at hb
 split at hb
 ·rcases List.mem_append.1 hb with h | h
  ·rw [List.mem_replicate] at h;rw [h.2];rfl
  ·exact EJ (qQ b h)
 ·exact EJ (qQ b hb)
theorem Bt {k N:Nat} (h:∀ b∈ce k (bu N),b=48):N=0:=by
 refine Decidable.of_not_not fun hN=>?_
 have h1:=sF hN
 have h2:=qP N
 apply h1
 rw [List.getD_eq_getElem?_getD,List.getElem?_eq_getElem h2]
 apply h
 unfold ce
 have:=List.getElem_mem h2
 split
 ·exact List.mem_append_right _ this
 ·exact this
def txt (z:Int) (k:Nat):List UInt8 :=
 (if z < 0 then [45] else [])++((ce k (bu z.natAbs)).take ((ce k (bu z.natAbs)).length - k)++(if dc 48 ((ce k (bu z.natAbs)).drop ((ce k (bu z.natAbs)).length - k))=[] then [] else 46 :: dc 48 ((ce k (bu z.natAbs)).drop ((ce k (bu z.natAbs)).length - k))))
theorem GL (z:Int) (k:Nat):uN z k=if 15 < (ce k (bu z.natAbs)).length - k then ([],32) else (txt z k,0):=by
 unfold uN txt
 dsimp only
 split
 ·rfl
 ·rw [List.append_assoc]
theorem DK (z:Int) (k:Nat):(vu (txt z k) k true).2=!decide (15 < (ce k (bu z.natAbs)).length - k):=by
 have hdg:=qh k z.natAbs
 have hz:=Bt (k:=k) (N:=z.natAbs)
 have hpl:=kf k (bu z.natAbs)
 have hhead:1 < (ce k (bu z.natAbs)).length - k->(ce k (bu z.natAbs)).getD 0 0≠48:=by
  intro h
  unfold ce at h ⊢
  split at h
  ·rename_i hc
   simp only [List.length_append,List.length_replicate] at h;omega
  ·rename_i hc
   rw [if_neg hc]
   apply sF
   intro e
   rw [e] at h
   simp [bu] at h
   omega
 unfold txt
 generalize ce k (bu z.natAbs)=s at *
 obtain ⟨n,hn⟩:∃ n,s.length - k=n:=⟨_,rfl⟩
 rw [hn] at hhead ⊢
 have hn0:0 < n:=by omega
 have hwl:(s.take n).length=n:=by simp;omega
 have hdl:(s.drop n).length=k:=by simp;omega
 have hsplit:s=s.take n++s.drop n:=(List.take_append_drop n s).symm
 have hwd:∀ b∈s.take n,isD b=true:=fun b hb=>hdg b (List.mem_of_mem_take hb)
 have hdd:∀ b∈s.drop n,isD b=true:=fun b hb=>hdg b (List.mem_of_mem_drop hb)
 have hw0:(s.take n).getD 0 0=s.getD 0 0:=by
  rw [List.getD_eq_getElem?_getD,List.getD_eq_getElem?_getD,List.getElem?_take,if_pos hn0]
 rw [<- hw0] at hhead
 rw [hsplit] at hz
 clear hsplit hw0 hdg hpl hn
 generalize s.take n=wh at *
 generalize s.drop n=d at *
 clear s
 obtain ⟨m,hm⟩:=uO 48 d
 have hdone:=xC (c:=48) (l:=d)
 generalize dc 48 d=p at *
 have hpd:∀ b∈p,isD b=true:=fun b hb=>hdd b (by rw [hm];exact List.mem_append_left _ hb)
 have hpk:p.length<=k:=by rw [<- hdl,hm];simp
 have hz2:(∀ b∈wh++p,b=48)->z.natAbs=0:=fun h=>hz fun b hb=>by
  rcases List.mem_append.1 hb with hb | hb
  ·exact h b (List.mem_append_left _ hb)
  ·rw [hm] at hb
   rcases List.mem_append.1 hb with hb | hb
   ·exact h b (List.mem_append_right _ hb)
   ·rw [List.mem_replicate] at hb;exact hb.2
 -- the part without the sign
 have hcore:∀ neg:Bool,(neg=true->z < 0)->(rB neg (wh++(if p=[] then [] else 46 :: p)) k).2=!decide (15 < n):=by
  intro neg hneg
  have hdig:b9 (wh++(if p=[] then [] else 46 :: p))=n:=by
   rw [Fu hwd,hwl]
   split
   ·rfl
   ·rfl
  unfold rB
  rw [hdig]
  have hgo:(¬ (n=0\/n > 15\/(n > 1/\(wh++(if p=[] then [] else 46 :: p)).getD 0 0=48)))↔¬ 15 < n:=by
   constructor
   ·intro h h2;exact h (.inr (.inl h2))
   ·rintro h (h2 | h2 | h2)
    ·omega
    ·exact h h2
    ·refine hhead h2.1 ?_
     have h3:=h2.2
     rw [List.getD_eq_getElem?_getD,List.getElem?_append_left (by omega),<- List.getD_eq_getElem?_getD] at h3
     exact h3
  by_cases h15:15 < n
  ·rw [if_pos (Decidable.of_not_not fun h=>(hgo.1 h) h15),decide_eq_true h15];rfl
  ·rw [if_neg (hgo.2 h15),decide_eq_false h15]
   have e1:(wh++(if p=[] then [] else 46 :: p)).take n=wh:=by rw [List.take_append_of_le_length (by omega),<- hwl,List.take_length]
   have e2:(wh++(if p=[] then [] else 46 :: p)).drop n=(if p=[] then [] else 46 :: p):=by rw [<- hwl,List.drop_left]
   rw [e1,e2]
   by_cases hp:p=[]
   ·rw [if_pos hp]
    subst hp
    show (xP wh 0 neg).2=true
    unfold xP
    by_cases hd0:(neg && decide (fj wh=0))=true
    ·exfalso
     simp only [Bool.and_eq_true,decide_eq_true_eq] at hd0
     have:=hz2 (by simpa using sP hwd hd0.2)
     have:=hneg hd0.1
     omega
    ·rw [if_neg hd0]
   ·rw [if_neg hp]
    have hda:=Fv hpd
    have hpl:p.length≠0:=fun h=>hp (List.length_eq_zero_iff.1 h)
    show (qd neg wh (46 :: p) k).2=true
    unfold qd
    simp only [if_true]
    rw [hda,if_neg (by omega)]
    unfold xP
    by_cases hd0:(neg && decide (fj (wh++p)=0))=true
    ·exfalso
     simp only [Bool.and_eq_true,decide_eq_true_eq] at hd0
     have:=hz2 (sP (fun b hb=>by
      rcases List.mem_append.1 hb with hb | hb
      ·exact hwd b hb
      ·exact hpd b hb) hd0.2)
     have:=hneg hd0.1
     omega
    ·rw [if_neg hd0]
 by_cases hzn:z < 0
 ·rw [if_pos hzn]
  unfold vu
  have:fu ([45]++(wh++(if p=[] then [] else 46 :: p))) true=true:=by
   unfold fu;simp
  rw [this,if_pos rfl]
  exact hcore true fun _=>hzn
 ·rw [if_neg hzn,List.nil_append]
  unfold vu
  have:fu (wh++(if p=[] then [] else 46 :: p)) true=false:=by
   unfold fu
   have h1:(wh++(if p=[] then [] else 46 :: p)).getD 0 0=wh.getD 0 0:=by
    rw [List.getD_eq_getElem?_getD,List.getElem?_append_left (by omega),<- List.getD_eq_getElem?_getD]
   rw [h1]
   have h2:wh.getD 0 0≠45:=by
    intro e
    have:=hwd (wh.getD 0 0) (by rw [List.getD_eq_getElem?_getD,List.getElem?_eq_getElem (by omega)];exact List.getElem_mem _)
    rw [e] at this
    exact absurd this (by decide)
   rw [decide_eq_false h2,Bool.and_false,Bool.and_false]
  rw [this,if_neg Bool.false_ne_true]
  exact hcore false fun h=>by cases h
theorem AT (z:Int) {k:Nat} (hk:0 < k):∃ pre d:List UInt8,wrt z k=pre++(46 :: d)/\txt z k=pre++(if dc 48 d=[] then [] else 46 :: dc 48 d)/\(∀ b∈d,isD b=true):=by
 unfold wrt txt
 have hdg:=qh k z.natAbs
 generalize ce k (bu z.natAbs)=s at *
 refine ⟨(if z < 0 then [45] else [])++s.take (s.length - k),s.drop (s.length - k),?_,?_,fun b hb=>hdg b (List.mem_of_mem_drop hb)⟩
 ·rw [if_pos hk,List.append_assoc]
 ·rw [List.append_assoc]
theorem CO (z:Int):wrt z 0=txt z 0/\∃ l b,wrt z 0=l++[b]/\isD b=true:=by
 unfold wrt txt
 have hdg:=qh 0 z.natAbs
 have hpl:=kf 0 (bu z.natAbs)
 generalize ce 0 (bu z.natAbs)=s at *
 have e:dc 48 (s.drop (s.length - 0))=[]:=by
  rw [Nat.sub_zero,List.drop_length];rfl
 rw [e,if_neg (Nat.lt_irrefl 0),if_pos (rfl:([]:List UInt8)=[]),List.append_nil,Nat.sub_zero,List.take_length]
 refine ⟨rfl,(if z < 0 then [45] else [])++s.take (s.length - 1),s.getD (s.length - 1) 0,?_,?_⟩
 ·rw [List.append_assoc,<- pj hpl]
 ·refine hdg _ ?_
  rw [List.getD_eq_getElem?_getD,List.getElem?_eq_getElem (by omega)]
  exact List.getElem_mem _
theorem GD (z:Int) (hz:z.natAbs < BB ^ 32) {k:Nat} (hk:k<=9):(wrt z k).length<=2000:=by
 have hl:(bu z.natAbs).length<=309:=ni (k:=yB) (by decide) (Nat.lt_of_lt_of_le hz uC)
 have h2:(ce k (bu z.natAbs)).length<=1000:=by
  unfold ce;split
  ·simp only [List.length_append,List.length_replicate];omega
  ·omega
 unfold wrt
 generalize ce k (bu z.natAbs)=s at *
 obtain ⟨sg,hsg⟩:∃ sg:List UInt8,(if z < 0 then [45] else [])=sg:=⟨_,rfl⟩
 have h3:sg.length<=1:=by rw [<- hsg];split<;>simp
 rw [hsg]
 split
 ·simp only [List.length_append,List.length_take,List.length_drop,List.length_cons];omega
 ·simp only [List.length_append];omega
theorem kG (l:List UInt8) (b:UInt8):(l++[b]).getD ((l++[b]).length - 1) 0=b:=by
 rw [List.getD_eq_getElem?_getD,List.length_append,List.length_singleton,Nat.add_sub_cancel,List.getElem?_append_right (Nat.le_refl _)]
 simp
theorem rU (l:List UInt8) (b:UInt8):(l++[b]).take ((l++[b]).length - 1)=l:=by
 rw [List.length_append,List.length_singleton,Nat.add_sub_cancel,List.take_left]
theorem Di {r:RQ} (hr:r.In) (n:Int):aw Tryz.prog 238 [SV.c (.agg r.A),SV.c (.int .i64 n)] (G6 (fp r n)):=by
 refine dz [8,10] ai ak NU _ _ rfl rfl fun w=>?_
 have he:=H2 hr n
 rcases Decidable.em (r.ok=true) with hk | hk
 case inr =>
  have hk:r.ok=false:=by simpa using hk
  rw [wC,hk,Bool.not_false,if_pos rfl] at he
  refine ⟨r.A_size,.inl ⟨_,he,fun _=>⟨?_,trivial⟩,nofun⟩⟩
  rw [fp,hk,Bool.not_false,if_pos rfl];rfl
 rcases Decidable.em (n < 0\/n > 9) with hn | hn
 ·rw [wC,hk,Bool.not_true,if_neg Bool.false_ne_true,if_pos hn] at he
  refine ⟨r.A_size,.inl ⟨_,he,fun _=>⟨?_,trivial⟩,nofun⟩⟩
  rw [fp,hk,Bool.not_true,if_neg Bool.false_ne_true,if_pos hn];rfl
 rw [wC,hk,Bool.not_true,if_neg Bool.false_ne_true,if_neg hn] at he
 obtain ⟨k,rfl⟩:∃ k:Nat,n=k:=⟨n.toNat,by omega⟩
 have hk9:k<=9:=by omega
 have hrd:=zx hr k 1
 rw [gS,hk,Bool.not_true,if_neg Bool.false_ne_true,if_neg hn,if_neg (by omega)] at hrd
 have hlt:=zy hk hk9 1
 rw [Int.toNat_natCast] at he hrd
 rw [fp,hk,Bool.not_true,if_neg Bool.false_ne_true,if_neg hn,Int.toNat_natCast]
 have hgoal:(if r.p*((tp k:Nat):Int) % r.q≠0 then (([],32):List UInt8×Int) else uN (r.p*((tp k:Nat):Int) / r.q) k)=if decide (r.p*((tp k:Nat):Int) % r.q=0)=true/\¬ 15 < (ce k (bu (rA 1 (r.p*((tp k:Nat):Int)) r.q).natAbs)).length - k then (txt (rA 1 (r.p*((tp k:Nat):Int)) r.q) k,0) else ([],32):=by
  by_cases h0:r.p*((tp k:Nat):Int) % r.q=0
  ·rw [if_neg (by simpa using h0),GL]
   have e:rA 1 (r.p*((tp k:Nat):Int)) r.q=r.p*((tp k:Nat):Int) / r.q:=by unfold rA;rw [if_pos h0]
   rw [e]
   by_cases h15:15 < (ce k (bu (r.p*((tp k:Nat):Int) / r.q).natAbs)).length - k
   ·rw [if_pos h15,if_neg (fun h=>h.2 h15)]
   ·rw [if_neg h15,if_pos ⟨decide_eq_true h0,h15⟩]
  ·rw [if_pos h0,if_neg (fun h=>h0 (af h.1))]
 rw [hgoal]
 generalize rA 1 (r.p*((tp k:Nat):Int)) r.q=v at *
 generalize decide (r.p*((tp k:Nat):Int) % r.q=0)=is at *
 have hwr:=AU (aJ hlt) hk9
 have hwl:=GD v hlt hk9
 have hrd:aw Tryz.prog 202 [SV.c (.agg r.A),SV.c (.int .i64 (k:Nat)),SV.c (.int .i64 1)] (.tuple #[.agg (eA v),.int .i64 0]):=hrd
 refine ⟨r.A_size,.inl ⟨_,he,nofun,fun _=>.inl ⟨_,hrd,ao _,.inl ⟨_,hwr,?_⟩⟩⟩⟩
 refine ⟨fun f1 m1=>∃ (t l:List UInt8) (b:UInt8),t=l++[b]/\t.length<=2000/\txt v k=(if b=46 then l else t)/\f1=[(1,SV.c (.int .i64 k)),(6,SV.c (.bool is)),(10,SV.c (.string (S t)))]/\m1=[],?_,?_⟩
 ·refine ⟨fun q f m=>∃ t:List UInt8,q=t.length/\t.length<=2000/\(k=0->t=wrt v k)/\(0 < k->∀ pre d,wrt v k=pre++(46 :: d)->∃ d2,t=pre++(46 :: d2)/\dc 48 d2=dc 48 d)/\f=[(1,SV.c (.int .i64 k)),(6,SV.c (.bool is)),(10,SV.c (.string (S t)))]/\m=[],(wrt v k).length,⟨[(1,SV.c (.int .i64 k)),(6,SV.c (.bool is)),(10,SV.c (.string (S (wrt v k))))],[],⟨wrt v k,rfl,hwl,fun _=>rfl,fun _ pre d e=>⟨d,e,rfl⟩,rfl,rfl⟩,⟨rfl,rfl,rfl,trivial⟩,trivial,rfl⟩,?_⟩
  rintro q f m ⟨t,rfl,htl,h0,hp,rfl,rfl⟩
  refine ⟨fun h1=>?_,fun h1=>⟨nofun,fun _=>?_⟩⟩
  ·have h1:0 < k:=by have:=af h1;omega
   obtain ⟨pre,d,e1,e2,e3⟩:=AT v h1
   obtain ⟨d2,rfl,htr⟩:=hp h1 pre d e1
   have hlen:0 < (pre++(46 :: d2)).length:=by simp;omega
   have hn1:IntKind.i64.wrap (((pre++(46 :: d2)).length:Int) - 1)=(((pre++(46 :: d2)).length - 1:Nat):Int):=by rw [i64_in (by omega)];omega
   have hx:=bL (E:=(eF Tryz.prog tt Tryz.f238.ntmps w [8,10]).toEnv) Tryz.underlying9 (l:=pre++(46 :: d2)) (k:=.i64) ((pre++(46 :: d2)).length - 1) hn1 (by omega)
   have c48:=uM ((pre++(46 :: d2)).getD ((pre++(46 :: d2)).length - 1) 0) 48
   have h48:(48:UInt8).toNat=48:=rfl
   rw [h48] at c48
   refine ⟨_,fun w _=>az Tryz.underlying9 w,_,hx,fun h2=>?_,fun h2=>?_⟩
   ·have h2:=af (c48.symm.trans h2)
    have hd2:d2≠[]:=by
     intro e
     subst e
     rw [kG] at h2
     exact absurd h2 (by decide)
    obtain ⟨d3,x,rfl⟩:∃ d3 x,d2=d3++[x]:=⟨_,_,pj (List.length_pos_iff.2 hd2)⟩
    have et:pre++(46 :: (d3++[x]))=(pre++(46 :: d3))++[x]:=by simp
    rw [et,kG] at h2
    subst h2
    have hsl:=gR (E:=(eF Tryz.prog tt Tryz.f238.ntmps w [8,10]).toEnv) Tryz.underlying9 (l:=pre++(46 :: (d3++[48]))) (k:=.i64) ((pre++(46 :: (d3++[48]))).length - 1) hn1 (by omega)
    have etk:(pre++(46 :: (d3++[48]))).take ((pre++(46 :: (d3++[48]))).length - 1)=pre++(46 :: d3):=by rw [et,rU]
    rw [etk] at hsl
    refine ⟨_,fun w _=>az Tryz.underlying9 w,_,hsl,(pre++(46 :: d3)).length,_,_,by rw [et];simp,⟨_,rfl,?_,fun e=>absurd e (by omega),fun _ pre' d' e'=>?_,rfl,rfl⟩,⟨rfl,rfl,rfl,trivial⟩,trivial,rfl⟩
    ·rw [et] at htl;simp at htl ⊢;omega
    ·obtain ⟨d4,e4,e5⟩:=hp h1 pre' d' e'
     rw [et] at e4
     have e6:∃ d5,d4=d5++[48]/\pre++(46 :: d3)=pre'++(46 :: d5):=by
      rcases List.eq_nil_or_concat d4 with hd4 | ⟨d5,y,hd4⟩
      ·subst hd4
       exact absurd (List.append_inj' e4 rfl).2 (by decide)
      ·rw [List.concat_eq_append] at hd4
       subst hd4
       rw [show pre'++(46 :: (d5++[y]))=(pre'++(46 :: d5))++[y] by simp] at e4
       obtain ⟨ea,eb⟩:=List.append_inj' e4 rfl
       simp only [List.cons.injEq,and_true] at eb
       exact ⟨d5,by rw [<- eb],ea⟩
     obtain ⟨d5,rfl,e7⟩:=e6
     refine ⟨d5,e7,?_⟩
     rw [js,if_pos rfl] at e5
     exact e5
   ·have h2:=ag (c48.symm.trans h2)
    by_cases hd2:d2=[]
    ·subst hd2
     refine ⟨_,_,⟨pre++[46],pre,46,rfl,htl,?_,rfl,rfl⟩,⟨rfl,rfl,rfl,trivial⟩,trivial,rfl⟩
     rw [if_pos rfl,e2,<- htr]
     show pre++[]=pre
     rw [List.append_nil]
    ·obtain ⟨d3,x,rfl⟩:∃ d3 x,d2=d3++[x]:=⟨_,_,pj (List.length_pos_iff.2 hd2)⟩
     have et:pre++(46 :: (d3++[x]))=(pre++(46 :: d3))++[x]:=by simp
     rw [et,kG] at h2
     rw [js,if_neg h2] at htr
     have hxD:isD x=true:=by
      obtain ⟨mm,hmm⟩:=uO 48 d
      refine e3 x ?_
      rw [hmm,<- htr];simp
     have hx46:x≠46:=by rintro rfl;exact absurd hxD (by decide)
     refine ⟨_,_,⟨pre++(46 :: (d3++[x])),pre++(46 :: d3),x,et,htl,?_,rfl,rfl⟩,⟨rfl,rfl,rfl,trivial⟩,trivial,rfl⟩
     rw [if_neg hx46,e2,<- htr,if_neg hd2]
  ·have h1:k=0:=by have:=ag h1;omega
   subst h1
   obtain ⟨e1,l,b,e2,e3⟩:=CO v
   have ht:=h0 rfl
   have hb46:b≠46:=by rintro rfl;exact absurd e3 (by decide)
   refine ⟨_,_,⟨t,l,b,by rw [ht,e2],htl,?_,rfl,rfl⟩,⟨rfl,rfl,rfl,trivial⟩,trivial,rfl⟩
   rw [if_neg hb46,ht,e1]
 ·rintro f1 m1 ⟨t,l,b,htt,htl,ht,rfl,rfl⟩
  have hlen:t.length=l.length+1:=by rw [htt];simp
  have hn1:IntKind.i64.wrap ((t.length:Int) - 1)=((t.length - 1:Nat):Int):=by rw [i64_in (by omega)];omega
  have hx:=bL (E:=(eF Tryz.prog tt Tryz.f238.ntmps w [8,10]).toEnv) Tryz.underlying9 (l:=t) (k:=.i64) (t.length - 1) hn1 (by omega)
  have hlast:t.getD (t.length - 1) 0=b:=by rw [htt,kG]
  rw [hlast] at hx
  have c46:=uM b 46
  have h46:(46:UInt8).toNat=46:=rfl
  rw [h46] at c46
  have hsl:=gR (E:=(eF Tryz.prog tt Tryz.f238.ntmps w [8,10]).toEnv) Tryz.underlying9 (l:=t) (k:=.i64) (t.length - 1) hn1 (by omega)
  have htk:t.take (t.length - 1)=l:=by rw [htt,rU]
  rw [htk] at hsl
  have htxl:(txt v k).length<=2000:=by rw [ht];split<;>omega
  refine ⟨fun f1 m1=>f1=[(1,SV.c (.int .i64 k)),(6,SV.c (.bool is)),(10,SV.c (.string (S (txt v k))))]/\m1=[],⟨_,fun w _=>az Tryz.underlying9 w,_,hx,fun h1=>⟨_,fun w _=>az Tryz.underlying9 w,_,hsl,_,_,⟨rfl,rfl⟩,⟨rfl,rfl,ri ?_,trivial⟩,trivial,rfl⟩,fun h1=>⟨_,_,⟨rfl,rfl⟩,⟨rfl,rfl,ri ?_,trivial⟩,trivial,rfl⟩⟩,?_⟩
  ·rw [ht,if_pos (af (c46.symm.trans h1))]
  ·rw [ht,if_neg (ag (c46.symm.trans h1))]
  rintro f1 m1 ⟨rfl,rfl⟩
  have hre:=JR (txt v k) (k:Nat) (by omega) true (by omega)
  have hok:=DK v k
  generalize vu (txt v k) (k:Nat) true=x at *
  obtain ⟨rr,okk⟩:=x
  have hre:aw Tryz.prog 283 [SV.c (.string (S (txt v k))),SV.c (.int .i64 (k:Nat)),SV.c (.bool true)] (.tuple #[.agg rr.A,.bool okk]):=hre
  have hok:okk=!decide (15 < (ce k (bu v.natAbs)).length - k):=hok
  refine .inl ⟨_,hre,RQ.A_fits _,fun h1=>⟨fun h2=>⟨?_,trivial⟩,fun h2=>⟨?_,trivial⟩⟩,fun h1=>⟨fun _=>⟨?_,trivial⟩,nofun⟩⟩
  ·have h2:=bnt h2
   rw [hok] at h2
   have h2:=af (bq h2)
   rw [if_neg (fun h=>h.2 h2)];rfl
  ·have h1:is=true:=bq h1
   have h2:=bnf h2
   rw [hok] at h2
   have h2:=ag (bnt h2)
   rw [if_pos ⟨h1,h2⟩];rfl
  ·have h1:is=false:=bnt h1
   rw [h1,if_neg (fun h=>Bool.false_ne_true h.1)];rfl
theorem fg (x:Nat):aw Tryz.prog 129 [SV.c (.int .u8 (x:Nat))] (.bool (decide (65<=x) && decide (x<=90))):=by
 refine aj ai ak PG _ _ rfl rfl fun w=>?_
 refine ⟨fun h=>⟨bv ?_,trivial⟩,fun h=>⟨bv ?_,trivial⟩⟩
 ·have h:=af h
  rw [decide_eq_true (by omega:65<=x),Bool.true_and,Bool.eq_iff_iff];simp only [decide_eq_true_eq];omega
 ·have h:=ag h
  rw [decide_eq_false (by omega:¬ 65<=x),Bool.false_and]
theorem qk (n:Int):aw Tryz.prog 60 [SV.c (.int .i64 n)] (.bool (decide (n < 0) || decide (n > 73048))):=by
 refine aj ai ak Rw _ _ rfl rfl fun w=>?_
 refine ⟨fun h=>⟨bv ?_,trivial⟩,fun h=>⟨bv ?_,trivial⟩⟩
 ·rw [show decide (n < 0)=false from h,Bool.false_or]
 ·rw [show decide (n < 0)=true from h,Bool.true_or]
def eZ (l:List UInt8) (j:Nat):Bool:=decide (65<=(l.getD j 0).toNat) && decide ((l.getD j 0).toNat<=90)
theorem jN (l:List UInt8) (j:Nat):cm false l j=eZ l j:=by
 unfold cm eZ;simp
theorem Cw (l:List UInt8):cm true l 0=eZ l 0:=by
 unfold cm eZ;simp
theorem wO (l:List UInt8):aD l=(decide ((l.length:Int)=3) && (eZ l 0 && (eZ l 1 && eZ l 2))):=by
 unfold aD
 by_cases h:l.length=3
 ·rw [decide_eq_true (by omega:(l.length:Int)=3),decide_eq_true (by omega:(3:Int)<=l.length),decide_eq_true (by omega:(l.length:Int)<=3)]
  simp only [Bool.and_true,Bool.true_and]
  by_cases h0:eZ l 0=true
  ·by_cases h1:eZ l 1=true
   ·by_cases h2:eZ l 2=true
    ·rw [h0,h1,h2]
     apply fh
     intro j hj
     rw [jN]
     obtain rfl | rfl | rfl:j=0\/j=1\/j=2:=by omega
     ·exact h0
     ·exact h1
     ·exact h2
    ·have h2:eZ l 2=false:=by simpa using h2
     rw [h2,Bool.and_false,Bool.and_false]
     exact cV (j:=2) (by omega) (by rw [jN];exact h2)
   ·have h1:eZ l 1=false:=by simpa using h1
    rw [h1,Bool.false_and,Bool.and_false]
    exact cV (j:=1) (by omega) (by rw [jN];exact h1)
  ·have h0:eZ l 0=false:=by simpa using h0
   rw [h0,Bool.false_and]
   exact cV (j:=0) (by omega) (by rw [jN];exact h0)
 ·rw [decide_eq_false (by omega:¬ (l.length:Int)=3),Bool.false_and]
  by_cases h3:(3:Int)<=l.length
  ·rw [decide_eq_false (by omega:¬ (l.length:Int)<=3),Bool.and_false,Bool.and_false]
  ·rw [decide_eq_false h3,Bool.false_and,Bool.and_false]
theorem FK (l:List UInt8) (_hl:l.length<=9223372036854775807):aw Tryz.prog 59 [SV.c (.string (S l))] (.bool (aD l)):=by
 refine aj ai ak MN _ _ rfl rfl fun w=>?_
 have hx:∀ i:Nat,i < l.length->bB ((eF Tryz.prog tt Tryz.f59.ntmps w).toEnv) (Instr.index 9 (.string (S l)) (.int .i64 (i:Int))) (.int .u8 ((l.getD i 0).toNat:Nat)):=fun i h=>bL Tryz.underlying9 i rfl h
 rw [wO]
 refine ⟨_,fun w _=>az Tryz.underlying9 w,fun h=>?_,fun h=>?_⟩
 ·have h:((l.length:Int) == 3)=true:=h
  have h:(l.length:Int)=3:=by simpa using h
  rw [decide_eq_true h,Bool.true_and]
  refine ⟨_,hx 0 (by omega),.inl ⟨_,fg _,fun h0=>⟨_,hx 1 (by omega),.inl ⟨_,fg _,fun h1=>⟨_,hx 2 (by omega),.inl ⟨_,fg _,bv ?_,trivial⟩⟩,fun h1=>⟨bv ?_,trivial⟩⟩⟩,fun h0=>⟨nofun,fun _=>⟨bv ?_,trivial⟩⟩⟩⟩
  ·rw [show eZ l 0=true from h0,show eZ l 1=true from h1];rfl
  ·rw [show eZ l 0=true from h0,show eZ l 1=false from h1];rfl
  ·rw [show eZ l 0=false from h0];rfl
 ·have h:((l.length:Int) == 3)=false:=h
  have h:¬ (l.length:Int)=3:=by simpa using h
  rw [decide_eq_false h,Bool.false_and]
  refine ⟨nofun,fun _=>⟨nofun,fun _=>⟨rfl,trivial⟩⟩⟩
theorem nA (l:List UInt8) (j:Nat):cm true l j=(eZ l j || (!decide (j=0) && decide (48<=(l.getD j 0).toNat) && decide ((l.getD j 0).toNat<=57))):=by
 unfold cm eZ;rw [Bool.true_and]
theorem tK (l:List UInt8) (hl:l.length<=9223372036854775807):aw Tryz.prog 130 [SV.c (.string (S l))] (.bool (bM l)):=by
 refine aj ai ak PD _ _ rfl rfl fun w=>?_
 have hx:∀ i:Nat,i < l.length->bB ((eF Tryz.prog tt Tryz.f130.ntmps w).toEnv) (Instr.index 9 (.string (S l)) (.int .i64 (i:Int))) (.int .u8 ((l.getD i 0).toNat:Nat)):=fun i h=>bL Tryz.underlying9 i rfl h
 have hlen:∀ (w:World),(builtin .len #[9] 3 #[false] #[.string (S l)]).run Tryz.prog w=.ok (.value (.int .i64 (l.length:Nat))) w:=fun w=>az Tryz.underlying9 w
 have stop:∀ j,j < l.length->cm true l j=false->bM l=false:=fun j hj e=>by rw [bM,cV hj e];rfl
 refine ⟨_,fun w _=>az Tryz.underlying9 w,fun h1=>⟨_,fun w _=>az Tryz.underlying9 w,fun h2=>⟨_,hx 0 ?_,.inl ⟨_,fg _,fun h3=>⟨bv ?_,trivial⟩,fun h3=>?_⟩⟩,fun h2=>⟨fun _=>⟨bv ?_,trivial⟩,nofun⟩⟩,fun h1=>⟨nofun,fun _=>⟨fun _=>⟨bv ?_,trivial⟩,nofun⟩⟩⟩
 ·have h1:decide ((l.length:Int) < 1)=false:=h1
  have h1:=ag h1
  omega
 ·have h3:eZ l 0=false:=bnt h3
  have h1:decide ((l.length:Int) < 1)=false:=h1
  have h1:=ag h1
  rw [stop 0 (by omega) (by rw [Cw];exact h3)]
 ·have h1:decide ((l.length:Int) < 1)=false:=h1
  have h1:=ag h1
  have h2:decide ((l.length:Int) > 12)=false:=h2
  have h2:=ag h2
  have h3:eZ l 0=true:=bq h3
  refine ⟨fun q f m=>∃ i:Nat,q=l.length - i/\i<=l.length/\(∀ j,j < i->cm true l j=true)/\f=[(0,SV.c (.string (S l))),(3,SV.c (.int .i64 i))]/\m=[],l.length,⟨_,_,⟨0,rfl,Nat.zero_le _,fun j hj=>absurd hj (by omega),rfl,rfl⟩,⟨rfl,rfl,trivial⟩,trivial,rfl⟩,?_⟩
  rintro q f m ⟨i,rfl,hi1,hall,rfl,rfl⟩
  refine ⟨_,fun w _=>az Tryz.underlying9 w,fun h=>?_,fun h=>?_⟩
  ·have h:i < l.length:=by have:=af h;omega
   have hnext:cm true l i=true->∀ j,j < i+1->cm true l j=true:=fun e j hj=>by
    by_cases e2:j=i
    ·rw [e2];exact e
    ·exact hall j (by omega)
   refine ⟨_,hx i h,.inl ⟨_,fg _,fun h4=>⟨_,hx i h,fun h5=>⟨_,hx i h,fun h6=>⟨bv ?_,trivial⟩,fun h6=>?_⟩,fun h5=>⟨fun _=>⟨bv ?_,trivial⟩,nofun⟩⟩,fun h4=>⟨nofun,fun _=>?_⟩⟩⟩
   ·have h4:eZ l i=false:=bnt h4
    have h6:=af h6
    rw [stop i h]
    rw [nA,h4,decide_eq_false (by omega:¬ (l.getD i 0).toNat<=57),Bool.and_false,Bool.or_false]
   ·have h4:eZ l i=false:=bnt h4
    have h5:=ag h5
    have h6:=ag h6
    have hi0:¬ i=0:=by intro e;rw [e,h3] at h4;cases h4
    exact ⟨l.length - (i+1),_,_,by omega,⟨i+1,rfl,by omega,hnext (by rw [nA,h4,decide_eq_false hi0,decide_eq_true (by omega:48<=(l.getD i 0).toNat),decide_eq_true (by omega:(l.getD i 0).toNat<=57)];rfl),rfl,rfl⟩,⟨rfl,am (by rw [i64_in (by omega)];rfl),trivial⟩,trivial,rfl⟩
   ·have h4:eZ l i=false:=bnt h4
    have h5:=af h5
    rw [stop i h]
    rw [nA,h4,decide_eq_false (by omega:¬ 48<=(l.getD i 0).toNat),Bool.and_false,Bool.false_and,Bool.or_false]
   ·have h4:eZ l i=true:=bq h4
    exact ⟨l.length - (i+1),_,_,by omega,⟨i+1,rfl,by omega,hnext (by rw [nA,h4,Bool.true_or]),rfl,rfl⟩,⟨rfl,am (by rw [i64_in (by omega)];rfl),trivial⟩,trivial,rfl⟩
  ·have h:i=l.length:=by have:=ag h;omega
   subst h
   refine ⟨bv ?_,trivial⟩
   rw [bM,fh hall,decide_eq_true (by omega:1<=l.length),decide_eq_true (by omega:l.length<=12)];rfl
 ·have h2:decide ((l.length:Int) > 12)=true:=h2
  have h2:=af h2
  rw [bM,decide_eq_false (by omega:¬ l.length<=12),Bool.and_false,Bool.and_false]
 ·have h1:decide ((l.length:Int) < 1)=true:=h1
  have h1:=af h1
  rw [bM,decide_eq_false (by omega:¬ 1<=l.length),Bool.false_and,Bool.and_false]
theorem Gf {r:RQ}:((fp r 6).2 == 0 && cZ r 0 1000000000)=de r:=by
 unfold de cZ
 by_cases hk:r.ok=true
 ·rw [hk]
  simp only [Bool.true_and,Int.zero_mul]
  by_cases h0:0<=r.p
  ·by_cases h1:r.p<=1000000000*r.q
   ·rw [zJ hk h0 h1]
    by_cases h:r.p*1000000 % r.q=0
    ·rw [if_pos h];simp [h]
    ·rw [if_neg h];simp [h]
   ·simp [h1]
  ·simp [h0]
 ·have hk:r.ok=false:=by simpa using hk
  rw [zm hk,hk];rfl
theorem Hb {r:RQ} (hr:r.In):aw Tryz.prog 193 [SV.c (.agg r.A)] (.bool (de r)):=by
 refine aj ai ak OC _ _ rfl rfl fun w=>?_
 rw [<- Gf]
 refine ⟨r.A_size,.inl ⟨_,Di hr 6,fun h=>.inl ⟨_,jo hr (by decide) (by decide) (by decide) (by decide),bv ?_,trivial⟩,fun h=>⟨bv ?_,trivial⟩⟩⟩
 ·rw [show ((fp r 6).2 == 0)=true from h,Bool.true_and]
 ·rw [show ((fp r 6).2 == 0)=false from h,Bool.false_and]
theorem Hm:(RQ.of 0 1).In:=⟨dP (n:=0) (by omega) (by omega),dP (n:=1) (by omega) (by omega)⟩
theorem Ea {r:RQ} (h:de r=true):(!r.beq (.of 0 1))=decide (sgn r.p > 0):=by
 unfold de at h
 simp only [Bool.and_eq_true,decide_eq_true_eq] at h
 obtain ⟨hk,-,h0,-⟩:=h
 obtain ⟨-,-,k3,k4,k5⟩:=RQ.ok_bits hk
 by_cases hp:r.p=0
 ·rw [hp] at k4
  have:r.q=1:=by rw [Int.gcd_zero_left] at k4;omega
  rw [hp,this] at k5
  rw [(RQ.beq_iff _ _).mpr k5,hp];rfl
 ·have:r.beq (.of 0 1)=false:=by
    cases e:r.beq (.of 0 1) with
    | false=>rfl
    | true=>exact absurd (by rw [(RQ.beq_iff _ _).mp e,RQ.of_p]) hp
  rw [this]
  have:sgn r.p > 0:=by
   unfold sgn
   repeat' split
   all_goals omega
  rw [decide_eq_true this];rfl
def EF.beq (x y:EF):Bool:=decide (x.ins=y.ins) && ((x.qty == y.qty) && ((x.cash == y.cash) && true))
theorem EF.beq_self (x:EF):x.beq x=true:=by simp [EF.beq]
theorem RQ.beq_self (r:RQ):r.beq r=true:=(r.beq_iff r).mpr rfl
theorem tY {n d:Int} (h1 : -9223372036854775808<=n) (h2:n<=9223372036854775807) (h3 : -9223372036854775808<=d) (h4:d<=9223372036854775807):aw Tryz.prog 23 [SV.c (.int .i64 n),SV.c (.int .i64 d)] (.agg (mkQ n d).1.A):=by
 refine aj ai ak R7 _ _ rfl rfl fun w=>?_
 exact .inl ⟨_,Mj h1 h2 h3 h4,RQ.A_fits _,RQ.A_fits _,rfl,trivial⟩
end Go.Proofs.YtklehfchdoikeaaGreatDoor
