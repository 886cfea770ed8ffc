/- walks: the reference, texts of whole numbers. walks: the reference, decimals read and written. walks: the reference, the text of a pair. walks: a corporate action, the reference; no condition. -/
import Derived.Test.YtkaakbpeegpnkaaGreatDoorP17
set_option maxRecDepth 100000
set_option maxHeartbeats 4000000
namespace Go.Proofs.YtkaakbpeegpnkaaGreatDoor
open Go Go.RowKit Go.SX
theorem runs_sub {E:Env} {t:TypeId} (hu:E.P.underlying t=some .string) {l:List UInt8} {k k':IntKind} {x y:Int} (a b:Nat) (hx:x=a) (hy:y=b) (hab:a≤b) (hb:b≤l.length):Runs E (Instr.sliceAt t (.string (S l)) (some (.int k x)) (some (.int k' y)) none) (.string (S ((l.take b).drop a))):=fun w _=>by
 subst hx;subst hy
 have h:=run_slice_string (P:=E.P) w t (S l) k k' a b hu (by omega) (by omega) (by rw [S_size];omega)
 simp only [Instr.sliceAt,Sem.run_bind,run_underlying hu,Result.andThen_ok]
 rw [h,S_ext]
 simp
def ten:List UInt8:=[48,49,50,51,52,53,54,55,56,57]
theorem ten_at {r:Nat} (h:r < 10):(ten.take (r+1)).drop r=[UInt8.ofNat (48+r)]:=by
 obtain rfl | rfl | rfl | rfl | rfl | rfl | rfl | rfl | rfl | rfl:r=0∨r=1∨r=2∨r=3∨r=4∨r=5∨r=6∨r=7∨r=8∨r=9:=by omega
 all_goals rfl
theorem eA_mag (M:Nat):(eA (M:Int)).extract 1 33=mA M:=by
 unfold eA;rw [Int.natAbs_natCast];exact iA_mag
theorem format_r {A:Array Value} {z:Int} (h:IsI A z):Pure Tryz.prog 240 [SV.c (.agg A)] (.string (fmtS z)):=by
 have hab:=abs_r h
 have hzl:=h.lt
 obtain ⟨neg,N,hN,rfl,ez⟩:=h.raw
 have eN:z.natAbs=N:=by rw [ez,zN_abs]
 rw [eN] at hab
 have hl309:(rdig N).length≤309:=rdig_len e309 _ (Nat.lt_of_lt_of_le hN big309)
 refine sx_pureC [10] tt_ok mixed at240 _ _ rfl rfl fun w=>?_
 refine ⟨iA_size _ _,by decide,_,iA_mag,.inl ⟨_,zero_r hN,fun h1=>?_,fun h1=>?_⟩⟩
 ·have h1:N=0:=of_decide_eq_true h1
  have:z=0:=by omega
  subst this
  exact ⟨rfl,trivial⟩
 have hN0:N≠0:=of_decide_eq_false h1
 have hfm:fmtZ z=if neg then 45 :: (rdig N).reverse else (rdig N).reverse:=by
  unfold fmtZ fmtN
  rw [eN,if_neg hN0,ez]
  cases neg
  ·rw [if_neg (by simp [zN]),if_neg Bool.false_ne_true]
  ·rw [if_pos (by simp [zN];omega),if_pos rfl]
 refine .inl ⟨_,hab,eA_fits _,?_⟩
 refine ⟨fun M f m=>M < BB ^ 32∧∃ l:List UInt8,l.reverse++rdig M=rdig N∧f=[(1,SV.ptr 1 0),(3,SV.c (.string (S l))),(4,SV.ptr 4 0)]∧m=[(1,Blk.row 57 33 (iA neg N)),(4,Blk.row 57 33 (eA (M:Int)))],N,⟨_,_,⟨hN,[],rfl,rfl,rfl⟩,⟨rfl,rfl,rfl,trivial⟩,⟨rfl,rfl,trivial⟩,rfl⟩,?_⟩
 rintro M f m ⟨hM,l,hd,rfl,rfl⟩
 refine ⟨by decide,_,eA_mag M,.inl ⟨_,zero_r hM,fun h2=>?_,fun h2=>?_⟩⟩
 ·have h2:M≠0:=of_decide_eq_false (bnt h2)
  rw [rdig_pos h2] at hd
  have hll:l.length+1≤309:=by
   have:=congrArg List.length hd
   simp at this;omega
  have ht:=fromInt_r 10 (by omega) (by omega)
  have hdm:=divmod_r (isI_e (z:=(M:Int)) (by simpa using hM)) (isI_e (z:=10) (i64_lt (by omega) (by omega))) (by omega)
  rw [show (M:Int) / 10=((M / 10:Nat):Int) by omega,show (M:Int) % 10=((M % 10:Nat):Int) by omega] at hdm
  have hg:(eA ((M % 10:Nat):Int))[1]? = some (.int .u32 (dg (M % 10) 0:Nat)):=by
   have:=iA_lim (neg:=decide (((M % 10:Nat):Int) < 0)) (N:=(((M % 10:Nat):Int)).natAbs) (i:=0) (by omega)
   rw [Int.natAbs_natCast] at this
   exact this
  have e0:dg (M % 10) 0=M % 10:=by rw [dg0];omega
  rw [e0] at hg
  have e1:IntKind.u32.wrap (((M % 10:Nat):Int)+1)=((M % 10+1:Nat):Int):=by rw [u32_in (by omega)];omega
  have hsub:=runs_sub (E:=(envP Tryz.prog tt Tryz.f240.ntmps w [10]).toEnv) Tryz.underlying9 (l:=ten) (k:=.u32) (k':=.u32) (M % 10) (M % 10+1) rfl e1 (by omega) (by show M % 10+1≤10;omega)
  rw [ten_at (by omega)] at hsub
  have es:S [UInt8.ofNat (48+M % 10)]++S l=S (UInt8.ofNat (48+M % 10) :: l):=S_add _ _
  refine .inl ⟨_,ht,.inl ⟨_,hdm,eA_fits _,eA_fits _,by kernel_rfl,by decide,by decide,_,hg,by decide,by decide,_,hg,_,hsub,by rw [S_size,S_size];simp;omega,eA_fits _,?_⟩⟩
  refine ⟨fun f m=>f=[(1,SV.ptr 1 0),(3,SV.c (.string (S (UInt8.ofNat (48+M % 10) :: l)))),(35,SV.c (.agg (eA ((M / 10:Nat):Int))))]∧m=[(1,Blk.row 57 33 (iA neg N))],⟨_,_,⟨rfl,rfl⟩,⟨rfl,c_str es,rfl,trivial⟩,⟨rfl,trivial⟩,rfl⟩,?_⟩
  rintro f m ⟨rfl,rfl⟩
  exact ⟨eA_fits _,M / 10,_,_,by omega,⟨Nat.lt_of_le_of_lt (Nat.div_le_self _ _) hM,UInt8.ofNat (48+M % 10) :: l,by rw [← hd];simp,rfl,rfl⟩,⟨rfl,rfl,rfl,trivial⟩,⟨rfl,rfl,trivial⟩,rfl⟩
 ·have h2:M=0:=of_decide_eq_true (bnf h2)
  subst h2
  rw [rdig_zero,List.append_nil] at hd
  have hl:l=(rdig N).reverse:=by rw [← hd,List.reverse_reverse]
  refine ⟨_,iA_neg,fun h3=>⟨?_,?_,trivial⟩,fun h3=>⟨?_,trivial⟩⟩
  ·show (S [45]).size+(S l).size≤_
   rw [S_size,S_size,hl];simp;omega
  ·have h3:neg=true:=h3
   have e3:S [45]++S l=fmtS z:=by rw [S_add,fmtS,hfm,h3,if_pos rfl,hl];rfl
   rw [← e3];rfl
  ·have h3:neg=false:=h3
   have e3:S l=fmtS z:=by rw [fmtS,hfm,h3,if_neg Bool.false_ne_true,hl];rfl
   rw [← e3];rfl
def wrt (z:Int) (k:Nat):List UInt8 :=
 (if z < 0 then [45] else [])++(if 0 < k then (padZ k (fmtN z.natAbs)).take ((padZ k (fmtN z.natAbs)).length - k)++(46 :: (padZ k (fmtN z.natAbs)).drop ((padZ k (fmtN z.natAbs)).length - k)) else padZ k (fmtN z.natAbs))
theorem fmtZ_nat (n:Nat):fmtZ (n:Int)=fmtN n:=by
 unfold fmtZ;rw [if_neg (by omega),Int.natAbs_natCast]
theorem pad_step {k i:Nat} {l:List UInt8} (_h:i+l.length≤k):(48:UInt8) :: (List.replicate i 48++l)=List.replicate (i+1) 48++l:=by
 rw [List.replicate_succ];rfl
theorem written_r {A:Array Value} {z:Int} (h:IsI A z) {k:Nat} (hk:k≤9):Pure Tryz.prog 229 [SV.c (.agg A),SV.c (.int .i64 k)] (.string (S (wrt z k))):=by
 have hl:(fmtN z.natAbs).length≤309:=fmtN_len (k:=e309) (by decide) (Nat.lt_of_lt_of_le h.lt big309)
 have hab:=abs_r h
 have hf:=format_r (isI_e (z:=(z.natAbs:Int)) (by simpa using h.lt))
 rw [fmtS,fmtZ_nat] at hf
 have hf:Pure Tryz.prog 240 [SV.c (.agg (eA (z.natAbs:Int)))] (.string (S (fmtN z.natAbs))):=hf
 have hs:=sign_r h
 refine sx_pureC [4,6] tt_ok mixed at229 _ _ rfl rfl fun w=>?_
 refine ⟨h.size,.inl ⟨_,hab,.inl ⟨_,hf,fun f m=>f=[(1,SV.c (.int .i64 k)),(2,SV.ptr 2 0),(5,SV.c (.string (S (padZ k (fmtN z.natAbs)))))]∧m=[(2,Blk.row 57 33 A)],?_,?_⟩⟩⟩
 ·refine ⟨fun q f m=>∃ i:Nat,q=k+1 - i∧(i=0∨i+(fmtN z.natAbs).length≤k+1)∧f=[(1,SV.c (.int .i64 k)),(2,SV.ptr 2 0),(5,SV.c (.string (S (List.replicate i 48++fmtN z.natAbs))))]∧m=[(2,Blk.row 57 33 A)],k+1,⟨[(1,SV.c (.int .i64 k)),(2,SV.ptr 2 0),(5,SV.c (.string (S (List.replicate 0 48++fmtN z.natAbs))))],[(2,Blk.row 57 33 A)],⟨0,rfl,.inl rfl,rfl,rfl⟩,⟨rfl,rfl,rfl,trivial⟩,⟨rfl,trivial⟩,rfl⟩,?_⟩
  rintro q f m ⟨i,rfl,hi,rfl,rfl⟩
  refine ⟨_,fun w _=>run_len_S Tryz.underlying9 w,fun h1=>?_,fun h1=>?_⟩
  ·have h1:i+(fmtN z.natAbs).length≤k:=by
     have:=of_decide_eq_true h1
     simp only [List.length_append,List.length_replicate] at this;omega
   have es:S [48]++S (List.replicate i 48++fmtN z.natAbs)=S (List.replicate (i+1) 48++fmtN z.natAbs):=by
    rw [S_add,← pad_step h1];rfl
   refine ⟨by rw [S_size];show 1+_≤_;simp only [List.length_append,List.length_replicate];omega,k+1 - (i+1),_,_,by omega,⟨i+1,rfl,by omega,rfl,rfl⟩,⟨rfl,rfl,c_str es,trivial⟩,⟨rfl,trivial⟩,rfl⟩
  ·have h1:¬ i+(fmtN z.natAbs).length≤k:=by
     have:=of_decide_eq_false h1
     simp only [List.length_append,List.length_replicate] at this;omega
   have e:List.replicate i 48++fmtN z.natAbs=padZ k (fmtN z.natAbs):=by
    unfold padZ
    split
    ·congr 2;omega
    ·have:i=0:=by omega
     subst this;rfl
   exact ⟨_,_,⟨rfl,rfl⟩,⟨rfl,rfl,c_str (by rw [e]),trivial⟩,⟨rfl,trivial⟩,rfl⟩
 rintro f m ⟨rfl,rfl⟩
 have hpl:=padZ_len k (fmtN z.natAbs)
 have hpl2:(padZ k (fmtN z.natAbs)).length≤1000:=by
  unfold padZ;split
  ·simp only [List.length_append,List.length_replicate];omega
  ·omega
 unfold wrt
 generalize padZ k (fmtN z.natAbs)=s at *
 refine ⟨fun f m=>∃ t:List UInt8,t.length≤2000∧t=(if 0 < k then s.take (s.length - k)++(46 :: s.drop (s.length - k)) else s)∧f=[(2,SV.ptr 2 0),(5,SV.c (.string (S t)))]∧m=[(2,Blk.row 57 33 A)],⟨fun h1=>?_,fun h1=>?_⟩,?_⟩
 ·have h1:0 < k:=by have:=of_decide_eq_true h1;omega
  have e2:IntKind.i64.wrap ((s.length:Int) - (k:Nat))=((s.length - k:Nat):Int):=by rw [i64_in (by omega)];omega
  have e3:S (s.take (s.length - k))++S [46]=S (s.take (s.length - k)++[46]):=S_add _ _
  have e4:S (s.take (s.length - k))++S [46]++S (s.drop (s.length - k))=S (s.take (s.length - k)++(46 :: s.drop (s.length - k))):=by
   rw [e3,S_add,List.append_assoc];rfl
  refine ⟨_,fun w _=>run_len_S Tryz.underlying9 w,_,runs_hi Tryz.underlying9 _ e2 (by omega),by rw [S_size];show _+1≤_;simp only [List.length_take];omega,_,fun w _=>run_len_S Tryz.underlying9 w,_,runs_lo Tryz.underlying9 _ e2 (by omega),?_,by kernel_rfl,_,_,⟨_,?_,by rw [if_pos h1],rfl,rfl⟩,⟨rfl,c_str e4,trivial⟩,⟨rfl,trivial⟩,rfl⟩
  ·show (S (s.take (s.length - k))++S [46]).size+(S (s.drop (s.length - k))).size≤_
   rw [e3,S_size,S_size]
   simp only [List.length_append,List.length_take,List.length_drop,List.length_cons,List.length_nil];omega
  ·simp only [List.length_append,List.length_take,List.length_drop,List.length_cons];omega
 ·have h1:¬ 0 < k:=by have:=of_decide_eq_false h1;omega
  exact ⟨_,_,⟨s,by omega,by rw [if_neg h1],rfl,rfl⟩,⟨rfl,rfl,trivial⟩,⟨rfl,trivial⟩,rfl⟩
 rintro f m ⟨t,htl,ht,rfl,rfl⟩
 rw [← ht]
 refine .inl ⟨_,hs,fun h1=>⟨?_,?_,trivial⟩,fun h1=>⟨?_,trivial⟩⟩
 ·show (S [45]).size+(S t).size≤_
  rw [S_size,S_size];simp;omega
 ·have h1:decide (sgn z < 0)=true:=h1
  rw [sgn_neg] at h1
  have e:S [45]++S t=S ([45]++t):=S_add _ _
  rw [if_pos (of_decide_eq_true h1),← e];rfl
 ·have h1:decide (sgn z < 0)=false:=h1
  rw [sgn_neg] at h1
  rw [if_neg (of_decide_eq_false h1)];rfl
def isD (b:UInt8):Bool:=decide (48≤b.toNat) && decide (b.toNat≤57)
def digs:List UInt8→Nat
 | []=>0
 | b :: r=>if isD b then digs r+1 else 0
theorem digs_le:∀ l:List UInt8,digs l≤l.length
 | []=>Nat.le_refl _
 | b :: r=>by
  unfold digs
  split
  ·have:=digs_le r;simp;exact this
  ·simp
theorem digs_of:∀ (l:List UInt8) (n:Nat),n≤l.length→(∀ j,j < n→isD (l.getD j 0)=true)→(n=l.length∨isD (l.getD n 0)=false)→digs l=n
 | [],n,h,_,_=>by simp at h;subst h;rfl
 | b :: r,0,_,_,h=>by
  rcases h with h | h
  ·simp at h
  ·unfold digs
   have h:isD b=false:=h
   rw [h];rfl
 | b :: r,n+1,hn,hd,h=>by
  have h0:isD b=true:=hd 0 (by omega)
  unfold digs
  rw [h0,if_pos rfl,digs_of r n (by simpa using hn) (fun j hj=>by have:=hd (j+1) (by omega);simpa using this) (by
   rcases h with h | h
   ·left;simpa using h
   ·right;simpa using h)]
theorem digs_all {l:List UInt8} (h:∀ b∈l,isD b=true):digs l=l.length:=by
 induction l with
 | nil=>rfl
 | cons b r ih =>
  unfold digs
  rw [h b (by simp),if_pos rfl,ih (fun x hx=>h x (by simp [hx]))]
  rfl
theorem digs_app {l m:List UInt8} (h:∀ b∈l,isD b=true) (hm:digs m=0):digs (l++m)=l.length:=by
 induction l with
 | nil=>simpa using hm
 | cons b r ih =>
  rw [List.cons_append]
  unfold digs
  rw [h b (by simp),if_pos rfl,ih (fun x hx=>h x (by simp [hx]))]
  rfl
theorem digits_r (l:List UInt8) (hl:l.length≤9223372036854775807):Pure Tryz.prog 242 [SV.c (.string (S l))] (.int .i64 (digs l:Nat)):=by
 refine sx_pure tt_ok mixed at242 _ _ rfl rfl fun w=>?_
 refine ⟨fun q f m=>∃ i:Nat,q=l.length - i∧i≤l.length∧(∀ j,j < i→isD (l.getD j 0)=true)∧f=[(0,SV.c (.string (S l))),(3,SV.c (.int .i64 i))]∧m=[],l.length,⟨_,_,⟨0,rfl,Nat.zero_le _,fun j hj=>absurd hj (by omega),rfl,rfl⟩,⟨rfl,rfl,trivial⟩,trivial,rfl⟩,?_⟩
 rintro q f m ⟨i,rfl,hi,hd,rfl,rfl⟩
 refine ⟨_,fun w _=>run_len_S Tryz.underlying9 w,fun h1=>?_,fun h1=>⟨nofun,fun _=>?_⟩⟩
 ·have h1:i < l.length:=by have:=of_decide_eq_true h1;omega
  have hx:=runs_idx (E:=(envP Tryz.prog tt Tryz.f242.ntmps w).toEnv) Tryz.underlying9 (k:=.i64) i rfl h1
  have stop:isD (l.getD i 0)=false→mkRes [.int .i64 (i:Nat)]=.int .i64 (digs l:Nat):=fun e=>by rw [digs_of l i hi hd (.inr e)];rfl
  have hD:isD (l.getD i 0)=(decide (48≤(l.getD i 0).toNat) && decide ((l.getD i 0).toNat≤57)):=rfl
  refine ⟨_,hx,fun h2=>⟨_,hx,fun h3=>?_,fun h3=>⟨stop ?_,trivial⟩⟩,fun h2=>⟨nofun,fun _=>⟨stop ?_,trivial⟩⟩⟩
  ·have e:isD (l.getD i 0)=true:=by
     rw [hD,decide_eq_true (by have:=of_decide_eq_true h2;omega),decide_eq_true (by have:=of_decide_eq_true h3;omega)];rfl
   refine ⟨l.length - (i+1),_,_,by omega,⟨i+1,rfl,by omega,fun j hj=>?_,rfl,rfl⟩,⟨rfl,c_int (by rw [i64_in (by omega)];rfl),trivial⟩,trivial,rfl⟩
   by_cases e2:j=i
   ·rw [e2];exact e
   ·exact hd j (by omega)
  ·rw [hD,decide_eq_false (show ¬ (l.getD i 0).toNat≤57 by have:=of_decide_eq_false h3;omega),Bool.and_false]
  ·rw [hD,decide_eq_false (show ¬ 48≤(l.getD i 0).toNat by have:=of_decide_eq_false h2;omega),Bool.false_and]
 ·have h1:i=l.length:=by have:=of_decide_eq_false h1;omega
  subst h1
  refine ⟨nofun,fun _=>⟨?_,trivial⟩⟩
  rw [digs_of l _ hi hd (.inl rfl)];rfl
def dval (l:List UInt8):Nat:=l.foldl (fun a b=>a*10+(b.toNat - 48)) 0
theorem dval_snoc (l:List UInt8) (b:UInt8):dval (l++[b])=dval l*10+(b.toNat - 48):=by
 unfold dval;rw [List.foldl_append];rfl
theorem dval_aux:∀ (l:List UInt8) (a:Nat),(∀ b∈l,isD b=true)→l.foldl (fun a b=>a*10+(b.toNat - 48)) a < (a+1)*10 ^ l.length
 | [],a,_=>by simp
 | b :: r,a,h=>by
  have h2:=h b (by simp)
  unfold isD at h2
  simp only [Bool.and_eq_true,decide_eq_true_eq] at h2
  have h3:=dval_aux r (a*10+(b.toNat - 48)) (fun x hx=>h x (by simp [hx]))
  rw [List.foldl_cons,List.length_cons,Nat.pow_succ]
  refine Nat.lt_of_lt_of_le h3 ?_
  rw [Nat.mul_comm (10 ^ r.length) 10,← Nat.mul_assoc]
  exact Nat.mul_le_mul_right _ (by omega)
theorem dval_lt {l:List UInt8} (h:∀ b∈l,isD b=true):dval l < 10 ^ l.length:=by
 have:=dval_aux l 0 h
 simpa [dval] using this
theorem digs_take {l:List UInt8}:∀ b∈l.take (digs l),isD b=true:=by
 induction l with
 | nil=>intro b hb;simp at hb
 | cons x r ih =>
  intro b hb
  unfold digs at hb
  split at hb
  ·rename_i hx
   rw [List.take_succ_cons] at hb
   rcases List.mem_cons.1 hb with rfl | hb
   ·exact hx
   ·exact ih b hb
  ·simp at hb
theorem dval_take {l:List UInt8} {i:Nat} (hi:i < l.length):dval (l.take (i+1))=dval (l.take i)*10+((l.getD i 0).toNat - 48):=by
 rw [← List.take_append_getElem hi,dval_snoc,List.getD_eq_getElem?_getD,List.getElem?_eq_getElem hi];rfl
def reaN (s:List UInt8) (k:Nat) (neg:Bool):RQ×Bool :=
 if neg && decide (dval s=0) then (.of 0 0,false) else ((mkQ (zN neg (dval s)) (tp k:Nat)).1,true)
def reaR (neg:Bool) (whole rest:List UInt8) (p:Int):RQ×Bool :=
 match rest with
 | []=>reaN whole 0 neg
 | b :: r=>if b=46 then (if digs r=0∨digs r≠r.length∨((digs r:Nat):Int) > p then (.of 0 0,false) else reaN (whole++r) (digs r) neg) else (.of 0 0,false)
def reaU (neg:Bool) (s:List UInt8) (p:Int):RQ×Bool :=
 if digs s=0∨digs s > 15∨(digs s > 1∧s.getD 0 0=48) then (.of 0 0,false) else reaR neg (s.take (digs s)) (s.drop (digs s)) p
def reaNeg (s:List UInt8) (m:Bool):Bool:=m && (decide (0 < s.length) && decide (s.getD 0 0=45))
def reaS (s:List UInt8) (p:Int) (m:Bool):RQ×Bool:=if reaNeg s m then reaU true (s.drop 1) p else reaU false s p
def resB (x:RQ×Bool):Value:=.tuple #[.agg x.1.A,.bool x.2]
theorem u8_eq (a b:UInt8):(((a.toNat:Nat):Int) == ((b.toNat:Nat):Int))=decide (a=b):=by
 rw [Bool.eq_iff_iff]
 simp only [beq_iff_eq,decide_eq_true_eq]
 constructor
 ·intro h;exact UInt8.toNat_inj.1 (by omega)
 ·intro h;rw [h]
theorem read_r (s:List UInt8) (p:Int) (hp:p≤9) (m:Bool) (hs:s.length≤9223372036854775807):Pure Tryz.prog 230 [SV.c (.string (S s)),SV.c (.int .i64 p),SV.c (.bool m)] (resB (reaS s p m)):=by
 refine sx_pureC [2,4,7,16,27] tt_ok mixed at230 _ _ rfl rfl fun w=>?_
 have join:∀ b:Bool,b=reaNeg s m→∃ f1 m1,(f1=[(0,SV.c (.string (S s))),(1,SV.c (.int .i64 p)),(6,SV.ptr 6 0),(8,SV.c (.bool (reaNeg s m)))]∧m1=[(6,Blk.row 59 66 ti59.zero)])∧True:=fun _ _=>⟨_,_,⟨rfl,rfl⟩,trivial⟩
 refine ⟨fun f1 m1=>f1=[(0,SV.c (.string (S s))),(1,SV.c (.int .i64 p)),(6,SV.ptr 6 0),(8,SV.c (.bool (reaNeg s m)))]∧m1=[(6,Blk.row 59 66 ti59.zero)],⟨fun h1=>⟨_,fun w _=>run_len_S Tryz.underlying9 w,fun h2=>⟨_,runs_idx Tryz.underlying9 0 rfl (by have:=of_decide_eq_true h2;omega),_,_,⟨rfl,rfl⟩,⟨rfl,rfl,rfl,c_bool ?_,trivial⟩,⟨rfl,trivial⟩,rfl⟩,fun h2=>⟨_,_,⟨rfl,rfl⟩,⟨rfl,rfl,rfl,c_bool ?_,trivial⟩,⟨rfl,trivial⟩,rfl⟩⟩,fun h1=>⟨nofun,fun _=>⟨_,_,⟨rfl,rfl⟩,⟨rfl,rfl,rfl,c_bool ?_,trivial⟩,⟨rfl,trivial⟩,rfl⟩⟩⟩,?_⟩
 ·have h1:m=true:=h1
  have h2:=of_decide_eq_true h2
  have e:=u8_eq (s.getD 0 0) 45
  rw [reaNeg,h1,decide_eq_true (by omega:0 < s.length),← e];rfl
 ·have h2:=of_decide_eq_false h2
  rw [reaNeg,decide_eq_false (by omega:¬ 0 < s.length),Bool.false_and,Bool.and_false]
 ·have h1:m=false:=h1
  rw [reaNeg,h1];rfl
 rintro f1 m1 ⟨rfl,rfl⟩
 refine ⟨fun f1 m1=>∃ (neg:Bool) (u:List UInt8),u.length≤9223372036854775807∧reaS s p m=reaU neg u p∧f1=[(0,SV.c (.string (S u))),(1,SV.c (.int .i64 p)),(6,SV.ptr 6 0),(8,SV.c (.bool neg))]∧m1=[(6,Blk.row 59 66 ti59.zero)],⟨fun h1=>?_,fun h1=>?_⟩,?_⟩
 ·have h1:reaNeg s m=true:=h1
  have h0:0 < s.length:=by
   unfold reaNeg at h1
   simp only [Bool.and_eq_true,decide_eq_true_eq] at h1
   exact h1.2.1
  exact ⟨_,runs_lo Tryz.underlying9 1 rfl h0,_,_,⟨true,s.drop 1,by simp;omega,by rw [reaS,h1,if_pos rfl],rfl,rfl⟩,⟨rfl,rfl,rfl,c_bool h1,trivial⟩,⟨rfl,trivial⟩,rfl⟩
 ·have h1:reaNeg s m=false:=h1
  exact ⟨_,_,⟨false,s,hs,by rw [reaS,h1,if_neg Bool.false_ne_true],rfl,rfl⟩,⟨rfl,rfl,rfl,c_bool h1,trivial⟩,⟨rfl,trivial⟩,rfl⟩
 rintro f1 m1 ⟨neg,u,hu,hS,rfl,rfl⟩
 rw [hS]
 have hdl:=digs_le u
 have bad:(digs u=0∨digs u > 15∨(digs u > 1∧u.getD 0 0=48))→mkRes [.agg ti59.zero,.bool false]=resB (reaU neg u p):=fun h=>by rw [reaU,if_pos h];rfl
 have fit0:Fits ti59.zero 66:=(RQ.of 0 0).A_fits
 have c48:=u8_eq (u.getD 0 0) 48
 have h48:(48:UInt8).toNat=48:=rfl
 rw [h48] at c48
 refine .inl ⟨_,digits_r u hu,fun f1 m1=>(0 < digs u∧digs u≤15∧reaU neg u p=reaR neg (u.take (digs u)) (u.drop (digs u)) p)∧f1=[(0,SV.c (.string (S u))),(1,SV.c (.int .i64 p)),(6,SV.ptr 6 0),(8,SV.c (.bool neg)),(9,SV.c (.int .i64 (digs u:Nat)))]∧m1=[(6,Blk.row 59 66 ti59.zero)],⟨fun h1=>⟨fun h2=>⟨fun h3=>⟨_,runs_idx Tryz.underlying9 0 rfl (by have:=of_decide_eq_true h3;omega),fun h4=>⟨ti59.zero,rfl,fit0,bad ?_,trivial⟩,fun h4=>⟨_,_,⟨?_,rfl,rfl⟩,⟨rfl,rfl,rfl,rfl,rfl,trivial⟩,⟨rfl,trivial⟩,rfl⟩⟩,fun h3=>⟨nofun,fun _=>⟨_,_,⟨?_,rfl,rfl⟩,⟨rfl,rfl,rfl,rfl,rfl,trivial⟩,⟨rfl,trivial⟩,rfl⟩⟩⟩,fun h2=>⟨fun _=>⟨ti59.zero,rfl,fit0,bad ?_,trivial⟩,nofun⟩⟩,fun h1=>⟨nofun,fun _=>⟨fun _=>⟨ti59.zero,rfl,fit0,bad ?_,trivial⟩,nofun⟩⟩⟩,?_⟩
 ·have h3:=of_decide_eq_true h3
  have h4:=of_decide_eq_true (c48.symm.trans h4)
  exact .inr (.inr ⟨by omega,h4⟩)
 ·have h1:digs u≠0:=by intro e;rw [e] at h1;simp at h1
  have h2:=of_decide_eq_false h2
  have h4:=of_decide_eq_false (c48.symm.trans h4)
  refine ⟨by omega,by omega,?_⟩
  rw [reaU,if_neg]
  rintro (h | h | h)
  ·exact h1 h
  ·omega
  ·exact h4 h.2
 ·have h1:digs u≠0:=by intro e;rw [e] at h1;simp at h1
  have h2:=of_decide_eq_false h2
  have h3:=of_decide_eq_false h3
  refine ⟨by omega,by omega,?_⟩
  rw [reaU,if_neg]
  rintro (h | h | h)
  ·exact h1 h
  ·omega
  ·omega
 ·have h2:=of_decide_eq_true h2
  exact .inr (.inl (by omega))
 ·have h1:digs u=0:=by have:((digs u:Nat):Int)=0:=by simpa using h1
                       omega
  exact .inl h1
 rintro f1 m1 ⟨⟨hn0,hn15,hU⟩,rfl,rfl⟩
 rw [hU]
 have hw:=digs_take (l:=u)
 have hwl:(u.take (digs u)).length=digs u:=by simp;omega
 have s1:=runs_hi (E:=(envP Tryz.prog tt Tryz.f230.ntmps w [2,4,7,16,27]).toEnv) Tryz.underlying9 (l:=u) (k:=.i64) (digs u) rfl hdl
 have s2:=runs_lo (E:=(envP Tryz.prog tt Tryz.f230.ntmps w [2,4,7,16,27]).toEnv) Tryz.underlying9 (l:=u) (k:=.i64) (digs u) rfl hdl
 have hrl:(u.drop (digs u)).length≤9223372036854775807:=by simp;omega
 generalize u.take (digs u)=wh at *
 generalize u.drop (digs u)=re at *
 clear hU bad c48
 refine ⟨_,s1,_,s2,by kernel_rfl,?_⟩
 refine ⟨fun f1 m1=>∃ (r:List UInt8) (k:Nat),r.length≤9∧k≤9∧(∀ b∈r,isD b=true)∧reaR neg wh re p=reaN (wh++r) k neg∧f1=[(6,SV.ptr 6 0),(8,SV.c (.bool neg)),(10,SV.c (.string (S wh))),(11,SV.c (.string (S r))),(12,SV.c (.int .i64 k))]∧m1=[(6,Blk.row 59 66 ti59.zero)],⟨_,fun w _=>run_len_S Tryz.underlying9 w,fun h1=>?_,fun h1=>?_⟩,?_⟩
 ·have h1:0 < re.length:=by have:=of_decide_eq_true h1;omega
  obtain ⟨b,r,rfl⟩:∃ b r,re=b :: r:=by cases re with
   | nil=>simp at h1
   | cons b r=>exact ⟨b,r,rfl⟩
  have hrl:r.length≤9223372036854775807:=by simp at hrl;omega
  have hdr:=digs_le r
  have c46:=u8_eq b 46
  have h46:(46:UInt8).toNat=46:=rfl
  rw [h46] at c46
  refine ⟨_,runs_idx Tryz.underlying9 0 rfl h1,fun h2=>⟨ti59.zero,rfl,fit0,?_,trivial⟩,fun h2=>⟨_,runs_lo Tryz.underlying9 1 rfl h1,.inl ⟨_,digits_r r hrl,fun h3=>⟨_,fun w _=>run_len_S Tryz.underlying9 w,fun h4=>⟨fun h5=>⟨ti59.zero,rfl,fit0,?_,trivial⟩,fun h5=>⟨_,_,⟨r,digs r,?_,?_,?_,?_,rfl,rfl⟩,⟨rfl,rfl,rfl,rfl,rfl,trivial⟩,⟨rfl,trivial⟩,rfl⟩⟩,fun h4=>⟨fun _=>⟨ti59.zero,rfl,fit0,?_,trivial⟩,nofun⟩⟩,fun h3=>⟨nofun,fun _=>⟨fun _=>⟨ti59.zero,rfl,fit0,?_,trivial⟩,nofun⟩⟩⟩⟩⟩
  ·have h2:b≠46:=of_decide_eq_false (c46.symm.trans (bnt h2))
   rw [reaR,if_neg h2];rfl
  all_goals have h2:b=46:=of_decide_eq_true (c46.symm.trans (bnf h2))
  ·have h5:=of_decide_eq_true h5
   rw [reaR,if_pos h2,if_pos (.inr (.inr h5))];rfl
  ·have h5:=of_decide_eq_false h5
   have h4:digs r=r.length:=by have:((digs r:Nat):Int)=(r.length:Nat):=by simpa using h4
                               omega
   omega
  ·have h5:=of_decide_eq_false h5
   omega
  ·have h4:digs r=r.length:=by have:((digs r:Nat):Int)=(r.length:Nat):=by simpa using h4
                               omega
   have:=digs_take (l:=r)
   rw [h4,List.take_length] at this
   exact this
  ·have h5:=of_decide_eq_false h5
   have h4:digs r=r.length:=by have:((digs r:Nat):Int)=(r.length:Nat):=by simpa using h4
                               omega
   have h3:digs r≠0:=by intro e;rw [e] at h3;simp at h3
   rw [reaR,if_pos h2,if_neg]
   rintro (h | h | h)
   ·exact h3 h
   ·exact h h4
   ·exact h5 h
  ·have h4:digs r≠r.length:=by
     intro e;rw [e] at h4;simp at h4
   rw [reaR,if_pos h2,if_pos (.inr (.inl h4))];rfl
  ·have h3:digs r=0:=by have:((digs r:Nat):Int)=0:=by simpa using h3
                        omega
   rw [reaR,if_pos h2,if_pos (.inl h3)];rfl
 ·have h1:re=[]:=List.length_eq_zero_iff.1 (by have:=of_decide_eq_false h1;omega)
  subst h1
  exact ⟨_,_,⟨[],0,by simp,by omega,by simp,by rw [reaR,List.append_nil],rfl,rfl⟩,⟨rfl,rfl,rfl,rfl,rfl,trivial⟩,⟨rfl,trivial⟩,rfl⟩
 rintro f1 m1 ⟨r,k,hr9,hk9,hrd,hR,rfl,rfl⟩
 rw [hR]
 have hld:∀ b∈wh++r,isD b=true:=fun b hb=>by
  rcases List.mem_append.1 hb with h | h
  ·exact hw b h
  ·exact hrd b h
 have hll:(wh++r).length≤24:=by rw [List.length_append];omega
 have es:S wh++S r=S (wh++r):=S_add _ _
 have hsz:(S wh).size+(S r).size≤9223372036854775807:=by rw [S_size,S_size];omega
 unfold reaN
 generalize wh++r=l at *
 have big:10 ^ 25≤BB ^ 32:=Nat.le_trans (by decide:10 ^ 25≤BB ^ 3) (Nat.pow_le_pow_right BB_pos (by omega))
 have hv:∀ i,dval (l.take i) < 10 ^ 24:=fun i=>by
  have h1:=dval_lt (l:=l.take i) (fun b hb=>hld b (List.mem_of_mem_take hb))
  have h2:(l.take i).length≤24:=by simp;omega
  exact Nat.lt_of_lt_of_le h1 (Nat.pow_le_pow_right (by omega) h2)
 have hvl:=hv l.length
 rw [List.take_length] at hvl
 have p25:10 ^ 25=10 ^ 24*10:=by decide
 have ten:=fromInt_r 10 (by omega) (by omega)
 have i10:=isI_e (i64_lt (n:=10) (by omega) (by omega))
 have key:∀ i,i < l.length→Pure Tryz.prog 107 [SV.c (.agg (eA ((dval (l.take i):Nat):Int))),SV.c (.agg (eA 10))] (.tuple #[.agg (eA ((dval (l.take i)*10:Nat):Int)),.int .i64 0]):=fun i _=>by
  have h1:=hv i
  have h:=mul_r (isI_e (z:=((dval (l.take i):Nat):Int)) (by omega)) i10
  rw [show ((dval (l.take i):Nat):Int)*10=((dval (l.take i)*10:Nat):Int) by omega,fitR,if_pos (by omega)] at h
  exact h
 have dig:∀ i,i < l.length→48≤(l.getD i 0).toNat∧(l.getD i 0).toNat≤57:=fun i hi=>by
  have h:=hld (l.getD i 0) (by rw [List.getD_eq_getElem?_getD,List.getElem?_eq_getElem hi];exact List.getElem_mem hi)
  unfold isD at h
  simpa using h
 refine ⟨ti57.zero,rfl,eA_fits 0,hsz,?_⟩
 refine ⟨fun q f mm=>∃ i:Nat,q=l.length - i∧i≤l.length∧f=[(6,SV.ptr 6 0),(8,SV.c (.bool neg)),(12,SV.c (.int .i64 k)),(13,SV.ptr 13 0),(14,SV.c (.string (S l))),(15,SV.c (.int .i64 i))]∧mm=[(6,Blk.row 59 66 ti59.zero),(13,Blk.row 57 33 (eA ((dval (l.take i):Nat):Int)))],l.length,⟨_,_,⟨0,rfl,Nat.zero_le _,rfl,rfl⟩,⟨rfl,rfl,rfl,rfl,c_str es,rfl,trivial⟩,⟨rfl,row_eq (by rw [List.take_zero];rfl),trivial⟩,rfl⟩,?_⟩
 rintro q f mm ⟨i,rfl,hi,rfl,rfl⟩
 refine ⟨_,fun w _=>run_len_S Tryz.underlying9 w,fun h1=>?_,fun h1=>?_⟩
 ·have h1:i < l.length:=by have:=of_decide_eq_true h1;omega
  have hx:=runs_idx (E:=(envP Tryz.prog tt Tryz.f230.ntmps w [2,4,7,16,27]).toEnv) Tryz.underlying9 (k:=.i64) i rfl h1
  obtain ⟨d1,d2⟩:=dig i h1
  have dv:=dval_take h1
  have hvi:=hv i
  generalize (l.getD i 0).toNat=c at *
  have ec:IntKind.i64.wrap (IntKind.u8.wrap ((c:Int) - 48))=((c - 48:Nat):Int):=by rw [u8_wrap,show ((c:Int) - 48) % 256=((c - 48:Nat):Int) by omega,i64_in (by omega)]
  have hfc:=fromInt_r ((c - 48:Nat):Int) (by omega) (by omega)
  rw [← ec] at hfc
  have hadd:=add_r (isI_e (z:=((dval (l.take i)*10:Nat):Int)) (by omega)) (isI_e (z:=((c - 48:Nat):Int)) (by omega))
  rw [show ((dval (l.take i)*10:Nat):Int)+((c - 48:Nat):Int)=((dval (l.take (i+1)):Nat):Int) by rw [dv];omega,fitR,if_pos (by have:=hv (i+1);omega)] at hadd
  rw [← ec] at hadd
  exact .inl ⟨_,ten,.inl ⟨_,key i h1,eA_fits _,by kernel_rfl,_,hx,.inl ⟨_,hfc,.inl ⟨_,hadd,eA_fits _,by kernel_rfl,l.length - (i+1),_,_,by omega,⟨i+1,rfl,by omega,rfl,rfl⟩,⟨rfl,rfl,rfl,rfl,rfl,c_int (by rw [i64_in (by omega)];rfl),trivial⟩,⟨rfl,rfl,trivial⟩,rfl⟩⟩⟩⟩
 ·have h1:i=l.length:=by have:=of_decide_eq_false h1;omega
  subst h1
  rw [List.take_length]
  have iD:=isI_e (z:=((dval l:Nat):Int)) (by omega)
  refine ⟨fun f1 m1=>((neg && decide (dval l=0))=false)∧f1=[(6,SV.ptr 6 0),(12,SV.c (.int .i64 k)),(13,SV.ptr 13 0)]∧m1=[(6,Blk.row 59 66 ti59.zero),(13,Blk.row 57 33 (eA (zN neg (dval l))))],⟨fun h2=>.inl ⟨_,sign_r iD,fun h3=>⟨ti59.zero,rfl,fit0,?_,trivial⟩,fun h3=>.inl ⟨_,neg_r iD,eA_fits _,_,_,⟨?_,rfl,rfl⟩,⟨rfl,rfl,rfl,trivial⟩,⟨rfl,row_eq ?_,trivial⟩,rfl⟩⟩,fun h2=>⟨_,_,⟨?_,rfl,rfl⟩,⟨rfl,rfl,rfl,trivial⟩,⟨rfl,row_eq ?_,trivial⟩,rfl⟩⟩,?_⟩
  ·have h2:neg=true:=h2
   rw [sgn_zero] at h3
   have h3:((dval l:Nat):Int)=0:=of_decide_eq_true h3
   rw [h2,decide_eq_true (show dval l=0 by omega),Bool.true_and,if_pos rfl];rfl
  ·rw [sgn_zero] at h3
   have h3:¬ ((dval l:Nat):Int)=0:=of_decide_eq_false h3
   rw [decide_eq_false (show ¬ dval l=0 by omega),Bool.and_false]
  ·have h2:neg=true:=h2
   rw [h2];rfl
  ·have h2:neg=false:=h2
   rw [h2,Bool.false_and]
  ·have h2:neg=false:=h2
   rw [h2];rfl
  rintro f1 m1 ⟨hz,rfl,rfl⟩
  rw [hz,if_neg Bool.false_ne_true]
  have hpk:=tp_le (show k≤18 by omega)
  rw [tp18] at hpk
  have hmk:=make_r (isI_e (z:=zN neg (dval l)) (by rw [zN_abs];omega)) (isI_e (z:=((tp k:Nat):Int)) (i64_lt (by omega) (by omega)))
  exact .inl ⟨_,power_r (by omega),_,runs_num rfl (.of _ _),.inl ⟨_,hmk,RQ.A_fits _,by kernel_rfl,RQ.A_fits _,rfl,trivial⟩⟩
theorem rdig_last:∀ (N:Nat),N≠0→∃ l b,rdig N=l++[b]∧b≠48:=by
 intro N
 induction N using Nat.strongRecOn with
 | _ N ih =>
  intro h
  rw [rdig_pos h]
  by_cases h2:N / 10=0
  ·rw [h2,rdig_zero]
   refine ⟨[],_,rfl,?_⟩
   intro e
   have:=congrArg UInt8.toNat e
   rw [digit_nat] at this
   have h48:(48:UInt8).toNat=48:=rfl
   omega
  ·obtain ⟨l,b,e,hb⟩:=ih (N / 10) (by omega) h2
   exact ⟨_ :: l,b,by rw [e];rfl,hb⟩
theorem fmtN_head {N:Nat} (h:N≠0):(fmtN N).getD 0 0≠48:=by
 obtain ⟨l,b,e,hb⟩:=rdig_last N h
 unfold fmtN
 rw [if_neg h,e]
 simpa using hb
theorem trimR_eq (c:UInt8) (l:List UInt8):∃ m,l=trimR c l++List.replicate m c:=by
 unfold trimR
 refine ⟨(l.reverse.takeWhile (· == c)).length,?_⟩
 have h:l.reverse=l.reverse.takeWhile (· == c)++l.reverse.dropWhile (· == c):=(List.takeWhile_append_dropWhile).symm
 have h2:l.reverse.takeWhile (· == c)=List.replicate (l.reverse.takeWhile (· == c)).length c:=by
  rw [List.eq_replicate_iff]
  refine ⟨rfl,fun b hb=>?_⟩
  have:=List.all_takeWhile (p:=(· == c)) (l:=l.reverse)
  rw [List.all_eq_true] at this
  simpa using this b hb
 have h3:=congrArg List.reverse h
 rw [List.reverse_reverse,List.reverse_append] at h3
 conv=>lhs;rw [h3]
 congr 1
 rw [h2,List.reverse_replicate,List.length_replicate]
theorem trimR_done {c:UInt8} {l:List UInt8} (h:trimR c l≠[]):∃ a b,trimR c l=a++[b]∧b≠c:=by
 unfold trimR at *
 cases hd:l.reverse.dropWhile (· == c) with
 | nil=>rw [hd] at h;exact absurd rfl h
 | cons b r =>
  refine ⟨r.reverse,b,by simp,?_⟩
  have:=List.head_dropWhile_not (p:=(· == c)) (l:=l.reverse) (by rw [hd];simp)
  simp only [hd,List.head_cons] at this
  simpa using this
theorem dval_zero:∀ {l:List UInt8},(∀ b∈l,isD b=true)→dval l=0→∀ b∈l,b=48:=by
 have aux:∀ (l:List UInt8) (a:Nat),(∀ b∈l,isD b=true)→l.foldl (fun a b=>a*10+(b.toNat - 48)) a=0→a=0∧∀ b∈l,b=48:=by
  intro l
  induction l with
  | nil=>intro a _ h;exact ⟨h,by simp⟩
  | cons b r ih =>
   intro a hd h
   rw [List.foldl_cons] at h
   obtain ⟨h1,h2⟩:=ih _ (fun x hx=>hd x (by simp [hx])) h
   have h3:=hd b (by simp)
   unfold isD at h3
   simp only [Bool.and_eq_true,decide_eq_true_eq] at h3
   refine ⟨by omega,fun x hx=>?_⟩
   rcases List.mem_cons.1 hx with rfl | hx
   ·apply UInt8.toNat_inj.1
    have h48:(48:UInt8).toNat=48:=rfl
    omega
   ·exact h2 x hx
 intro l hd h
 exact (aux l 0 hd h).2
theorem isD_of {b:UInt8} (h:48≤b.toNat∧b.toNat≤57):isD b=true:=by
 unfold isD;rw [decide_eq_true h.1,decide_eq_true h.2];rfl
theorem padZ_dig (k N:Nat):∀ b∈padZ k (fmtN N),isD b=true:=by
 intro b hb
 unfold padZ at hb
 split at hb
 ·rcases List.mem_append.1 hb with h | h
  ·rw [List.mem_replicate] at h;rw [h.2];rfl
  ·exact isD_of (fmtN_dig b h)
 ·exact isD_of (fmtN_dig b hb)
theorem padZ_zero {k N:Nat} (h:∀ b∈padZ k (fmtN N),b=48):N=0:=by
 refine Decidable.of_not_not fun hN=>?_
 have h1:=fmtN_head hN
 have h2:=fmtN_pos N
 apply h1
 rw [List.getD_eq_getElem?_getD,List.getElem?_eq_getElem h2]
 apply h
 unfold padZ
 have:=List.getElem_mem h2
 split
 ·exact List.mem_append_right _ this
 ·exact this
def txt (z:Int) (k:Nat):List UInt8 :=
 (if z < 0 then [45] else [])++((padZ k (fmtN z.natAbs)).take ((padZ k (fmtN z.natAbs)).length - k)++(if trimR 48 ((padZ k (fmtN z.natAbs)).drop ((padZ k (fmtN z.natAbs)).length - k))=[] then [] else 46 :: trimR 48 ((padZ k (fmtN z.natAbs)).drop ((padZ k (fmtN z.natAbs)).length - k))))
theorem txtZ_eq (z:Int) (k:Nat):txtZ z k=if 15 < (padZ k (fmtN z.natAbs)).length - k then ([],32) else (txt z k,0):=by
 unfold txtZ txt
 dsimp only
 split
 ·rfl
 ·rw [List.append_assoc]
theorem reaS_txt (z:Int) (k:Nat):(reaS (txt z k) k true).2=!decide (15 < (padZ k (fmtN z.natAbs)).length - k):=by
 have hdg:=padZ_dig k z.natAbs
 have hz:=padZ_zero (k:=k) (N:=z.natAbs)
 have hpl:=padZ_len k (fmtN z.natAbs)
 have hhead:1 < (padZ k (fmtN z.natAbs)).length - k→(padZ k (fmtN z.natAbs)).getD 0 0≠48:=by
  intro h
  unfold padZ at h ⊢
  split at h
  ·rename_i hc
   simp only [List.length_append,List.length_replicate] at h;omega
  ·rename_i hc
   rw [if_neg hc]
   apply fmtN_head
   intro e
   rw [e] at h
   simp [fmtN] at h
   omega
 unfold txt
 generalize padZ k (fmtN z.natAbs)=s at *
 obtain ⟨n,hn⟩:∃ n,s.length - k=n:=⟨_,rfl⟩
 rw [hn] at hhead ⊢
 have hn0:0 < n:=by omega
 have hwl:(s.take n).length=n:=by simp;omega
 have hdl:(s.drop n).length=k:=by simp;omega
 have hsplit:s=s.take n++s.drop n:=(List.take_append_drop n s).symm
 have hwd:∀ b∈s.take n,isD b=true:=fun b hb=>hdg b (List.mem_of_mem_take hb)
 have hdd:∀ b∈s.drop n,isD b=true:=fun b hb=>hdg b (List.mem_of_mem_drop hb)
 have hw0:(s.take n).getD 0 0=s.getD 0 0:=by
  rw [List.getD_eq_getElem?_getD,List.getD_eq_getElem?_getD,List.getElem?_take,if_pos hn0]
 rw [← hw0] at hhead
 rw [hsplit] at hz
 clear hsplit hw0 hdg hpl hn
 generalize s.take n=wh at *
 generalize s.drop n=d at *
 clear s
 obtain ⟨m,hm⟩:=trimR_eq 48 d
 have hdone:=trimR_done (c:=48) (l:=d)
 generalize trimR 48 d=p at *
 have hpd:∀ b∈p,isD b=true:=fun b hb=>hdd b (by rw [hm];exact List.mem_append_left _ hb)
 have hpk:p.length≤k:=by rw [← hdl,hm];simp
 have hz2:(∀ b∈wh++p,b=48)→z.natAbs=0:=fun h=>hz fun b hb=>by
  rcases List.mem_append.1 hb with hb | hb
  ·exact h b (List.mem_append_left _ hb)
  ·rw [hm] at hb
   rcases List.mem_append.1 hb with hb | hb
   ·exact h b (List.mem_append_right _ hb)
   ·rw [List.mem_replicate] at hb;exact hb.2
 -- the part without the sign
 have hcore:∀ neg:Bool,(neg=true→z < 0)→(reaU neg (wh++(if p=[] then [] else 46 :: p)) k).2=!decide (15 < n):=by
  intro neg hneg
  have hdig:digs (wh++(if p=[] then [] else 46 :: p))=n:=by
   rw [digs_app hwd,hwl]
   split
   ·rfl
   ·rfl
  unfold reaU
  rw [hdig]
  have hgo:(¬ (n=0∨n > 15∨(n > 1∧(wh++(if p=[] then [] else 46 :: p)).getD 0 0=48)))↔¬ 15 < n:=by
   constructor
   ·intro h h2;exact h (.inr (.inl h2))
   ·rintro h (h2 | h2 | h2)
    ·omega
    ·exact h h2
    ·refine hhead h2.1 ?_
     have h3:=h2.2
     rw [List.getD_eq_getElem?_getD,List.getElem?_append_left (by omega),← List.getD_eq_getElem?_getD] at h3
     exact h3
  by_cases h15:15 < n
  ·rw [if_pos (Decidable.of_not_not fun h=>(hgo.1 h) h15),decide_eq_true h15];rfl
  ·rw [if_neg (hgo.2 h15),decide_eq_false h15]
   have e1:(wh++(if p=[] then [] else 46 :: p)).take n=wh:=by rw [List.take_append_of_le_length (by omega),← hwl,List.take_length]
   have e2:(wh++(if p=[] then [] else 46 :: p)).drop n=(if p=[] then [] else 46 :: p):=by rw [← hwl,List.drop_left]
   rw [e1,e2]
   by_cases hp:p=[]
   ·rw [if_pos hp]
    subst hp
    show (reaN wh 0 neg).2=true
    unfold reaN
    by_cases hd0:(neg && decide (dval wh=0))=true
    ·exfalso
     simp only [Bool.and_eq_true,decide_eq_true_eq] at hd0
     have:=hz2 (by simpa using dval_zero hwd hd0.2)
     have:=hneg hd0.1
     omega
    ·rw [if_neg hd0]
   ·rw [if_neg hp]
    have hda:=digs_all hpd
    have hpl:p.length≠0:=fun h=>hp (List.length_eq_zero_iff.1 h)
    show (reaR neg wh (46 :: p) k).2=true
    unfold reaR
    simp only [if_true]
    rw [hda,if_neg (by omega)]
    unfold reaN
    by_cases hd0:(neg && decide (dval (wh++p)=0))=true
    ·exfalso
     simp only [Bool.and_eq_true,decide_eq_true_eq] at hd0
     have:=hz2 (dval_zero (fun b hb=>by
      rcases List.mem_append.1 hb with hb | hb
      ·exact hwd b hb
      ·exact hpd b hb) hd0.2)
     have:=hneg hd0.1
     omega
    ·rw [if_neg hd0]
 by_cases hzn:z < 0
 ·rw [if_pos hzn]
  unfold reaS
  have:reaNeg ([45]++(wh++(if p=[] then [] else 46 :: p))) true=true:=by
   unfold reaNeg;simp
  rw [this,if_pos rfl]
  exact hcore true fun _=>hzn
 ·rw [if_neg hzn,List.nil_append]
  unfold reaS
  have:reaNeg (wh++(if p=[] then [] else 46 :: p)) true=false:=by
   unfold reaNeg
   have h1:(wh++(if p=[] then [] else 46 :: p)).getD 0 0=wh.getD 0 0:=by
    rw [List.getD_eq_getElem?_getD,List.getElem?_append_left (by omega),← List.getD_eq_getElem?_getD]
   rw [h1]
   have h2:wh.getD 0 0≠45:=by
    intro e
    have:=hwd (wh.getD 0 0) (by rw [List.getD_eq_getElem?_getD,List.getElem?_eq_getElem (by omega)];exact List.getElem_mem _)
    rw [e] at this
    exact absurd this (by decide)
   rw [decide_eq_false h2,Bool.and_false,Bool.and_false]
  rw [this,if_neg Bool.false_ne_true]
  exact hcore false fun h=>by cases h
theorem wrt_split (z:Int) {k:Nat} (hk:0 < k):∃ pre d:List UInt8,wrt z k=pre++(46 :: d)∧txt z k=pre++(if trimR 48 d=[] then [] else 46 :: trimR 48 d)∧(∀ b∈d,isD b=true):=by
 unfold wrt txt
 have hdg:=padZ_dig k z.natAbs
 generalize padZ k (fmtN z.natAbs)=s at *
 refine ⟨(if z < 0 then [45] else [])++s.take (s.length - k),s.drop (s.length - k),?_,?_,fun b hb=>hdg b (List.mem_of_mem_drop hb)⟩
 ·rw [if_pos hk,List.append_assoc]
 ·rw [List.append_assoc]
theorem wrt_zero (z:Int):wrt z 0=txt z 0∧∃ l b,wrt z 0=l++[b]∧isD b=true:=by
 unfold wrt txt
 have hdg:=padZ_dig 0 z.natAbs
 have hpl:=padZ_len 0 (fmtN z.natAbs)
 generalize padZ 0 (fmtN z.natAbs)=s at *
 have e:trimR 48 (s.drop (s.length - 0))=[]:=by
  rw [Nat.sub_zero,List.drop_length];rfl
 rw [e,if_neg (Nat.lt_irrefl 0),if_pos (rfl:([]:List UInt8)=[]),List.append_nil,Nat.sub_zero,List.take_length]
 refine ⟨rfl,(if z < 0 then [45] else [])++s.take (s.length - 1),s.getD (s.length - 1) 0,?_,?_⟩
 ·rw [List.append_assoc,← snoc_of hpl]
 ·refine hdg _ ?_
  rw [List.getD_eq_getElem?_getD,List.getElem?_eq_getElem (by omega)]
  exact List.getElem_mem _
theorem wrt_len (z:Int) (hz:z.natAbs < BB ^ 32) {k:Nat} (hk:k≤9):(wrt z k).length≤2000:=by
 have hl:(fmtN z.natAbs).length≤309:=fmtN_len (k:=e309) (by decide) (Nat.lt_of_lt_of_le hz big309)
 have h2:(padZ k (fmtN z.natAbs)).length≤1000:=by
  unfold padZ;split
  ·simp only [List.length_append,List.length_replicate];omega
  ·omega
 unfold wrt
 generalize padZ k (fmtN z.natAbs)=s at *
 obtain ⟨sg,hsg⟩:∃ sg:List UInt8,(if z < 0 then [45] else [])=sg:=⟨_,rfl⟩
 have h3:sg.length≤1:=by rw [← hsg];split<;>simp
 rw [hsg]
 split
 ·simp only [List.length_append,List.length_take,List.length_drop,List.length_cons];omega
 ·simp only [List.length_append];omega
theorem last_snoc (l:List UInt8) (b:UInt8):(l++[b]).getD ((l++[b]).length - 1) 0=b:=by
 rw [List.getD_eq_getElem?_getD,List.length_append,List.length_singleton,Nat.add_sub_cancel,List.getElem?_append_right (Nat.le_refl _)]
 simp
theorem take_snoc (l:List UInt8) (b:UInt8):(l++[b]).take ((l++[b]).length - 1)=l:=by
 rw [List.length_append,List.length_singleton,Nat.add_sub_cancel,List.take_left]
theorem text_r {r:RQ} (hr:r.In) (n:Int):Pure Tryz.prog 195 [SV.c (.agg r.A),SV.c (.int .i64 n)] (resS (txtQ r n)):=by
 refine sx_pureC [8,10] tt_ok mixed at195 _ _ rfl rfl fun w=>?_
 have he:=exact_r hr n
 rcases Decidable.em (r.ok=true) with hk | hk
 case inr =>
  have hk:r.ok=false:=by simpa using hk
  rw [exaQ,hk,Bool.not_false,if_pos rfl] at he
  refine ⟨r.A_size,.inl ⟨_,he,fun _=>⟨?_,trivial⟩,nofun⟩⟩
  rw [txtQ,hk,Bool.not_false,if_pos rfl];rfl
 rcases Decidable.em (n < 0∨n > 9) with hn | hn
 ·rw [exaQ,hk,Bool.not_true,if_neg Bool.false_ne_true,if_pos hn] at he
  refine ⟨r.A_size,.inl ⟨_,he,fun _=>⟨?_,trivial⟩,nofun⟩⟩
  rw [txtQ,hk,Bool.not_true,if_neg Bool.false_ne_true,if_pos hn];rfl
 rw [exaQ,hk,Bool.not_true,if_neg Bool.false_ne_true,if_neg hn] at he
 obtain ⟨k,rfl⟩:∃ k:Nat,n=k:=⟨n.toNat,by omega⟩
 have hk9:k≤9:=by omega
 have hrd:=round_r hr k 1
 rw [rndQ,hk,Bool.not_true,if_neg Bool.false_ne_true,if_neg hn,if_neg (by omega)] at hrd
 have hlt:=rndZ_lt hk hk9 1
 rw [Int.toNat_natCast] at he hrd
 rw [txtQ,hk,Bool.not_true,if_neg Bool.false_ne_true,if_neg hn,Int.toNat_natCast]
 have hgoal:(if r.p*((tp k:Nat):Int) % r.q≠0 then (([],32):List UInt8×Int) else txtZ (r.p*((tp k:Nat):Int) / r.q) k)=if decide (r.p*((tp k:Nat):Int) % r.q=0)=true∧¬ 15 < (padZ k (fmtN (rndZ 1 (r.p*((tp k:Nat):Int)) r.q).natAbs)).length - k then (txt (rndZ 1 (r.p*((tp k:Nat):Int)) r.q) k,0) else ([],32):=by
  by_cases h0:r.p*((tp k:Nat):Int) % r.q=0
  ·rw [if_neg (by simpa using h0),txtZ_eq]
   have e:rndZ 1 (r.p*((tp k:Nat):Int)) r.q=r.p*((tp k:Nat):Int) / r.q:=by unfold rndZ;rw [if_pos h0]
   rw [e]
   by_cases h15:15 < (padZ k (fmtN (r.p*((tp k:Nat):Int) / r.q).natAbs)).length - k
   ·rw [if_pos h15,if_neg (fun h=>h.2 h15)]
   ·rw [if_neg h15,if_pos ⟨decide_eq_true h0,h15⟩]
  ·rw [if_pos h0,if_neg (fun h=>h0 (of_decide_eq_true h.1))]
 rw [hgoal]
 generalize rndZ 1 (r.p*((tp k:Nat):Int)) r.q=v at *
 generalize decide (r.p*((tp k:Nat):Int) % r.q=0)=is at *
 have hwr:=written_r (isI_e hlt) hk9
 have hwl:=wrt_len v hlt hk9
 have hrd:Pure Tryz.prog 166 [SV.c (.agg r.A),SV.c (.int .i64 (k:Nat)),SV.c (.int .i64 1)] (.tuple #[.agg (eA v),.int .i64 0]):=hrd
 refine ⟨r.A_size,.inl ⟨_,he,nofun,fun _=>.inl ⟨_,hrd,eA_fits _,.inl ⟨_,hwr,?_⟩⟩⟩⟩
 refine ⟨fun f1 m1=>∃ (t l:List UInt8) (b:UInt8),t=l++[b]∧t.length≤2000∧txt v k=(if b=46 then l else t)∧f1=[(1,SV.c (.int .i64 k)),(6,SV.c (.bool is)),(10,SV.c (.string (S t)))]∧m1=[],?_,?_⟩
 ·refine ⟨fun q f m=>∃ t:List UInt8,q=t.length∧t.length≤2000∧(k=0→t=wrt v k)∧(0 < k→∀ pre d,wrt v k=pre++(46 :: d)→∃ d2,t=pre++(46 :: d2)∧trimR 48 d2=trimR 48 d)∧f=[(1,SV.c (.int .i64 k)),(6,SV.c (.bool is)),(10,SV.c (.string (S t)))]∧m=[],(wrt v k).length,⟨[(1,SV.c (.int .i64 k)),(6,SV.c (.bool is)),(10,SV.c (.string (S (wrt v k))))],[],⟨wrt v k,rfl,hwl,fun _=>rfl,fun _ pre d e=>⟨d,e,rfl⟩,rfl,rfl⟩,⟨rfl,rfl,rfl,trivial⟩,trivial,rfl⟩,?_⟩
  rintro q f m ⟨t,rfl,htl,h0,hp,rfl,rfl⟩
  refine ⟨fun h1=>?_,fun h1=>⟨nofun,fun _=>?_⟩⟩
  ·have h1:0 < k:=by have:=of_decide_eq_true h1;omega
   obtain ⟨pre,d,e1,e2,e3⟩:=wrt_split v h1
   obtain ⟨d2,rfl,htr⟩:=hp h1 pre d e1
   have hlen:0 < (pre++(46 :: d2)).length:=by simp;omega
   have hn1:IntKind.i64.wrap (((pre++(46 :: d2)).length:Int) - 1)=(((pre++(46 :: d2)).length - 1:Nat):Int):=by rw [i64_in (by omega)];omega
   have hx:=runs_idx (E:=(envP Tryz.prog tt Tryz.f195.ntmps w [8,10]).toEnv) Tryz.underlying9 (l:=pre++(46 :: d2)) (k:=.i64) ((pre++(46 :: d2)).length - 1) hn1 (by omega)
   have c48:=u8_eq ((pre++(46 :: d2)).getD ((pre++(46 :: d2)).length - 1) 0) 48
   have h48:(48:UInt8).toNat=48:=rfl
   rw [h48] at c48
   refine ⟨_,fun w _=>run_len_S Tryz.underlying9 w,_,hx,fun h2=>?_,fun h2=>?_⟩
   ·have h2:=of_decide_eq_true (c48.symm.trans h2)
    have hd2:d2≠[]:=by
     intro e
     subst e
     rw [last_snoc] at h2
     exact absurd h2 (by decide)
    obtain ⟨d3,x,rfl⟩:∃ d3 x,d2=d3++[x]:=⟨_,_,snoc_of (List.length_pos_iff.2 hd2)⟩
    have et:pre++(46 :: (d3++[x]))=(pre++(46 :: d3))++[x]:=by simp
    rw [et,last_snoc] at h2
    subst h2
    have hsl:=runs_hi (E:=(envP Tryz.prog tt Tryz.f195.ntmps w [8,10]).toEnv) Tryz.underlying9 (l:=pre++(46 :: (d3++[48]))) (k:=.i64) ((pre++(46 :: (d3++[48]))).length - 1) hn1 (by omega)
    have etk:(pre++(46 :: (d3++[48]))).take ((pre++(46 :: (d3++[48]))).length - 1)=pre++(46 :: d3):=by rw [et,take_snoc]
    rw [etk] at hsl
    refine ⟨_,fun w _=>run_len_S Tryz.underlying9 w,_,hsl,(pre++(46 :: d3)).length,_,_,by rw [et];simp,⟨_,rfl,?_,fun e=>absurd e (by omega),fun _ pre' d' e'=>?_,rfl,rfl⟩,⟨rfl,rfl,rfl,trivial⟩,trivial,rfl⟩
    ·rw [et] at htl;simp at htl ⊢;omega
    ·obtain ⟨d4,e4,e5⟩:=hp h1 pre' d' e'
     rw [et] at e4
     have e6:∃ d5,d4=d5++[48]∧pre++(46 :: d3)=pre'++(46 :: d5):=by
      rcases List.eq_nil_or_concat d4 with hd4 | ⟨d5,y,hd4⟩
      ·subst hd4
       exact absurd (List.append_inj' e4 rfl).2 (by decide)
      ·rw [List.concat_eq_append] at hd4
       subst hd4
       rw [show pre'++(46 :: (d5++[y]))=(pre'++(46 :: d5))++[y] by simp] at e4
       obtain ⟨ea,eb⟩:=List.append_inj' e4 rfl
       simp only [List.cons.injEq,and_true] at eb
       exact ⟨d5,by rw [← eb],ea⟩
     obtain ⟨d5,rfl,e7⟩:=e6
     refine ⟨d5,e7,?_⟩
     rw [trimR_snoc,if_pos rfl] at e5
     exact e5
   ·have h2:=of_decide_eq_false (c48.symm.trans h2)
    by_cases hd2:d2=[]
    ·subst hd2
     refine ⟨_,_,⟨pre++[46],pre,46,rfl,htl,?_,rfl,rfl⟩,⟨rfl,rfl,rfl,trivial⟩,trivial,rfl⟩
     rw [if_pos rfl,e2,← htr]
     show pre++[]=pre
     rw [List.append_nil]
    ·obtain ⟨d3,x,rfl⟩:∃ d3 x,d2=d3++[x]:=⟨_,_,snoc_of (List.length_pos_iff.2 hd2)⟩
     have et:pre++(46 :: (d3++[x]))=(pre++(46 :: d3))++[x]:=by simp
     rw [et,last_snoc] at h2
     rw [trimR_snoc,if_neg h2] at htr
     have hxD:isD x=true:=by
      obtain ⟨mm,hmm⟩:=trimR_eq 48 d
      refine e3 x ?_
      rw [hmm,← htr];simp
     have hx46:x≠46:=by rintro rfl;exact absurd hxD (by decide)
     refine ⟨_,_,⟨pre++(46 :: (d3++[x])),pre++(46 :: d3),x,et,htl,?_,rfl,rfl⟩,⟨rfl,rfl,rfl,trivial⟩,trivial,rfl⟩
     rw [if_neg hx46,e2,← htr,if_neg hd2]
  ·have h1:k=0:=by have:=of_decide_eq_false h1;omega
   subst h1
   obtain ⟨e1,l,b,e2,e3⟩:=wrt_zero v
   have ht:=h0 rfl
   have hb46:b≠46:=by rintro rfl;exact absurd e3 (by decide)
   refine ⟨_,_,⟨t,l,b,by rw [ht,e2],htl,?_,rfl,rfl⟩,⟨rfl,rfl,rfl,trivial⟩,trivial,rfl⟩
   rw [if_neg hb46,ht,e1]
 ·rintro f1 m1 ⟨t,l,b,htt,htl,ht,rfl,rfl⟩
  have hlen:t.length=l.length+1:=by rw [htt];simp
  have hn1:IntKind.i64.wrap ((t.length:Int) - 1)=((t.length - 1:Nat):Int):=by rw [i64_in (by omega)];omega
  have hx:=runs_idx (E:=(envP Tryz.prog tt Tryz.f195.ntmps w [8,10]).toEnv) Tryz.underlying9 (l:=t) (k:=.i64) (t.length - 1) hn1 (by omega)
  have hlast:t.getD (t.length - 1) 0=b:=by rw [htt,last_snoc]
  rw [hlast] at hx
  have c46:=u8_eq b 46
  have h46:(46:UInt8).toNat=46:=rfl
  rw [h46] at c46
  have hsl:=runs_hi (E:=(envP Tryz.prog tt Tryz.f195.ntmps w [8,10]).toEnv) Tryz.underlying9 (l:=t) (k:=.i64) (t.length - 1) hn1 (by omega)
  have htk:t.take (t.length - 1)=l:=by rw [htt,take_snoc]
  rw [htk] at hsl
  have htxl:(txt v k).length≤2000:=by rw [ht];split<;>omega
  refine ⟨fun f1 m1=>f1=[(1,SV.c (.int .i64 k)),(6,SV.c (.bool is)),(10,SV.c (.string (S (txt v k))))]∧m1=[],⟨_,fun w _=>run_len_S Tryz.underlying9 w,_,hx,fun h1=>⟨_,fun w _=>run_len_S Tryz.underlying9 w,_,hsl,_,_,⟨rfl,rfl⟩,⟨rfl,rfl,c_str ?_,trivial⟩,trivial,rfl⟩,fun h1=>⟨_,_,⟨rfl,rfl⟩,⟨rfl,rfl,c_str ?_,trivial⟩,trivial,rfl⟩⟩,?_⟩
  ·rw [ht,if_pos (of_decide_eq_true (c46.symm.trans h1))]
  ·rw [ht,if_neg (of_decide_eq_false (c46.symm.trans h1))]
  rintro f1 m1 ⟨rfl,rfl⟩
  have hre:=read_r (txt v k) (k:Nat) (by omega) true (by omega)
  have hok:=reaS_txt v k
  generalize reaS (txt v k) (k:Nat) true=x at *
  obtain ⟨rr,okk⟩:=x
  have hre:Pure Tryz.prog 230 [SV.c (.string (S (txt v k))),SV.c (.int .i64 (k:Nat)),SV.c (.bool true)] (.tuple #[.agg rr.A,.bool okk]):=hre
  have hok:okk=!decide (15 < (padZ k (fmtN v.natAbs)).length - k):=hok
  refine .inl ⟨_,hre,RQ.A_fits _,fun h1=>⟨fun h2=>⟨?_,trivial⟩,fun h2=>⟨?_,trivial⟩⟩,fun h1=>⟨fun _=>⟨?_,trivial⟩,nofun⟩⟩
  ·have h2:=bnt h2
   rw [hok] at h2
   have h2:=of_decide_eq_true (of_bnf h2)
   rw [if_neg (fun h=>h.2 h2)];rfl
  ·have h1:is=true:=of_bnf h1
   have h2:=bnf h2
   rw [hok] at h2
   have h2:=of_decide_eq_false (bnt h2)
   rw [if_pos ⟨h1,h2⟩];rfl
  ·have h1:is=false:=bnt h1
   rw [h1,if_neg (fun h=>Bool.false_ne_true h.1)];rfl
theorem capital_r (x:Nat):Pure Tryz.prog 82 [SV.c (.int .u8 (x:Nat))] (.bool (decide (65≤x) && decide (x≤90))):=by
 refine sx_pure tt_ok mixed at82 _ _ rfl rfl fun w=>?_
 refine ⟨fun h=>⟨bv ?_,trivial⟩,fun h=>⟨bv ?_,trivial⟩⟩
 ·have h:=of_decide_eq_true h
  rw [decide_eq_true (by omega:65≤x),Bool.true_and,Bool.eq_iff_iff];simp only [decide_eq_true_eq];omega
 ·have h:=of_decide_eq_false h
  rw [decide_eq_false (by omega:¬ 65≤x),Bool.false_and]
theorem out_r (n:Int):Pure Tryz.prog 34 [SV.c (.int .i64 n)] (.bool (decide (n < 0) || decide (n > 73048))):=by
 refine sx_pure tt_ok mixed at34 _ _ rfl rfl fun w=>?_
 refine ⟨fun h=>⟨bv ?_,trivial⟩,fun h=>⟨bv ?_,trivial⟩⟩
 ·rw [show decide (n < 0)=false from h,Bool.false_or]
 ·rw [show decide (n < 0)=true from h,Bool.true_or]
theorem factor_r (n:Int):Pure Tryz.prog 152 [SV.c (.int .i64 n)] (.bool (facOk n)):=by
 refine sx_pure tt_ok mixed at152 _ _ rfl rfl fun w=>?_
 refine ⟨fun h=>⟨bv ?_,trivial⟩,fun h=>⟨bv ?_,trivial⟩⟩
 ·rw [facOk,decide_eq_true (of_decide_eq_true h:n ≥ 1),Bool.true_and]
 ·rw [facOk,decide_eq_false (of_decide_eq_false h:¬ n ≥ 1),Bool.false_and]
def capR (l:List UInt8) (j:Nat):Bool:=decide (65≤(l.getD j 0).toNat) && decide ((l.getD j 0).toNat≤90)
theorem capR_false (l:List UInt8) (j:Nat):capAt false l j=capR l j:=by
 unfold capAt capR;simp
theorem capR_zero (l:List UInt8):capAt true l 0=capR l 0:=by
 unfold capAt capR;simp
theorem curOk_eq (l:List UInt8):curOk l=(decide ((l.length:Int)=3) && (capR l 0 && (capR l 1 && capR l 2))):=by
 unfold curOk
 by_cases h:l.length=3
 ·rw [decide_eq_true (by omega:(l.length:Int)=3),decide_eq_true (by omega:(3:Int)≤l.length),decide_eq_true (by omega:(l.length:Int)≤3)]
  simp only [Bool.and_true,Bool.true_and]
  by_cases h0:capR l 0=true
  ·by_cases h1:capR l 1=true
   ·by_cases h2:capR l 2=true
    ·rw [h0,h1,h2]
     apply capAll_true
     intro j hj
     rw [capR_false]
     obtain rfl | rfl | rfl:j=0∨j=1∨j=2:=by omega
     ·exact h0
     ·exact h1
     ·exact h2
    ·have h2:capR l 2=false:=by simpa using h2
     rw [h2,Bool.and_false,Bool.and_false]
     exact capAll_false (j:=2) (by omega) (by rw [capR_false];exact h2)
   ·have h1:capR l 1=false:=by simpa using h1
    rw [h1,Bool.false_and,Bool.and_false]
    exact capAll_false (j:=1) (by omega) (by rw [capR_false];exact h1)
  ·have h0:capR l 0=false:=by simpa using h0
   rw [h0,Bool.false_and]
   exact capAll_false (j:=0) (by omega) (by rw [capR_false];exact h0)
 ·rw [decide_eq_false (by omega:¬ (l.length:Int)=3),Bool.false_and]
  by_cases h3:(3:Int)≤l.length
  ·rw [decide_eq_false (by omega:¬ (l.length:Int)≤3),Bool.and_false,Bool.and_false]
  ·rw [decide_eq_false h3,Bool.false_and,Bool.and_false]
theorem code_r (l:List UInt8) (_hl:l.length≤9223372036854775807):Pure Tryz.prog 79 [SV.c (.string (S l))] (.bool (curOk l)):=by
 refine sx_pure tt_ok mixed at79 _ _ rfl rfl fun w=>?_
 have hx:∀ i:Nat,i < l.length→Runs ((envP Tryz.prog tt Tryz.f79.ntmps w).toEnv) (Instr.index 9 (.string (S l)) (.int .i64 (i:Int))) (.int .u8 ((l.getD i 0).toNat:Nat)):=fun i h=>runs_idx Tryz.underlying9 i rfl h
 rw [curOk_eq]
 refine ⟨_,fun w _=>run_len_S Tryz.underlying9 w,fun h=>?_,fun h=>?_⟩
 ·have h:((l.length:Int) == 3)=true:=h
  have h:(l.length:Int)=3:=by simpa using h
  rw [decide_eq_true h,Bool.true_and]
  refine ⟨_,hx 0 (by omega),.inl ⟨_,capital_r _,fun h0=>⟨_,hx 1 (by omega),.inl ⟨_,capital_r _,fun h1=>⟨_,hx 2 (by omega),.inl ⟨_,capital_r _,bv ?_,trivial⟩⟩,fun h1=>⟨bv ?_,trivial⟩⟩⟩,fun h0=>⟨nofun,fun _=>⟨bv ?_,trivial⟩⟩⟩⟩
  ·rw [show capR l 0=true from h0,show capR l 1=true from h1];rfl
  ·rw [show capR l 0=true from h0,show capR l 1=false from h1];rfl
  ·rw [show capR l 0=false from h0];rfl
 ·have h:((l.length:Int) == 3)=false:=h
  have h:¬ (l.length:Int)=3:=by simpa using h
  rw [decide_eq_false h,Bool.false_and]
  refine ⟨nofun,fun _=>⟨nofun,fun _=>⟨rfl,trivial⟩⟩⟩
theorem capAt_eq (l:List UInt8) (j:Nat):capAt true l j=(capR l j || (!decide (j=0) && decide (48≤(l.getD j 0).toNat) && decide ((l.getD j 0).toNat≤57))):=by
 unfold capAt capR;rw [Bool.true_and]
theorem paper_r (l:List UInt8) (hl:l.length≤9223372036854775807):Pure Tryz.prog 51 [SV.c (.string (S l))] (.bool (insOk l)):=by
 refine sx_pure tt_ok mixed at51 _ _ rfl rfl fun w=>?_
 have hx:∀ i:Nat,i < l.length→Runs ((envP Tryz.prog tt Tryz.f51.ntmps w).toEnv) (Instr.index 9 (.string (S l)) (.int .i64 (i:Int))) (.int .u8 ((l.getD i 0).toNat:Nat)):=fun i h=>runs_idx Tryz.underlying9 i rfl h
 have hlen:∀ (w:World),(builtin .len #[9] 3 #[false] #[.string (S l)]).run Tryz.prog w=.ok (.value (.int .i64 (l.length:Nat))) w:=fun w=>run_len_S Tryz.underlying9 w
 have stop:∀ j,j < l.length→capAt true l j=false→insOk l=false:=fun j hj e=>by rw [insOk,capAll_false hj e];rfl
 refine ⟨_,fun w _=>run_len_S Tryz.underlying9 w,fun h1=>⟨_,fun w _=>run_len_S Tryz.underlying9 w,fun h2=>⟨_,hx 0 ?_,.inl ⟨_,capital_r _,fun h3=>⟨bv ?_,trivial⟩,fun h3=>?_⟩⟩,fun h2=>⟨fun _=>⟨bv ?_,trivial⟩,nofun⟩⟩,fun h1=>⟨nofun,fun _=>⟨fun _=>⟨bv ?_,trivial⟩,nofun⟩⟩⟩
 ·have h1:decide ((l.length:Int) < 1)=false:=h1
  have h1:=of_decide_eq_false h1
  omega
 ·have h3:capR l 0=false:=bnt h3
  have h1:decide ((l.length:Int) < 1)=false:=h1
  have h1:=of_decide_eq_false h1
  rw [stop 0 (by omega) (by rw [capR_zero];exact h3)]
 ·have h1:decide ((l.length:Int) < 1)=false:=h1
  have h1:=of_decide_eq_false h1
  have h2:decide ((l.length:Int) > 12)=false:=h2
  have h2:=of_decide_eq_false h2
  have h3:capR l 0=true:=of_bnf h3
  refine ⟨fun q f m=>∃ i:Nat,q=l.length - i∧i≤l.length∧(∀ j,j < i→capAt true l j=true)∧f=[(0,SV.c (.string (S l))),(3,SV.c (.int .i64 i))]∧m=[],l.length,⟨_,_,⟨0,rfl,Nat.zero_le _,fun j hj=>absurd hj (by omega),rfl,rfl⟩,⟨rfl,rfl,trivial⟩,trivial,rfl⟩,?_⟩
  rintro q f m ⟨i,rfl,hi1,hall,rfl,rfl⟩
  refine ⟨_,fun w _=>run_len_S Tryz.underlying9 w,fun h=>?_,fun h=>?_⟩
  ·have h:i < l.length:=by have:=of_decide_eq_true h;omega
   have hnext:capAt true l i=true→∀ j,j < i+1→capAt true l j=true:=fun e j hj=>by
    by_cases e2:j=i
    ·rw [e2];exact e
    ·exact hall j (by omega)
   refine ⟨_,hx i h,.inl ⟨_,capital_r _,fun h4=>⟨_,hx i h,fun h5=>⟨_,hx i h,fun h6=>⟨bv ?_,trivial⟩,fun h6=>?_⟩,fun h5=>⟨fun _=>⟨bv ?_,trivial⟩,nofun⟩⟩,fun h4=>⟨nofun,fun _=>?_⟩⟩⟩
   ·have h4:capR l i=false:=bnt h4
    have h6:=of_decide_eq_true h6
    rw [stop i h]
    rw [capAt_eq,h4,decide_eq_false (by omega:¬ (l.getD i 0).toNat≤57),Bool.and_false,Bool.or_false]
   ·have h4:capR l i=false:=bnt h4
    have h5:=of_decide_eq_false h5
    have h6:=of_decide_eq_false h6
    have hi0:¬ i=0:=by intro e;rw [e,h3] at h4;cases h4
    exact ⟨l.length - (i+1),_,_,by omega,⟨i+1,rfl,by omega,hnext (by rw [capAt_eq,h4,decide_eq_false hi0,decide_eq_true (by omega:48≤(l.getD i 0).toNat),decide_eq_true (by omega:(l.getD i 0).toNat≤57)];rfl),rfl,rfl⟩,⟨rfl,c_int (by rw [i64_in (by omega)];rfl),trivial⟩,trivial,rfl⟩
   ·have h4:capR l i=false:=bnt h4
    have h5:=of_decide_eq_true h5
    rw [stop i h]
    rw [capAt_eq,h4,decide_eq_false (by omega:¬ 48≤(l.getD i 0).toNat),Bool.and_false,Bool.false_and,Bool.or_false]
   ·have h4:capR l i=true:=of_bnf h4
    exact ⟨l.length - (i+1),_,_,by omega,⟨i+1,rfl,by omega,hnext (by rw [capAt_eq,h4,Bool.true_or]),rfl,rfl⟩,⟨rfl,c_int (by rw [i64_in (by omega)];rfl),trivial⟩,trivial,rfl⟩
  ·have h:i=l.length:=by have:=of_decide_eq_false h;omega
   subst h
   refine ⟨bv ?_,trivial⟩
   rw [insOk,capAll_true hall,decide_eq_true (by omega:1≤l.length),decide_eq_true (by omega:l.length≤12)];rfl
 ·have h2:decide ((l.length:Int) > 12)=true:=h2
  have h2:=of_decide_eq_true h2
  rw [insOk,decide_eq_false (by omega:¬ l.length≤12),Bool.and_false,Bool.and_false]
 ·have h1:decide ((l.length:Int) < 1)=true:=h1
  have h1:=of_decide_eq_true h1
  rw [insOk,decide_eq_false (by omega:¬ 1≤l.length),Bool.false_and,Bool.and_false]
theorem betQ_pay {r:RQ}:((txtQ r 6).2 == 0 && betQ r 0 1000000000)=payOk r:=by
 unfold payOk betQ
 by_cases hk:r.ok=true
 ·rw [hk]
  simp only [Bool.true_and,Int.zero_mul]
  by_cases h0:0≤r.p
  ·by_cases h1:r.p≤1000000000*r.q
   ·rw [pay_txt hk h0 h1]
    by_cases h:r.p*1000000 % r.q=0
    ·rw [if_pos h];simp [h]
    ·rw [if_neg h];simp [h]
   ·simp [h1]
  ·simp [h0]
 ·have hk:r.ok=false:=by simpa using hk
  rw [txt_inv hk,hk];rfl
theorem price_r {r:RQ} (hr:r.In):Pure Tryz.prog 151 [SV.c (.agg r.A)] (.bool (payOk r)):=by
 refine sx_pure tt_ok mixed at151 _ _ rfl rfl fun w=>?_
 rw [← betQ_pay]
 refine ⟨r.A_size,.inl ⟨_,text_r hr 6,fun h=>.inl ⟨_,between_r hr (by decide) (by decide) (by decide) (by decide),bv ?_,trivial⟩,fun h=>⟨bv ?_,trivial⟩⟩⟩
 ·rw [show ((txtQ r 6).2 == 0)=true from h,Bool.true_and]
 ·rw [show ((txtQ r 6).2 == 0)=false from h,Bool.false_and]
theorem one_in0:(RQ.of 0 1).In:=⟨i64_lt (n:=0) (by omega) (by omega),i64_lt (n:=1) (by omega) (by omega)⟩
theorem neq_zero {r:RQ} (h:payOk r=true):(!r.beq (.of 0 1))=decide (sgn r.p > 0):=by
 unfold payOk at h
 simp only [Bool.and_eq_true,decide_eq_true_eq] at h
 obtain ⟨hk,-,h0,-⟩:=h
 obtain ⟨-,-,k3,k4,k5⟩:=RQ.ok_bits hk
 by_cases hp:r.p=0
 ·rw [hp] at k4
  have:r.q=1:=by rw [Int.gcd_zero_left] at k4;omega
  rw [hp,this] at k5
  rw [(RQ.beq_iff _ _).mpr k5,hp];rfl
 ·have:r.beq (.of 0 1)=false:=by
    cases e:r.beq (.of 0 1) with
    | false=>rfl
    | true=>exact absurd (by rw [(RQ.beq_iff _ _).mp e,RQ.of_p]) hp
  rw [this]
  have:sgn r.p > 0:=by
   unfold sgn
   repeat' split
   all_goals omega
  rw [decide_eq_true this];rfl
theorem valid_ra {a:AC} (ha:a.In):Pure Tryz.prog 105 [SV.c (.agg a.A)] (.bool (validA a)):=by
 refine sx_pure tt_ok mixed at105 _ _ rfl rfl fun w=>?_
 have no:hdrOk a=false→mkRes [.bool false]=.bool (validA a):=fun h=>by rw [validA,h];rfl
 have len:∀ (E:Env),E.P=Tryz.prog→∀ (ty:TypeId) (l:List UInt8) (cs:Array Bool) (w:World),OldW E w→(builtin .len #[9] ty cs #[.string (S l)]).run E.P w=.ok (.value (.int .i64 (l.length:Nat))) w:=fun E hE ty l cs w _=>by rw [hE];exact run_len_S Tryz.underlying9 w
 refine ⟨a.size,_,a.g1,_,len _ rfl _ _ _,fun h1=>⟨_,a.g1,_,len _ rfl _ _ _,fun h2=>⟨_,a.g74,fun h3=>⟨_,a.g74,fun h4=>?_,fun h4=>?_⟩,fun h3=>?_⟩,fun h2=>?_⟩,fun h1=>?_⟩
 ·have h4:decide (a.known > 2147483647)=true:=h4
  refine ⟨no ?_,trivial⟩
  rw [hdrOk,h4];simp
 ·have h1:decide (((a.key.length:Nat):Int) < 1)=false:=h1
  have h2:decide (((a.key.length:Nat):Int) > 64)=false:=h2
  have h3:decide (a.known < 1)=false:=h3
  have h4:decide (a.known > 2147483647)=false:=h4
  have h1:(((a.key.length:Nat):Int) == 0)=false:=by have:=of_decide_eq_false h1;simp;intro e;rw [e] at this;simp at this
  have hh:hdrOk a=true:=by rw [hdrOk,h1,h2,h3,h4];rfl
  have va:validA a=(if a.void then a.beq (.nil a.key a.known) else bodyOk a && kindOk a):=by rw [validA,hh,Bool.true_and]
  rw [va]
  refine ⟨_,a.g75,fun h5=>?_,fun h5=>?_⟩
  ·have h5:a.void=true:=h5
   rw [if_pos h5]
   exact ⟨_,a.g1,_,a.g74,_,fill_void a.key a.known rfl,_,eql_action rfl ha.cash nil_in,rfl,trivial⟩
  ·have h5:¬ (a.void=true):=by intro e;rw [e] at h5;cases h5
   rw [if_neg h5]
   have nob:bodyOk a=false→mkRes [.bool false]=.bool (bodyOk a && kindOk a):=fun h=>by rw [h];rfl
   have hp:=price_r ha.cash
   have hc:=code_r a.cur ha.cur
   have hi:=paper_r a.ins ha.ins
   have hz:=zeroR_r
   have hi2:=paper_r a.into ha.into
   refine ⟨_,a.g2,.inl ⟨_,hi,fun q1=>⟨_,a.g4,.inl ⟨_,out_r _,fun q2=>⟨by decide,_,a.gcash,.inl ⟨_,hp,fun q4=>⟨_,a.g73,.inl ⟨_,hc,fun q5=>?_,fun q5=>?_⟩⟩,fun q4=>?_⟩⟩,fun q2=>?_⟩⟩,fun q1=>?_⟩⟩
   ·have q5:curOk a.cur=false:=bnt q5
    refine ⟨nob ?_,trivial⟩
    rw [bodyOk,q5];simp
   ·have q1:insOk a.ins=true:=of_bnf q1
    have q2:(decide (a.day < 0) || decide (a.day > 73048))=false:=q2
    have q3:=(Bool.or_eq_false_iff.mp q2).2
    have q2:=(Bool.or_eq_false_iff.mp q2).1
    have q4:payOk a.cash=true:=of_bnf q4
    have q5:curOk a.cur=true:=of_bnf q5
    have hb:bodyOk a=true:=by rw [bodyOk,q1,q2,q3,q4,q5];rfl
    rw [hb,Bool.true_and]
    have ein:((S a.into).toList == (S []).toList)=decide (a.into=[]):=S_beq _ []
    have ens:((S a.into).toList == (S a.ins).toList)=decide (a.into=a.ins):=S_beq _ _
    refine ⟨_,a.g0,fun k1=>⟨_,a.g3,fun k2=>⟨_,a.g5,.inl ⟨_,factor_r _,fun k3=>⟨_,a.g6,.inl ⟨_,factor_r _,bv ?_,trivial⟩⟩,fun k3=>⟨bv ?_,trivial⟩⟩⟩,fun k2=>⟨nofun,fun _=>⟨bv ?_,trivial⟩⟩⟩,fun k1=>⟨fun m1=>⟨_,a.g3,fun k2=>⟨_,a.g5,fun k3=>⟨_,a.g6,fun k4=>⟨by decide,_,a.gcash,.inl ⟨_,hz,_,neq_ratio rfl ha.cash one_in0,by kernel_rfl,bv ?_,trivial⟩⟩,fun k4=>⟨by kernel_rfl,bv ?_,trivial⟩⟩,fun k3=>⟨nofun,fun _=>⟨by kernel_rfl,bv ?_,trivial⟩⟩⟩,fun k2=>⟨nofun,fun _=>⟨nofun,fun _=>⟨by kernel_rfl,bv ?_,trivial⟩⟩⟩⟩,fun m1=>⟨fun n1=>⟨_,a.g3,.inl ⟨_,hi2,fun k2=>⟨_,a.g3,_,a.g2,fun k3=>⟨_,a.g5,.inl ⟨_,factor_r _,fun k4=>⟨_,a.g6,.inl ⟨_,factor_r _,bv ?_,trivial⟩⟩,fun k4=>⟨bv ?_,trivial⟩⟩⟩,fun k3=>⟨nofun,fun _=>⟨bv ?_,trivial⟩⟩⟩,fun k2=>⟨nofun,fun _=>⟨nofun,fun _=>⟨bv ?_,trivial⟩⟩⟩⟩⟩,fun n1=>⟨bv ?_,trivial⟩⟩⟩⟩
    ·have k2:=ein.symm.trans k2
     have k1:a.kind=1:=by simpa using k1
     have k3:facOk a.num=true:=k3
     rw [kindOk,if_pos k1,k2,k3,Bool.true_and,Bool.true_and]
    ·have k2:=ein.symm.trans k2
     have k1:a.kind=1:=by simpa using k1
     have k3:facOk a.num=false:=k3
     rw [kindOk,if_pos k1,k3,Bool.false_and,Bool.and_false]
    ·have k2:=ein.symm.trans k2
     have k1:a.kind=1:=by simpa using k1
     rw [kindOk,if_pos k1,k2];rfl
    ·have k2:=ein.symm.trans k2
     have k1:¬ a.kind=1:=by intro e;rw [e] at k1;simp at k1
     have m1:a.kind=2:=by simpa using m1
     have k3:(a.num == 0)=true:=k3
     have k4:(a.den == 0)=true:=k4
     rw [kindOk,if_neg k1,if_pos m1,k2,k3,k4,Bool.true_and,Bool.true_and,Bool.true_and]
     exact neq_zero q4
    ·have k1:¬ a.kind=1:=by intro e;rw [e] at k1;simp at k1
     have m1:a.kind=2:=by simpa using m1
     have k4:(a.den == 0)=false:=k4
     rw [kindOk,if_neg k1,if_pos m1,k4,Bool.false_and,Bool.and_false,Bool.and_false]
    ·have k1:¬ a.kind=1:=by intro e;rw [e] at k1;simp at k1
     have m1:a.kind=2:=by simpa using m1
     have k3:(a.num == 0)=false:=k3
     rw [kindOk,if_neg k1,if_pos m1,k3,Bool.false_and,Bool.and_false]
    ·have k2:=ein.symm.trans k2
     have k1:¬ a.kind=1:=by intro e;rw [e] at k1;simp at k1
     have m1:a.kind=2:=by simpa using m1
     rw [kindOk,if_neg k1,if_pos m1,k2];rfl
    ·have k1:¬ a.kind=1:=by intro e;rw [e] at k1;simp at k1
     have m1:¬ a.kind=2:=by intro e;rw [e] at m1;simp at m1
     have n1:a.kind=3:=by simpa using n1
     have k2:insOk a.into=true:=k2
     have k3:=bnt (ens ▸ k3)
     have k4:facOk a.num=true:=k4
     rw [kindOk,if_neg k1,if_neg m1,if_pos n1,k2,k3,k4];rfl
    ·have k1:¬ a.kind=1:=by intro e;rw [e] at k1;simp at k1
     have m1:¬ a.kind=2:=by intro e;rw [e] at m1;simp at m1
     have n1:a.kind=3:=by simpa using n1
     have k4:facOk a.num=false:=k4
     rw [kindOk,if_neg k1,if_neg m1,if_pos n1,k4,Bool.false_and,Bool.and_false,Bool.and_false]
    ·have k1:¬ a.kind=1:=by intro e;rw [e] at k1;simp at k1
     have m1:¬ a.kind=2:=by intro e;rw [e] at m1;simp at m1
     have n1:a.kind=3:=by simpa using n1
     have k3:=of_bnf (ens ▸ k3)
     rw [kindOk,if_neg k1,if_neg m1,if_pos n1,k3,Bool.not_true,Bool.false_and,Bool.and_false]
    ·have k1:¬ a.kind=1:=by intro e;rw [e] at k1;simp at k1
     have m1:¬ a.kind=2:=by intro e;rw [e] at m1;simp at m1
     have n1:a.kind=3:=by simpa using n1
     have k2:insOk a.into=false:=k2
     rw [kindOk,if_neg k1,if_neg m1,if_pos n1,k2];rfl
    ·have k1:¬ a.kind=1:=by intro e;rw [e] at k1;simp at k1
     have m1:¬ a.kind=2:=by intro e;rw [e] at m1;simp at m1
     have n1:¬ a.kind=3:=by intro e;rw [e] at n1;simp at n1
     rw [kindOk,if_neg k1,if_neg m1,if_neg n1]
   ·have q4:payOk a.cash=false:=bnt q4
    refine ⟨fun _=>⟨nob ?_,trivial⟩,nofun⟩
    rw [bodyOk,q4];simp
   ·have q2:(decide (a.day < 0) || decide (a.day > 73048))=true:=q2
    refine ⟨nofun,fun _=>⟨fun _=>⟨nob ?_,trivial⟩,nofun⟩⟩
    rw [bodyOk]
    rcases Bool.or_eq_true_iff.mp q2 with q2 | q2<;>rw [q2]<;>simp
   ·have q1:insOk a.ins=false:=bnt q1
    refine ⟨nofun,fun _=>⟨nofun,fun _=>⟨fun _=>⟨nob ?_,trivial⟩,nofun⟩⟩⟩
    rw [bodyOk,q1];rfl
 ·have h3:decide (a.known < 1)=true:=h3
  refine ⟨fun _=>⟨no ?_,trivial⟩,nofun⟩
  rw [hdrOk,h3];simp
 ·have h2:decide (((a.key.length:Nat):Int) > 64)=true:=h2
  refine ⟨nofun,fun _=>⟨fun _=>⟨no ?_,trivial⟩,nofun⟩⟩
  rw [hdrOk,h2];simp
 ·have h1:decide (((a.key.length:Nat):Int) < 1)=true:=h1
  refine ⟨nofun,fun _=>⟨nofun,fun _=>⟨fun _=>⟨no ?_,trivial⟩,nofun⟩⟩⟩
  have h1:(((a.key.length:Nat):Int) == 0)=true:=by have h1:=of_decide_eq_true h1;rw [beq_iff_eq];omega
  rw [hdrOk,h1];simp
end Go.Proofs.YtkaakbpeegpnkaaGreatDoor
