/- walks: usable names. walks: names, instruments and currencie; no condition. -/
import Derived.Test.YtklehfchdoikeaaGreatDoorP22
import Derived.Test.YtklehfchdoikeaaGreatDoorP23
set_option maxRecDepth 100000
set_option maxHeartbeats 4000000
namespace Go.Proofs.YtklehfchdoikeaaGreatDoor
open Go Go.RowKit Go.SX
def rx (b:UInt8):Bool:=(decide (97<=b.toNat) && decide (b.toNat<=122)) || (decide (48<=b.toNat) && decide (b.toNat<=57))
def KM (b:UInt8):Bool:=decide (48<=b.toNat) && decide (b.toNat<=57)
def cQ (l:List UInt8):Bool:=match l with
 | []=>false
 | b :: _=>decide (l.length<=16) && (!KM b && l.all rx)
theorem zF {l:List UInt8} (h:l.length=0):cQ l=false:=by
 cases l
 ·rfl
 ·simp at h
theorem n9 {l:List UInt8} (h:0 < l.length):cQ l=(decide (l.length<=16) && (!KM (l.getD 0 0) && l.all rx)):=by
 cases l
 ·simp at h
 ·rfl
theorem ER {p:UInt8->Bool} {l:List UInt8} {j:Nat} (hj:j < l.length) (h:p (l.getD j 0)=false):l.all p=false:=by
 rw [List.all_eq_false]
 refine ⟨l[j],List.getElem_mem hj,?_⟩
 rw [<- List.getElem_eq_getD (h:=hj) 0] at h
 rw [h];simp
theorem IS {p:UInt8->Bool} {l:List UInt8} (h:∀ j,j < l.length->p (l.getD j 0)=true):l.all p=true:=by
 rw [List.all_eq_true]
 intro x hx
 obtain ⟨j,hj,rfl⟩:=List.getElem_of_mem hx
 rw [List.getElem_eq_getD (h:=hj) 0]
 exact h j hj
theorem KL (x:Nat):ay Tryz.prog 181 [SV.c (.int .u8 (x:Nat))] (.bool (decide (48<=x) && decide (x<=57))):=by
 refine al ai ak Rv _ _ rfl rfl fun w=>?_
 refine ⟨fun h=>⟨bv ?_,trivial⟩,fun h=>⟨bv ?_,trivial⟩⟩
 ·have h:=af h
  rw [decide_eq_true (show 48<=x by omega),Bool.true_and]
  rw [Bool.eq_iff_iff];simp only [decide_eq_true_eq];omega
 ·have h:=ag h
  rw [decide_eq_false (show ¬ 48<=x by omega)];rfl
theorem Mk {l:List UInt8} {j:Nat} (h:j < (S l).size) (h2:j < l.length):((S l)[j]'h)=l.getD j 0:=by
 rw [<- List.getElem_eq_getD (h:=h2) 0]
 exact List.getElem_toArray (by simpa using h2)
theorem Dr {l:List UInt8} {pos:Nat} (h:pos < l.length):rx (l.getD pos 0)=((decide (97<=(Utf8.decode (S l) pos).1) && decide ((Utf8.decode (S l) pos).1<=122)) || (decide (48<=(Utf8.decode (S l) pos).1) && decide ((Utf8.decode (S l) pos).1<=57)))/\(rx (l.getD pos 0)=true->(Utf8.decode (S l) pos).2=1):=by
 have hs:pos < (S l).size:=by rw [bm];exact h
 have hg:=Mk hs h
 rcases Nat.lt_or_ge (l.getD pos 0).toNat 128 with hb | hb
 ·have:=Go.decode_ascii (S l) pos hs (by rw [hg];exact hb)
  rw [this,hg]
  exact ⟨rfl,fun _=>rfl⟩
 ·have:=(Go.decode_high (S l) pos hs (by rw [hg];exact hb)).1
  have e1:rx (l.getD pos 0)=false:=by
   unfold rx
   rw [decide_eq_false (show ¬ (l.getD pos 0).toNat<=122 by omega),decide_eq_false (show ¬ (l.getD pos 0).toNat<=57 by omega)];simp
  refine ⟨?_,fun h=>by rw [e1] at h;cases h⟩
  rw [e1,decide_eq_false (show ¬ (Utf8.decode (S l) pos).1<=122 by omega),decide_eq_false (show ¬ (Utf8.decode (S l) pos).1<=57 by omega)];simp
theorem Ai (l:List UInt8) (hl:l.length<=9223372036854775807):ay Tryz.prog 119 [SV.c (.string (S l))] (.bool (cQ l)):=by
 refine rH (vs:=[.string (S l)]) Mi.enters fun w0=>?_
 refine aD [] ai ak Mi _ rfl [SV.c (.string (S l))] [] _ rfl rfl fun w X β hT=>?_
 have hx:∀ i:Nat,i < l.length->bH ((aY Tryz.prog tt Tryz.f119.ntmps w X (aJ [] β)).toEnv) (Instr.index 9 (.string (S l)) (.int .i64 (i:Int))) (.int .u8 ((l.getD i 0).toNat:Nat)):=fun i h=>dO Tryz.underlying9 i rfl h
 have no:cQ l=false->∃ U σ,(Value.bool false=.bool (cQ l)/\U=([]:aA))/\fZ ([]:aA) (dW σ U)/\uv [] σ U=true:=fun h=>⟨[],[],⟨by rw [h],rfl⟩,trivial,rfl⟩
 refine ⟨_,fun w _=>aH Tryz.underlying9 w,fun h1=>⟨_,fun w _=>aH Tryz.underlying9 w,fun h2=>⟨_,hx 0 ?_,.inl ⟨_,KL _,fun h3=>no ?_,fun h3=>?_⟩⟩,fun h2=>?_⟩,fun h1=>?_⟩
 ·have h1:(((l.length:Nat):Int) == 0)=false:=h1
  have h1:¬ ((l.length:Nat):Int)=0:=by simpa using h1
  omega
 ·have h1:(((l.length:Nat):Int) == 0)=false:=h1
  have h1:¬ ((l.length:Nat):Int)=0:=by simpa using h1
  have h3:KM (l.getD 0 0)=true:=h3
  rw [n9 (by omega),h3];simp
 ·have h1:(((l.length:Nat):Int) == 0)=false:=h1
  have h1:¬ ((l.length:Nat):Int)=0:=by simpa using h1
  have h2:=ag (show decide (((l.length:Nat):Int) > 16)=false from h2)
  have h3:KM (l.getD 0 0)=false:=h3
  have hu:cQ l=l.all rx:=by rw [n9 (by omega),h3,decide_eq_true (show l.length<=16 by omega)];rfl
  rw [hu] at no ⊢
  refine un rfl rfl Tryz.underlying9 300 rfl rfl trivial fun r=>?_
  refine ⟨fun q f m=>∃ pos:Nat,q=l.length - pos/\pos<=l.length/\(∀ j,j < pos->rx (l.getD j 0)=true)/\f=[(0,SV.c (.string (S l))),(19,SV.c (.pointer (some ⟨r,0,none⟩)))]/\m=[(300,Blk.res r (fun o=>o=.stringIter (S l) pos))],l.length,⟨_,_,⟨0,rfl,by omega,fun j h=>by omega,rfl,rfl⟩,⟨rfl,rfl,trivial⟩,⟨rfl,trivial⟩,rfl⟩,?_⟩
  rintro q f m ⟨pos,rfl,hp,hall,rfl,rfl⟩
  refine xg rfl 300 rfl rfl trivial (fun h4=>?_) (fun h4=>?_)
  ·rw [bm] at h4
   refine ⟨fun h=>absurd h (by decide),fun _=>?_⟩
   exact ⟨[],[],⟨by rw [IS fun j hj=>hall j (by omega)];rfl,rfl⟩,trivial,rfl⟩
  ·rw [bm] at h4
   obtain ⟨hR,hW⟩:=Dr (l:=l) h4
   generalize (Utf8.decode (S l) pos).1=R at *
   generalize (Utf8.decode (S l) pos).2=W at *
   have bad:¬ ((97<=R/\R<=122)\/(48<=R/\R<=57))->∃ U σ,(Value.bool false=.bool (l.all rx)/\U=([]:aA))/\fZ [(300,Blk.res r (fun o=>o=.stringIter (S l) (pos+W)))] (dW σ U)/\uv [] σ U=true:=fun h=>⟨[],[],⟨by rw [ER h4 (by rw [hR];simpa using h)],rfl⟩,trivial,rfl⟩
   have good:((97<=R/\R<=122)\/(48<=R/\R<=57))->W=1/\∀ j,j < pos+1->rx (l.getD j 0)=true:=fun h=>by
    have h5:rx (l.getD pos 0)=true:=by rw [hR];simpa using h
    refine ⟨hW h5,fun j hj=>?_⟩
    rcases Nat.lt_or_ge j pos with h6 | h6
    ·exact hall j h6
    ·have:j=pos:=by omega
     subst this;exact h5
   have nxt:((97<=R/\R<=122)\/(48<=R/\R<=57))->l.length - (pos+1) < l.length - pos/\pos+1<=l.length/\W=1/\∀ j,j < pos+1->rx (l.getD j 0)=true:=fun h=>⟨by omega,by omega,good h⟩
   refine ⟨fun _=>⟨fun c1=>⟨fun c2=>⟨fun c3=>⟨fun c4=>bad ?_,fun c4=>?_⟩,fun c3=>⟨fun _=>bad ?_,fun h=>absurd h (by decide)⟩⟩,fun c2=>⟨fun h=>absurd h (by decide),fun _=>?_⟩⟩,fun c1=>⟨fun _=>⟨fun c3=>⟨fun c4=>bad ?_,fun c4=>?_⟩,fun c3=>⟨fun _=>bad ?_,fun h=>absurd h (by decide)⟩⟩,fun h=>absurd h (by decide)⟩⟩,fun h=>absurd h (by decide)⟩
   ·have c2:=af c2
    omega
   ·have c2:=af c2
    have c4:=ag (show decide (((R:Nat):Int) > 57)=false from c4)
    omega
   ·have c2:=af c2
    have c3:=af (show decide (((R:Nat):Int) < 48)=true from c3)
    omega
   ·have c1:=ag c1
    have c2:=ag (show decide (((R:Nat):Int) > 122)=false from c2)
    obtain ⟨n1,n2,rfl,n3⟩:=nxt (.inl ⟨by omega,by omega⟩)
    exact ⟨l.length - (pos+1),_,_,n1,⟨pos+1,rfl,n2,n3,rfl,rfl⟩,⟨rfl,rfl,trivial⟩,⟨rfl,trivial⟩,rfl⟩
   ·have c1:=af (show decide (((R:Nat):Int) < 97)=true from c1)
    have c4:=af (show decide (((R:Nat):Int) > 57)=true from c4)
    omega
   ·have c3:=ag (show decide (((R:Nat):Int) < 48)=false from c3)
    have c4:=ag (show decide (((R:Nat):Int) > 57)=false from c4)
    obtain ⟨n1,n2,rfl,n3⟩:=nxt (.inr ⟨by omega,by omega⟩)
    exact ⟨l.length - (pos+1),_,_,n1,⟨pos+1,rfl,n2,n3,rfl,rfl⟩,⟨rfl,rfl,trivial⟩,⟨rfl,trivial⟩,rfl⟩
   ·have c3:=af (show decide (((R:Nat):Int) < 48)=true from c3)
    have c1:=af (show decide (((R:Nat):Int) < 97)=true from c1)
    omega
 ·have h2:=af (show decide (((l.length:Nat):Int) > 16)=true from h2)
  exact ⟨fun _=>no (by rw [n9 (by omega),decide_eq_false (by omega)];rfl),fun h=>absurd h (by decide)⟩
 ·have h1:(((l.length:Nat):Int) == 0)=true:=h1
  have h1:((l.length:Nat):Int)=0:=by simpa using h1
  exact ⟨fun h=>absurd h (by decide),fun _=>⟨fun _=>no (zF (by omega)),fun h=>absurd h (by decide)⟩⟩
theorem tF (l:List UInt8) (hl:l.length<=9223372036854775807):ay Tryz.prog 229 [SV.c (.string (S l))] (.bool (cz true l && !decide (l=[]))):=by
 refine al ai ak QX _ _ rfl rfl fun w=>?_
 refine ⟨_,fun w _=>aH Tryz.underlying9 w,?_⟩
 refine ⟨fun q f m=>∃ i:Nat,q=l.length - i/\i<=l.length/\(∀ j,j < i->cX true l j=true)/\f=[(0,SV.c (.string (S l))),(5,SV.c (.int .i64 (l.length:Nat))),(6,SV.c (.int .i64 i))]/\m=[],l.length,⟨_,_,⟨0,rfl,Nat.zero_le _,fun j hj=>absurd hj (by omega),rfl,rfl⟩,⟨rfl,rfl,rfl,trivial⟩,trivial,rfl⟩,?_⟩
 rintro q f m ⟨i,rfl,hi1,hall,rfl,rfl⟩
 refine ⟨fun h=>?_,fun h=>?_⟩
 ·have h:i < l.length:=by have:=af h;omega
  have hx:=dO (E:=(iP Tryz.prog tt Tryz.f229.ntmps w).toEnv) Tryz.underlying9 (k:=.i64) i rfl h
  have hc:cX true l i=((decide (65<=(l.getD i 0).toNat) && decide ((l.getD i 0).toNat<=90)) || (true && !decide (i=0) && decide (48<=(l.getD i 0).toNat) && decide ((l.getD i 0).toNat<=57))):=rfl
  generalize (l.getD i 0).toNat=x at *
  have stop:cX true l i=false->cW [.bool false]=.bool (cz true l && !decide (l=[]))/\True:=fun e=>⟨by rw [de h e];rfl,trivial⟩
  have nxt:cX true l i=true->l.length - (i+1) < l.length - i/\i+1<=l.length/\(∀ j,j < i+1->cX true l j=true)/\IntKind.i64.wrap (((i:Nat):Int)+1)=((i+1:Nat):Int):=fun e=>⟨by omega,by omega,fun j hj=>by
   by_cases e2:j=i
   ·rw [e2];exact e
   ·exact hall j (by omega),by rw [i64_in (by omega)];rfl⟩
  refine ⟨_,hx,fun h1=>⟨_,hx,fun h2=>⟨fun h3=>⟨_,hx,fun h4=>⟨_,hx,fun h5=>stop ?_,fun h5=>?_⟩,fun h4=>?_⟩,fun h3=>?_⟩,fun h2=>⟨fun h=>absurd h (by decide),fun _=>?_⟩⟩,fun h1=>⟨fun _=>⟨fun h3=>⟨_,hx,fun h4=>⟨_,hx,fun h5=>stop ?_,fun h5=>?_⟩,fun h4=>?_⟩,fun h3=>?_⟩,fun h=>absurd h (by decide)⟩⟩
  ·have h1:=ag h1
   have h2:=af h2
   have hlow:(decide (65<=x) && decide (x<=90))=false:=by rw [decide_eq_false (by omega:¬ x<=90),Bool.and_false]
   rw [hlow,Bool.false_or] at hc
   have h5:=af (show decide (((x:Nat):Int) > 57)=true from h5)
   rw [hc,decide_eq_false (by omega:¬ x<=57),Bool.and_false]
  ·have h1:=ag h1
   have h2:=af h2
   have hlow:(decide (65<=x) && decide (x<=90))=false:=by rw [decide_eq_false (by omega:¬ x<=90),Bool.and_false]
   rw [hlow,Bool.false_or] at hc
   have h3:¬ i=0:=by intro e;subst e;simp at h3
   have h4:=ag (show decide (((x:Nat):Int) < 48)=false from h4)
   have h5:=ag (show decide (((x:Nat):Int) > 57)=false from h5)
   obtain ⟨n1,n2,n3,n4⟩:=nxt (by rw [hc,decide_eq_false h3,decide_eq_true (by omega:48<=x),decide_eq_true (by omega:x<=57)];rfl)
   exact ⟨l.length - (i+1),_,_,n1,⟨i+1,rfl,n2,n3,rfl,rfl⟩,⟨rfl,rfl,ar n4,trivial⟩,trivial,rfl⟩
  ·have h1:=ag h1
   have h2:=af h2
   have hlow:(decide (65<=x) && decide (x<=90))=false:=by rw [decide_eq_false (by omega:¬ x<=90),Bool.and_false]
   rw [hlow,Bool.false_or] at hc
   have h4:=af (show decide (((x:Nat):Int) < 48)=true from h4)
   exact ⟨fun _=>stop (by rw [hc,decide_eq_false (by omega:¬ 48<=x),Bool.and_false,Bool.false_and]),fun h=>absurd h (by decide)⟩
  ·have h1:=ag h1
   have h2:=af h2
   have hlow:(decide (65<=x) && decide (x<=90))=false:=by rw [decide_eq_false (by omega:¬ x<=90),Bool.and_false]
   rw [hlow,Bool.false_or] at hc
   have h3:i=0:=by have:(i:Int)=0:=by simpa using h3
                   omega
   exact ⟨fun h=>absurd h (by decide),fun _=>⟨fun _=>stop (by rw [hc,decide_eq_true h3];simp),fun h=>absurd h (by decide)⟩⟩
  ·have h1:=ag h1
   have h2:=ag h2
   obtain ⟨n1,n2,n3,n4⟩:=nxt (by rw [hc,decide_eq_true (by omega:65<=x),decide_eq_true (by omega:x<=90)];rfl)
   exact ⟨l.length - (i+1),_,_,n1,⟨i+1,rfl,n2,n3,rfl,rfl⟩,⟨rfl,rfl,ar n4,trivial⟩,trivial,rfl⟩
  ·have h1:=af h1
   have hlow:(decide (65<=x) && decide (x<=90))=false:=by rw [decide_eq_false (by omega:¬ 65<=x),Bool.false_and]
   rw [hlow,Bool.false_or] at hc
   have h5:=af (show decide (((x:Nat):Int) > 57)=true from h5)
   rw [hc,decide_eq_false (by omega:¬ x<=57),Bool.and_false]
  ·have h1:=af h1
   have hlow:(decide (65<=x) && decide (x<=90))=false:=by rw [decide_eq_false (by omega:¬ 65<=x),Bool.false_and]
   rw [hlow,Bool.false_or] at hc
   have h3:¬ i=0:=by intro e;subst e;simp at h3
   have h4:=ag (show decide (((x:Nat):Int) < 48)=false from h4)
   have h5:=ag (show decide (((x:Nat):Int) > 57)=false from h5)
   obtain ⟨n1,n2,n3,n4⟩:=nxt (by rw [hc,decide_eq_false h3,decide_eq_true (by omega:48<=x),decide_eq_true (by omega:x<=57)];rfl)
   exact ⟨l.length - (i+1),_,_,n1,⟨i+1,rfl,n2,n3,rfl,rfl⟩,⟨rfl,rfl,ar n4,trivial⟩,trivial,rfl⟩
  ·have h1:=af h1
   have hlow:(decide (65<=x) && decide (x<=90))=false:=by rw [decide_eq_false (by omega:¬ 65<=x),Bool.false_and]
   rw [hlow,Bool.false_or] at hc
   have h4:=af (show decide (((x:Nat):Int) < 48)=true from h4)
   exact ⟨fun _=>stop (by rw [hc,decide_eq_false (by omega:¬ 48<=x),Bool.and_false,Bool.false_and]),fun h=>absurd h (by decide)⟩
  ·have h1:=af h1
   have hlow:(decide (65<=x) && decide (x<=90))=false:=by rw [decide_eq_false (by omega:¬ 65<=x),Bool.false_and]
   rw [hlow,Bool.false_or] at hc
   have h3:i=0:=by have:(i:Int)=0:=by simpa using h3
                   omega
   exact ⟨fun h=>absurd h (by decide),fun _=>⟨fun _=>stop (by rw [hc,decide_eq_true h3];simp),fun h=>absurd h (by decide)⟩⟩
 ·have h:i=l.length:=by have:=ag h;omega
  subst h
  rw [fO hall,Bool.true_and]
  exact ⟨bv (by rw [show ((S l).toList == ByteArray.toList ⟨#[]⟩)=decide (l=[]) from eG l []]),trivial⟩
theorem Hl (l:List UInt8):((cz true l && !decide (l=[])) && decide (l.length<=12))=cB l:=by
 unfold cB
 cases l
 ·rfl
 ·simp
theorem Kj (l:List UInt8) (hl:l.length<=9223372036854775807):ay Tryz.prog 177 [SV.c (.string (S l))] (.bool (cB l)):=by
 refine al ai ak Rz _ _ rfl rfl fun w=>?_
 rw [<- Hl]
 refine .inl ⟨_,tF l hl,fun h=>⟨_,fun w _=>aH Tryz.underlying9 w,bv ?_,trivial⟩,fun h=>⟨bv ?_,trivial⟩⟩
 ·have h:(cz true l && !decide (l=[]))=true:=h
  rw [h,Bool.true_and,Bool.eq_iff_iff];simp only [decide_eq_true_eq];omega
 ·have h:(cz true l && !decide (l=[]))=false:=h
  rw [h];rfl
theorem zj (dg:Bool) (a b c:UInt8):cz dg [a,b,c]=(cX dg [a,b,c] 0 && (cX dg [a,b,c] 1 && (cX dg [a,b,c] 2 && true))):=rfl
theorem Im {l:List UInt8} (h:l.length=3):(cz true l && (decide (65<=(l.getD 1 0).toNat) && decide (65<=(l.getD 2 0).toNat)))=aF l:=by
 match l,h with
 | [a,b,c],_ =>
  unfold aF
  rw [zj,zj]
  simp only [cX,List.getD_cons_succ,List.getD_cons_zero,List.length_cons,List.length_nil]
  simp
  by_cases hb:65<=b.toNat
  ·by_cases hc:65<=c.toNat
   ·have e1:¬ b.toNat<=57:=by omega
    have e2:¬ c.toNat<=57:=by omega
    simp [hb,hc,e1,e2]
   ·simp [hc]
  ·simp [hb]
theorem Ny (l:List UInt8) (hl:l.length<=9223372036854775807):ay Tryz.prog 178 [SV.c (.string (S l))] (.bool (aF l)):=by
 refine al ai ak Ry _ _ rfl rfl fun w=>?_
 have hx:∀ i:Nat,i < l.length->bH ((iP Tryz.prog tt Tryz.f178.ntmps w).toEnv) (Instr.index 9 (.string (S l)) (.int .i64 (i:Int))) (.int .u8 ((l.getD i 0).toNat:Nat)):=fun i h=>dO Tryz.underlying9 i rfl h
 have no:aF l=false->cW [.bool false]=.bool (aF l)/\True:=fun h=>⟨by rw [h];rfl,trivial⟩
 have nolen:¬ l.length=3->aF l=false:=fun h=>by
  unfold aF
  by_cases h2:l.length<=3
  ·rw [decide_eq_false (show ¬ (3:Int)<=l.length by omega)];simp
  ·rw [decide_eq_false (show ¬ ((l.length:Nat):Int)<=3 by omega)];simp
 refine .inl ⟨_,tF l hl,fun h=>⟨_,fun w _=>aH Tryz.underlying9 w,fun h2=>?_,fun h2=>?_⟩,fun h=>?_⟩
 ·have h:(cz true l && !decide (l=[]))=true:=h
  have hca:cz true l=true:=by rw [Bool.and_eq_true] at h;exact h.1
  have h2:(((l.length:Nat):Int) == 3)=true:=h2
  have h2:l.length=3:=by have:((l.length:Nat):Int)=3:=by simpa using h2
                         omega
  have e:aF l=(decide (65<=(l.getD 1 0).toNat) && decide (65<=(l.getD 2 0).toNat)):=by rw [<- Im h2,hca,Bool.true_and]
  rw [e]
  refine ⟨_,hx 1 (by omega),fun h3=>⟨_,hx 2 (by omega),bv ?_,trivial⟩,fun h3=>⟨bv ?_,trivial⟩⟩
  ·have h3:=af h3
   rw [decide_eq_true (show 65<=(l.getD 1 0).toNat by omega),Bool.true_and,Bool.eq_iff_iff];simp only [decide_eq_true_eq];omega
  ·have h3:=ag (show decide ((((l.getD 1 0).toNat:Nat):Int) >= 65)=false from h3)
   rw [decide_eq_false (show ¬ 65<=(l.getD 1 0).toNat by omega),Bool.false_and]
 ·have h2:(((l.length:Nat):Int) == 3)=false:=h2
  have h2:¬ l.length=3:=by
   intro e
   rw [e] at h2;simp at h2
  exact ⟨fun h=>absurd h (by decide),fun _=>no (nolen h2)⟩
 ·have h:(cz true l && !decide (l=[]))=false:=h
  refine ⟨fun h=>absurd h (by decide),fun _=>⟨fun h=>absurd h (by decide),fun _=>no ?_⟩⟩
  by_cases h2:l.length=3
  ·rw [<- Im h2]
   have:l≠[]:=by intro e;rw [e] at h2;simp at h2
   have hca:cz true l=false:=by simpa [this] using h
   rw [hca];rfl
  ·exact nolen h2
def pA (r:RQ):Bool:=d8 r && decide (sgn r.p > 0)
theorem JM {r:RQ} (hr:r.In):ay Tryz.prog 179 [SV.c (.agg r.A)] (.bool (pA r)):=by
 refine al ai ak Rx _ _ rfl rfl fun w=>?_
 have hc:=qW hr NM
 have hw:ay Tryz.prog 90 [SV.c (.int .i64 1000000000)] (.agg (RQ.of 1000000000 1).A):=dK (by omega) (by omega)
 have hp:=MU r
 have hs:r.ok=false->d8 r=false:=fun h=>by unfold d8;rw [h];rfl
 generalize (if r.ok && (RQ.of 1000000000 1).ok then eK (r.p*(RQ.of 1000000000 1).q) ((RQ.of 1000000000 1).p*r.q) else 0)=hi at *
 refine ⟨r.A_size,.inl ⟨_,FE hr 6,.inl ⟨_,BG hr,.inl ⟨_,hw,.inl ⟨_,hc,by kernel_rfl,fun h=>⟨fun h2=>⟨bv ?_,trivial⟩,fun h2=>⟨bv ?_,trivial⟩⟩,fun h=>⟨fun h=>absurd h (by decide),fun _=>⟨bv ?_,trivial⟩⟩⟩⟩⟩⟩⟩
 ·have h:((iX r 6).2 == 0)=true:=h
  have h2:=af h2
  have hk:r.ok=true:=by
   cases hk:r.ok with
   | true=>rfl
   | false=>rw [hk] at h2;simp at h2
  rw [hk,if_pos rfl] at h2 hp
  rw [h,decide_eq_true (show sgn r.p >= 0 by omega),Bool.true_and,Bool.true_and] at hp
  unfold pA
  rw [<- hp,decide_eq_true h2,Bool.and_true]
 ·have h2:=ag (show decide ((if r.ok then sgn r.p else 0) > 0)=false from h2)
  unfold pA
  cases hk:r.ok with
  | true=>rw [hk,if_pos rfl] at h2;rw [decide_eq_false h2,Bool.and_false]
  | false=>rw [hs hk];rfl
 ·have h:((iX r 6).2 == 0)=false:=h
  rw [h,Bool.false_and] at hp
  unfold pA
  rw [<- hp];rfl
structure QC where
 src:List UInt8
 ins:List UInt8
 cur:List UInt8
 day:Int
 price:RQ
 known:Int
 void:Bool
def QC.pre (a:QC):Array Value:=#[.string (S a.src),.string (S a.ins),.string (S a.cur),.int .i64 a.day]
def QC.post (a:QC):Array Value:=#[.int .i64 a.known,.bool a.void]
def QC.A (a:QC):Array Value:=a.pre++(a.price.A++a.post)
structure QC.In (a:QC):Prop where
 price:a.price.In
 src:a.src.length<=9223372036854775807
 ins:a.ins.length<=9223372036854775807
 cur:a.cur.length<=9223372036854775807
 day : -9223372036854775808<=a.day/\a.day<=9223372036854775807
theorem QC.size (a:QC):a.A.size=72:=by simp [QC.A,QC.pre,QC.post,RQ.A_size]
theorem QC.fits (a:QC):Fits a.A 72:=⟨a.size,by
 rw [QC.A,Array.all_append,Array.all_append,a.price.A_fits.one]
 simp [QC.pre,QC.post,Value.oneCell']⟩
theorem QC.one (a:QC):a.A.all (·.oneCell')=true:=a.fits.one
theorem QC.at_pre (a:QC) {i:Nat} (h:i < 4):a.A[i]? = a.pre[i]?:=by
 rw [QC.A,Array.getElem?_append_left (by simpa [QC.pre] using h)]
theorem QC.at_post (a:QC) {i:Nat} (h:70<=i):a.A[i]? = a.post[i - 70]?:=by
 rw [QC.A,Array.getElem?_append_right (by simp [QC.pre];omega),Array.getElem?_append_right (by simp [QC.pre,RQ.A_size];omega)]
 simp only [QC.pre,RQ.A_size]
 congr 1
theorem QC.g0 (a:QC):a.A[0]? = some (.string (S a.src)):=(a.at_pre (by omega)).trans rfl
theorem QC.g1 (a:QC):a.A[1]? = some (.string (S a.ins)):=(a.at_pre (by omega)).trans rfl
theorem QC.g2 (a:QC):a.A[2]? = some (.string (S a.cur)):=(a.at_pre (by omega)).trans rfl
theorem QC.g3 (a:QC):a.A[3]? = some (.int .i64 a.day):=(a.at_pre (by omega)).trans rfl
theorem QC.g70 (a:QC):a.A[70]? = some (.int .i64 a.known):=(a.at_post (by omega)).trans rfl
theorem QC.g71 (a:QC):a.A[71]? = some (.bool a.void):=(a.at_post (by omega)).trans rfl
theorem QC.gpri (a:QC):a.A.extract 4 (4+66)=a.price.A:=by
 apply Array.ext'
 simp [QC.A,QC.pre,RQ.A_size,List.extract_eq_take_drop]
 exact List.take_of_length_le (by simp [RQ.A_size])
def aG:RQ:=⟨false,0,false,0⟩
theorem iS:aG.In:=⟨bJ,bJ⟩
theorem I5:aG.A=cR.zero:=by kernel_rfl
def bW (a:QC):Bool:=cQ a.src && (cB a.ins && (aF a.cur && ((decide (0<=a.day) && decide (a.day<=73048)) && (if a.void then a.price.beq aG else pA a.price))))
theorem JD {a:QC} (ha:a.In):ay Tryz.prog 115 [SV.c (.agg a.A)] (.bool (bW a)):=by
 refine al ai ak SD _ _ rfl rfl fun w=>?_
 have no:bW a=false->cW [.bool false]=.bool (bW a)/\True:=fun h=>⟨by rw [h];rfl,trivial⟩
 have n1:=Ai a.src ha.src
 have n2:=Kj a.ins ha.ins
 have n3:=Ny a.cur ha.cur
 have n4:=JM ha.price
 have g0:=a.g0
 have g1:=a.g1
 have g2:=a.g2
 have g3:=a.g3
 have g71:=a.g71
 have gp:=a.gpri
 have hsz:=a.size
 have hf:=a.fits
 generalize hY:a.A=YA at *
 refine ⟨hsz,_,g0,.inl ⟨_,n1,fun h1=>⟨_,g1,.inl ⟨_,n2,fun h2=>⟨_,g2,.inl ⟨_,n3,fun h3=>⟨_,g3,fun h4=>⟨_,g3,fun h5=>?_,fun h5=>?_⟩,fun h4=>?_⟩,fun h3=>?_⟩⟩,fun h2=>?_⟩⟩,fun h1=>?_⟩⟩
 ·have h5:=af h5
  exact no (by unfold bW;rw [decide_eq_false (show ¬ a.day<=73048 by omega)];simp)
 ·have h1:cQ a.src=true:=bX h1
  have h2:cB a.ins=true:=bX h2
  have h3:aF a.cur=true:=bX h3
  have h4:=ag (show decide (a.day < 0)=false from h4)
  have h5:=ag (show decide (a.day > 73048)=false from h5)
  have hr:bW a=if a.void then a.price.beq aG else pA a.price:=by
   unfold bW
   rw [h1,h2,h3,decide_eq_true (show 0<=a.day by omega),decide_eq_true (show a.day<=73048 by omega)];rfl
  rw [hr]
  refine ⟨_,g71,fun h6=>?_,fun h6=>?_⟩
  ·have h6:a.void=true:=h6
   rw [if_pos h6]
   have hq:=Em (E:=(iP Tryz.prog tt Tryz.f115.ntmps w).toEnv) rfl ha.price iS (u:=.tmp 32) (v:=.tmp 33)
   rw [I5] at hq
   exact ⟨by decide,_,gp,_,rfl,_,hq,rfl,trivial⟩
  ·have h6:a.void=false:=h6
   rw [h6]
   exact ⟨by decide,_,gp,.inl ⟨_,n4,rfl,trivial⟩⟩
 ·have h4:=af (show decide (a.day < 0)=true from h4)
  exact ⟨fun _=>no (by unfold bW;rw [decide_eq_false (show ¬ 0<=a.day by omega)];simp),fun h=>absurd h (by decide)⟩
 ·have h3:aF a.cur=false:=bnt (by simpa using h3)
  exact ⟨fun h=>absurd h (by decide),fun _=>⟨fun _=>no (by unfold bW;rw [h3];simp),fun h=>absurd h (by decide)⟩⟩
 ·have h2:cB a.ins=false:=bnt (by simpa using h2)
  exact ⟨fun h=>absurd h (by decide),fun _=>⟨fun h=>absurd h (by decide),fun _=>⟨fun _=>no (by unfold bW;rw [h2];simp),fun h=>absurd h (by decide)⟩⟩⟩
 ·have h1:cQ a.src=false:=bnt (by simpa using h1)
  exact ⟨fun h=>absurd h (by decide),fun _=>⟨fun h=>absurd h (by decide),fun _=>⟨fun h=>absurd h (by decide),fun _=>⟨fun _=>no (by unfold bW;rw [h1];rfl),fun h=>absurd h (by decide)⟩⟩⟩⟩
theorem Kb (n:Int):ay Tryz.prog 116 [SV.c (.int .i64 n)] (.bool (decide (1<=n) && decide (n<=2147483647))):=by
 refine al ai ak SC _ _ rfl rfl fun w=>?_
 refine ⟨fun h=>⟨bv ?_,trivial⟩,fun h=>⟨bv ?_,trivial⟩⟩
 ·have h:decide (1<=n)=true:=h
  rw [h];rfl
 ·have h:decide (1<=n)=false:=h
  rw [h];rfl
def DU (n:Int):Bool:=decide (1<=n) && decide (n<=2147483647)
def dl (a:QC):Bool:=bW a && DU a.known
theorem kS {a:QC} (h:bW a=true):cQ a.src=true/\cB a.ins=true/\0<=a.day/\a.day<=73048:=by
 unfold bW at h
 simp only [Bool.and_eq_true,decide_eq_true_eq] at h
 exact ⟨h.1,h.2.1,h.2.2.2.1.1,h.2.2.2.1.2⟩
theorem oa {l:List UInt8} (h:cQ l=true):0 < l.length/\l.length<=16:=by
 cases l with
 | nil=>cases h
 | cons b r =>
  unfold cQ at h
  simp only [Bool.and_eq_true,decide_eq_true_eq] at h
  exact ⟨by simp,h.1⟩
theorem Cm {l:List UInt8} (h:cB l=true):l.length<=12:=by
 unfold cB at h
 simp only [Bool.and_eq_true,decide_eq_true_eq] at h
 exact h.2.2
def ow (a:QC):List UInt8:=a.src++(44 :: (a.ins++(44 :: Eu a.day.toNat)))
theorem yR (n:Nat):(Eu n).length=10:=rfl
theorem NW (a b c:List UInt8):(((S a++S [44])++S b)++S [44])++S c=S (a++(44 :: (b++(44 :: c)))):=by
 rw [dH,dH,dH,dH]
 congr 1
 simp
theorem Pq {a:QC} (h:bW a=true):ay Tryz.prog 180 [SV.c (.string (S a.src)),SV.c (.string (S a.ins)),SV.c (.int .i64 a.day)] (.string (S (ow a))):=by
 refine al ai ak Rw _ _ rfl rfl fun w=>?_
 obtain ⟨h1,h2,h3,h4⟩:=kS h
 have h5:=oa h1
 have h6:=Cm h2
 have hf:=Nm a.day
 rw [Ks,if_pos ⟨h3,h4⟩] at hf
 have z1:(S a.src++S [44]).size=a.src.length+1:=by rw [dH,bm];simp
 have z2:((S a.src++S [44])++S a.ins).size=a.src.length+1+a.ins.length:=by rw [dH,dH,bm];simp;omega
 have z3:(((S a.src++S [44])++S a.ins)++S [44]).size=a.src.length+1+a.ins.length+1:=by rw [dH,dH,dH,bm];simp;omega
 have hk:S (ow a)=(((S a.src++S [44])++S a.ins)++S [44])++S (Eu a.day.toNat):=(NW _ _ _).symm
 rw [hk]
 refine .inl ⟨_,hf,(show (S a.src).size+(S [44]).size<=9223372036854775807 by rw [bm,bm];simp;omega),(show (S a.src++S [44]).size+(S a.ins).size<=9223372036854775807 by rw [z1,bm];omega),(show ((S a.src++S [44])++S a.ins).size+(S [44]).size<=9223372036854775807 by rw [z2,bm];simp;omega),(show (((S a.src++S [44])++S a.ins)++S [44]).size+(S (Eu a.day.toNat)).size<=9223372036854775807 by rw [z3,bm,yR];omega),?_⟩
 exact ⟨rfl,trivial⟩
def dz (a:QC):MK:=⟨ow a,a.known,a.void⟩
theorem Ca {E:Env} (hE:E.P=Tryz.prog) {v:Value} {xs:List QC} (hv:Lst E v 72 xs.length (cat QC.A xs)) (hn:xs.length<=1000000000000) (hok:∀ y∈xs,bW y=true):OwnC E 118 [SV.c v] [] (Va 2000 208 3 xs.length (cat MK.A (xs.map dz))):=by
 refine aD [] ai ak SA E hE [SV.c v] [] _ rfl rfl fun w X β hT=>?_
 obtain ⟨a,cap,rfl,hc,h4⟩:=(hv.of_old hT).shape
 refine ⟨_,fun w' _=>ao Tryz.underlying26 w',?_⟩
 refine ⟨fun q f m=>∃ (i:Nat) (x:Value),q=xs.length - i/\i<=xs.length/\IsL x i/\f=[(3,SV.c x),(6,SV.c (.slice a xs.length cap)),(7,SV.c (.int .i64 (xs.length:Nat))),(8,SV.c (.int .i64 (i:Nat)))]/\m=[(2000,Blk.own x 208 3 i (cat MK.A ((xs.take i).map dz)))],xs.length,⟨_,_,⟨0,.slice none 0 0,by omega,by omega,.nil,rfl,rfl⟩,⟨rfl,rfl,rfl,rfl,trivial⟩,⟨.inr ⟨rfl,rfl,rfl⟩,trivial⟩,rfl⟩,?_⟩
 rintro q f m ⟨i,x,rfl,hi,hx,rfl,rfl⟩
 refine ⟨fun h=>?_,fun h=>?_⟩
 ·have h:i < xs.length:=by have:=af h;omega
  obtain ⟨b,o,rfl,h5⟩:=h4 (by omega)
  obtain ⟨y,hy⟩:∃ y,xs[i]? = some y:=⟨_,List.getElem?_eq_getElem h⟩
  have hE':VOk (aY Tryz.prog tt Tryz.f118.ntmps w X (aJ [] β)):=ai
  have L1:=bN hE' h5 QC.size hy (ty:=63) (ti:=gJ) rfl rfl rfl (p:=o+(i:Int).toNat*72) rfl
  have k1:=Pq (hok y (List.mem_of_getElem? hy))
  refine ⟨by omega,by omega,.inl ⟨_,L1,y.fits,?_⟩⟩
  refine ⟨_,y.g0,_,y.g1,_,y.g3,.inl ⟨_,k1,_,y.g70,_,y.g71,_,Ef (dz y) rfl,?_⟩⟩
  refine .inl ⟨by decide,by decide,_,AI (dz y),rfl,by decide,2000,i,_,.inl rfl,by decide,(dz y).one,rfl,_,(dz y).ext3,?_⟩
  obtain ⟨q,hq,hb⟩:=DY
  refine ⟨by omega,by unfold maxLen;omega,⟨q,hq,by rw [hb];omega⟩,by change _=true;kernel_rfl,fun g2 cap2=>⟨by kernel_rfl,?_⟩⟩
  exact ⟨xs.length - (i+1),_,_,by omega,⟨i+1,_,rfl,by omega,.some,rfl,rfl⟩,⟨rfl,rfl,rfl,ar (ax (by omega)),trivial⟩,⟨.inl (bC (Iz dz MK.A hy)),trivial⟩,rfl⟩
 ·have h:i=xs.length:=by have:=ag h;omega
  subst h
  rw [List.take_length]
  exact ⟨[(2000,Blk.own x 208 3 xs.length (cat MK.A (xs.map dz)))],[],⟨hx,rfl⟩,⟨.inl rfl,trivial⟩,rfl⟩
def cf (xs:List QC):Int:=if xs.all dl then jL (xs.map dz) else 141
theorem zb {xs:List QC} {i:Nat} {y:QC} (hy:xs[i]? = some y) (h:dl y=false):cf xs=141:=by
 unfold cf
 rw [if_neg]
 intro h2
 rw [List.all_eq_true] at h2
 have:=h2 y (List.mem_of_getElem? hy)
 rw [h] at this;cases this
theorem EB {xs:List QC} (h:∀ (i:Nat) (y   : QC),xs[i]? = some y->dl y=true):cf xs=jL (xs.map dz):=by
 unfold cf
 rw [if_pos]
 rw [List.all_eq_true]
 intro y hy
 obtain ⟨i,hi⟩:=List.getElem?_of_mem hy
 exact h i y hi
theorem rc {a:QC} (h:dl a=true):bW a=true:=by
 unfold dl at h
 rw [Bool.and_eq_true] at h
 exact h.1
theorem zd {xs:List QC} (h:cf xs=0):∀ y∈xs,bW y=true:=by
 intro y hy
 have hv:xs.all dl=true:=by
  cases e:xs.all dl with
  | true=>rfl
  | false=>unfold cf at h;rw [if_neg (by rw [e];simp)] at h;cases h
 rw [List.all_eq_true] at hv
 exact rc (hv y hy)
theorem wJ {E:Env} (hE:E.P=Tryz.prog) {v:Value} {xs:List QC} (hv:Lst E v 72 xs.length (cat QC.A xs)) (hn:xs.length<=1000000000000) (hin:∀ y∈xs,y.In):OwnC E 53 [SV.c v] [] (fun x U=>x=.int .i64 (cf xs)/\U=[]):=by
 refine aD [] ai ak UA E hE [SV.c v] [] _ rfl rfl fun w X β hT=>?_
 have hv':=hv.of_old hT
 have M1:=fun hok=>Ca rfl hv' hn hok
 obtain ⟨a,cap,rfl,hc,h4⟩:=hv'.shape
 refine ⟨_,fun w' _=>ao Tryz.underlying26 w',?_⟩
 refine ⟨fun q f m=>∃ (i:Nat),q=xs.length - i/\i<=xs.length/\(∀ (j:Nat) (y   : QC),j < i->xs[j]? = some y->dl y=true)/\f=[(0,SV.c (.slice a xs.length cap)),(5,SV.c (.slice a xs.length cap)),(6,SV.c (.int .i64 (xs.length:Nat))),(7,SV.c (.int .i64 (i:Nat)))]/\m=[],xs.length,⟨_,_,⟨0,by omega,by omega,fun j y h=>by omega,rfl,rfl⟩,⟨rfl,rfl,rfl,rfl,trivial⟩,trivial,rfl⟩,?_⟩
 rintro q f m ⟨i,rfl,hi,hok,rfl,rfl⟩
 refine ⟨fun h=>?_,fun h=>?_⟩
 ·have h:i < xs.length:=by have:=af h;omega
  obtain ⟨b,o,rfl,h5⟩:=h4 (by omega)
  obtain ⟨y,hy⟩:∃ y,xs[i]? = some y:=⟨_,List.getElem?_eq_getElem h⟩
  have hE':VOk (aY Tryz.prog tt Tryz.f53.ntmps w X (aJ [] β)):=ai
  have L1:=bN hE' h5 QC.size hy (ty:=63) (ti:=gJ) rfl rfl rfl (p:=o+(i:Int).toNat*72) rfl
  have V1:=JD (hin y (List.mem_of_getElem? hy))
  have K1:ay Tryz.prog 116 [SV.c (.int .i64 y.known)] (.bool (DU y.known)):=Kb y.known
  have F1:=y.fits
  have G1:=y.g70
  generalize hY:y.A=YA at L1 V1 F1 G1
  refine ⟨by omega,by omega,.inl ⟨_,L1,F1,.inl ⟨_,V1,fun c1=>⟨_,G1,.inl ⟨_,K1,fun c2=>?_,fun c2=>?_⟩⟩,fun c1=>?_⟩⟩⟩
  ·have c2:DU y.known=false:=bnt c2
   have c2:dl y=false:=by unfold dl;rw [c2];simp
   exact ⟨[],[],⟨by rw [zb hy c2];rfl,rfl⟩,trivial,rfl⟩
  ·have c1:bW y=true:=bX c1
   have c2:DU y.known=true:=bX c2
   have c1:dl y=true:=by unfold dl;rw [c1,c2];rfl
   refine ⟨xs.length - (i+1),_,_,by omega,⟨i+1,rfl,by omega,fun j z hj hz=>?_,rfl,rfl⟩,⟨rfl,rfl,rfl,ar (ax (by omega)),trivial⟩,trivial,rfl⟩
   rcases Nat.lt_or_ge j i with h9 | h9
   ·exact hok j z h9 hz
   ·have:j=i:=by omega
    subst this
    rw [hy] at hz;cases hz
    exact c1
  ·have c1:bW y=false:=bnt (by simpa using c1)
   have c2:dl y=false:=by unfold dl;rw [c1];rfl
   exact ⟨fun _=>⟨[],[],⟨by rw [zb hy c2];rfl,rfl⟩,trivial,rfl⟩,fun h=>absurd h (by decide)⟩
 ·have h:i=xs.length:=by have:=ag h;omega
  subst h
  have hok2:∀ y∈xs,bW y=true:=fun y hy=>by
   obtain ⟨j,hj⟩:=List.getElem?_of_mem hy
   exact rc (hok j y (List.getElem?_eq_some_iff.1 hj).1 hj)
  refine .inr (.inr (.inr ⟨[],[2000],[_],[],_,M1 hok2,rfl,trivial,rfl,trivial,?_⟩))
  rintro x U ⟨hx,rfl⟩
  refine ⟨rfl,?_⟩
  have C1:=EE (E:=(aY Tryz.prog tt Tryz.f53.ntmps w X (aJ [] β)).toEnv) rfl (x:=x) (xs:=xs.map dz) (n:=xs.length) (by simp)
  refine .inr (.inr (.inl ⟨[],[_],[_],_,[_],C1,rfl,⟨.inl rfl,trivial⟩,rfl,rfl,?_⟩))
  have e1:cf xs=jL (xs.map dz):=EB fun j y hy=>hok j y (List.getElem?_eq_some_iff.1 hy).1 hy
  exact ⟨[],[],⟨by rw [e1];rfl,rfl⟩,trivial,rfl⟩
theorem jk:∃ q,Tryz.prog.info? 63=some q/\q.bytes=336:=fE (by kernel_rfl)
def kb (xs:List QC) (k:Int):List Nat:=rq (xs.map dz) k
def eQ (xs:List QC) (k:Int):List QC:=if cf xs=0 then (kb xs k).filterMap (fun i=>xs[i]?) else []
def Ta (xs:List QC) (k:Int) (x:Value) (U:aA):Prop:=∃ s n,n=(eQ xs k).length/\x=.tuple #[s,.int .i64 (cf xs)]/\IsL s n/\U=[(3000,Blk.own s 63 72 n (cat QC.A (eQ xs k)))]
theorem ug {xs:List QC} {k:Int} {i:Nat} (h:i∈kb xs k):i < xs.length:=by
 unfold kb rq at h
 rw [List.mem_filter,List.mem_range,List.length_map] at h
 exact h.1
theorem uh (xs:List QC) (k:Int):(kb xs k).length<=xs.length:=by
 unfold kb rq
 have:=List.length_filter_le (rr (xs.map dz) k) (List.range (xs.map dz).length)
 simpa using this
theorem u7 {xs:List QC} (h:cf xs=0):jL (xs.map dz)=0/\xs.length<=4096:=by
 unfold cf at h
 split at h
 ·refine ⟨h,?_⟩
  unfold jL at h
  split at h
  ·simp at h
  ·rename_i h2;simpa using h2
 ·simp at h
theorem FH {xs:List QC} {l:List Nat} {j i:Nat} {y:QC} (h:l[j]? = some i) (hy:xs[i]? = some y):(l.take (j+1)).filterMap (fun i=>xs[i]?)=(l.take j).filterMap (fun i=>xs[i]?)++[y]:=by
 rw [List.take_add_one,h,List.filterMap_append]
 simp [hy]
theorem wy {xs:List QC}:∀ {l:List Nat},(∀ i∈l,i < xs.length)->(l.filterMap (fun i=>xs[i]?)).length=l.length
 | [],_=>rfl
 | i :: r,h=>by
  rw [List.filterMap_cons,List.getElem?_eq_getElem (h i (by simp))]
  simp [wy (l:=r) fun j hj=>h j (by simp [hj])]
theorem lM (a   : QC):Instr.fill (fun k=>some (k*gJ.size,gJ.size)) (madeCells gJ.zero (1*gJ.size)) [(0,.agg a.A)]=some a.A:=by kernel_rfl
theorem QC.ext72 (a   : QC):a.A.extract 0 (0+1*72)=a.A:=by
 have:a.A.size=72:=a.size
 simp [this]
theorem Ki {l:List Nat} {j i:Nat} (h:l[j]? = some i):(cd (l.map fun i:Nat=>(i:Int)))[j]? = some (.int .i64 ((i:Nat):Int)):=by
 simp [cd,h]
theorem TQ (j:Nat):aO 0 ((j:Nat):Int) ti3.size=j:=by
 show aO 0 ((j:Nat):Int) 1=j
 simp [aO]
theorem N8 {E:Env} (hE:E.P=Tryz.prog) {v:Value} {k:Int} {xs:List QC} (hv:Lst E v 72 xs.length (cat QC.A xs)) (hn:xs.length<=1000000000000) (hin:∀ y∈xs,y.In):OwnC E 150 [SV.c v,SV.c (.int .i64 k)] [] (Ta xs k):=by
 refine aD [] ai ak Sc E hE [SV.c v,SV.c (.int .i64 k)] [] _ rfl rfl fun w X β hT=>?_
 have hv':=hv.of_old hT
 have C1:=wJ rfl hv' hn hin
 have M1:=fun hok=>Ca rfl hv' hn hok
 refine .inr (.inr (.inl ⟨[],[_],[],_,[],C1,rfl,trivial,rfl,rfl,fun h=>?_,fun h=>?_⟩))
 ·have h:(cf xs != 0)=true:=h
  have h:cf xs≠0:=by simpa using h
  have e1:eQ xs k=[]:=by rw [eQ,if_neg h]
  exact ⟨[(3000,Blk.own (.slice none 0 0) 63 72 0 #[])],[],⟨_,0,by rw [e1];rfl,rfl,.nil,by rw [e1];rfl⟩,⟨.inr ⟨rfl,rfl,rfl⟩,trivial⟩,rfl⟩
 have h:(cf xs != 0)=false:=h
 have h0:cf xs=0:=by simpa using h
 obtain ⟨h1,h4k⟩:=u7 h0
 have e1:wZ (xs.map dz) k=(kb xs k).map (fun i:Nat=>(i:Int)):=by rw [wZ,if_pos h1];rfl
 have e2:eQ xs k=(kb xs k).filterMap (fun i=>xs[i]?):=by rw [eQ,if_pos h0]
 have hmem:∀ i∈kb xs k,i < xs.length:=fun i h=>ug h
 have hlen:=uh xs k
 generalize kb xs k=l at e1 e2 hmem hlen
 refine .inr (.inr (.inr ⟨[],[2000],[_],[],_,M1 (zd h0),rfl,trivial,rfl,trivial,?_⟩))
 rintro x U ⟨hx,rfl⟩
 refine ⟨rfl,?_⟩
 have C2:=I9 (E:=(aY Tryz.prog tt Tryz.f150.ntmps w X (aJ [] β)).toEnv) rfl (x:=x) (xs:=xs.map dz) (n:=xs.length) (k:=k) (by simp) hn
 refine .inr (.inr (.inr ⟨[],[1000],[_,_],[_],_,C2,rfl,⟨.inl rfl,trivial⟩,rfl,trivial,?_⟩))
 rintro r U ⟨U0,⟨s,n,hsn,rfl,hs,rfl⟩,rfl⟩
 rw [e1] at hsn ⊢
 rw [h1]
 refine ⟨rfl,?_⟩
 obtain ⟨sa,sc,rfl⟩:=hs.len
 refine ⟨_,fun w' _=>ao Tryz.underlying50 w',?_⟩
 have hnl:n=l.length:=by rw [hsn,List.length_map]
 obtain ⟨a,cap,rfl,hc,h4⟩:=hv'.shape
 refine ⟨fun q f m=>∃ (j:Nat) (y:Value) (N:Nat),q=l.length - j/\j<=l.length/\N=j/\IsL y N/\f=[(0,SV.c (.slice a xs.length cap)),(8,SV.c (.int .i64 0)),(9,SV.c y),(24,SV.c (.slice sa n sc)),(25,SV.c (.int .i64 (n:Nat))),(26,SV.c (.int .i64 (j:Nat)))]/\m=[(3000,Blk.own y 63 72 N (cat QC.A ((l.take j).filterMap (fun i=>xs[i]?)))),(1000,Blk.own (.slice sa n sc) 3 1 n (cd (l.map fun i:Nat=>(i:Int))))],l.length,⟨_,_,⟨0,.slice none 0 0,0,by omega,by omega,rfl,.nil,rfl,rfl⟩,⟨rfl,rfl,rfl,rfl,rfl,rfl,trivial⟩,⟨.inr ⟨rfl,rfl,rfl⟩,.inl rfl,trivial⟩,rfl⟩,?_⟩
 rintro q f m ⟨j,y,N,rfl,hj,hN,hy,rfl,rfl⟩
 refine ⟨fun h=>?_,fun h=>?_⟩
 ·have h:j < n:=by have:=af h;omega
  obtain ⟨i,hi⟩:∃ i,l[j]? = some i:=⟨_,List.getElem?_eq_getElem (show j < l.length by omega)⟩
  have hil:=hmem i (List.mem_of_getElem? hi)
  obtain ⟨z,hz⟩:∃ z,xs[i]? = some z:=⟨_,List.getElem?_eq_getElem hil⟩
  obtain ⟨b,o,rfl,h5⟩:=h4 (by omega)
  have hE':VOk (aY Tryz.prog tt Tryz.f150.ntmps w X (aJ [] β)):=ai
  have L1:=bN hE' h5 QC.size hz (ty:=63) (ti:=gJ) rfl rfl rfl (p:=o+((i:Nat):Int).toNat*72) rfl
  rcases hs with ⟨hs1,hs2⟩ | ⟨g0,c0,hs1⟩
  ·omega
  cases hs1
  refine ⟨by omega,by omega,.inr ⟨1000,g0,_,n,_,_,_,_,rfl,rfl,_,(by rw [TQ];exact Ki hi),?_⟩⟩
  have F1:=lM z
  have F2:=z.fits.one
  have F3:=z.ext72
  have F4:z.A.size=1*72:=z.size
  have F5:cat QC.A ((l.take j).filterMap (fun i=>xs[i]?))++z.A=cat QC.A ((l.take (j+1)).filterMap (fun i=>xs[i]?)):=by rw [FH hi hz,cat_append,lO]
  generalize hY:z.A=ZA at L1 F1 F2 F3 F4 F5
  refine ⟨by omega,by omega,.inl ⟨_,L1,.inl ⟨by decide,by decide,_,F1,F4,by decide,3000,N,_,.inl rfl,by decide,F2,F4,_,F3,?_⟩⟩⟩
  obtain ⟨q,hq,hb⟩:=jk
  refine ⟨by omega,by unfold maxLen;omega,⟨q,hq,by rw [hb];omega⟩,trivial,fun g2 cap2=>?_⟩
  exact ⟨l.length - (j+1),_,_,by omega,⟨j+1,_,N+1,rfl,by omega,by omega,.some,rfl,rfl⟩,⟨rfl,rfl,rfl,rfl,rfl,ar (ax (by omega)),trivial⟩,⟨.inl (bC F5),.inl rfl,trivial⟩,rfl⟩
 ·have h:j=l.length:=by have:=ag h;omega
  subst h
  rw [List.take_length]
  have e3:=wy hmem
  exact ⟨[(3000,Blk.own y 63 72 N (cat QC.A (l.filterMap (fun i=>xs[i]?))))],[],⟨y,N,by rw [e2,e3];exact hN,by rw [h0];rfl,hy,by rw [e2]⟩,⟨.inl rfl,trivial⟩,rfl⟩



end Go.Proofs.YtklehfchdoikeaaGreatDoor
