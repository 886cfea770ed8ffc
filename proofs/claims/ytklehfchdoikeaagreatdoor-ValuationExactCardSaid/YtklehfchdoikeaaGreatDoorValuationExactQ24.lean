/- walks: usable names. walks: names, instruments and currencie; no condition. -/
import Derived.Test.YtklehfchdoikeaaGreatDoorValuationExactQ22
import Derived.Test.YtklehfchdoikeaaGreatDoorValuationExactQ23
set_option maxRecDepth 100000
set_option maxHeartbeats 4000000
namespace Go.Proofs.YtklehfchdoikeaaGreatDoor
open Go Go.RowKit Go.SX
def gP (b:UInt8):Bool:=(decide (97<=b.toNat) && decide (b.toNat<=122)) || (decide (48<=b.toNat) && decide (b.toNat<=57))
def rK (b:UInt8):Bool:=decide (48<=b.toNat) && decide (b.toNat<=57)
def bS (l:List UInt8):Bool:=match l with
 | []=>false
 | b :: _=>decide (l.length<=16) && (!rK b && l.all gP)
theorem pT {l:List UInt8} (h:l.length=0):bS l=false:=by
 cases l
 ·rfl
 ·simp at h
theorem eO {l:List UInt8} (h:0 < l.length):bS l=(decide (l.length<=16) && (!rK (l.getD 0 0) && l.all gP)):=by
 cases l
 ·simp at h
 ·rfl
theorem oG {p:UInt8->Bool} {l:List UInt8} {j:Nat} (hj:j < l.length) (h:p (l.getD j 0)=false):l.all p=false:=by
 rw [List.all_eq_false]
 refine ⟨l[j],List.getElem_mem hj,?_⟩
 rw [<- List.getElem_eq_getD (h:=hj) 0] at h
 rw [h];simp
theorem rl {p:UInt8->Bool} {l:List UInt8} (h:∀ j,j < l.length->p (l.getD j 0)=true):l.all p=true:=by
 rw [List.all_eq_true]
 intro x hx
 obtain ⟨j,hj,rfl⟩:=List.getElem_of_mem hx
 rw [List.getElem_eq_getD (h:=hj) 0]
 exact h j hj
theorem H4 (x:Nat):aw Tryz.prog 181 [SV.c (.int .u8 (x:Nat))] (.bool (decide (48<=x) && decide (x<=57))):=by
 refine aj ai ak OP _ _ rfl rfl fun w=>?_
 refine ⟨fun h=>⟨bv ?_,trivial⟩,fun h=>⟨bv ?_,trivial⟩⟩
 ·have h:=af h
  rw [decide_eq_true (show 48<=x by omega),Bool.true_and]
  rw [Bool.eq_iff_iff];simp only [decide_eq_true_eq];omega
 ·have h:=ag h
  rw [decide_eq_false (show ¬ 48<=x by omega)];rfl
theorem Jh {l:List UInt8} {j:Nat} (h:j < (S l).size) (h2:j < l.length):((S l)[j]'h)=l.getD j 0:=by
 rw [<- List.getElem_eq_getD (h:=h2) 0]
 exact List.getElem_toArray (by simpa using h2)
theorem Bk {l:List UInt8} {pos:Nat} (h:pos < l.length):gP (l.getD pos 0)=((decide (97<=(Utf8.decode (S l) pos).1) && decide ((Utf8.decode (S l) pos).1<=122)) || (decide (48<=(Utf8.decode (S l) pos).1) && decide ((Utf8.decode (S l) pos).1<=57)))/\(gP (l.getD pos 0)=true->(Utf8.decode (S l) pos).2=1):=by
 have hs:pos < (S l).size:=by rw [aH];exact h
 have hg:=Jh hs h
 rcases Nat.lt_or_ge (l.getD pos 0).toNat 128 with hb | hb
 ·have:=Go.decode_ascii (S l) pos hs (by rw [hg];exact hb)
  rw [this,hg]
  exact ⟨rfl,fun _=>rfl⟩
 ·have:=(Go.decode_high (S l) pos hs (by rw [hg];exact hb)).1
  have e1:gP (l.getD pos 0)=false:=by
   unfold gP
   rw [decide_eq_false (show ¬ (l.getD pos 0).toNat<=122 by omega),decide_eq_false (show ¬ (l.getD pos 0).toNat<=57 by omega)];simp
  refine ⟨?_,fun h=>by rw [e1] at h;cases h⟩
  rw [e1,decide_eq_false (show ¬ (Utf8.decode (S l) pos).1<=122 by omega),decide_eq_false (show ¬ (Utf8.decode (S l) pos).1<=57 by omega)];simp
theorem x0 (l:List UInt8) (hl:l.length<=9223372036854775807):aw Tryz.prog 119 [SV.c (.string (S l))] (.bool (bS l)):=by
 refine pr (vs:=[.string (S l)]) Je.enters fun w0=>?_
 refine aA [] ai ak Je _ rfl [SV.c (.string (S l))] [] _ rfl rfl fun w X β hT=>?_
 have hx:∀ i:Nat,i < l.length->bB ((aT Tryz.prog tt Tryz.f119.ntmps w X (aF [] β)).toEnv) (Instr.index 9 (.string (S l)) (.int .i64 (i:Int))) (.int .u8 ((l.getD i 0).toNat:Nat)):=fun i h=>bL Tryz.underlying9 i rfl h
 have no:bS l=false->∃ U σ,(Value.bool false=.bool (bS l)/\U=([]:aE))/\gb ([]:aE) (eh σ U)/\qb [] σ U=true:=fun h=>⟨[],[],⟨by rw [h],rfl⟩,trivial,rfl⟩
 refine ⟨_,fun w _=>az Tryz.underlying9 w,fun h1=>⟨_,fun w _=>az Tryz.underlying9 w,fun h2=>⟨_,hx 0 ?_,.inl ⟨_,H4 _,fun h3=>no ?_,fun h3=>?_⟩⟩,fun h2=>?_⟩,fun h1=>?_⟩
 ·have h1:(((l.length:Nat):Int) == 0)=false:=h1
  have h1:¬ ((l.length:Nat):Int)=0:=by simpa using h1
  omega
 ·have h1:(((l.length:Nat):Int) == 0)=false:=h1
  have h1:¬ ((l.length:Nat):Int)=0:=by simpa using h1
  have h3:rK (l.getD 0 0)=true:=h3
  rw [eO (by omega),h3];simp
 ·have h1:(((l.length:Nat):Int) == 0)=false:=h1
  have h1:¬ ((l.length:Nat):Int)=0:=by simpa using h1
  have h2:=ag (show decide (((l.length:Nat):Int) > 16)=false from h2)
  have h3:rK (l.getD 0 0)=false:=h3
  have hu:bS l=l.all gP:=by rw [eO (by omega),h3,decide_eq_true (show l.length<=16 by omega)];rfl
  rw [hu] at no ⊢
  refine rX rfl rfl Tryz.underlying9 300 rfl rfl trivial fun r=>?_
  refine ⟨fun q f m=>∃ pos:Nat,q=l.length - pos/\pos<=l.length/\(∀ j,j < pos->gP (l.getD j 0)=true)/\f=[(0,SV.c (.string (S l))),(19,SV.c (.pointer (some ⟨r,0,none⟩)))]/\m=[(300,Blk.res r (fun o=>o=.stringIter (S l) pos))],l.length,⟨_,_,⟨0,rfl,by omega,fun j h=>by omega,rfl,rfl⟩,⟨rfl,rfl,trivial⟩,⟨rfl,trivial⟩,rfl⟩,?_⟩
  rintro q f m ⟨pos,rfl,hp,hall,rfl,rfl⟩
  refine uV rfl 300 rfl rfl trivial (fun h4=>?_) (fun h4=>?_)
  ·rw [aH] at h4
   refine ⟨fun h=>absurd h (by decide),fun _=>?_⟩
   exact ⟨[],[],⟨by rw [rl fun j hj=>hall j (by omega)];rfl,rfl⟩,trivial,rfl⟩
  ·rw [aH] at h4
   obtain ⟨hR,hW⟩:=Bk (l:=l) h4
   generalize (Utf8.decode (S l) pos).1=R at *
   generalize (Utf8.decode (S l) pos).2=W at *
   have bad:¬ ((97<=R/\R<=122)\/(48<=R/\R<=57))->∃ U σ,(Value.bool false=.bool (l.all gP)/\U=([]:aE))/\gb [(300,Blk.res r (fun o=>o=.stringIter (S l) (pos+W)))] (eh σ U)/\qb [] σ U=true:=fun h=>⟨[],[],⟨by rw [oG h4 (by rw [hR];simpa using h)],rfl⟩,trivial,rfl⟩
   have good:((97<=R/\R<=122)\/(48<=R/\R<=57))->W=1/\∀ j,j < pos+1->gP (l.getD j 0)=true:=fun h=>by
    have h5:gP (l.getD pos 0)=true:=by rw [hR];simpa using h
    refine ⟨hW h5,fun j hj=>?_⟩
    rcases Nat.lt_or_ge j pos with h6 | h6
    ·exact hall j h6
    ·have:j=pos:=by omega
     subst this;exact h5
   have nxt:((97<=R/\R<=122)\/(48<=R/\R<=57))->l.length - (pos+1) < l.length - pos/\pos+1<=l.length/\W=1/\∀ j,j < pos+1->gP (l.getD j 0)=true:=fun h=>⟨by omega,by omega,good h⟩
   refine ⟨fun _=>⟨fun c1=>⟨fun c2=>⟨fun c3=>⟨fun c4=>bad ?_,fun c4=>?_⟩,fun c3=>⟨fun _=>bad ?_,fun h=>absurd h (by decide)⟩⟩,fun c2=>⟨fun h=>absurd h (by decide),fun _=>?_⟩⟩,fun c1=>⟨fun _=>⟨fun c3=>⟨fun c4=>bad ?_,fun c4=>?_⟩,fun c3=>⟨fun _=>bad ?_,fun h=>absurd h (by decide)⟩⟩,fun h=>absurd h (by decide)⟩⟩,fun h=>absurd h (by decide)⟩
   ·have c2:=af c2
    omega
   ·have c2:=af c2
    have c4:=ag (show decide (((R:Nat):Int) > 57)=false from c4)
    omega
   ·have c2:=af c2
    have c3:=af (show decide (((R:Nat):Int) < 48)=true from c3)
    omega
   ·have c1:=ag c1
    have c2:=ag (show decide (((R:Nat):Int) > 122)=false from c2)
    obtain ⟨n1,n2,rfl,n3⟩:=nxt (.inl ⟨by omega,by omega⟩)
    exact ⟨l.length - (pos+1),_,_,n1,⟨pos+1,rfl,n2,n3,rfl,rfl⟩,⟨rfl,rfl,trivial⟩,⟨rfl,trivial⟩,rfl⟩
   ·have c1:=af (show decide (((R:Nat):Int) < 97)=true from c1)
    have c4:=af (show decide (((R:Nat):Int) > 57)=true from c4)
    omega
   ·have c3:=ag (show decide (((R:Nat):Int) < 48)=false from c3)
    have c4:=ag (show decide (((R:Nat):Int) > 57)=false from c4)
    obtain ⟨n1,n2,rfl,n3⟩:=nxt (.inr ⟨by omega,by omega⟩)
    exact ⟨l.length - (pos+1),_,_,n1,⟨pos+1,rfl,n2,n3,rfl,rfl⟩,⟨rfl,rfl,trivial⟩,⟨rfl,trivial⟩,rfl⟩
   ·have c3:=af (show decide (((R:Nat):Int) < 48)=true from c3)
    have c1:=af (show decide (((R:Nat):Int) < 97)=true from c1)
    omega
 ·have h2:=af (show decide (((l.length:Nat):Int) > 16)=true from h2)
  exact ⟨fun _=>no (by rw [eO (by omega),decide_eq_false (by omega)];rfl),fun h=>absurd h (by decide)⟩
 ·have h1:(((l.length:Nat):Int) == 0)=true:=h1
  have h1:((l.length:Nat):Int)=0:=by simpa using h1
  exact ⟨fun h=>absurd h (by decide),fun _=>⟨fun _=>no (pT (by omega)),fun h=>absurd h (by decide)⟩⟩
theorem Hs (l:List UInt8) (hl:l.length<=9223372036854775807):aw Tryz.prog 237 [SV.c (.string (S l))] (.bool (bS l)):=by
 refine aj ai ak NV _ _ rfl rfl fun w=>?_
 have hx:∀ i:Nat,i < l.length->bB ((eF Tryz.prog tt Tryz.f237.ntmps w).toEnv) (Instr.index 9 (.string (S l)) (.int .i64 (i:Int))) (.int .u8 ((l.getD i 0).toNat:Nat)):=fun i h=>bL Tryz.underlying9 i rfl h
 have no:bS l=false->cT [.bool false]=.bool (bS l)/\True:=fun h=>⟨by rw [h];rfl,trivial⟩
 refine ⟨_,fun w _=>az Tryz.underlying9 w,fun h1=>⟨_,fun w _=>az Tryz.underlying9 w,fun h2=>⟨_,hx 0 ?_,fun h3=>?_,fun h3=>?_⟩,fun h2=>?_⟩,fun h1=>?_⟩
 ·have h1:=ag (show decide (((l.length:Nat):Int) < 1)=false from h1)
  omega
 ·have h1:=ag (show decide (((l.length:Nat):Int) < 1)=false from h1)
  have h2:=ag (show decide (((l.length:Nat):Int) > 16)=false from h2)
  have h3:=af h3
  refine ⟨_,hx 0 (by omega),fun h5=>no ?_,fun h5=>?_⟩
  ·have h5:=af h5
   have hd:rK (l.getD 0 0)=true:=by unfold rK;rw [decide_eq_true (show 48<=(l.getD 0 0).toNat by omega),decide_eq_true (show (l.getD 0 0).toNat<=57 by omega)];rfl
   rw [eO (by omega),hd];simp
  ·have h5:=ag h5
   have hd:rK (l.getD 0 0)=false:=by unfold rK;rw [decide_eq_false (show ¬ (l.getD 0 0).toNat<=57 by omega)];simp
   have hu:bS l=l.all gP:=by rw [eO (by omega),hd,decide_eq_true (show l.length<=16 by omega)];rfl
   rw [hu] at no ⊢
   refine ⟨fun q f m=>∃ pos:Nat,q=l.length - pos/\pos<=l.length/\(∀ j,j < pos->gP (l.getD j 0)=true)/\f=[(0,SV.c (.string (S l))),(3,SV.c (.int .i64 (pos:Nat)))]/\m=[],l.length,⟨_,_,⟨0,rfl,by omega,fun j h=>by omega,rfl,rfl⟩,⟨rfl,rfl,trivial⟩,trivial,rfl⟩,?_⟩
   rintro q f m ⟨pos,rfl,hp,hall,rfl,rfl⟩
   refine ⟨_,fun w _=>az Tryz.underlying9 w,fun h4=>?_,fun h4=>?_⟩
   ·have h4:pos < l.length:=by have:=af h4;omega
    have hxx:=hx pos h4
    have hR:gP (l.getD pos 0)=((decide (97<=(l.getD pos 0).toNat) && decide ((l.getD pos 0).toNat<=122)) || (decide (48<=(l.getD pos 0).toNat) && decide ((l.getD pos 0).toNat<=57))):=rfl
    generalize (l.getD pos 0).toNat=R at hR hxx
    have bad:¬ ((97<=R/\R<=122)\/(48<=R/\R<=57))->cT [.bool false]=.bool (l.all gP)/\True:=fun h=>⟨by rw [oG h4 (by rw [hR];simpa using h)];rfl,trivial⟩
    have nxt:((97<=R/\R<=122)\/(48<=R/\R<=57))->l.length - (pos+1) < l.length - pos/\pos+1<=l.length/\∀ j,j < pos+1->gP (l.getD j 0)=true:=fun h=>⟨by omega,by omega,fun j hj=>by
     have h5:gP (l.getD pos 0)=true:=by rw [hR];simpa using h
     rcases Nat.lt_or_ge j pos with h6 | h6
     ·exact hall j h6
     ·have:j=pos:=by omega
      subst this;exact h5⟩
    refine ⟨_,hxx,fun c1=>⟨_,hxx,fun c2=>⟨_,hxx,fun c3=>⟨_,hxx,fun c4=>bad ?_,fun c4=>?_⟩,fun c3=>⟨fun _=>bad ?_,fun h=>absurd h (by decide)⟩⟩,fun c2=>⟨fun h=>absurd h (by decide),fun _=>?_⟩⟩,fun c1=>⟨fun _=>⟨_,hxx,fun c3=>⟨_,hxx,fun c4=>bad ?_,fun c4=>?_⟩,fun c3=>⟨fun _=>bad ?_,fun h=>absurd h (by decide)⟩⟩,fun h=>absurd h (by decide)⟩⟩
    ·have c2:=af c2
     omega
    ·have c2:=af c2
     have c4:=ag (show decide (((R:Nat):Int) > 57)=false from c4)
     omega
    ·have c2:=af c2
     have c3:=af (show decide (((R:Nat):Int) < 48)=true from c3)
     omega
    ·have c1:=ag c1
     have c2:=ag (show decide (((R:Nat):Int) > 122)=false from c2)
     obtain ⟨n1,n2,n3⟩:=nxt (.inl ⟨by omega,by omega⟩)
     exact ⟨l.length - (pos+1),_,_,n1,⟨pos+1,rfl,n2,n3,rfl,rfl⟩,⟨rfl,am (dD (by omega)),trivial⟩,trivial,rfl⟩
    ·have c1:=af (show decide (((R:Nat):Int) < 97)=true from c1)
     have c4:=af (show decide (((R:Nat):Int) > 57)=true from c4)
     omega
    ·have c3:=ag (show decide (((R:Nat):Int) < 48)=false from c3)
     have c4:=ag (show decide (((R:Nat):Int) > 57)=false from c4)
     obtain ⟨n1,n2,n3⟩:=nxt (.inr ⟨by omega,by omega⟩)
     exact ⟨l.length - (pos+1),_,_,n1,⟨pos+1,rfl,n2,n3,rfl,rfl⟩,⟨rfl,am (dD (by omega)),trivial⟩,trivial,rfl⟩
    ·have c3:=af (show decide (((R:Nat):Int) < 48)=true from c3)
     have c1:=af (show decide (((R:Nat):Int) < 97)=true from c1)
     omega
   ·have h4:pos=l.length:=by have:=ag h4;omega
    subst h4
    exact ⟨by rw [rl hall];rfl,trivial⟩
 ·have h1:=ag (show decide (((l.length:Nat):Int) < 1)=false from h1)
  have h2:=ag (show decide (((l.length:Nat):Int) > 16)=false from h2)
  have h3:=ag (show decide ((((l.getD 0 0).toNat:Nat):Int) >= 48)=false from h3)
  refine ⟨fun h=>absurd h (by decide),fun _=>?_⟩
  ·have hd:rK (l.getD 0 0)=false:=by unfold rK;rw [decide_eq_false (show ¬ 48<=(l.getD 0 0).toNat by omega)];simp
   have hu:bS l=l.all gP:=by rw [eO (by omega),hd,decide_eq_true (show l.length<=16 by omega)];rfl
   rw [hu] at no ⊢
   refine ⟨fun q f m=>∃ pos:Nat,q=l.length - pos/\pos<=l.length/\(∀ j,j < pos->gP (l.getD j 0)=true)/\f=[(0,SV.c (.string (S l))),(3,SV.c (.int .i64 (pos:Nat)))]/\m=[],l.length,⟨_,_,⟨0,rfl,by omega,fun j h=>by omega,rfl,rfl⟩,⟨rfl,rfl,trivial⟩,trivial,rfl⟩,?_⟩
   rintro q f m ⟨pos,rfl,hp,hall,rfl,rfl⟩
   refine ⟨_,fun w _=>az Tryz.underlying9 w,fun h4=>?_,fun h4=>?_⟩
   ·have h4:pos < l.length:=by have:=af h4;omega
    have hxx:=hx pos h4
    have hR:gP (l.getD pos 0)=((decide (97<=(l.getD pos 0).toNat) && decide ((l.getD pos 0).toNat<=122)) || (decide (48<=(l.getD pos 0).toNat) && decide ((l.getD pos 0).toNat<=57))):=rfl
    generalize (l.getD pos 0).toNat=R at hR hxx
    have bad:¬ ((97<=R/\R<=122)\/(48<=R/\R<=57))->cT [.bool false]=.bool (l.all gP)/\True:=fun h=>⟨by rw [oG h4 (by rw [hR];simpa using h)];rfl,trivial⟩
    have nxt:((97<=R/\R<=122)\/(48<=R/\R<=57))->l.length - (pos+1) < l.length - pos/\pos+1<=l.length/\∀ j,j < pos+1->gP (l.getD j 0)=true:=fun h=>⟨by omega,by omega,fun j hj=>by
     have h5:gP (l.getD pos 0)=true:=by rw [hR];simpa using h
     rcases Nat.lt_or_ge j pos with h6 | h6
     ·exact hall j h6
     ·have:j=pos:=by omega
      subst this;exact h5⟩
    refine ⟨_,hxx,fun c1=>⟨_,hxx,fun c2=>⟨_,hxx,fun c3=>⟨_,hxx,fun c4=>bad ?_,fun c4=>?_⟩,fun c3=>⟨fun _=>bad ?_,fun h=>absurd h (by decide)⟩⟩,fun c2=>⟨fun h=>absurd h (by decide),fun _=>?_⟩⟩,fun c1=>⟨fun _=>⟨_,hxx,fun c3=>⟨_,hxx,fun c4=>bad ?_,fun c4=>?_⟩,fun c3=>⟨fun _=>bad ?_,fun h=>absurd h (by decide)⟩⟩,fun h=>absurd h (by decide)⟩⟩
    ·have c2:=af c2
     omega
    ·have c2:=af c2
     have c4:=ag (show decide (((R:Nat):Int) > 57)=false from c4)
     omega
    ·have c2:=af c2
     have c3:=af (show decide (((R:Nat):Int) < 48)=true from c3)
     omega
    ·have c1:=ag c1
     have c2:=ag (show decide (((R:Nat):Int) > 122)=false from c2)
     obtain ⟨n1,n2,n3⟩:=nxt (.inl ⟨by omega,by omega⟩)
     exact ⟨l.length - (pos+1),_,_,n1,⟨pos+1,rfl,n2,n3,rfl,rfl⟩,⟨rfl,am (dD (by omega)),trivial⟩,trivial,rfl⟩
    ·have c1:=af (show decide (((R:Nat):Int) < 97)=true from c1)
     have c4:=af (show decide (((R:Nat):Int) > 57)=true from c4)
     omega
    ·have c3:=ag (show decide (((R:Nat):Int) < 48)=false from c3)
     have c4:=ag (show decide (((R:Nat):Int) > 57)=false from c4)
     obtain ⟨n1,n2,n3⟩:=nxt (.inr ⟨by omega,by omega⟩)
     exact ⟨l.length - (pos+1),_,_,n1,⟨pos+1,rfl,n2,n3,rfl,rfl⟩,⟨rfl,am (dD (by omega)),trivial⟩,trivial,rfl⟩
    ·have c3:=af (show decide (((R:Nat):Int) < 48)=true from c3)
     have c1:=af (show decide (((R:Nat):Int) < 97)=true from c1)
     omega
   ·have h4:pos=l.length:=by have:=ag h4;omega
    subst h4
    exact ⟨by rw [rl hall];rfl,trivial⟩
 ·have h2:=af (show decide (((l.length:Nat):Int) > 16)=true from h2)
  exact ⟨fun _=>no (by rw [eO (by omega),decide_eq_false (by omega)];rfl),fun h=>absurd h (by decide)⟩
 ·have h1:=af (show decide (((l.length:Nat):Int) < 1)=true from h1)
  exact ⟨fun h=>absurd h (by decide),fun _=>⟨fun _=>no (pT (by omega)),fun h=>absurd h (by decide)⟩⟩
theorem x4 (l:List UInt8) (hl:l.length<=9223372036854775807):aw Tryz.prog 191 [SV.c (.string (S l))] (.bool (bS l)):=by
 refine aj ai ak OE _ _ rfl rfl fun w=>?_
 exact .inl ⟨_,Hs l hl,rfl,trivial⟩
theorem rc (l:List UInt8) (hl:l.length<=9223372036854775807):aw Tryz.prog 229 [SV.c (.string (S l))] (.bool (cK true l && !decide (l=[]))):=by
 refine aj ai ak N5 _ _ rfl rfl fun w=>?_
 refine ⟨_,fun w _=>az Tryz.underlying9 w,?_⟩
 refine ⟨fun q f m=>∃ i:Nat,q=l.length - i/\i<=l.length/\(∀ j,j < i->cm true l j=true)/\f=[(0,SV.c (.string (S l))),(5,SV.c (.int .i64 (l.length:Nat))),(6,SV.c (.int .i64 i))]/\m=[],l.length,⟨_,_,⟨0,rfl,Nat.zero_le _,fun j hj=>absurd hj (by omega),rfl,rfl⟩,⟨rfl,rfl,rfl,trivial⟩,trivial,rfl⟩,?_⟩
 rintro q f m ⟨i,rfl,hi1,hall,rfl,rfl⟩
 refine ⟨fun h=>?_,fun h=>?_⟩
 ·have h:i < l.length:=by have:=af h;omega
  have hx:=bL (E:=(eF Tryz.prog tt Tryz.f229.ntmps w).toEnv) Tryz.underlying9 (k:=.i64) i rfl h
  have hc:cm true l i=((decide (65<=(l.getD i 0).toNat) && decide ((l.getD i 0).toNat<=90)) || (true && !decide (i=0) && decide (48<=(l.getD i 0).toNat) && decide ((l.getD i 0).toNat<=57))):=rfl
  generalize (l.getD i 0).toNat=x at *
  have stop:cm true l i=false->cT [.bool false]=.bool (cK true l && !decide (l=[]))/\True:=fun e=>⟨by rw [cV h e];rfl,trivial⟩
  have nxt:cm true l i=true->l.length - (i+1) < l.length - i/\i+1<=l.length/\(∀ j,j < i+1->cm true l j=true)/\IntKind.i64.wrap (((i:Nat):Int)+1)=((i+1:Nat):Int):=fun e=>⟨by omega,by omega,fun j hj=>by
   by_cases e2:j=i
   ·rw [e2];exact e
   ·exact hall j (by omega),by rw [i64_in (by omega)];rfl⟩
  refine ⟨_,hx,fun h1=>⟨_,hx,fun h2=>⟨fun h3=>⟨_,hx,fun h4=>⟨_,hx,fun h5=>stop ?_,fun h5=>?_⟩,fun h4=>?_⟩,fun h3=>?_⟩,fun h2=>⟨fun h=>absurd h (by decide),fun _=>?_⟩⟩,fun h1=>⟨fun _=>⟨fun h3=>⟨_,hx,fun h4=>⟨_,hx,fun h5=>stop ?_,fun h5=>?_⟩,fun h4=>?_⟩,fun h3=>?_⟩,fun h=>absurd h (by decide)⟩⟩
  ·have h1:=ag h1
   have h2:=af h2
   have hlow:(decide (65<=x) && decide (x<=90))=false:=by rw [decide_eq_false (by omega:¬ x<=90),Bool.and_false]
   rw [hlow,Bool.false_or] at hc
   have h5:=af (show decide (((x:Nat):Int) > 57)=true from h5)
   rw [hc,decide_eq_false (by omega:¬ x<=57),Bool.and_false]
  ·have h1:=ag h1
   have h2:=af h2
   have hlow:(decide (65<=x) && decide (x<=90))=false:=by rw [decide_eq_false (by omega:¬ x<=90),Bool.and_false]
   rw [hlow,Bool.false_or] at hc
   have h3:¬ i=0:=by intro e;subst e;simp at h3
   have h4:=ag (show decide (((x:Nat):Int) < 48)=false from h4)
   have h5:=ag (show decide (((x:Nat):Int) > 57)=false from h5)
   obtain ⟨n1,n2,n3,n4⟩:=nxt (by rw [hc,decide_eq_false h3,decide_eq_true (by omega:48<=x),decide_eq_true (by omega:x<=57)];rfl)
   exact ⟨l.length - (i+1),_,_,n1,⟨i+1,rfl,n2,n3,rfl,rfl⟩,⟨rfl,rfl,am n4,trivial⟩,trivial,rfl⟩
  ·have h1:=ag h1
   have h2:=af h2
   have hlow:(decide (65<=x) && decide (x<=90))=false:=by rw [decide_eq_false (by omega:¬ x<=90),Bool.and_false]
   rw [hlow,Bool.false_or] at hc
   have h4:=af (show decide (((x:Nat):Int) < 48)=true from h4)
   exact ⟨fun _=>stop (by rw [hc,decide_eq_false (by omega:¬ 48<=x),Bool.and_false,Bool.false_and]),fun h=>absurd h (by decide)⟩
  ·have h1:=ag h1
   have h2:=af h2
   have hlow:(decide (65<=x) && decide (x<=90))=false:=by rw [decide_eq_false (by omega:¬ x<=90),Bool.and_false]
   rw [hlow,Bool.false_or] at hc
   have h3:i=0:=by have:(i:Int)=0:=by simpa using h3
                   omega
   exact ⟨fun h=>absurd h (by decide),fun _=>⟨fun _=>stop (by rw [hc,decide_eq_true h3];simp),fun h=>absurd h (by decide)⟩⟩
  ·have h1:=ag h1
   have h2:=ag h2
   obtain ⟨n1,n2,n3,n4⟩:=nxt (by rw [hc,decide_eq_true (by omega:65<=x),decide_eq_true (by omega:x<=90)];rfl)
   exact ⟨l.length - (i+1),_,_,n1,⟨i+1,rfl,n2,n3,rfl,rfl⟩,⟨rfl,rfl,am n4,trivial⟩,trivial,rfl⟩
  ·have h1:=af h1
   have hlow:(decide (65<=x) && decide (x<=90))=false:=by rw [decide_eq_false (by omega:¬ 65<=x),Bool.false_and]
   rw [hlow,Bool.false_or] at hc
   have h5:=af (show decide (((x:Nat):Int) > 57)=true from h5)
   rw [hc,decide_eq_false (by omega:¬ x<=57),Bool.and_false]
  ·have h1:=af h1
   have hlow:(decide (65<=x) && decide (x<=90))=false:=by rw [decide_eq_false (by omega:¬ 65<=x),Bool.false_and]
   rw [hlow,Bool.false_or] at hc
   have h3:¬ i=0:=by intro e;subst e;simp at h3
   have h4:=ag (show decide (((x:Nat):Int) < 48)=false from h4)
   have h5:=ag (show decide (((x:Nat):Int) > 57)=false from h5)
   obtain ⟨n1,n2,n3,n4⟩:=nxt (by rw [hc,decide_eq_false h3,decide_eq_true (by omega:48<=x),decide_eq_true (by omega:x<=57)];rfl)
   exact ⟨l.length - (i+1),_,_,n1,⟨i+1,rfl,n2,n3,rfl,rfl⟩,⟨rfl,rfl,am n4,trivial⟩,trivial,rfl⟩
  ·have h1:=af h1
   have hlow:(decide (65<=x) && decide (x<=90))=false:=by rw [decide_eq_false (by omega:¬ 65<=x),Bool.false_and]
   rw [hlow,Bool.false_or] at hc
   have h4:=af (show decide (((x:Nat):Int) < 48)=true from h4)
   exact ⟨fun _=>stop (by rw [hc,decide_eq_false (by omega:¬ 48<=x),Bool.and_false,Bool.false_and]),fun h=>absurd h (by decide)⟩
  ·have h1:=af h1
   have hlow:(decide (65<=x) && decide (x<=90))=false:=by rw [decide_eq_false (by omega:¬ 65<=x),Bool.false_and]
   rw [hlow,Bool.false_or] at hc
   have h3:i=0:=by have:(i:Int)=0:=by simpa using h3
                   omega
   exact ⟨fun h=>absurd h (by decide),fun _=>⟨fun _=>stop (by rw [hc,decide_eq_true h3];simp),fun h=>absurd h (by decide)⟩⟩
 ·have h:i=l.length:=by have:=ag h;omega
  subst h
  rw [fh hall,Bool.true_and]
  exact ⟨bv (by rw [show ((S l).toList == ByteArray.toList ⟨#[]⟩)=decide (l=[]) from dn l []]),trivial⟩
theorem EL (l:List UInt8):((cK true l && !decide (l=[])) && decide (l.length<=12))=bM l:=by
 unfold bM
 cases l
 ·rfl
 ·simp
theorem HG (l:List UInt8) (hl:l.length<=9223372036854775807):aw Tryz.prog 177 [SV.c (.string (S l))] (.bool (bM l)):=by
 refine aj ai ak OT _ _ rfl rfl fun w=>?_
 rw [<- EL]
 refine .inl ⟨_,rc l hl,fun h=>⟨_,fun w _=>az Tryz.underlying9 w,bv ?_,trivial⟩,fun h=>⟨bv ?_,trivial⟩⟩
 ·have h:(cK true l && !decide (l=[]))=true:=h
  rw [h,Bool.true_and,Bool.eq_iff_iff];simp only [decide_eq_true_eq];omega
 ·have h:(cK true l && !decide (l=[]))=false:=h
  rw [h];rfl
theorem xe (dg:Bool) (a b c:UInt8):cK dg [a,b,c]=(cm dg [a,b,c] 0 && (cm dg [a,b,c] 1 && (cm dg [a,b,c] 2 && true))):=rfl
theorem FI {l:List UInt8} (h:l.length=3):(cK true l && (decide (65<=(l.getD 1 0).toNat) && decide (65<=(l.getD 2 0).toNat)))=aD l:=by
 match l,h with
 | [a,b,c],_ =>
  unfold aD
  rw [xe,xe]
  simp only [cm,List.getD_cons_succ,List.getD_cons_zero,List.length_cons,List.length_nil]
  simp
  by_cases hb:65<=b.toNat
  ·by_cases hc:65<=c.toNat
   ·have e1:¬ b.toNat<=57:=by omega
    have e2:¬ c.toNat<=57:=by omega
    simp [hb,hc,e1,e2]
   ·simp [hc]
  ·simp [hb]
theorem KB (l:List UInt8) (hl:l.length<=9223372036854775807):aw Tryz.prog 178 [SV.c (.string (S l))] (.bool (aD l)):=by
 refine aj ai ak OS _ _ rfl rfl fun w=>?_
 have hx:∀ i:Nat,i < l.length->bB ((eF Tryz.prog tt Tryz.f178.ntmps w).toEnv) (Instr.index 9 (.string (S l)) (.int .i64 (i:Int))) (.int .u8 ((l.getD i 0).toNat:Nat)):=fun i h=>bL Tryz.underlying9 i rfl h
 have no:aD l=false->cT [.bool false]=.bool (aD l)/\True:=fun h=>⟨by rw [h];rfl,trivial⟩
 have nolen:¬ l.length=3->aD l=false:=fun h=>by
  unfold aD
  by_cases h2:l.length<=3
  ·rw [decide_eq_false (show ¬ (3:Int)<=l.length by omega)];simp
  ·rw [decide_eq_false (show ¬ ((l.length:Nat):Int)<=3 by omega)];simp
 refine .inl ⟨_,rc l hl,fun h=>⟨_,fun w _=>az Tryz.underlying9 w,fun h2=>?_,fun h2=>?_⟩,fun h=>?_⟩
 ·have h:(cK true l && !decide (l=[]))=true:=h
  have hca:cK true l=true:=by rw [Bool.and_eq_true] at h;exact h.1
  have h2:(((l.length:Nat):Int) == 3)=true:=h2
  have h2:l.length=3:=by have:((l.length:Nat):Int)=3:=by simpa using h2
                         omega
  have e:aD l=(decide (65<=(l.getD 1 0).toNat) && decide (65<=(l.getD 2 0).toNat)):=by rw [<- FI h2,hca,Bool.true_and]
  rw [e]
  refine ⟨_,hx 1 (by omega),fun h3=>⟨_,hx 2 (by omega),bv ?_,trivial⟩,fun h3=>⟨bv ?_,trivial⟩⟩
  ·have h3:=af h3
   rw [decide_eq_true (show 65<=(l.getD 1 0).toNat by omega),Bool.true_and,Bool.eq_iff_iff];simp only [decide_eq_true_eq];omega
  ·have h3:=ag (show decide ((((l.getD 1 0).toNat:Nat):Int) >= 65)=false from h3)
   rw [decide_eq_false (show ¬ 65<=(l.getD 1 0).toNat by omega),Bool.false_and]
 ·have h2:(((l.length:Nat):Int) == 3)=false:=h2
  have h2:¬ l.length=3:=by
   intro e
   rw [e] at h2;simp at h2
  exact ⟨fun h=>absurd h (by decide),fun _=>no (nolen h2)⟩
 ·have h:(cK true l && !decide (l=[]))=false:=h
  refine ⟨fun h=>absurd h (by decide),fun _=>⟨fun h=>absurd h (by decide),fun _=>no ?_⟩⟩
  by_cases h2:l.length=3
  ·rw [<- FI h2]
   have:l≠[]:=by intro e;rw [e] at h2;simp at h2
   have hca:cK true l=false:=by simpa [this] using h
   rw [hca];rfl
  ·exact nolen h2
def jU (r:RQ):Bool:=de r && decide (sgn r.p > 0)
theorem Hc {r:RQ} (hr:r.In):aw Tryz.prog 179 [SV.c (.agg r.A)] (.bool (jU r)):=by
 refine aj ai ak OR _ _ rfl rfl fun w=>?_
 have hc:=oz hr KI
 have hw:aw Tryz.prog 90 [SV.c (.int .i64 1000000000)] (.agg (RQ.of 1000000000 1).A):=d8 (by omega) (by omega)
 have hp:=J1 r
 have hs:r.ok=false->de r=false:=fun h=>by unfold de;rw [h];rfl
 generalize (if r.ok && (RQ.of 1000000000 1).ok then dp (r.p*(RQ.of 1000000000 1).q) ((RQ.of 1000000000 1).p*r.q) else 0)=hi at *
 refine ⟨r.A_size,.inl ⟨_,Dh hr 6,.inl ⟨_,zr hr,.inl ⟨_,hw,.inl ⟨_,hc,by kernel_rfl,fun h=>⟨fun h2=>⟨bv ?_,trivial⟩,fun h2=>⟨bv ?_,trivial⟩⟩,fun h=>⟨fun h=>absurd h (by decide),fun _=>⟨bv ?_,trivial⟩⟩⟩⟩⟩⟩⟩
 ·have h:((fp r 6).2 == 0)=true:=h
  have h2:=af h2
  have hk:r.ok=true:=by
   cases hk:r.ok with
   | true=>rfl
   | false=>rw [hk] at h2;simp at h2
  rw [hk,if_pos rfl] at h2 hp
  rw [h,decide_eq_true (show sgn r.p >= 0 by omega),Bool.true_and,Bool.true_and] at hp
  unfold jU
  rw [<- hp,decide_eq_true h2,Bool.and_true]
 ·have h2:=ag (show decide ((if r.ok then sgn r.p else 0) > 0)=false from h2)
  unfold jU
  cases hk:r.ok with
  | true=>rw [hk,if_pos rfl] at h2;rw [decide_eq_false h2,Bool.and_false]
  | false=>rw [hs hk];rfl
 ·have h:((fp r 6).2 == 0)=false:=h
  rw [h,Bool.false_and] at hp
  unfold jU
  rw [<- hp];rfl
structure QC where
 src:List UInt8
 ins:List UInt8
 cur:List UInt8
 day:Int
 price:RQ
 known:Int
 void:Bool
def QC.pre (a:QC):Array Value:=#[.string (S a.src),.string (S a.ins),.string (S a.cur),.int .i64 a.day]
def QC.post (a:QC):Array Value:=#[.int .i64 a.known,.bool a.void]
def QC.A (a:QC):Array Value:=a.pre++(a.price.A++a.post)
structure QC.In (a:QC):Prop where
 price:a.price.In
 src:a.src.length<=9223372036854775807
 ins:a.ins.length<=9223372036854775807
 cur:a.cur.length<=9223372036854775807
 day : -9223372036854775808<=a.day/\a.day<=9223372036854775807
theorem QC.size (a:QC):a.A.size=72:=by simp [QC.A,QC.pre,QC.post,RQ.A_size]
theorem QC.fits (a:QC):Fits a.A 72:=⟨a.size,by
 rw [QC.A,Array.all_append,Array.all_append,a.price.A_fits.one]
 simp [QC.pre,QC.post,Value.oneCell']⟩
theorem QC.one (a:QC):a.A.all (·.oneCell')=true:=a.fits.one
theorem QC.at_pre (a:QC) {i:Nat} (h:i < 4):a.A[i]? = a.pre[i]?:=by
 rw [QC.A,Array.getElem?_append_left (by simpa [QC.pre] using h)]
theorem QC.at_post (a:QC) {i:Nat} (h:70<=i):a.A[i]? = a.post[i - 70]?:=by
 rw [QC.A,Array.getElem?_append_right (by simp [QC.pre];omega),Array.getElem?_append_right (by simp [QC.pre,RQ.A_size];omega)]
 simp only [QC.pre,RQ.A_size]
 congr 1
theorem QC.g0 (a:QC):a.A[0]? = some (.string (S a.src)):=(a.at_pre (by omega)).trans rfl
theorem QC.g1 (a:QC):a.A[1]? = some (.string (S a.ins)):=(a.at_pre (by omega)).trans rfl
theorem QC.g2 (a:QC):a.A[2]? = some (.string (S a.cur)):=(a.at_pre (by omega)).trans rfl
theorem QC.g3 (a:QC):a.A[3]? = some (.int .i64 a.day):=(a.at_pre (by omega)).trans rfl
theorem QC.g70 (a:QC):a.A[70]? = some (.int .i64 a.known):=(a.at_post (by omega)).trans rfl
theorem QC.g71 (a:QC):a.A[71]? = some (.bool a.void):=(a.at_post (by omega)).trans rfl
theorem QC.gpri (a:QC):a.A.extract 4 (4+66)=a.price.A:=by
 apply Array.ext'
 simp [QC.A,QC.pre,RQ.A_size,List.extract_eq_take_drop]
 exact List.take_of_length_le (by simp [RQ.A_size])
def aN:RQ:=⟨false,0,false,0⟩
theorem i4:aN.In:=⟨bU,bU⟩
theorem tg:aN.A=bZ.zero:=by kernel_rfl
def bN (a:QC):Bool:=bS a.src && (bM a.ins && (aD a.cur && ((decide (0<=a.day) && decide (a.day<=73048)) && (if a.void then a.price.beq aN else jU a.price))))
theorem G5 {a:QC} (ha:a.In):aw Tryz.prog 115 [SV.c (.agg a.A)] (.bool (bN a)):=by
 refine aj ai ak PV _ _ rfl rfl fun w=>?_
 have no:bN a=false->cT [.bool false]=.bool (bN a)/\True:=fun h=>⟨by rw [h];rfl,trivial⟩
 have n1:=x0 a.src ha.src
 have n2:=HG a.ins ha.ins
 have n3:=KB a.cur ha.cur
 have n4:=Hc ha.price
 have g0:=a.g0
 have g1:=a.g1
 have g2:=a.g2
 have g3:=a.g3
 have g71:=a.g71
 have gp:=a.gpri
 have hsz:=a.size
 have hf:=a.fits
 generalize hY:a.A=YA at *
 refine ⟨hsz,_,g0,.inl ⟨_,n1,fun h1=>⟨_,g1,.inl ⟨_,n2,fun h2=>⟨_,g2,.inl ⟨_,n3,fun h3=>⟨_,g3,fun h4=>⟨_,g3,fun h5=>?_,fun h5=>?_⟩,fun h4=>?_⟩,fun h3=>?_⟩⟩,fun h2=>?_⟩⟩,fun h1=>?_⟩⟩
 ·have h5:=af h5
  exact no (by unfold bN;rw [decide_eq_false (show ¬ a.day<=73048 by omega)];simp)
 ·have h1:bS a.src=true:=bq h1
  have h2:bM a.ins=true:=bq h2
  have h3:aD a.cur=true:=bq h3
  have h4:=ag (show decide (a.day < 0)=false from h4)
  have h5:=ag (show decide (a.day > 73048)=false from h5)
  have hr:bN a=if a.void then a.price.beq aN else jU a.price:=by
   unfold bN
   rw [h1,h2,h3,decide_eq_true (show 0<=a.day by omega),decide_eq_true (show a.day<=73048 by omega)];rfl
  rw [hr]
  refine ⟨_,g71,fun h6=>?_,fun h6=>?_⟩
  ·have h6:a.void=true:=h6
   rw [if_pos h6]
   have hq:=sM (E:=(eF Tryz.prog tt Tryz.f115.ntmps w).toEnv) rfl ha.price i4 (u:=.tmp 32) (v:=.tmp 33)
   rw [tg] at hq
   exact ⟨by decide,_,gp,_,rfl,_,hq,rfl,trivial⟩
  ·have h6:a.void=false:=h6
   rw [h6]
   exact ⟨by decide,_,gp,.inl ⟨_,n4,rfl,trivial⟩⟩
 ·have h4:=af (show decide (a.day < 0)=true from h4)
  exact ⟨fun _=>no (by unfold bN;rw [decide_eq_false (show ¬ 0<=a.day by omega)];simp),fun h=>absurd h (by decide)⟩
 ·have h3:aD a.cur=false:=bnt (by simpa using h3)
  exact ⟨fun h=>absurd h (by decide),fun _=>⟨fun _=>no (by unfold bN;rw [h3];simp),fun h=>absurd h (by decide)⟩⟩
 ·have h2:bM a.ins=false:=bnt (by simpa using h2)
  exact ⟨fun h=>absurd h (by decide),fun _=>⟨fun h=>absurd h (by decide),fun _=>⟨fun _=>no (by unfold bN;rw [h2];simp),fun h=>absurd h (by decide)⟩⟩⟩
 ·have h1:bS a.src=false:=bnt (by simpa using h1)
  exact ⟨fun h=>absurd h (by decide),fun _=>⟨fun h=>absurd h (by decide),fun _=>⟨fun h=>absurd h (by decide),fun _=>⟨fun _=>no (by unfold bN;rw [h1];rfl),fun h=>absurd h (by decide)⟩⟩⟩⟩
theorem Hz (n:Int):aw Tryz.prog 116 [SV.c (.int .i64 n)] (.bool (decide (1<=n) && decide (n<=2147483647))):=by
 refine aj ai ak PU _ _ rfl rfl fun w=>?_
 refine ⟨fun h=>⟨bv ?_,trivial⟩,fun h=>⟨bv ?_,trivial⟩⟩
 ·have h:decide (1<=n)=true:=h
  rw [h];rfl
 ·have h:decide (1<=n)=false:=h
  rw [h];rfl
theorem EE (n:Int):aw Tryz.prog 192 [SV.c (.int .i64 n)] (.bool (decide (1<=n) && decide (n<=2147483647))):=by
 refine aj ai ak OD _ _ rfl rfl fun w=>?_
 refine ⟨fun h=>⟨bv ?_,trivial⟩,fun h=>⟨bv ?_,trivial⟩⟩
 ·have h:decide (1<=n)=true:=h
  rw [h];rfl
 ·have h:decide (1<=n)=false:=h
  rw [h];rfl
def yf (n:Int):Bool:=decide (1<=n) && decide (n<=2147483647)
def bO (a:QC):Bool:=bN a && yf a.known
theorem A7 {a:QC} (ha:a.In):aw Tryz.prog 132 [SV.c (.agg a.A)] (.bool (bO a)):=by
 refine aj ai ak PB _ _ rfl rfl fun w=>?_
 have no:bO a=false->cT [.bool false]=.bool (bO a)/\True:=fun h=>⟨by rw [h];rfl,trivial⟩
 have n1:=x4 a.src ha.src
 have n2:=tK a.ins ha.ins
 have n3:=FK a.cur ha.cur
 have n4:=Hb ha.price
 have n5:aw Tryz.prog 192 [SV.c (.int .i64 a.known)] (.bool (yf a.known)):=EE a.known
 have n6:=GC
 have g0:=a.g0
 have g1:=a.g1
 have g2:=a.g2
 have g3:=a.g3
 have g70:=a.g70
 have g71:=a.g71
 have gp:=a.gpri
 have hsz:=a.size
 generalize hY:a.A=YA at *
 refine ⟨hsz,_,g0,.inl ⟨_,n1,fun h1=>⟨_,g1,.inl ⟨_,n2,fun h2=>⟨_,g2,.inl ⟨_,n3,fun h3=>⟨_,g3,.inl ⟨_,qk _,fun h4=>⟨_,g70,.inl ⟨_,n5,fun h5=>?_,fun h5=>?_⟩⟩,fun h4=>?_⟩⟩,fun h3=>?_⟩⟩,fun h2=>?_⟩⟩,fun h1=>?_⟩⟩
 ·have h5:yf a.known=false:=bnt h5
  exact no (by unfold bO;rw [h5];simp)
 ·have h1:bS a.src=true:=bq h1
  have h2:bM a.ins=true:=bq h2
  have h3:aD a.cur=true:=bq h3
  have h4:(decide (a.day < 0) || decide (a.day > 73048))=false:=h4
  have h4:¬ a.day < 0/\¬ a.day > 73048:=by simp at h4;omega
  have h5:yf a.known=true:=bq h5
  have hr:bO a=if a.void then a.price.beq aN else jU a.price:=by
   unfold bO bN
   rw [h1,h2,h3,h5,decide_eq_true (show 0<=a.day by omega),decide_eq_true (show a.day<=73048 by omega)];simp
  rw [hr]
  refine ⟨_,g71,fun h6=>?_,fun h6=>?_⟩
  ·have h6:a.void=true:=h6
   rw [if_pos h6]
   have hq:=sM (E:=(eF Tryz.prog tt Tryz.f132.ntmps w).toEnv) rfl ha.price i4 (u:=.tmp 33) (v:=.tmp 34)
   rw [tg] at hq
   exact ⟨by decide,_,gp,_,rfl,_,hq,rfl,trivial⟩
  ·have h6:a.void=false:=h6
   rw [h6]
   refine ⟨by decide,_,gp,.inl ⟨_,n4,fun h7=>⟨by decide,_,gp,.inl ⟨_,n6,?_⟩⟩,fun h7=>?_⟩⟩
   ·have h7:de a.price=true:=h7
    refine ⟨_,Bz rfl ha.price Hm,by kernel_rfl,bv ?_,trivial⟩
    rw [Ea h7]
    show _=jU a.price
    unfold jU
    rw [h7,Bool.true_and]
   ·have h7:de a.price=false:=h7
    refine ⟨by kernel_rfl,bv ?_,trivial⟩
    show _=jU a.price
    unfold jU
    rw [h7,Bool.false_and]
 ·have h4:(decide (a.day < 0) || decide (a.day > 73048))=true:=h4
  have h4:¬ (0<=a.day/\a.day<=73048):=by simp at h4;omega
  have h4:(decide (0<=a.day) && decide (a.day<=73048))=false:=by simpa using h4
  exact ⟨fun _=>no (by unfold bO bN;rw [h4];simp),fun h=>absurd h (by decide)⟩
 ·have h3:aD a.cur=false:=bnt (by simpa using h3)
  exact ⟨fun h=>absurd h (by decide),fun _=>⟨fun _=>no (by unfold bO bN;rw [h3];simp),fun h=>absurd h (by decide)⟩⟩
 ·have h2:bM a.ins=false:=bnt (by simpa using h2)
  exact ⟨fun h=>absurd h (by decide),fun _=>⟨fun h=>absurd h (by decide),fun _=>⟨fun _=>no (by unfold bO bN;rw [h2];simp),fun h=>absurd h (by decide)⟩⟩⟩
 ·have h1:bS a.src=false:=bnt (by simpa using h1)
  exact ⟨fun h=>absurd h (by decide),fun _=>⟨fun h=>absurd h (by decide),fun _=>⟨fun h=>absurd h (by decide),fun _=>⟨fun _=>no (by unfold bO bN;rw [h1];rfl),fun h=>absurd h (by decide)⟩⟩⟩⟩
theorem kb {a:QC} (h:bN a=true):bS a.src=true/\bM a.ins=true/\0<=a.day/\a.day<=73048:=by
 unfold bN at h
 simp only [Bool.and_eq_true,decide_eq_true_eq] at h
 exact ⟨h.1,h.2.1,h.2.2.2.1.1,h.2.2.2.1.2⟩
theorem lO {l:List UInt8} (h:bS l=true):0 < l.length/\l.length<=16:=by
 cases l with
 | nil=>cases h
 | cons b r =>
  unfold bS at h
  simp only [Bool.and_eq_true,decide_eq_true_eq] at h
  exact ⟨by simp,h.1⟩
theorem Ac {l:List UInt8} (h:bM l=true):l.length<=12:=by
 unfold bM at h
 simp only [Bool.and_eq_true,decide_eq_true_eq] at h
 exact h.2.2
def HC (a:QC):List UInt8:=a.src++(44 :: (a.ins++(44 :: rL a.day.toNat)))
theorem wK (n:Nat):(rL n).length=10:=rfl
theorem Gy (a b c:List UInt8):(((S a++S [44])++S b)++S [44])++S c=S (a++(44 :: (b++(44 :: c)))):=by
 rw [bg,bg,bg,bg]
 congr 1
 simp
theorem Mo {a:QC} (h:bN a=true):aw Tryz.prog 180 [SV.c (.string (S a.src)),SV.c (.string (S a.ins)),SV.c (.int .i64 a.day)] (.string (S (HC a))):=by
 refine aj ai ak OQ _ _ rfl rfl fun w=>?_
 obtain ⟨h1,h2,h3,h4⟩:=kb h
 have h5:=lO h1
 have h6:=Ac h2
 have hf:=Ko a.day
 rw [ww,if_pos ⟨h3,h4⟩] at hf
 have z1:(S a.src++S [44]).size=a.src.length+1:=by rw [bg,aH];simp
 have z2:((S a.src++S [44])++S a.ins).size=a.src.length+1+a.ins.length:=by rw [bg,bg,aH];simp;omega
 have z3:(((S a.src++S [44])++S a.ins)++S [44]).size=a.src.length+1+a.ins.length+1:=by rw [bg,bg,bg,aH];simp;omega
 have hk:S (HC a)=(((S a.src++S [44])++S a.ins)++S [44])++S (rL a.day.toNat):=(Gy _ _ _).symm
 rw [hk]
 refine .inl ⟨_,hf,(show (S a.src).size+(S [44]).size<=9223372036854775807 by rw [aH,aH];simp;omega),(show (S a.src++S [44]).size+(S a.ins).size<=9223372036854775807 by rw [z1,aH];omega),(show ((S a.src++S [44])++S a.ins).size+(S [44]).size<=9223372036854775807 by rw [z2,aH];simp;omega),(show (((S a.src++S [44])++S a.ins)++S [44]).size+(S (rL a.day.toNat)).size<=9223372036854775807 by rw [z3,aH,wK];omega),?_⟩
 exact ⟨rfl,trivial⟩
def cF (a:QC):MK:=⟨HC a,a.known,a.void⟩
theorem zU {E:Env} (hE:E.P=Tryz.prog) {v:Value} {xs:List QC} (hv:Lst E v 72 xs.length (cat QC.A xs)) (hn:xs.length<=1000000000000) (hok:∀ y∈xs,bN y=true):OwnC E 118 [SV.c v] [] (Qm 2000 208 3 xs.length (cat MK.A (xs.map cF))):=by
 refine aA [] ai ak PT E hE [SV.c v] [] _ rfl rfl fun w X β hT=>?_
 obtain ⟨a,cap,rfl,hc,h4⟩:=(hv.of_old hT).shape
 refine ⟨_,fun w' _=>al Tryz.underlying26 w',?_⟩
 refine ⟨fun q f m=>∃ (i:Nat) (x:Value),q=xs.length - i/\i<=xs.length/\IsL x i/\f=[(3,SV.c x),(6,SV.c (.slice a xs.length cap)),(7,SV.c (.int .i64 (xs.length:Nat))),(8,SV.c (.int .i64 (i:Nat)))]/\m=[(2000,Blk.own x 208 3 i (cat MK.A ((xs.take i).map cF)))],xs.length,⟨_,_,⟨0,.slice none 0 0,by omega,by omega,.nil,rfl,rfl⟩,⟨rfl,rfl,rfl,rfl,trivial⟩,⟨.inr ⟨rfl,rfl,rfl⟩,trivial⟩,rfl⟩,?_⟩
 rintro q f m ⟨i,x,rfl,hi,hx,rfl,rfl⟩
 refine ⟨fun h=>?_,fun h=>?_⟩
 ·have h:i < xs.length:=by have:=af h;omega
  obtain ⟨b,o,rfl,h5⟩:=h4 (by omega)
  obtain ⟨y,hy⟩:∃ y,xs[i]? = some y:=⟨_,List.getElem?_eq_getElem h⟩
  have hE':VOk (aT Tryz.prog tt Tryz.f118.ntmps w X (aF [] β)):=ai
  have L1:=bd hE' h5 QC.size hy (ty:=63) (ti:=gg) rfl rfl rfl (p:=o+(i:Int).toNat*72) rfl
  have k1:=Mo (hok y (List.mem_of_getElem? hy))
  refine ⟨by omega,by omega,.inl ⟨_,L1,y.fits,?_⟩⟩
  refine ⟨_,y.g0,_,y.g1,_,y.g3,.inl ⟨_,k1,_,y.g70,_,y.g71,_,sI (cF y) rfl,?_⟩⟩
  refine .inl ⟨by decide,by decide,_,qT (cF y),rfl,by decide,2000,i,_,.inl rfl,by decide,(cF y).one,rfl,_,(cF y).ext3,?_⟩
  obtain ⟨q,hq,hb⟩:=su
  refine ⟨by omega,by unfold maxLen;omega,⟨q,hq,by rw [hb];omega⟩,by change _=true;kernel_rfl,fun g2 cap2=>⟨by kernel_rfl,?_⟩⟩
  exact ⟨xs.length - (i+1),_,_,by omega,⟨i+1,_,rfl,by omega,.some,rfl,rfl⟩,⟨rfl,rfl,rfl,am (ar (by omega)),trivial⟩,⟨.inl (bw (w9 cF MK.A hy)),trivial⟩,rfl⟩
 ·have h:i=xs.length:=by have:=ag h;omega
  subst h
  rw [List.take_length]
  exact ⟨[(2000,Blk.own x 208 3 xs.length (cat MK.A (xs.map cF)))],[],⟨hx,rfl⟩,⟨.inl rfl,trivial⟩,rfl⟩
theorem vS {E:Env} (hE:E.P=Tryz.prog) {v:Value} {xs:List QC} (hv:Lst E v 72 xs.length (cat QC.A xs)) (hn:xs.length<=1000000000000) (hok:∀ y∈xs,bN y=true):OwnC E 134 [SV.c v] [] (Qm 2000 208 3 xs.length (cat MK.A (xs.map cF))):=by
 refine aA [] ai ak Pz E hE [SV.c v] [] _ rfl rfl fun w X β hT=>?_
 obtain ⟨a,cap,rfl,hc,h4⟩:=(hv.of_old hT).shape
 refine ⟨fun q f m=>∃ (i:Nat) (x:Value),q=xs.length - i/\i<=xs.length/\IsL x i/\f=[(0,SV.c (.slice a xs.length cap)),(3,SV.c x),(4,SV.c (.int .i64 (i:Nat)))]/\m=[(2000,Blk.own x 208 3 i (cat MK.A ((xs.take i).map cF)))],xs.length,⟨_,_,⟨0,.slice none 0 0,by omega,by omega,.nil,rfl,rfl⟩,⟨rfl,rfl,rfl,trivial⟩,⟨.inr ⟨rfl,rfl,rfl⟩,trivial⟩,rfl⟩,?_⟩
 rintro q f m ⟨i,x,rfl,hi,hx,rfl,rfl⟩
 refine ⟨_,fun w' _=>al Tryz.underlying26 w',fun h=>?_,fun h=>?_⟩
 ·have h:i < xs.length:=by have:=af h;omega
  obtain ⟨b,o,rfl,h5⟩:=h4 (by omega)
  obtain ⟨y,hy⟩:∃ y,xs[i]? = some y:=⟨_,List.getElem?_eq_getElem h⟩
  have hE':VOk (aT Tryz.prog tt Tryz.f134.ntmps w X (aF [] β)):=ai
  have L0:=aW hE' h5 QC.size hy y.g0 (ty:=9) (ti:=ti9) rfl rfl (p:=o+(i:Int).toNat*72+0) rfl
  have L1:=aW hE' h5 QC.size hy y.g1 (ty:=9) (ti:=ti9) rfl rfl (p:=o+(i:Int).toNat*72+1) rfl
  have L3:=aW hE' h5 QC.size hy y.g3 (ty:=3) (ti:=ti3) rfl rfl (p:=o+(i:Int).toNat*72+3) rfl
  have L70:=aW hE' h5 QC.size hy y.g70 (ty:=3) (ti:=ti3) rfl rfl (p:=o+(i:Int).toNat*72+70) rfl
  have L71:=aW hE' h5 QC.size hy y.g71 (ty:=4) (ti:=ti4) rfl rfl (p:=o+(i:Int).toNat*72+71) rfl
  have hr:=hok y (List.mem_of_getElem? hy)
  obtain ⟨q1,q2,q3,q4⟩:=kb hr
  have q5:=lO q1
  have q6:=Ac q2
  have hf:=Kp y.day
  rw [ww,if_pos ⟨q3,q4⟩] at hf
  have z1:(S y.src++S [44]).size=y.src.length+1:=by rw [bg,aH];simp
  have z2:((S y.src++S [44])++S y.ins).size=y.src.length+1+y.ins.length:=by rw [bg,bg,aH];simp;omega
  have z3:(((S y.src++S [44])++S y.ins)++S [44]).size=y.src.length+1+y.ins.length+1:=by rw [bg,bg,bg,aH];simp;omega
  have hk:S (HC y)=(((S y.src++S [44])++S y.ins)++S [44])++S (rL y.day.toNat):=(Gy _ _ _).symm
  have fm:Instr.fill (fun k=>[(0,1),(1,1),(2,1)][k]?) my.zero [(0,.string ((((S y.src++S [44])++S y.ins)++S [44])++S (rL y.day.toNat))),(1,.int .i64 y.known),(2,.bool y.void)]=some (cF y).A:=by rw [<- hk];exact sI (cF y) rfl
  refine ⟨by omega,by omega,.inl ⟨_,L3,.inl ⟨_,hf,by omega,by omega,.inl ⟨_,L0,(show (S y.src).size+(S [44]).size<=9223372036854775807 by rw [aH,aH];simp;omega),by omega,by omega,.inl ⟨_,L1,(show (S y.src++S [44]).size+(S y.ins).size<=9223372036854775807 by rw [z1,aH];omega),(show ((S y.src++S [44])++S y.ins).size+(S [44]).size<=9223372036854775807 by rw [z2,aH];simp;omega),(show (((S y.src++S [44])++S y.ins)++S [44]).size+(S (rL y.day.toNat)).size<=9223372036854775807 by rw [z3,aH,wK];omega),by omega,by omega,.inl ⟨_,L70,by omega,by omega,.inl ⟨_,L71,_,fm,?_⟩⟩⟩⟩⟩⟩⟩
  refine .inl ⟨by decide,by decide,_,qT (cF y),rfl,by decide,2000,i,_,.inl rfl,by decide,(cF y).one,rfl,_,(cF y).ext3,?_⟩
  obtain ⟨q,hq,hb⟩:=su
  refine ⟨by omega,by unfold maxLen;omega,⟨q,hq,by rw [hb];omega⟩,by change _=true;kernel_rfl,fun g2 cap2=>⟨by kernel_rfl,?_⟩⟩
  exact ⟨xs.length - (i+1),_,_,by omega,⟨i+1,_,rfl,by omega,.some,rfl,rfl⟩,⟨rfl,rfl,am (ar (by omega)),trivial⟩,⟨.inl (bw (w9 cF MK.A hy)),trivial⟩,rfl⟩
 ·have h:i=xs.length:=by have:=ag h;omega
  subst h
  rw [List.take_length]
  exact ⟨[(2000,Blk.own x 208 3 xs.length (cat MK.A (xs.map cF)))],[],⟨hx,rfl⟩,⟨.inl rfl,trivial⟩,rfl⟩
def bF (xs:List QC):Int:=if xs.all bO then fI (xs.map cF) else 141
theorem q7 {xs:List QC} {i:Nat} {y:QC} (hy:xs[i]? = some y) (h:bO y=false):bF xs=141:=by
 unfold bF
 rw [if_neg]
 intro h2
 rw [List.all_eq_true] at h2
 have:=h2 y (List.mem_of_getElem? hy)
 rw [h] at this;cases this
theorem sV {xs:List QC} (h:∀ (i:Nat) (y   : QC),xs[i]? = some y->bO y=true):bF xs=fI (xs.map cF):=by
 unfold bF
 rw [if_pos]
 rw [List.all_eq_true]
 intro y hy
 obtain ⟨i,hi⟩:=List.getElem?_of_mem hy
 exact h i y hi
theorem j5 {a:QC} (h:bO a=true):bN a=true:=by
 unfold bO at h
 rw [Bool.and_eq_true] at h
 exact h.1
theorem q8 {xs:List QC} (h:bF xs=0):∀ y∈xs,bN y=true:=by
 intro y hy
 have hv:xs.all bO=true:=by
  cases e:xs.all bO with
  | true=>rfl
  | false=>unfold bF at h;rw [if_neg (by rw [e];simp)] at h;cases h
 rw [List.all_eq_true] at hv
 exact j5 (hv y hy)
theorem ux {E:Env} (hE:E.P=Tryz.prog) {v:Value} {xs:List QC} (hv:Lst E v 72 xs.length (cat QC.A xs)) (hn:xs.length<=1000000000000) (hin:∀ y∈xs,y.In):OwnC E 53 [SV.c v] [] (fun x U=>x=.int .i64 (bF xs)/\U=[]):=by
 refine aA [] ai ak RD E hE [SV.c v] [] _ rfl rfl fun w X β hT=>?_
 have hv':=hv.of_old hT
 have M1:=fun hok=>zU rfl hv' hn hok
 obtain ⟨a,cap,rfl,hc,h4⟩:=hv'.shape
 refine ⟨_,fun w' _=>al Tryz.underlying26 w',?_⟩
 refine ⟨fun q f m=>∃ (i:Nat),q=xs.length - i/\i<=xs.length/\(∀ (j:Nat) (y   : QC),j < i->xs[j]? = some y->bO y=true)/\f=[(0,SV.c (.slice a xs.length cap)),(5,SV.c (.slice a xs.length cap)),(6,SV.c (.int .i64 (xs.length:Nat))),(7,SV.c (.int .i64 (i:Nat)))]/\m=[],xs.length,⟨_,_,⟨0,by omega,by omega,fun j y h=>by omega,rfl,rfl⟩,⟨rfl,rfl,rfl,rfl,trivial⟩,trivial,rfl⟩,?_⟩
 rintro q f m ⟨i,rfl,hi,hok,rfl,rfl⟩
 refine ⟨fun h=>?_,fun h=>?_⟩
 ·have h:i < xs.length:=by have:=af h;omega
  obtain ⟨b,o,rfl,h5⟩:=h4 (by omega)
  obtain ⟨y,hy⟩:∃ y,xs[i]? = some y:=⟨_,List.getElem?_eq_getElem h⟩
  have hE':VOk (aT Tryz.prog tt Tryz.f53.ntmps w X (aF [] β)):=ai
  have L1:=bd hE' h5 QC.size hy (ty:=63) (ti:=gg) rfl rfl rfl (p:=o+(i:Int).toNat*72) rfl
  have V1:=G5 (hin y (List.mem_of_getElem? hy))
  have K1:aw Tryz.prog 116 [SV.c (.int .i64 y.known)] (.bool (yf y.known)):=Hz y.known
  have F1:=y.fits
  have G1:=y.g70
  generalize hY:y.A=YA at L1 V1 F1 G1
  refine ⟨by omega,by omega,.inl ⟨_,L1,F1,.inl ⟨_,V1,fun c1=>⟨_,G1,.inl ⟨_,K1,fun c2=>?_,fun c2=>?_⟩⟩,fun c1=>?_⟩⟩⟩
  ·have c2:yf y.known=false:=bnt c2
   have c2:bO y=false:=by unfold bO;rw [c2];simp
   exact ⟨[],[],⟨by rw [q7 hy c2];rfl,rfl⟩,trivial,rfl⟩
  ·have c1:bN y=true:=bq c1
   have c2:yf y.known=true:=bq c2
   have c1:bO y=true:=by unfold bO;rw [c1,c2];rfl
   refine ⟨xs.length - (i+1),_,_,by omega,⟨i+1,rfl,by omega,fun j z hj hz=>?_,rfl,rfl⟩,⟨rfl,rfl,rfl,am (ar (by omega)),trivial⟩,trivial,rfl⟩
   rcases Nat.lt_or_ge j i with h9 | h9
   ·exact hok j z h9 hz
   ·have:j=i:=by omega
    subst this
    rw [hy] at hz;cases hz
    exact c1
  ·have c1:bN y=false:=bnt (by simpa using c1)
   have c2:bO y=false:=by unfold bO;rw [c1];rfl
   exact ⟨fun _=>⟨[],[],⟨by rw [q7 hy c2];rfl,rfl⟩,trivial,rfl⟩,fun h=>absurd h (by decide)⟩
 ·have h:i=xs.length:=by have:=ag h;omega
  subst h
  have hok2:∀ y∈xs,bN y=true:=fun y hy=>by
   obtain ⟨j,hj⟩:=List.getElem?_of_mem hy
   exact j5 (hok j y (List.getElem?_eq_some_iff.1 hj).1 hj)
  refine .inr (.inr (.inr ⟨[],[2000],[_],[],_,M1 hok2,rfl,trivial,rfl,trivial,?_⟩))
  rintro x U ⟨hx,rfl⟩
  refine ⟨rfl,?_⟩
  have C1:=Cr (E:=(aT Tryz.prog tt Tryz.f53.ntmps w X (aF [] β)).toEnv) rfl (x:=x) (xs:=xs.map cF) (n:=xs.length) (by simp)
  refine .inr (.inr (.inl ⟨[],[_],[_],_,[_],C1,rfl,⟨.inl rfl,trivial⟩,rfl,rfl,?_⟩))
  have e1:bF xs=fI (xs.map cF):=sV fun j y hy=>hok j y (List.getElem?_eq_some_iff.1 hy).1 hy
  exact ⟨[],[],⟨by rw [e1];rfl,rfl⟩,trivial,rfl⟩
theorem q9 {E:Env} (hE:E.P=Tryz.prog) {v:Value} {xs:List QC} (hv:Lst E v 72 xs.length (cat QC.A xs)) (hn:xs.length<=1000000000000) (hin:∀ y∈xs,y.In):OwnC E 62 [SV.c v] [] (fun x U=>x=.int .i64 (bF xs)/\U=[]):=by
 refine aA [] ai ak Ru E hE [SV.c v] [] _ rfl rfl fun w X β hT=>?_
 have hv':=hv.of_old hT
 have M1:=fun hok=>vS rfl hv' hn hok
 obtain ⟨a,cap,rfl,hc,h4⟩:=hv'.shape
 refine ⟨fun q f m=>∃ (i:Nat),q=xs.length - i/\i<=xs.length/\(∀ (j:Nat) (y   : QC),j < i->xs[j]? = some y->bO y=true)/\f=[(0,SV.c (.slice a xs.length cap)),(3,SV.c (.int .i64 (i:Nat)))]/\m=[],xs.length,⟨_,_,⟨0,by omega,by omega,fun j y h=>by omega,rfl,rfl⟩,⟨rfl,rfl,trivial⟩,trivial,rfl⟩,?_⟩
 rintro q f m ⟨i,rfl,hi,hok,rfl,rfl⟩
 refine ⟨_,fun w' _=>al Tryz.underlying26 w',fun h=>?_,fun h=>?_⟩
 ·have h:i < xs.length:=by have:=af h;omega
  obtain ⟨b,o,rfl,h5⟩:=h4 (by omega)
  obtain ⟨y,hy⟩:∃ y,xs[i]? = some y:=⟨_,List.getElem?_eq_getElem h⟩
  have hE':VOk (aT Tryz.prog tt Tryz.f62.ntmps w X (aF [] β)):=ai
  have L1:=bd hE' h5 QC.size hy (ty:=63) (ti:=gg) rfl rfl rfl (p:=o+(i:Int).toNat*72) rfl
  have V1:=A7 (hin y (List.mem_of_getElem? hy))
  generalize hY:y.A=YA at L1 V1
  refine ⟨by omega,by omega,.inl ⟨_,L1,.inl ⟨_,V1,fun c1=>?_,fun c1=>?_⟩⟩⟩
  ·have c1:(!bO y)=true:=c1
   have c1:bO y=false:=by simpa using c1
   exact ⟨[],[],⟨by rw [q7 hy c1];rfl,rfl⟩,trivial,rfl⟩
  ·have c1:(!bO y)=false:=c1
   have c1:bO y=true:=by simpa using c1
   refine ⟨xs.length - (i+1),_,_,by omega,⟨i+1,rfl,by omega,fun j z hj hz=>?_,rfl,rfl⟩,⟨rfl,am (ar (by omega)),trivial⟩,trivial,rfl⟩
   rcases Nat.lt_or_ge j i with h9 | h9
   ·exact hok j z h9 hz
   ·have:j=i:=by omega
    subst this
    rw [hy] at hz;cases hz
    exact c1
 ·have h:i=xs.length:=by have:=ag h;omega
  subst h
  have hok2:∀ y∈xs,bN y=true:=fun y hy=>by
   obtain ⟨j,hj⟩:=List.getElem?_of_mem hy
   exact j5 (hok j y (List.getElem?_eq_some_iff.1 hj).1 hj)
  refine .inr (.inr (.inr ⟨[],[2000],[_],[],_,M1 hok2,rfl,trivial,rfl,trivial,?_⟩))
  rintro x U ⟨hx,rfl⟩
  refine ⟨rfl,?_⟩
  have C1:=yM (E:=(aT Tryz.prog tt Tryz.f62.ntmps w X (aF [] β)).toEnv) rfl (x:=x) (xs:=xs.map cF) (n:=xs.length) (by simp)
  refine .inr (.inr (.inl ⟨[],[_],[_],_,[_],C1,rfl,⟨.inl rfl,trivial⟩,rfl,rfl,?_⟩))
  have e1:bF xs=fI (xs.map cF):=sV fun j y hy=>hok j y (List.getElem?_eq_some_iff.1 hy).1 hy
  exact ⟨[],[],⟨by rw [e1];rfl,rfl⟩,trivial,rfl⟩



theorem kh:∃ q,Tryz.prog.info? 63=some q/\q.bytes=336:=jI (by kernel_rfl)
def iK (xs:List QC) (k:Int):List Nat:=pP (xs.map cF) k
def d9 (xs:List QC) (k:Int):List QC:=if bF xs=0 then (iK xs k).filterMap (fun i=>xs[i]?) else []
def Jg (xs:List QC) (k:Int) (x:Value) (U:aE):Prop:=∃ s n,n=(d9 xs k).length/\x=.tuple #[s,.int .i64 (bF xs)]/\IsL s n/\U=[(3000,Blk.own s 63 72 n (cat QC.A (d9 xs k)))]
theorem nG {xs:List QC} {k:Int} {i:Nat} (h:i∈iK xs k):i < xs.length:=by
 unfold iK pP at h
 rw [List.mem_filter,List.mem_range,List.length_map] at h
 exact h.1
theorem nH (xs:List QC) (k:Int):(iK xs k).length<=xs.length:=by
 unfold iK pP
 have:=List.length_filter_le (lh (xs.map cF) k) (List.range (xs.map cF).length)
 simpa using this
theorem oA {xs:List QC} (h:bF xs=0):fI (xs.map cF)=0/\xs.length<=4096:=by
 unfold bF at h
 split at h
 ·refine ⟨h,?_⟩
  unfold fI at h
  split at h
  ·simp at h
  ·rename_i h2;simpa using h2
 ·simp at h
theorem uR {xs:List QC} {l:List Nat} {j i:Nat} {y:QC} (h:l[j]? = some i) (hy:xs[i]? = some y):(l.take (j+1)).filterMap (fun i=>xs[i]?)=(l.take j).filterMap (fun i=>xs[i]?)++[y]:=by
 rw [List.take_add_one,h,List.filterMap_append]
 simp [hy]
theorem pB {xs:List QC}:∀ {l:List Nat},(∀ i∈l,i < xs.length)->(l.filterMap (fun i=>xs[i]?)).length=l.length
 | [],_=>rfl
 | i :: r,h=>by
  rw [List.filterMap_cons,List.getElem?_eq_getElem (h i (by simp))]
  simp [pB (l:=r) fun j hj=>h j (by simp [hj])]
theorem kK (a   : QC):Instr.fill (fun k=>some (k*gg.size,gg.size)) (madeCells gg.zero (1*gg.size)) [(0,.agg a.A)]=some a.A:=by kernel_rfl
theorem QC.ext72 (a   : QC):a.A.extract 0 (0+1*72)=a.A:=by
 have:a.A.size=72:=a.size
 simp [this]
theorem Ab {l:List Nat} {j i:Nat} (h:l[j]? = some i):(gJ (l.map fun i:Nat=>(i:Int)))[j]? = some (.int .i64 ((i:Nat):Int)):=by
 simp [gJ,h]
theorem Mi (j:Nat):aL 0 ((j:Nat):Int) ti3.size=j:=by
 show aL 0 ((j:Nat):Int) 1=j
 simp [aL]
theorem KV {E:Env} (hE:E.P=Tryz.prog) {v:Value} {k:Int} {xs:List QC} (hv:Lst E v 72 xs.length (cat QC.A xs)) (hn:xs.length<=1000000000000) (hin:∀ y∈xs,y.In):OwnC E 150 [SV.c v,SV.c (.int .i64 k)] [] (Jg xs k):=by
 refine aA [] ai ak Pn E hE [SV.c v,SV.c (.int .i64 k)] [] _ rfl rfl fun w X β hT=>?_
 have hv':=hv.of_old hT
 have C1:=ux rfl hv' hn hin
 have M1:=fun hok=>zU rfl hv' hn hok
 refine .inr (.inr (.inl ⟨[],[_],[],_,[],C1,rfl,trivial,rfl,rfl,fun h=>?_,fun h=>?_⟩))
 ·have h:(bF xs != 0)=true:=h
  have h:bF xs≠0:=by simpa using h
  have e1:d9 xs k=[]:=by rw [d9,if_neg h]
  exact ⟨[(3000,Blk.own (.slice none 0 0) 63 72 0 #[])],[],⟨_,0,by rw [e1];rfl,rfl,.nil,by rw [e1];rfl⟩,⟨.inr ⟨rfl,rfl,rfl⟩,trivial⟩,rfl⟩
 have h:(bF xs != 0)=false:=h
 have h0:bF xs=0:=by simpa using h
 obtain ⟨h1,h4k⟩:=oA h0
 have e1:mh (xs.map cF) k=(iK xs k).map (fun i:Nat=>(i:Int)):=by rw [mh,if_pos h1];rfl
 have e2:d9 xs k=(iK xs k).filterMap (fun i=>xs[i]?):=by rw [d9,if_pos h0]
 have hmem:∀ i∈iK xs k,i < xs.length:=fun i h=>nG h
 have hlen:=nH xs k
 generalize iK xs k=l at e1 e2 hmem hlen
 refine .inr (.inr (.inr ⟨[],[2000],[_],[],_,M1 (q8 h0),rfl,trivial,rfl,trivial,?_⟩))
 rintro x U ⟨hx,rfl⟩
 refine ⟨rfl,?_⟩
 have C2:=GH (E:=(aT Tryz.prog tt Tryz.f150.ntmps w X (aF [] β)).toEnv) rfl (x:=x) (xs:=xs.map cF) (n:=xs.length) (k:=k) (by simp) hn
 refine .inr (.inr (.inr ⟨[],[1000],[_,_],[_],_,C2,rfl,⟨.inl rfl,trivial⟩,rfl,trivial,?_⟩))
 rintro r U ⟨U0,⟨s,n,hsn,rfl,hs,rfl⟩,rfl⟩
 rw [e1] at hsn ⊢
 rw [h1]
 refine ⟨rfl,?_⟩
 obtain ⟨sa,sc,rfl⟩:=hs.len
 refine ⟨_,fun w' _=>al Tryz.underlying50 w',?_⟩
 have hnl:n=l.length:=by rw [hsn,List.length_map]
 obtain ⟨a,cap,rfl,hc,h4⟩:=hv'.shape
 refine ⟨fun q f m=>∃ (j:Nat) (y:Value) (N:Nat),q=l.length - j/\j<=l.length/\N=j/\IsL y N/\f=[(0,SV.c (.slice a xs.length cap)),(8,SV.c (.int .i64 0)),(9,SV.c y),(24,SV.c (.slice sa n sc)),(25,SV.c (.int .i64 (n:Nat))),(26,SV.c (.int .i64 (j:Nat)))]/\m=[(3000,Blk.own y 63 72 N (cat QC.A ((l.take j).filterMap (fun i=>xs[i]?)))),(1000,Blk.own (.slice sa n sc) 3 1 n (gJ (l.map fun i:Nat=>(i:Int))))],l.length,⟨_,_,⟨0,.slice none 0 0,0,by omega,by omega,rfl,.nil,rfl,rfl⟩,⟨rfl,rfl,rfl,rfl,rfl,rfl,trivial⟩,⟨.inr ⟨rfl,rfl,rfl⟩,.inl rfl,trivial⟩,rfl⟩,?_⟩
 rintro q f m ⟨j,y,N,rfl,hj,hN,hy,rfl,rfl⟩
 refine ⟨fun h=>?_,fun h=>?_⟩
 ·have h:j < n:=by have:=af h;omega
  obtain ⟨i,hi⟩:∃ i,l[j]? = some i:=⟨_,List.getElem?_eq_getElem (show j < l.length by omega)⟩
  have hil:=hmem i (List.mem_of_getElem? hi)
  obtain ⟨z,hz⟩:∃ z,xs[i]? = some z:=⟨_,List.getElem?_eq_getElem hil⟩
  obtain ⟨b,o,rfl,h5⟩:=h4 (by omega)
  have hE':VOk (aT Tryz.prog tt Tryz.f150.ntmps w X (aF [] β)):=ai
  have L1:=bd hE' h5 QC.size hz (ty:=63) (ti:=gg) rfl rfl rfl (p:=o+((i:Nat):Int).toNat*72) rfl
  rcases hs with ⟨hs1,hs2⟩ | ⟨g0,c0,hs1⟩
  ·omega
  cases hs1
  refine ⟨by omega,by omega,.inr ⟨1000,g0,_,n,_,_,_,_,rfl,rfl,_,(by rw [Mi];exact Ab hi),?_⟩⟩
  have F1:=kK z
  have F2:=z.fits.one
  have F3:=z.ext72
  have F4:z.A.size=1*72:=z.size
  have F5:cat QC.A ((l.take j).filterMap (fun i=>xs[i]?))++z.A=cat QC.A ((l.take (j+1)).filterMap (fun i=>xs[i]?)):=by rw [uR hi hz,cat_append,fB]
  generalize hY:z.A=ZA at L1 F1 F2 F3 F4 F5
  refine ⟨by omega,by omega,.inl ⟨_,L1,.inl ⟨by decide,by decide,_,F1,F4,by decide,3000,N,_,.inl rfl,by decide,F2,F4,_,F3,?_⟩⟩⟩
  obtain ⟨q,hq,hb⟩:=kh
  refine ⟨by omega,by unfold maxLen;omega,⟨q,hq,by rw [hb];omega⟩,trivial,fun g2 cap2=>?_⟩
  exact ⟨l.length - (j+1),_,_,by omega,⟨j+1,_,N+1,rfl,by omega,by omega,.some,rfl,rfl⟩,⟨rfl,rfl,rfl,rfl,rfl,am (ar (by omega)),trivial⟩,⟨.inl (bw F5),.inl rfl,trivial⟩,rfl⟩
 ·have h:j=l.length:=by have:=ag h;omega
  subst h
  rw [List.take_length]
  have e3:=pB hmem
  exact ⟨[(3000,Blk.own y 63 72 N (cat QC.A (l.filterMap (fun i=>xs[i]?))))],[],⟨y,N,by rw [e2,e3];exact hN,by rw [h0];rfl,hy,by rw [e2]⟩,⟨.inl rfl,trivial⟩,rfl⟩



theorem Ju {E:Env} (hE:E.P=Tryz.prog) {v:Value} {k:Int} {xs:List QC} (hv:Lst E v 72 xs.length (cat QC.A xs)) (hn:xs.length<=1000000000000) (hin:∀ y∈xs,y.In):OwnC E 270 [SV.c v,SV.c (.int .i64 k)] [] (Jg xs k):=by
 refine aA [] ai ak Nm E hE [SV.c v,SV.c (.int .i64 k)] [] _ rfl rfl fun w X β hT=>?_
 have hv':=hv.of_old hT
 have C1:=q9 rfl hv' hn hin
 have M1:=fun hok=>vS rfl hv' hn hok
 refine .inr (.inr (.inl ⟨[],[_],[],_,[],C1,rfl,trivial,rfl,rfl,fun h=>?_,fun h=>?_⟩))
 ·have h:(bF xs != 0)=true:=h
  have h:bF xs≠0:=by simpa using h
  have e1:d9 xs k=[]:=by rw [d9,if_neg h]
  exact ⟨[(3000,Blk.own (.slice none 0 0) 63 72 0 #[])],[],⟨_,0,by rw [e1];rfl,rfl,.nil,by rw [e1];rfl⟩,⟨.inr ⟨rfl,rfl,rfl⟩,trivial⟩,rfl⟩
 have h:(bF xs != 0)=false:=h
 have h0:bF xs=0:=by simpa using h
 obtain ⟨h1,h4k⟩:=oA h0
 have e1:mh (xs.map cF) k=(iK xs k).map (fun i:Nat=>(i:Int)):=by rw [mh,if_pos h1];rfl
 have e2:d9 xs k=(iK xs k).filterMap (fun i=>xs[i]?):=by rw [d9,if_pos h0]
 have hmem:∀ i∈iK xs k,i < xs.length:=fun i h=>nG h
 have hlen:=nH xs k
 generalize iK xs k=l at e1 e2 hmem hlen
 refine .inr (.inr (.inr ⟨[],[2000],[_],[],_,M1 (q8 h0),rfl,trivial,rfl,trivial,?_⟩))
 rintro x U ⟨hx,rfl⟩
 refine ⟨rfl,?_⟩
 have C2:=CU (E:=(aT Tryz.prog tt Tryz.f270.ntmps w X (aF [] β)).toEnv) rfl (x:=x) (xs:=xs.map cF) (n:=xs.length) (k:=k) (by simp) hn
 refine .inr (.inr (.inr ⟨[],[1000],[_,_],[_],_,C2,rfl,⟨.inl rfl,trivial⟩,rfl,trivial,?_⟩))
 rintro r U ⟨U0,⟨s,n,hsn,rfl,hs,rfl⟩,rfl⟩
 rw [e1] at hsn ⊢
 rw [h1]
 refine ⟨rfl,?_⟩
 obtain ⟨sa,sc,rfl⟩:=hs.len
 have hnl:n=l.length:=by rw [hsn,List.length_map]
 obtain ⟨a,cap,rfl,hc,h4⟩:=hv'.shape
 refine ⟨fun q f m=>∃ (j:Nat) (y:Value) (N:Nat),q=l.length - j/\j<=l.length/\N=j/\IsL y N/\f=[(0,SV.c (.slice a xs.length cap)),(7,SV.c (.slice sa n sc)),(9,SV.c y),(10,SV.c (.int .i64 (j:Nat)))]/\m=[(3000,Blk.own y 63 72 N (cat QC.A ((l.take j).filterMap (fun i=>xs[i]?)))),(1000,Blk.own (.slice sa n sc) 3 1 n (gJ (l.map fun i:Nat=>(i:Int))))],l.length,⟨_,_,⟨0,.slice none 0 0,0,by omega,by omega,rfl,.nil,rfl,rfl⟩,⟨rfl,rfl,rfl,rfl,trivial⟩,⟨.inr ⟨rfl,rfl,rfl⟩,.inl rfl,trivial⟩,rfl⟩,?_⟩
 rintro q f m ⟨j,y,N,rfl,hj,hN,hy,rfl,rfl⟩
 refine ⟨_,fun w' _=>al Tryz.underlying50 w',fun h=>?_,fun h=>?_⟩
 ·have h:j < n:=by have:=af h;omega
  obtain ⟨i,hi⟩:∃ i,l[j]? = some i:=⟨_,List.getElem?_eq_getElem (show j < l.length by omega)⟩
  have hil:=hmem i (List.mem_of_getElem? hi)
  obtain ⟨z,hz⟩:∃ z,xs[i]? = some z:=⟨_,List.getElem?_eq_getElem hil⟩
  obtain ⟨b,o,rfl,h5⟩:=h4 (by omega)
  have hE':VOk (aT Tryz.prog tt Tryz.f270.ntmps w X (aF [] β)):=ai
  have L1:=bd hE' h5 QC.size hz (ty:=63) (ti:=gg) rfl rfl rfl (p:=o+((i:Nat):Int).toNat*72) rfl
  rcases hs with ⟨hs1,hs2⟩ | ⟨g0,c0,hs1⟩
  ·omega
  cases hs1
  refine ⟨by omega,by omega,.inr ⟨1000,g0,_,n,_,_,_,_,rfl,rfl,_,(by rw [Mi];exact Ab hi),?_⟩⟩
  have F1:=kK z
  have F2:=z.fits.one
  have F3:=z.ext72
  have F4:z.A.size=1*72:=z.size
  have F5:cat QC.A ((l.take j).filterMap (fun i=>xs[i]?))++z.A=cat QC.A ((l.take (j+1)).filterMap (fun i=>xs[i]?)):=by rw [uR hi hz,cat_append,fB]
  generalize hY:z.A=ZA at L1 F1 F2 F3 F4 F5
  refine ⟨by omega,by omega,.inl ⟨_,L1,.inl ⟨by decide,by decide,_,F1,F4,by decide,3000,N,_,.inl rfl,by decide,F2,F4,_,F3,?_⟩⟩⟩
  obtain ⟨q,hq,hb⟩:=kh
  refine ⟨by omega,by unfold maxLen;omega,⟨q,hq,by rw [hb];omega⟩,trivial,fun g2 cap2=>?_⟩
  exact ⟨l.length - (j+1),_,_,by omega,⟨j+1,_,N+1,rfl,by omega,by omega,.some,rfl,rfl⟩,⟨rfl,rfl,rfl,am (ar (by omega)),trivial⟩,⟨.inl (bw F5),.inl rfl,trivial⟩,rfl⟩
 ·have h:j=l.length:=by have:=ag h;omega
  subst h
  rw [List.take_length]
  have e3:=pB hmem
  exact ⟨[(3000,Blk.own y 63 72 N (cat QC.A (l.filterMap (fun i=>xs[i]?))))],[],⟨y,N,by rw [e2,e3];exact hN,by rw [h0];rfl,hy,by rw [e2]⟩,⟨.inl rfl,trivial⟩,rfl⟩
end Go.Proofs.YtklehfchdoikeaaGreatDoor
