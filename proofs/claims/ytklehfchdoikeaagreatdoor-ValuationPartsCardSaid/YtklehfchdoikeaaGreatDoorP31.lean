/- lists of the call that grow in their midst. slices.Insert an; no condition. -/
import Derived.Lib.AppendZerosOnto
import Derived.Lib.JoinLaws
import Derived.Lib.Overlaps
import Derived.Lib.SliceRun
import Derived.Shelf.RegionOpenPlain
import Derived.Test.YtklehfchdoikeaaGreatDoorP25
set_option maxRecDepth 100000
set_option maxHeartbeats 4000000
namespace Go.Proofs.YtklehfchdoikeaaGreatDoor
open Go Go.RowKit Go.SX
open Go.Proofs Go.Shelf Go.Lib
end Go.Proofs.YtklehfchdoikeaaGreatDoor
namespace Go.Proofs.YtklehfchdoikeaaGreatDoor
open Go Go.RowKit Go.SX
open Go.Proofs Go.Shelf Go.Lib
end Go.Proofs.YtklehfchdoikeaaGreatDoor
namespace Go.Proofs.YtklehfchdoikeaaGreatDoor
open Go Go.RowKit Go.SX
open Go.Proofs Go.Shelf Go.Lib
end Go.Proofs.YtklehfchdoikeaaGreatDoor
namespace Go.Proofs.YtklehfchdoikeaaGreatDoor
open Go Go.RowKit Go.SX
section
variable {κ:Type} [DecidableEq κ] {lt:κ->κ->Bool}
end
theorem fD {v:Value} {n:Nat} (h:IsL v n):v.oneCell'=true:=by
 rcases h with ⟨rfl,-⟩ | ⟨g,c,rfl⟩<;>rfl
end Go.Proofs.YtklehfchdoikeaaGreatDoor
namespace Go.Proofs.YtklehfchdoikeaaGreatDoor
open Go Go.RowKit Go.SX
theorem Mr {n:Int} (h : -9223372036854775808<=n/\n<=9223372036854775807):w64 n=n:=i64_in h
def HB (H:List (Bs×Int)):Prop:=∀ x∈H,0<=x.2/\x.2<=1000000000000000
theorem HB.get {H:List (Bs×Int)} (h:HB H) (k:Bs):0<=fj H k/\fj H k<=1000000000000000:=by
 by_cases e:fj H k=0
 ·rw [e];decide
 ·exact h _ (yA e)
theorem HB.set {H:List (Bs×Int)} (h:HB H) (hs:SrtA ltB H) {k:Bs} {v:Int} (hv:0<=v/\v<=1000000000000000):HB (vS ltB H k v):=by
 obtain ⟨p,s,e,h1,h2,h3,h4⟩:=jv wj k v hs
 have hm:∀ x∈p++s,x∈H:=fun x hx=>by
  rcases h4 with e | ⟨n,e⟩<;>rw [e]
  ·exact hx
  ·rcases List.mem_append.1 hx with hx | hx<;>simp [hx]
 intro x hx
 rw [e] at hx
 split at hx
 ·exact h x (hm x hx)
 ·rcases List.mem_append.1 hx with hx | hx
  ·exact h x (hm x (by simp [hx]))
  ·rcases List.mem_cons.1 hx with rfl | hx
   ·exact hv
   ·exact h x (hm x (by simp [hx]))
theorem uU (c:Bs) (d:Int) {pl:List (Nat×Nat)} (hpl:pl=[(0,1),(1,1)]):Instr.fill (fun k=>pl[k]?) Lu.zero [(0,.string (S c)),(1,.int .i64 d)]=some (KyA (c,d)):=by
 subst hpl;rfl
theorem rV (n lo hi:Int):ay Tryz.prog 110 [SV.c (.int .i64 n),SV.c (.int .i64 lo),SV.c (.int .i64 hi)] (.bool (inB n lo hi)):=by
 refine al ai ak SK _ _ rfl rfl fun w=>?_
 refine ⟨fun c=>⟨bv ?_,trivial⟩,fun c=>⟨bv ?_,trivial⟩⟩
 ·have c:=af (show decide (n >= lo)=true from c)
  unfold inB
  rw [decide_eq_true (show lo<=n by omega),Bool.true_and]
 ·have c:=ag (show decide (n >= lo)=false from c)
  unfold inB
  rw [decide_eq_false (show ¬ lo<=n by omega),Bool.false_and]
def U4 (C:List (Ky×Int)):Bool:=C.all fun x=>inB x.2 (-1000000000000000) 1000000000000000
theorem HZ (x:Ky×Int) {pl:List (Nat×Nat)} (hpl:pl=[(0,1),(1,1),(2,1)]):Instr.fill (fun k=>pl[k]?) dw.zero [(0,.string (S x.1.1)),(1,.int .i64 x.1.2),(2,.int .i64 x.2)]=some (cj x):=by
 subst hpl;rfl
theorem uW (x:Ky×Int):Instr.fill (fun k=>some (k*dw.size,dw.size)) (madeCells dw.zero (1*dw.size)) [(0,.agg (cj x))]=some (cj x):=by kernel_rfl
theorem yj:∃ q,Tryz.prog.info? 88=some q/\q.bytes=32:=fE (by kernel_rfl)
theorem tG (l:List UInt8) (lo hi:Int) (dg:Bool) (hl:l.length<=9223372036854775807):ay Tryz.prog 172 [SV.c (.string (S l)),SV.c (.int .i64 lo),SV.c (.int .i64 hi),SV.c (.bool dg)] (.bool (cz dg l && (decide (lo<=l.length) && decide ((l.length:Int)<=hi)))):=by
 refine al ai ak RJ _ _ rfl rfl fun w=>?_
 refine ⟨_,fun w _=>aH Tryz.underlying9 w,?_⟩
 refine ⟨fun q f m=>∃ i:Nat,q=l.length - i/\i<=l.length/\(∀ j,j < i->cX dg l j=true)/\f=[(0,SV.c (.string (S l))),(1,SV.c (.int .i64 lo)),(2,SV.c (.int .i64 hi)),(3,SV.c (.bool dg)),(11,SV.c (.int .i64 (l.length:Nat))),(12,SV.c (.int .i64 i))]/\m=[],l.length,⟨_,_,⟨0,rfl,Nat.zero_le _,fun j hj=>absurd hj (by omega),rfl,rfl⟩,⟨rfl,rfl,rfl,rfl,rfl,rfl,trivial⟩,trivial,rfl⟩,?_⟩
 rintro q f m ⟨i,rfl,hi1,hall,rfl,rfl⟩
 refine ⟨fun h=>?_,fun h=>?_⟩
 ·have h:i < l.length:=by have:=af h;omega
  have hx:=dO (E:=(iP Tryz.prog tt Tryz.f172.ntmps w).toEnv) Tryz.underlying9 (k:=.i64) i rfl h
  have hc:cX dg l i=((decide (65<=(l.getD i 0).toNat) && decide ((l.getD i 0).toNat<=90)) || (dg && !decide (i=0) && decide (48<=(l.getD i 0).toNat) && decide ((l.getD i 0).toNat<=57))):=rfl
  generalize (l.getD i 0).toNat=x at *
  have stop:cX dg l i=false->cW [.bool false]=.bool (cz dg l && (decide (lo<=l.length) && decide ((l.length:Int)<=hi))):=fun e=>by rw [de h e];rfl
  have hnext:cX dg l i=true->∀ j,j < i+1->cX dg l j=true:=fun e j hj=>by
   by_cases e2:j=i
   ·rw [e2];exact e
   ·exact hall j (by omega)
  refine ⟨_,hx,fun h1=>⟨_,hx,fun h2=>?_,fun h2=>?_⟩,fun h1=>⟨fun h2=>?_,nofun⟩⟩
  ·have h1:=ag h1
   have h2:=af h2
   have hlow:(decide (65<=x) && decide (x<=90))=false:=by rw [decide_eq_false (by omega:¬ x<=90),Bool.and_false]
   rw [hlow,Bool.false_or] at hc
   refine ⟨fun h3=>⟨fun h4=>⟨_,hx,fun h5=>⟨_,hx,fun h6=>⟨stop ?_,trivial⟩,fun h6=>?_⟩,fun h5=>⟨fun _=>⟨stop ?_,trivial⟩,nofun⟩⟩,fun h4=>⟨nofun,fun _=>⟨fun _=>⟨stop ?_,trivial⟩,nofun⟩⟩⟩,fun h3=>⟨nofun,fun _=>⟨nofun,fun _=>⟨fun _=>⟨stop ?_,trivial⟩,nofun⟩⟩⟩⟩
   ·have h6:=af h6
    rw [hc,decide_eq_false (by omega:¬ x<=57),Bool.and_false]
   ·have h3:dg=true:=bX h3
    have h4:¬ i=0:=by intro e;subst e;simp at h4
    have h5:=ag h5
    have h6:=ag h6
    exact ⟨l.length - (i+1),_,_,by omega,⟨i+1,rfl,by omega,hnext (by rw [hc,h3,decide_eq_false h4,decide_eq_true (by omega:48<=x),decide_eq_true (by omega:x<=57)];rfl),rfl,rfl⟩,⟨rfl,rfl,rfl,rfl,rfl,ar (by rw [i64_in (by omega)];rfl),trivial⟩,trivial,rfl⟩
   ·have h5:=af h5
    rw [hc,decide_eq_false (by omega:¬ 48<=x),Bool.and_false,Bool.false_and]
   ·have h4:i=0:=by have:(i:Int)=0:=by simpa using h4
                    omega
    rw [hc,decide_eq_true h4,Bool.not_true,Bool.and_false,Bool.false_and,Bool.false_and]
   ·have h3:dg=false:=bnt h3
    rw [hc,h3];rfl
  ·have h1:=ag h1
   have h2:=ag h2
   refine ⟨nofun,fun _=>?_⟩
   exact ⟨l.length - (i+1),_,_,by omega,⟨i+1,rfl,by omega,hnext (by rw [hc,decide_eq_true (by omega:65<=x),decide_eq_true (by omega:x<=90)];rfl),rfl,rfl⟩,⟨rfl,rfl,rfl,rfl,rfl,ar (by rw [i64_in (by omega)];rfl),trivial⟩,trivial,rfl⟩
  ·have h1:=af h1
   have hlow:(decide (65<=x) && decide (x<=90))=false:=by rw [decide_eq_false (by omega:¬ 65<=x),Bool.false_and]
   rw [hlow,Bool.false_or] at hc
   refine ⟨fun h3=>⟨fun h4=>⟨_,hx,fun h5=>⟨_,hx,fun h6=>⟨stop ?_,trivial⟩,fun h6=>?_⟩,fun h5=>⟨fun _=>⟨stop ?_,trivial⟩,nofun⟩⟩,fun h4=>⟨nofun,fun _=>⟨fun _=>⟨stop ?_,trivial⟩,nofun⟩⟩⟩,fun h3=>⟨nofun,fun _=>⟨nofun,fun _=>⟨fun _=>⟨stop ?_,trivial⟩,nofun⟩⟩⟩⟩
   ·have h6:=af h6
    rw [hc,decide_eq_false (by omega:¬ x<=57),Bool.and_false]
   ·have h3:dg=true:=bX h3
    have h4:¬ i=0:=by intro e;subst e;simp at h4
    have h5:=ag h5
    have h6:=ag h6
    exact ⟨l.length - (i+1),_,_,by omega,⟨i+1,rfl,by omega,hnext (by rw [hc,h3,decide_eq_false h4,decide_eq_true (by omega:48<=x),decide_eq_true (by omega:x<=57)];rfl),rfl,rfl⟩,⟨rfl,rfl,rfl,rfl,rfl,ar (by rw [i64_in (by omega)];rfl),trivial⟩,trivial,rfl⟩
   ·have h5:=af h5
    rw [hc,decide_eq_false (by omega:¬ 48<=x),Bool.and_false,Bool.false_and]
   ·have h4:i=0:=by have:(i:Int)=0:=by simpa using h4
                    omega
    rw [hc,decide_eq_true h4,Bool.not_true,Bool.and_false,Bool.false_and,Bool.false_and]
   ·have h3:dg=false:=bnt h3
    rw [hc,h3];rfl
 ·have h:i=l.length:=by have:=ag h;omega
  subst h
  rw [fO hall,Bool.true_and]
  refine ⟨_,fun w _=>aH Tryz.underlying9 w,fun h2=>⟨_,fun w _=>aH Tryz.underlying9 w,bv ?_,trivial⟩,fun h2=>⟨bv ?_,trivial⟩⟩
  ·rw [decide_eq_true (af h2:lo<=(l.length:Int)),Bool.true_and]
  ·rw [decide_eq_false (ag h2:¬ lo<=(l.length:Int)),Bool.false_and]
theorem wo (l:List UInt8) (hl:l.length<=9223372036854775807):ay Tryz.prog 109 [SV.c (.string (S l))] (.bool (cz true l && (decide (1<=l.length) && decide (l.length<=12)))):=by
 refine al ai ak SO _ _ rfl rfl fun w=>?_
 refine .inl ⟨_,tG l 1 12 true hl,bv ?_,trivial⟩
 congr 2
 ·rw [Bool.eq_iff_iff];simp only [decide_eq_true_eq];omega
 ·rw [Bool.eq_iff_iff];simp only [decide_eq_true_eq];omega
theorem Kl (l:List UInt8) (hl:l.length<=9223372036854775807):ay Tryz.prog 109 [SV.c (.string (S l))] (.bool (cB l)):=wo l hl
theorem KS (l:List UInt8) (hl:l.length<=9223372036854775807):ay Tryz.prog 111 [SV.c (.string (S l))] (.bool (aF l)):=by
 refine al ai ak SJ _ _ rfl rfl fun w=>?_
 exact .inl ⟨_,tG l 3 3 false hl,rfl,trivial⟩
theorem Cs {a b c:Value} (h1:a.oneCell'=true) (h2:b.oneCell'=true) (h3:c.oneCell'=true):Fits #[a,b,c] 3:=⟨rfl,by simp [h1,h2,h3]⟩
theorem HX (x:Bs×Int) {pl:List (Nat×Nat)} (hpl:pl=[(0,1),(1,1)]):Instr.fill (fun k=>pl[k]?) gK.zero [(0,.string (S x.1)),(1,.int .i64 x.2)]=some (dI x):=by
 subst hpl;rfl
theorem Eh (x:Bs×Int):Instr.fill (fun k=>some (k*gK.size,gK.size)) (madeCells gK.zero (1*gK.size)) [(0,.agg (dI x))]=some (dI x):=by kernel_rfl
theorem Ho:∃ q,Tryz.prog.info? 59=some q/\q.bytes=24:=fE (by kernel_rfl)
theorem I0 (l:List UInt8):(S l).toList=l:=by simp [S]
theorem sm (x:Bs×Int):(dI x).all (·.oneCell')=true:=(qt x).one
theorem gO (x:Ky×Int):(cj x).all (·.oneCell')=true:=(um x).one
structure SimG (r g:Led):Prop where
 h:Sim ltB r.h g.h
 c:Sim kU r.c g.c
 p:Sim kU r.p g.p
theorem SimG.zero:SimG .zero .zero:=⟨Sim.nil _,Sim.nil _,Sim.nil _⟩
def HOk (H:List (Bs×Int)):Prop:=(SrtA ltB H/\NzA H)/\HB H
theorem HOk.set {H:List (Bs×Int)} (h:HOk H) (k:Bs) {v:Int} (hv:0<=v/\v<=1000000000000000):HOk (vS ltB H k v) :=
 ⟨⟨(xo wj h.1.1 k v).srt,Jy wj h.1.1 h.1.2 k v⟩,HB.set h.2 h.1.1 hv⟩
structure EOk (x:EC):Prop where
 q : -1000000000000000<=x.qty/\x.qty<=1000000000000000
 m:w64 x.amt=x.amt
 d:0<=x.day/\x.day<=73048
 k:x.kind=1\/x.kind=2\/(x.kind=0/\x.qty=0)
theorem Co {n lo hi:Int}:inB n lo hi=true↔lo<=n/\n<=hi:=by
 unfold inB
 rw [Bool.and_eq_true,decide_eq_true_eq,decide_eq_true_eq]
theorem EC.beq_nil {x:EC} {key:List UInt8} {known:Int} (h:x.beq (.nil key known)=true):x.kind=0/\x.day=0/\x.qty=0/\x.amt=0:=by
 unfold EC.beq EC.nil at h
 simp only [Bool.and_eq_true,beq_iff_eq] at h
 exact ⟨h.1,h.2.2.1,h.2.2.2.2.2.1,h.2.2.2.2.2.2.1⟩
theorem EOk.of {x:EC} (h:Fm x=true):EOk x:=by
 unfold Fm at h
 simp only [Bool.and_eq_true] at h
 obtain ⟨-,h⟩:=h
 split at h
 ·obtain ⟨h1,h2,h3,h4⟩:=EC.beq_nil h
  exact ⟨by omega,by rw [h4];rfl,by omega,.inr (.inr ⟨h1,h3⟩)⟩
 ·simp only [Bool.and_eq_true,L9,Co,decide_eq_true_eq] at h
  obtain ⟨⟨h1,h2,h3,-⟩,h4⟩:=h
  have hm:w64 x.amt=x.amt:=Mr (by omega)
  unfold LU at h4
  split at h4
  ·rename_i hk
   simp only [Bool.and_eq_true,Co] at h4
   exact ⟨h4.2.2,hm,by omega,.inl hk⟩
  ·split at h4
   ·rename_i hk
    simp only [Bool.and_eq_true,beq_iff_eq] at h4
    exact ⟨by omega,hm,by omega,.inr (.inl hk)⟩
   ·cases h4
theorem EC.beq_self (x:EC):x.beq x=true:=by simp [EC.beq]
/-! ### what is left of the two lists of the program -/
def TailS (x:Value) (sz n i:Nat) (v:Value):Prop:=i<=n/\∃ a c,v=.slice a (n - i) c/\n - i<=c/\(i < n->∃ g c0,x=.slice (some ⟨g,0,none⟩) n c0/\a=some ⟨g,i*sz,none⟩)
theorem TailS.start {x:Value} {sz n:Nat} (h:IsL x n) (hc:∃ a c,x=.slice a n c/\n<=c):TailS x sz n 0 x:=by
 obtain ⟨a,c,rfl,hn⟩:=hc
 refine ⟨by omega,a,c,rfl,by omega,fun h0=>?_⟩
 rcases h with ⟨h1,h2⟩ | ⟨g,c0,h1⟩
 ·omega
 ·cases h1
  exact ⟨g,c,rfl,by rw [Nat.zero_mul]⟩
theorem TailS.next {x:Value} {sz n i c m:Nat} {a:Option Addr} (hz:sz≠0) (h:TailS x sz n i (.slice a m c)) (hi:i < n):TailS x sz n (i+1) (.slice (if c=1 then a else a.map (·.add (1*sz))) (m - 1) (c - 1)):=by
 obtain ⟨h1,a',c',h2,h3,h4⟩:=h
 cases h2
 refine ⟨by omega,_,_,rfl,by omega,fun h5=>?_⟩
 obtain ⟨g,c0,h6,rfl⟩:=h4 hi
 refine ⟨g,c0,h6,?_⟩
 rw [if_neg (by omega)]
 show some (Addr.add ⟨g,i*sz,none⟩ (1*sz))=_
 simp only [Addr.add,Nat.succ_mul,Nat.zero_mul,Nat.zero_add,if_neg hz]
theorem TailS.len {x v:Value} {sz n i:Nat} (h:TailS x sz n i v):∃ a c,v=.slice a (n - i) c:=by
 obtain ⟨-,a,c,h,-⟩:=h
 exact ⟨a,c,h⟩
theorem TailS.at {x v:Value} {sz n i:Nat} (h:TailS x sz n i v) (hi:i < n):∃ g c0 c,x=.slice (some ⟨g,0,none⟩) n c0/\v=.slice (some ⟨g,i*sz,none⟩) (n - i) c:=by
 obtain ⟨-,a,c,rfl,-,h4⟩:=h
 obtain ⟨g,c0,h5,rfl⟩:=h4 hi
 exact ⟨g,c0,c,h5,rfl⟩
def AtQ (R:Led×Int) (r:Value) (U:aA):Prop:=∃ xh xc xp,IsL xh R.1.h.length/\IsL xc R.1.c.length/\IsL xp R.1.p.length/\r=.tuple #[.agg #[xh,xc,xp],.int .i64 R.2]/\U=[(9506,Blk.own xh 59 2 R.1.h.length (cat dI R.1.h)),(9507,Blk.own xc 88 3 R.1.c.length (cat cj R.1.c)),(9508,Blk.own xp 88 3 R.1.p.length (cat cj R.1.p))]
theorem AtQ.bad (e:Int):AtQ (.zero,e) (.tuple #[.agg #[.slice none 0 0,.slice none 0 0,.slice none 0 0],.int .i64 e]) [(9506,Blk.own (.slice none 0 0) 59 2 0 #[]),(9507,Blk.own (.slice none 0 0) 88 3 0 #[]),(9508,Blk.own (.slice none 0 0) 88 3 0 #[])] :=
 ⟨.slice none 0 0,.slice none 0 0,.slice none 0 0,.nil,.nil,.nil,rfl,rfl⟩
end Go.Proofs.YtklehfchdoikeaaGreatDoor
namespace Go.Proofs.YtklehfchdoikeaaGreatDoor
open Go Go.RowKit Go.SX
section
variable {H:Type} {enc:TypeId×Value->H} {w:World} {base:Nat} {sp:Nat->Bool} {held:Bool}
end
end Go.Proofs.YtklehfchdoikeaaGreatDoor
namespace Go.Proofs.YtklehfchdoikeaaGreatDoor
open Go Go.RowKit Go.SX
theorem Nh {E:Env} (a b:List UInt8):bH E (Op.stringOp .leq (S a) (S b)) (.bool (ltB a b || decide (a=b))):=fun w _=>by
 have e:Op.bytesLess (S a).toList (S b).toList=ltB a b:=by rw [qf,I0,I0]
 have e2:((S a).toList == (S b).toList)=decide (a=b):=(eG a b).symm ▸ rfl
 rw [<- e,<- e2];rfl
def cY (p:Nat->Bool) (n:Nat):Bool:=(List.range n).all p
theorem jm {p:Nat->Bool} {n i:Nat} (h:i < n) (hp:p i=false):cY p n=false:=by
 unfold cY
 rw [List.all_eq_false]
 exact ⟨i,List.mem_range.2 h,by rw [hp];decide⟩
theorem cN {p:Nat->Bool} {n:Nat} (h:∀ i,i < n->p i=true):cY p n=true:=by
 unfold cY
 rw [List.all_eq_true]
 exact fun i hi=>h i (List.mem_range.1 hi)
def okH (l:List (Bs×Int)) (i:Nat):Bool:=match l[i]? with
 | none=>true
 | some x=>cB x.1 && (inB x.2 1 1000000000000000 && (decide (i=0) || match l[i - 1]? with
  | none=>true
  | some y=>ltB y.1 x.1))
def okK (l:List (Ky×Int)) (i:Nat):Bool:=match l[i]? with
 | none=>true
 | some x=>aF x.1.1 && (inB x.1.2 0 73048 && (!(x.2 == 0) && (inB x.2 (-1000000000000000) 1000000000000000 && (decide (i=0) || match l[i - 1]? with
  | none=>true
  | some y=>kU y.1 x.1))))
def jT (l:List (Ky×Int)):Bool:=l.all fun x=>x.1.2 == 0
def bP (g:Led):Bool:=(!decide (g.h.length > 64) && !decide (g.c.length > 8)) && (cY (okH g.h) g.h.length && (cY (okK g.c) g.c.length && (cY (okK g.p) g.p.length && jT g.c)))
theorem KP {xs:List (Ky×Int)} {i:Nat} {y:Ky×Int} (hy:xs[i]? = some y) (h:(y.1.2 == 0)=false):jT xs=false:=by
 unfold jT
 rw [List.all_eq_false]
 exact ⟨y,List.mem_of_getElem? hy,by rw [h];simp⟩
theorem Ii {xs:List (Ky×Int)} (h:∀ (j:Nat) y,xs[j]? = some y->(y.1.2 == 0)=true):jT xs=true:=by
 unfold jT
 rw [List.all_eq_true]
 intro x hx
 obtain ⟨j,hj⟩:=List.getElem?_of_mem hx
 exact h j x hj
theorem Fo (x:Ky×Int):ay Tryz.prog 114 [SV.c (.agg (cj x))] (.bool (!(x.1.2 == 0))):=by
 refine al ai ak SG _ _ rfl rfl fun w=>?_
 exact ⟨rfl,_,rfl,rfl,trivial⟩
theorem KH (a b:Option Addr) (n c n2 c2:Nat):Instr.fill (fun k=>some (k*Df.size,Df.size)) (madeCells Df.zero (2*Df.size)) [(0,.slice a n c),(1,.slice b n2 c2)]=some #[.slice a n c,.slice b n2 c2]:=by kernel_rfl
theorem Pk (j:Nat):aO 0 ((j:Nat):Int) Df.size=j:=by
 show aO 0 ((j:Nat):Int) 1=j
 simp [aO]
theorem Ht {E:Env} (hE:E.P=Tryz.prog) {v:Value} {xs:List (Ky×Int)} (hv:Lst E v 3 xs.length (cat cj xs)) (hn:xs.length<=2000000000000):OwnC E 176 [SV.c v,SV.c (fnW 114)] [] (fun r U=>(∃ n:Int,r=.int .i64 n/\decide (n >= 0)=!(jT xs))/\U=[]):=by
 refine aD [] ai ak RC E hE [SV.c v,SV.c (fnW 114)] [] _ rfl rfl fun w X β hT=>?_
 obtain ⟨a,cap,rfl,hc,h4⟩:=(hv.of_old hT).shape
 refine ⟨_,fun w' _=>ao Tryz.underlying23 w',?_⟩
 refine ⟨fun q f m=>∃ (i:Nat),q=xs.length - i/\i<=xs.length/\(∀ (j:Nat) y,j < i->xs[j]? = some y->(y.1.2 == 0)=true)/\f=[(0,SV.c (.slice a xs.length cap)),(1,SV.c (fnW 114)),(6,SV.c (.slice a xs.length cap)),(7,SV.c (.int .i64 (xs.length:Nat))),(8,SV.c (.int .i64 (i:Nat)))]/\m=[],xs.length,⟨_,_,⟨0,rfl,by omega,fun j y h=>by omega,rfl,rfl⟩,⟨rfl,rfl,rfl,rfl,rfl,trivial⟩,trivial,rfl⟩,?_⟩
 rintro q f m ⟨i,rfl,hi,hok,rfl,rfl⟩
 refine ⟨fun h=>?_,fun h=>?_⟩
 ·have h:i < xs.length:=by have:=af h;omega
  obtain ⟨b,o,rfl,h5⟩:=h4 (by omega)
  obtain ⟨y,hy⟩:∃ y,xs[i]? = some y:=⟨_,List.getElem?_eq_getElem h⟩
  have hE':VOk (aY Tryz.prog tt Tryz.f176.ntmps w X (aJ [] β)):=ai
  have L1:=bN hE' h5 cH hy (ty:=88) (ti:=dw) rfl rfl rfl (p:=o+(i:Int).toNat*3) rfl
  have K1:=Fo y
  generalize hY:cj y=YA at L1 K1
  refine ⟨by omega,by omega,.inl ⟨_,L1,.inl ⟨_,K1,fun c=>?_,fun c=>?_⟩⟩⟩
  ·have c:(!(y.1.2 == 0))=true:=c
   have hb:=KP hy (by simpa using c)
   exact ⟨[],[],⟨⟨(i:Nat),rfl,by rw [hb];simp⟩,rfl⟩,trivial,rfl⟩
  ·have c:(!(y.1.2 == 0))=false:=c
   have c:(y.1.2 == 0)=true:=by simpa using c
   refine ⟨xs.length - (i+1),_,_,by omega,⟨i+1,rfl,by omega,fun j z hj hz=>?_,rfl,rfl⟩,⟨rfl,rfl,rfl,rfl,ar (ax (by omega)),trivial⟩,trivial,rfl⟩
   rcases Nat.lt_or_ge j i with h9 | h9
   ·exact hok j z h9 hz
   ·have:j=i:=by omega
    subst this
    rw [hy] at hz;cases hz
    exact c
 ·have h:i=xs.length:=by have:=ag h;omega
  subst h
  have hg:=Ii fun j y hy=>hok j y (List.getElem?_eq_some_iff.1 hy).1 hy
  exact ⟨[],[],⟨⟨-1,rfl,by rw [hg];rfl⟩,rfl⟩,trivial,rfl⟩
theorem yX {E:Env} (hE:E.P=Tryz.prog) {v:Value} {xs:List (Ky×Int)} (hv:Lst E v 3 xs.length (cat cj xs)) (hn:xs.length<=2000000000000):OwnC E 113 [SV.c v,SV.c (fnW 114)] [] (fun r U=>r=.bool (!(jT xs))/\U=[]):=by
 refine aD [] ai ak SH E hE [SV.c v,SV.c (fnW 114)] [] _ rfl rfl fun w X β hT=>?_
 have I1:=Ht rfl (hv.of_old hT) hn
 refine .inr (.inr (.inr ⟨[],[],[_,_],[],_,I1,rfl,trivial,rfl,trivial,?_⟩))
 rintro r U ⟨⟨n,rfl,h1⟩,rfl⟩
 exact ⟨rfl,[],[],⟨by rw [<- h1];rfl,rfl⟩,trivial,rfl⟩
structure PfIn (E:Env) (g:Led) (vh vc vp:Value):Prop where
 h:Lst E vh 2 g.h.length (cat dI g.h)
 c:Lst E vc 3 g.c.length (cat cj g.c)
 p:Lst E vp 3 g.p.length (cat cj g.p)
 b:g.h.length<=6000000000000/\g.c.length<=6000000000000/\g.p.length<=6000000000000
 ih:∀ x∈g.h,x.1.length<=9223372036854775807
 ic:∀ x∈g.c,x.1.1.length<=9223372036854775807
 ip:∀ x∈g.p,x.1.1.length<=9223372036854775807
theorem Fl {E:Env} (hE:E.P=Tryz.prog) {g:Led} {vh vc vp:Value} (I:PfIn E g vh vc vp):OwnC E 52 [SV.c (.agg #[vh,vc,vp])] [] (fun r U=>r=.bool (bP g)/\U=[]):=by
 refine aD [11,23] ai ak UB E hE [SV.c (.agg #[vh,vc,vp])] [] _ rfl rfl fun w X β hT=>?_
 have hE':(aY Tryz.prog tt Tryz.f52.ntmps w X (aJ [] β) [11,23]).toEnv.P=Tryz.prog:=rfl
 have hh:=I.h.of_old hT
 have hc:=I.c.of_old hT
 have hp:=I.p.of_old hT
 have hb:=I.b
 obtain ⟨ha,hcap,rfl,-,h4h⟩:=hh.shape
 obtain ⟨ca,ccap,rfl,-,h4c⟩:=hc.shape
 obtain ⟨pa,pcap,rfl,-,h4p⟩:=hp.shape
 refine ⟨rfl,_,rfl,_,fun w' _=>ao Tryz.underlying22 w',fun c=>?_,fun c=>?_⟩
 ·have c1:¬ g.h.length > 64:=by have:=ag (show decide (((g.h.length:Nat):Int) > 64)=false from c);omega
  refine ⟨_,rfl,_,fun w' _=>ao Tryz.underlying23 w',fun c2=>?_,fun c2=>?_⟩
  ·have c2:g.c.length > 8:=by have:=af (show decide (((g.c.length:Nat):Int) > 8)=true from c2);omega
   exact ⟨[],[],⟨bv (by unfold bP;rw [decide_eq_true c2];simp),rfl⟩,trivial,rfl⟩
  ·have c2:¬ g.c.length > 8:=by have:=ag (show decide (((g.c.length:Nat):Int) > 8)=false from c2);omega
   have hV:bP g=(cY (okH g.h) g.h.length && (cY (okK g.c) g.c.length && (cY (okK g.p) g.p.length && jT g.c))):=by unfold bP;rw [decide_eq_false c1,decide_eq_false c2];rfl
   refine ⟨fun f m=>cY (okH g.h) g.h.length=true/\f=[(1,SV.ptr 1 0)]/\m=[(1,Blk.row 25 3 #[.slice ha g.h.length hcap,.slice ca g.c.length ccap,.slice pa g.p.length pcap])],?_,?_⟩
   ·refine ⟨_,rfl,_,fun w' _=>ao Tryz.underlying22 w',?_⟩
    refine ⟨fun q f m=>∃ (i:Nat) (last:Bs),q=g.h.length - i/\i<=g.h.length/\(∀ j,j < i->okH g.h j=true)/\((i=0/\last=[])\/∃ y,0 < i/\g.h[i - 1]? = some y/\last=y.1)/\f=[(1,SV.ptr 1 0),(3,SV.c (.string (S last))),(21,SV.c (.slice ha g.h.length hcap)),(22,SV.c (.int .i64 (g.h.length:Nat))),(23,SV.c (.int .i64 (i:Nat)))]/\m=[(1,Blk.row 25 3 #[.slice ha g.h.length hcap,.slice ca g.c.length ccap,.slice pa g.p.length pcap])],g.h.length,⟨_,_,⟨0,[],by omega,by omega,fun j h=>absurd h (by omega),.inl ⟨rfl,rfl⟩,rfl,rfl⟩,⟨rfl,rfl,rfl,rfl,rfl,trivial⟩,⟨rfl,trivial⟩,rfl⟩,?_⟩
    rintro q f m ⟨i,last,rfl,hi,hok,hlast,rfl,rfl⟩
    refine ⟨fun c=>?_,fun c=>?_⟩
    ·have c:i < g.h.length:=by have:=af c;omega
     obtain ⟨b,o,rfl,h5⟩:=h4h (by omega)
     obtain ⟨y,hy⟩:∃ y,g.h[i]? = some y:=⟨_,List.getElem?_eq_getElem c⟩
     have hE'':VOk (aY Tryz.prog tt Tryz.f52.ntmps w X (aJ [] β) [11,23]):=ai
     have L1:=bN hE'' h5 lu hy (ty:=59) (ti:=gK) rfl rfl rfl (p:=o+(i:Int).toNat*2) rfl
     have K1:=Kl y.1 (I.ih y (List.mem_of_getElem? hy))
     have hP:okH g.h i=(cB y.1 && (inB y.2 1 1000000000000000 && (decide (i=0) || match g.h[i - 1]? with | none=>true | some z=>ltB z.1 y.1))):=by unfold okH;rw [hy]
     have bad:okH g.h i=false->bP g=false:=fun h=>by rw [hV,jm c h];rfl
     refine ⟨by omega,by omega,.inl ⟨_,L1,qt y,?_⟩⟩
     refine ⟨_,rfl,.inl ⟨_,K1,?_⟩⟩
     refine ⟨fun c1=>?_,fun c1=>?_⟩
     ·have c1:(!cB y.1)=false:=c1
      have c1:cB y.1=true:=by simpa using c1
      refine ⟨_,rfl,_,Nh _ _,fun c2=>?_,fun c2=>?_⟩
      ·have c2:(ltB y.1 last || decide (y.1=last))=false:=c2
       refine ⟨_,rfl,.inl ⟨_,rV y.2 1 1000000000000000,fun c3=>?_,fun c3=>?_⟩⟩
       ·have c3:(!inB y.2 1 1000000000000000)=true:=c3
        have c3:inB y.2 1 1000000000000000=false:=by simpa using c3
        exact ⟨[],[],⟨bv (bad (by rw [hP,c1,c3];rfl)).symm,rfl⟩,trivial,rfl⟩
       ·have c3:(!inB y.2 1 1000000000000000)=false:=c3
        have c3:inB y.2 1 1000000000000000=true:=by simpa using c3
        refine ⟨_,rfl,?_⟩
        have hb2:okH g.h i=true:=by
         rw [hP,c1,c3]
         rcases hlast with ⟨rfl,-⟩ | ⟨z,hz0,hz,rfl⟩
         ·rfl
         ·rw [hz]
          simp only [Bool.or_eq_false_iff,decide_eq_false_iff_not] at c2
          have:ltB z.1 y.1=true:=by
           cases h:ltB z.1 y.1 with
           | true=>rfl
           | false=>exact absurd (pO _ _ c2.1 h) c2.2
          show (true && (true && (decide (i=0) || ltB z.1 y.1)))=true
          rw [this,Bool.or_true];rfl
        exact ⟨g.h.length - (i+1),_,_,by omega,⟨i+1,y.1,rfl,by omega,fun j hj=>by
         rcases Nat.lt_succ_iff_lt_or_eq.1 hj with h | rfl
         ·exact hok j h
         ·exact hb2,.inr ⟨y,by omega,by rw [Nat.add_sub_cancel];exact hy,rfl⟩,rfl,rfl⟩,⟨rfl,rfl,rfl,rfl,ar (ax (by omega)),trivial⟩,⟨rfl,trivial⟩,rfl⟩
      ·have c2:(ltB y.1 last || decide (y.1=last))=true:=by simpa using c2
       refine ⟨fun _=>?_,nofun⟩
       have hne:y.1≠[]:=fun h=>by rw [h] at c1;exact absurd c1 (by decide)
       have hb2:okH g.h i=false:=by
        rw [hP]
        rcases hlast with ⟨-,rfl⟩ | ⟨z,hz0,hz,rfl⟩
        ·exfalso
         simp only [Bool.or_eq_true,decide_eq_true_eq] at c2
         rcases c2 with c2 | c2
         ·cases hy1:y.1 with
          | nil=>exact hne hy1
          | cons u v=>rw [hy1] at c2;cases c2
         ·exact hne c2
        ·rw [hz]
         simp only [Bool.or_eq_true,decide_eq_true_eq] at c2
         have:ltB z.1 y.1=false:=by
          rcases c2 with c2 | c2
          ·exact wj.asym c2
          ·rw [c2];exact lI _
         show (cB y.1 && (inB y.2 1 1000000000000000 && (decide (i=0) || ltB z.1 y.1)))=false
         rw [this,decide_eq_false (by omega),Bool.or_false,Bool.and_false,Bool.and_false]
       exact ⟨[],[],⟨bv (bad hb2).symm,rfl⟩,trivial,rfl⟩
     ·have c1:(!cB y.1)=true:=by simpa using c1
      have c1:cB y.1=false:=by simpa using c1
      refine ⟨nofun,fun _=>?_⟩
      refine ⟨fun _=>?_,nofun⟩
      exact ⟨[],[],⟨bv (bad (by rw [hP,c1];rfl)).symm,rfl⟩,trivial,rfl⟩
    ·have c:i=g.h.length:=by have:=ag c;omega
     exact ⟨_,_,⟨cN fun j hj=>hok j (by omega),rfl,rfl⟩,⟨rfl,trivial⟩,⟨rfl,trivial⟩,rfl⟩
   ·rintro f1 m1 ⟨hH,rfl,rfl⟩
    rw [hH,Bool.true_and] at hV
    refine ⟨fun f m=>cY (okK g.c) g.c.length=true/\cY (okK g.p) g.p.length=true/\f=[(1,SV.ptr 1 0)]/\m=[(1,Blk.row 25 3 #[.slice ha g.h.length hcap,.slice ca g.c.length ccap,.slice pa g.p.length pcap])],?_,?_⟩
    ·refine ⟨_,rfl,_,rfl,?_⟩
     refine .inr ⟨by decide,by decide,by decide,_,KH _ _ _ _ _ _,rfl,trivial,fun gl=>?_⟩
     refine ⟨_,fun w' _=>ao Tryz.underlying158 w',?_⟩
     refine ⟨fun q f m=>∃ i:Nat,q=2 - i/\i<=2/\(1<=i->cY (okK g.c) g.c.length=true)/\(2<=i->cY (okK g.p) g.p.length=true)/\f=[(1,SV.ptr 1 0),(50,SV.c (.slice (some ⟨gl,0,none⟩) 2 2)),(51,SV.c (.int .i64 ((2:Nat):Int))),(52,SV.c (.int .i64 (i:Nat)))]/\m=[(1,Blk.row 25 3 #[.slice ha g.h.length hcap,.slice ca g.c.length ccap,.slice pa g.p.length pcap]),(50,Blk.own (.slice (some ⟨gl,0,none⟩) 2 2) 23 1 2 #[.slice ca g.c.length ccap,.slice pa g.p.length pcap])],2,⟨_,_,⟨0,by omega,by omega,fun h=>absurd h (by omega),fun h=>absurd h (by omega),rfl,rfl⟩,⟨rfl,rfl,rfl,rfl,trivial⟩,⟨rfl,.inl rfl,trivial⟩,rfl⟩,?_⟩
     rintro q f m ⟨i,rfl,hi,hC1,hP1,rfl,rfl⟩
     refine ⟨fun c=>?_,fun c=>?_⟩
     ·have c:i < 2:=by have:=af c;omega
      obtain ⟨C,aC,cC,hAt,hL,hlen,hin,hwhich⟩:∃ (C:List (Ky×Int)) (aC:Option Addr) (cC:Nat),#[(Value.slice ca g.c.length ccap),.slice pa g.p.length pcap][i]? = some (.slice aC C.length cC)/\Lst (aY Tryz.prog tt Tryz.f52.ntmps w X (aJ [] β) [11,23]).toEnv (.slice aC C.length cC) 3 C.length (cat cj C)/\C.length<=6000000000000/\(∀ x∈C,x.1.1.length<=9223372036854775807)/\((i=0/\C=g.c)\/(i=1/\C=g.p)):=by
       rcases Nat.eq_zero_or_pos i with rfl | h0
       ·exact ⟨g.c,ca,ccap,rfl,hc,hb.2.1,I.ic,.inl ⟨rfl,rfl⟩⟩
       ·obtain rfl:i=1:=by omega
        exact ⟨g.p,pa,pcap,rfl,hp,hb.2.2,I.ip,.inr ⟨rfl,rfl⟩⟩
      have badC:∀ j,j < C.length->okK C j=false->bP g=false:=fun j hj h=>by
       rcases hwhich with ⟨-,rfl⟩ | ⟨-,rfl⟩
       ·rw [hV,jm hj h];rfl
       ·rw [hV,jm hj h,Bool.false_and,Bool.and_false]
      obtain ⟨aC',cC',hsv,hnC,h4C⟩:=hL.shape
      cases hsv
      refine ⟨by omega,by omega,.inr ⟨50,gl,_,2,2,_,_,_,rfl,rfl,.slice aC C.length cC,(by rw [Pk];exact hAt),?_⟩⟩
      refine ⟨_,fun w' _=>ao Tryz.underlying23 w',?_⟩
      refine ⟨fun q f m=>∃ j:Nat,q=C.length - j/\j<=C.length/\(∀ j',j' < j->okK C j'=true)/\f=[(1,SV.ptr 1 0),(7,SV.c (.slice aC C.length cC)),(50,SV.c (.slice (some ⟨gl,0,none⟩) 2 2)),(51,SV.c (.int .i64 ((2:Nat):Int))),(52,SV.c (.int .i64 (i:Nat))),(56,SV.c (.slice aC C.length cC)),(57,SV.c (.int .i64 (C.length:Nat))),(58,SV.c (.int .i64 (j:Nat)))]/\m=[(1,Blk.row 25 3 #[.slice ha g.h.length hcap,.slice ca g.c.length ccap,.slice pa g.p.length pcap]),(50,Blk.own (.slice (some ⟨gl,0,none⟩) 2 2) 23 1 2 #[.slice ca g.c.length ccap,.slice pa g.p.length pcap])],C.length,⟨_,_,⟨0,by omega,by omega,fun j h=>absurd h (by omega),rfl,rfl⟩,⟨rfl,rfl,rfl,rfl,rfl,rfl,rfl,rfl,trivial⟩,⟨rfl,.inl rfl,trivial⟩,rfl⟩,?_⟩
      rintro q f m ⟨j,rfl,hj,hok,rfl,rfl⟩
      refine ⟨fun c2=>?_,fun c2=>?_⟩
      ·have c2:j < C.length:=by have:=af c2;omega
       obtain ⟨b,o,rfl,h5⟩:=h4C (by omega)
       obtain ⟨y,hy⟩:∃ y,C[j]? = some y:=⟨_,List.getElem?_eq_getElem c2⟩
       have hE'':VOk (aY Tryz.prog tt Tryz.f52.ntmps w X (aJ [] β) [11,23]):=ai
       have L1:=bN hE'' h5 cH hy (ty:=88) (ti:=dw) rfl rfl rfl (p:=o+(j:Int).toNat*3) rfl
       have K1:=KS y.1.1 (hin y (List.mem_of_getElem? hy))
       have hPk:okK C j=(aF y.1.1 && (inB y.1.2 0 73048 && (!(y.2 == 0) && (inB y.2 (-1000000000000000) 1000000000000000 && (decide (j=0) || match C[j - 1]? with | none=>true | some z=>kU z.1 y.1))))):=by unfold okK;rw [hy]
       have bad:=badC j c2
       refine ⟨by omega,by omega,.inl ⟨_,L1,um y,?_⟩⟩
       refine ⟨_,rfl,.inl ⟨_,K1,?_⟩⟩
       have out:okK C j=false->∀ b:Bool,b=false->Value.bool b=Value.bool (bP g):=fun h b hb=>by rw [hb,bad h]
       refine ⟨fun d1=>?_,fun d1=>?_⟩
       ·have d1:(!aF y.1.1)=false:=d1
        have d1:aF y.1.1=true:=by simpa using d1
        refine ⟨_,rfl,.inl ⟨_,rV y.1.2 0 73048,fun d2=>?_,fun d2=>?_⟩⟩
        ·have d2:(!inB y.1.2 0 73048)=false:=d2
         have d2:inB y.1.2 0 73048=true:=by simpa using d2
         refine ⟨_,rfl,fun d3=>?_,fun d3=>?_⟩
         ·have d3:(y.2 == 0)=false:=d3
          refine ⟨_,rfl,.inl ⟨_,rV y.2 (-1000000000000000) 1000000000000000,fun d4=>?_,fun d4=>?_⟩⟩
          ·have d4:(!inB y.2 (-1000000000000000) 1000000000000000)=true:=d4
           have d4:inB y.2 (-1000000000000000) 1000000000000000=false:=by simpa using d4
           exact ⟨[],[],⟨out (by rw [hPk,d1,d2,d3,d4];rfl) _ rfl,rfl⟩,trivial,rfl⟩
          ·have d4:(!inB y.2 (-1000000000000000) 1000000000000000)=false:=d4
           have d4:inB y.2 (-1000000000000000) 1000000000000000=true:=by simpa using d4
           have hP2:okK C j=(decide (j=0) || match C[j - 1]? with | none=>true | some z=>kU z.1 y.1):=by rw [hPk,d1,d2,d3,d4];rfl
           have next:okK C j=true->∀ j',j' < j+1->okK C j'=true:=fun h j' hj'=>by
            rcases Nat.lt_succ_iff_lt_or_eq.1 hj' with h' | rfl
            ·exact hok j' h'
            ·exact h
           refine ⟨fun d5=>?_,fun d5=>?_⟩
           ·have d5:j > 0:=by have:=af (show decide (((j:Nat):Int) > 0)=true from d5);omega
            have ew:IntKind.i64.wrap (((j:Nat):Int) - 1)=((j - 1:Nat):Int):=by rw [i64_in (by omega)];omega
            obtain ⟨z,hz⟩:∃ z,C[j - 1]? = some z:=⟨_,List.getElem?_eq_getElem (by omega)⟩
            have LZ0:=jE hE'' h5 cH hz (j:=0) (v:=.string (S z.1.1)) rfl (ty:=9) (ti:=ti9) rfl rfl (p:=o+(IntKind.i64.wrap (((j:Nat):Int) - 1)).toNat*3+0) (by rw [ew];rfl)
            have LZ1:=jE hE'' h5 cH hz (j:=1) (v:=.int .i64 z.1.2) rfl (ty:=3) (ti:=ti3) rfl rfl (p:=o+(IntKind.i64.wrap (((j:Nat):Int) - 1)).toNat*3+1) (by rw [ew];rfl)
            have EO:=Er hE' z.1 y.1
            have hP3:okK C j=kU z.1 y.1:=by
             rw [hP2,hz,decide_eq_false (by omega)];rfl
            refine ⟨by rw [ew];omega,by rw [ew];omega,.inl ⟨_,LZ0,by rw [ew];omega,by rw [ew];omega,.inl ⟨_,LZ1,_,uU z.1.1 z.1.2 rfl,?_⟩⟩⟩
            refine ⟨_,rfl,_,rfl,_,uU y.1.1 y.1.2 rfl,?_⟩
            refine .inr (.inr (.inl ⟨[],[_,_],[],_,[],EO,rfl,trivial,rfl,rfl,?_⟩))
            refine ⟨by kernel_rfl,fun d6=>?_,fun d6=>?_⟩
            ·have d6:Ir z.1 y.1 >= 0:=af d6
             have hz2:kU z.1 y.1=false:=by
              rw [Bool.eq_false_iff]
              intro h
              have:=CE.2 h
              omega
             exact ⟨[],[],⟨out (by rw [hP3,hz2]) _ rfl,rfl⟩,trivial,rfl⟩
            ·have d6:¬ Ir z.1 y.1 >= 0:=ag d6
             have hz2:kU z.1 y.1=true:=CE.1 (by omega)
             exact ⟨C.length - (j+1),_,_,by omega,⟨j+1,rfl,by omega,next (by rw [hP3,hz2]),rfl,rfl⟩,⟨rfl,rfl,rfl,rfl,rfl,rfl,rfl,ar (ax (by omega)),trivial⟩,⟨rfl,.inl rfl,trivial⟩,rfl⟩
           ·have d5:j=0:=by have:=ag (show decide (((j:Nat):Int) > 0)=false by simpa using d5);omega
            refine ⟨by kernel_rfl,nofun,fun _=>?_⟩
            exact ⟨C.length - (j+1),_,_,by omega,⟨j+1,rfl,by omega,next (by rw [hP2,decide_eq_true d5];rfl),rfl,rfl⟩,⟨rfl,rfl,rfl,rfl,rfl,rfl,rfl,ar (ax (by omega)),trivial⟩,⟨rfl,.inl rfl,trivial⟩,rfl⟩
         ·have d3:(y.2 == 0)=true:=by simpa using d3
          refine ⟨fun _=>?_,nofun⟩
          exact ⟨[],[],⟨out (by rw [hPk,d1,d2,d3];rfl) _ rfl,rfl⟩,trivial,rfl⟩
        ·have d2:(!inB y.1.2 0 73048)=true:=by simpa using d2
         have d2:inB y.1.2 0 73048=false:=by simpa using d2
         refine ⟨nofun,fun _=>?_⟩
         refine ⟨fun _=>?_,nofun⟩
         exact ⟨[],[],⟨out (by rw [hPk,d1,d2];rfl) _ rfl,rfl⟩,trivial,rfl⟩
       ·have d1:(!aF y.1.1)=true:=by simpa using d1
        have d1:aF y.1.1=false:=by simpa using d1
        refine ⟨nofun,fun _=>?_⟩
        refine ⟨nofun,fun _=>?_⟩
        refine ⟨fun _=>?_,nofun⟩
        exact ⟨[],[],⟨out (by rw [hPk,d1];rfl) _ rfl,rfl⟩,trivial,rfl⟩
      ·have c2:j=C.length:=by have:=ag c2;omega
       have hCk:cY (okK C) C.length=true:=cN fun j' h=>hok j' (by omega)
       exact ⟨2 - (i+1),_,_,by omega,⟨i+1,rfl,by omega,fun _=>by
        rcases hwhich with ⟨-,rfl⟩ | ⟨rfl,-⟩
        ·exact hCk
        ·exact hC1 (by omega),fun h=>by
        rcases hwhich with ⟨h0,-⟩ | ⟨-,rfl⟩
        ·omega
        ·exact hCk,rfl,rfl⟩,⟨rfl,rfl,rfl,ar (ax (by omega)),trivial⟩,⟨rfl,.inl rfl,trivial⟩,rfl⟩
     ·have c:i=2:=by have:=ag (show decide (((i:Nat):Int) < ((2:Nat):Int))=false from c);omega
      exact ⟨_,_,⟨hC1 (by omega),hP1 (by omega),rfl,rfl⟩,⟨rfl,trivial⟩,⟨rfl,trivial⟩,rfl⟩
    ·rintro f2 m2 ⟨hC,hPk,rfl,rfl⟩
     rw [hC,hPk,Bool.true_and,Bool.true_and] at hV
     have CF:=yX hE' hc (by omega)
     refine ⟨_,rfl,?_⟩
     refine .inr (.inr (.inr ⟨[],[],[_,_],[],_,CF,rfl,trivial,rfl,trivial,?_⟩))
     rintro r U ⟨rfl,rfl⟩
     exact ⟨rfl,[],[],⟨bv (by rw [hV,Bool.not_not]),rfl⟩,trivial,rfl⟩
 ·have c1:g.h.length > 64:=by have:=af (show decide (((g.h.length:Nat):Int) > 64)=true by simpa using c);omega
  refine ⟨fun _=>?_,nofun⟩
  exact ⟨[],[],⟨bv (by unfold bP;rw [decide_eq_true c1];simp),rfl⟩,trivial,rfl⟩
theorem BT (n:Int):(decide (n < 0) || decide (n > 73048))=!inB n 0 73048:=by
 unfold inB
 by_cases h1:n < 0
 ·rw [decide_eq_true h1,decide_eq_false (show ¬ 0<=n by omega)];rfl
 ·rw [decide_eq_false h1,decide_eq_true (show 0<=n by omega)]
  by_cases h2:n > 73048
  ·rw [decide_eq_true h2,decide_eq_false (show ¬ n<=73048 by omega)];rfl
  ·rw [decide_eq_false h2,decide_eq_true (show n<=73048 by omega)];rfl
theorem FR {κ:Type} {lt:κ->κ->Bool} {l:List (κ×Int)} (h:SrtA lt l) {i:Nat} {x y:κ×Int} (hi:0 < i) (hx:l[i]? = some x) (hy:l[i - 1]? = some y):lt y.1 x.1=true:=by
 obtain ⟨h1,e1⟩:=List.getElem?_eq_some_iff.1 hx
 obtain ⟨h2,e2⟩:=List.getElem?_eq_some_iff.1 hy
 have:=List.pairwise_iff_getElem.1 h (i - 1) i h2 h1 (by omega)
 rw [e1,e2] at this
 exact this
theorem BW {f:List (Ky×Int)} (hs:SrtA kU f/\NzA f) (hc:∀ x∈f,aF x.1.1=true/\inB x.1.2 0 73048=true) (ha:U4 f=true):cY (okK f) f.length=true:=by
 refine cN fun i hi=>?_
 obtain ⟨x,hx⟩:∃ x,f[i]? = some x:=⟨_,List.getElem?_eq_getElem hi⟩
 have hm:=List.mem_of_getElem? hx
 unfold okK
 rw [hx]
 simp only [Bool.and_eq_true]
 refine ⟨(hc x hm).1,(hc x hm).2,by simpa using hs.2 x hm,List.all_eq_true.1 ha x hm,?_⟩
 rw [Bool.or_eq_true]
 by_cases h0:i=0
 ·exact .inl (decide_eq_true h0)
 ·obtain ⟨y,hy⟩:∃ y,f[i - 1]? = some y:=⟨_,List.getElem?_eq_getElem (by omega)⟩
  rw [hy]
  exact .inr (FR hs.1 (by omega) hx hy)
end Go.Proofs.YtklehfchdoikeaaGreatDoor
