/- books of rates that are drawn. a made policy that begins wit; no condition. -/
import Derived.Test.YtklehfchdoikeaaGreatDoorP29
set_option maxRecDepth 100000
set_option maxHeartbeats 4000000
namespace Go.Proofs.YtklehfchdoikeaaGreatDoor
open Go Go.RowKit Go.SX
theorem AG:Instr.fill (fun k=>some (k*ti9.size,ti9.size)) (madeCells ti9.zero (4*ti9.size)) [(0,.string (S [97])),(1,.string (S [98])),(2,.string (S [99])),(3,.string (S [100,52]))]=some (cat bF bO):=by kernel_rfl
theorem Dj {E:Env} (hE:E.P=Tryz.prog):OwnC E 98 [] [] (fun x U=>∃ g,x=.slice (some ⟨g,0,none⟩) 4 4/\U=[(9102,Blk.own x 9 1 4 (cat bF bO))]):=by
 refine aD [] ai ak PK E hE [] [] _ rfl rfl fun w X β hT=>?_
 refine .inr ⟨by decide,by decide,by decide,_,AG,rfl,trivial,fun g=>?_⟩
 exact ⟨[(9102,Blk.own (.slice (some ⟨g,0,none⟩) 4 4) 9 1 4 (cat bF bO))],[(9102,1)],⟨g,rfl,rfl⟩,⟨.inl rfl,trivial⟩,rfl⟩
theorem PL.pset0 (p:PL) (v u:Value) (l:List (List UInt8)):(p.A v).setIfInBounds (0+0) u=PL.A { p with srcs:=l } u:=by kernel_rfl
def Vd (k:Nat) (v:Value) (x:Value) (U:aA):Prop:=∃ (p:PL) (g m k':Nat),k<=k'/\k'<=k+21/\p.In/\bc p=true/\p.srcs=bO.take m/\1<=m/\m<=4/\x=.agg (p.A (.slice (some ⟨g,0,none⟩) m 4))/\U=[(1000,Blk.row 53 2 (tb v k')),(9102,Blk.own (.slice (some ⟨g,0,none⟩) 4 4) 9 1 4 (cat bF bO))]
theorem Jp {m:Nat} (h1:1<=m) (h4:m<=4):gX (bO.take m)=true:=by
 have hi:m=1\/m=2\/m=3\/m=4:=by omega
 clear h1 h4
 rcases hi with h' | h' | h' | h'<;>rw [h']<;>decide
theorem Kv {E:Env} (hE:E.P=Tryz.prog) {v:Value} {zs:List Int} (hv:Tp E v zs) {k:Nat} (hk:k+21<=4000000000000000000):OwnC E 69 [SV.ptr 1000 0] [(1000,Blk.row 53 2 (tb v k))] (Vd k v):=by
 refine aD [] ai ak Uq E hE [SV.ptr 1000 0] [(1000,Blk.row 53 2 (tb v k))] _ rfl rfl fun w X β hT=>?_
 have hv':Tp (aY Tryz.prog tt Tryz.f69.ntmps w X (aJ [(1000,Blk.row 53 2 (tb v k))] β)).toEnv v zs:=hv.of_old hE.symm hT
 refine .inr (.inr (.inr ⟨[],[9101],[_],[_],_,Gm rfl hv' (k:=k) (by omega),rfl,⟨rfl,trivial⟩,rfl,trivial,?_⟩))
 rintro r U ⟨p,y,m,k5,p1,p2,hpin,hpo,-,hy,hm,hm1,hm4,rfl,rfl⟩
 refine ⟨rfl,?_⟩
 have PF:Fits (p.A y) 68:=by obtain ⟨ya,yc,rfl⟩:=hy.len;exact p.fits (v:=.slice ya m yc) rfl
 have SP:=fun u l=>p.pset0 y u l
 generalize hPA:p.A y=PA at *
 refine ⟨PF,?_⟩
 refine .inr (.inr (.inr ⟨[],[9102],[],[],_,Dj rfl,rfl,trivial,rfl,trivial,?_⟩))
 rintro s U ⟨g,rfl,rfl⟩
 refine ⟨rfl,?_⟩
 obtain ⟨r6,k6,a6,b6,⟨i6,rfl,c6⟩,O6⟩:=bQ (n:=4) (by decide) zs k5 (by omega)
 obtain ⟨j,rfl⟩:∃ j:Nat,i6=j:=⟨i6.toNat,by omega⟩
 have e6:IntKind.i64.wrap (1+((j:Nat):Int))=((j+1:Nat):Int):=by rw [i64_in (by omega)];omega
 have hE':VOk (aY Tryz.prog tt Tryz.f69.ntmps w X (aJ [(1000,Blk.row 53 2 (tb v k))] β)):=ai
 have SS:=fL hE' Tryz.underlying27 (j:=ti9) rfl (a:=some ⟨g,0,none⟩) (n:=4) (cap:=4) (k:=.i64) (x:=IntKind.i64.wrap (1+((j:Nat):Int))) (j+1) e6 (by omega)
 refine .inr (.inl ⟨_,_,_,O6 _ v 1000 rfl hv',⟨rfl,trivial⟩,rfl,_,SS,by decide,rfl,_,SP _ (bO.take (j+1)),?_⟩)
 have hq:({ p with srcs:=bO.take (j+1) }:PL).In:=⟨hpin.tol,fun z hz=>by have:=List.mem_of_mem_take (show z∈bO.take (j+1) from hz);simp [bO] at this;rcases this with h | h | h | h<;>rw [h]<;>decide,hpin.stale⟩
 have hlen:(bO.take (j+1)).length=j+1:=by rw [List.length_take];show min (j+1) 4=_;omega
 have hpo2:bc { p with srcs:=bO.take (j+1) }=true:=by
  unfold bc at hpo ⊢
  simp only [Bool.and_eq_true,decide_eq_true_eq] at hpo ⊢
  refine ⟨⟨by show 0 < (bO.take (j+1)).length;omega,by show (bO.take (j+1)).length<=8;omega⟩,Jp (by omega) (by omega),hpo.2.2⟩
 have PF2:=PL.fits { p with srcs:=bO.take (j+1) } (v:=.slice (some ⟨g,0,none⟩) (j+1) 4) rfl
 refine ⟨PF2,?_⟩
 exact ⟨[(1000,Blk.row 53 2 (tb v k6)),(9102,Blk.own (.slice (some ⟨g,0,none⟩) 4 4) 9 1 4 (cat bF bO))],[],⟨_,g,j+1,k6,by omega,by omega,hq,hpo2,rfl,by omega,by omega,rfl,rfl⟩,⟨rfl,.inl rfl,trivial⟩,rfl⟩
end Go.Proofs.YtklehfchdoikeaaGreatDoor
