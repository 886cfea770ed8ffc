/- the frame of a law. walks: numbers off a tape. walks: days a; no condition. -/
import Derived.Test.YtklehfchdoikeaaGreatDoorRows
import Derived.Test.YtklehfchdoikeaaGreatDoorP19
set_option maxRecDepth 100000
set_option maxHeartbeats 4000000
namespace Go.Proofs.YtklehfchdoikeaaGreatDoor
open Go Go.RowKit Go.SX
theorem pD:ownKnob Tryz.prog.godebug=none:=by kernel_rfl
theorem pR:laidOutB Tryz.prog=true:=by kernel_rfl
open ChangeShapes WideShapes
theorem mj {H:Type} {enc:TypeId×Value->H} {P:Program} (hl:laidOutB P=true) {W W':World} (hb:Below W.heap.size W W') :
    ∀ (ts:List TypeId) (vs:List Value) (ds:List (DataW H)) (ps:List MemPlace),(∀ t∈ts,P.readableRec t=true/\t < P.types.size)->(∀ x∈ps,x.block < W.heap.size) ->
     DataW.TrodAll enc P W 0 (fun _=>true) true ts vs ds ps->DataW.TrodAll enc P W' 0 (fun b=>decide (b < W.heap.size)) true ts vs ds ps
 | [],vs,ds,ps,_,_,h=>by
  obtain ⟨rfl,rfl,rfl⟩:=trodAll_nil h
  exact trodAll_mk0
 | t :: ts,vs,ds,ps,hr,hlt,h=>by
  obtain ⟨v,vs',d,ds',p,q,rfl,rfl,rfl,h1,h2⟩:=trodAll_cons h
  exact trodAll_cons_mk (Below.trod hl (hr t (by simp)).1 (hr t (by simp)).2 h1 hb (fun x hx=>hlt x (by simp [hx])))
   (mj hl hb ts vs' ds' q (fun t ht=>hr t (by simp [ht])) (fun x hx=>hlt x (by simp [hx])) h2)

theorem pQ {H:Type} {enc:TypeId×Value->H} {P:Program} {f:Func} {s:ChangeSpec} {tb:TypeId} (hl:laidOutB P=true) (htb:P.underlying tb=some .bool) (hres:f.resultTypes=#[tb])
    (hr:∀ t∈f.params.toList,P.readableRec t=true/\t < P.types.size) {W W':World} {args:Array Value} {ds gs:List (DataW H)} {before:List MemPlace} (hvars:s.vars=[])
    (hW:DataW.Whole enc P f.params.toList s.vars false W args.toList ds gs before) (hfn:s.fn H (ds++gs)={ results:=[.lit (.bool true)],args:=ds }) (hb:Below W.heap.size W W') :
    s.post enc P f false true false false W args (.bool true) W':=by
 have hlt:∀ x∈before,x.block < W.heap.size:=fun x hx=>hW.lt x hx
 have hW0:=hW
 obtain ⟨p,q,hA,hV,rfl,hfz,hnd⟩:=hW
 rw [hvars] at hV
 obtain ⟨rfl,rfl⟩:=trodVars_none hV
 refine ⟨ds,[],p++[],[],p,[],hW0,?_,?_,?_,hb.frame _,fun h=>by cases h⟩
 ·rw [hfn,hres];exact trodAll_mk1 (shut_bool htb true)
 ·rw [hfn];exact mj hl hb _ _ _ _ hr (fun x hx=>hlt x (by simp [hx])) hA
 ·rw [hfn,hvars];exact hV

def fa:List (String×DataW Unit):=[("unicode/utf8.acceptRanges",Rows.laid_unicode_utf8_acceptRanges),("unicode/utf8.first",Rows.laid_unicode_utf8_first)]
theorem pj (os:Os) (args:Array Value):((World.laidAll Tryz.prog os fa).forCall (fun _ _=>0) ⟨#[],args,[]⟩).Shaped Tryz.prog:=World.shaped_of_ZipB (by kernel_rfl) (by kernel_rfl)
theorem B9 (os:Os) (args:Array Value):laidMetH Tryz.prog fa ((World.laidAll Tryz.prog os fa).forCall (fun _ _=>0) ⟨#[],args,[]⟩).memory:=by
 rw [MakeChecks.laidMetH_plain _ _ _ (by kernel_rfl)]
 exact laidMet_laidAll _ (by kernel_rfl) (by kernel_rfl)
end Go.Proofs.YtklehfchdoikeaaGreatDoor
namespace Go.Proofs.YtklehfchdoikeaaGreatDoor
open Go Go.RowKit Go.SX
def Tp (E:Env) (v:Value) (zs:List Int):Prop:=∃ (a:Option Addr) (cap:Nat),v=.slice a zs.length cap/\∀ i:Nat,i < zs.length->∃ b:Addr,bH E (Instr.indexAt 50 v (.int .i64 (i:Nat))) (.pointer (some b))/\bH E (Instr.loadAt 3 (.pointer (some b))) (.int .i64 (zs.getD i 0))
theorem jd {E E0:Env} (hP:E.P=E0.P) (h:∀ w,OldW E w->OldW E0 w) {s:Sem Value} {r:Value} (hr:bH E0 s r):bH E s r:=fun w hw=>by rw [hP];exact hr w (h w hw)
theorem Tp.of_old {E E0:Env} (hP:E.P=E0.P) (h:∀ w,OldW E w->OldW E0 w) {v:Value} {zs:List Int} (ht:Tp E0 v zs):Tp E v zs:=by
 obtain ⟨a,cap,rfl,hi⟩:=ht
 refine ⟨a,cap,rfl,fun i h1=>?_⟩
 obtain ⟨b,h2,h3⟩:=hi i h1
 exact ⟨b,jd hP h h2,jd hP h h3⟩
def tb (v:Value) (k:Nat):Array Value:=#[v,.int .i64 (k:Nat)]
def Gen (f:FuncId) (args:List SV) (c:Nat) (R:Value->Prop):Prop:=∀ (zs:List Int) (k:Nat),k+c<=4000000000000000000->∃ (r:Value) (k':Nat),k<=k'/\k'<=k+c/\R r/\∀ (E:Env) (v:Value) (d:Key),E.P=Tryz.prog->Tp E v zs->Own E f (SV.ptr d 0 :: args) [(d,Blk.row 53 2 (tb v k))] (SV.c r) [(d,Blk.row 53 2 (tb v k'))]
def RI (P:Int->Prop) (r:Value):Prop:=∃ i,r=.int .i64 i/\P i
def RB (r:Value):Prop:=∃ b,r=.bool b
def pX (v n:Int):Int:=if n<=1 then 0 else if v.tmod n < 0 then v.tmod n+n else v.tmod n
theorem yE (v n:Int):0<=pX v n/\(pX v n < n\/pX v n=0):=by
 unfold pX
 split
 ·omega
 ·have h1:=Int.tmod_lt_of_pos v (show 0 < n by omega)
  have h3:=Int.lt_tmod_of_pos v (show 0 < n by omega)
  split<;>omega
theorem vi {k:IntKind} {a b:Int} (h:a=b):Value.int k a=Value.int k b:=by rw [h]
theorem wx {v n:Int} (hn:n<=9223372036854775807):ay Tryz.prog 73 [SV.c (.int .i64 v),SV.c (.int .i64 n)] (.int .i64 (pX v n)):=by
 refine al ai ak Um _ _ rfl rfl fun w=>?_
 unfold pX
 refine ⟨fun h=>?_,fun h=>?_⟩
 ·rw [if_pos (af h)]
  exact ⟨rfl,trivial⟩
 ·have h:=ag h
  rw [if_neg h]
  have h1:=Int.tmod_lt_of_pos v (show 0 < n by omega)
  have h3:=Int.lt_tmod_of_pos v (show 0 < n by omega)
  have e:IntKind.i64.wrap (v.tmod n)=v.tmod n:=i64_in (by omega)
  refine ⟨by omega,fun h4=>?_,fun h4=>?_⟩
  ·rw [if_pos (af h4)]
   exact ⟨vi (i64_in (by have:=af h4;omega)),trivial⟩
  ·rw [if_neg (ag h4)]
   exact ⟨rfl,trivial⟩
theorem ao {P:Program} {t e ty:TypeId} (hu:P.underlying t=some (.slice e)) {cs:Array Bool} {a:Option Addr} {len cap:Nat} (w:World):(builtin .len #[t] ty cs #[.slice a len cap]).run P w=.ok (.value (.int .i64 (len:Nat))) w:=by
 simp [builtin,Builtin.len_,Sem.run_bind,run_underlying hu,goInt]
theorem vK {v:Value} (k:Nat) (hk:k<=4000000000000000000):(tb v k).setIfInBounds (0+1) (.int .i64 (IntKind.i64.wrap ((k:Nat)+1)))=tb v (k+1):=by
 rw [i64_in (by omega)];rfl
theorem bQ {n:Int} (hn:n<=9223372036854775807):Gen 19 [SV.c (.int .i64 n)] 1 (RI fun i=>0<=i/\(i < n\/i=0)):=by
 intro zs k hk
 by_cases h:k < zs.length
 ·refine ⟨_,k+1,by omega,by omega,⟨pX (zs.getD k 0) n,rfl,yE _ n⟩,fun E v d hE hv=>?_⟩
  obtain ⟨a,cap,rfl,hi⟩:=hv
  obtain ⟨b,h2,h4⟩:=hi k h
  refine aQ [] ai ak Ld E hE d (53,2,tb (.slice a zs.length cap) k,tb (.slice a zs.length cap) (k+1)) [SV.ptr 1000 0,SV.c (.int .i64 n)] _ rfl rfl fun w b hT=>?_
  have hlen:∀ w',(builtin .len #[50] 3 #[false] #[.slice a zs.length cap]).run Tryz.prog w'=.ok (.value (.int .i64 (zs.length:Nat))) w':=fun w'=>ao Tryz.underlying50 w'
  refine ⟨_,rfl,by decide,_,rfl,_,rfl,_,fun w' _=>hlen w',by kernel_rfl,fun _=>?_,fun h=>absurd (ag h) (by omega)⟩
  refine ⟨_,rfl,_,rfl,_,jd hE.symm hT h2,_,jd hE.symm hT h4,by kernel_rfl,_,rfl,Nat.lt_add_one 1,rfl,_,rfl,.inl ⟨_,wx hn,rfl,?_,trivial⟩⟩
  exact bk (vK k (by omega))
 ·refine ⟨_,k+1,by omega,by omega,⟨pX (((IntKind.i64.wrap ((k:Nat)*7))).tmod 11) n,rfl,yE _ n⟩,fun E v d hE hv=>?_⟩
  obtain ⟨a,cap,rfl,hi⟩:=hv
  refine aQ [] ai ak Ld E hE d (53,2,tb (.slice a zs.length cap) k,tb (.slice a zs.length cap) (k+1)) [SV.ptr 1000 0,SV.c (.int .i64 n)] _ rfl rfl fun w b hT=>?_
  have hlen:∀ w',(builtin .len #[50] 3 #[false] #[.slice a zs.length cap]).run Tryz.prog w'=.ok (.value (.int .i64 (zs.length:Nat))) w':=fun w'=>ao Tryz.underlying50 w'
  refine ⟨_,rfl,by decide,_,rfl,_,rfl,_,fun w' _=>hlen w',by kernel_rfl,fun h=>absurd (af h) (by omega),fun _=>?_⟩
  refine ⟨_,rfl,Nat.lt_add_one 1,rfl,_,rfl,.inl ⟨_,wx hn,?_,?_,trivial⟩⟩
  ·exact vi rfl
  ·exact bk (vK k (by omega))
theorem cU {a b:Int} (hb:b<=9223372036854775807):Gen 70 [SV.c (.int .i64 a),SV.c (.int .i64 b)] 1 RB:=by
 intro zs k hk
 obtain ⟨r,k',h1,h2,⟨i,rfl,h3⟩,hO⟩:=bQ hb zs k hk
 refine ⟨_,k',h1,h2,⟨decide (i < a),rfl⟩,fun E v d hE hv=>?_⟩
 refine aQ [] ai ak Up E hE d (53,2,tb v k,tb v k') [SV.ptr 1000 0,SV.c (.int .i64 a),SV.c (.int .i64 b)] _ rfl rfl fun w b hT=>?_
 exact .inr ⟨_,_,_,hO _ v 1000 rfl (hv.of_old hE.symm hT),⟨rfl,trivial⟩,rfl,rfl,rfl,trivial⟩
def Ln (f:FuncId) (ty:TypeId) (A:Array Value) (m len:Nat) (c:Nat) (R:Value->Prop):Prop:=∀ (zs:List Int) (k:Nat),k+c<=4000000000000000000->∃ (r:Value) (k':Nat),k<=k'/\k'<=k+c/\R r/\∀ (E:Env) (v:Value) (d e:Key),d≠e->E.P=Tryz.prog->Tp E v zs->Own E f [SV.ptr d 0,SV.sl e 0 len len] [(d,Blk.row 53 2 (tb v k)),(e,Blk.row ty m A)] (SV.c r) [(d,Blk.row 53 2 (tb v k')),(e,Blk.row ty m A)]
theorem py {lo hi:Int} (h1 : -1000000000000000000<=lo) (h2:lo<=hi) (h3:hi<=1000000000000000000):Gen 25 [SV.c (.int .i64 lo),SV.c (.int .i64 hi)] 1 (RI fun i=>lo<=i/\i<=hi):=by
 intro zs k hk
 have e1:IntKind.i64.wrap (IntKind.i64.wrap (hi - lo)+1)=hi - lo+1:=by rw [i64_in (show -9223372036854775808<=hi - lo/\hi - lo<=9223372036854775807 by omega),i64_in (by omega)]
 obtain ⟨r,k',h4,h5,⟨i,rfl,h6⟩,hO⟩:=bQ (n:=hi - lo+1) (by omega) zs k hk
 refine ⟨_,k',h4,h5,⟨lo+i,rfl,by omega⟩,fun E v d hE hv=>?_⟩
 refine aQ [] ai ak US E hE d (53,2,tb v k,tb v k') [SV.ptr 1000 0,SV.c (.int .i64 lo),SV.c (.int .i64 hi)] _ rfl rfl fun w b hT=>?_
 have:=hO _ v 1000 rfl (hv.of_old hE.symm hT)
 rw [<- e1] at this
 exact .inr ⟨_,_,_,this,⟨rfl,trivial⟩,rfl,vi (i64_in (by omega)),rfl,trivial⟩
def cd (xs:List Int):Array Value:=(xs.map (Value.int .i64)).toArray
theorem Hh {xs:List Int} {i:Nat} (h:i < xs.length):(cd xs)[i]? = some (.int .i64 xs[i]):=by simp [cd,h]
theorem dX {xs:List Int} (h0:0 < xs.length) (hl:xs.length<=1000000):Ln 21 3 (cd xs) xs.length xs.length 1 (RI (·∈xs)):=by
 intro zs k hk
 obtain ⟨r,k',h4,h5,⟨i,rfl,h6,h7⟩,hO⟩:=bQ (n:=(xs.length:Nat)) (by omega) zs k hk
 have hi:i.toNat < xs.length:=by omega
 refine ⟨_,k',h4,h5,⟨xs[i.toNat],rfl,List.getElem_mem hi⟩,fun E v d e hde hE hv=>?_⟩
 refine pb [] ai ak UV E hE d e hde (53,2,tb v k,tb v k') (3,xs.length,cd xs,cd xs) [SV.ptr 1000 0,SV.sl 1001 0 xs.length xs.length] _ rfl rfl fun w b b' hT=>?_
 have:=hO _ v 1000 rfl (hv.of_old hE.symm hT)
 refine ⟨fun h=>?_,fun h=>.inr ⟨_,_,_,this,⟨rfl,trivial⟩,rfl,h6,by omega,_,Hh hi,rfl,rfl,rfl,trivial⟩⟩
 have h:((xs.length:Int) == 0)=true:=h
 have:=eq_of_beq h
 omega
def kN (xs:List (List UInt8)):Array Value:=(xs.map fun l=>Value.string (S l)).toArray
theorem i0 {xs:List (List UInt8)} {i:Nat} (h:i < xs.length):(kN xs)[i]? = some (.string (S xs[i])):=by simp [kN,h]
def RS (P:List UInt8->Prop) (r:Value):Prop:=∃ l,r=.string (S l)/\P l
theorem BV {xs:List (List UInt8)} (h0:0 < xs.length) (hl:xs.length<=1000000):Ln 20 9 (kN xs) xs.length xs.length 1 (RS (·∈xs)):=by
 intro zs k hk
 obtain ⟨r,k',h4,h5,⟨i,rfl,h6,h7⟩,hO⟩:=bQ (n:=(xs.length:Nat)) (by omega) zs k hk
 have hi:i.toNat < xs.length:=by omega
 refine ⟨_,k',h4,h5,⟨xs[i.toNat],rfl,List.getElem_mem hi⟩,fun E v d e hde hE hv=>?_⟩
 refine pb [] ai ak UW E hE d e hde (53,2,tb v k,tb v k') (9,xs.length,kN xs,kN xs) [SV.ptr 1000 0,SV.sl 1001 0 xs.length xs.length] _ rfl rfl fun w b b' hT=>?_
 have:=hO _ v 1000 rfl (hv.of_old hE.symm hT)
 refine ⟨fun h=>?_,fun h=>.inr ⟨_,_,_,this,⟨rfl,trivial⟩,rfl,h6,by omega,_,i0 hi,rfl,rfl,rfl,trivial⟩⟩
 have h:((xs.length:Int) == 0)=true:=h
 have:=eq_of_beq h
 omega
def RA (P:RQ->Prop) (r:Value):Prop:=∃ x:RQ,r=.agg x.A/\P x
def isPrice (r:RQ):Prop:=∃ n d:Int,r=(mkQ n d).1/\1<=n/\n<=200000/\d∈[1,2,4,10,100,1000,1000000]
theorem isPrice.in_ {r:RQ} (h:isPrice r):r.In:=by obtain ⟨n,d,rfl,-⟩:=h;exact cD _ _
theorem rI:Gen 26 [] 3 (RA isPrice):=by
 intro zs k hk
 obtain ⟨r1,k1,a1,b1,⟨i1,rfl,c1⟩,O1⟩:=dX (xs:=[9,2000,200000]) (by decide) (by decide) zs k (by omega)
 have d1:9<=i1/\i1<=200000:=by simp at c1;omega
 obtain ⟨r2,k2,a2,b2,⟨i2,rfl,c2⟩,O2⟩:=bQ (n:=i1) (by omega) zs k1 (by omega)
 obtain ⟨r3,k3,a3,b3,⟨i3,rfl,c3⟩,O3⟩:=dX (xs:=[1,2,4,10,100,1000,1000000]) (by decide) (by decide) zs k2 (by omega)
 have d3:1<=i3/\i3<=1000000:=by simp at c3;omega
 have e2:IntKind.i64.wrap (1+i2)=1+i2:=i64_in (by omega)
 refine ⟨_,k3,by omega,by omega,⟨_,rfl,1+i2,i3,rfl,by omega,by omega,c3⟩,fun E v d hE hv=>?_⟩
 refine aQ [] ai ak UR E hE d (53,2,tb v k,tb v k3) [SV.ptr 1000 0] _ rfl rfl fun w b hT=>?_
 have hv:=hv.of_old hE.symm hT
 have hm:ay Tryz.prog 23 [SV.c (.int .i64 (IntKind.i64.wrap (1+i2))),SV.c (.int .i64 i3)] (.agg (mkQ (1+i2) i3).1.A):=by rw [e2];exact dT (by omega) (by omega) (by omega) (by omega)
 refine ⟨by decide,by decide,cd [9,2000,200000],by kernel_rfl,rfl,.inr ⟨_,_,_,O1 _ v 1000 5 (by decide) rfl hv,⟨rfl,rfl,trivial⟩,rfl,.inr ⟨_,_,_,O2 _ v 1000 rfl hv,⟨rfl,trivial⟩,rfl,by decide,by decide,cd [1,2,4,10,100,1000,1000000],by kernel_rfl,rfl,.inr ⟨_,_,_,O3 _ v 1000 10 (by decide) rfl hv,⟨rfl,rfl,trivial⟩,rfl,?_⟩⟩⟩⟩
 exact .inl ⟨_,hm,RQ.A_fits _,rfl,rfl,trivial⟩
theorem vI (a b:Nat):((a:Nat):Int).tmod (b:Nat)=((a % b:Nat):Int):=rfl
theorem vJ (a b:Nat):((a:Nat):Int).tdiv (b:Nat)=((a / b:Nat):Int):=rfl
theorem yM (a:Nat):(((a:Nat):Int) == 0)=(a == 0):=by
 rw [Bool.eq_iff_iff];simp
theorem LM (a:Nat):(((a:Nat):Int) != 0)=(a != 0):=by
 rw [bne,bne,yM]
theorem Ng (y:Nat):ay Tryz.prog 320 [SV.c (.int .i64 (y:Nat))] (.bool (bo y)):=by
 refine al ai ak P7 _ _ rfl rfl fun w=>?_
 have e4:((y:Nat):Int).tmod 4=((y % 4:Nat):Int):=vI y 4
 have e100:((y:Nat):Int).tmod 100=((y % 100:Nat):Int):=vI y 100
 have e400:((y:Nat):Int).tmod 400=((y % 400:Nat):Int):=vI y 400
 refine ⟨by decide,fun h=>⟨by decide,fun h2=>⟨by decide,bv ?_,trivial⟩,fun h2=>⟨bv ?_,trivial⟩⟩,fun h=>⟨bv ?_,trivial⟩⟩
 ·rw [e4,yM] at h;rw [e100,LM] at h2
  have h2:(y % 100 != 0)=false:=h2
  rw [e400,yM]
  unfold bo;rw [h,h2];rfl
 ·rw [e4,yM] at h;rw [e100,LM] at h2
  have h2:(y % 100 != 0)=true:=h2
  unfold bo;rw [h,h2];rfl
 ·rw [e4,yM] at h
  have h:(y % 4 == 0)=false:=h
  unfold bo;rw [h];rfl
theorem wU {y:Nat} (h1:2000<=y) (h2:y<=2200):ay Tryz.prog 293 [SV.c (.int .i64 (y:Nat))] (.int .i64 (ysN y:Nat)):=by
 refine al ai ak Qd _ _ rfl rfl fun w=>?_
 obtain ⟨k,rfl⟩:∃ k,y=2000+k:=⟨y - 2000,by omega⟩
 have e1:IntKind.i64.wrap (((2000+k:Nat):Int) - 2000)=((k:Nat):Int):=by rw [i64_in (by omega)];omega
 have e2:IntKind.i64.wrap (365*((k:Nat):Int))=((365*k:Nat):Int):=by rw [i64_in (by omega)];omega
 have e3:IntKind.i64.wrap (((k:Nat):Int)+3)=((k+3:Nat):Int):=by rw [i64_in (by omega)];omega
 have e4:IntKind.i64.wrap (((k+3:Nat):Int).tdiv 4)=(((k+3) / 4:Nat):Int):=by rw [show ((k+3:Nat):Int).tdiv 4=(((k+3) / 4:Nat):Int) from vJ _ 4,i64_in (by omega)]
 have e5:IntKind.i64.wrap (((365*k:Nat):Int)+(((k+3) / 4:Nat):Int))=((365*k+(k+3) / 4:Nat):Int):=by rw [i64_in (by omega)];omega
 have e6:ysN (2000+k)=365*k+(k+3) / 4 - (if 2100 < 2000+k then 1 else 0):=by unfold ysN;rw [show 2000+k - 2000=k by omega]
 refine ⟨by decide,fun h=>⟨?_,trivial⟩,fun h=>⟨?_,trivial⟩⟩
 ·have h:=af h
  rw [e1,e2,e3,e4,e5,e6,if_pos (by omega),i64_in (by omega)]
  show Value.int _ _=_
  congr 1;omega
 ·have h:=ag h
  rw [e1,e2,e3,e4,e5,e6,if_neg (by omega),Nat.sub_zero]
  rfl
theorem Jc (n:Int):ay Tryz.prog 292 [SV.c (.int .i64 n)] (.bool (decide (0<=n) && decide (n<=73048))):=by
 refine al ai ak Qe _ _ rfl rfl fun w=>?_
 refine ⟨fun h=>⟨bv ?_,trivial⟩,fun h=>⟨bv ?_,trivial⟩⟩
 ·have h:decide (0<=n)=true:=h
  rw [h];rfl
 ·have h:decide (0<=n)=false:=h
  rw [h];rfl
theorem CW {y m:Nat} (h1:1<=m) (h2:m<=12):ay Tryz.prog 294 [SV.c (.int .i64 (y:Nat)),SV.c (.int .i64 (m:Nat))] (.int .i64 (ahN (bo y) m:Nat)):=by
 have hl:=Ng y
 obtain rfl | rfl | rfl | rfl | rfl | rfl | rfl | rfl | rfl | rfl | rfl | rfl:m=1\/m=2\/m=3\/m=4\/m=5\/m=6\/m=7\/m=8\/m=9\/m=10\/m=11\/m=12:=by omega
 ·refine al ai ak jV _ _ rfl rfl fun w=>?_
  refine ⟨fun h=>absurd h (by decide),fun _=>⟨fun h=>absurd h (by decide),fun _=>⟨fun h=>absurd h (by decide),fun _=>⟨fun h=>absurd h (by decide),fun _=>⟨fun h=>absurd h (by decide),fun _=>⟨fun h=>absurd h (by decide),fun _=>⟨fun h=>absurd h (by decide),fun _=>⟨fun h=>absurd h (by decide),fun _=>⟨fun h=>absurd h (by decide),fun _=>⟨fun h=>absurd h (by decide),fun _=>⟨fun h=>absurd h (by decide),fun _=>⟨?_,trivial⟩⟩⟩⟩⟩⟩⟩⟩⟩⟩⟩⟩
  rfl
 ·refine al ai ak jV _ _ rfl rfl fun w=>?_
  refine ⟨fun h=>absurd h (by decide),fun _=>⟨fun h=>absurd h (by decide),fun _=>⟨fun h=>absurd h (by decide),fun _=>⟨fun h=>absurd h (by decide),fun _=>⟨fun h=>absurd h (by decide),fun _=>⟨fun h=>absurd h (by decide),fun _=>⟨fun h=>absurd h (by decide),fun _=>⟨fun h=>absurd h (by decide),fun _=>⟨fun h=>absurd h (by decide),fun _=>⟨fun h=>absurd h (by decide),fun _=>⟨fun _=>⟨?_,trivial⟩,fun h=>absurd h (by decide)⟩⟩⟩⟩⟩⟩⟩⟩⟩⟩⟩
  rfl
 ·refine al ai ak jV _ _ rfl rfl fun w=>?_
  refine ⟨fun h=>absurd h (by decide),fun _=>⟨fun h=>absurd h (by decide),fun _=>⟨fun h=>absurd h (by decide),fun _=>⟨fun h=>absurd h (by decide),fun _=>⟨fun h=>absurd h (by decide),fun _=>⟨fun h=>absurd h (by decide),fun _=>⟨fun h=>absurd h (by decide),fun _=>⟨fun h=>absurd h (by decide),fun _=>⟨fun h=>absurd h (by decide),fun _=>⟨fun _=>.inl ⟨_,hl,fun h=>⟨?_,trivial⟩,fun h=>⟨?_,trivial⟩⟩,fun h=>absurd h (by decide)⟩⟩⟩⟩⟩⟩⟩⟩⟩⟩
  ·rw [show bo y=true from h];rfl
  ·rw [show bo y=false from h];rfl
 ·refine al ai ak jV _ _ rfl rfl fun w=>?_
  refine ⟨fun h=>absurd h (by decide),fun _=>⟨fun h=>absurd h (by decide),fun _=>⟨fun h=>absurd h (by decide),fun _=>⟨fun h=>absurd h (by decide),fun _=>⟨fun h=>absurd h (by decide),fun _=>⟨fun h=>absurd h (by decide),fun _=>⟨fun h=>absurd h (by decide),fun _=>⟨fun h=>absurd h (by decide),fun _=>⟨fun _=>.inl ⟨_,hl,fun h=>⟨?_,trivial⟩,fun h=>⟨?_,trivial⟩⟩,fun h=>absurd h (by decide)⟩⟩⟩⟩⟩⟩⟩⟩⟩
  ·rw [show bo y=true from h];rfl
  ·rw [show bo y=false from h];rfl
 ·refine al ai ak jV _ _ rfl rfl fun w=>?_
  refine ⟨fun h=>absurd h (by decide),fun _=>⟨fun h=>absurd h (by decide),fun _=>⟨fun h=>absurd h (by decide),fun _=>⟨fun h=>absurd h (by decide),fun _=>⟨fun h=>absurd h (by decide),fun _=>⟨fun h=>absurd h (by decide),fun _=>⟨fun h=>absurd h (by decide),fun _=>⟨fun _=>.inl ⟨_,hl,fun h=>⟨?_,trivial⟩,fun h=>⟨?_,trivial⟩⟩,fun h=>absurd h (by decide)⟩⟩⟩⟩⟩⟩⟩⟩
  ·rw [show bo y=true from h];rfl
  ·rw [show bo y=false from h];rfl
 ·refine al ai ak jV _ _ rfl rfl fun w=>?_
  refine ⟨fun h=>absurd h (by decide),fun _=>⟨fun h=>absurd h (by decide),fun _=>⟨fun h=>absurd h (by decide),fun _=>⟨fun h=>absurd h (by decide),fun _=>⟨fun h=>absurd h (by decide),fun _=>⟨fun h=>absurd h (by decide),fun _=>⟨fun _=>.inl ⟨_,hl,fun h=>⟨?_,trivial⟩,fun h=>⟨?_,trivial⟩⟩,fun h=>absurd h (by decide)⟩⟩⟩⟩⟩⟩⟩
  ·rw [show bo y=true from h];rfl
  ·rw [show bo y=false from h];rfl
 ·refine al ai ak jV _ _ rfl rfl fun w=>?_
  refine ⟨fun h=>absurd h (by decide),fun _=>⟨fun h=>absurd h (by decide),fun _=>⟨fun h=>absurd h (by decide),fun _=>⟨fun h=>absurd h (by decide),fun _=>⟨fun h=>absurd h (by decide),fun _=>⟨fun _=>.inl ⟨_,hl,fun h=>⟨?_,trivial⟩,fun h=>⟨?_,trivial⟩⟩,fun h=>absurd h (by decide)⟩⟩⟩⟩⟩⟩
  ·rw [show bo y=true from h];rfl
  ·rw [show bo y=false from h];rfl
 ·refine al ai ak jV _ _ rfl rfl fun w=>?_
  refine ⟨fun h=>absurd h (by decide),fun _=>⟨fun h=>absurd h (by decide),fun _=>⟨fun h=>absurd h (by decide),fun _=>⟨fun h=>absurd h (by decide),fun _=>⟨fun _=>.inl ⟨_,hl,fun h=>⟨?_,trivial⟩,fun h=>⟨?_,trivial⟩⟩,fun h=>absurd h (by decide)⟩⟩⟩⟩⟩
  ·rw [show bo y=true from h];rfl
  ·rw [show bo y=false from h];rfl
 ·refine al ai ak jV _ _ rfl rfl fun w=>?_
  refine ⟨fun h=>absurd h (by decide),fun _=>⟨fun h=>absurd h (by decide),fun _=>⟨fun h=>absurd h (by decide),fun _=>⟨fun _=>.inl ⟨_,hl,fun h=>⟨?_,trivial⟩,fun h=>⟨?_,trivial⟩⟩,fun h=>absurd h (by decide)⟩⟩⟩⟩
  ·rw [show bo y=true from h];rfl
  ·rw [show bo y=false from h];rfl
 ·refine al ai ak jV _ _ rfl rfl fun w=>?_
  refine ⟨fun h=>absurd h (by decide),fun _=>⟨fun h=>absurd h (by decide),fun _=>⟨fun _=>.inl ⟨_,hl,fun h=>⟨?_,trivial⟩,fun h=>⟨?_,trivial⟩⟩,fun h=>absurd h (by decide)⟩⟩⟩
  ·rw [show bo y=true from h];rfl
  ·rw [show bo y=false from h];rfl
 ·refine al ai ak jV _ _ rfl rfl fun w=>?_
  refine ⟨fun h=>absurd h (by decide),fun _=>⟨fun _=>.inl ⟨_,hl,fun h=>⟨?_,trivial⟩,fun h=>⟨?_,trivial⟩⟩,fun h=>absurd h (by decide)⟩⟩
  ·rw [show bo y=true from h];rfl
  ·rw [show bo y=false from h];rfl
 ·refine al ai ak jV _ _ rfl rfl fun w=>?_
  refine ⟨fun _=>.inl ⟨_,hl,fun h=>⟨?_,trivial⟩,fun h=>⟨?_,trivial⟩⟩,fun h=>absurd h (by decide)⟩
  ·rw [show bo y=true from h];rfl
  ·rw [show bo y=false from h];rfl
def It (n:Int):Value:=if 0<=n/\n<=73048 then .tuple #[.int .i64 ((il n.toNat).1:Nat),.int .i64 ((il n.toNat).2.1:Nat),.int .i64 ((il n.toNat).2.2:Nat),.int .i64 0] else .tuple #[.int .i64 0,.int .i64 0,.int .i64 0,.int .i64 50]
theorem PC (n:Int):ay Tryz.prog 274 [SV.c (.int .i64 n)] (It n):=by
 refine al ai ak Qk _ _ rfl rfl fun w=>?_
 refine .inl ⟨_,Jc n,fun h=>?_,fun h=>?_⟩
 ·have h:(decide (0<=n) && decide (n<=73048))=false:=bnt h
  have h:¬ (0<=n/\n<=73048):=by simpa using h
  exact ⟨by rw [It,if_neg h];rfl,trivial⟩
 have h:(decide (0<=n) && decide (n<=73048))=true:=bX h
 have h:0<=n/\n<=73048:=by simpa using h
 rw [It,if_pos h]
 obtain ⟨k,rfl⟩:∃ k:Nat,n=k:=⟨n.toNat,by omega⟩
 rw [Int.toNat_natCast]
 have hk:k<=73048:=by omega
 have e1:IntKind.i64.wrap (((k:Nat):Int).tdiv 366)=((k / 366:Nat):Int):=by rw [show ((k:Nat):Int).tdiv 366=((k / 366:Nat):Int) from vJ _ 366,i64_in (by omega)]
 have e2:IntKind.i64.wrap (2000+((k / 366:Nat):Int))=((2000+k / 366:Nat):Int):=by rw [i64_in (by omega)];omega
 have hy0:=EZ (k / 366) 2000 (by omega) (by omega)
 have hys:ysN (2000+k / 366)<=k:=by
  have:ysN (2000+k / 366)<=366*(k / 366):=by
   unfold ysN
   split<;>omega
  omega
 refine ⟨by decide,fun q f m=>∃ y:Nat,q=2200 - y/\2000<=y/\y<=2199/\ysN y<=k/\f=[(0,SV.c (.int .i64 (k:Nat))),(2,SV.c (.int .i64 (y:Nat)))]/\m=[],2200 - (2000+k / 366),⟨_,_,⟨2000+k / 366,rfl,by omega,by omega,hys,rfl,rfl⟩,⟨rfl,ar (by rw [e1,e2]),trivial⟩,trivial,rfl⟩,?_⟩
 rintro q f m ⟨y,rfl,hy1,hy2,hyk,rfl,rfl⟩
 have e3:IntKind.i64.wrap (((y:Nat):Int)+1)=((y+1:Nat):Int):=by rw [i64_in (by omega)];omega
 have hn:=oG hy1 hy2
 have hs1:=wU (y:=y+1) (by omega) (by omega)
 rw [<- e3] at hs1
 refine .inl ⟨_,hs1,fun h=>?_,fun h=>?_⟩
 ·have h:=af h
  have h9:ysN (y+1)<=k:=by omega
  have hlt:y < 2199:=by
   rcases Nat.lt_or_ge y 2199 with h8 | h8
   ·exact h8
   ·exfalso
    have:y=2199:=by omega
    subst this
    have:ysN (2199+1)=73049:=by decide
    omega
  exact ⟨2200 - (y+1),_,_,by omega,⟨y+1,rfl,by omega,by omega,h9,rfl,rfl⟩,⟨rfl,ar e3,trivial⟩,trivial,rfl⟩
 ·have h:=ag h
  obtain ⟨r,hr⟩:∃ r,ysN y+r=k:=⟨k - ysN y,by omega⟩
  have hyr:=wV hy1 hy2 (r:=r) (by omega) hr
  have hc:il k=(y,(gY (bo y) r).1,(gY (bo y) r).2+1):=by unfold il;rw [hyr]
  have hrd:r < (if bo y then 366 else 365):=by
   have:mw y=if bo y then 366 else 365:=rfl
   omega
  have hq:=DI hrd
  obtain ⟨m1,m2,m3,m4⟩:=B5 hrd
  rw [hc]
  have e4:IntKind.i64.wrap (((k:Nat):Int) - ((ysN y:Nat):Int))=((r:Nat):Int):=by rw [i64_in (by omega)];omega
  have hr366:r < 366:=by split at hrd<;>omega
  have e5:IntKind.i64.wrap (((r:Nat):Int).tdiv 31)=((r / 31:Nat):Int):=by rw [show ((r:Nat):Int).tdiv 31=((r / 31:Nat):Int) from vJ _ 31,i64_in (by omega)]
  have e6:IntKind.i64.wrap (1+((r / 31:Nat):Int))=((1+r / 31:Nat):Int):=by rw [i64_in (by omega)];omega
  have e7:IntKind.i64.wrap (((1+r / 31:Nat):Int)+1)=((1+r / 31+1:Nat):Int):=by rw [i64_in (by omega)];omega
  refine .inl ⟨_,wU hy1 (by omega),by decide,?_⟩
  rw [e4,e5]
  have ha0:1+r / 31<=12:=by omega
  have fin:∀ (q:Nat),(gY (bo y) r).1=q->1<=q->q<=12->ay Tryz.prog 294 [SV.c (.int .i64 (y:Nat)),SV.c (.int .i64 (q:Nat))] (.int .i64 (ahN (bo y) q:Nat))/\IntKind.i64.wrap (IntKind.i64.wrap (((r:Nat):Int) - ((ahN (bo y) q:Nat):Int))+1)=(((gY (bo y) r).2+1:Nat):Int):=by
   rintro q rfl h1 h2
   refine ⟨CW h1 h2,?_⟩
   rw [show IntKind.i64.wrap (((r:Nat):Int) - ((ahN (bo y) (gY (bo y) r).1:Nat):Int))=(((gY (bo y) r).2:Nat):Int) by rw [i64_in (by omega)];omega,i64_in (by omega)]
   omega
  refine ⟨fun c1=>?_,fun c1=>?_⟩
  ·rw [e6] at c1
   have c1:=af c1
   have ha:=CW (y:=y) (m:=1+r / 31+1) (by omega) (by omega)
   rw [<- e7,<- e6] at ha
   refine .inl ⟨_,ha,fun c2=>?_,fun c2=>?_⟩
   ·have c2:=af c2
    have c2:ahN (bo y) (1+r / 31+1)<=r:=by omega
    rw [if_pos ⟨by omega,c2⟩] at hq
    obtain ⟨f1,f2⟩:=fin _ hq.symm (by omega) (by omega)
    rw [<- e7,<- e6] at f1
    refine .inl ⟨_,f1,?_,trivial⟩
    rw [e6,e7,f2,<- hq];rfl
   ·have c2:=ag c2
    have c2:¬ ahN (bo y) (1+r / 31+1)<=r:=by omega
    rw [if_neg (fun h=>c2 h.2)] at hq
    obtain ⟨f1,f2⟩:=fin _ hq.symm (by omega) (by omega)
    rw [<- e6] at f1
    refine .inl ⟨_,f1,?_,trivial⟩
    rw [e6,f2,<- hq];rfl
  ·rw [e6] at c1
   have c1:=ag c1
   rw [if_neg (fun h=>c1 (by omega))] at hq
   obtain ⟨f1,f2⟩:=fin _ hq.symm (by omega) (by omega)
   rw [<- e6] at f1
   refine ⟨fun h=>absurd h (by decide),fun _=>.inl ⟨_,f1,?_,trivial⟩⟩
   rw [e6,f2,<- hq];rfl
def cy:Nat->Nat->List UInt8->List UInt8
 | 0,_,l=>l
 | a+1,N,l=>if N=0 then l else cy a (N / 10) (l.set a (UInt8.ofNat (48+N % 10)))
def uc:List UInt8:=[48,48,48,48,45,48,48,45,48,48]
def oB (y m d:Nat):Nat->List UInt8
 | 0=>uc
 | 1=>cy 4 y uc
 | 2=>cy 7 m (cy 4 y uc)
 | _=>cy 10 d (cy 7 m (cy 4 y uc))
theorem uX:∀ (a N:Nat) (l:List UInt8),(cy a N l).length=l.length
 | 0,_,_=>rfl
 | a+1,N,l=>by
  unfold cy
  split
  ·rfl
  ·rw [uX a,List.length_set]
theorem yS (y m d i:Nat):(oB y m d i).length=10:=by
 unfold oB
 split
 ·rfl
 all_goals simp only [uX]
 all_goals rfl
theorem uS {y:Nat} (h1:1000<=y) (h2:y<=9999) (a b c d:UInt8) (r:List UInt8):cy 4 y (a :: b :: c :: d :: r)=UInt8.ofNat (48+y / 100 / 10) :: UInt8.ofNat (48+y / 100 % 10) :: UInt8.ofNat (48+y % 100 / 10) :: UInt8.ofNat (48+y % 100 % 10) :: r:=by
 rw [cy,if_neg (by omega),cy,if_neg (by omega),cy,if_neg (by omega),cy,if_neg (by omega),cy]
 simp only [List.set_cons_succ,List.set_cons_zero]
 rw [show y / 10 / 10 / 10 % 10=y / 100 / 10 by omega,show y / 10 / 10 % 10=y / 100 % 10 by omega,show y / 10 % 10=y % 100 / 10 by omega,show y % 10=y % 100 % 10 by omega]
theorem tm {m k:Nat} (h1:1<=m) (h2:m<=99) (l:List UInt8):cy (k+3) m (l.set (k+1) 48)=(l.set (k+1) (UInt8.ofNat (48+m / 10))).set (k+2) (UInt8.ofNat (48+m % 10)):=by
 rw [cy,if_neg (by omega),cy]
 split
 ·rename_i h
  rw [h]
  rfl
 ·rw [cy]
  split
  ·rw [show m / 10 % 10=m / 10 by omega]
   rw [List.set_comm _ _ (show k+2≠k+1 by omega),List.set_set]
  ·rename_i h;exfalso;omega
theorem Ev {y m d:Nat} (h1:2000<=y) (h2:y<=2199) (h3:1<=m) (h4:m<=12) (h5:1<=d) (h6:d<=31):oB y m d 3=twN (y / 100)++(twN (y % 100)++(45 :: (twN m++(45 :: twN d)))):=by
 show cy 10 d (cy 7 m (cy 4 y uc))=_
 unfold uc
 rw [uS (by omega) (by omega)]
 rw [show ∀ a b c e:UInt8,[a,b,c,e,45,48,48,45,48,48]=[a,b,c,e,45,48,48,45,48,48].set (4+1) 48 from fun _ _ _ _=>rfl]
 rw [show (7:Nat)=4+3 from rfl,tm h3 (by omega)]
 simp only [List.set_cons_succ,List.set_cons_zero,Nat.reduceAdd]
 rw [show ∀ a b c e f g:UInt8,[a,b,c,e,45,f,g,45,48,48]=[a,b,c,e,45,f,g,45,48,48].set (7+1) 48 from fun _ _ _ _ _ _=>rfl]
 rw [show (10:Nat)=7+3 from rfl,tm h5 (by omega)]
 simp only [List.set_cons_succ,List.set_cons_zero,Nat.reduceAdd]
 rfl
end Go.Proofs.YtklehfchdoikeaaGreatDoor
