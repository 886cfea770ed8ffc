/- the frame of a law. walks: numbers off a tape. walks: days a; no condition. -/
import Derived.Test.YtklehfchdoikeaaGreatDoorRows
import Derived.Test.YtklehfchdoikeaaGreatDoorValuationExactQ19
set_option maxRecDepth 100000
set_option maxHeartbeats 4000000
namespace Go.Proofs.YtklehfchdoikeaaGreatDoor
open Go Go.RowKit Go.SX
theorem DV:ownKnob Tryz.prog.godebug=none:=by kernel_rfl
theorem EA:laidOutB Tryz.prog=true:=by kernel_rfl
open ChangeShapes WideShapes
theorem kT {H:Type} {enc:TypeId×Value->H} {P:Program} (hl:laidOutB P=true) {W W':World} (hb:Below W.heap.size W W') :
    ∀ (ts:List TypeId) (vs:List Value) (ds:List (DataW H)) (ps:List MemPlace),(∀ t∈ts,P.readableRec t=true/\t < P.types.size)->(∀ x∈ps,x.block < W.heap.size) ->
     DataW.TrodAll enc P W 0 (fun _=>true) true ts vs ds ps->DataW.TrodAll enc P W' 0 (fun b=>decide (b < W.heap.size)) true ts vs ds ps
 | [],vs,ds,ps,_,_,h=>by
  obtain ⟨rfl,rfl,rfl⟩:=trodAll_nil h
  exact trodAll_mk0
 | t :: ts,vs,ds,ps,hr,hlt,h=>by
  obtain ⟨v,vs',d,ds',p,q,rfl,rfl,rfl,h1,h2⟩:=trodAll_cons h
  exact trodAll_cons_mk (Below.trod hl (hr t (by simp)).1 (hr t (by simp)).2 h1 hb (fun x hx=>hlt x (by simp [hx])))
   (kT hl hb ts vs' ds' q (fun t ht=>hr t (by simp [ht])) (fun x hx=>hlt x (by simp [hx])) h2)

theorem Ez {H:Type} {enc:TypeId×Value->H} {P:Program} {f:Func} {s:ChangeSpec} {tb:TypeId} (hl:laidOutB P=true) (htb:P.underlying tb=some .bool) (hres:f.resultTypes=#[tb])
    (hr:∀ t∈f.params.toList,P.readableRec t=true/\t < P.types.size) {W W':World} {args:Array Value} {ds gs:List (DataW H)} {before:List MemPlace} (hvars:s.vars=[])
    (hW:DataW.Whole enc P f.params.toList s.vars false W args.toList ds gs before) (hfn:s.fn H (ds++gs)={ results:=[.lit (.bool true)],args:=ds }) (hb:Below W.heap.size W W') :
    s.post enc P f false true false false W args (.bool true) W':=by
 have hlt:∀ x∈before,x.block < W.heap.size:=fun x hx=>hW.lt x hx
 have hW0:=hW
 obtain ⟨p,q,hA,hV,rfl,hfz,hnd⟩:=hW
 rw [hvars] at hV
 obtain ⟨rfl,rfl⟩:=trodVars_none hV
 refine ⟨ds,[],p++[],[],p,[],hW0,?_,?_,?_,hb.frame _,fun h=>by cases h⟩
 ·rw [hfn,hres];exact trodAll_mk1 (shut_bool htb true)
 ·rw [hfn];exact kT hl hb _ _ _ _ hr (fun x hx=>hlt x (by simp [hx])) hA
 ·rw [hfn,hvars];exact hV

def qB:List (String×DataW Unit):=[("unicode/utf8.acceptRanges",Rows.laid_unicode_utf8_acceptRanges),("unicode/utf8.first",Rows.laid_unicode_utf8_first)]
theorem Dt (os:Os) (args:Array Value):((World.laidAll Tryz.prog os qB).forCall (fun _ _=>0) ⟨#[],args,[]⟩).Shaped Tryz.prog:=World.shaped_of_ZipB (by kernel_rfl) (by kernel_rfl)
theorem Mm (os:Os) (args:Array Value):laidMetH Tryz.prog qB ((World.laidAll Tryz.prog os qB).forCall (fun _ _=>0) ⟨#[],args,[]⟩).memory:=by
 rw [MakeChecks.laidMetH_plain _ _ _ (by kernel_rfl)]
 exact laidMet_laidAll _ (by kernel_rfl) (by kernel_rfl)
end Go.Proofs.YtklehfchdoikeaaGreatDoor
namespace Go.Proofs.YtklehfchdoikeaaGreatDoor
open Go Go.RowKit Go.SX
def Tp (E:Env) (v:Value) (zs:List Int):Prop:=∃ (a:Option Addr) (cap:Nat),v=.slice a zs.length cap/\∀ i:Nat,i < zs.length->∃ b:Addr,bB E (Instr.indexAt 50 v (.int .i64 (i:Nat))) (.pointer (some b))/\bB E (Instr.loadAt 3 (.pointer (some b))) (.int .i64 (zs.getD i 0))
theorem u9 {E E0:Env} (hP:E.P=E0.P) (h:∀ w,OldW E w->OldW E0 w) {s:Sem Value} {r:Value} (hr:bB E0 s r):bB E s r:=fun w hw=>by rw [hP];exact hr w (h w hw)
theorem Tp.of_old {E E0:Env} (hP:E.P=E0.P) (h:∀ w,OldW E w->OldW E0 w) {v:Value} {zs:List Int} (ht:Tp E0 v zs):Tp E v zs:=by
 obtain ⟨a,cap,rfl,hi⟩:=ht
 refine ⟨a,cap,rfl,fun i h1=>?_⟩
 obtain ⟨b,h2,h3⟩:=hi i h1
 exact ⟨b,u9 hP h h2,u9 hP h h3⟩
def tb (v:Value) (k:Nat):Array Value:=#[v,.int .i64 (k:Nat)]
def RI (P:Int->Prop) (r:Value):Prop:=∃ i,r=.int .i64 i/\P i
theorem al {P:Program} {t e ty:TypeId} (hu:P.underlying t=some (.slice e)) {cs:Array Bool} {a:Option Addr} {len cap:Nat} (w:World):(builtin .len #[t] ty cs #[.slice a len cap]).run P w=.ok (.value (.int .i64 (len:Nat))) w:=by
 simp [builtin,Builtin.len_,Sem.run_bind,run_underlying hu,goInt]
def gJ (xs:List Int):Array Value:=(xs.map (Value.int .i64)).toArray
def RS (P:List UInt8->Prop) (r:Value):Prop:=∃ l,r=.string (S l)/\P l
def RA (P:RQ->Prop) (r:Value):Prop:=∃ x:RQ,r=.agg x.A/\P x
def isPrice (r:RQ):Prop:=∃ n d:Int,r=(mkQ n d).1/\1<=n/\n<=200000/\d∈[1,2,4,10,100,1000,1000000]
theorem isPrice.in_ {r:RQ} (h:isPrice r):r.In:=by obtain ⟨n,d,rfl,-⟩:=h;exact fx _ _
theorem jt (a b:Nat):((a:Nat):Int).tmod (b:Nat)=((a % b:Nat):Int):=rfl
theorem nM (a b:Nat):((a:Nat):Int).tdiv (b:Nat)=((a / b:Nat):Int):=rfl
theorem nn (a:Nat):(((a:Nat):Int) == 0)=(a == 0):=by
 rw [Bool.eq_iff_iff];simp
theorem zP (a:Nat):(((a:Nat):Int) != 0)=(a != 0):=by
 rw [bne,bne,nn]
theorem Kh (y:Nat):aw Tryz.prog 320 [SV.c (.int .i64 (y:Nat))] (.bool (aQ y)):=by
 refine aj ai ak MV _ _ rfl rfl fun w=>?_
 have e4:((y:Nat):Int).tmod 4=((y % 4:Nat):Int):=jt y 4
 have e100:((y:Nat):Int).tmod 100=((y % 100:Nat):Int):=jt y 100
 have e400:((y:Nat):Int).tmod 400=((y % 400:Nat):Int):=jt y 400
 refine ⟨by decide,fun h=>⟨by decide,fun h2=>⟨by decide,bv ?_,trivial⟩,fun h2=>⟨bv ?_,trivial⟩⟩,fun h=>⟨bv ?_,trivial⟩⟩
 ·rw [e4,nn] at h;rw [e100,zP] at h2
  have h2:(y % 100 != 0)=false:=h2
  rw [e400,nn]
  unfold aQ;rw [h,h2];rfl
 ·rw [e4,nn] at h;rw [e100,zP] at h2
  have h2:(y % 100 != 0)=true:=h2
  unfold aQ;rw [h,h2];rfl
 ·rw [e4,nn] at h
  have h:(y % 4 == 0)=false:=h
  unfold aQ;rw [h];rfl
theorem uG {y:Nat} (h1:2000<=y) (h2:y<=2200):aw Tryz.prog 293 [SV.c (.int .i64 (y:Nat))] (.int .i64 (ysN y:Nat)):=by
 refine aj ai ak M8 _ _ rfl rfl fun w=>?_
 obtain ⟨k,rfl⟩:∃ k,y=2000+k:=⟨y - 2000,by omega⟩
 have e1:IntKind.i64.wrap (((2000+k:Nat):Int) - 2000)=((k:Nat):Int):=by rw [i64_in (by omega)];omega
 have e2:IntKind.i64.wrap (365*((k:Nat):Int))=((365*k:Nat):Int):=by rw [i64_in (by omega)];omega
 have e3:IntKind.i64.wrap (((k:Nat):Int)+3)=((k+3:Nat):Int):=by rw [i64_in (by omega)];omega
 have e4:IntKind.i64.wrap (((k+3:Nat):Int).tdiv 4)=(((k+3) / 4:Nat):Int):=by rw [show ((k+3:Nat):Int).tdiv 4=(((k+3) / 4:Nat):Int) from nM _ 4,i64_in (by omega)]
 have e5:IntKind.i64.wrap (((365*k:Nat):Int)+(((k+3) / 4:Nat):Int))=((365*k+(k+3) / 4:Nat):Int):=by rw [i64_in (by omega)];omega
 have e6:ysN (2000+k)=365*k+(k+3) / 4 - (if 2100 < 2000+k then 1 else 0):=by unfold ysN;rw [show 2000+k - 2000=k by omega]
 refine ⟨by decide,fun h=>⟨?_,trivial⟩,fun h=>⟨?_,trivial⟩⟩
 ·have h:=af h
  rw [e1,e2,e3,e4,e5,e6,if_pos (by omega),i64_in (by omega)]
  show Value.int _ _=_
  congr 1;omega
 ·have h:=ag h
  rw [e1,e2,e3,e4,e5,e6,if_neg (by omega),Nat.sub_zero]
  rfl
theorem GJ (n:Int):aw Tryz.prog 292 [SV.c (.int .i64 n)] (.bool (decide (0<=n) && decide (n<=73048))):=by
 refine aj ai ak M9 _ _ rfl rfl fun w=>?_
 refine ⟨fun h=>⟨bv ?_,trivial⟩,fun h=>⟨bv ?_,trivial⟩⟩
 ·have h:decide (0<=n)=true:=h
  rw [h];rfl
 ·have h:decide (0<=n)=false:=h
  rw [h];rfl
theorem AN {y m:Nat} (h1:1<=m) (h2:m<=12):aw Tryz.prog 294 [SV.c (.int .i64 (y:Nat)),SV.c (.int .i64 (m:Nat))] (.int .i64 (ahN (aQ y) m:Nat)):=by
 have hl:=Kh y
 obtain rfl | rfl | rfl | rfl | rfl | rfl | rfl | rfl | rfl | rfl | rfl | rfl:m=1\/m=2\/m=3\/m=4\/m=5\/m=6\/m=7\/m=8\/m=9\/m=10\/m=11\/m=12:=by omega
 ·refine aj ai ak jV _ _ rfl rfl fun w=>?_
  refine ⟨fun h=>absurd h (by decide),fun _=>⟨fun h=>absurd h (by decide),fun _=>⟨fun h=>absurd h (by decide),fun _=>⟨fun h=>absurd h (by decide),fun _=>⟨fun h=>absurd h (by decide),fun _=>⟨fun h=>absurd h (by decide),fun _=>⟨fun h=>absurd h (by decide),fun _=>⟨fun h=>absurd h (by decide),fun _=>⟨fun h=>absurd h (by decide),fun _=>⟨fun h=>absurd h (by decide),fun _=>⟨fun h=>absurd h (by decide),fun _=>⟨?_,trivial⟩⟩⟩⟩⟩⟩⟩⟩⟩⟩⟩⟩
  rfl
 ·refine aj ai ak jV _ _ rfl rfl fun w=>?_
  refine ⟨fun h=>absurd h (by decide),fun _=>⟨fun h=>absurd h (by decide),fun _=>⟨fun h=>absurd h (by decide),fun _=>⟨fun h=>absurd h (by decide),fun _=>⟨fun h=>absurd h (by decide),fun _=>⟨fun h=>absurd h (by decide),fun _=>⟨fun h=>absurd h (by decide),fun _=>⟨fun h=>absurd h (by decide),fun _=>⟨fun h=>absurd h (by decide),fun _=>⟨fun h=>absurd h (by decide),fun _=>⟨fun _=>⟨?_,trivial⟩,fun h=>absurd h (by decide)⟩⟩⟩⟩⟩⟩⟩⟩⟩⟩⟩
  rfl
 ·refine aj ai ak jV _ _ rfl rfl fun w=>?_
  refine ⟨fun h=>absurd h (by decide),fun _=>⟨fun h=>absurd h (by decide),fun _=>⟨fun h=>absurd h (by decide),fun _=>⟨fun h=>absurd h (by decide),fun _=>⟨fun h=>absurd h (by decide),fun _=>⟨fun h=>absurd h (by decide),fun _=>⟨fun h=>absurd h (by decide),fun _=>⟨fun h=>absurd h (by decide),fun _=>⟨fun h=>absurd h (by decide),fun _=>⟨fun _=>.inl ⟨_,hl,fun h=>⟨?_,trivial⟩,fun h=>⟨?_,trivial⟩⟩,fun h=>absurd h (by decide)⟩⟩⟩⟩⟩⟩⟩⟩⟩⟩
  ·rw [show aQ y=true from h];rfl
  ·rw [show aQ y=false from h];rfl
 ·refine aj ai ak jV _ _ rfl rfl fun w=>?_
  refine ⟨fun h=>absurd h (by decide),fun _=>⟨fun h=>absurd h (by decide),fun _=>⟨fun h=>absurd h (by decide),fun _=>⟨fun h=>absurd h (by decide),fun _=>⟨fun h=>absurd h (by decide),fun _=>⟨fun h=>absurd h (by decide),fun _=>⟨fun h=>absurd h (by decide),fun _=>⟨fun h=>absurd h (by decide),fun _=>⟨fun _=>.inl ⟨_,hl,fun h=>⟨?_,trivial⟩,fun h=>⟨?_,trivial⟩⟩,fun h=>absurd h (by decide)⟩⟩⟩⟩⟩⟩⟩⟩⟩
  ·rw [show aQ y=true from h];rfl
  ·rw [show aQ y=false from h];rfl
 ·refine aj ai ak jV _ _ rfl rfl fun w=>?_
  refine ⟨fun h=>absurd h (by decide),fun _=>⟨fun h=>absurd h (by decide),fun _=>⟨fun h=>absurd h (by decide),fun _=>⟨fun h=>absurd h (by decide),fun _=>⟨fun h=>absurd h (by decide),fun _=>⟨fun h=>absurd h (by decide),fun _=>⟨fun h=>absurd h (by decide),fun _=>⟨fun _=>.inl ⟨_,hl,fun h=>⟨?_,trivial⟩,fun h=>⟨?_,trivial⟩⟩,fun h=>absurd h (by decide)⟩⟩⟩⟩⟩⟩⟩⟩
  ·rw [show aQ y=true from h];rfl
  ·rw [show aQ y=false from h];rfl
 ·refine aj ai ak jV _ _ rfl rfl fun w=>?_
  refine ⟨fun h=>absurd h (by decide),fun _=>⟨fun h=>absurd h (by decide),fun _=>⟨fun h=>absurd h (by decide),fun _=>⟨fun h=>absurd h (by decide),fun _=>⟨fun h=>absurd h (by decide),fun _=>⟨fun h=>absurd h (by decide),fun _=>⟨fun _=>.inl ⟨_,hl,fun h=>⟨?_,trivial⟩,fun h=>⟨?_,trivial⟩⟩,fun h=>absurd h (by decide)⟩⟩⟩⟩⟩⟩⟩
  ·rw [show aQ y=true from h];rfl
  ·rw [show aQ y=false from h];rfl
 ·refine aj ai ak jV _ _ rfl rfl fun w=>?_
  refine ⟨fun h=>absurd h (by decide),fun _=>⟨fun h=>absurd h (by decide),fun _=>⟨fun h=>absurd h (by decide),fun _=>⟨fun h=>absurd h (by decide),fun _=>⟨fun h=>absurd h (by decide),fun _=>⟨fun _=>.inl ⟨_,hl,fun h=>⟨?_,trivial⟩,fun h=>⟨?_,trivial⟩⟩,fun h=>absurd h (by decide)⟩⟩⟩⟩⟩⟩
  ·rw [show aQ y=true from h];rfl
  ·rw [show aQ y=false from h];rfl
 ·refine aj ai ak jV _ _ rfl rfl fun w=>?_
  refine ⟨fun h=>absurd h (by decide),fun _=>⟨fun h=>absurd h (by decide),fun _=>⟨fun h=>absurd h (by decide),fun _=>⟨fun h=>absurd h (by decide),fun _=>⟨fun _=>.inl ⟨_,hl,fun h=>⟨?_,trivial⟩,fun h=>⟨?_,trivial⟩⟩,fun h=>absurd h (by decide)⟩⟩⟩⟩⟩
  ·rw [show aQ y=true from h];rfl
  ·rw [show aQ y=false from h];rfl
 ·refine aj ai ak jV _ _ rfl rfl fun w=>?_
  refine ⟨fun h=>absurd h (by decide),fun _=>⟨fun h=>absurd h (by decide),fun _=>⟨fun h=>absurd h (by decide),fun _=>⟨fun _=>.inl ⟨_,hl,fun h=>⟨?_,trivial⟩,fun h=>⟨?_,trivial⟩⟩,fun h=>absurd h (by decide)⟩⟩⟩⟩
  ·rw [show aQ y=true from h];rfl
  ·rw [show aQ y=false from h];rfl
 ·refine aj ai ak jV _ _ rfl rfl fun w=>?_
  refine ⟨fun h=>absurd h (by decide),fun _=>⟨fun h=>absurd h (by decide),fun _=>⟨fun _=>.inl ⟨_,hl,fun h=>⟨?_,trivial⟩,fun h=>⟨?_,trivial⟩⟩,fun h=>absurd h (by decide)⟩⟩⟩
  ·rw [show aQ y=true from h];rfl
  ·rw [show aQ y=false from h];rfl
 ·refine aj ai ak jV _ _ rfl rfl fun w=>?_
  refine ⟨fun h=>absurd h (by decide),fun _=>⟨fun _=>.inl ⟨_,hl,fun h=>⟨?_,trivial⟩,fun h=>⟨?_,trivial⟩⟩,fun h=>absurd h (by decide)⟩⟩
  ·rw [show aQ y=true from h];rfl
  ·rw [show aQ y=false from h];rfl
 ·refine aj ai ak jV _ _ rfl rfl fun w=>?_
  refine ⟨fun _=>.inl ⟨_,hl,fun h=>⟨?_,trivial⟩,fun h=>⟨?_,trivial⟩⟩,fun h=>absurd h (by decide)⟩
  ·rw [show aQ y=true from h];rfl
  ·rw [show aQ y=false from h];rfl
def rN (n:Int):Value:=if 0<=n/\n<=73048 then .tuple #[.int .i64 ((eH n.toNat).1:Nat),.int .i64 ((eH n.toNat).2.1:Nat),.int .i64 ((eH n.toNat).2.2:Nat),.int .i64 0] else .tuple #[.int .i64 0,.int .i64 0,.int .i64 0,.int .i64 50]
theorem My (n:Int):aw Tryz.prog 274 [SV.c (.int .i64 n)] (rN n):=by
 refine aj ai ak Nk _ _ rfl rfl fun w=>?_
 refine .inl ⟨_,GJ n,fun h=>?_,fun h=>?_⟩
 ·have h:(decide (0<=n) && decide (n<=73048))=false:=bnt h
  have h:¬ (0<=n/\n<=73048):=by simpa using h
  exact ⟨by rw [rN,if_neg h];rfl,trivial⟩
 have h:(decide (0<=n) && decide (n<=73048))=true:=bq h
 have h:0<=n/\n<=73048:=by simpa using h
 rw [rN,if_pos h]
 obtain ⟨k,rfl⟩:∃ k:Nat,n=k:=⟨n.toNat,by omega⟩
 rw [Int.toNat_natCast]
 have hk:k<=73048:=by omega
 have e1:IntKind.i64.wrap (((k:Nat):Int).tdiv 366)=((k / 366:Nat):Int):=by rw [show ((k:Nat):Int).tdiv 366=((k / 366:Nat):Int) from nM _ 366,i64_in (by omega)]
 have e2:IntKind.i64.wrap (2000+((k / 366:Nat):Int))=((2000+k / 366:Nat):Int):=by rw [i64_in (by omega)];omega
 have hy0:=CJ (k / 366) 2000 (by omega) (by omega)
 have hys:ysN (2000+k / 366)<=k:=by
  have:ysN (2000+k / 366)<=366*(k / 366):=by
   unfold ysN
   split<;>omega
  omega
 refine ⟨by decide,fun q f m=>∃ y:Nat,q=2200 - y/\2000<=y/\y<=2199/\ysN y<=k/\f=[(0,SV.c (.int .i64 (k:Nat))),(2,SV.c (.int .i64 (y:Nat)))]/\m=[],2200 - (2000+k / 366),⟨_,_,⟨2000+k / 366,rfl,by omega,by omega,hys,rfl,rfl⟩,⟨rfl,am (by rw [e1,e2]),trivial⟩,trivial,rfl⟩,?_⟩
 rintro q f m ⟨y,rfl,hy1,hy2,hyk,rfl,rfl⟩
 have e3:IntKind.i64.wrap (((y:Nat):Int)+1)=((y+1:Nat):Int):=by rw [i64_in (by omega)];omega
 have hn:=kx hy1 hy2
 have hs1:=uG (y:=y+1) (by omega) (by omega)
 rw [<- e3] at hs1
 refine .inl ⟨_,hs1,fun h=>?_,fun h=>?_⟩
 ·have h:=af h
  have h9:ysN (y+1)<=k:=by omega
  have hlt:y < 2199:=by
   rcases Nat.lt_or_ge y 2199 with h8 | h8
   ·exact h8
   ·exfalso
    have:y=2199:=by omega
    subst this
    have:ysN (2199+1)=73049:=by decide
    omega
  exact ⟨2200 - (y+1),_,_,by omega,⟨y+1,rfl,by omega,by omega,h9,rfl,rfl⟩,⟨rfl,am e3,trivial⟩,trivial,rfl⟩
 ·have h:=ag h
  obtain ⟨r,hr⟩:∃ r,ysN y+r=k:=⟨k - ysN y,by omega⟩
  have hyr:=pJ hy1 hy2 (r:=r) (by omega) hr
  have hc:eH k=(y,(fQ (aQ y) r).1,(fQ (aQ y) r).2+1):=by unfold eH;rw [hyr]
  have hrd:r < (if aQ y then 366 else 365):=by
   have:ff y=if aQ y then 366 else 365:=rfl
   omega
  have hq:=BE hrd
  obtain ⟨m1,m2,m3,m4⟩:=zR hrd
  rw [hc]
  have e4:IntKind.i64.wrap (((k:Nat):Int) - ((ysN y:Nat):Int))=((r:Nat):Int):=by rw [i64_in (by omega)];omega
  have hr366:r < 366:=by split at hrd<;>omega
  have e5:IntKind.i64.wrap (((r:Nat):Int).tdiv 31)=((r / 31:Nat):Int):=by rw [show ((r:Nat):Int).tdiv 31=((r / 31:Nat):Int) from nM _ 31,i64_in (by omega)]
  have e6:IntKind.i64.wrap (1+((r / 31:Nat):Int))=((1+r / 31:Nat):Int):=by rw [i64_in (by omega)];omega
  have e7:IntKind.i64.wrap (((1+r / 31:Nat):Int)+1)=((1+r / 31+1:Nat):Int):=by rw [i64_in (by omega)];omega
  refine .inl ⟨_,uG hy1 (by omega),by decide,?_⟩
  rw [e4,e5]
  have ha0:1+r / 31<=12:=by omega
  have fin:∀ (q:Nat),(fQ (aQ y) r).1=q->1<=q->q<=12->aw Tryz.prog 294 [SV.c (.int .i64 (y:Nat)),SV.c (.int .i64 (q:Nat))] (.int .i64 (ahN (aQ y) q:Nat))/\IntKind.i64.wrap (IntKind.i64.wrap (((r:Nat):Int) - ((ahN (aQ y) q:Nat):Int))+1)=(((fQ (aQ y) r).2+1:Nat):Int):=by
   rintro q rfl h1 h2
   refine ⟨AN h1 h2,?_⟩
   rw [show IntKind.i64.wrap (((r:Nat):Int) - ((ahN (aQ y) (fQ (aQ y) r).1:Nat):Int))=(((fQ (aQ y) r).2:Nat):Int) by rw [i64_in (by omega)];omega,i64_in (by omega)]
   omega
  refine ⟨fun c1=>?_,fun c1=>?_⟩
  ·rw [e6] at c1
   have c1:=af c1
   have ha:=AN (y:=y) (m:=1+r / 31+1) (by omega) (by omega)
   rw [<- e7,<- e6] at ha
   refine .inl ⟨_,ha,fun c2=>?_,fun c2=>?_⟩
   ·have c2:=af c2
    have c2:ahN (aQ y) (1+r / 31+1)<=r:=by omega
    rw [if_pos ⟨by omega,c2⟩] at hq
    obtain ⟨f1,f2⟩:=fin _ hq.symm (by omega) (by omega)
    rw [<- e7,<- e6] at f1
    refine .inl ⟨_,f1,?_,trivial⟩
    rw [e6,e7,f2,<- hq];rfl
   ·have c2:=ag c2
    have c2:¬ ahN (aQ y) (1+r / 31+1)<=r:=by omega
    rw [if_neg (fun h=>c2 h.2)] at hq
    obtain ⟨f1,f2⟩:=fin _ hq.symm (by omega) (by omega)
    rw [<- e6] at f1
    refine .inl ⟨_,f1,?_,trivial⟩
    rw [e6,f2,<- hq];rfl
  ·rw [e6] at c1
   have c1:=ag c1
   rw [if_neg (fun h=>c1 (by omega))] at hq
   obtain ⟨f1,f2⟩:=fin _ hq.symm (by omega) (by omega)
   rw [<- e6] at f1
   refine ⟨fun h=>absurd h (by decide),fun _=>.inl ⟨_,f1,?_,trivial⟩⟩
   rw [e6,f2,<- hq];rfl
def cJ:Nat->Nat->List UInt8->List UInt8
 | 0,_,l=>l
 | a+1,N,l=>if N=0 then l else cJ a (N / 10) (l.set a (UInt8.ofNat (48+N % 10)))
def rM:List UInt8:=[48,48,48,48,45,48,48,45,48,48]
def mb (y m d:Nat):Nat->List UInt8
 | 0=>rM
 | 1=>cJ 4 y rM
 | 2=>cJ 7 m (cJ 4 y rM)
 | _=>cJ 10 d (cJ 7 m (cJ 4 y rM))
theorem sL:∀ (a N:Nat) (l:List UInt8),(cJ a N l).length=l.length
 | 0,_,_=>rfl
 | a+1,N,l=>by
  unfold cJ
  split
  ·rfl
  ·rw [sL a,List.length_set]
theorem wL (y m d i:Nat):(mb y m d i).length=10:=by
 unfold mb
 split
 ·rfl
 all_goals simp only [sL]
 all_goals rfl
theorem sG {y:Nat} (h1:1000<=y) (h2:y<=9999) (a b c d:UInt8) (r:List UInt8):cJ 4 y (a :: b :: c :: d :: r)=UInt8.ofNat (48+y / 100 / 10) :: UInt8.ofNat (48+y / 100 % 10) :: UInt8.ofNat (48+y % 100 / 10) :: UInt8.ofNat (48+y % 100 % 10) :: r:=by
 rw [cJ,if_neg (by omega),cJ,if_neg (by omega),cJ,if_neg (by omega),cJ,if_neg (by omega),cJ]
 simp only [List.set_cons_succ,List.set_cons_zero]
 rw [show y / 10 / 10 / 10 % 10=y / 100 / 10 by omega,show y / 10 / 10 % 10=y / 100 % 10 by omega,show y / 10 % 10=y % 100 / 10 by omega,show y % 10=y % 100 % 10 by omega]
theorem qS {m k:Nat} (h1:1<=m) (h2:m<=99) (l:List UInt8):cJ (k+3) m (l.set (k+1) 48)=(l.set (k+1) (UInt8.ofNat (48+m / 10))).set (k+2) (UInt8.ofNat (48+m % 10)):=by
 rw [cJ,if_neg (by omega),cJ]
 split
 ·rename_i h
  rw [h]
  rfl
 ·rw [cJ]
  split
  ·rw [show m / 10 % 10=m / 10 by omega]
   rw [List.set_comm _ _ (show k+2≠k+1 by omega),List.set_set]
  ·rename_i h;exfalso;omega
theorem Ck {y m d:Nat} (h1:2000<=y) (h2:y<=2199) (h3:1<=m) (h4:m<=12) (h5:1<=d) (h6:d<=31):mb y m d 3=twN (y / 100)++(twN (y % 100)++(45 :: (twN m++(45 :: twN d)))):=by
 show cJ 10 d (cJ 7 m (cJ 4 y rM))=_
 unfold rM
 rw [sG (by omega) (by omega)]
 rw [show ∀ a b c e:UInt8,[a,b,c,e,45,48,48,45,48,48]=[a,b,c,e,45,48,48,45,48,48].set (4+1) 48 from fun _ _ _ _=>rfl]
 rw [show (7:Nat)=4+3 from rfl,qS h3 (by omega)]
 simp only [List.set_cons_succ,List.set_cons_zero,Nat.reduceAdd]
 rw [show ∀ a b c e f g:UInt8,[a,b,c,e,45,f,g,45,48,48]=[a,b,c,e,45,f,g,45,48,48].set (7+1) 48 from fun _ _ _ _ _ _=>rfl]
 rw [show (10:Nat)=7+3 from rfl,qS h5 (by omega)]
 simp only [List.set_cons_succ,List.set_cons_zero,Nat.reduceAdd]
 rfl
end Go.Proofs.YtklehfchdoikeaaGreatDoor
