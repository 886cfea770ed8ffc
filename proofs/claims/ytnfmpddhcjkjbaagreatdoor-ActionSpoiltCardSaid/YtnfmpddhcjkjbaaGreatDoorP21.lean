/- the frame of a law. walks: numbers off a tape; no condition. -/
import Derived.Test.YtnfmpddhcjkjbaaGreatDoorRows
import Derived.Test.YtnfmpddhcjkjbaaGreatDoorP20
set_option maxRecDepth 100000
set_option maxHeartbeats 4000000
namespace Go.Proofs.YtnfmpddhcjkjbaaGreatDoor
open Go Go.RowKit Go.SX
theorem own_knob:ownKnob Tryz.prog.godebug=none:=by kernel_rfl
theorem laid_out:laidOutB Tryz.prog=true:=by kernel_rfl
open ChangeShapes WideShapes
theorem trodAll_below {H:Type} {enc:TypeId×Value→H} {P:Program} (hl:laidOutB P=true) {W W':World} (hb:Below W.heap.size W W') :
    ∀ (ts:List TypeId) (vs:List Value) (ds:List (DataW H)) (ps:List MemPlace),(∀ t∈ts,P.readableRec t=true∧t < P.types.size)→(∀ x∈ps,x.block < W.heap.size) →
     DataW.TrodAll enc P W 0 (fun _=>true) true ts vs ds ps→DataW.TrodAll enc P W' 0 (fun b=>decide (b < W.heap.size)) true ts vs ds ps
 | [],vs,ds,ps,_,_,h=>by
  obtain ⟨rfl,rfl,rfl⟩:=trodAll_nil h
  exact trodAll_mk0
 | t :: ts,vs,ds,ps,hr,hlt,h=>by
  obtain ⟨v,vs',d,ds',p,q,rfl,rfl,rfl,h1,h2⟩:=trodAll_cons h
  exact trodAll_cons_mk (Below.trod hl (hr t (by simp)).1 (hr t (by simp)).2 h1 hb (fun x hx=>hlt x (by simp [hx])))
   (trodAll_below hl hb ts vs' ds' q (fun t ht=>hr t (by simp [ht])) (fun x hx=>hlt x (by simp [hx])) h2)

theorem law_post {H:Type} {enc:TypeId×Value→H} {P:Program} {f:Func} {s:ChangeSpec} {tb:TypeId} (hl:laidOutB P=true) (htb:P.underlying tb=some .bool) (hres:f.resultTypes=#[tb])
    (hr:∀ t∈f.params.toList,P.readableRec t=true∧t < P.types.size) {W W':World} {args:Array Value} {ds gs:List (DataW H)} {before:List MemPlace} (hvars:s.vars=[])
    (hW:DataW.Whole enc P f.params.toList s.vars false W args.toList ds gs before) (hfn:s.fn H (ds++gs)={ results:=[.lit (.bool true)],args:=ds }) (hb:Below W.heap.size W W') :
    s.post enc P f false true false false W args (.bool true) W':=by
 have hlt:∀ x∈before,x.block < W.heap.size:=fun x hx=>hW.lt x hx
 have hW0:=hW
 obtain ⟨p,q,hA,hV,rfl,hfz,hnd⟩:=hW
 rw [hvars] at hV
 obtain ⟨rfl,rfl⟩:=trodVars_none hV
 refine ⟨ds,[],p++[],[],p,[],hW0,?_,?_,?_,hb.frame _,fun h=>by cases h⟩
 ·rw [hfn,hres];exact trodAll_mk1 (shut_bool htb true)
 ·rw [hfn];exact trodAll_below hl hb _ _ _ _ hr (fun x hx=>hlt x (by simp [hx])) hA
 ·rw [hfn,hvars];exact hV

def laidT:List (String×DataW Unit):=[("unicode/utf8.acceptRanges",Rows.laid_unicode_utf8_acceptRanges),("unicode/utf8.first",Rows.laid_unicode_utf8_first)]
theorem shaped_t (os:Os) (args:Array Value):((World.laidAll Tryz.prog os laidT).forCall (fun _ _=>0) ⟨#[],args,[]⟩).Shaped Tryz.prog:=World.shaped_of_ZipB (by kernel_rfl) (by kernel_rfl)
theorem met_t (os:Os) (args:Array Value):laidMetH Tryz.prog laidT ((World.laidAll Tryz.prog os laidT).forCall (fun _ _=>0) ⟨#[],args,[]⟩).memory:=by
 rw [MakeChecks.laidMetH_plain _ _ _ (by kernel_rfl)]
 exact laidMet_laidAll _ (by kernel_rfl) (by kernel_rfl)
end Go.Proofs.YtnfmpddhcjkjbaaGreatDoor
namespace Go.Proofs.YtnfmpddhcjkjbaaGreatDoor
open Go Go.RowKit Go.SX
def Tp (E:Env) (v:Value) (zs:List Int):Prop:=∃ (a:Option Addr) (cap:Nat),v=.slice a zs.length cap∧∀ i:Nat,i < zs.length→∃ b:Addr,Runs E (Instr.indexAt 39 v (.int .i64 (i:Nat))) (.pointer (some b))∧Runs E (Instr.loadAt 3 (.pointer (some b))) (.int .i64 (zs.getD i 0))
theorem runs_old {E E0:Env} (hP:E.P=E0.P) (h:∀ w,OldW E w→OldW E0 w) {s:Sem Value} {r:Value} (hr:Runs E0 s r):Runs E s r:=fun w hw=>by rw [hP];exact hr w (h w hw)
theorem Tp.of_old {E E0:Env} (hP:E.P=E0.P) (h:∀ w,OldW E w→OldW E0 w) {v:Value} {zs:List Int} (ht:Tp E0 v zs):Tp E v zs:=by
 obtain ⟨a,cap,rfl,hi⟩:=ht
 refine ⟨a,cap,rfl,fun i h1=>?_⟩
 obtain ⟨b,h2,h3⟩:=hi i h1
 exact ⟨b,runs_old hP h h2,runs_old hP h h3⟩
def tb (v:Value) (k:Nat):Array Value:=#[v,.int .i64 (k:Nat)]
def Gen (f:FuncId) (args:List SV) (c:Nat) (R:Value→Prop):Prop:=∀ (zs:List Int) (k:Nat),k+c≤4000000000000000000→∃ (r:Value) (k':Nat),k≤k'∧k'≤k+c∧R r∧∀ (E:Env) (v:Value) (d:Key),E.P=Tryz.prog→Tp E v zs→Own E f (SV.ptr d 0 :: args) [(d,Blk.row 42 2 (tb v k))] (SV.c r) [(d,Blk.row 42 2 (tb v k'))]
def RI (P:Int→Prop) (r:Value):Prop:=∃ i,r=.int .i64 i∧P i
def RB (r:Value):Prop:=∃ b,r=.bool b
def foldI (v n:Int):Int:=if n≤1 then 0 else if v.tmod n < 0 then v.tmod n+n else v.tmod n
theorem foldI_bd (v n:Int):0≤foldI v n∧(foldI v n < n∨foldI v n=0):=by
 unfold foldI
 split
 ·omega
 ·have h1:=Int.tmod_lt_of_pos v (show 0 < n by omega)
  have h3:=Int.lt_tmod_of_pos v (show 0 < n by omega)
  split<;>omega
theorem vi {k:IntKind} {a b:Int} (h:a=b):Value.int k a=Value.int k b:=by rw [h]
theorem fold_t {v n:Int} (hn:n≤9223372036854775807):Pure Tryz.prog 62 [SV.c (.int .i64 v),SV.c (.int .i64 n)] (.int .i64 (foldI v n)):=by
 refine sx_pure tt_ok mixed at62 _ _ rfl rfl fun w=>?_
 unfold foldI
 refine ⟨fun h=>?_,fun h=>?_⟩
 ·rw [if_pos (of_decide_eq_true h)]
  exact ⟨rfl,trivial⟩
 ·have h:=of_decide_eq_false h
  rw [if_neg h]
  have h1:=Int.tmod_lt_of_pos v (show 0 < n by omega)
  have h3:=Int.lt_tmod_of_pos v (show 0 < n by omega)
  have e:IntKind.i64.wrap (v.tmod n)=v.tmod n:=i64_in (by omega)
  refine ⟨by omega,fun h4=>?_,fun h4=>?_⟩
  ·rw [if_pos (of_decide_eq_true h4)]
   exact ⟨vi (i64_in (by have:=of_decide_eq_true h4;omega)),trivial⟩
  ·rw [if_neg (of_decide_eq_false h4)]
   exact ⟨rfl,trivial⟩
theorem run_len_sl {P:Program} {t e ty:TypeId} (hu:P.underlying t=some (.slice e)) {cs:Array Bool} {a:Option Addr} {len cap:Nat} (w:World):(builtin .len #[t] ty cs #[.slice a len cap]).run P w=.ok (.value (.int .i64 (len:Nat))) w:=by
 simp [builtin,Builtin.len_,Sem.run_bind,run_underlying hu,goInt]
theorem tb_set {v:Value} (k:Nat) (hk:k≤4000000000000000000):(tb v k).setIfInBounds (0+1) (.int .i64 (IntKind.i64.wrap ((k:Nat)+1)))=tb v (k+1):=by
 rw [i64_in (by omega)];rfl
theorem next_g {n:Int} (hn:n≤9223372036854775807):Gen 18 [SV.c (.int .i64 n)] 1 (RI fun i=>0≤i∧(i < n∨i=0)):=by
 intro zs k hk
 by_cases h:k < zs.length
 ·refine ⟨_,k+1,by omega,by omega,⟨foldI (zs.getD k 0) n,rfl,foldI_bd _ n⟩,fun E v d hE hv=>?_⟩
  obtain ⟨a,cap,rfl,hi⟩:=hv
  obtain ⟨b,h2,h4⟩:=hi k h
  refine sx_ownT1 [] tt_ok mixed at18 E hE d (42,2,tb (.slice a zs.length cap) k,tb (.slice a zs.length cap) (k+1)) [SV.ptr 1000 0,SV.c (.int .i64 n)] _ rfl rfl fun w b hT=>?_
  have hlen:∀ w',(builtin .len #[39] 3 #[false] #[.slice a zs.length cap]).run Tryz.prog w'=.ok (.value (.int .i64 (zs.length:Nat))) w':=fun w'=>run_len_sl Tryz.underlying39 w'
  refine ⟨_,rfl,by decide,_,rfl,_,rfl,_,fun w' _=>hlen w',by kernel_rfl,fun _=>?_,fun h=>absurd (of_decide_eq_false h) (by omega)⟩
  refine ⟨_,rfl,_,rfl,_,runs_old hE.symm hT h2,_,runs_old hE.symm hT h4,by kernel_rfl,_,rfl,Nat.lt_add_one 1,rfl,_,rfl,.inl ⟨_,fold_t hn,rfl,?_,trivial⟩⟩
  exact row_eq (tb_set k (by omega))
 ·refine ⟨_,k+1,by omega,by omega,⟨foldI (((IntKind.i64.wrap ((k:Nat)*7))).tmod 11) n,rfl,foldI_bd _ n⟩,fun E v d hE hv=>?_⟩
  obtain ⟨a,cap,rfl,hi⟩:=hv
  refine sx_ownT1 [] tt_ok mixed at18 E hE d (42,2,tb (.slice a zs.length cap) k,tb (.slice a zs.length cap) (k+1)) [SV.ptr 1000 0,SV.c (.int .i64 n)] _ rfl rfl fun w b hT=>?_
  have hlen:∀ w',(builtin .len #[39] 3 #[false] #[.slice a zs.length cap]).run Tryz.prog w'=.ok (.value (.int .i64 (zs.length:Nat))) w':=fun w'=>run_len_sl Tryz.underlying39 w'
  refine ⟨_,rfl,by decide,_,rfl,_,rfl,_,fun w' _=>hlen w',by kernel_rfl,fun h=>absurd (of_decide_eq_true h) (by omega),fun _=>?_⟩
  refine ⟨_,rfl,Nat.lt_add_one 1,rfl,_,rfl,.inl ⟨_,fold_t hn,?_,?_,trivial⟩⟩
  ·exact vi rfl
  ·exact row_eq (tb_set k (by omega))
theorem chance_g {a b:Int} (hb:b≤9223372036854775807):Gen 28 [SV.c (.int .i64 a),SV.c (.int .i64 b)] 1 RB:=by
 intro zs k hk
 obtain ⟨r,k',h1,h2,⟨i,rfl,h3⟩,hO⟩:=next_g hb zs k hk
 refine ⟨_,k',h1,h2,⟨decide (i < a),rfl⟩,fun E v d hE hv=>?_⟩
 refine sx_ownT1 [] tt_ok mixed at28 E hE d (42,2,tb v k,tb v k') [SV.ptr 1000 0,SV.c (.int .i64 a),SV.c (.int .i64 b)] _ rfl rfl fun w b hT=>?_
 exact .inr ⟨_,_,_,hO _ v 1000 rfl (hv.of_old hE.symm hT),⟨rfl,trivial⟩,rfl,rfl,rfl,trivial⟩
def GenL (f:FuncId) (ty:TypeId) (A:Array Value) (m len:Nat) (c:Nat) (R:Value→Prop):Prop:=∀ (zs:List Int) (k:Nat),k+c≤4000000000000000000→∃ (r:Value) (k':Nat),k≤k'∧k'≤k+c∧R r∧∀ (E:Env) (v:Value) (d e:Key),d≠e→E.P=Tryz.prog→Tp E v zs→Own E f [SV.ptr d 0,SV.sl e 0 len len] [(d,Blk.row 42 2 (tb v k)),(e,Blk.row ty m A)] (SV.c r) [(d,Blk.row 42 2 (tb v k')),(e,Blk.row ty m A)]
theorem range_g {lo hi:Int} (h1 : -1000000000000000000≤lo) (h2:lo≤hi) (h3:hi≤1000000000000000000):Gen 59 [SV.c (.int .i64 lo),SV.c (.int .i64 hi)] 1 (RI fun i=>lo≤i∧i≤hi):=by
 intro zs k hk
 have e1:IntKind.i64.wrap (IntKind.i64.wrap (hi - lo)+1)=hi - lo+1:=by rw [i64_in (show -9223372036854775808≤hi - lo∧hi - lo≤9223372036854775807 by omega),i64_in (by omega)]
 obtain ⟨r,k',h4,h5,⟨i,rfl,h6⟩,hO⟩:=next_g (n:=hi - lo+1) (by omega) zs k hk
 refine ⟨_,k',h4,h5,⟨lo+i,rfl,by omega⟩,fun E v d hE hv=>?_⟩
 refine sx_ownT1 [] tt_ok mixed at59 E hE d (42,2,tb v k,tb v k') [SV.ptr 1000 0,SV.c (.int .i64 lo),SV.c (.int .i64 hi)] _ rfl rfl fun w b hT=>?_
 have:=hO _ v 1000 rfl (hv.of_old hE.symm hT)
 rw [← e1] at this
 exact .inr ⟨_,_,_,this,⟨rfl,trivial⟩,rfl,vi (i64_in (by omega)),rfl,trivial⟩
def ints (xs:List Int):Array Value:=(xs.map (Value.int .i64)).toArray
theorem ints_get {xs:List Int} {i:Nat} (h:i < xs.length):(ints xs)[i]? = some (.int .i64 xs[i]):=by simp [ints,h]
theorem pick_g {xs:List Int} (h0:0 < xs.length) (hl:xs.length≤1000000):GenL 19 3 (ints xs) xs.length xs.length 1 (RI (·∈xs)):=by
 intro zs k hk
 obtain ⟨r,k',h4,h5,⟨i,rfl,h6,h7⟩,hO⟩:=next_g (n:=(xs.length:Nat)) (by omega) zs k hk
 have hi:i.toNat < xs.length:=by omega
 refine ⟨_,k',h4,h5,⟨xs[i.toNat],rfl,List.getElem_mem hi⟩,fun E v d e hde hE hv=>?_⟩
 refine sx_ownT2 [] tt_ok mixed at19 E hE d e hde (42,2,tb v k,tb v k') (3,xs.length,ints xs,ints xs) [SV.ptr 1000 0,SV.sl 1001 0 xs.length xs.length] _ rfl rfl fun w b b' hT=>?_
 have:=hO _ v 1000 rfl (hv.of_old hE.symm hT)
 refine ⟨fun h=>?_,fun h=>.inr ⟨_,_,_,this,⟨rfl,trivial⟩,rfl,h6,by omega,_,ints_get hi,rfl,rfl,rfl,trivial⟩⟩
 have h:((xs.length:Int) == 0)=true:=h
 have:=eq_of_beq h
 omega
def strs (xs:List (List UInt8)):Array Value:=(xs.map fun l=>Value.string (S l)).toArray
theorem strs_get {xs:List (List UInt8)} {i:Nat} (h:i < xs.length):(strs xs)[i]? = some (.string (S xs[i])):=by simp [strs,h]
def RS (P:List UInt8→Prop) (r:Value):Prop:=∃ l,r=.string (S l)∧P l
theorem one_g {xs:List (List UInt8)} (h0:0 < xs.length) (hl:xs.length≤1000000):GenL 45 9 (strs xs) xs.length xs.length 1 (RS (·∈xs)):=by
 intro zs k hk
 obtain ⟨r,k',h4,h5,⟨i,rfl,h6,h7⟩,hO⟩:=next_g (n:=(xs.length:Nat)) (by omega) zs k hk
 have hi:i.toNat < xs.length:=by omega
 refine ⟨_,k',h4,h5,⟨xs[i.toNat],rfl,List.getElem_mem hi⟩,fun E v d e hde hE hv=>?_⟩
 refine sx_ownT2 [] tt_ok mixed at45 E hE d e hde (42,2,tb v k,tb v k') (9,xs.length,strs xs,strs xs) [SV.ptr 1000 0,SV.sl 1001 0 xs.length xs.length] _ rfl rfl fun w b b' hT=>?_
 have:=hO _ v 1000 rfl (hv.of_old hE.symm hT)
 refine ⟨fun h=>?_,fun h=>.inr ⟨_,_,_,this,⟨rfl,trivial⟩,rfl,h6,by omega,_,strs_get hi,rfl,rfl,rfl,trivial⟩⟩
 have h:((xs.length:Int) == 0)=true:=h
 have:=eq_of_beq h
 omega
def RA (P:RQ→Prop) (r:Value):Prop:=∃ x:RQ,r=.agg x.A∧P x
def isPrice (r:RQ):Prop:=∃ n d:Int,r=(mkQ n d).1∧1≤n∧n≤200000∧d∈[1,2,4,10,100,1000,1000000]
theorem isPrice.in_ {r:RQ} (h:isPrice r):r.In:=by obtain ⟨n,d,rfl,-⟩:=h;exact mkQ_in _ _
theorem price_g:Gen 21 [] 3 (RA isPrice):=by
 intro zs k hk
 obtain ⟨r1,k1,a1,b1,⟨i1,rfl,c1⟩,O1⟩:=pick_g (xs:=[9,2000,200000]) (by decide) (by decide) zs k (by omega)
 have d1:9≤i1∧i1≤200000:=by simp at c1;omega
 obtain ⟨r2,k2,a2,b2,⟨i2,rfl,c2⟩,O2⟩:=next_g (n:=i1) (by omega) zs k1 (by omega)
 obtain ⟨r3,k3,a3,b3,⟨i3,rfl,c3⟩,O3⟩:=pick_g (xs:=[1,2,4,10,100,1000,1000000]) (by decide) (by decide) zs k2 (by omega)
 have d3:1≤i3∧i3≤1000000:=by simp at c3;omega
 have e2:IntKind.i64.wrap (1+i2)=1+i2:=i64_in (by omega)
 refine ⟨_,k3,by omega,by omega,⟨_,rfl,1+i2,i3,rfl,by omega,by omega,c3⟩,fun E v d hE hv=>?_⟩
 refine sx_ownT1 [] tt_ok mixed at21 E hE d (42,2,tb v k,tb v k3) [SV.ptr 1000 0] _ rfl rfl fun w b hT=>?_
 have hv:=hv.of_old hE.symm hT
 have hm:Pure Tryz.prog 24 [SV.c (.int .i64 (IntKind.i64.wrap (1+i2))),SV.c (.int .i64 i3)] (.agg (mkQ (1+i2) i3).1.A):=by rw [e2];exact made_of (by omega) (by omega) (by omega) (by omega)
 refine ⟨by decide,by decide,ints [9,2000,200000],by kernel_rfl,rfl,.inr ⟨_,_,_,O1 _ v 1000 5 (by decide) rfl hv,⟨rfl,rfl,trivial⟩,rfl,.inr ⟨_,_,_,O2 _ v 1000 rfl hv,⟨rfl,trivial⟩,rfl,by decide,by decide,ints [1,2,4,10,100,1000,1000000],by kernel_rfl,rfl,.inr ⟨_,_,_,O3 _ v 1000 10 (by decide) rfl hv,⟨rfl,rfl,trivial⟩,rfl,?_⟩⟩⟩⟩
 exact .inl ⟨_,hm,RQ.A_fits _,rfl,rfl,trivial⟩
end Go.Proofs.YtnfmpddhcjkjbaaGreatDoor
