/- the frame of a law. walks: numbers off a tape; no condition. -/
import Derived.Test.YtkaakbpeegpnkaaGreatDoorRows
import Derived.Test.YtkaakbpeegpnkaaGreatDoorP20
set_option maxRecDepth 100000
set_option maxHeartbeats 4000000
namespace Go.Proofs.YtkaakbpeegpnkaaGreatDoor
open Go Go.RowKit Go.SX
theorem own_knob:ownKnob Tryz.prog.godebug=none:=by kernel_rfl
theorem laid_out:laidOutB Tryz.prog=true:=by kernel_rfl
open ChangeShapes WideShapes
theorem trodAll_below {H:Type} {enc:TypeId×Value→H} {P:Program} (hl:laidOutB P=true) {W W':World} (hb:Below W.heap.size W W') :
    ∀ (ts:List TypeId) (vs:List Value) (ds:List (DataW H)) (ps:List MemPlace),(∀ t∈ts,P.readableRec t=true∧t < P.types.size)→(∀ x∈ps,x.block < W.heap.size) →
     DataW.TrodAll enc P W 0 (fun _=>true) true ts vs ds ps→DataW.TrodAll enc P W' 0 (fun b=>decide (b < W.heap.size)) true ts vs ds ps
 | [],vs,ds,ps,_,_,h=>by
  obtain ⟨rfl,rfl,rfl⟩:=trodAll_nil h
  exact trodAll_mk0
 | t :: ts,vs,ds,ps,hr,hlt,h=>by
  obtain ⟨v,vs',d,ds',p,q,rfl,rfl,rfl,h1,h2⟩:=trodAll_cons h
  exact trodAll_cons_mk (Below.trod hl (hr t (by simp)).1 (hr t (by simp)).2 h1 hb (fun x hx=>hlt x (by simp [hx])))
   (trodAll_below hl hb ts vs' ds' q (fun t ht=>hr t (by simp [ht])) (fun x hx=>hlt x (by simp [hx])) h2)

theorem law_post {H:Type} {enc:TypeId×Value→H} {P:Program} {f:Func} {s:ChangeSpec} {tb:TypeId} (hl:laidOutB P=true) (htb:P.underlying tb=some .bool) (hres:f.resultTypes=#[tb])
    (hr:∀ t∈f.params.toList,P.readableRec t=true∧t < P.types.size) {W W':World} {args:Array Value} {ds gs:List (DataW H)} {before:List MemPlace} (hvars:s.vars=[])
    (hW:DataW.Whole enc P f.params.toList s.vars false W args.toList ds gs before) (hfn:s.fn H (ds++gs)={ results:=[.lit (.bool true)],args:=ds }) (hb:Below W.heap.size W W') :
    s.post enc P f false true false false W args (.bool true) W':=by
 have hlt:∀ x∈before,x.block < W.heap.size:=fun x hx=>hW.lt x hx
 have hW0:=hW
 obtain ⟨p,q,hA,hV,rfl,hfz,hnd⟩:=hW
 rw [hvars] at hV
 obtain ⟨rfl,rfl⟩:=trodVars_none hV
 refine ⟨ds,[],p++[],[],p,[],hW0,?_,?_,?_,hb.frame _,fun h=>by cases h⟩
 ·rw [hfn,hres];exact trodAll_mk1 (shut_bool htb true)
 ·rw [hfn];exact trodAll_below hl hb _ _ _ _ hr (fun x hx=>hlt x (by simp [hx])) hA
 ·rw [hfn,hvars];exact hV

def laidT:List (String×DataW Unit):=[("unicode/utf8.acceptRanges",Rows.laid_unicode_utf8_acceptRanges),("unicode/utf8.first",Rows.laid_unicode_utf8_first)]
theorem shaped_t (os:Os) (args:Array Value):((World.laidAll Tryz.prog os laidT).forCall (fun _ _=>0) ⟨#[],args,[]⟩).Shaped Tryz.prog:=World.shaped_of_ZipB (by kernel_rfl) (by kernel_rfl)
theorem met_t (os:Os) (args:Array Value):laidMetH Tryz.prog laidT ((World.laidAll Tryz.prog os laidT).forCall (fun _ _=>0) ⟨#[],args,[]⟩).memory:=by
 rw [MakeChecks.laidMetH_plain _ _ _ (by kernel_rfl)]
 exact laidMet_laidAll _ (by kernel_rfl) (by kernel_rfl)
end Go.Proofs.YtkaakbpeegpnkaaGreatDoor
namespace Go.Proofs.YtkaakbpeegpnkaaGreatDoor
open Go Go.RowKit Go.SX
def Tp (E:Env) (v:Value) (zs:List Int):Prop:=∃ (a:Option Addr) (cap:Nat),v=.slice a zs.length cap∧∀ i:Nat,i < zs.length→∃ b:Addr,Runs E (Instr.indexAt 41 v (.int .i64 (i:Nat))) (.pointer (some b))∧Runs E (Instr.loadAt 3 (.pointer (some b))) (.int .i64 (zs.getD i 0))
theorem runs_old {E E0:Env} (hP:E.P=E0.P) (h:∀ w,OldW E w→OldW E0 w) {s:Sem Value} {r:Value} (hr:Runs E0 s r):Runs E s r:=fun w hw=>by rw [hP];exact hr w (h w hw)
theorem Tp.of_old {E E0:Env} (hP:E.P=E0.P) (h:∀ w,OldW E w→OldW E0 w) {v:Value} {zs:List Int} (ht:Tp E0 v zs):Tp E v zs:=by
 obtain ⟨a,cap,rfl,hi⟩:=ht
 refine ⟨a,cap,rfl,fun i h1=>?_⟩
 obtain ⟨b,h2,h3⟩:=hi i h1
 exact ⟨b,runs_old hP h h2,runs_old hP h h3⟩
def tb (v:Value) (k:Nat):Array Value:=#[v,.int .i64 (k:Nat)]
theorem run_len_sl {P:Program} {t e ty:TypeId} (hu:P.underlying t=some (.slice e)) {cs:Array Bool} {a:Option Addr} {len cap:Nat} (w:World):(builtin .len #[t] ty cs #[.slice a len cap]).run P w=.ok (.value (.int .i64 (len:Nat))) w:=by
 simp [builtin,Builtin.len_,Sem.run_bind,run_underlying hu,goInt]
def ints (xs:List Int):Array Value:=(xs.map (Value.int .i64)).toArray
end Go.Proofs.YtkaakbpeegpnkaaGreatDoor
