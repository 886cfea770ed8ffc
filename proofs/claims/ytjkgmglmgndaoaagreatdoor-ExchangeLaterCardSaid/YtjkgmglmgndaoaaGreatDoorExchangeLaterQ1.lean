/- An abstract walk: a region that draws its order is walked in another order; no condition. -/
import Derived.Test.YtjkgmglmgndaoaaGreatDoorP7
set_option maxRecDepth 100000
set_option maxHeartbeats 4000000
namespace Go.SX
open Go Go.RowKit
def renO (iv:List Nat) (o:Oper):Oper:={ o with after:=o.after.map fun e=>⟨iv.getD e.on 0,e.ground⟩,guard:=o.guard.map fun p=>(iv.getD p.1 0,p.2) }
def permO (ops:Array Oper) (π iv:List Nat):Array Oper:=(π.map fun i=>renO iv (ops.toList.getD i default)).toArray
def permOk (ops:Array Oper) (π iv:List Nat):Bool :=
 Nat.beq π.length ops.toList.length &&
 ((List.range π.length).all fun k=>Nat.blt (π.getD k 0) π.length && Nat.beq (iv.getD (π.getD k 0) 0) k && (Nat.blt (iv.getD k 0) π.length && Nat.beq (π.getD (iv.getD k 0) 0) k)) &&
 ops.toList.all fun o=>(o.after.toList.all fun e=>Nat.blt e.on π.length) && (match o.guard with
  | none=>true
  | some p=>Nat.blt p.1 π.length)
section
variable {P:Program} {ops:Array Oper} {Q:Exit→Act→World→Prop} {π iv:List Nat}
structure PermOk (ops:Array Oper) (π iv:List Nat):Prop where
 len:π.length=ops.size
 l1:∀ k,k < ops.size→π.getD k 0 < ops.size∧iv.getD (π.getD k 0) 0=k
 l2:∀ k,k < ops.size→iv.getD k 0 < ops.size∧π.getD (iv.getD k 0) 0=k
 edge:∀ (i:Nat) (o:Oper),ops[i]? = some o→∀ e∈o.after,e.on < ops.size
 gd:∀ (i:Nat) (o:Oper),ops[i]? = some o→∀ p,o.guard=some p→p.1 < ops.size
theorem permOk_at (h:permOk ops π iv=true):PermOk ops π iv:=by
 unfold permOk at h
 simp only [Bool.and_eq_true,List.all_eq_true,List.mem_range,Nat.blt_eq,Array.length_toList] at h
 obtain ⟨⟨h1,h2⟩,h3⟩:=h
 have h1:π.length=ops.size:=Nat.eq_of_beq_eq_true h1
 rw [h1] at h2 h3
 refine ⟨h1,fun k hk=>?_,fun k hk=>?_,fun i o ho e he=>?_,fun i o ho p hp=>?_⟩
 ·have:=(h2 k hk).1;exact ⟨this.1,Nat.eq_of_beq_eq_true this.2⟩
 ·have:=(h2 k hk).2;exact ⟨this.1,Nat.eq_of_beq_eq_true this.2⟩
 ·have hm:o∈ops.toList:=by rw [Array.mem_toList_iff];exact Array.mem_of_getElem? ho
  exact (h3 o hm).1 e (by simpa using he)
 ·have hm:o∈ops.toList:=by rw [Array.mem_toList_iff];exact Array.mem_of_getElem? ho
  have:=(h3 o hm).2
  rw [hp] at this
  simpa only [Nat.blt_eq] using this
theorem permO_size (h:PermOk ops π iv):(permO ops π iv).size=ops.size:=by simp [permO,h.len]
theorem permO_at (h:PermOk ops π iv) {i:Nat} {o:Oper} (ho:ops[i]? = some o):(permO ops π iv)[iv.getD i 0]? = some (renO iv o):=by
 have hi:i < ops.size:=(Array.getElem?_eq_some_iff.1 ho).1
 obtain ⟨h1,h2⟩:=h.l2 i hi
 have h3:π[iv.getD i 0]? = some i:=by
  rw [List.getD_eq_getElem?_getD] at h2
  rw [List.getElem?_eq_getElem (by rw [h.len];exact h1)] at h2 ⊢
  simpa using h2
 unfold permO
 rw [List.getElem?_toArray,List.getElem?_map,h3]
 simp only [Option.map_some]
 congr 2
 rw [List.getD_eq_getElem?_getD,Array.getElem?_toList,ho];rfl
theorem wp_ren (iv:List Nat) (o:Oper) (a:Act) (w:World) (K:Act→World→Prop):(renO iv o).wp P a w K Q=o.wp P a w K Q:=rfl
theorem asks_ren (iv:List Nat) (o:Oper) (a:Act) (w:World):(renO iv o).asks P a w=o.asks P a w:=rfl
theorem wanted_ren (h:PermOk ops π iv) {i:Nat} {o:Oper} (ho:ops[i]? = some o) (t:Array Value):Region.wanted (renO iv o) (yielded (permO ops π iv) t)=Region.wanted o (yielded ops t):=by
 unfold Region.wanted renO
 cases hg:o.guard with
 | none=>rfl
 | some p =>
  simp only [Option.map_some]
  have hp:=h.gd i o ho p hg
  obtain ⟨o2,ho2⟩:∃ o2,ops[p.1]? = some o2:=⟨_,Array.getElem?_eq_getElem hp⟩
  have h2:=permO_at h ho2
  have:yielded (permO ops π iv) t (iv.getD p.1 0)=yielded ops t p.1:=by
   unfold yielded
   rw [h2,ho2];rfl
  rw [this]
theorem ready_perm (h:PermOk ops π iv) {listed listed':Array Bool} (hs:listed.size=ops.size) (hs':listed'.size=ops.size) (hl:∀ i,i < ops.size→listed'.getD (iv.getD i 0) true=listed.getD i true) {i:Nat} (hi:i < ops.size):iv.getD i 0∈Region.ready .any (permO ops π iv) listed'↔i∈Region.ready .any ops listed:=by
 obtain ⟨o,ho⟩:∃ o,ops[i]? = some o:=⟨_,Array.getElem?_eq_getElem hi⟩
 have h2:=permO_at h ho
 have h3:=(h.l2 i hi).1
 have hf:∀ j,j < ops.size→listed'.getD (iv.getD j 0) false=listed.getD j false:=fun j hj=>by
  have h4:=hl j hj
  have h5:=(h.l2 j hj).1
  rw [Array.getD_eq_getD_getElem?,Array.getD_eq_getD_getElem?,Array.getElem?_eq_getElem (by omega),Array.getElem?_eq_getElem (by omega)] at h4 ⊢
  exact h4
 simp only [Region.ready,List.mem_filter,List.mem_range,permO_size h,h3,hi,true_and,hl i hi,h2,ho,Option.map_some,Option.getD_some,Bool.and_eq_true]
 refine and_congr Iff.rfl ?_
 rw [Bool.eq_iff_iff.1 ?_]
 rw [Bool.eq_iff_iff,Array.all_eq_true_iff_forall_mem,Array.all_eq_true_iff_forall_mem]
 simp only [renO,Array.mem_map]
 constructor
 ·intro hh e he
  have:=hh _ ⟨e,he,rfl⟩
  rw [hf e.on (h.edge i o ho e he)] at this
  exact this
 ·rintro hh e' ⟨e,he,rfl⟩
  have:=hh e he
  rw [hf e.on (h.edge i o ho e he)]
  exact this
theorem wpAny_perm (h:PermOk ops π iv):∀ (fuel:Nat) (listed listed':Array Bool) (a:Act) (w:World),listed.size=ops.size→listed'.size=ops.size→(∀ i,i < ops.size→listed'.getD (iv.getD i 0) true=listed.getD i true)→wpAny P .any (permO ops π iv) Q fuel listed' a w→wpAny P .any ops Q fuel listed a w:=by
 have hnil:∀ (listed listed':Array Bool),listed.size=ops.size→listed'.size=ops.size→(∀ i,i < ops.size→listed'.getD (iv.getD i 0) true=listed.getD i true)→(Region.ready .any (permO ops π iv) listed'=[]↔Region.ready .any ops listed=[]):=by
  intro listed listed' hs hs' hl
  constructor
  ·intro h1
   rw [List.eq_nil_iff_forall_not_mem]
   intro i hi
   have hlt:i < ops.size:=by
    have:=(List.mem_filter.1 hi).1
    exact List.mem_range.1 this
   have:=(ready_perm h hs hs' hl hlt).2 hi
   rw [h1] at this;cases this
  ·intro h1
   rw [List.eq_nil_iff_forall_not_mem]
   intro k hk
   have hlt:k < ops.size:=by
    have:=(List.mem_filter.1 hk).1
    rw [permO_size h] at this
    exact List.mem_range.1 this
   obtain ⟨h2,h3⟩:=h.l1 k hlt
   rw [← h3] at hk
   have:=(ready_perm h hs hs' hl h2).1 hk
   rw [h1] at this;cases this
 intro fuel
 induction fuel with
 | zero =>
  intro listed listed' a w hs hs' hl hh
  exact ⟨(hnil listed listed' hs hs' hl).1 hh.1,hh.2⟩
 | succ fuel ih =>
  intro listed listed' a w hs hs' hl hh
  refine ⟨fun h1=>hh.1 ((hnil listed listed' hs hs' hl).2 h1),fun i hi=>?_⟩
  have hlt:i < ops.size:=by
   have:=(List.mem_filter.1 hi).1
   exact List.mem_range.1 this
  have h1:=hh.2 _ ((ready_perm h hs hs' hl hlt).2 hi)
  obtain ⟨o,ho⟩:∃ o,ops[i]? = some o:=⟨_,Array.getElem?_eq_getElem hlt⟩
  unfold wpOp at h1 ⊢
  rw [permO_at h ho] at h1
  rw [ho]
  simp only [wanted_ren h ho,wp_ren,asks_ren] at h1 ⊢
  have hk:∀ a' w',wpAny P .any (permO ops π iv) Q fuel (listed'.setIfInBounds (iv.getD i 0) true) a' w'→wpAny P .any ops Q fuel (listed.setIfInBounds i true) a' w':=fun a' w' h2=>by
   refine ih _ _ a' w' (by simpa using hs) (by simpa using hs') (fun j hj=>?_) h2
   have h5:=(h.l2 j hj)
   have h6:=(h.l2 i hlt)
   by_cases e:j=i
   ·subst e
    rw [Array.getD_eq_getD_getElem?,Array.getD_eq_getD_getElem?,Array.getElem?_setIfInBounds_self_of_lt (by omega),Array.getElem?_setIfInBounds_self_of_lt (by omega)]
   ·have e2:iv.getD i 0≠iv.getD j 0:=fun e3=>e (by rw [← h5.2,← e3,h6.2])
    rw [Array.getD_eq_getD_getElem?,Array.getD_eq_getD_getElem?,Array.getElem?_setIfInBounds_ne e2,Array.getElem?_setIfInBounds_ne (fun e3=>e e3.symm),← Array.getD_eq_getD_getElem?,← Array.getD_eq_getD_getElem?]
    exact hl j hj
  split at h1
  ·rename_i hw
   rw [if_pos hw]
   exact h1.imp (Oper.wp_mono hk) id
  ·rename_i hw
   rw [if_neg hw]
   exact hk _ _ h1
theorem wp_region_perm {id:Nat} {a:Act} {w:World} (hm:P.follows .mixedOrders=true) (h:permOk ops π iv=true) (hw:wpAny P .any (permO ops π iv) Q ops.size (Array.replicate ops.size false) a { w with drawn:=w.drawn+1 }):(Code.region id ops true).wp P Q a w:=by
 have h:=permOk_at h
 refine wp_region_any hm (wpAny_perm h _ _ _ a _ (by simp) (by simp) (fun i hi=>?_) hw)
 have:=(h.l2 i hi).1
 rw [Array.getD_eq_getD_getElem?,Array.getD_eq_getD_getElem?,Array.getElem?_replicate,Array.getElem?_replicate,if_pos this,if_pos hi]
end
theorem LexT.drawnP {E:Env} {ops:Array Oper} {π iv:List Nat} {f:Frm} {m:Mem} {K:Frm→Mem→Prop} (hx:LexT E (permO ops π iv).toList true (permO ops π iv).toList f m [] K) (hp:permOk ops π iv=true) (hmix:E.P.follows .mixedOrders=true) {id:Nat} {ρ:Rho} {a:Act} {w:World} {Q:Exit→Act→World→Prop} (h1:Fr E ρ f a) (h2:Wd E ρ m w)
    (hQ:∀ f' m' ρ' a' w',K f' m'→Ext ρ ρ'→Fr E ρ' f' a'→Wd E ρ' m' w'→Q .normal a' w'):(Code.region id ops true).wp E.P Q a w:=by
 have hsz:=permO_size (permOk_at hp)
 obtain ⟨L2,f2,m2,⟨X,rfl⟩,hx2,hr2⟩:=hx.advance (f0:=f) (m0:=m) (D:=fun k=>(Array.replicate ops.size false).getD k false) (by simp) ⟨by simp,fun k e hk=>by simp at hk,fun i o e _ hk=>by simp at hk,rfl,rfl⟩
 refine wp_region_perm hmix hp ?_
 have:=any_main (ρ0:=ρ) (Q:=Q) (fun f' m' ρ' a' w' hK hE h3 h4=>hQ f' m' ρ' a' w' hK hE h3 h4) ops.size (Array.replicate ops.size false) ρ a { w with drawn:=w.drawn+1 } _ f2 m2 hx2 hr2 (by simp [hsz]) ?_ ?_ (fun k _=>repl_false _ _) (Ext.refl _) ?_ ?_
 ·simpa using this
 ·rw [List.filter_eq_self.2 (by intro k hk;rw [repl_false];rfl)]
  simp [hsz]
 ·intro j o hj hD
  simp only [repl_false] at hD
  cases hD
 ·rw [frD_none _ _ _ _ (by intro k;exact repl_false _ _)];exact h1
 ·rw [mD_none _ _ _ _ (by intro k;exact repl_false _ _)];exact h2.drew
def permFor:List (Nat×List Nat×List Nat)→Nat→Option (List Nat×List Nat)
 | [],_=>none
 | (k,p) :: r,id=>match Nat.beq k id with
  | true=>some p
  | false=>permFor r id
def vcRegP (E:VE) (pm:List (Nat×List Nat×List Nat)) (id:Nat) (ops:Array Oper) (draw:Bool) (f:FrmL) (m:MemL) (Q:VQ):Prop:=match permFor pm id,draw with
 | some (π,iv),true=>permOk ops π iv=true∧vreg E (permO ops π iv) true (permO ops π iv).toList [] f m [] fun f m=>Q .normal f m
 | _,draw=>vreg E ops draw ops.toList [] f m [] fun f m=>Q .normal f m
def vcodeP (E:VE) (pm:List (Nat×List Nat×List Nat)) (c:Code):VC:=Code.rec (motive:=fun _=>VC) (fun f m Q=>Q .normal f m)
 (fun id ops draw=>vcRegP E pm id ops draw)
 (fun _ b ia ib=>vcSeq E b ia ib) (fun c _ _ ia ib=>vcCond c ia ib) (fun id _ ib=>vcBlock id ib) (fun _ ib=>vcLoop ib)
 (fun _ _ _ _ _ _ _ _ _=>False) (fun id f m Q=>Q (.exit id) f m) (fun _ _ _ _ _=>False) (fun _ f m Q=>Q .normal f m)
 (fun _ _ _ _=>False) (fun f m Q=>Q .ret f m) (fun _ _ _ _=>False) c
theorem dsts_perm {n:Nat} {ops:Array Oper} {π iv:List Nat} (h:dstsIn n ops.toList=true):dstsIn n (permO ops π iv).toList=true:=by
 unfold dstsIn at *
 rw [List.all_eq_true] at *
 intro o ho
 simp only [permO,List.mem_map] at ho
 obtain ⟨i,-,rfl⟩:=ho
 rw [List.getD_eq_getElem?_getD]
 cases hi:ops.toList[i]? with
 | none=>rfl
 | some o=>exact h o (List.mem_of_getElem? hi)
theorem vcodeP_wp {E:VE} (pm:List (Nat×List Nat×List Nat)) (hE:VOk E) (hmix:E.P.follows .mixedOrders=true):∀ (c:Code) (f:FrmL) (m:MemL) (Q:VQ),codeIn E.n c=true→vcodeP E pm c f m Q →
    ∀ ρ a w,Fr E.toEnv ρ (getF f) a→Wd E.toEnv ρ (getM m) w→c.wp E.P (After1 E Q) a w
 | .skip,f,m,Q,_,h,ρ,a,w,h1,h2=>wp_skip ⟨f,m,ρ,h1,h2,h⟩
 | .label _,f,m,Q,_,h,ρ,a,w,h1,h2=>wp_label ⟨f,m,ρ,h1,h2,h⟩
 | .ret,f,m,Q,_,h,ρ,a,w,h1,h2=>wp_ret ⟨f,m,ρ,h1,h2,h⟩
 | .exit id,f,m,Q,_,h,ρ,a,w,h1,h2=>wp_exit ⟨f,m,ρ,h1,h2,h⟩
 | .seq x y,f,m,Q,hc,h,ρ,a,w,h1,h2=>by
  simp only [codeIn,Bool.and_eq_true] at hc
  have h:vcSeq E y (vcodeP E pm x) (vcodeP E pm y) f m Q:=h
  unfold vcSeq at h
  split at h
  ·refine wp_seq (wp_mono (vcodeP_wp pm hE hmix x f m _ hc.1 h ρ a w h1 h2) ?_)
   rintro e a' w' ⟨f',m',ρ',h3,h4,h5⟩
   cases e with
   | normal=>exact vcodeP_wp pm hE hmix y f' m' Q hc.2 h5 ρ' a' w' h3 h4
   | _=>exact ⟨f',m',ρ',h3,h4,h5⟩
  ·obtain ⟨J,h,hJ⟩:=h
   refine wp_seq (wp_mono (vcodeP_wp pm hE hmix x f m _ hc.1 h ρ a w h1 h2) ?_)
   rintro e a' w' ⟨f',m',ρ',h3,h4,h5⟩
   cases e with
   | normal =>
    obtain ⟨f2,m2,h6,h7⟩:=h5
    exact vcodeP_wp pm hE hmix y f2 m2 Q hc.2 (hJ f2 m2 h6) _ a' w' (h7.fr h3) (h7.wd h4)
   | _=>exact ⟨f',m',ρ',h3,h4,h5⟩
 | .cond c x y,f,m,Q,hc,h,ρ,a,w,h1,h2=>by
  simp only [codeIn,Bool.and_eq_true] at hc
  have h:vcCond c (vcodeP E pm x) (vcodeP E pm y) f m Q:=h
  unfold vcCond at h
  split at h
  ·rename_i b hb
   have hcc:=ev_rel h1 c
   rw [hb] at hcc
   have hcc:a.eval c=.bool b:=hcc
   refine wp_cond_split hcc (fun e=>?_) (fun e=>?_)
   ·exact vcodeP_wp pm hE hmix x f m Q hc.1 (h.1 e) ρ a w h1 h2
   ·exact vcodeP_wp pm hE hmix y f m Q hc.2 (h.2 e) ρ a w h1 h2
  ·exact h.elim
 | .block id b,f,m,Q,hc,h,ρ,a,w,h1,h2=>by
  have h:vcBlock id (vcodeP E pm b) f m Q:=h
  unfold vcBlock at h
  refine wp_block (wp_mono (vcodeP_wp pm hE hmix b f m _ hc h ρ a w h1 h2) ?_)
  rintro e a' w' ⟨f',m',ρ',h3,h4,h5⟩
  cases e with
  | exit id' =>
   simp only at h5
   simp only [Exit.inBlock]
   split<;>rename_i hid
   ·rw [if_pos hid] at h5;exact ⟨f',m',ρ',h3,h4,h5⟩
   ·rw [if_neg hid] at h5;exact ⟨f',m',ρ',h3,h4,h5⟩
  | _=>exact ⟨f',m',ρ',h3,h4,h5⟩
 | .region id ops draw,f,m,Q,hc,h,ρ,a,w,h1,h2=>by
  have h:vcRegP E pm id ops draw f m Q:=h
  have e:ops=ops.toList.toArray:=by simp
  have plain:vreg E ops draw ops.toList [] f m [] (fun f m=>Q .normal f m)→(Code.region id ops draw).wp E.P (After1 E Q) a w:=fun h=>by
   have h3:=vreg_lex hE hc ops.toList _ _ _ _ _ (fun _ h=>h) h
   cases draw with
   | true =>
    rw [e]
    exact LexT.drawn h3 hmix h1 h2 fun F M ρ' a' w' ⟨f',m',hF,hM,h5⟩ _ h6 h7=>⟨f',m',ρ',by rw [← hF];exact h6,by rw [← hM];exact h7,h5⟩
   | false =>
    rw [e]
    exact LexT.undrawn h3 h1 h2 fun F M ρ' a' w' ⟨f',m',hF,hM,h5⟩ _ h6 h7=>⟨f',m',ρ',by rw [← hF];exact h6,by rw [← hM];exact h7,h5⟩
  cases hq:permFor pm id with
  | none =>
   have h:vreg E ops draw ops.toList [] f m [] (fun f m=>Q .normal f m):=by simpa only [vcRegP,hq] using h
   exact plain h
  | some p =>
   cases draw with
   | false =>
    have h:vreg E ops false ops.toList [] f m [] (fun f m=>Q .normal f m):=by simpa only [vcRegP,hq] using h
    exact plain h
   | true =>
    obtain ⟨π,iv⟩:=p
    have h:permOk ops π iv=true∧vreg E (permO ops π iv) true (permO ops π iv).toList [] f m [] (fun f m=>Q .normal f m):=by simpa only [vcRegP,hq] using h
    obtain ⟨hp,h⟩:=h
    have h3:=vreg_lex hE (dsts_perm hc) (permO ops π iv).toList _ _ _ _ _ (fun _ h=>h) h
    exact LexT.drawnP h3 hp hmix h1 h2 fun F M ρ' a' w' ⟨f',m',hF,hM,h5⟩ _ h6 h7=>⟨f',m',ρ',by rw [← hF];exact h6,by rw [← hM];exact h7,h5⟩
 | .loop b,f,m,Q,hc,h,ρ,a,w,h1,h2=>by
  have h:vcLoop (vcodeP E pm b) f m Q:=h
  obtain ⟨I,n,⟨f1,m1,hI,hw⟩,hround⟩:=h
  refine wp_loop_ghost (fun n a w=>∃ f m ρ,Fr E.toEnv ρ (getF f) a∧Wd E.toEnv ρ (getM m) w∧I n f m) n ⟨f1,m1,_,hw.fr h1,hw.wd h2,hI⟩ ?_
  rintro n' a' w' ⟨f',m',ρ',h3,h4,h5⟩
  refine wp_mono (vcodeP_wp pm hE hmix b f' m' _ hc (hround n' f' m' h5) ρ' a' w' h3 h4) ?_
  rintro e a2 w2 ⟨f2,m2,ρ2,h6,h7,h8⟩
  cases e with
  | normal =>
   obtain ⟨n3,f3,m3,hlt,hI3,hw3⟩:=h8
   exact ⟨n3,hlt,f3,m3,_,hw3.fr h6,hw3.wd h7,hI3⟩
  | _=>exact ⟨f2,m2,ρ2,h6,h7,h8⟩
 | .rangeFunc ..,_,_,_,_,h,_,_,_,_,_=>h.elim
 | .scope ..,_,_,_,_,h,_,_,_,_,_=>h.elim
 | .goto ..,_,_,_,_,h,_,_,_,_,_=>h.elim
 | .refuse ..,_,_,_,_,h,_,_,_,_,_=>h.elim
theorem sx_atXP (pm:List (Nat×List Nat×List Nat)) (cuts:List Nat) {P:Program} {tt:TypeId→Option TI} (ht:TTok P tt) (hmix:P.follows .mixedOrders=true) {g:FuncId} {fn:Func} {c:Code} {n:Nat} (hf:FnAt P g fn c n) (as:List Value) (v:Value) (w:World) (hl:Nat.ble as.length n=true)
    (h:vcodeP (envC P tt n w [] [] cuts) pm c (initF 0 (as.map SV.c)) [] (retQ (envC P tt n w [] [] cuts) fn.results.toList v [])):Calls P g as.toArray w fun e w'=>e=.returned v∧Below w.heap.size w w':=by
 have hx':rels (fun _=>none) (as.map SV.c) as:=by
  clear hl h
  induction as with
  | nil=>trivial
  | cons s as ih=>exact ⟨rfl,ih⟩
 have hs:=start_fr (E:=(envC P tt n w [] [] cuts).toEnv) hx' (Nat.le_of_ble_eq_true (by rw [List.length_map];exact hl))
 refine calls_of_wp hf.fnc hf.body ?_
 rw [hf.slots]
 refine wp_mono (vcodeP_wp (E:=envC P tt n w [] [] cuts) pm ht hmix c _ _ _ hf.code h (fun _=>none) _ w hs ?_) (body_end (E:=envC P tt n w [] [] cuts) ht fun ρ' m w' h2 _=>⟨rfl,h2.os,h2.tape,h2.output,h2.size,fun k hk=>h2.old k hk (by simp)⟩)
 exact ⟨rfl,rfl,rfl,Nat.le_refl _,fun _ _ _=>rfl,fun d B hd=>by simp [getM] at hd,fun _ _=>rfl,fun d B hd=>by simp [getM] at hd,fun d B b hd=>by simp [getM] at hd,fun d e k hd=>(by cases hd),fun d k B hp=>by simp at hp⟩
end Go.SX
