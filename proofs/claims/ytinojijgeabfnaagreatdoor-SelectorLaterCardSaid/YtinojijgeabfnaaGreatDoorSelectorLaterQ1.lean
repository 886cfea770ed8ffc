/- the law SelectorLater: plain laws. the law SelectorLater: walk; no condition. -/
import Derived.Test.YtinojijgeabfnaaGreatDoorP33
set_option maxRecDepth 100000
set_option maxHeartbeats 4000000
namespace Go.Proofs.YtinojijgeabfnaaGreatDoor
open Go Go.RowKit Go.SX
theorem tw_inj {a b:Nat} (ha:a < 100) (hb:b < 100) (h1:UInt8.ofNat (48+a / 10)=UInt8.ofNat (48+b / 10)) (h2:UInt8.ofNat (48+a % 10)=UInt8.ofNat (48+b % 10)):a=b:=by
 have H:∀ k,k < 10→(UInt8.ofNat (48+k)).toNat=48+k:=by decide
 have e1:=congrArg UInt8.toNat h1
 have e2:=congrArg UInt8.toNat h2
 rw [H _ (by omega),H _ (by omega)] at e1 e2
 omega
theorem civ_inj {m n:Nat} (hm:m≤73048) (hn:n≤73048) (h:civN m=civN n):m=n:=by
 obtain ⟨a1,a2,a3,a4⟩:=yearN_ex hm
 obtain ⟨b1,b2,b3,b4⟩:=yearN_ex hn
 obtain ⟨-,-,-,a8⟩:=monN_ex (leap:=leapN (yearN m).1) (n:=(yearN m).2) a3
 obtain ⟨-,-,-,b8⟩:=monN_ex (leap:=leapN (yearN n).1) (n:=(yearN n).2) b3
 unfold civN at h
 simp only [Prod.mk.injEq] at h
 obtain ⟨h1,h2,h3⟩:=h
 rw [h1] at a8 h2 h3 a4
 rw [h2] at a8
 omega
theorem dayT_inj {m n:Nat} (hm:m≤73048) (hn:n≤73048) (h:dayT m=dayT n):m=n:=by
 obtain ⟨a1,a2,a3,a4,a5,a6⟩:=civN_bd hm
 obtain ⟨b1,b2,b3,b4,b5,b6⟩:=civN_bd hn
 refine civ_inj hm hn ?_
 unfold dayT twN at h
 simp only [List.cons_append,List.nil_append,List.cons.injEq] at h
 obtain ⟨h1,h2,h3,h4,-,h5,h6,-,h7,h8,-⟩:=h
 have e1:=tw_inj (by omega) (by omega) h1 h2
 have e2:=tw_inj (by omega) (by omega) h3 h4
 have e3:=tw_inj (by omega) (by omega) h5 h6
 have e4:=tw_inj (by omega) (by omega) h7 h8
 generalize civN m=M at *
 generalize civN n=N at *
 obtain ⟨y,m',d⟩:=M
 obtain ⟨y',m'',d'⟩:=N
 dsimp only at *
 rw [show y=y' by omega,e3,e4]
theorem key_day {a b:QC} (h:keyQ a=keyQ b) (a1:0≤a.day∧a.day≤73048) (b1:0≤b.day∧b.day≤73048):a.day=b.day:=by
 have e:∀ q:QC,keyQ q=(q.src++(44 :: (q.ins++[44])))++dayT q.day.toNat:=fun q=>by
  unfold keyQ
  simp
 rw [e a,e b] at h
 have h2:=List.append_inj_right' h (by rw [dayT_len,dayT_len])
 have:=dayT_inj (by omega) (by omega) h2
 omega
theorem lastGo_snoc (k:Int) (key:List UInt8) (m:MK):∀ (r:List MK) (i:Nat) (a:Int),lastGo k key i (r++[m]) a=if m.known≤k∧m.key=key then ((i+r.length:Nat):Int) else lastGo k key i r a
 | [],i,a=>rfl
 | z :: r,i,a=>by
  rw [List.cons_append,lastGo,lastGo_snoc k key m r,lastGo,List.length_cons]
  rw [show i+1+r.length=i+(r.length+1) by omega]
theorem visB_lt {k:Int} {xs:List QC} {q:QC} {i:Nat} (hi:i < xs.length) (h:k < q.known∨keyQ (xs[i])≠keyQ q):visB ((xs++[q]).map mkOfQ) k i=visB (xs.map mkOfQ) k i:=by
 unfold visB
 rw [List.getElem?_map,List.getElem?_map,List.getElem?_append_left hi,List.getElem?_eq_getElem hi]
 simp only [Option.map_some]
 unfold lastI
 rw [List.map_append,List.map_cons,List.map_nil,lastGo_snoc,if_neg]
 rintro ⟨h1,h2⟩
 rcases h with h | h
 ·have h1:q.known≤k:=h1
  omega
 ·exact h h2.symm
theorem fm_congr {α β:Type} {f g:α→Option β}:∀ {l:List α},(∀ x∈l,f x=g x)→l.filterMap f=l.filterMap g
 | [],_=>rfl
 | x :: r,h=>by
  rw [List.filterMap_cons,List.filterMap_cons,h x (by simp),fm_congr fun y hy=>h y (by simp [hy])]
theorem vis_snoc {xs:List QC} {q:QC} {k:Int} {alive:QC→Bool} (h0:chkQ xs=0) (h1:chkQ (xs++[q])=0) (hd:k < q.known∨(alive q=false∧∀ x∈xs,alive x=true→keyQ x≠keyQ q)):(visQs (xs++[q]) k).filter alive=(visQs xs k).filter alive:=by
 unfold visQs
 rw [if_pos h0,if_pos h1]
 unfold visNQ visI
 rw [List.filterMap_filter,List.filter_filterMap,List.filterMap_filter,List.filter_filterMap]
 rw [List.length_map,List.length_map,List.length_append,List.length_singleton,List.range_succ,List.filterMap_append]
 have e1:List.filterMap (fun x=>Option.filter alive (if visB (List.map mkOfQ (xs++[q])) k x=true then (xs++[q])[x]? else none)) [xs.length]=[]:=by
  rw [List.filterMap_cons]
  have:Option.filter alive (if visB (List.map mkOfQ (xs++[q])) k xs.length=true then (xs++[q])[xs.length]? else none)=none:=by
   rw [List.getElem?_append_right (Nat.le_refl _),Nat.sub_self]
   split
   ·rename_i hv
    unfold visB at hv
    rw [List.getElem?_map,List.getElem?_append_right (Nat.le_refl _),Nat.sub_self] at hv
    rcases hd with hd | hd
    ·simp only [List.getElem?_cons_zero,Option.map_some,Bool.and_eq_true,decide_eq_true_eq] at hv
     have:q.known≤k:=hv.2.1
     omega
    ·simp [hd.1]
   ·rfl
  rw [this];rfl
 rw [e1,List.append_nil]
 apply fm_congr
 intro i hi
 have hi:=List.mem_range.1 hi
 rw [List.getElem?_append_left hi,List.getElem?_eq_getElem hi]
 by_cases hk:k < q.known∨keyQ (xs[i])≠keyQ q
 ·rw [visB_lt hi hk]
 ·have hk1:¬ k < q.known:=fun h=>hk (.inl h)
  have hk2:keyQ (xs[i])=keyQ q:=by
   by_cases e:keyQ (xs[i])=keyQ q
   ·exact e
   ·exact absurd (.inr e) hk
  rcases hd with hd | ⟨-,hd⟩
  ·exact absurd hd hk1
  ·have ha:alive xs[i]=false:=by
     cases e:alive xs[i] with
     | false=>rfl
     | true=>exact absurd hk2 (hd _ (List.getElem_mem hi) e)
   split<;>split<;>simp [Option.filter,ha]
theorem cand_alive {src ins:List UInt8} {day stale:Int} {alive:QC→Bool} (ha:∀ z,alive z=false→z.src≠src∨z.ins≠ins∨day < z.day):∀ (l:List QC) (o:Option QC),l.foldl (candStep src ins day stale) o=(l.filter alive).foldl (candStep src ins day stale) o
 | [],o=>rfl
 | z :: r,o=>by
  rw [List.foldl_cons]
  cases e:alive z with
  | true=>rw [List.filter_cons,if_pos e,List.foldl_cons];exact cand_alive ha r _
  | false =>
   rw [List.filter_cons,if_neg (by rw [e];simp)]
   have:candStep src ins day stale o z=o:=by
    unfold candStep
    rw [if_neg]
    intro hc
    simp only [Bool.and_eq_true,decide_eq_true_eq] at hc
    rcases ha z e with h | h | h
    ·exact h hc.1
    ·exact h hc.2.1
    ·omega
   rw [this]
   exact cand_alive ha r o
theorem candL_alive {V W:List QC} {ins:List UInt8} {day stale:Int} {alive:QC→Bool} (h:V.filter alive=W.filter alive):∀ {srcs:List (List UInt8)},(∀ s∈srcs,∀ z,alive z=false→z.src≠s∨z.ins≠ins∨day < z.day)→candL V srcs ins day stale=candL W srcs ins day stale
 | [],_=>rfl
 | s :: r,hs=>by
  have e:candOf ins day stale V s=candOf ins day stale W s:=by
   unfold candOf
   rw [cand_alive (hs s (by simp)) V,cand_alive (hs s (by simp)) W,h]
  have ih:=candL_alive (day:=day) (stale:=stale) h (srcs:=r) (fun s h=>hs s (by simp [h]))
  unfold candL at ih ⊢
  rw [List.filterMap_cons,List.filterMap_cons,e,ih]
theorem quote_parts {dd kn:Int} {q:QC} (h:isQuote dd kn q):usable q.src=true∧insOk q.ins=true∧curOk q.cur=true∧(if q.void then q.price.beq zeroQ else priOk q.price)=true:=by
 obtain ⟨a1,a2,a3,a4,a5,a6⟩:=h
 refine ⟨?_,?_,?_,?_⟩
 ·simp [src4] at a1;rcases a1 with h | h | h | h<;>rw [h]<;>decide
 ·simp [papers] at a2;rcases a2 with h | h | h | h | h | h<;>rw [h]<;>decide
 ·simp at a3;rcases a3 with h | h | h<;>rw [h]<;>decide
 ·rcases a6 with ⟨v,p⟩ | ⟨v,p⟩
  ·obtain ⟨n,d,e,g1,g2,g3,g4,g5,g6,g7,g8⟩:=price_of p
   have:priOk q.price=true:=by
    unfold priOk sgn
    rw [g6,if_neg (by omega),if_neg (by omega)];rfl
   simp [v,this]
  ·rw [v,p];rfl
theorem valid_parts {q:QC} (h1:usable q.src=true) (h2:insOk q.ins=true) (h3:curOk q.cur=true) (h4:(if q.void then q.price.beq zeroQ else priOk q.price)=true) (d1:0≤q.day) (d2:q.day≤73048) (k1:1≤q.known) (k2:q.known≤2147483647):validQ q=true:=by
 unfold validQ rightQ knOk
 rw [h1,h2,h3,h4,decide_eq_true d1,decide_eq_true d2,decide_eq_true k1,decide_eq_true k2];rfl
def gold:List UInt8:=[71,79,76,68]
def othr:List UInt8:=[111,116,104,101,114]
structure isLate (q:QC):Prop where
 ok:validQ q=true
 kn:200≤q.known
 inn:q.In
 why:200 < q.known∨q.day=9498∨(q.ins=gold∧q.src∈src4)∨q.src=othr
def aliveQ (z:QC):Bool:=decide (z.src∈src4) && (decide (z.ins=acme) && decide (z.day≤9497))
theorem late_dead {q:QC} (h:isLate q) {xs:List QC} (hx:∀ x∈xs,validQ x=true):200 < q.known∨(aliveQ q=false∧∀ x∈xs,aliveQ x=true→keyQ x≠keyQ q):=by
 have hd:∀ z:QC,validQ z=true→0≤z.day∧z.day≤73048:=fun z hz=>by
  obtain ⟨-,-,h3,h4⟩:=right_facts (valid_right hz)
  exact ⟨h3,h4⟩
 have hal:∀ z:QC,aliveQ z=true→z.src∈src4∧z.ins=acme∧z.day≤9497:=fun z hz=>by
  unfold aliveQ at hz
  simpa using hz
 rcases h.why with h1 | h1 | ⟨h1,h2⟩ | h1
 ·exact .inl h1
 ·refine .inr ⟨?_,fun x hx2 ha he=>?_⟩
  ·unfold aliveQ;rw [h1];simp
  ·have:=key_day he (hd x (hx x hx2)) (hd q h.ok)
   have:=(hal x ha).2.2
   omega
 ·refine .inr ⟨?_,fun x hx2 ha he=>?_⟩
  ·unfold aliveQ;rw [h1];simp [gold,acme]
  ·obtain ⟨a1,a2,-⟩:=hal x ha
   unfold keyQ at he
   rw [a2,h1] at he
   simp only [src4,List.mem_cons,List.not_mem_nil,or_false] at a1 h2
   rcases a1 with a1 | a1 | a1 | a1<;>rcases h2 with h2 | h2 | h2 | h2<;>rw [a1,h2] at he<;>simp [acme,gold] at he
 ·refine .inr ⟨?_,fun x hx2 ha he=>?_⟩
  ·unfold aliveQ;rw [h1];simp [othr,src4]
  ·obtain ⟨a1,a2,-⟩:=hal x ha
   unfold keyQ at he
   rw [h1] at he
   simp only [src4,List.mem_cons,List.not_mem_nil,or_false] at a1
   rcases a1 with a1 | a1 | a1 | a1<;>rw [a1] at he<;>simp [othr] at he
theorem late_law {last:Int} {xs:List QC} (hb:IsBook 9497 last xs) (hl:last≤100) (hn:xs.length≤4000) {q:QC} (h:isLate q) {p:PL} (hp:∀ s∈p.srcs,s∈src4):cands (xs++[q]) 200 p acme 9497=cands xs 200 p acme 9497∧selE (xs++[q]) 200 p acme 9497=selE xs 200 p acme 9497:=by
 have hv:∀ x∈xs,validQ x=true:=fun x hx=>by
  obtain ⟨dd,kn,h1,h2,h3,h4⟩:=hb.each x hx
  have hk:=hb.bd x hx
  refine quote_valid h1 ?_ (by rw [← h1.2.2.2.2.1];exact hk.1) (by rw [← h1.2.2.2.2.1];omega)
  rcases h1.2.2.2.1.2 with h5 | h5<;>omega
 have c0:=book_chk hb (by omega) (by omega)
 have c1:chkQ (xs++[q])=0:=by
  refine chk_book (fun z hz=>?_) (by simp;omega) ?_
  ·rcases List.mem_append.1 hz with h2 | h2
   ·exact hv z h2
   ·rw [List.mem_singleton.1 h2];exact h.ok
  ·rw [List.pairwise_append]
   refine ⟨hb.up,by simp,fun a ha b hb2=>?_⟩
   rw [List.mem_singleton.1 hb2]
   have:=(hb.bd a ha).2
   have:=h.kn
   omega
 have hc:candC (xs++[q]) 200 p 9497=candC xs 200 p 9497:=by unfold candC;rw [c0,c1]
 have e:cands (xs++[q]) 200 p acme 9497=cands xs 200 p acme 9497:=by
  unfold cands
  rw [hc]
  have hf:=vis_snoc c0 c1 (alive:=aliveQ) (late_dead h hv)
  rw [candL_alive (alive:=aliveQ) hf fun s hs z hz=>?_]
  unfold aliveQ at hz
  have hs4:=hp s hs
  by_cases e1:z.src=s
  ·right
   rw [e1,decide_eq_true hs4,Bool.true_and] at hz
   by_cases e2:z.ins=acme
   ·right
    rw [decide_eq_true e2,Bool.true_and] at hz
    have:=of_decide_eq_false hz
    omega
   ·exact .inl e2
  ·exact .inl e1
 refine ⟨e,?_⟩
 unfold selE
 rw [hc,e]
theorem own_eq2 {v:Value} {e:TypeId} {sz n m:Nat} {A B:Array Value} (h:n=m) (h2:A=B):some (Blk.own v e sz n A)=some (Blk.own v e sz m B):=by rw [h,h2]
theorem late0 {q:QC} (h:isQuote 9497 200 q):isLate { q with known:=201 }:=by
 obtain ⟨p1,p2,p3,p4⟩:=quote_parts h
 have hi:=madeQ_in (day:=9497) ⟨9497,200,h,by decide,by decide,by decide⟩
 obtain ⟨h1,h2,h3,⟨h4,h5⟩,h6,h7⟩:=h
 exact ⟨valid_parts (q:={ q with known:=201 }) p1 p2 p3 p4 h4 (by show q.day≤_;omega) (by show (1:Int)≤201;decide) (by show (201:Int)≤2147483647;decide),by show (200:Int)≤201;decide,⟨hi.price,hi.src,hi.ins,hi.cur,hi.day⟩,.inl (by show (200:Int) < 201;decide)⟩
theorem late1 {q:QC} (h:isQuote 9497 200 q):isLate { q with day:=9498 }:=by
 obtain ⟨p1,p2,p3,p4⟩:=quote_parts h
 have hi:=madeQ_in (day:=9497) ⟨9497,200,h,by decide,by decide,by decide⟩
 obtain ⟨h1,h2,h3,⟨h4,h5⟩,h6,h7⟩:=h
 exact ⟨valid_parts (q:={ q with day:=9498 }) p1 p2 p3 p4 (by show (0:Int)≤9498;decide) (by show (9498:Int)≤_;decide) (by show 1≤q.known;omega) (by show q.known≤_;omega),by show 200≤q.known;omega,⟨hi.price,hi.src,hi.ins,hi.cur,by show (-9223372036854775808:Int)≤9498∧(9498:Int)≤9223372036854775807;decide⟩,.inr (.inl rfl)⟩
theorem late2 {q:QC} (h:isQuote 9497 200 q):isLate { q with ins:=gold }:=by
 obtain ⟨p1,p2,p3,p4⟩:=quote_parts h
 have hi:=madeQ_in (day:=9497) ⟨9497,200,h,by decide,by decide,by decide⟩
 obtain ⟨h1,h2,h3,⟨h4,h5⟩,h6,h7⟩:=h
 exact ⟨valid_parts (q:={ q with ins:=gold }) p1 (show insOk gold=true by decide) p3 p4 h4 (by show q.day≤_;omega) (by show 1≤q.known;omega) (by show q.known≤_;omega),by show 200≤q.known;omega,⟨hi.price,hi.src,by show gold.length≤_;decide,hi.cur,hi.day⟩,.inr (.inr (.inl ⟨rfl,h1⟩))⟩
theorem late3 {q:QC} (h:isQuote 9497 200 q):isLate { q with src:=othr }:=by
 obtain ⟨p1,p2,p3,p4⟩:=quote_parts h
 have hi:=madeQ_in (day:=9497) ⟨9497,200,h,by decide,by decide,by decide⟩
 obtain ⟨h1,h2,h3,⟨h4,h5⟩,h6,h7⟩:=h
 exact ⟨valid_parts (q:={ q with src:=othr }) (show usable othr=true by decide) p2 p3 p4 h4 (by show q.day≤_;omega) (by show 1≤q.known;omega) (by show q.known≤_;omega),by show 200≤q.known;omega,⟨hi.price,by show othr.length≤_;decide,hi.ins,hi.cur,hi.day⟩,.inr (.inr (.inr rfl))⟩
theorem QC.set3 (a:QC) (n:Int):a.A.setIfInBounds 3 (.int .i64 n)=({ a with day:=n }:QC).A:=by kernel_rfl
theorem QC.set1 (a:QC) (l:List UInt8):a.A.setIfInBounds 1 (.string (S l))=({ a with ins:=l }:QC).A:=by kernel_rfl
theorem QC.set0 (a:QC) (l:List UInt8):a.A.setIfInBounds 0 (.string (S l))=({ a with src:=l }:QC).A:=by kernel_rfl
theorem selectorLater_f {v:Value} {zs:List Int} (w:World) (hv:Tp (envC Tryz.prog tt Tryz.f7.ntmps w [] [] [15]).toEnv v zs):Calls Tryz.prog 7 #[v] w fun e w'=>e=.returned (.bool true)∧Below w.heap.size w w':=by
 refine sx_atXP [(15,[1,3,4,6,7,12,0,2,5,8,9,10,11,13,14],[6,0,7,1,2,8,3,4,9,10,11,12,5,13,14])] [15] tt_ok mixed at7 [v] _ w rfl ?_
 have hv0:=hv
 obtain ⟨a,cap,rfl,-⟩:=hv0
 refine ⟨_,fill_tape a zs.length cap rfl,rfl,?_⟩
 generalize hvv:Value.slice a zs.length cap=v at *
 obtain ⟨r2,k2,a2,b2,⟨i2,rfl,c2⟩,O2⟩:=next_g (n:=10) (by decide) zs 0 (by omega)
 obtain ⟨n,rfl⟩:∃ n:Nat,i2=n:=⟨i2.toNat,by omega⟩
 refine .inr (.inl ⟨_,_,_,O2 _ v 14 rfl hv,⟨rfl,trivial⟩,rfl,?_⟩)
 refine .inr (.inr (.inr ⟨[(1000,14)],[3000],[_,_,_],[_],_,quotes_z rfl hv (n:=n) (by omega) (by omega) (day:=9497) (by decide),rfl,⟨rfl,trivial⟩,rfl,trivial,?_⟩))
 rintro x U ⟨xs,k3,last,h1,h2,hx,hxs,hbk,hlast,hx0,rfl⟩
 refine ⟨rfl,?_⟩
 have hin:∀ y∈xs,y.In:=fun y hy=>madeQ_in (hbk.each y hy)
 refine .inr (.inr (.inr ⟨[(1000,14)],[9101],[_],[_],_,policy_z rfl hv (k:=k3) (by omega),rfl,⟨rfl,trivial⟩,rfl,trivial,?_⟩))
 rintro rp U ⟨p,y,m,k4,p1,p2,hpin,-,hps,hy,hm,hm1,hm4,rfl,rfl⟩
 have hk4:k4≤1000:=by omega
 have PF:Fits (p.A y) 68:=by obtain ⟨ya,yc,rfl⟩:=hy.len;exact p.fits (v:=.slice ya m yc) rfl
 have X1:=fun (E0:Env) (h0:E0.P=Tryz.prog) (x:Value) (xs:List QC) (nx:Nat) (e1:nx=xs.length) (e2:nx≤100) (hin:∀ y∈xs,y.In)=>select_own (E:=E0) h0 (x:=x) (y:=y) (xs:=xs) (p:=p) (nx:=nx) (ny:=m) e1 hm (by omega) (by omega) hin hpin 200 acme 9497
 generalize hPA:p.A y=PA at *
 refine ⟨rfl,PF,?_⟩
 refine .inr (.inr (.inr ⟨[(9200,3000)],[9000],[_,_,_,_,_],[_,_],_,X1 _ rfl x xs n hxs.symm (by omega) hin,rfl,⟨.inl rfl,.inl rfl,trivial⟩,rfl,trivial,?_⟩))
 rintro r1 U1 ⟨U0,⟨s1,n1,hn1,rfl,hs1,rfl⟩,rfl⟩
 refine ⟨rfl,?_⟩
 obtain ⟨sa1,sc1,rfl⟩:=hs1.len
 have CF1:=(selCh (cands xs 200 p acme 9497) p.tol).fits (a:=sa1) (n:=n1) (c:=sc1)
 have HP:=selCh_in (tol:=p.tol) (L:=cands xs 200 p acme 9497) fun z hz=>(cands_mem (k:=200) (p:=p) (ins:=acme) (day:=9497) (z:=z) hin hz).1
 have HL:=cands_len (xs:=xs) (k:=200) (p:=p) (ins:=acme) (day:=9497)
 have HB:=selBad_len (cands xs 200 p acme 9497) p.tol
 generalize hC1:(selCh (cands xs 200 p acme 9497) p.tol).A (.slice sa1 n1 sc1)=CH1 at *
 refine ⟨CF1,?_⟩
 obtain ⟨r5,k5,a5,b5,⟨q,rfl,c5⟩,O5⟩:=quote_g (day:=9497) (known:=200) (by decide) zs k4 (by omega)
 obtain ⟨r6,k6,a6,b6,⟨i6,rfl,c6⟩,O6⟩:=next_g (n:=4) (by decide) zs k5 (by omega)
 have QF:=q.fits
 have S70:=fun n=>q.set70 n
 have S3:=fun n=>q.set3 n
 have S1:=fun n=>q.set1 n
 have S0:=fun n=>q.set0 n
 generalize hQA:q.A=QA at *
 refine .inr (.inl ⟨_,_,_,O5 _ v 14 rfl hv,⟨rfl,trivial⟩,rfl,⟨QF,?_⟩⟩)
 refine ⟨fun f mm=>∃ (q:QC) (k6:Nat),isLate q∧f=[(4,SV.c (.int .i64 9497)),(5,SV.c x),(6,SV.ptr 6 0),(7,SV.ptr 7 0),(8,SV.c (.int .i64 (selE xs 200 p acme 9497))),(9,SV.ptr 9 0)]∧mm=[(6,Blk.row 31 68 PA),(7,Blk.row 33 70 CH1),(9,Blk.row 40 72 q.A),(3000,Blk.own x 40 72 n (cat QC.A xs)),(9101,Blk.own y 9 1 m (cat strA p.srcs)),(9000,Blk.own (.slice sa1 n1 sc1) 9 1 n1 (cat strA (selBad (cands xs 200 p acme 9497) p.tol)))],?_,?_⟩
 ·refine .inr (.inl ⟨_,_,_,O6 _ v 14 rfl hv,⟨rfl,trivial⟩,rfl,?_⟩)
  refine ⟨fun h0=>?_,fun h0=>⟨fun h1=>?_,fun h1=>⟨fun h2=>?_,fun h2=>?_⟩⟩⟩
  ·exact ⟨by decide,rfl,_,S70 201,_,_,⟨_,k6,late0 c5,rfl,rfl⟩,⟨rfl,rfl,rfl,rfl,rfl,rfl,trivial⟩,⟨rfl,rfl,rfl,.inl rfl,.inl rfl,.inl rfl,trivial⟩,rfl⟩
  ·exact ⟨by decide,rfl,_,S3 _,_,_,⟨_,k6,late1 c5,rfl,rfl⟩,⟨rfl,rfl,rfl,rfl,rfl,rfl,trivial⟩,⟨rfl,rfl,rfl,.inl rfl,.inl rfl,.inl rfl,trivial⟩,rfl⟩
  ·exact ⟨by decide,rfl,_,S1 gold,_,_,⟨_,k6,late2 c5,rfl,rfl⟩,⟨rfl,rfl,rfl,rfl,rfl,rfl,trivial⟩,⟨rfl,rfl,rfl,.inl rfl,.inl rfl,.inl rfl,trivial⟩,rfl⟩
  ·exact ⟨by decide,rfl,_,S0 othr,_,_,⟨_,k6,late3 c5,rfl,rfl⟩,⟨rfl,rfl,rfl,rfl,rfl,rfl,trivial⟩,⟨rfl,rfl,rfl,.inl rfl,.inl rfl,.inl rfl,trivial⟩,rfl⟩
 ·rintro f1 m1 ⟨q,k6,hq,rfl,rfl⟩
  clear O2 O5 O6 S70 S3 S1 S0 QF
  obtain ⟨l1,l2⟩:=late_law hbk (by omega) (by omega) hq hps
  have F1:=fill_quo1 q
  have F2:=q.fits.one
  have F3:=q.ext72
  have F4:q.A.size=1*72:=q.size
  have F5:cat QC.A xs++q.A=cat QC.A (xs++[q]):=cat_snoc xs q
  have X2:=fun (E0:Env) (h0:E0.P=Tryz.prog) (x:Value)=>X1 E0 h0 x (xs++[q]) (n+1) (by simp [hxs]) (by omega) (fun z hz=>by
   rcases List.mem_append.1 hz with h9 | h9
   ·exact hin z h9
   ·rw [List.mem_singleton.1 h9];exact hq.inn)
  rw [← F5] at X2
  generalize hYA:q.A=YA at *
  generalize hXA:cat QC.A xs=XA at *
  have hxa:XA.all (·.oneCell')=true:=by rw [← hXA];exact Go.SX.cat_all QC.all1 xs
  have hxn:XA.size=n*72:=by rw [← hXA,Go.SX.cat_size QC.size,hxs]
  refine ⟨by kernel_rfl,.inl ⟨by decide,by decide,_,F1,F4,?_⟩⟩
  refine build_none tt_ok rfl rfl (i:=ti22) rfl rfl (j:=ti40) rfl 6000 rfl (by change _=true;kernel_rfl) fun g=>?_
  obtain ⟨q0,hq0,hb0⟩:=info_quo
  refine ⟨by decide,6000,0,#[],.inl rfl,?_⟩
  rcases Nat.eq_zero_or_pos n with hn | hn
  ·refine .inl ⟨by rw [hx0 hn];rfl,?_⟩
   have hXe:XA=#[]:=Array.eq_empty_of_size_eq_zero (by omega)
   refine ⟨by decide,6000,0,#[],.inl rfl,by decide,F2,F4,_,F3,by omega,by unfold maxLen;omega,⟨q0,hq0,by rw [hb0];omega⟩,by change _=true;kernel_rfl,fun g3 cap3=>?_⟩
   refine .inr (.inr (.inr ⟨[(9200,6000),(9000,9001)],[9001],[_,_,_,_,_],[_,_],_,X2 _ rfl (.slice (some ⟨g3,0,none⟩) (0+1) cap3),rfl,⟨.inl (own_eq2 (by omega) (by simp [hXe])),.inl rfl,trivial⟩,rfl,by change _=true;kernel_rfl,?_⟩))
   rintro r2 U2 ⟨U0,⟨s2,n2,hn2,rfl,hs2,rfl⟩,rfl⟩
   refine ⟨rfl,?_⟩
   rw [l1] at hn2 ⊢
   rw [l2]
   obtain ⟨sa2,sc2,rfl⟩:=hs2.len
   have hn21:n2=n1:=by rw [hn2,hn1]
   subst hn21
   have CF2:=(selCh (cands xs 200 p acme 9497) p.tol).fits (a:=sa2) (n:=n2) (c:=sc2)
   have W1:=same_own (E:=(envC Tryz.prog tt Tryz.f7.ntmps w [] [] [15]).toEnv) rfl (x:=.slice sa1 n2 sc1) (y:=.slice sa2 n2 sc2) (h:=selCh (cands xs 200 p acme 9497) p.tol) HP (xs:=selBad (cands xs 200 p acme 9497) p.tol) hn2 hn2 (by omega)
   rw [hC1] at W1
   generalize hC2:(selCh (cands xs 200 p acme 9497) p.tol).A (.slice sa2 n2 sc2)=CH2 at *
   refine ⟨CF2,by kernel_rfl,.inl ⟨_,known_f,fun _=>?_,fun h=>absurd h (by decide)⟩⟩
   have e2:∀ n:Int,(n == n)=true:=fun n=>by simp
   refine ⟨fun _=>?_,fun h=>absurd ((e2 _).symm.trans h) (by decide)⟩
   refine .inr (.inr (.inl ⟨[],[_,_],[_,_],_,[_,_],W1,rfl,⟨.inl rfl,.inl rfl,trivial⟩,rfl,rfl,?_⟩))
   exact ⟨rfl,trivial⟩
  ·refine .inr ⟨[3000],n,XA,src_own rfl hxa hxn hn,by omega,by unfold maxLen;omega,⟨q0,hq0,by rw [hb0];omega⟩,by change _=true;kernel_rfl,fun g2 cap2=>?_⟩
   refine ⟨by decide,6000,(0+n),(#[]++XA),.inl rfl,by decide,F2,F4,_,F3,by omega,by unfold maxLen;omega,⟨q0,hq0,by rw [hb0];omega⟩,by change _=true;kernel_rfl,fun g3 cap3=>?_⟩
   refine .inr (.inr (.inr ⟨[(9200,6000),(9000,9001)],[9001],[_,_,_,_,_],[_,_],_,X2 _ rfl (.slice (some ⟨g3,0,none⟩) ((0+n)+1) cap3),rfl,⟨.inl (own_eq2 (by omega) (by simp)),.inl rfl,trivial⟩,rfl,by change _=true;kernel_rfl,?_⟩))
   rintro r2 U2 ⟨U0,⟨s2,n2,hn2,rfl,hs2,rfl⟩,rfl⟩
   refine ⟨rfl,?_⟩
   rw [l1] at hn2 ⊢
   rw [l2]
   obtain ⟨sa2,sc2,rfl⟩:=hs2.len
   have hn21:n2=n1:=by rw [hn2,hn1]
   subst hn21
   have CF2:=(selCh (cands xs 200 p acme 9497) p.tol).fits (a:=sa2) (n:=n2) (c:=sc2)
   have W1:=same_own (E:=(envC Tryz.prog tt Tryz.f7.ntmps w [] [] [15]).toEnv) rfl (x:=.slice sa1 n2 sc1) (y:=.slice sa2 n2 sc2) (h:=selCh (cands xs 200 p acme 9497) p.tol) HP (xs:=selBad (cands xs 200 p acme 9497) p.tol) hn2 hn2 (by omega)
   rw [hC1] at W1
   generalize hC2:(selCh (cands xs 200 p acme 9497) p.tol).A (.slice sa2 n2 sc2)=CH2 at *
   refine ⟨CF2,by kernel_rfl,.inl ⟨_,known_f,fun _=>?_,fun h=>absurd h (by decide)⟩⟩
   have e2:∀ n:Int,(n == n)=true:=fun n=>by simp
   refine ⟨fun _=>?_,fun h=>absurd ((e2 _).symm.trans h) (by decide)⟩
   refine .inr (.inr (.inl ⟨[],[_,_],[_,_],_,[_,_],W1,rfl,⟨.inl rfl,.inl rfl,trivial⟩,rfl,rfl,?_⟩))
   exact ⟨rfl,trivial⟩
end Go.Proofs.YtinojijgeabfnaaGreatDoor
