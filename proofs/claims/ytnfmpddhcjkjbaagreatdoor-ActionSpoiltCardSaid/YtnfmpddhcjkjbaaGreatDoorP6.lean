/- An abstract walk: lists of the call's own, handed to a callee that only reads them (old memory stays old); no condition. -/
import Derived.Test.YtnfmpddhcjkjbaaGreatDoorP5
set_option maxRecDepth 100000
set_option maxHeartbeats 4000000
namespace Go.SX
open Go Go.RowKit
theorem OwnC.with_own2 {E:Env} {f:FuncId} {as:List SV} {pre:MemL} {Q:Value→MemL→Prop} {k:Key} {v:Value} {e:TypeId} {sz n:Nat} {A:Array Value} (hk:getM pre k=none) (hd:distinct (keysM pre)=true) (hA:A.all (·.oneCell')=true) (hent:Enters E.P f)
    (h:∀ E0:Env,E0.P=E.P→(∀ w,OldW E0 w→OldW E w)→Lst E0 v sz n A→OwnC E0 f as pre Q) (hQ:∀ x U,Q x U→getM U k=none):OwnC E f as ((k,Blk.own v e sz n A) :: pre) (fun x U=>∃ U0,Q x U0∧U=(k,Blk.own v e sz n A) :: U0):=by
 refine ⟨hent,fun ρ w xs hw hx=>?_⟩
 have hgk:getM ((k,Blk.own v e sz n A) :: pre) k=some (Blk.own v e sz n A):=by simp [getM]
 have hgo:∀ d B,getM pre d=some B→getM ((k,Blk.own v e sz n A) :: pre) d=some B:=fun d B hB=>by
  simp only [getM]
  rw [if_neg]
  ·exact hB
  ·rintro rfl;rw [hk] at hB;cases hB
 have hρk:=(hw.loose k _ hgk rfl).1
 have hrow:w.ownsRow 0 e sz v n A.toList:=(hw.loose k _ hgk rfl).2
 have hnk:∀ b,v.ownBlock=some b→b∉numsOf ρ pre:=fun b hb hm=>by
  obtain ⟨h1,h2,h3⟩:=hw.sep k _ b hgk hb
  obtain ⟨p,hp,h4⟩:=mem_nums.1 hm
  have hg:=getM_of_mem hd hp
  rcases h4 with ⟨h4,h5⟩ | ⟨h4,h5⟩
  ·exact h2 _ h5
  ·have:=h3 _ _ (hgo _ _ hg) h5
   rw [this] at hg;rw [hk] at hg;cases hg
 let E0:Env:={ E with w0:=w,X:=numsOf ρ pre }
 have hlst:Lst E0 v sz n A:=by
  rcases hrow.2 with ⟨rfl,rfl⟩ | ⟨g,cap,cur,rfl,hb,hg,hnc,hcm,hcs,htake⟩
  ·have hA0:A=#[]:=by simpa using hrow.1
   subst hA0
   exact Lst.nil E0 sz
  ·have hs:A.size=n*sz:=by simpa using hrow.1
   refine ⟨hs,Nat.le_trans hnc hcm,hA,some ⟨g,0,none⟩,cap,rfl,hnc,fun _=>⟨g,0,rfl,fun w' hw' j u hj=>?_⟩⟩
   have hgl:=(Array.getElem?_eq_some_iff.1 hg).1
   have h1:w'.heap[g]? = w.heap[g]?:=hw'.old g hgl (hnk g rfl)
   rw [Nat.zero_add,row_cell (h1.trans hg),pre_get (by rw [hs];exact htake) (Array.getElem?_eq_some_iff.1 hj).1]
   exact hj
 have hw0:Wd E0.np ρ (getM pre) w:=by
  refine ⟨rfl,rfl,rfl,Nat.le_refl _,fun _ _ _=>rfl,fun d B hB ht=>?_,fun d hdn=>?_,fun d B hB ht=>?_,fun d B b hB hb=>?_,hw.inj,fun d k' B hk'=>by simp [Env.np] at hk'⟩
  ·obtain ⟨k',o,h1,h2,h3,h4⟩:=hw.blk d B (hgo d B hB) ht
   exact ⟨k',o,h1,.inr (mem_nums.2 ⟨_,getM_mem hB,.inl ⟨ht,h1⟩⟩),h3,h4⟩
  ·by_cases e1:k=d
   ·subst e1;exact hρk
   ·exact hw.dom d (by simp only [getM,if_neg e1];exact hdn)
  ·exact hw.loose d B (hgo d B hB) ht
  ·obtain ⟨h1,h2,h3⟩:=hw.sep d B b (hgo d B hB) hb
   refine ⟨.inr (mem_nums.2 ⟨_,getM_mem hB,?_⟩),h2,fun e' B' he hb'=>h3 e' B' (hgo e' B' he) hb'⟩
   cases ht:B.tied with
   | true=>rw [Blk.num_none ht] at hb;cases hb
   | false=>exact .inr ⟨by first | exact ht | rfl,hb⟩
 have hE0:∀ w',OldW E0 w'→OldW E w':=fun w' h'=>by
  refine ⟨h'.os.trans hw.os,h'.tape.trans hw.tape,h'.output.trans hw.output,Nat.le_trans hw.size h'.size,fun k' hk' hx'=>?_⟩
  rw [h'.old k' (Nat.lt_of_lt_of_le hk' hw.size) fun h5=>?_]
  ·exact hw.old k' hk' hx'
  ·obtain ⟨p,hp,h5⟩:=mem_nums.1 h5
   have hg:=hgo _ _ (getM_of_mem hd hp)
   rcases h5 with ⟨h5,h6⟩ | ⟨h5,h6⟩
   ·obtain ⟨k2,o,h7,h8,-⟩:=hw.blk _ _ hg h5
    rw [h6] at h7;cases h7
    rcases h8 with h8 | h8
    ·have h8:E.w0.heap.size≤k':=h8
     omega
    ·exact hx' h8
   ·rcases (hw.sep _ _ k' hg h6).1 with h8 | h8
    ·have h8:E.w0.heap.size≤k':=h8
     omega
    ·exact hx' h8
 refine ((h E0 rfl hE0 hlst).2 ρ w xs hw0 hx).mono fun en w' ⟨x,U,h1,h2,h3,h4⟩=>⟨x,_,h1,⟨U,h2,rfl⟩,?_,?_⟩
 · -- the world behind it
  have hUk:=hQ x U h2
  have hUo:∀ d B,getM ((k,Blk.own v e sz n A) :: U) d=some B→(d=k∧B=Blk.own v e sz n A)∨getM U d=some B:=fun d B hB=>by
   simp only [getM] at hB
   split at hB
   ·rename_i e1;cases hB;exact .inl ⟨e1.symm,rfl⟩
   ·exact .inr hB
  have hsame:∀ b,v.ownBlock=some b→w'.heap[b]? = w.heap[b]?:=fun b hb=>h4.keep b (World.ownsRow.lt hrow b hb).2 fun p hp=>⟨fun h5=>(hw.sep k _ b hgk hb).2.1 _ h5,fun h5=>by
   have:=(hw.sep k _ b hgk hb).2.2 _ _ (hgo _ _ (getM_of_mem hd hp)) h5
   have hg:=getM_of_mem hd hp
   rw [this,hk] at hg;cases hg⟩
  have hold:OldW E w':=by
   refine ⟨h3.os.trans hw.os,h3.tape.trans hw.tape,h3.output.trans hw.output,Nat.le_trans hw.size h3.size,fun k' hk' hx'=>?_⟩
   rw [h4.keep k' (Nat.lt_of_lt_of_le hk' hw.size) fun p hp=>?_]
   ·exact hw.old k' hk' hx'
   ·have hg:=hgo _ _ (getM_of_mem hd hp)
    refine ⟨fun h5=>?_,fun h5=>?_⟩
    ·obtain ⟨B,hB,hBt⟩:=hw.tied_of h5
     obtain ⟨k2,o,h6,h7,-⟩:=hw.blk _ B hB hBt
     rw [h5] at h6;cases h6
     rcases h7 with h7 | h7
     ·have h7:E.w0.heap.size≤k':=h7
      omega
     ·exact hx' h7
    ·rcases (hw.sep _ _ k' hg h5).1 with h7 | h7
     ·have h7:E.w0.heap.size≤k':=h7
      omega
     ·exact hx' h7
  have hbase:∀ b,b∈numsOf ρ pre→E.w0.heap.size≤b∨b∈E.X:=fun b hb=>by
   obtain ⟨p,hp,h5⟩:=mem_nums.1 hb
   have hg:=hgo _ _ (getM_of_mem hd hp)
   rcases h5 with ⟨h5,h6⟩ | ⟨h5,h6⟩
   ·obtain ⟨k2,o,h7,h8,-⟩:=hw.blk _ _ hg h5
    rw [h6] at h7;cases h7;exact h8
   ·exact (hw.sep _ _ b hg h6).1
  refine ⟨hold.os,hold.tape,hold.output,hold.size,hold.old,fun d B hB ht=>?_,fun d hdn=>?_,fun d B hB ht=>?_,fun d B b hB hb=>?_,h3.inj,fun d k' B hk'=>by simp [Env.np] at hk'⟩
  ·rcases hUo d B hB with ⟨-,rfl⟩ | hB
   ·cases ht
   ·obtain ⟨k',o,h5,h6,h7,h8⟩:=h3.blk d B hB ht
    refine ⟨k',o,h5,?_,h7,h8⟩
    rcases h6 with h6 | h6
    ·exact .inl (Nat.le_trans hw.size h6)
    ·exact hbase k' h6
  ·by_cases e1:k=d
   ·subst e1;exact hρk
   ·simp only [getM,if_neg e1] at hdn;exact h3.dom d hdn
  ·rcases hUo d B hB with ⟨rfl,rfl⟩ | hB
   ·exact ⟨hρk,Blk.at_same (B:=Blk.own v e sz n A) hsame hrow⟩
   ·exact h3.loose d B hB ht
  ·rcases hUo d B hB with ⟨rfl,rfl⟩ | _
   ·obtain ⟨h5,h6,h7⟩:=hw.sep d _ b hgk hb
    refine ⟨h5,h6,fun e' B' he hb'=>?_⟩
    rcases hUo e' B' he with ⟨rfl,rfl⟩ | he
    ·rfl
    ·exfalso
     rcases h4.fresh e' B' b he hb' with h8 | ⟨p,hp,h8⟩
     ·have:=(World.ownsRow.lt hrow b hb).2;omega
     ·have:=h7 _ _ (hgo _ _ (getM_of_mem hd hp)) h8
      have hg:=getM_of_mem hd hp
      rw [this,hk] at hg;cases hg
   ·rename_i hB2
    obtain ⟨h5,h6,h7⟩:=h3.sep d B b hB2 hb
    refine ⟨?_,h6,fun e' B' he hb'=>?_⟩
    ·rcases h5 with h5 | h5
     ·exact .inl (Nat.le_trans hw.size h5)
     ·exact hbase b h5
    ·rcases hUo e' B' he with ⟨rfl,rfl⟩ | he
     ·exfalso
      have hb':v.ownBlock=some b:=hb'
      rcases h4.fresh d B b hB2 hb with h8 | ⟨p,hp,h8⟩
      ·have:=(World.ownsRow.lt hrow b hb').2;omega
      ·have:=(hw.sep _ _ b hgk hb').2.2 _ _ (hgo _ _ (getM_of_mem hd hp)) h8
       have hg:=getM_of_mem hd hp
       rw [this,hk] at hg;cases hg
     ·exact h7 e' B' he hb'
 ·refine ⟨h4.size,fun k' hk' hne=>h4.keep k' hk' fun p hp=>hne p (by simp [hp]),fun d B b hB hb=>?_⟩
  simp only [getM] at hB
  split at hB
  ·cases hB
   exact .inr ⟨(k,Blk.own v e sz n A),by simp,hb⟩
  ·rcases h4.fresh d B b hB hb with h5 | ⟨p,hp,h5⟩
   ·exact .inl h5
   ·exact .inr ⟨p,by simp [hp],h5⟩
end Go.SX
