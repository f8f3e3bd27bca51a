/- Turning live objects: new ones, cells stored. No program is named here. -/
import Derived.Test.YtkpnnfhodlanjaaGreatDoorPiI
set_option linter.unusedSimpArgs false
set_option linter.unusedVariables false
set_option linter.unnecessarySimpa false
namespace Go.Pi
open Go.Eng
structure Set1 (w w':World) (b:Nat) (o:Obj):Prop where
 blk:w'.heap[b]?=some o
 other:∀ k,k≠b→w'.heap[k]?=w.heap[k]?
 size:w'.heap.size=w.heap.size
 os:w'.os=w.os
 tape:w'.tape=w.tape
 output:w'.output=w.output
theorem b3b (w:World) {b i:Nat} {cs:Array Value} {T:TypeId} {fr:Nat × Nat} (hb:w.heap[b]?=some (.cells cs T fr)) (v:Value):Set1 w (w.setCell ⟨b,i,none⟩ v) b (.cells (cs.setIfInBounds i v) T fr):=by
 have hlt:=(Array.getElem?_eq_some_iff.1 hb).1
 refine ⟨?_,fun k hk=>?_,by simp [World.setCell],rfl,rfl,rfl⟩
 ·simp [World.setCell,Array.getElem?_modify,hb]
 ·have hne:¬ b=k:=fun hh=>hk hh.symm
  simp [World.setCell,Array.getElem?_modify,hne]
theorem Set1.trans {w w' w'':World} {b:Nat} {o o':Obj} (h:Set1 w w' b o) (k:Set1 w' w'' b o'):Set1 w w'' b o' :=
 ⟨k.blk,fun i hi=>(k.other i hi).trans (h.other i hi),k.size.trans h.size,k.os.trans h.os,k.tape.trans h.tape,k.output.trans h.output⟩
theorem Set1.self {w:World} {b:Nat} {o:Obj} (h:w.heap[b]?=some o):Set1 w w b o:=⟨h,fun _ _=>rfl,rfl,rfl,rfl,rfl⟩
theorem a1p {P:Program} {T:TypeId} {fr:Nat × Nat} {b i:Nat}:∀ (vs:List Value) (w:World) (cs:List Value) (k:Nat),w.heap[b]?=some (.cells cs.toArray T fr)→Fr0 fr cs.length→i+k+vs.length≤cs.length→(∀ v∈vs,v.oneCell'=true) →
  ∃ w',(storeCells ⟨b,i,none⟩ vs k).run P w = .ok () w'∧Set1 w w' b (.cells (cs.take (i+k)++vs++cs.drop (i+k+vs.length)).toArray T fr)
 | [],w,cs,k,hb,hf,hl,h1=>⟨w,by simp [storeCells],by simpa using Set1.self hb⟩
 | v::r,w,cs,k,hb,hf,hl,h1=>by
  simp only [c9e] at hl
  have hlt:i+k<cs.length:=by omega
  have hc:w.cell? ⟨b,i+k,none⟩=some cs[i+k]:=by
   simp only [World.cell?,hb]
   simp [hlt]
  have hfz:w.frozen? ⟨b,i+k,none⟩=false:=by
   simp only [World.frozen?,hb]
   rcases hf with rfl | hf
   ·simp
   ·simp;omega
  have hs:(store ⟨b,i+k,none⟩ v).run P w = .ok () (w.setCell ⟨b,i+k,none⟩ v):=by
   rw [run_store _ _ _ _ _ (h1 v (List.mem_cons_self ..))]
   simp [hc,hfz]
  have hset:=b3b w (i:=i+k) hb v
  have hb':(w.setCell ⟨b,i+k,none⟩ v).heap[b]?=some (.cells (cs.set (i+k) v).toArray T fr):=by
   rw [hset.blk]
   simp
  obtain ⟨w',hr,hs'⟩:=a1p (i:=i) r (w.setCell ⟨b,i+k,none⟩ v) (cs.set (i+k) v) (k+1) hb' (by simpa using hf) (by simp;omega) (fun x hx=>h1 x (List.mem_cons_of_mem _ hx))
  refine ⟨w',?_,?_⟩
  ·simp only [storeCells,Sem.run_bind,Addr.add_lit,hs,Result.andThen_ok]
   exact hr
  ·have:=hset.trans hs'
   have e:(cs.set (i+k) v).take (i+(k+1))++r++(cs.set (i+k) v).drop (i+(k+1)+r.length)=cs.take (i+k)++v::r++cs.drop (i+k+(v::r).length):=by
    have e1:(cs.set (i+k) v).take (i+(k+1))=cs.take (i+k)++[v]:=by
     rw [show i+(k+1)=(i+k)+1 from by omega,List.take_succ_eq_append_getElem (by simp;omega)]
     simp only [List.getElem_set_self,List.take_set]
     rw [List.set_eq_of_length_le (by simp;omega)]
    have e2:(cs.set (i+k) v).drop (i+(k+1)+r.length)=cs.drop (i+k+(v::r).length):=by
     rw [List.drop_set_of_lt (by omega)]
     simp only [c9e]
     congr 1
     omega
    rw [e1,e2]
    simp
   rw [e] at this
   exact this
section obj
variable {g:Gh} {h:Hp}
theorem a2C (hi:Inv g h) {w':World} {U sz cap:Nat} {rows:List (List D)} {cs:Array Value} {fr:Nat × Nat} (hh:w'.heap=g.w.heap.push (.cells cs U fr)) (hos:w'.os=g.w.os) (ht:w'.tape=g.w.tape) (ho:w'.output=g.w.output)
  (hfr:Fr fr cs.size sz) (hpos:0<sz) (hlc:rows.length≤cap) (hroom:cap*sz≤cs.size) (hrow:∀ r∈rows,r.length=sz)
  (hcell:∀ (i:Nat) (row:List D),rows[i]?=some row→∀ (j:Nat) (d:D),row[j]?=some d→∃ v,cs[i*sz+j]?=some v∧v.oneCell'=true∧Rep g v d) :
  ∃ g':Gh,g'.w=w'∧Ext g g'∧Inv g' (a1h h U sz rows)∧g'.ms[h.length]?=some ⟨g.w.heap.size,sz,rows.length,cap⟩:=by
 let g':Gh:=⟨w',g.ms++[⟨g.w.heap.size,sz,rows.length,cap⟩],fun b=>g.L b∨b=g.w.heap.size⟩
 have hold:∀ b,b<g.w.heap.size→w'.heap[b]?=g.w.heap[b]?:=fun b hb=>by rw [hh,Array.getElem?_push_lt hb,Array.getElem?_eq_getElem hb]
 have hsz:w'.heap.size=g.w.heap.size+1:=by rw [hh];simp
 have he:Ext g g':=⟨⟨hos,ht,ho,by show g.w.heap.size≤w'.heap.size;omega,(fun o m hm=>by
   show (g.ms++_)[o]?=some m
   rw [c9l (c9d.1 hm).1];exact hm),fun b hb=>⟨⟨by show b<w'.heap.size;have:=hb.1;omega,fun hh'=>by
    rcases hh' with hh' | hh'
    ·exact hb.2 hh'
    ·have:=hb.1;omega⟩,hold b hb.1⟩⟩,fun b hb=>⟨⟨by show b<w'.heap.size;have:=hb.1;omega,.inl hb.2.1,fun o m hm=>by
     have hm':(g.ms++[(⟨g.w.heap.size,sz,rows.length,cap⟩:Me)])[o]?=some m:=hm
     rcases Nat.lt_or_ge o g.ms.length with hlt | hge
     ·rw [c9l hlt] at hm';exact hb.2.2 o m hm'
     ·rw [List.getElem?_append_right hge] at hm'
      have:=c9b hm'
      simp at this
      subst this
      have:=hb.1
      show g.w.heap.size≠b
      omega⟩,hold b hb.1⟩⟩
 have hmold:∀ o m,g'.ms[o]?=some m→o<h.length→g.ms[o]?=some m:=fun o m hm hlt=>by
  have:(g.ms++[(⟨g.w.heap.size,sz,rows.length,cap⟩:Me)])[o]?=some m:=hm
  rwa [c9l (by rw [hi.len];exact hlt)] at this
 have hmnew:g'.ms[h.length]?=some ⟨g.w.heap.size,sz,rows.length,cap⟩:=by
  show (g.ms++_)[h.length]?=_
  rw [← hi.len];simp
 have hhold:∀ (o:Nat) (ob:Ob),(a1h h U sz rows)[o]?=some ob→(o<h.length∧h[o]?=some ob)∨(o=h.length∧ob = .row U sz rows):=fun o ob hob=>by
  unfold a1h at hob
  rcases Nat.lt_trichotomy o h.length with hlt | heq | hgt
  ·rw [c9l hlt] at hob;exact .inl ⟨hlt,hob⟩
  ·subst heq
   simp at hob
   exact .inr ⟨rfl,hob.symm⟩
  ·exfalso
   have:=(c9d.1 hob).1
   simp at this
   omega
 refine ⟨g',rfl,he,⟨?_,fun o T' sz' rows' ho'=>?_,fun o o' T1 s1 T2 s2 r1 r2 m m' h1 h2 h3 h4 h5=>?_,fun b hb=>?_,fun o m hm=>?_⟩,hmnew⟩
 ·show (g.ms++_).length=(h++_).length
  simp [hi.len]
 ·rcases hhold o _ ho' with ⟨hlt,ho'⟩ | ⟨rfl,heq⟩
  ·obtain ⟨m,cs',hm,hl⟩:=hi.live o T' sz' rows' ho'
   refine ⟨m,cs',he.ms o m hm,?_,hl.hsz,hl.pos,.inl hl.hL,hl.len,hl.le,hl.room,hl.row,fun i row h2 j d h3=>?_⟩
   ·have:=hold m.b (hi.Llt hl.hL)
    show ∃ fr,w'.heap[m.b]?=_∧_
    rw [this];exact hl.blk
   ·obtain ⟨v,h4,h5,h6⟩:=hl.cell i row h2 j d h3
    exact ⟨v,h4,h5,h6.ext he⟩
  ·injection heq with e1 e2 e3
   subst e1;subst e2;subst e3
   refine ⟨_,cs,hmnew,⟨fr,?_,hfr⟩,rfl,hpos,.inr rfl,rfl,hlc,hroom,hrow,fun i row h2 j d h3=>?_⟩
   ·show w'.heap[g.w.heap.size]?=_
    rw [hh];simp
   ·obtain ⟨v,h4,h5,h6⟩:=hcell i row h2 j d h3
    exact ⟨v,h4,h5,h6.ext he⟩
 ·rcases hhold o _ h1 with ⟨hlt,h1⟩ | ⟨rfl,heq⟩
  ·rcases hhold o' _ h2 with ⟨hlt',h2⟩ | ⟨rfl,heq'⟩
   ·exact hi.inj o o' T1 s1 T2 s2 r1 r2 m m' h1 h2 (hmold o m h3 hlt) (hmold o' m' h4 hlt') h5
   ·exfalso
    obtain ⟨mm,cs',hm,hl⟩:=hi.live o T1 s1 r1 h1
    have e1:=hmold o m h3 hlt
    rw [e1] at hm
    injection hm with hm
    subst hm
    rw [hmnew] at h4
    injection h4 with h4
    subst h4
    have:=hi.Llt hl.hL
    rw [h5] at this
    simp at this
  ·rcases hhold o' _ h2 with ⟨hlt',h2⟩ | ⟨rfl,heq'⟩
   ·exfalso
    obtain ⟨mm,cs',hm,hl⟩:=hi.live o' T2 s2 r2 h2
    have e1:=hmold o' m' h4 hlt'
    rw [e1] at hm
    injection hm with hm
    subst hm
    rw [hmnew] at h3
    injection h3 with h3
    subst h3
    have:=hi.Llt hl.hL
    rw [← h5] at this
    simp at this
   ·rfl
 ·show b<w'.heap.size
  rcases hb with hb | hb
  ·have:=hi.L b hb;omega
  ·omega
 ·show m.b<w'.heap.size
  have hm':(g.ms++[(⟨g.w.heap.size,sz,rows.length,cap⟩:Me)])[o]?=some m:=hm
  rcases Nat.lt_or_ge o g.ms.length with hlt | hge
  ·rw [c9l hlt] at hm'
   have:=hi.msb o m hm';omega
  ·rw [List.getElem?_append_right hge] at hm'
   have:=c9b hm'
   simp at this
   subst this
   show g.w.heap.size<w'.heap.size
   omega
theorem a8c (hi:Inv g h) {w':World} {o U sz:Nat} {rows rows':List (List D)} {m:Me} {cs cs':Array Value} {fr:Nat × Nat} (ho:h[o]?=some (.row U sz rows)) (hm:g.ms[o]?=some m) (hl:Live g m U sz rows cs)
  (hs:Set1 g.w w' m.b (.cells cs' U fr)) (hfr:Fr fr cs'.size sz) (hsz:cs'.size=cs.size) (hlen:rows'.length=rows.length) (hrow:∀ r∈rows',r.length=sz)
  (hcell:∀ (i:Nat) (row:List D),rows'[i]?=some row→∀ (j:Nat) (d:D),row[j]?=some d→∃ v,cs'[i*sz+j]?=some v∧v.oneCell'=true∧Rep g v d) :
  ∃ g':Gh,g'.w=w'∧Ext g g'∧Inv g' (h.set o (.row U sz rows'))∧g'.ms=g.ms:=by
 let g':Gh:=⟨w',g.ms,g.L⟩
 have he:Ext g g':=⟨⟨hs.os,hs.tape,hs.output,by show g.w.heap.size≤w'.heap.size;rw [hs.size];exact Nat.le_refl _,fun _ _ hh=>hh,fun b hb=>by
  have hne:b≠m.b:=fun hh=>hb.2 (hh▸hl.hL)
  exact ⟨⟨by show b<w'.heap.size;rw [hs.size];exact hb.1,hb.2⟩,hs.other b hne⟩⟩,fun b hb=>⟨⟨by show b<w'.heap.size;rw [hs.size];exact hb.1,hb.2.1,hb.2.2⟩,hs.other b fun hh=>hb.2.2 o m hm hh.symm⟩⟩
 have hget:∀ (q:Nat) (ob:Ob),(h.set o (.row U sz rows'))[q]?=some ob→(q=o∧ob = .row U sz rows')∨(q≠o∧h[q]?=some ob):=fun q ob hq=>by
  by_cases hqo:q=o
  ·subst hqo
   have hlt:=(c9d.1 ho).1
   rw [List.getElem?_set_self hlt] at hq
   injection hq with hq
   exact .inl ⟨rfl,hq.symm⟩
  ·rw [c9m (fun hh=>hqo hh.symm)] at hq
   exact .inr ⟨hqo,hq⟩
 have hlive:∀ (q:Nat) (T1 s1:Nat) (r1:List (List D)),(h.set o (.row U sz rows'))[q]?=some (.row T1 s1 r1)→∃ r0,h[q]?=some (.row T1 s1 r0):=fun q T1 s1 r1 hq=>by
  rcases hget q _ hq with ⟨rfl,heq⟩ | ⟨_,hq⟩
  ·injection heq with e1 e2 e3
   subst e1;subst e2
   exact ⟨rows,ho⟩
  ·exact ⟨r1,hq⟩
 refine ⟨g',rfl,he,⟨by show g.ms.length=_;simp [hi.len],fun q T1 s1 r1 hq=>?_,fun q q' T1 s1 T2 s2 r1 r2 m1 m2 h1 h2 h3 h4 h5=>?_,fun b hb=>?_,fun q mq hq=>by show mq.b<w'.heap.size;rw [hs.size];exact hi.msb q mq hq⟩,rfl⟩
 ·rcases hget q _ hq with ⟨rfl,heq⟩ | ⟨hne,hq⟩
  ·injection heq with e1 e2 e3
   subst e1;subst e2;subst e3
   refine ⟨m,cs',hm,⟨fr,hs.blk,hfr⟩,hl.hsz,hl.pos,hl.hL,by rw [hlen];exact hl.len,hl.le,by rw [hsz];exact hl.room,hrow,fun i row h2 j d h3=>?_⟩
   obtain ⟨v,h4,h5,h6⟩:=hcell i row h2 j d h3
   exact ⟨v,h4,h5,h6.ext he⟩
  ·obtain ⟨m1,c1,hm1,hl1⟩:=hi.live q T1 s1 r1 hq
   have hbn:m1.b≠m.b:=fun hh=>hne (hi.inj q o T1 s1 U sz r1 rows m1 m hq ho hm1 hm hh)
   refine ⟨m1,c1,hm1,?_,hl1.hsz,hl1.pos,hl1.hL,hl1.len,hl1.le,hl1.room,hl1.row,fun i row h2 j d h3=>?_⟩
   ·have:=hs.other m1.b hbn
    show ∃ fr,w'.heap[m1.b]?=_∧_
    rw [this];exact hl1.blk
   ·obtain ⟨v,h4,h5,h6⟩:=hl1.cell i row h2 j d h3
    exact ⟨v,h4,h5,h6.ext he⟩
 ·obtain ⟨r0,h1⟩:=hlive q _ _ _ h1
  obtain ⟨r0',h2⟩:=hlive q' _ _ _ h2
  exact hi.inj q q' T1 s1 T2 s2 r0 r0' m1 m2 h1 h2 h3 h4 h5
 ·show b<w'.heap.size
  rw [hs.size];exact hi.L b hb
theorem a5M (hi:Inv g h) {o U sz:Nat} {rows:List (List D)} {m:Me} (ho:h[o]?=some (.row U sz rows)) (hm:g.ms[o]?=some m) :
  ∃ g':Gh,g'.w=g.w∧Ext g g'∧Inv g' (h.set o .dead)∧g'.ms=g.ms∧g'.fz m.b∧(∀ b,g'.L b→g.L b):=by
 let g':Gh:=⟨g.w,g.ms,fun b=>g.L b∧b≠m.b⟩
 obtain ⟨m',cs,hm',hl⟩:=hi.live o U sz rows ho
 rw [hm] at hm'
 injection hm' with hm'
 subst hm'
 have he:Ext g g':=⟨⟨rfl,rfl,rfl,Nat.le_refl _,fun _ _ hh=>hh,fun b hb=>⟨⟨hb.1,fun hh=>hb.2 hh.1⟩,rfl⟩⟩,fun b hb=>⟨⟨hb.1,⟨hb.2.1,fun hh=>hb.2.2 o m hm hh.symm⟩,hb.2.2⟩,rfl⟩⟩
 have hget:∀ (q T1 s1:Nat) (r1:List (List D)),(h.set o .dead)[q]?=some (.row T1 s1 r1)→q≠o∧h[q]?=some (.row T1 s1 r1):=fun q T1 s1 r1 hq=>by
  by_cases hqo:q=o
  ·subst hqo
   have hlt:=(c9d.1 ho).1
   rw [List.getElem?_set_self hlt] at hq
   injection hq with hq
   cases hq
  ·rw [c9m (fun hh=>hqo hh.symm)] at hq
   exact ⟨hqo,hq⟩
 refine ⟨g',rfl,he,⟨by show g.ms.length=_;simp [hi.len],fun q T1 s1 r1 hq=>?_,fun q q' T1 s1 T2 s2 r1 r2 m1 m2 h1 h2 h3 h4 h5=>?_,fun b hb=>?_,hi.msb⟩,rfl,⟨hi.Llt hl.hL,fun hh=>hh.2 rfl⟩,fun b hb=>hb.1⟩
 ·obtain ⟨hne,hq⟩:=hget q _ _ _ hq
  obtain ⟨m1,c1,hm1,hl1⟩:=hi.live q T1 s1 r1 hq
  have hbn:m1.b≠m.b:=fun hh=>hne (hi.inj q o T1 s1 U sz r1 rows m1 m hq ho hm1 hm hh)
  exact ⟨m1,c1,hm1,hl1.blk,hl1.hsz,hl1.pos,⟨hl1.hL,hbn⟩,hl1.len,hl1.le,hl1.room,hl1.row,fun i row h2 j d h3=>by
   obtain ⟨v,h4,h5,h6⟩:=hl1.cell i row h2 j d h3
   exact ⟨v,h4,h5,h6.ext he⟩⟩
 ·exact hi.inj q q' T1 s1 T2 s2 r1 r2 m1 m2 (hget q _ _ _ h1).2 (hget q' _ _ _ h2).2 h3 h4 h5
 ·exact hi.L b hb.1
end obj
end Go.Pi
