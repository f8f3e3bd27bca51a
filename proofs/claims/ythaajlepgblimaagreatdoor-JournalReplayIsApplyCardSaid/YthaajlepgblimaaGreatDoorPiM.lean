/- Append, copy, and all operations that turn live objects. No program is named here. -/
import Derived.Test.YthaajlepgblimaaGreatDoorPiL
set_option linter.unusedSimpArgs false
set_option linter.unusedVariables false
set_option linter.unnecessarySimpa false
namespace Go.Pi
open Go.Eng
section ap
variable {P:Program} {T:Tab} {g:Gh} {h:Hp}
theorem a8M (hi:Inv g h) {w':World} {o U sz:Nat} {rows rows':List (List D)} {m:Me} {cs cs':Array Value} {fr:Nat × Nat} (ho:h[o]?=some (.row U sz rows)) (hm:g.ms[o]?=some m) (hl:Live g m U sz rows cs)
  (hs:Set1 g.w w' m.b (.cells cs' U fr)) (hfr:Fr fr cs'.size sz) (hsz:cs'.size=cs.size) (hle:rows'.length≤m.cap) (hrow:∀ r∈rows',r.length=sz)
  (hcell:∀ (i:Nat) (row:List D),rows'[i]?=some row→∀ (j:Nat) (d:D),row[j]?=some d→∃ v,cs'[i*sz+j]?=some v∧v.oneCell'=true∧Rep g v d) :
  ∃ g':Gh,g'.w=w'∧Ext g g'∧Inv g' (a0C (h.set o .dead) U sz rows')∧g'.ms[h.length]?=some ⟨m.b,sz,rows'.length,m.cap⟩:=by
 let g':Gh:=⟨w',g.ms++[⟨m.b,sz,rows'.length,m.cap⟩],g.L⟩
 have he:Ext g g':=⟨⟨hs.os,hs.tape,hs.output,by show g.w.heap.size≤w'.heap.size;rw [hs.size];exact Nat.le_refl _,(fun q m hm=>by
   show (g.ms++_)[q]?=some m
   rw [e0H (e0y.1 hm).1];exact hm),fun b hb=>by
  have hne:b≠m.b:=fun hh=>hb.2 (hh▸hl.hL)
  exact ⟨⟨by show b<w'.heap.size;rw [hs.size];exact hb.1,hb.2⟩,hs.other b hne⟩⟩,fun b hb=>⟨⟨by show b<w'.heap.size;rw [hs.size];exact hb.1,hb.2.1,fun q m1 hm1=>by
   have hm':(g.ms++[(⟨m.b,sz,rows'.length,m.cap⟩:Me)])[q]?=some m1:=hm1
   rcases Nat.lt_or_ge q g.ms.length with hlt | hge
   ·rw [e0H hlt] at hm';exact hb.2.2 q m1 hm'
   ·rw [List.getElem?_append_right hge] at hm'
    have:=e0w hm'
    simp at this
    subst this
    exact hb.2.2 o m hm⟩,hs.other b fun hh=>hb.2.2 o m hm hh.symm⟩⟩
 have holt:=(e0y.1 ho).1
 have hlen:(h.set o .dead).length=h.length:=by simp
 have hmnew:g'.ms[h.length]?=some ⟨m.b,sz,rows'.length,m.cap⟩:=by
  show (g.ms++_)[h.length]?=_
  rw [← hi.len];simp
 have hget:∀ (q T1 s1:Nat) (r1:List (List D)),(a0C (h.set o .dead) U sz rows')[q]?=some (.row T1 s1 r1)→(q=h.length∧T1=U∧s1=sz∧r1=rows')∨(q<h.length∧q≠o∧h[q]?=some (.row T1 s1 r1)):=fun q T1 s1 r1 hq=>by
  unfold a0C at hq
  rcases Nat.lt_trichotomy q h.length with hlt | heq | hgt
  ·rw [e0H (by rw [hlen];exact hlt)] at hq
   by_cases hqo:q=o
   ·subst hqo
    rw [List.getElem?_set_self holt] at hq
    injection hq with hq
    cases hq
   ·rw [e0I (fun hh=>hqo hh.symm)] at hq
    exact .inr ⟨hlt,hqo,hq⟩
  ·subst heq
   rw [List.getElem?_append_right (by rw [hlen];exact Nat.le_refl _),hlen] at hq
   simp at hq
   obtain ⟨rfl,rfl,rfl⟩:=hq
   exact .inl ⟨rfl,rfl,rfl,rfl⟩
  ·exfalso
   have:=(e0y.1 hq).1
   simp at this
   omega
 have hmold:∀ q m1,g'.ms[q]?=some m1→q<h.length→g.ms[q]?=some m1:=fun q m1 hm1 hlt=>by
  have:(g.ms++[(⟨m.b,sz,rows'.length,m.cap⟩:Me)])[q]?=some m1:=hm1
  rwa [e0H (by rw [hi.len];exact hlt)] at this
 refine ⟨g',rfl,he,⟨?_,fun q T1 s1 r1 hq=>?_,fun q q' T1 s1 T2 s2 r1 r2 m1 m2 h1 h2 h3 h4 h5=>?_,fun b hb=>?_,fun q mq hq=>?_⟩,hmnew⟩
 ·show (g.ms++[_]).length=(h.set o .dead++[_]).length
  simp [hi.len]
 ·rcases hget q _ _ _ hq with ⟨rfl,rfl,rfl,rfl⟩ | ⟨hlt,hqo,hq⟩
  ·refine ⟨_,cs',hmnew,⟨fr,hs.blk,hfr⟩,rfl,hl.pos,hl.hL,rfl,hle,by rw [hsz];exact hl.room,hrow,fun i row h2 j d h3=>?_⟩
   obtain ⟨v,h4,h5,h6⟩:=hcell i row h2 j d h3
   exact ⟨v,h4,h5,h6.ext he⟩
  ·obtain ⟨m1,c1,hm1,hl1⟩:=hi.live q T1 s1 r1 hq
   have hbn:m1.b≠m.b:=fun hh=>hqo (hi.inj q o T1 s1 U sz r1 rows m1 m hq ho hm1 hm hh)
   refine ⟨m1,c1,he.ms _ _ hm1,?_,hl1.hsz,hl1.pos,hl1.hL,hl1.len,hl1.le,hl1.room,hl1.row,fun i row h2 j d h3=>?_⟩
   ·have:=hs.other m1.b hbn
    show ∃ fr,w'.heap[m1.b]?=_∧_
    rw [this];exact hl1.blk
   ·obtain ⟨v,h4,h5,h6⟩:=hl1.cell i row h2 j d h3
    exact ⟨v,h4,h5,h6.ext he⟩
 ·rcases hget q _ _ _ h1 with ⟨e1,e2,e3,e4⟩ | ⟨hlt,hqo,k1⟩
  ·rcases hget q' _ _ _ h2 with ⟨e5,e6,e7,e8⟩ | ⟨hlt',hqo',k2⟩
   ·omega
   ·exfalso
    rw [e1,hmnew] at h3
    injection h3 with h3
    subst h3
    exact hqo' (hi.inj q' o T2 s2 U sz r2 rows m2 m k2 ho (hmold q' m2 h4 hlt') hm h5.symm)
  ·rcases hget q' _ _ _ h2 with ⟨e5,e6,e7,e8⟩ | ⟨hlt',hqo',k2⟩
   ·exfalso
    rw [e5,hmnew] at h4
    injection h4 with h4
    subst h4
    exact hqo (hi.inj q o T1 s1 U sz r1 rows m1 m k1 ho (hmold q m1 h3 hlt) hm h5)
   ·exact hi.inj q q' T1 s1 T2 s2 r1 r2 m1 m2 k1 k2 (hmold q m1 h3 hlt) (hmold q' m2 h4 hlt') h5
 ·show b<w'.heap.size
  rw [hs.size];exact hi.L b hb
 ·show mq.b<w'.heap.size
  rw [hs.size]
  have hm':(g.ms++[(⟨m.b,sz,rows'.length,m.cap⟩:Me)])[q]?=some mq:=hq
  rcases Nat.lt_or_ge q g.ms.length with hlt | hge
  ·rw [e0H hlt] at hm';exact hi.msb q mq hm'
  ·rw [List.getElem?_append_right hge] at hm'
   have:=e0w hm'
   simp at this
   subst this
   exact hi.msb o m hm
theorem a1M {rows ys:List (List D)} {sz:Nat} (h1:∀ r∈rows,r.length=sz) (h2:∀ r∈ys,r.length=sz):∀ r∈rows++ys,r.length=sz:=fun r hr=>by
 rcases e0E.1 hr with hr | hr
 ·exact h1 r hr
 ·exact h2 r hr
theorem a7q (hT:TabOK P T) (hi:Inv g h) {e:Nat} {j:TI} (hj:T e=some j) {inf:TypeInfo} {z:Value} (hinf:P.info? e=some inf) (hz:inf.zero=some z) (hpos:0<j.sz) {rows:List (List D)} {vs:List Value} (hr:RepL g vs rows.flatten) (h1:∀ v∈vs,v.oneCell'=true) (hrow:∀ r∈rows,r.length=j.sz)
  {c:Nat} (hc:rows.length≤c) (hc2:c≤9223372036854775807):∃ g':Gh,g'.w=g.w.drew.alloc (.cells (vs.toArray++Builtin.zeroCells z.cells (c - rows.length)) e)∧Ext g g'∧Inv g' (a0C h e j.sz rows)∧Rep g' (.slice (some ⟨g.w.heap.size,0,none⟩) rows.length c) (.msl j.sz h.length 0 rows.length):=by
 obtain ⟨inf',ud,z',q1,q2,q3,rfl,q5,q6,_⟩:=hT.get hj
 rw [hinf] at q1
 injection q1 with q1
 subst q1
 rw [hz] at q3
 injection q3 with q3
 subst q3
 have hzl:z.cells.toList.length=inf.size:=by simpa using q5
 simp only at hpos hrow
 have hvl:=hr.length
 have hfl:=a2d rows hrow
 have hzc:(Builtin.zeroCells z.cells (c - rows.length)).size=(c - rows.length)*inf.size:=by simp [Builtin.zeroCells,q5]
 have hsz:(vs.toArray++Builtin.zeroCells z.cells (c - rows.length)).size=c*inf.size:=by
  rw [Array.size_append,hzc]
  simp only [List.size_toArray]
  rw [hvl,hfl,← Nat.add_mul]
  congr 1
  omega
 obtain ⟨g',hw,he,hinv,hm⟩:=a3R hi (w':=g.w.drew.alloc (.cells (vs.toArray++Builtin.zeroCells z.cells (c - rows.length)) e)) (U:=e) (sz:=inf.size) (cap:=c) (rows:=rows) (cs:=vs.toArray++Builtin.zeroCells z.cells (c - rows.length)) (fr:=(0,0)) rfl rfl rfl rfl (.inl rfl) hpos hc (by omega) hrow
  (a1G hr h1 hrow (fun j v hj=>by
   rw [Array.getElem?_append_left (by simpa using (e0y.1 hj).1)]
   simpa using hj))
 refine ⟨g',hw,he,hinv,?_⟩
 have:=Rep.msl (g:=g') h.length 0 rows.length c _ hm (by simp) (by simp;omega) (by simp) hc2
 simpa using this
variable {ρ:Operand→Value} {dst:Option Tmp} {ty:TypeId} {pos:String} {af:Array Edge} {gd:Option (Nat × Bool)}
theorem b0E (hT:TabOK P T) (hi:Inv g h) {t u:Nat} {vx vy:Value} {dx dy d:D} {h':Hp} (hx:Rep g vx dx) (hy:Rep g vy dy) (hd:a0q T h t u dx dy=some (d,h')) :
  ∃ v w' g',(Builtin.append_ #[t,u] ty #[vx,vy]).run P g.w = .ok v w'∧g'.w=w'∧Ext g g'∧Inv g' h'∧Rep g' v d:=by
 unfold a0q at hd
 split at hd
 ·rename_i i iu ht hu
  split at hd
  ·rename_i e htd
   have hte:=hT.sl ht htd
   split at hd
   ·rename_i j hj
    obtain ⟨inf,ud,z,q1,q2,q3,hje,q5,q6,_⟩:=hT.get hj
    have hsize:inf.size=j.sz:=by rw [hje]
    have hby:inf.bytes=j.by_:=by rw [hje]
    split at hd
    ·rename_i hblt hsrc
     have hpos:0<j.sz:=Nat.le_of_ble_eq_true hblt
     obtain ⟨news,htk,_⟩:=b5l hT hi hu hj hy hsrc hpos
     have zero:∀ (a:Option Addr) (n cap:Nat),vx = .slice a n cap→n≤cap→(Builtin.append_ #[t,u] ty #[vx,vy]).run P g.w = .ok vx g.w:=fun a n cap hv hnc=>by
      subst hv
      exact b1K hte q1 hsize htk hnc
     split at hd
     ·injection hd with hd
      injection hd with hd1 hd2
      subst hd1;subst hd2
      have hv:vx = .slice none 0 0:=by cases hx;rfl
      exact ⟨vx,g.w,g,zero none 0 0 hv (Nat.le_refl _),rfl,Ext.refl g,hi,hx⟩
     ·injection hd with hd
      injection hd with hd1 hd2
      subst hd1;subst hd2
      have:∃ a n cap,vx = .slice a n cap∧n≤cap:=by
       cases hx
       rename_i ad n cap _ hnc _ _ _ _ _ _ _ _ _
       exact ⟨_,_,_,rfl,by assumption⟩
      obtain ⟨a,n,cap,hv,hnc⟩:=this
      exact ⟨vx,g.w,g,zero a n cap hv hnc,rfl,Ext.refl g,hi,hx⟩
     ·injection hd with hd
      injection hd with hd1 hd2
      subst hd1;subst hd2
      obtain ⟨m,cap,hv,_,_,hn,hlo,_⟩:=hx.msl_inv
      exact ⟨vx,g.w,g,zero _ _ cap hv (by omega),rfl,Ext.refl g,hi,hx⟩
     ·cases hd
    ·rename_i ys hne hblt hsrc
     have hpos:0<j.sz:=Nat.le_of_ble_eq_true hblt
     obtain ⟨news,htk,hnr,hn1,hyl⟩:=b5l hT hi hu hj hy hsrc hpos
     have hy0:0<ys.length:=by
      rcases ys with _ | ⟨y0,yr⟩
      ·exact (hne rfl).elim
      ·simp
     have hnl:=htk.len
     split at hd
     ·
      split at hd
      ·rename_i hlim
       injection hd with hd
       injection hd with hd1 hd2
       subst hd1;subst hd2
       simp only [lim,Bool.and_eq_true] at hlim
       have hl1:=Nat.le_of_ble_eq_true hlim.1
       have hl2:=Nat.le_of_ble_eq_true hlim.2
       have hv:vx = .slice none 0 0:=by cases hx;rfl
       subst hv
       obtain ⟨c,hc1,hc2,hrun⟩:=a3A (P:=P) (n:=0) (cap:=0) (a:=none) (olds:=[]) (ty:=ty) (z:=z) hte q1 q3 hsize htk (by omega) (fun w1 _=>by simp [Builtin.firstCells]) (by omega) (by rw [hby];simpa using hl1)
       simp only [Nat.zero_add] at hrun hc1
       obtain ⟨g',hw,he,hinv,hrep⟩:=a7q hT hi hj q1 q3 hpos hnr hn1 hyl hc1 hc2
       exact ⟨_,_,g',by simpa using hrun,by rw [hw],he,hinv,hrep⟩
      ·cases hd
     ·
      rename_i sz rows
      split at hd
      ·rename_i hc
       obtain ⟨rfl,hlim⟩:=hc
       injection hd with hd
       injection hd with hd1 hd2
       subst hd1;subst hd2
       simp only [lim,Bool.and_eq_true] at hlim
       have hl1:=Nat.le_of_ble_eq_true hlim.1
       have hl2:=Nat.le_of_ble_eq_true hlim.2
       obtain ⟨a,cap,olds,hv,hrl,hol,hor,ho1,hat⟩:=a8d (sz:=j.sz) (rows:=rows) hi hx (by simp [a1a]) hpos
       have hcap:cap=rows.length:=by
        obtain ⟨ad',cap',hv',hf'⟩:=hx.sl_len
        rw [hv] at hv'
        injection hv' with e1 e2 e3
        rw [e3];exact hf' rfl
       subst hv
       obtain ⟨c,hc1,hc2,hrun⟩:=a3A (P:=P) (n:=rows.length) (cap:=cap) (a:=a) (olds:=olds) (ty:=ty) (z:=z) hte q1 q3 hsize htk (by omega) (fun w1 hw1=>by
        cases a with
        | none =>
         have hne':rows=[]:=by
          rcases rows with _ | ⟨r0,rr⟩
          ·rfl
          ·obtain ⟨b,o,hh,_⟩:=hat (by simp)
           cases hh
         subst hne'
         have:olds=[]:=List.eq_nil_of_length_eq_zero (by simpa using hol)
         subst this
         simp [Builtin.firstCells]
        | some ad =>
         refine run_firstCells_some w1 j.sz rows.length ad _ cap olds hol fun q v hq=>?_
         have hne':rows≠[]:=fun hh=>by
          subst hh
          have:olds=[]:=List.eq_nil_of_length_eq_zero (by simpa using hol)
          subst this
          cases hq
         obtain ⟨b,o,hh,hat2⟩:=hat hne'
         injection hh with hh
         rw [hh,Addr.add_lit]
         have:=hat2.1 q v hq
         have hcc:w1.cell? ⟨b,o+q,none⟩=g.w.cell? ⟨b,o+q,none⟩:=World.cell?_of_block (by rw [hw1])
         rw [hcc];exact this) (by omega) (by rw [hby];exact hl1)
       have hnew:=hor.append hnr
       rw [← List.flatten_append] at hnew
       have hll:(rows++ys).length=rows.length+ys.length:=by simp
       obtain ⟨g',hw,he,hinv,hrep⟩:=a7q (c:=c) hT hi hj q1 q3 hpos hnew (fun v hv=>by
        rcases e0E.1 hv with hv | hv
        ·exact ho1 v hv
        ·exact hn1 v hv) (a1M hrl hyl) (by omega) hc2
       rw [hll] at hw hrep
       exact ⟨_,_,g',hrun,by rw [hw];simp,he,hinv,hrep⟩
      ·cases hd
     ·
      rename_i sz o n
      split at hd
      ·rename_i U zz rows ho
       split at hd
       ·rename_i hc
        obtain ⟨rfl,rfl,rfl,hnr',hlim⟩:=hc
        simp only [lim,Bool.and_eq_true] at hlim
        have hl1:=Nat.le_of_ble_eq_true hlim.1
        have hl2:=Nat.le_of_ble_eq_true hlim.2
        obtain ⟨m,cap,hv,hms,hm,hn,hlo,hhi,hcm⟩:=hx.msl_inv
        obtain ⟨m',cs,hm',hl⟩:=hi.live o U j.sz rows ho
        rw [hm] at hm'
        injection hm' with hm'
        subst hm'
        subst hv
        obtain ⟨fr,hb,hfr⟩:=hl.blk
        obtain ⟨old,hor,ho1,hopre⟩:=hl.flat
        have hol:=hor.length
        have hfl:=a2d rows hl.row
        have hfy:=a2d ys hyl
        have hlen:=hl.len
        have hroom:=hl.room
        have hyn:=hnr.length
        split at hd
        ·
         rename_i hnn
         injection hd with hd
         injection hd with hd1 hd2
         subst hd1;subst hd2
         by_cases hcap:n+ys.length≤cap
         ·
          have hrun:=a4M (P:=P) (ty:=ty) (ad:=⟨m.b,0*m.sz,none⟩) hte q1 hsize htk hcap
          have hfit:n*j.sz+news.length≤cs.size:=by
           have:(n+ys.length)*j.sz≤m.cap*j.sz:=Nat.mul_le_mul_right _ (by omega)
           rw [Nat.add_mul] at this
           omega
          obtain ⟨w',hst,hs⟩:=a1L (P:=P) (i:=n*j.sz) news g.w cs.toList 0 (T:=U) (fr:=fr) (b:=m.b) (by simpa using hb) (by simpa using hfr.weak) (by simpa using hfit) hn1
          simp only [Nat.add_zero] at hs
          have hsz:(cs.toList.take (n*j.sz)++news++cs.toList.drop (n*j.sz+news.length)).toArray.size=cs.size:=by
           simp;omega
          have hnew:=hor.append hnr
          rw [← List.flatten_append] at hnew
          have holn:old.length=n*j.sz:=by rw [hol,hfl,hnn]
          obtain ⟨g',hw,he,hinv,hmm⟩:=a8M (rows':=rows++ys) hi ho hm hl hs (by rw [hsz];exact hfr) hsz (by simp;omega) (a1M hl.row hyl)
           (a1G hnew (fun v hv=>by
            rcases e0E.1 hv with hv | hv
            ·exact ho1 v hv
            ·exact hn1 v hv) (a1M hl.row hyl) (fun q v hq=>by
            rw [List.append_assoc]
            rw [List.getElem?_toArray]
            rcases Nat.lt_or_ge q (n*j.sz) with hlt | hge
            ·rw [e0H (by omega)] at hq
             rw [e0H (by simp;omega),List.getElem?_take,if_pos hlt]
             have:=hopre q v hq
             simpa using this
            ·rw [List.getElem?_append_right (by omega)] at hq
             have htl:(cs.toList.take (n*j.sz)).length=n*j.sz:=by simp;omega
             rw [List.getElem?_append_right (by rw [htl];exact hge),htl]
             rw [holn] at hq
             rw [e0H (e0y.1 hq).1]
             exact hq))
          refine ⟨.slice (some ⟨m.b,0*m.sz,none⟩) (n+ys.length) cap,w',g',?_,hw,he,hinv,?_⟩
          ·rw [hrun]
           simp only [Nat.zero_mul,Addr.add_lit,Nat.zero_add,hst,Result.andThen_ok]
          ·have hll:(rows++ys).length=n+ys.length:=by simp [hnn]
           rw [hll] at hmm
           have:=Rep.msl (g:=g') h.length 0 (n+ys.length) cap _ hmm (by simp) (by simp;omega) (by simp;omega) hcm
           simpa using this
         ·
          have hcs0:∀ w1:World,w1.heap=g.w.heap→(Builtin.firstCells j.sz n (.slice (some ⟨m.b,0*m.sz,none⟩) n cap)).run P w1 = .ok old.toArray w1:=fun w1 hw1=>by
           refine run_firstCells_some w1 j.sz n _ _ cap old (by rw [hol,hfl,hnn]) fun q v hq=>?_
           rw [Nat.zero_mul,Addr.add_lit,Nat.zero_add]
           have:=hopre q v hq
           simp only [World.cell?,hw1,hb]
           simpa using this
          obtain ⟨c,hc1,hc2,hrun⟩:=a3A (P:=P) (n:=n) (cap:=cap) (olds:=old) (ty:=ty) (z:=z) hte q1 q3 hsize htk (by omega) hcs0 (by omega) (by rw [hby];exact hl1)
          obtain ⟨g1,hw1,he1,hinv1,_,_,_⟩:=a6C hi ho hm
          have hnew:=(hor.append hnr).ext he1
          rw [← List.flatten_append] at hnew
          have hll:(rows++ys).length=n+ys.length:=by simp [hnn]
          obtain ⟨g',hw,he,hinv,hrep⟩:=a7q (c:=c) hT hinv1 hj q1 q3 hpos hnew (fun v hv=>by
           rcases e0E.1 hv with hv | hv
           ·exact ho1 v hv
           ·exact hn1 v hv) (a1M hl.row hyl) (by omega) hc2
          rw [hll,hw1] at hw
          rw [hll,hw1] at hrep
          have hlh:(h.set o .dead).length=h.length:=by simp
          rw [hlh] at hrep
          exact ⟨_,_,g',hrun,by rw [hw];simp,he1.trans he,hinv,hrep⟩
        ·split at hd
         ·
          rename_i hnn hin
          injection hd with hd
          injection hd with hd1 hd2
          subst hd1;subst hd2
          have hcap:n+ys.length≤cap:=by omega
          have hrun:=a4M (P:=P) (ty:=ty) (ad:=⟨m.b,0*m.sz,none⟩) hte q1 hsize htk hcap
          have hin':n*j.sz+ys.length*j.sz≤rows.length*j.sz:=by
           rw [← Nat.add_mul];exact Nat.mul_le_mul_right _ hin
          have hfit:n*j.sz+news.length≤cs.size:=by
           have:rows.length*j.sz≤m.cap*j.sz:=Nat.mul_le_mul_right _ (by have:=hl.le;omega)
           omega
          obtain ⟨w',hst,hs⟩:=a1L (P:=P) (i:=n*j.sz) news g.w cs.toList 0 (T:=U) (fr:=fr) (b:=m.b) (by simpa using hb) (by simpa using hfr.weak) (by simpa using hfit) hn1
          simp only [Nat.add_zero] at hs
          obtain ⟨g',hw,he,hinv,hmm⟩:=a4Z (rows':=rows.take n++ys++rows.drop (n+ys.length)) hi ho hm hl hfr hnr hn1 (p:=n*j.sz) (by rw [hfl,hfy];exact hin') (by
           unfold spl
           rw [List.flatten_append,List.flatten_append,a1n rows n hl.row,a3q rows _ hl.row,hfy,Nat.add_mul]) (by simp;omega) (fun r hr=>by
            simp only [e0E] at hr
            rcases hr with (hr | hr) | hr
            ·exact hl.row r (List.mem_of_mem_take hr)
            ·exact hyl r hr
            ·exact hl.row r (List.mem_of_mem_drop hr)) hs
          refine ⟨.slice (some ⟨m.b,0*m.sz,none⟩) (n+ys.length) cap,w',g',?_,hw,he,hinv,?_⟩
          ·rw [hrun]
           simp only [Nat.zero_mul,Addr.add_lit,Nat.zero_add,hst,Result.andThen_ok]
          ·rw [← hms]
           exact Rep.msl (g:=g') o 0 (n+ys.length) cap m (by rw [hmm];exact hm) (by omega) hlo hhi hcm
         ·cases hd
       ·cases hd
      ·cases hd
     ·cases hd
    ·cases hd
   ·cases hd
  ·cases hd
 ·cases hd
end ap
end Go.Pi
