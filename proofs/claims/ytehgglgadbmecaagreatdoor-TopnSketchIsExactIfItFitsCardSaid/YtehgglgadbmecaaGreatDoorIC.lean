/- One element more at a place of a slice (slices.Insert): where there is no room, and all of it. No program is named here. -/
import Derived.Test.YtehgglgadbmecaaGreatDoorIB
set_option linter.unusedSimpArgs false
set_option linter.unusedVariables false
set_option linter.unnecessarySimpa false
namespace Go.Pi
open Go.Eng
section
variable {P:Program} {T:Tab} {g:Gh} {h:Hp}
variable {f t tn ov sz e tb:Nat} {it j itn:TI}
theorem b5e (hT:TabOK P T) (hW:InsWalk P f t tn ov sz) (hent:∀ (as:Array Value) (w:World),(callFunc f as).run P w = .ok (.enter f as) w)
  (ht:T t=some it) (htd:it.td = .sl e) (hj:T e=some j) (htn:T tn=some itn) (htnd:itn.td = .int .i64) (hsz:j.sz=sz) (hi:Inv g h)
  {o k cap:Nat} {m:Me} {rows:List (List D)} (ho:h[o]?=some (.row e sz rows)) (hm:g.ms[o]?=some m) (hk:k<rows.length) (hrc:rows.length≤cap) (hroom:cap<rows.length+1) (hcm:cap≤m.cap) (hc63:cap≤9223372036854775807)
  (hlim:lim (rows.length+1) j.by_=true) {v:Value} {full:Bool} {r:List D} (hv:Rep g v (.sl sz full [r])) :
  CallAt P f [.slice (some ⟨m.b,0,none⟩) rows.length cap,.int .i64 k,v] g (a0K (h.set o .dead) e sz (rows.take k++[r]++rows.drop k)) (.msl sz h.length 0 (rows.length+1)):=by
 subst hsz
 obtain ⟨n,hn⟩:∃ n,n=rows.length:=⟨_,rfl⟩
 rw [← hn] at hk hroom hrc hlim ⊢
 have holt:=(c9X.1 ho).1
 obtain ⟨m',cs,hm',hl⟩:=hi.live o e j.sz rows ho
 rw [hm] at hm'
 injection hm' with hm'
 subst hm'
 obtain ⟨fr,hb,hfr⟩:=hl.blk
 obtain ⟨old,hor,ho1,hopre⟩:=hl.flat
 have hol:=hor.length
 have hfl:=a1o rows hl.row
 have hms:=hl.hsz
 have hml:=hl.len
 have hte:=hT.sl ht htd
 have hpos:=hl.pos
 have hblt:Nat.blt 0 j.sz=true:=by simpa [Nat.blt_eq] using hpos
 have hnit:a5S it=true:=by simp [a5S,htd]
 simp only [lim,Bool.and_eq_true] at hlim
 have hl1:=Nat.le_of_ble_eq_true hlim.1
 have hl2:=Nat.le_of_ble_eq_true hlim.2
 have hr1:=a7a hv
 obtain ⟨vb,vo,vc,cv,eV,frv,rfl,hfz,hrl,_,hbv,hcv⟩:=hr1
 -- the append
 have hsrc:a7C h itn j (.int .i64 ((n+1 - k:Nat):Int))=some (List.replicate (n+1 - k) j.zero):=by
  have hlim2:lim (n+1 - k) j.by_=true:=by
   simp only [lim,Bool.and_eq_true]
   exact ⟨Nat.ble_eq_true_of_le (Nat.le_trans (Nat.mul_le_mul_right _ (by omega)) hl1),Nat.ble_eq_true_of_le (by omega)⟩
  simp only [a7C,htnd,c9Q,hlim2,and_true,Int.natCast_nonneg,if_true]
 obtain ⟨news,htk,hnr,hn1,hyl⟩:=b0J hT hi htn hj (Rep.int (g:=g) .i64 ((n+1 - k:Nat):Int)) hsrc hpos
 simp only [List.length_replicate] at htk
 obtain ⟨inf,ud,z,q1,q2,q3,hje,q5,q6,_⟩:=hT.get hj
 have hsize:inf.size=j.sz:=by rw [hje]
 have hby:inf.bytes=j.by_:=by rw [hje]
 have hkn:k*j.sz≤rows.length*j.sz:=Nat.mul_le_mul_right _ (by omega)
 have hotl:(old.take (k*j.sz)).length=k*j.sz:=by simp;omega
 have hkk:k+(n+1 - k)=n+1:=by omega
 obtain ⟨G,hG1,hG2,hrun⟩:=a2w (P:=P) (n:=k) (cap:=cap) (a:=some ⟨m.b,0,none⟩) (olds:=old.take (k*j.sz)) (ty:=0) (z:=z) hte q1 q3 hsize htk (by omega) (fun w1 hw1=>by
  refine run_firstCells_some w1 j.sz k _ _ cap (old.take (k*j.sz)) hotl fun q u hq=>?_
  rw [Addr.add_lit,Nat.zero_add]
  rw [List.getElem?_take] at hq
  split at hq
  ·have:=hopre q u hq
   simp only [World.cell?,hw1,hb]
   simpa using this
  ·cases hq) (by omega) (by rw [hby,hkk];exact hl1)
 rw [hkk] at hG1 hrun
 have hnew:=(hor.take (k*j.sz)).append hnr
 rw [← a2o rows k hl.row,← List.flatten_append] at hnew
 have hzl:∀ q∈List.replicate (n+1 - k) j.zero,q.length=j.sz:=hyl
 have hlen0:(rows.take k++List.replicate (n+1 - k) j.zero).length=n+1:=by simp;omega
 obtain ⟨g1,hw1,he1,hi1,hrep1⟩:=a4L (c:=G) hT hi hj q1 q3 hpos hnew (fun u hu=>by
  rcases d0d.1 hu with hu | hu
  ·exact ho1 u (List.mem_of_mem_take hu)
  ·exact hn1 u hu) (a1a (fun q hq=>hl.row q (List.mem_of_mem_take hq)) hzl) (by rw [hlen0];exact hG1) hG2
 rw [hlen0] at hrep1 hw1
 have hrun':∀ ty,(Builtin.append_ #[t,tn] ty #[.slice (some ⟨m.b,0,none⟩) k cap,.int .i64 (n+1 - k:Nat)]).run P g.w = .ok (.slice (some ⟨g.w.heap.size,0,none⟩) (n+1) G) g1.w:=fun ty=>by
  rw [b1y P _ ty 0,hrun,hw1]
  simp
 obtain ⟨m1,cap1,hv1e,hms1,hmm1,hn1',hlo1,hhi1,hcm1⟩:=hrep1.msl_inv
 injection hv1e with e1 e2 e3
 injection e1 with e1
 have hnb:g.w.heap.size=m1.b:=by injection e1
 subst e3
 -- the first copy
 obtain ⟨rows0,hrows0⟩:∃ rows0,rows0=rows.take k++List.replicate (n+1 - k) j.zero:=⟨_,rfl⟩
 rw [← hrows0] at hi1 hlen0
 have hx1:Rep g1 (.slice (some ⟨g.w.heap.size,k*j.sz,none⟩) (n+1 - k) (G - k)) (.msl j.sz h.length k (n+1 - k)):=by
  have:=Rep.msl (g:=g1) h.length k (n+1 - k) (G - k) m1 hmm1 (by omega) (by omega) (by omega) (by omega)
  rw [hms1] at this
  rw [hnb];exact this
 have hd1:a6C T (a0K h e j.sz rows0) t t (.msl j.sz h.length k (n+1 - k)) (.sl j.sz full [r])=some (.int .i64 (1:Nat),a0K h e j.sz (rows.take k++[r]++List.replicate (n - k) j.zero)):=by
  have hset:=a6E h e j.sz rows0 (rows.take k++[r]++List.replicate (n - k) j.zero)
  have htk:[r].take (n+1 - k)=[r]:=List.take_of_length_le (by simp;omega)
  have hmin1:min 1 (n+1 - k)=1:=by omega
  have e1:rows0.take k=rows.take k:=by
   rw [hrows0,List.take_append_of_le_length (by simp;omega),List.take_take]
   congr 1;omega
  have e2:rows0.drop (k+1)=List.replicate (n - k) j.zero:=by
   rw [hrows0,List.drop_append,List.drop_of_length_le (by simp;omega)]
   have:k+1 - (rows.take k).length=1:=by simp;omega
   rw [this,List.drop_replicate]
   simp
   omega
  simp only [a6C,ht,htd,hnit,hj,hblt,a7C,a0L,if_true,a1n,and_self,c9Y,c9Z,Nat.zero_add,hmin1,htk,e1,e2,hset]
 obtain ⟨v2,w2,g2,hrun2,hw2,he2,hi2,hr2⟩:=a6B (ty:=0) hT hi1 hx1 (hv.ext he1) hd1
 have hv2:v2=goInt 1:=by cases hr2;rfl
 subst hv2
 -- the second copy
 have he2d:=he2.trans g2.draw_ext
 have hi2d:=Gh.draw_inv hi2
 have hx2:Rep g2.draw (.slice (some ⟨g.w.heap.size,(k+1)*j.sz,none⟩) (n - k) (G - (k+1))) (.msl j.sz h.length (k+1) (n - k)):=by
  have:=Rep.msl (g:=g2.draw) h.length (k+1) (n - k) (G - (k+1)) m1 (he2d.ms _ _ hmm1) (by omega) (by omega) (by omega) (by omega)
  rw [hms1] at this
  rw [hnb];exact this
 have hy2:Rep g2.draw (.slice (some ⟨m.b,k*j.sz,none⟩) (n - k) (cap - k)) (.msl j.sz o k (n - k)):=by
  have:=Rep.msl (g:=g2.draw) o k (n - k) (cap - k) m ((he1.trans he2d).ms _ _ hm) (by omega) (by omega) (by omega) (by omega)
  rw [hms] at this
  exact this
 have hd2:a6C T (a0K h e j.sz (rows.take k++[r]++List.replicate (n - k) j.zero)) t t (.msl j.sz h.length (k+1) (n - k)) (.msl j.sz o k (n - k))=some (.int .i64 (n - k:Nat),a0K h e j.sz (rows.take k++[r]++rows.drop k)):=by
  have hset:=a6E h e j.sz (rows.take k++[r]++List.replicate (n - k) j.zero) (rows.take k++[r]++rows.drop k)
  have hold:(a0K h e j.sz (rows.take k++[r]++List.replicate (n - k) j.zero))[o]?=some (.row e j.sz rows):=(a1h _ _ _ _ holt).trans ho
  have e0:(rows.drop k).take (n - k)=rows.drop k:=List.take_of_length_le (by simp;omega)
  have hdl:(rows.drop k).length=n - k:=by simp;omega
  have e1:(rows.take k++[r]++List.replicate (n - k) j.zero).take (k+1)=rows.take k++[r]:=by
   rw [List.take_append_of_le_length (by simp;omega),List.take_of_length_le (by simp;omega)]
  have e2:(rows.take k++[r]++List.replicate (n - k) j.zero).drop (k+1+(n - k))=[]:=List.drop_of_length_le (by simp;omega)
  simp only [a6C,ht,htd,hnit,hj,hblt,a7C,a0L,if_true,a1n,hold,and_self,e0,hdl,Nat.min_self,e1,e2,List.append_nil,hset]
 obtain ⟨v3,w3,g3,hrun3,hw3,he3,hi3,hr3⟩:=a6B (ty:=0) hT hi2d hx2 hy2 hd2
 have hv3:v3=goInt (n - k:Nat):=by cases hr3;rfl
 subst hv3
 obtain ⟨g4,hw4,he4,hi4,hms4,_,_⟩:=a4i hi3 (o:=o) (U:=e) (sz:=j.sz) (rows:=rows) (m:=m) ((a1h _ _ _ _ holt).trans ho) (((he1.trans he2d).trans he3).ms _ _ hm)
 rw [b1X _ _ _ _ holt] at hi4
 have hrep:=Rep.msl (g:=g4) h.length 0 (n+1) G m1 (((he2d.trans he3).trans he4).ms _ _ hmm1) (by omega) (by omega) (by omega) (by omega)
 rw [hms1,← hnb] at hrep
 simp only [Nat.zero_mul] at hrep
 have hg2w:g2.draw.w=g2.w.drew:=rfl
 refine CallAt.of hent (hW.grow m.b n cap k vb vo vc g.w.heap.size G g.w g1.w w2 w3 hk hrc hroom hc63 hG1 hG2 hrun' (fun ty=>hrun2) fun ty=>?_) (hw4.trans hw3) (((he1.trans he2d).trans he3).trans he4) hi4 hrep
 rw [← hw2,← hg2w]
 exact hrun3
theorem a5O (hT:TabOK P T) (hW:InsWalk P f t tn ov sz) (hent:∀ (as:Array Value) (w:World),(callFunc f as).run P w = .ok (.enter f as) w)
  (hovl:∀ (as:Array Value) (w:World),(callFunc ov as).run P w=((Extern.SlicesOverlaps.overlaps #[t,t] #[tb] as).run P w).andThen fun v w' => .ok (.value v) w')
  (ht:T t=some it) (htd:it.td = .sl e) (hj:T e=some j) (htn:T tn=some itn) (htnd:itn.td = .int .i64) (hsz:j.sz=sz) (h1:sz≠1)
  {args:List D} {h':Hp} {d:D} (hd:b1W e j args h=some (d,h')) {vs:List Value} (hi:Inv g h) (hr:RepL g vs args):CallAt P f vs g h' d:=by
 unfold b1W at hd
 split at hd
 ·rename_i x i sz' full r
  split at hd
  ·rename_i hc
   obtain ⟨rfl,h0⟩:=hc
   cases hr with
   | cons hx hr => cases hr with
    | cons hiv hr=>cases hr with
     | cons hv hr =>
      cases hr
      cases hiv
      obtain ⟨k,rfl⟩:=Int.eq_ofNat_of_zero_le h0
      obtain ⟨_,_,_,_,_,_,_,_,_,hpos,_⟩:=a7a hv
      have hblt:Nat.blt 0 j.sz=true:=by simpa [Nat.blt_eq] using hpos
      have hsrc:a7C h it j (.sl j.sz full [r])=some [r]:=by simp [a7C,htd,a0L]
      split at hd
      ·split at hd
       ·rename_i hc
        obtain ⟨hk,hlim⟩:=hc
        injection hd with hd
        injection hd with hd1 hd2
        subst hd1;subst hd2
        have hk0:k=0:=by omega
        subst hk0
        cases hx
        exact a8K hT hW hent hi (Nat.le_refl 0) .nils hv (by simp [a0p,ht,htd,hj,hblt,hsrc,hlim])
       ·cases hd
      ·rename_i s
       split at hd
       ·rename_i hc
        obtain ⟨hk,rfl,hlim⟩:=hc
        injection hd with hd
        injection hd with hd1 hd2
        subst hd1;subst hd2
        have hk0:k=0:=by omega
        subst hk0
        obtain ⟨ad,cap,rfl,hf⟩:=hx.sl_len
        exact a8K hT hW hent hi (Nat.zero_le cap) hx hv (by simp [a0p,ht,htd,hj,hblt,hsrc,hlim])
       ·cases hd
      ·rename_i s o n
       split at hd
       ·rename_i U zz rows ho
        split at hd
        ·rename_i hc
         obtain ⟨rfl,rfl,rfl,rfl,hkn,hlim⟩:=hc
         injection hd with hd
         injection hd with hd1 hd2
         subst hd1;subst hd2
         simp only [c9Q]
         have hkn':k≤rows.length:=by omega
         obtain ⟨m,cap,rfl,hms,hm,hn,hlo,hhi,hcm⟩:=hx.msl_inv
         obtain ⟨m',cs,hm',hl⟩:=hi.live o U j.sz rows ho
         rw [hm] at hm'
         injection hm' with hm'
         subst hm'
         have hml:=hl.len
         rcases Nat.lt_or_ge k rows.length with hlt | hge
         ·simp only [Nat.zero_mul]
          by_cases hroom:rows.length+1≤cap
          ·subst hsz
           exact b5f hT hW hent hovl ht htd hj rfl h1 hi ho hm hlt hroom (by omega) hcm hv
          ·subst hsz
           exact b5e hT hW hent ht htd hj htn htnd rfl hi ho hm hlt (by omega) (by omega) (by omega) hcm hlim hv
         ·have hk1:k=rows.length:=by omega
          subst hk1
          refine a8K hT hW hent hi (by omega) hx hv ?_
          simp [a0p,ht,htd,hj,hblt,hsrc,hlim,ho]
        ·cases hd
       ·cases hd
      ·cases hd
  ·cases hd
 ·cases hd
theorem b3H (hi:Inv g h) {o U sz:Nat} {rows:List (List D)} {m:Me} (ho:h[o]?=some (.row U sz rows)) (hm:g.ms[o]?=some m) {n:Nat} (hn:n≤rows.length) :
  ∃ g1:Gh,g1.w=g.w∧Ext g g1∧Inv g1 (a0K (h.set o .dead) U sz (rows.take n))∧g1.ms[h.length]?=some ⟨m.b,sz,n,m.cap⟩:=by
 obtain ⟨m',cs,hm',hl⟩:=hi.live o U sz rows ho
 rw [hm] at hm'
 injection hm' with hm'
 subst hm'
 obtain ⟨fr,hb,hfr⟩:=hl.blk
 have hlen:=hl.len
 have hle:=hl.le
 have htl:(rows.take n).length=n:=by rw [d0b];omega
 obtain ⟨g1,h1,h2,h3,h4⟩:=a4g hi (w':=g.w) (rows':=rows.take n) (cs':=cs) (fr:=fr) ho hm hl (Set1.self hb) hfr rfl (by rw [htl];omega) (fun r hr=>hl.row r (List.mem_of_mem_take hr)) (fun i row hir j d hj=>hl.cell i row (by
  rw [List.getElem?_take] at hir
  split at hir
  ·exact hir
  ·cases hir) j d hj)
 rw [htl] at h4
 exact ⟨g1,h1,h2,h3,h4⟩
def a8A (e:Nat) (j:TI) (args:List D) (h:Hp):Option (D × Hp):=match args with
 | [.msl s o 0 n,i,v]=>match h[o]? with
  | some (.row U z rows)=>if n<rows.length∧s=z then b1W e j [.msl s h.length 0 n,i,v] (a0K (h.set o .dead) U z (rows.take n)) else b1W e j args h
  | _=>b1W e j args h
 | _=>b1W e j args h
theorem b7A (hT:TabOK P T) (hW:InsWalk P f t tn ov sz) (hent:∀ (as:Array Value) (w:World),(callFunc f as).run P w = .ok (.enter f as) w)
  (hovl:∀ (as:Array Value) (w:World),(callFunc ov as).run P w=((Extern.SlicesOverlaps.overlaps #[t,t] #[tb] as).run P w).andThen fun v w' => .ok (.value v) w')
  (ht:T t=some it) (htd:it.td = .sl e) (hj:T e=some j) (htn:T tn=some itn) (htnd:itn.td = .int .i64) (hsz:j.sz=sz) (h1:sz≠1)
  {args:List D} {h':Hp} {d:D} (hd:a8A e j args h=some (d,h')) {vs:List Value} (hi:Inv g h) (hr:RepL g vs args):CallAt P f vs g h' d:=by
 unfold a8A at hd
 split at hd
 ·rename_i s o n i v
  split at hd
  ·rename_i U z rows ho
   split at hd
   ·rename_i hc
    obtain ⟨hn,rfl⟩:=hc
    cases hr with
    | cons hx hr =>
     obtain ⟨m,cap,rfl,hms,hm,hn2,hlo,hhi,hcm⟩:=hx.msl_inv
     obtain ⟨m',cs,hm',hl⟩:=hi.live o U s rows ho
     rw [hm] at hm'
     injection hm' with hm'
     subst hm'
     have hlen:=hl.len
     rw [hms]
     obtain ⟨g1,w1,e1,i1,m1⟩:=b3H hi ho hm (Nat.le_of_lt hn)
     have hx1:Rep g1 (.slice (some ⟨m.b,0*s,none⟩) n cap) (.msl s h.length 0 n):=Rep.msl (g:=g1) h.length 0 n cap _ m1 (by simp) (by simp only;omega) (by simpa using hhi) hcm
     have hq:=a5O hT hW hent hovl ht htd hj htn htnd hsz h1 hd i1 (.cons hx1 (hr.ext e1))
     unfold CallAt at hq ⊢
     rw [w1] at hq
     rcases hq with ⟨q1,q2⟩ | ⟨v',g',q1,q2,q3,q4⟩
     ·exact .inl ⟨q1,q2.mono fun v w' ⟨g',p1,p2,p3,p4⟩=>⟨g',p1,e1.trans p2,p3,p4⟩⟩
     ·exact .inr ⟨v',g',q1,e1.trans q2,q3,q4⟩
   ·exact a5O hT hW hent hovl ht htd hj htn htnd hsz h1 hd hi hr
  ·exact a5O hT hW hent hovl ht htd hj htn htnd hsz h1 hd hi hr
 ·exact a5O hT hW hent hovl ht htd hj htn htnd hsz h1 hd hi hr
end
end Go.Pi
