/- One element more at a place of a slice (slices.Insert): the law of the call. No program is named here. -/
import Derived.Test.YtehgglgadbmecaaGreatDoorIA
set_option linter.unusedSimpArgs false
set_option linter.unusedVariables false
set_option linter.unnecessarySimpa false
namespace Go.Pi
open Go.Eng
section
variable {P:Program} {T:Tab} {g:Gh} {h:Hp}
theorem a7a {v:Value} {sz:Nat} {full:Bool} {r:List D} (hv:Rep g v (.sl sz full [r])) :
  ∃ vb vo vc cs E fr,v = .slice (some ⟨vb,vo,none⟩) 1 vc∧g.fz vb∧r.length=sz∧0<sz∧g.w.heap[vb]?=some (.cells cs E fr)∧cs.size≠0:=by
 cases hv with
 | sl ad n cap sz full rows hn hnc hcm hfull hsz hrow had vs hc h1 hr =>
  have hn':n=1:=by simpa using hn.symm
  subst hn'
  obtain ⟨hs,hf⟩:=had (by simp)
  obtain ⟨vb,vo,sp⟩:=ad
  simp only at hs hf
  subst hs
  have hrl:r.length=sz:=hrow r (by simp)
  have hlt:0<r.length:=by omega
  have hcell:=hc 0 r rfl 0 r[0] (c9W hlt)
  unfold World.cell? at hcell
  simp only at hcell
  split at hcell
  ·rename_i c E fr hb
   refine ⟨vb,vo,cap,c,E,fr,rfl,hf,hrl,hsz,hb,fun h0=>?_⟩
   simp only [Option.isSome_none,c9I,if_false] at hcell
   have:=(Array.getElem?_eq_some_iff.1 hcell).1
   omega
  ·cases hcell
theorem CallAt.of {f:FuncId} {vs:List Value} {v:Value} {w':World} {g':Gh} {h':Hp} {d:D} (hent:∀ (as:Array Value) (w:World),(callFunc f as).run P w = .ok (.enter f as) w)
  (hc:Calls P f vs.toArray g.w fun e w1=>e = .returned v∧w1=w') (hw:g'.w=w') (he:Ext g g') (hi:Inv g' h') (hr:Rep g' v d):CallAt P f vs g h' d :=
 .inl ⟨hent _ _,Calls.mono hc fun e w1 ⟨h1,h2⟩=>⟨v,h1,g',by rw [h2,hw],he,hi,hr⟩⟩
variable {f t tn ov sz e tb:Nat} {it j itn:TI}
theorem a8K (hT:TabOK P T) (hW:InsWalk P f t tn ov sz) (hent:∀ (as:Array Value) (w:World),(callFunc f as).run P w = .ok (.enter f as) w) (hi:Inv g h)
  {base:Option Addr} {n c:Nat} (hnc:n≤c) {dx:D} (hx:Rep g (.slice base n c) dx) {v:Value} {sz':Nat} {full:Bool} {r:List D} (hv:Rep g v (.sl sz' full [r])) {d:D} {h':Hp} (hd:a0p T h t t dx (.sl sz' full [r])=some (d,h')) :
  CallAt P f [.slice base n c,.int .i64 n,v] g h' d:=by
 obtain ⟨v',w',g',hrun,hw',he,hinv,hrep⟩:=a7q (ty:=0) hT hi hx hv hd
 obtain ⟨vb,vo,vc,cs,E,fr,rfl,_⟩:=a7a hv
 exact CallAt.of hent (hW.fin base vb vo vc n c g.w w' v' hnc fun ty=>hrun) hw' he hinv hrep
theorem a6E (h:Hp) (T sz:Nat) (rows rows':List (List D)):(a0K h T sz rows).set h.length (.row T sz rows')=a0K h T sz rows':=by
 unfold a0K
 rw [List.set_append_right _ _ (Nat.le_refl _)]
 simp
theorem b1X (h:Hp) (T sz:Nat) (rows:List (List D)) {o:Nat} (ho:o<h.length):(a0K h T sz rows).set o .dead=a0K (h.set o .dead) T sz rows:=by
 unfold a0K
 rw [List.set_append_left _ _ ho]
theorem b5f (hT:TabOK P T) (hW:InsWalk P f t tn ov sz) (hent:∀ (as:Array Value) (w:World),(callFunc f as).run P w = .ok (.enter f as) w)
  (hovl:∀ (as:Array Value) (w:World),(callFunc ov as).run P w=((Extern.SlicesOverlaps.overlaps #[t,t] #[tb] as).run P w).andThen fun v w' => .ok (.value v) w')
  (ht:T t=some it) (htd:it.td = .sl e) (hj:T e=some j) (hsz:j.sz=sz) (h1:sz≠1) (hi:Inv g h)
  {o k cap:Nat} {m:Me} {rows:List (List D)} (ho:h[o]?=some (.row e sz rows)) (hm:g.ms[o]?=some m) (hk:k<rows.length) (hroom:rows.length+1≤cap) (hcm:cap≤m.cap) (hc63:cap≤9223372036854775807)
  {v:Value} {full:Bool} {r:List D} (hv:Rep g v (.sl sz full [r])) :
  CallAt P f [.slice (some ⟨m.b,0,none⟩) rows.length cap,.int .i64 k,v] g (a0K (h.set o .dead) e sz (rows.take k++[r]++rows.drop k)) (.msl sz h.length 0 (rows.length+1)):=by
 subst hsz
 obtain ⟨n,hn⟩:∃ n,n=rows.length:=⟨_,rfl⟩
 rw [← hn] at hk hroom ⊢
 obtain ⟨m',cs,hm',hl⟩:=hi.live o e j.sz rows ho
 rw [hm] at hm'
 injection hm' with hm'
 subst hm'
 obtain ⟨fr,hb,hfr⟩:=hl.blk
 have hfr0:fr=(0,0):=hfr.resolve_right fun hh=>h1 hh.2
 obtain ⟨old,hor,ho1,hopre⟩:=hl.flat
 have hol:=hor.length
 have hfl:=a1o rows hl.row
 have hroomc:=hl.room
 have hms:=hl.hsz
 have hte:=hT.sl ht htd
 obtain ⟨vb,vo,vc,cv,eV,frv,rfl,hfz,hrl,hpos,hbv,hcv⟩:=a7a hv
 have hvne:vb≠m.b:=fun hh=>hfz.2 (hh▸hl.hL)
 -- the first copy
 have hdl:(old.drop (k*j.sz)).length=(n - k)*j.sz:=by rw [d0a,hol,hfl,← hn,Nat.sub_mul]
 have hdl':old.length - k*j.sz=(n - k)*j.sz:=by simpa using hdl
 have hfit:(k+1)*j.sz+(n - k)*j.sz≤cs.size:=by
  rw [← Nat.add_mul]
  exact Nat.le_trans (Nat.mul_le_mul_right _ (by omega)) hroomc
 obtain ⟨w1,hst,hs⟩:=a0Z (P:=P) (i:=(k+1)*j.sz) (old.drop (k*j.sz)) g.w.drew cs.toList 0 (T:=e) (fr:=fr) (b:=m.b) (by show g.w.heap[m.b]?=_;simpa using hb) (by simpa using hfr.weak) (by rw [hdl];simpa using hfit) (fun u hu=>ho1 u (List.mem_of_mem_drop hu))
 simp only [Nat.add_zero] at hs
 have hs':Set1 g.w w1 m.b (.cells (cs.toList.take ((k+1)*j.sz)++old.drop (k*j.sz)++cs.toList.drop ((k+1)*j.sz+(old.drop (k*j.sz)).length)).toArray e fr):=⟨hs.blk,hs.other,hs.size,hs.os,hs.tape,hs.output⟩
 have hcsz:(cs.toList.take ((k+1)*j.sz)++old.drop (k*j.sz)++cs.toList.drop ((k+1)*j.sz+(old.drop (k*j.sz)).length)).toArray.size=cs.size:=by
  simp only [List.size_toArray,c9M,d0b,d0a,Array.length_toList];omega
 have hrow':∀ q∈rows.take (k+1)++rows.drop k,q.length=j.sz:=fun q hq=>by
  rcases d0d.1 hq with hq | hq
  ·exact hl.row q (List.mem_of_mem_take hq)
  ·exact hl.row q (List.mem_of_mem_drop hq)
 have hnew:RepL g (old.take ((k+1)*j.sz)++old.drop (k*j.sz)) (rows.take (k+1)++rows.drop k).flatten:=by
  rw [List.flatten_append,a2o rows _ hl.row,a2Z rows _ hl.row]
  exact (hor.take _).append (hor.drop _)
 have htl:(old.take ((k+1)*j.sz)).length=(k+1)*j.sz:=by
  have:(k+1)*j.sz≤rows.length*j.sz:=Nat.mul_le_mul_right _ (by omega)
  simp;omega
 have hctl:(cs.toList.take ((k+1)*j.sz)).length=(k+1)*j.sz:=by simp;omega
 obtain ⟨g1,hw1,he1,hi1,hm1⟩:=a4g (rows':=rows.take (k+1)++rows.drop k) hi ho hm hl hs' (by rw [hcsz];exact hfr) hcsz (by simp;omega) hrow'
  (a0W hnew (fun u hu=>by
   rcases d0d.1 hu with hu | hu
   ·exact ho1 u (List.mem_of_mem_take hu)
   ·exact ho1 u (List.mem_of_mem_drop hu)) hrow' (fun q u hq=>by
   rw [List.append_assoc,List.getElem?_toArray]
   rcases Nat.lt_or_ge q ((k+1)*j.sz) with hlt | hge
   ·rw [d0g (by omega)] at hq
    rw [d0g (by omega),List.getElem?_take,if_pos hlt]
    rw [List.getElem?_take,if_pos hlt] at hq
    have:=hopre q u hq
    simpa using this
   ·rw [List.getElem?_append_right (by omega),htl] at hq
    rw [List.getElem?_append_right (by omega),hctl,d0g (c9X.1 hq).1]
    exact hq))
 have hlen1:(rows.take (k+1)++rows.drop k).length=n+1:=by simp;omega
 rw [hlen1] at hm1
 have hcp1:∀ ty,(Builtin.copy_ #[t,t] ty #[.slice (some ⟨m.b,(k+1)*j.sz,none⟩) (n - k) (cap - (k+1)),.slice (some ⟨m.b,k*j.sz,none⟩) (n+1 - k) (cap - k)]).run P g.w.drew = .ok (goInt (n - k:Nat)) w1:=fun ty=>by
  have hf:(Builtin.firstCells j.sz (n - k) (.slice (some ⟨m.b,k*j.sz,none⟩) (n+1 - k) (cap - k))).run P g.w.drew = .ok (old.drop (k*j.sz)).toArray g.w.drew :=
   run_firstCells_some g.w.drew j.sz (n - k) _ _ _ (old.drop (k*j.sz)) hdl fun q u hq=>by
    rw [Addr.add_lit]
    rw [List.getElem?_drop] at hq
    have:=hopre _ u hq
    show World.cell? g.w _=_
    simp only [World.cell?,hb]
    simpa using this
  have hmin:Nat.min (n+1 - k) (n - k)=n - k:=by
   show min _ _=_
   omega
  simp only [Builtin.copy_,Sem.run_bind]
  simp [run_underlying hte,hT.size hj,Builtin.lenOf,hmin,hf,hst,goInt]
 -- the second copy
 have hv1:=hv.ext he1
 have hx1:Rep g1 (.slice (some ⟨m.b,k*j.sz,none⟩) (n+1 - k) (cap - k)) (.msl j.sz h.length k (n+1 - k)):=by
  have:=Rep.msl (g:=g1) h.length k (n+1 - k) (cap - k) _ hm1 (by simp;omega) (by simp;omega) (by simp;omega) (by omega)
  simpa using this
 have hblt:Nat.blt 0 j.sz=true:=by simpa [Nat.blt_eq] using hpos
 have hlh:(h.set o .dead).length=h.length:=by simp
 have hg1:(a0K (h.set o .dead) e j.sz (rows.take (k+1)++rows.drop k))[h.length]?=some (.row e j.sz (rows.take (k+1)++rows.drop k)):=by
  rw [← hlh];exact a1n _ _ _ _
 have hnit:a5S it=true:=by simp [a5S,htd]
 have hmin1:min 1 (n+1 - k)=1:=by omega
 have hd2:a6C T (a0K (h.set o .dead) e j.sz (rows.take (k+1)++rows.drop k)) t t (.msl j.sz h.length k (n+1 - k)) (.sl j.sz full [r])=some (.int .i64 (1:Nat),a0K (h.set o .dead) e j.sz (rows.take k++[r]++rows.drop k)):=by
  have hset:=a6E (h.set o .dead) e j.sz (rows.take (k+1)++rows.drop k) (rows.take k++[r]++rows.drop k)
  rw [hlh] at hset
  have htk:[r].take (n+1 - k)=[r]:=List.take_of_length_le (by simp;omega)
  have e1:(rows.take (k+1)++rows.drop k).take k=rows.take k:=by
   rw [List.take_append_of_le_length (by simp;omega),List.take_take]
   congr 1;omega
  have e2:(rows.take (k+1)++rows.drop k).drop (k+1)=rows.drop k:=by
   rw [List.drop_append_of_le_length (by simp;omega),List.drop_of_length_le (by simp;omega)]
   simp
  simp only [a6C,ht,htd,hnit,hj,hblt,a7C,a0L,if_true,hg1,and_self,c9Y,c9Z,Nat.zero_add,hmin1,htk,e1,e2,hset]
 obtain ⟨v2,w2,g2,hrun2,hw2,he2,hi2,hr2⟩:=a6B (ty:=0) hT hi1 hx1 hv1 hd2
 have hv2:v2=goInt 1:=by cases hr2;rfl
 subst hv2
 rw [hw1] at hrun2
 have hm2:=he2.ms _ _ hm1
 have hrep:=Rep.msl (g:=g2) h.length 0 (n+1) cap _ hm2 (by simp) (by simp;omega) (by simp;omega) hc63
 simp only [Nat.zero_mul] at hrep
 refine CallAt.of hent (hW.room m.b n cap k vb vo vc g.w w1 w2 hk hroom hc63 (fun lb cb=>?_) hcp1 fun ty=>hrun2) hw2 (he1.trans he2) hi2 hrep
 have hov:=b1e (P:=P) g.w t tb e hte j.sz (fun w=>hT.size hj w) ⟨vb,vo,none⟩ ⟨m.b,(k+1)*j.sz,none⟩ 1 vc lb cb hvne hbv hcv (by rw [← hfr0];exact hb)
 rw [hovl,hov]
 rfl
end
end Go.Pi
