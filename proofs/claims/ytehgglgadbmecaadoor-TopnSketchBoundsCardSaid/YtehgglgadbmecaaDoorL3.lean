/- Laws, on plain data, about functions that the statement reaches. -/
import Derived.Test.YtehgglgadbmecaaDoorL2
set_option linter.unusedSimpArgs false
set_option linter.unusedVariables false
set_option linter.unnecessarySimpa false
set_option maxRecDepth 100000
namespace Go.Proofs.YtehgglgadbmecaaDoor
open Go.Eng Go.Pi
open Option (bind_some)
theorem c2V (l:List Ct) (d:D) (h:Hp) (hd:SlOf 3 ctr l d) (hl:l.length≤1000000):∃ d' h',R b1w [d] h=some (d',h')∧h.length≤h'.length∧(∀ q,q<h.length→h'[q]?=h[q]?) ∧
  ((l=[]∧(d' = .nils∨d' = .sl 3 true []))∨∃ ob,h.length≤ob∧d' = .msl 3 ob 0 l.length∧h'[ob]?=some (.row a0j 3 (l.map ctr))):=by
 rw [c1p]
 have hrow:=a2f h hd
 by_cases hn:d = .nils
 ·subst hn
  have hl0:l=[]:=by
   rcases hd with ⟨_,h2⟩ | ⟨b,h2⟩
   ·simpa using h2
   ·cases h2
  subst hl0
  exact ⟨.nils,h,by
   have hne:a0l tab .eql a0r .nils .nils=some (.bool true):=id rfl
   simp [-bind_some, b5C,hne],Nat.le_refl _,fun _ _=>rfl,.inl ⟨rfl,.inl rfl⟩⟩
 ·obtain ⟨x',h',e,hl',hq,ho⟩:=a5N (T:=tab) (t:=a0r) (i:=ti1229) (j:=ti1237) (h:=h) (id rfl) (id rfl) (id rfl) (by decide) (y:=d) hrow (a2d (by have:ti1237.by_=40:=rfl;rw [this,c6U];omega) (by rw [c6U];omega))
  have e':a0p tab h a0r a0r (.sl 3 true []) d=some (x',h'):=e
  have hne:a0l tab .eql a0r d .nils=some (.bool false):=by
   rcases hd with ⟨h2,_⟩ | ⟨b,rfl⟩
   ·exact absurd h2 hn
   ·exact id rfl
  refine ⟨x',h',?_,hl',hq,?_⟩
  ·simp only [b5C,bs,hne,a0e,c6P,if_false,b3l,e',a0q]
  ·rcases ho with ⟨rfl,hn⟩ | ⟨rfl,hn⟩ | ⟨ob,h1,rfl,h2⟩
   ·have:l=[]:=by simpa using hn
    exact .inl ⟨this,.inr rfl⟩
   ·have:l=[]:=by simpa using hn
    exact .inl ⟨this,.inl rfl⟩
   ·exact .inr ⟨ob,h1,by rw [c6U];rfl,h2⟩
theorem c0C {x y:Ct} (h:a0Z y.k x.k<0):cM x y<0↔x.n<y.n:=by
 have hk:¬ a0Z x.k y.k<0:=by rw [a2i];omega
 unfold cM a5j
 by_cases h1:x.n<y.n
 ·simp [-bind_some, h1]
 ·by_cases h2:y.n<x.n
  ·simp [-bind_some, h1,h2]
  ·simp [-bind_some, h1,h2,hk]
theorem a5O {S:List Ct} (asc:CAsc (S.map ctc)) (i j:Nat) (x y:Ct) (hij:i<j) (hx:S[i]?=some x) (hy:S[j]?=some y):a0Z x.k y.k<0:=by
 have hi:=(c7e.1 hx).1
 have hj:=(c7e.1 hy).1
 have:=List.pairwise_iff_getElem.1 asc i j (by simpa using hi) (by simpa using hj) hij
 simp only [List.getElem_map] at this
 rw [c7d hi] at hx
 rw [c7d hj] at hy
 injection hx with hx
 injection hy with hy
 rw [hx,hy] at this
 exact this
theorem b5V (n0:Nat) (h:Hp) (n:Nat) (c:Ct):∀ d∈ctr c,frz n0 h (n+1) d=d:=fun d hd=>by
 simp only [ctr,c7j,List.not_mem_nil,or_false] at hd
 rcases hd with rfl | rfl | rfl
 ·exact a3T _ _ _ c.hk
 ·exact a3L _ _ _ _ _
 ·exact a3L _ _ _ _ _
theorem b4J (n:Nat) (c:Ct):∀ d∈ctr c,Ok n d:=fun d hd=>by
 simp only [ctr,c7j,List.not_mem_nil,or_false] at hd
 rcases hd with rfl | rfl | rfl
 ·exact a4b _ c.hk
 ·exact .int _ _
 ·exact .int _ _
theorem c1P {S:List Ct} {i:Nat} {c:Ct} (h:S[i]?=some c):(((S.map ctc)[i]?).getD ([],0,0)).2.1=c.n:=by
 rw [c7b,h];rfl
theorem c2G (S:List Ct) (d:D) (h:Hp) (hS:RdCt h S d) (hl:S.length≤1000000) (hne:0<S.length) (asc:CAsc (S.map ctc)) :
  ∃ m,S[lst (S.map ctc) S.length]?=some m∧R a9u [d,.fn (.func a7j) [] []] h=some (.agg (ctr m),h):=by
 suffices Wp (R a9u [d,.fn (.func a7j) [] []] h) (fun p=>∃ m,S[lst (S.map ctc) S.length]?=some m∧p=(.agg (ctr m),h)) by
  obtain ⟨p,h1,m,h2,rfl⟩:=this
  exact ⟨m,h2,h1⟩
 have r0:(a0H h a0j 3 [[.nils,.int .i64 0,.int .i64 0]])[h.length]?=some (.row a0j 3 [[.nils,.int .i64 0,.int .i64 0]]):=a1f _ _ _ _
 have l0:(a0H h a0j 3 [[.nils,.int .i64 0,.int .i64 0]]).length=h.length+1:=a2N _ _ _ _
 have k0:∀ q,q<h.length→(a0H h a0j 3 [[.nils,.int .i64 0,.int .i64 0]])[q]?=h[q]?:=fun q hq=>a1d _ _ _ _ hq
 have hlss:decide ((S.length:Int)<1)=false:=decide_eq_false (by omega)
 obtain ⟨c0,hc0⟩:∃ c,S[0]?=some c:=⟨_,c7d hne⟩
 -- counters are read as well where more was laid
 have rdg:∀ {g:Hp},h.length≤g.length→(∀ q,q<h.length→g[q]?=h[q]?)→RdCt g S d:=fun {g} h1 h2=>by
  rcases hS with hS | ⟨ob,tl,rfl,ho⟩
  ·exact .inl hS
  ·exact .inr ⟨ob,tl,rfl,by rw [h2 ob (c7e.1 ho).1];exact ho⟩
 rw [c1v]
 simp only [b8p,a4L hS,bs,a0o,hlss,a0e,c6P,if_false,a0g,c6O]
 generalize a0H h a0j 3 [[.nils,.int .i64 0,.int .i64 0]]=g0 at *
 have R0:=rdg (g:=g0) (by omega) k0
 obtain ⟨q0,hq0,lq0⟩:=a7A R0 0 c0 hc0
 have hq0:a0b tab a0r d (.int .i64 0)=some q0:=hq0
 have r1:(a0H g0 a0j 3 [[.nils,.int .i64 0,.int .i64 0]])[h.length+1]?=some (.row a0j 3 [[.nils,.int .i64 0,.int .i64 0]]):=by rw [← l0];exact a1f _ _ _ _
 have ln1:(a0H g0 a0j 3 [[.nils,.int .i64 0,.int .i64 0]]).length=h.length+2:=by rw [a2N,l0]
 have k1:∀ q,q<h.length+1→(a0H g0 a0j 3 [[.nils,.int .i64 0,.int .i64 0]])[q]?=g0[q]?:=fun q hq=>a1d _ _ _ _ (by omega)
 simp only [hq0,lq0,bs,l0,c6O]
 generalize a0H g0 a0j 3 [[.nils,.int .i64 0,.int .i64 0]]=g1 at *
 refine a4T (kk:=0) (off:=0) (row:=[.nils,.int .i64 0,.int .i64 0]) (v := .agg (ctr c0)) r1 (by rfl) (by rfl) (by exact Nat.le_refl _) (a4A c0) fun g2 p2 s2=>?_
 have p2:g2[h.length+1]?=some (.row a0j 3 [ctr c0]):=p2
 try simp only [bs]
 refine Wp.loop (fun k ds g=>∃ i:Nat,∃ x y c,ds=[.int .i64 i,x,y]∧k+i=S.length∧1≤i∧S[lst (S.map ctc) i]?=some c∧lst (S.map ctc) i<i∧g[h.length+1]?=some (.row a0j 3 [ctr c])∧Same (h.length+1) g1 g)
  (fun r=>r.1 = .ext 0∧∃ c,S[lst (S.map ctc) S.length]?=some c∧r.2.2[h.length+1]?=some (.row a0j 3 [ctr c])∧Same (h.length+1) g1 r.2.2) (S.length - 1) ⟨1,_,_,c0,rfl,by omega,Nat.le_refl _,?_,?_,p2,s2⟩ ?_ ?_
 ·have:lst (S.map ctc) 1=0:=by unfold lst lst;simp [-bind_some]
  rw [this];exact hc0
 ·have:lst (S.map ctc) 1=0:=by unfold lst lst;simp [-bind_some]
  rw [this];omega
 ·rintro k ds g ⟨i,x,y,c,rfl,hk,hi1,hc,hlt,pg,sg⟩
  have Rg:=rdg (g:=g) (by have:=sg.1;omega) fun q hq=>by rw [sg.2 q (by omega),k1 q (by omega),k0 q hq]
  simp only [a8H,a0d,a0f,bs,c6O,a4L Rg,a0o]
  refine Wp.dif ?_ ?_
  ·intro h0
   have h0:i<S.length:=by
    have:(i:Int)<(S.length:Int):=by simpa using h0
    omega
   have hw:=wi_ i (by omega)
   obtain ⟨u,hu⟩:=gx_ h0
   obtain ⟨q,hq,lq⟩:=a7A Rg i u hu
   have ldc:a0c tab g a0j (.ptr (h.length+1) 0 0)=some (.agg (ctr c)):=by rw [a3i,a1q pg];rfl
   have hcm:=c0C (a5O asc _ i c u hlt hc hu)
   have hst:lst (S.map ctc) (i+1)=if u.n<c.n then i else lst (S.map ctc) i:=by
    conv=>lhs;unfold lst
    rw [c1P hu,c1P hc]
   simp only [hq,lq,ldc,bs,a1D,List.nil_append,List.append_nil,c2H u c g,a0o]
   by_cases hn:u.n<c.n
   ·have hd1:decide (cM u c<0)=true:=decide_eq_true (hcm.2 hn)
    simp only [hd1,a0e,if_true,hq,lq,bs,c6O]
    refine a4T (kk:=0) (off:=0) (row:=ctr c) (v := .agg (ctr u)) pg (by rfl) (by rfl) (by exact Nat.le_refl _) (a4A u) fun g5 p5 s5=>?_
    have p5:g5[h.length+1]?=some (.row a0j 3 [ctr u]):=p5
    simp only [bs,a0v,a0g,a0n,hw]
    refine .some (.inl ⟨rfl,k - 1,by omega,i+1,_,_,u,rfl,by omega,by omega,by rw [hst,if_pos hn];exact hu,by rw [hst,if_pos hn];omega,p5,sg.trans s5⟩)
   ·have hd1:decide (cM u c<0)=false:=decide_eq_false fun hh=>hn (hcm.1 hh)
    simp only [hd1,a0e,c6P,if_false,bs,a0v,a0g,a0n,hw]
    exact .some (.inl ⟨rfl,k - 1,by omega,i+1,_,_,c,rfl,by omega,by omega,by rw [hst,if_neg hn];exact hc,by rw [hst,if_neg hn];omega,pg,sg⟩)
  ·intro h0
   have h0:i=S.length:=by
    have:¬ (i:Int)<(S.length:Int):=by simpa using h0
    omega
   subst h0
   exact .some (.inr ⟨by simp,rfl,c,hc,pg,sg⟩)
 ·rintro ⟨ex,ds,g⟩ ⟨rfl,c,hc,pg,sg⟩
  simp only at pg sg
  have ldc:a0c tab g a0j (.ptr (h.length+1) 0 0)=some (.agg (ctr c)):=by rw [a3i,a1q pg];rfl
  have r9:g[h.length]?=some (.row a0j 3 [[.nils,.int .i64 0,.int .i64 0]]):=by rw [sg.2 _ (by omega),k1 _ (by omega)];exact r0
  simp only [a0m,a0g,bs,ldc]
  refine a4T (kk:=0) (off:=0) (row:=[.nils,.int .i64 0,.int .i64 0]) (v := .agg (ctr c)) r9 (by rfl) (by rfl) (by exact Nat.le_refl _) (a4A c) fun g9 p9 s9=>?_
  have p9:g9[h.length]?=some (.row a0j 3 [ctr c]):=p9
  have ld9:a0c tab g9 a0j (.ptr h.length 0 0)=some (.agg (ctr c)):=by rw [a3i,a1q p9];rfl
  have fk:frz h.length g9 3 c.kd=c.kd:=a3T _ _ _ c.hk
  simp only [bs,ld9,a0q]
  rw [a1u (d' := .agg (ctr c)) (by
   show D.agg [frz h.length g9 3 c.kd,_,_]=_
   rw [fk];rfl) (.agg _ fun d hd=>b4J _ c d hd) (by have:=s9.1;have:=sg.1;omega) (fun q hq=>by rw [s9.2 q (by omega),sg.2 q (by omega),k1 q (by omega),k0 q hq])]
  exact .some ⟨c,hc,rfl⟩
theorem kne {S:List Ct} (asc:CAsc (S.map ctc)) {i j:Nat} {x y:Ct} (hij:i≠j) (hx:S[i]?=some x) (hy:S[j]?=some y):¬ a0Z x.k y.k=0:=by
 rcases Nat.lt_or_gt_of_ne hij with h | h
 ·have:=a5O asc i j x y h hx hy;omega
 ·have:=a5O asc j i y x h hy hx;rw [a2i] at this;omega
theorem c2J (S:List Ct) (d:D) (m:Ct) (p:Nat) (h:Hp) (hS:RdCt h S d) (hl:S.length≤1000000) (asc:CAsc (S.map ctc)) (hp:S[p]?=some m) :
  R a9w [d,.fn (.func a4I) [] [.fptr (ctr m)]] h=some (.int .i64 p,h):=by
 suffices Wp (R a9w [d,.fn (.func a4I) [] [.fptr (ctr m)]] h) (fun q=>q=(.int .i64 p,h)) by
  obtain ⟨q,h1,rfl⟩:=this
  exact h1
 have hpl:=(c7e.1 hp).1
 rw [c1z]
 simp only [b8t,a4L hS,bs,c6O]
 refine Wp.loop (fun k ds g=>g=h∧∃ i:Nat,∃ a b x y,ds=[a,b,.int .i64 i,x,y]∧k+i=S.length∧i≤p)
  (fun r=>r.1 = .ret∧r.2.2=h∧nth 0 r.2.1 = .int .i64 p) S.length ⟨rfl,0,_,_,_,_,rfl,rfl,by omega⟩ ?_ ?_
 ·rintro k ds g ⟨rfl,i,a,b,x,y,rfl,hk,hi⟩
  have hw:=wi_ i (by omega)
  obtain ⟨u,hu⟩:∃ u,S[i]?=some u:=⟨_,c7d (by omega)⟩
  obtain ⟨q,hq,lq⟩:=a7A hS i u hu
  have hlt:decide ((i:Int)<(S.length:Int))=true:=decide_eq_true (by omega)
  simp only [a8J,a0d,a0f,bs,c6O,a0o,hlt,a0e,if_true,hq,lq,a1D,List.nil_append,List.append_nil,List.cons_append,b9E u m g]
  by_cases he:i=p
  ·subst he
   rw [hp] at hu
   injection hu with hu
   subst hu
   have:decide (a0Z m.k m.k=0)=true:=decide_eq_true (a1R _)
   simp only [this,a0e,if_true]
   exact .some (.inr ⟨by simp,rfl,rfl,rfl⟩)
  ·have:decide (a0Z u.k m.k=0)=false:=decide_eq_false (kne asc he hu hp)
   simp only [this,a0e,c6P,if_false,a0n,hw,bs]
   exact .some (.inl ⟨rfl,k - 1,by omega,rfl,i+1,_,_,_,_,rfl,by omega,by omega⟩)
 ·rintro ⟨ex,ds,g⟩ ⟨rfl,rfl,hi⟩
  simp only at hi
  simp only [a3H,a3G,a3y,bs,a0d,hi,a0q]
  exact .some rfl
theorem c3W {h:Hp} {ob L:Nat} {rows:List (List D)} (ho:h[ob]?=some (.row a0j 3 rows)) (hr:rows.length=L+1):a4D tab h a0r (.msl 3 ob L 1)=some (.tup [],h.set ob (.row a0j 3 (rows.take L++[[.nils,.int .i64 0,.int .i64 0]]))):=by
 have t1:tab a0r=some ti1229:=id rfl
 have t2:ti1229.td = .sl a0j:=id rfl
 have t3:tab a0j=some ti1237:=id rfl
 have t4:ti1237.sz=3:=id rfl
 have t5:ti1237.zero=[.nils,.int .i64 0,.int .i64 0]:=id rfl
 have hd:rows.drop (L+1)=[]:=List.drop_of_length_le (by omega)
 have b:Nat.blt 0 ti1237.sz=true:=by decide
 have hd':∀ x,a4D tab h a0r x=(match Nat.blt 0 ti1237.sz,x with
       | true,.nils=>some (.tup [],h)
       | true,.sl _ _ []=>some (.tup [],h)
       | true,.msl _ _ _ 0=>some (.tup [],h)
       | true,.msl sz o r n=>match h[o]? with
        | some (.row U z rows)=>if sz=ti1237.sz∧z=sz then some (.tup [],h.set o (.row U z (rows.take r++List.replicate n ti1237.zero++rows.drop (r+n)))) else none
        | _=>none
       | _,_=>none):=fun x=>by
  simp only [a4D,t1,t2,t3]
  rfl
 have b3:Nat.blt 0 3=true:=by decide
 rw [hd']
 simp [-bind_some, b3,ho,t4,t5,hd]
theorem c2I (S:List Ct) (ob:Nat) (m:Ct) (p:Nat) (h:Hp) (ho:h[ob]?=some (.row a0j 3 (S.map ctr))) (hl:S.length≤1000000) (asc:CAsc (S.map ctc)) (hp:S[p]?=some m) :
  ∃ h' tl,R a9v [.msl 3 ob 0 S.length,.fn (.func a4I) [] [.fptr (ctr m)]] h=some (.msl 3 ob 0 (S.eraseIdx p).length,h')∧h'[ob]?=some (.row a0j 3 ((S.eraseIdx p).map ctr++[tl]))∧Same ob h h':=by
 suffices Wp (R a9v [.msl 3 ob 0 S.length,.fn (.func a4I) [] [.fptr (ctr m)]] h) (fun q=>q.1 = .msl 3 ob 0 (S.eraseIdx p).length∧∃ tl,q.2[ob]?=some (.row a0j 3 ((S.eraseIdx p).map ctr++[tl]))∧Same ob h q.2) by
  obtain ⟨⟨x,h'⟩,h1,rfl,tl,h2⟩:=this
  exact ⟨h',tl,h1,h2⟩
 have hpl:=(c7e.1 hp).1
 have hEl:(S.eraseIdx p).length+1=S.length:=by rw [List.length_eraseIdx,if_pos hpl];omega
 have hEp:∀ j,p<j→j<S.length→(S.eraseIdx p)[j - 1]?=S[j]?:=fun j h1 h2=>by
  rw [List.getElem?_eraseIdx,if_neg (by omega)]
  congr 1;omega
 have hEt:(S.eraseIdx p).take p=S.take p:=by
  apply List.ext_getElem?
  intro i
  rw [List.getElem?_take,List.getElem?_take]
  split
  ·rw [List.getElem?_eraseIdx,if_pos (by omega)]
  ·rfl
 generalize S.eraseIdx p=E at *
 have rdS:RdCt h S (.msl 3 ob 0 S.length) := .inr ⟨ob,[],rfl,by simpa using ho⟩
 have hne:¬ ((p:Int) = -1):=by omega
 have hw:=wi_ p (by omega)
 rw [c1x]
 simp only [b8r,c2J S _ m p h rdS hl asc hp,bs,a0Q,hne,decide_false,a0e,c6P,if_false,a0n,hw,c6O]
 refine Wp.loop (fun k ds g=>∃ j:Nat,∃ a b c,ds=[.int .i64 (j:Nat),.int .i64 ((j+1:Nat):Int),a,b,c]∧k+(j+1)=S.length∧p≤j∧g[ob]?=some (.row a0j 3 ((E.take j++S.drop j).map ctr))∧Same ob h g)
  (fun r=>r.1 = .ext 0∧nth 0 r.2.1 = .int .i64 E.length∧r.2.2[ob]?=some (.row a0j 3 ((E++S.drop E.length).map ctr))∧Same ob h r.2.2) (S.length - (p+1)) ⟨p,_,_,_,rfl,by omega,Nat.le_refl _,by rw [hEt,List.take_append_drop];exact ho,.refl _ _⟩ ?_ ?_
 ·rintro k ds g ⟨j,a,b,c,rfl,hk,hj,hg,sg⟩
  simp only [a8I,a0d,a0f,bs,c6O,a6m,a0o]
  refine Wp.dif ?_ ?_
  ·intro h0
   have h0:j+1<S.length:=by
    have:((j+1:Nat):Int)<(S.length:Int):=by simpa using h0
    omega
   obtain ⟨u,hu⟩:∃ u,S[j+1]?=some u:=⟨_,c7d h0⟩
   have w1:=wi_ j (by omega)
   have w2:IntKind.wrap .i64 (((j+1:Nat):Int)+1)=((j+1+1:Nat):Int):=by rw [wrap_i64 (by omega) (by omega)];omega
   have htl:(E.take j).length=j:=by rw [c7i];omega
   have hrow:(E.take j++S.drop j)[j+1]?=some u:=by
    rw [List.getElem?_append_right (by omega),htl,List.getElem?_drop,← hu]
    congr 1;omega
   have hrowj:((E.take j++S.drop j).map ctr)[j]?=some (((E.take j++S.drop j).map ctr)[j]'(by simp;omega)):=c7d _
   have hq:a0b tab a0r (.msl 3 ob 0 S.length) (.int .i64 ((j+1:Nat):Int))=some (.ptr ob (j+1) 0):=by rw [a6h,if_pos (by omega)];simp [-bind_some]
   have hq2:a0b tab a0r (.msl 3 ob 0 S.length) (.int .i64 (j:Int))=some (.ptr ob j 0):=by rw [a6h,if_pos (by omega)];simp [-bind_some]
   have lq:a0c tab g a0j (.ptr ob (j+1) 0)=some (.agg (ctr u)):=by rw [a3i,a1q hg,c7b,hrow];rfl
   have hdec:decide (a0Z u.k m.k=0)=false:=decide_eq_false (kne asc (by omega) hu hp)
   simp only [hq,lq,bs,b0T,ctL,a1D,List.nil_append,List.append_nil,List.cons_append,b9E u m g,hdec,a3K,c6Z,a0e,if_true,hq2,c6O]
   refine a4T (kk:=j) (off:=0) (v := .agg (ctr u)) hg hrowj (by rfl) (by
    have:∀ r∈(E.take j++S.drop j).map ctr,r.length=3:=fun r hr=>by
     obtain ⟨x,_,rfl⟩:=c7l.1 hr;rfl
    rw [this _ (List.getElem_mem _)];exact Nat.le_refl _) (a4A u) fun g5 p5 s5=>?_
   have hset:((E.take j++S.drop j).map ctr).set j (spl (((E.take j++S.drop j).map ctr)[j]'(by simp;omega)) 0 (a0t (.agg (ctr u))))=(E.take (j+1)++S.drop (j+1)).map ctr:=by
    have e1:spl (((E.take j++S.drop j).map ctr)[j]'(by simp;omega)) 0 (a0t (.agg (ctr u)))=ctr u:=by
     rw [List.getElem_map]
     generalize (E.take j++S.drop j)[j]'(by simp;omega)=v
     rfl
    have hEj:E[j]?=some u:=by
     have:=hEp (j+1) (by omega) h0
     rw [Nat.add_sub_cancel] at this
     rw [this];exact hu
    rw [e1,← List.map_set]
    congr 1
    rw [c7a,hEj]
    rw [List.set_append_right _ _ (by omega),htl,Nat.sub_self]
    have hdj:S.drop j=S[j]'(by omega)::S.drop (j+1):=List.drop_eq_getElem_cons (by omega)
    rw [hdj,List.set_cons_zero]
    simp [-bind_some]
   rw [hset] at p5
   simp only [bs,a0n,w1,a0v,a0g,a0d,w2]
   exact .some (.inl ⟨rfl,k - 1,by omega,j+1,_,_,_,rfl,by omega,by omega,p5,sg.trans s5⟩)
  ·intro h0
   have h0:j+1=S.length:=by
    have:¬ ((j+1:Nat):Int)<(S.length:Int):=by simpa using h0
    omega
   have hjE:j=E.length:=by omega
   subst hjE
   exact .some (.inr ⟨by simp,rfl,rfl,by rw [c7m] at hg;exact hg,sg⟩)
 ·rintro ⟨ex,ds,g⟩ ⟨rfl,hi,hg,sg⟩
  simp only at hi hg sg
  have hlo:a0E tab a0r true false false [.msl 3 ob 0 S.length,.int .i64 (E.length:Nat)]=some (.msl 3 ob (0+E.length) (S.length - E.length)):=b9r (T:=tab) (t:=a0r) (i:=ti1229) (j:=ti1237) (id rfl) (id rfl) (id rfl) (id rfl) (by decide) (by omega) (Nat.zero_le _)
  have hhi:a0E tab a0r false true false [.msl 3 ob 0 S.length,.int .i64 (E.length:Nat)]=some (.msl 3 ob 0 E.length):=b5f (T:=tab) (t:=a0r) (i:=ti1229) (j:=ti1237) (id rfl) (id rfl) (id rfl) (id rfl) (by decide) (by omega)
  have e1:S.length - E.length=1:=by omega
  rw [Nat.zero_add,e1] at hlo
  have hcl:=c3W hg (L:=E.length) (by simp;omega)
  have hct:((E++S.drop E.length).map ctr).take E.length=E.map ctr:=by rw [← List.map_take,List.take_left' rfl]
  rw [hct] at hcl
  have hob:=(c7e.1 hg).1
  simp only [a0m,a0g,bs,a0d,hi,hlo,hcl,hhi,a0q]
  refine .some ⟨rfl,_,by simp [-bind_some, hob];rfl,sg.trans ⟨by simp,fun q hq=>?_⟩⟩
  rw [c7o (fun e=>hq e.symm)]
theorem a7R:∀ (S:List Cn) (x:Cn) (i:Nat),(∀ j c,j<i→S[j]?=some c→a0Z c.1 x.1<0)→(∀ j c,i≤j→S[j]?=some c→¬ a0Z c.1 x.1<0)→a7Q S x=S.take i++x::S.drop i
 | [],x,i,_,_=>by simp [-bind_some, a7Q]
 | y::r,x,0,_,h2=>by
  have:=h2 0 y (Nat.le_refl _) rfl
  rw [a3t,if_neg this];rfl
 | y::r,x,i+1,h1,h2=>by
  have:=h1 0 y (by omega) rfl
  rw [a3t,if_pos this,a7R r x i (fun j c hj hc=>h1 (j+1) c (by omega) hc) fun j c hj hc=>h2 (j+1) c (by omega) hc]
  rfl
theorem b6L {α:Type} {z:Nat} {f:α→List D} {l:List α} {d:D} (hd:SlOf z f l d):a1J d=some (.fptr [d]):=by
 rcases hd with ⟨rfl,_⟩ | ⟨b,rfl⟩
 ·exact b0m
 ·exact b4c _ _ _
theorem c3b {e:Nat} {h:Hp} {x:D} (hx:x.one=true):b7I e 1 h x=some (.ptr h.length 0 0,a0H h e 1 [[x]]):=by
 obtain ⟨h1,h2⟩:=a1k hx
 simp [-bind_some, b7I,h1,h2]
theorem c2E (l:List Str) (d:D) (h:Hp) (hd:SlOf 1 (fun s=>[D.str s]) l d) (hl:l.length≤1000000):∃ d',R b1x [d] h=some (d',h)∧SlOf 1 (fun s=>[D.str s]) l d':=by
 rw [c1q]
 have hrow:=a2f h hd
 by_cases hn:d = .nils
 ·subst hn
  have hl0:l=[]:=by
   rcases hd with ⟨_,h2⟩ | ⟨b,h2⟩
   ·simpa using h2
   ·cases h2
  subst hl0
  refine ⟨.nils,?_,.nils _ _⟩
  have hne:a0l tab .eql a0C .nils .nils=some (.bool true):=id rfl
  simp only [b5D,hne,bs,a0e,if_true,a0q]
  exact a1u rfl .nils (Nat.le_refl _) fun _ _=>rfl
 ·obtain ⟨x',h',e,hl',hq,ho⟩:=a5N (T:=tab) (t:=a0C) (i:=b7g) (j:=ti9) (h:=h) (id rfl) (id rfl) (id rfl) (by decide) (y:=d) hrow (a2d (by have:ti9.by_=16:=rfl;rw [this,c6U];omega) (by rw [c6U];omega))
  have e':a0p tab h a0C a0C (.sl 1 true []) d=some (x',h'):=e
  have hne:a0l tab .eql a0C d .nils=some (.bool false):=by
   rcases hd with ⟨h2,_⟩ | ⟨b,rfl⟩
   ·exact absurd h2 hn
   ·exact id rfl
  have hs4:SlOf 1 (fun s=>[D.str s]) l (frz h.length h' 4 x'):=by
   rcases ho with ⟨rfl,hn⟩ | ⟨rfl,hn⟩ | ⟨ob,h1,rfl,h2⟩
   ·have:l=[]:=by simpa using hn
    subst this
    exact .inr ⟨true,rfl⟩
   ·have:l=[]:=by simpa using hn
    subst this
    exact .nils _ _
   ·exact a1W (n:=3) (.inr ⟨ob,h1,by rw [c6U];rfl,h2⟩) (Nat.le_refl _) fun a _ y hy=>by simp at hy;subst hy;exact a3M _ _ _ _
  refine ⟨_,?_,hs4⟩
  simp only [b5D,bs,hne,a0e,c6P,if_false,b8H,e',a0q]
  exact a1u rfl (a4b _ hs4) hl' hq
theorem b9C (S:List Ct) (x:D) (o:Nat) (key:List Str) (dk:D) (g:Hp) (hg:g[o]?=some (.row a0r 1 [[x]])) (hS:RdCt g S x) (hk:SlOf 1 (fun s=>[D.str s]) key dk) (hkl:key.length≤1000000) (hl:S.length≤1000000) (asc:CAsc (S.map ctc)) :
  ∃ (i:Nat) (b:Bool),i≤S.length∧R b1y [.ptr o 0 0,.fptr [dk]] g=some (.tup [.int .i64 i,.bool b],g)∧(b=true↔∃ c,S[i]?=some c∧c.k=key)∧(∀ j c,j<i→S[j]?=some c→a0Z c.k key<0)∧(∀ j c,i≤j→S[j]?=some c→¬ a0Z c.k key<0):=by
 obtain ⟨i,b,h1,e,h2⟩:=c2F S x key dk g hS hk hkl hl asc
 refine ⟨i,b,h1,?_,h2⟩
 have ld:a0c tab g a0r (.ptr o 0 0)=some x:=by rw [a8e,a1q hg];rfl
 rw [c1s]
 simp only [b8m,ld,c3E,bs,e,a1a,c6R,c6S,a1U]
def LvC (g:Hp) (n0:Nat) (S:List Ct) (x:D):Prop:=(S=[]∧(x = .nils∨x = .sl 3 true []))∨∃ ob tl,n0≤ob∧x = .msl 3 ob 0 S.length∧g[ob]?=some (.row a0j 3 (S.map ctr++tl))
theorem LvC.rdc {g:Hp} {n0:Nat} {S:List Ct} {x:D} (h:LvC g n0 S x):RdCt g S x:=by
 rcases h with ⟨rfl,rfl | rfl⟩ | ⟨ob,tl,_,h1,h2⟩
 ·exact .inl (.nils _ _)
 ·exact .inl (.inr ⟨true,rfl⟩)
 ·exact .inr ⟨ob,tl,h1,h2⟩
theorem LvC.one {g:Hp} {n0:Nat} {S:List Ct} {x:D} (h:LvC g n0 S x):x.one=true:=by
 rcases h with ⟨_,rfl | rfl⟩ | ⟨ob,tl,_,rfl,_⟩ <;> rfl
theorem LvC.keep {g g':Hp} {n0:Nat} {S:List Ct} {x:D} (h:LvC g n0 S x) (hk:∀ q,n0≤q→q<g.length→g'[q]?=g[q]?):LvC g' n0 S x:=by
 rcases h with h | ⟨ob,tl,h0,h1,h2⟩
 ·exact .inl h
 ·exact .inr ⟨ob,tl,h0,h1,by rw [hk ob h0 (c7e.1 h2).1];exact h2⟩
theorem c3D {g:Hp} {n0:Nat} {S:List Ct} {x:D} (hx:LvC g n0 S x) (hn:n0≤g.length) (hl:S.length≤1000000) (i:Nat) (hi:i≤S.length) (c:Ct) :
  ∃ x' g',R a4J [x,.int .i64 i,.sl 3 true [ctr c]] g=some (x',g')∧Own g' n0 a0j 3 ((S.take i++c::S.drop i).map ctr) x'∧g.length≤g'.length∧∀ q,q<n0→g'[q]?=g[q]?:=by
 have hz:ti1237.sz=3:=id rfl
 have hby:ti1237.by_=40:=id rfl
 have hlim:lim (S.length+1) ti1237.by_=true:=a2d (by rw [hby];omega) (by omega)
 rcases hx with ⟨rfl,hx⟩ | ⟨ob,tl,hob,rfl,ho⟩
 ·have hi0:i=0:=by simpa using hi
  subst hi0
  have hlim1:lim 1 ti1237.by_=true:=hlim
  have e:R a4J [x,.int .i64 ((0:Nat):Int),.sl 3 true [ctr c]] g=some (.msl 3 g.length 0 1,a0H g a0j 3 [ctr c]):=by
   rw [a6A]
   rcases hx with rfl | rfl <;> simp [-bind_some, a7S,b0X,hz,hlim1]
  exact ⟨_,_,e,.inr ⟨g.length,hn,rfl,a1f _ _ _ _⟩,by rw [a2N];omega,fun q hq=>a1d _ _ _ _ (by omega)⟩
 ·have hlt:=(c7e.1 ho).1
  have hkn:(i:Int)≤(S.length:Int):=by omega
  have hrows:(S.map ctr).take i++ctr c::(S.map ctr).drop i=(S.take i++c::S.drop i).map ctr:=by simp
  have hlen:(S.take i++c::S.drop i).length=S.length+1:=by simp;omega
  cases tl with
  | nil =>
   rw [List.append_nil] at ho
   have e:R a4J [.msl 3 ob 0 S.length,.int .i64 i,.sl 3 true [ctr c]] g=some (.msl 3 g.length 0 (S.length+1),a0H (g.set ob .dead) a0j 3 ((S.map ctr).take i++ctr c::(S.map ctr).drop i)):=by
    rw [a6A]
    simp [-bind_some, a7S,b0X,ho,hz,hlim,hkn]
   rw [hrows] at e
   refine ⟨_,_,e,.inr ⟨g.length,hn,by rw [c6U,hlen],?_⟩,by rw [a2N];simp [-bind_some],fun q hq=>?_⟩
   ·have:=a1f (g.set ob .dead) a0j 3 ((S.take i++c::S.drop i).map ctr)
    rw [List.length_set] at this
    exact this
   ·rw [a1d _ _ _ _ (by simp;omega),c7o (by omega)]
  | cons t r =>
   have hn1:S.length<(S.map ctr++t::r).length:=by simp
   have htk:(S.map ctr++t::r).take S.length=S.map ctr:=by rw [List.take_left' (by simp)]
   have hg1:(a0H (g.set ob .dead) a0j 3 (S.map ctr))[g.length]?=some (.row a0j 3 (S.map ctr)):=by
    have:=a1f (g.set ob .dead) a0j 3 (S.map ctr)
    rw [List.length_set] at this
    exact this
   have hl1:(a0H (g.set ob .dead) a0j 3 (S.map ctr)).length=g.length+1:=by rw [a2N];simp [-bind_some]
   have hl9:∀ q,q<g.length→q≠ob→(a0H (g.set ob .dead) a0j 3 (S.map ctr))[q]?=g[q]?:=fun q hq hne=>by
    rw [a1d _ _ _ _ (by simp;omega),c7o (fun e=>hne e.symm)]
   have e:R a4J [.msl 3 ob 0 S.length,.int .i64 i,.sl 3 true [ctr c]] g=b0X a0j ti1237 [.msl 3 g.length 0 S.length,.int .i64 i,.sl 3 true [ctr c]] (a0H (g.set ob .dead) a0j 3 (S.map ctr)):=by
    rw [a6A]
    simp only [a7S,ho,hn1,and_self,if_true,htk]
   generalize a0H (g.set ob .dead) a0j 3 (S.map ctr)=G at *
   have e2:b0X a0j ti1237 [.msl 3 g.length 0 S.length,.int .i64 i,.sl 3 true [ctr c]] G=some (.msl 3 G.length 0 (S.length+1),a0H (G.set g.length .dead) a0j 3 ((S.map ctr).take i++ctr c::(S.map ctr).drop i)):=by
    simp [-bind_some, b0X,hg1,hz,hlim,hkn]
   rw [e2,hl1] at e
   rw [hrows] at e
   refine ⟨_,_,e,.inr ⟨g.length+1,by omega,by rw [c6U,hlen],?_⟩,by rw [a2N,List.length_set,hl1];omega,fun q hq=>?_⟩
   ·have:=a1f (G.set g.length .dead) a0j 3 ((S.take i++c::S.drop i).map ctr)
    rw [List.length_set,hl1] at this
    exact this
   ·rw [a1d _ _ _ _ (by rw [List.length_set,hl1];omega),c7o (by omega)]
    exact hl9 q (by omega) (by omega)
theorem b6w {S:List Ct} (asc:CAsc (S.map ctc)) {key:List Str} {i:Nat} {b:Bool} (hb:b=true↔∃ c,S[i]?=some c∧c.k=key) (h1:∀ j c,j<i→S[j]?=some c→a0Z c.k key<0) (h2:∀ j c,i≤j→S[j]?=some c→¬ a0Z c.k key<0):b=true↔key∈(S.map ctc).map (·.1):=by
 have hk:(S.map ctc).map (·.1)=S.map Ct.k:=by rw [List.map_map];rfl
 rw [hb,hk]
 constructor
 ·rintro ⟨c,hc,rfl⟩
  exact c7l.2 ⟨c,c7c hc,rfl⟩
 ·intro h
  obtain ⟨c,hc,e⟩:=c7l.1 h
  obtain ⟨j,hj⟩:=List.mem_iff_getElem?.1 hc
  refine ⟨c,?_,e⟩
  rcases Nat.lt_trichotomy j i with h3 | h3 | h3
  ·have:=h1 j c h3 hj
   rw [e,a1R] at this;omega
  ·rw [← h3];exact hj
  ·have hil:=(c7e.1 hj).1
   obtain ⟨u,hu⟩:∃ u,S[i]?=some u:=⟨_,c7d (by omega)⟩
   have h4:=a5O asc i j u c h3 hu hj
   rw [e] at h4
   exact absurd h4 (h2 i u (Nat.le_refl _) hu)
theorem b5O {S:List Ct} (asc:CAsc (S.map ctc)) {i:Nat} {c:Ct} (hc:S[i]?=some c) (c':Ct) (hk:c'.k=c.k) (w:Int) (hn:c'.n=c.n+w) (he:c'.e=c.e):(S.set i c').map ctc=a6B (S.map ctc) c.k w:=by
 apply List.ext_getElem?
 intro j
 unfold a6B
 rw [List.map_map,c7b,c7b,List.getElem?_set]
 by_cases h:i=j
 ·subst h
  have:=(c7e.1 hc).1
  rw [if_pos rfl,if_pos this,hc]
  show some (ctc c')=some (if (ctc c).1=c.k then _ else _)
  rw [if_pos (show (ctc c).1=c.k from rfl)]
  show some (c'.k,c'.n,c'.e)=some (c.k,c.n+w,c.e)
  rw [hk,hn,he]
 ·rw [if_neg h]
  cases hj:S[j]? with
  | none=>rfl
  | some u =>
   show some (ctc u)=some (if (ctc u).1=c.k then _ else _)
   rw [if_neg]
   intro e
   exact kne asc h hc hj ((a1H _ _).2 e.symm)
theorem a7s {α β:Type} (f:α→β):∀ (l:List α) (i:Nat),(l.eraseIdx i).map f=(l.map f).eraseIdx i
 | [],_=>rfl
 | x::r,0=>rfl
 | x::r,i+1=>by simp [-bind_some, a7s f r i]
theorem c2C (S:List Ct) (d:D) (size:Int) (key:List Str) (dk:D) (w:Int) (h:Hp) (hd:SlOf 3 ctr S d) (hk:SlOf 1 (fun s=>[D.str s]) key dk) (hkl:key.length≤1000000) (hl:S.length≤100000) (asc:CAsc (S.map ctc)) (hs:1≤size)
  (hw:∀ c∈S,IntKind.wrap .i64 (c.n+w)=c.n+w) :
  ∃ (S':List Ct) (d':D),R a5q [d,.int .i64 size,dk,.int .i64 w] h=some (d',h)∧SlOf 3 ctr S' d'∧S'.map ctc=obs size (S.map ctc) key w:=by
 suffices Wp (R a5q [d,.int .i64 size,dk,.int .i64 w] h) (fun p=>p.2=h∧∃ S':List Ct,SlOf 3 ctr S' p.1∧S'.map ctc=obs size (S.map ctc) key w) by
  obtain ⟨⟨x,h'⟩,h1,rfl,S',h2⟩:=this
  exact ⟨S',x,h1,h2⟩
 have r0:(a0H h a0r 1 [[d]])[h.length]?=some (.row a0r 1 [[d]]):=a1f _ _ _ _
 have l0:(a0H h a0r 1 [[d]]).length=h.length+1:=a2N _ _ _ _
 have k0:∀ q,q<h.length→(a0H h a0r 1 [[d]])[q]?=h[q]?:=fun q hq=>a1d _ _ _ _ hq
 -- the end
 have fin:∀ (g:Hp) (x:D) (S':List Ct) {β:Type},Own g h.length a0j 3 (S'.map ctr) x→h.length≤g.length→(∀ q,q<h.length→g[q]?=h[q]?)→S'.map ctc=obs size (S.map ctc) key w→Wp (scope h g (a0i [x])) (fun p=>p.2=h∧∃ S':List Ct,SlOf 3 ctr S' p.1∧S'.map ctc=obs size (S.map ctc) key w):=fun g x S' β ow hl hb hc=>by
  have hso:=a1W (n0:=h.length) (n:=3) ow (Nat.le_refl _) (fun a _=>b5V _ g 2 a)
  rw [a0q,a1u (d':=frz h.length g 4 x) rfl (a1j hso fun a _=>b4J _ a) hl hb]
  exact .some ⟨rfl,S',hso,hc⟩
 rw [c1n]
 have ld0:a0c tab (a0H h a0r 1 [[d]]) a0r (.ptr h.length 0 0)=some d:=by rw [a8e,a1q r0];rfl
 simp only [b8j,c3b (a0R hd),b6L hk,bs,ld0,c6O]
 generalize a0H h a0r 1 [[d]]=g0 at *
 obtain ⟨x,g1,e1,l1,k1,hx⟩:=c2V S d g0 hd (by omega)
 have lv1:LvC g1 (h.length+1) S x:=by
  rcases hx with hx | ⟨ob,q1,q2,q3⟩
  ·exact .inl hx
  ·exact .inr ⟨ob,[],by omega,q2,by simpa using q3⟩
 have ox:=a1k lv1.one
 simp only [e1,bs]
 refine b2S (kk:=0) (off:=0) (row:=[d]) (v:=x) (by rw [k1 _ (by omega)];exact r0) (by rfl) (by rw [ox.1];rfl) (by simp) ox.2 fun g2 p2 s2=>?_
 rw [ox.1] at p2
 have p2:g2[h.length]?=some (.row a0r 1 [[x]]):=p2
 have len2:h.length+1≤g2.length:=by have:=s2.1;omega
 have old2:∀ q,q<h.length→g2[q]?=h[q]?:=fun q hq=>by rw [s2.2 q (by omega),k1 q (by omega),k0 q hq]
 have lv2:LvC g2 (h.length+1) S x:=lv1.keep fun q h1 _=>s2.2 q (by omega)
 obtain ⟨i,b,hi,e3,hb,hlo,hhi⟩:=b9C S x h.length key dk g2 p2 lv2.rdc hk hkl (by omega) asc
 have hmem:=b6w asc hb hlo hhi
 have ldx:∀ {g:Hp} {y:D},g[h.length]?=some (.row a0r 1 [[y]])→a0c tab g a0r (.ptr h.length 0 0)=some y:=fun {g y} hg=>by rw [a8e,a1q hg];rfl
 simp only [bs,a1D,List.nil_append,List.append_nil,List.cons_append,e3,a1a,c6R,c6S,c6O]
 cases b with
 | true =>
  obtain ⟨c,hc,hck⟩:=hb.1 rfl
  have hiS:=(c7e.1 hc).1
  rcases hx with ⟨rfl,_⟩ | ⟨ob,hob,rfl,ho⟩
  ·simp at hiS
  have ho:g2[ob]?=some (.row a0j 3 (S.map ctr)):=by rw [s2.2 _ (by omega)];exact ho
  have hix:a0b tab a0r (.msl 3 ob 0 S.length) (.int .i64 i)=some (.ptr ob i 0):=by rw [a6h,if_pos (by omega)];simp [-bind_some]
  have hrow:(S.map ctr)[i]?=some (ctr c):=by rw [c7b,hc];rfl
  have hld:a0c tab g2 ty3 (.ptr ob i (0+1))=some (.int .i64 c.n):=by rw [c5Y,a1q ho,hrow];rfl
  simp only [a0e,if_true,ldx p2,bs,hix,a6Z,hld,a0n,hw c (c7c hc),c6O]
  refine b7J (kk:=i) (off:=0+1) (row:=ctr c) (v := .int .i64 (c.n+w)) ho hrow (by rfl) (by simp [-bind_some, ctr]) (by rfl) fun g3 p3 s3=>?_
  obtain ⟨c',hc'⟩:∃ c':Ct,c'=⟨c.k,c.kd,c.hk,c.hkl,c.n+w,c.e⟩:=⟨_,rfl⟩
  have hset:(S.map ctr).set i (spl (ctr c) (0+1) (a0t (.int .i64 (c.n+w))))=(S.set i c').map ctr:=by
   have:spl (ctr c) (0+1) (a0t (.int .i64 (c.n+w)))=ctr c':=by rw [hc'];rfl
   rw [this,List.map_set]
  rw [hset] at p3
  have p3x:g3[h.length]?=some (.row a0r 1 [[.msl 3 ob 0 S.length]]):=by rw [s3.2 _ (by omega)];exact p2
  simp only [bs,ldx p3x]
  refine fin g3 _ (S.set i c') (β:=Unit) (.inr ⟨ob,by omega,by simp,p3⟩) (by have:=s3.1;omega) (fun q hq=>by rw [s3.2 q (by omega),old2 q hq]) ?_
  unfold obs
  rw [if_pos (hmem.1 rfl),← hck]
  exact b5O asc hc c' (by rw [hc']) w (by rw [hc']) (by rw [hc'])
 | false =>
  have hnk:key∉(S.map ctc).map (·.1):=fun hh=>by have:=hmem.2 hh;cases this
  obtain ⟨kd,e4,hkd⟩:=c2E key dk g2 hk hkl
  obtain ⟨c0,hc0⟩:∃ c0:Ct,c0=⟨key,kd,hkd,hkl,w,0⟩:=⟨_,rfl⟩
  have hb0:a0T tab a0j [0,1] [kd,.int .i64 w]=some (.agg (ctr c0)):=by rw [hc0];exact a9W kd w (a0R hkd)
  have r5:(a0H g2 a0j 3 [[.nils,.int .i64 0,.int .i64 0]])[g2.length]?=some (.row a0j 3 [[.nils,.int .i64 0,.int .i64 0]]):=a1f _ _ _ _
  have l5:(a0H g2 a0j 3 [[.nils,.int .i64 0,.int .i64 0]]).length=g2.length+1:=a2N _ _ _ _
  have k5:∀ q,q<g2.length→(a0H g2 a0j 3 [[.nils,.int .i64 0,.int .i64 0]])[q]?=g2[q]?:=fun q hq=>a1d _ _ _ _ hq
  simp only [a0e,c6P,if_false,c3E,bs,e4,hb0,c6O]
  generalize a0H g2 a0j 3 [[.nils,.int .i64 0,.int .i64 0]]=g5 at *
  refine a4T (kk:=0) (off:=0) (row:=[.nils,.int .i64 0,.int .i64 0]) (v := .agg (ctr c0)) r5 (by rfl) (by rfl) (by exact Nat.le_refl _) (a4A c0) fun g6 p6 s6=>?_
  have p6:g6[g2.length]?=some (.row a0j 3 [ctr c0]):=p6
  have p6x:g6[h.length]?=some (.row a0r 1 [[x]]):=by rw [s6.2 _ (by omega),k5 _ (by omega)];exact p2
  have lv6:LvC g6 (h.length+1) S x:=lv2.keep fun q h1 h2=>by rw [s6.2 q (by omega),k5 q h2]
  have old6:∀ q,q<h.length→g6[q]?=h[q]?:=fun q hq=>by rw [s6.2 q (by omega),k5 q (by omega),old2 q hq]
  have len6:g2.length+1≤g6.length:=by have:=s6.1;omega
  have hst:=a1R key
  try simp only [bs]
  simp only [ldx p6x,bs,a4L lv6.rdc,a8Y]
  by_cases hroom:(S.length:Int)<size
  ·have hge:decide ((S.length:Int)≥size)=false:=decide_eq_false (by omega)
   have hc0l:a0c tab g6 a0j (.ptr g2.length 0 0)=some (.agg (ctr c0)):=by rw [a3i,a1q p6];rfl
   have hlit:a0y tab a0r 1 [0] [.agg (ctr c0)]=some (.sl 3 true [ctr c0]):=id rfl
   obtain ⟨x9,g9,e9,o9,l9,k9⟩:=c3D lv6 (by omega) (by omega) i hi c0
   simp only [hge,a0S,a9z,reduceCtorEq,c6P,c6Q,if_false,bs,a0A,a0e,a0g,ldx p6x,a0d,hc0l,hlit,e9]
   refine fin g9 x9 _ (β:=Unit) (o9.from (by omega)) (by omega) (fun q hq=>by rw [k9 q (by omega),old6 q hq]) ?_
   have hcc:ctc c0=(key,w,0):=by rw [hc0];rfl
   have hat:=a7R (S.map ctc) (key,w,0) i (fun j c hj hcj=>?_) (fun j c hj hcj=>?_)
   ·unfold obs
    rw [if_neg hnk,if_pos (by rw [c6U];exact hroom),hat]
    simp [-bind_some, hcc]
   ·rw [c7b] at hcj
    cases hu:S[j]? with
    | none=>rw [hu] at hcj;cases hcj
    | some u=>rw [hu] at hcj;cases hcj;exact hlo j u hj hu
   ·rw [c7b] at hcj
    cases hu:S[j]? with
    | none=>rw [hu] at hcj;cases hcj
    | some u=>rw [hu] at hcj;cases hcj;exact hhi j u hj hu
  ·have hge:decide ((S.length:Int)≥size)=true:=decide_eq_true (by omega)
   have hgt:decide ((S.length:Int)>0)=true:=decide_eq_true (by omega)
   have hlp:0<S.length:=by omega
   rcases hx with ⟨rfl,_⟩ | ⟨ob,hob,rfl,ho⟩
   ·simp at hlp
   have ho6:g6[ob]?=some (.row a0j 3 (S.map ctr)):=by
    have:=s2.1
    have h9:=(c7e.1 ho).1
    rw [s6.2 _ (by omega),k5 _ (by omega),s2.2 _ (by omega)];exact ho
   obtain ⟨m,hm,e7⟩:=c2G S _ g6 lv6.rdc (by omega) hlp asc
   have hmn:a5b (S.map ctc)=m.n:=by
    unfold a5b
    rw [c6U]
    exact c1P hm
   have hwm:=hw m (c7c hm)
   simp only [hge,hgt,a0S,if_true,bs,ldx p6x,a6m,a1l,a0A,a0e,e7,b0T,b5U,b4I,a0n,hwm,a6Z,c6O]
   refine b7J (kk:=0) (off:=0+1) (row:=ctr c0) (v := .int .i64 (m.n+w)) p6 (by rfl) (by rfl) (by simp [-bind_some, ctr]) (by rfl) fun g7 p7 s7=>?_
   simp only [bs,b4I,a1r,b1k,c6O]
   refine b7J (kk:=0) (off:=0+2) (row:=[kd,.int .i64 (m.n+w),.int .i64 0]) (v := .int .i64 m.n) (by rw [hc0] at p7;exact p7) (by rfl) (by rfl) (by simp) (by rfl) fun g8 p8 s8=>?_
   obtain ⟨c1,hc1⟩:∃ c1:Ct,c1=⟨key,kd,hkd,hkl,m.n+w,m.n⟩:=⟨_,rfl⟩
   have p8:g8[g2.length]?=some (.row a0j 3 [ctr c1]):=by rw [hc1];exact p8
   have h9:=(c7e.1 ho).1
   have hs21:=s2.1
   have p8x:g8[h.length]?=some (.row a0r 1 [[.msl 3 ob 0 S.length]]):=by rw [s8.2 _ (by omega),s7.2 _ (by omega)];exact p6x
   have ho8:g8[ob]?=some (.row a0j 3 (S.map ctr)):=by rw [s8.2 _ (by omega),s7.2 _ (by omega)];exact ho6
   obtain ⟨g10,tl,e10,p10,s10⟩:=c2I S ob m _ g8 ho8 (by omega) asc hm
   have hmp:=(c7e.1 hm).1
   have hEc:(S.eraseIdx (lst (S.map ctc) S.length)).map ctc=(S.map ctc).eraseIdx (lst (S.map ctc) S.length):=a7s ctc S _
   have hEa:CAsc ((S.eraseIdx (lst (S.map ctc) S.length)).map ctc):=by rw [hEc];exact asc.sublist (List.eraseIdx_sublist _ _)
   have hEl:(S.eraseIdx (lst (S.map ctc) S.length)).length≤S.length:=(List.eraseIdx_sublist _ _).length_le
   simp only [bs,ldx p8x,e10]
   obtain ⟨E,hE⟩:∃ E,E=S.eraseIdx (lst (S.map ctc) S.length):=⟨_,rfl⟩
   rw [← hE] at p10 hEc hEa hEl ⊢
   have p10x:g10[h.length]?=some (.row a0r 1 [[.msl 3 ob 0 S.length]]):=by rw [s10.2 _ (by omega)];exact p8x
   refine b2S (kk:=0) (off:=0) (row:=[.msl 3 ob 0 S.length]) (v := .msl 3 ob 0 E.length) p10x (by rfl) (by rfl) (by simp) (by rfl) fun g11 p11 s11=>?_
   have p11:g11[h.length]?=some (.row a0r 1 [[.msl 3 ob 0 E.length]]):=p11
   have lv11:LvC g11 (h.length+1) E (.msl 3 ob 0 E.length) := .inr ⟨ob,[tl],by omega,rfl,by rw [s11.2 _ (by omega)];exact p10⟩
   obtain ⟨i2,b2,hi2,e12,hb2,hlo2,hhi2⟩:=b9C E _ h.length key dk g11 p11 lv11.rdc hk hkl (by omega) hEa
   have p11c:g11[g2.length]?=some (.row a0j 3 [ctr c1]):=by rw [s11.2 _ (by omega),s10.2 _ (by omega)];exact p8
   have hc1l:a0c tab g11 a0j (.ptr g2.length 0 0)=some (.agg (ctr c1)):=by rw [a3i,a1q p11c];rfl
   have hlit:a0y tab a0r 1 [0] [.agg (ctr c1)]=some (.sl 3 true [ctr c1]):=id rfl
   have l7:=s7.1
   have l8:=s8.1
   have l10:=s10.1
   have l11:=s11.1
   obtain ⟨x13,g13,e13,o13,l13,k13⟩:=c3D lv11 (by omega) (by omega) i2 hi2 c1
   simp only [bs,a1D,List.nil_append,List.append_nil,List.cons_append,e12,a1a,c6R,c6S,a0g,a0d,ldx p11,hc1l,hlit,e13]
   refine fin g13 x13 _ (β:=Unit) (o13.from (by omega)) (by omega) (fun q hq=>by rw [k13 q (by omega),s11.2 q (by omega),s10.2 q (by omega),s8.2 q (by omega),s7.2 q (by omega),old6 q hq]) ?_
   have hcc:ctc c1=(key,a5b (S.map ctc)+w,a5b (S.map ctc)):=by rw [hc1,hmn];rfl
   have hat:=a7R (E.map ctc) (key,a5b (S.map ctc)+w,a5b (S.map ctc)) i2 (fun j c hj hcj=>?_) (fun j c hj hcj=>?_)
   ·unfold obs
    rw [if_neg hnk,if_neg (by rw [c6U];exact hroom),c6U,← hEc,hat]
    simp [-bind_some, hcc]
   ·rw [c7b] at hcj
    cases hu:E[j]? with
    | none=>rw [hu] at hcj;cases hcj
    | some u=>rw [hu] at hcj;cases hcj;exact hlo2 j u hj hu
   ·rw [c7b] at hcj
    cases hu:E[j]? with
    | none=>rw [hu] at hcj;cases hcj
    | some u=>rw [hu] at hcj;cases hcj;exact hhi2 j u hj hu
theorem a6I (S:List Cn) (c:Cn):a2q (S++[c])=a2q S+c.2.1:=by simp [-bind_some, a2q]
theorem a1Q:∀ (S:List Cn) (i:Nat),(∀ c∈S,0≤c.2.1)→0≤a2q (S.take i)∧a2q (S.take i)≤a2q S
 | [],i,_=>by simp [-bind_some, a2q]
 | x::r,0,h=>by
  have h1:=(a1Q r r.length fun c hc=>h c (by simp [-bind_some, hc])).1
  rw [c7m] at h1
  have h2:=h x (by simp)
  simp only [List.take_zero,a2q,List.map_nil,List.sum_nil,c6W,List.sum_cons] at h1 ⊢
  omega
 | x::r,i+1,h=>by
  obtain ⟨h1,h3⟩:=a1Q r i fun c hc=>h c (by simp [-bind_some, hc])
  have h2:=h x (by simp)
  simp only [List.take_succ_cons,a2q,c6W,List.sum_cons] at h1 h3 ⊢
  omega
theorem b3n {S:List Cn} (h:∀ c∈S,0≤c.2.1) {c:Cn} (hc:c∈S):c.2.1≤a2q S:=by
 obtain ⟨i,hi⟩:=List.mem_iff_getElem?.1 hc
 have h1:=(a1Q S i h).1
 have h2:=(a1Q S (i+1) h).2
 rw [c7a,hi] at h2
 have:a2q (S.take i++(some c).toList)=a2q (S.take i)+c.2.1:=a6I _ _
 omega
theorem c2D (S:List Ct) (d:D) (h:Hp) (hd:SlOf 3 ctr S d) (hn:∀ c∈S.map ctc,0≤c.2.1) (hs:a2q (S.map ctc)≤1000000000000) (hl:S.length≤1000000):R a7h [d] h=some (.int .i64 (a2q (S.map ctc)),h):=by
 apply Wp.val
 rw [c1o]
 simp only [b8k,bs,a3E hd,c6O]
 refine Wp.loop (fun k ds g=>g=h∧∃ i:Nat,∃ a b,ds=[.int .i64 (a2q ((S.map ctc).take i)),a,.int .i64 i,b]∧k+i=S.length) (fun r=>r.1 = .ext 0∧r.2.2=h∧nth 0 r.2.1 = .int .i64 (a2q (S.map ctc))) S.length ⟨rfl,0,_,_,rfl,rfl⟩ ?_ ?_
 ·rintro k ds g ⟨rfl,i,a,b,rfl,hk⟩
  simp only [a8E,a0d,a0f,bs,c6O,a0o]
  refine Wp.dif ?_ ?_
  ·intro h0
   have h0:i<S.length:=by
    have:(i:Int)<(S.length:Int):=by simpa using h0
    omega
   have hw:=wi_ i (by omega)
   obtain ⟨u,hu⟩:=gx_ h0
   have hum:(S.map ctc)[i]?=some (ctc u):=by rw [c7b,hu];rfl
   have hsn:a2q ((S.map ctc).take (i+1))=a2q ((S.map ctc).take i)+u.n:=by
    rw [c7a,hum];exact a6I _ _
   obtain ⟨b1,b2⟩:=a1Q (S.map ctc) (i+1) hn
   have hwn:IntKind.wrap .i64 (a2q ((S.map ctc).take i)+u.n)=a2q ((S.map ctc).take (i+1)):=by rw [← hsn];exact wrap_i64 (by omega) (by omega)
   simp only [a6j hd,Int.natCast_nonneg,if_true,c6X,hu,Option.map_some,bs,ctL,b0T,b5U,b4I,a0n,hwn,hw]
   exact .some (.inl ⟨rfl,k - 1,by omega,rfl,i+1,_,_,rfl,by omega⟩)
  ·intro h0
   have h0:i=S.length:=by
    have:¬ (i:Int)<(S.length:Int):=by simpa using h0
    omega
   subst h0
   refine .some (.inr ⟨by simp,rfl,rfl,?_⟩)
   simp only [a0d]
   rw [List.take_of_length_le (by simp)]
 ·rintro ⟨ex,ds,g⟩ ⟨rfl,rfl,hi⟩
  simp only at hi
  simp only [a0m,a0g,bs,a0d,hi,a0q]
  exact .some rfl
theorem c3l (e:Ev) (nm:Str) (h:Hp) (h0:0≤e.a0) (h9:e.a0≤9) (hn:b0v nm):R1 a7k [.agg (evr e),.str nm] h=some (.tup [.str (b2Q e nm).1,.bool (b2Q e nm).2],h):=by
 rw [c6K]
 have h1:=s75 nm e h
 unfold evr at h1 ⊢
 unfold b8P b2Q dig
 simp only
 by_cases c1:nm=[64,104,111,115,116]
 ·rw [if_pos c1,if_pos c1,if_pos ⟨h0,h9⟩]
 ·rw [if_neg c1,if_neg c1,if_neg hn.1,if_neg hn.2.1,if_neg hn.2.2]
  by_cases c2:nm=[64,116,114,97,99,101]
  ·rw [if_pos c2,if_pos c2]
  ·rw [if_neg c2,if_neg c2]
   by_cases c3:nm=[64,115,116,114,101,97,109]
   ·rw [if_pos c3,if_pos c3]
   ·rw [if_neg c3,if_neg c3,h1]
    rfl
theorem c3k (ns:List Str) (dn:D) (e:Ev) (h:Hp) (hd:SlOf 1 (fun s=>[D.str s]) ns dn) (hl:ns.length≤1000) (h0:0≤e.a0) (h9:e.a0≤9) (hn:∀ n∈ns,b0v n):∃ d',R1 a9s [dn,.agg (evr e)] h=some (d',h)∧SlOf 1 (fun s=>[D.str s]) (a3h ns e) d':=by
 suffices Wp (R1 a9s [dn,.agg (evr e)] h) (fun p=>p.2=h∧SlOf 1 (fun s=>[D.str s]) (a3h ns e) p.1) by
  obtain ⟨⟨x,h'⟩,h1,rfl,h2⟩:=this
  exact ⟨x,h1,h2⟩
 rw [c1r]
 have hL:∀ g,a0c tab g a0O (.fptr (evr e))=some (.agg (evr e)):=fun g=>id rfl
 simp only [b8l,a1z,bs,a1S hd,c6O]
 refine Wp.loop (fun k ds g=>∃ x a b c,∃ i:Nat,ds=[x,a,b,.int .i64 (i:Int),c]∧k+i=ns.length∧Own g h.length ty9 1 ((a3h (ns.take i) e).map fun s=>[D.str s]) x∧h.length≤g.length∧(∀ q,q<h.length→g[q]?=h[q]?))
  (fun r=>r.1 = .ext 0∧∃ x,nth 0 r.2.1=x∧Own r.2.2 h.length ty9 1 ((a3h ns e).map fun s=>[D.str s]) x∧h.length≤r.2.2.length∧(∀ q,q<h.length→r.2.2[q]?=h[q]?)) ns.length
  ⟨_,_,_,_,0,rfl,rfl,Own.nils _ _ _ _,Nat.le_refl _,fun _ _=>rfl⟩ ?_ ?_
 ·rintro k ds g ⟨x,a,b,c,i,rfl,hk,ow,hlen,hq⟩
  simp only [a8F,a0d,a0f,bs,c6O,a0o]
  refine Wp.dif ?_ ?_
  ·intro hlt
   have hlt:i<ns.length:=dl_ hlt
   obtain ⟨u,hu⟩:=gx_ hlt
   have hw:=wi_ i (by omega)
   simp only [hL,a6k hd,Int.natCast_nonneg,if_true,c6X,hu,Option.map_some,bs,a4R,c3l e u g h0 h9 (hn u (c7c hu)),a1a,c6R,c6S,a8T]
   refine b7p (n0:=h.length) hlen ow (a1e _ _ _ _) (by simp [-bind_some, a3h];omega) fun x9 g2 o2 l2 b2 _ _=>?_
   simp only [bs,a0n,hw]
   refine .some (.inl ⟨rfl,k - 1,by omega,_,_,_,_,i+1,rfl,by omega,?_,by show h.length≤g2.length;omega,fun q hq'=>by rw [b2 q hq'];exact hq q hq'⟩)
   have:(a3h (ns.take (i+1)) e).map (fun s=>[D.str s])=(a3h (ns.take i) e).map (fun s=>[D.str s])++[[D.str (b2Q e u).1]]:=by
    rw [c7a,hu];simp [-bind_some, a3h]
   rw [this];exact o2
  ·intro hge
   have hge:ns.length≤i:=by
    have:¬ (i:Int)<ns.length:=by simpa using hge
    omega
   rw [List.take_of_length_le hge] at ow
   exact .some (.inr ⟨by simp,rfl,_,rfl,ow,hlen,hq⟩)
 ·rintro ⟨ex,ds,g⟩ ⟨rfl,x,hx,ow,hlen,hq⟩
  simp only at hx ow hlen hq
  simp only [a0m,a0g,bs,a0d,hx,a0q]
  have hs:=a1W (n0:=h.length) (n:=3) ow (Nat.le_refl _) fun s _ y hy=>by simp at hy;subst hy;exact a3M _ _ _ _
  have hsc:scope h g x=some (frz h.length g 4 x,h):=a1u rfl (a4b _ hs) hlen hq
  rw [hsc]
  exact .some ⟨rfl,hs⟩
def obE (ns:List Str) (l:List Ev):List Ob1:=l.map fun e=>(a3h ns e,e.a6)
def EvW (l:List Ev):Prop:=∀ e∈l,0≤e.a0∧e.a0≤9∧b0t e.fs∧0≤e.a6∧e.a6≤5040
theorem EvW.wok {l:List Ev} (h:EvW l) (ns:List Str):WOK (obE ns l):=fun p hp=>by
 obtain ⟨e,he,rfl⟩:=c7l.1 hp
 exact (h e he).2.2.2
theorem b8L (ns:List Str) (l:List Ev):b0R ns l=c0E (obE ns l):=by
 unfold b0R c0E obE
 rw [List.foldl_map]
theorem b5s {size:Int} (hs:1≤size) {ps:List Ob1} (h:WOK ps) (hl:ps.length≤1000):CAsc (skO size ps)∧(∀ c∈skO size ps,0≤c.2.1∧c.2.1≤5040000)∧a2q (skO size ps)=a6y ps∧a2q (skO size ps)≤5040000∧((skO size ps).length:Int)≤size:=by
 have S:=b2I hs ps h
 have h1:=a3V h
 have hn:∀ c∈skO size ps,0≤c.2.1:=fun c hc=>by have:=(S.bd c hc).1;have:=a9T h c.1;omega
 refine ⟨S.asc,fun c hc=>⟨hn c hc,?_⟩,S.sum,by rw [S.sum];omega,S.len⟩
 have:=b3n hn hc
 rw [S.sum] at this
 omega
theorem b4l (size:Int) (ps:List Ob1) (p:Ob1):skO size (ps++[p])=obs size (skO size ps) p.1 p.2:=by simp [-bind_some, skO]
theorem c3j {ns:List Str} {dn:D} (C:CtOK ns dn) (l:List Ev) (dl:D) (size:Int) (h:Hp) (hd:SlOf 10 evr l dl) (hl:l.length≤1000) (he:EvW l) (hs:1≤size) (hs9:size≤100000) :
  ∃ (S:List Ct) (d:D),R1 a9r [.int .i64 size,dn,dl] h=some (d,h)∧SlOf 3 ctr S d∧S.map ctc=skO size (obE ns l):=by
 suffices Wp (R1 a9r [.int .i64 size,dn,dl] h) (fun p=>p.2=h∧∃ S:List Ct,SlOf 3 ctr S p.1∧S.map ctc=skO size (obE ns l)) by
  obtain ⟨⟨x,h'⟩,h1,rfl,S,h2⟩:=this
  exact ⟨S,x,h1,h2⟩
 have hL:∀ (e:Ev) g,a0c tab g a0O (.fptr (evr e))=some (.agg (evr e)):=fun e g=>id rfl
 have hB:∀ (e:Ev),a7L 10 (.agg (evr e))=some (.fptr (evr e)):=fun e=>a5P 10 _ rfl
 have hF:∀ (e:Ev),a0a tab a0O 6 (.fptr (evr e))=some (.fptr [.int .i64 e.a6,.str e.s7,.str e.s8,e.fd]):=fun e=>id rfl
 have hW:∀ (e:Ev) g,a0c tab g ty3 (.fptr [.int .i64 e.a6,.str e.s7,.str e.s8,e.fd])=some (.int .i64 e.a6):=fun e g=>id rfl
 rw [c1m]
 simp only [b8i,bs,a9D hd,c6O]
 refine Wp.loop (fun k ds g=>g=h∧∃ i:Nat,∃ x a b,∃ S:List Ct,ds=[x,a,.int .i64 i,b]∧k+i=l.length∧SlOf 3 ctr S x∧S.map ctc=skO size (obE ns (l.take i)))
  (fun r=>r.1 = .ext 0∧r.2.2=h∧∃ S:List Ct,SlOf 3 ctr S (nth 0 r.2.1)∧S.map ctc=skO size (obE ns l)) l.length ⟨rfl,0,.nils,_,_,[],rfl,rfl,.nils _ _,rfl⟩ ?_ ?_
 ·rintro k ds g ⟨rfl,i,x,a,b,S,rfl,hk,hS,hc⟩
  simp only [a8D,a0d,a0f,bs,c6O,a0o]
  refine Wp.dif ?_ ?_
  ·intro h0
   have h0:i<l.length:=by
    have:(i:Int)<(l.length:Int):=by simpa using h0
    omega
   have hw:=wi_ i (by omega)
   obtain ⟨e,hee⟩:=gx_ h0
   have hem:=he e (c7c hee)
   obtain ⟨kd,e1,hkd⟩:=c3k ns dn e g C.hd C.hl hem.1 hem.2.1 C.hn
   have hkl:(a3h ns e).length≤1000000:=by unfold a3h;rw [c6U];have:=C.hl;omega
   have hwp:WOK (obE ns (l.take i)):=EvW.wok (fun x hx=>he x (List.mem_of_mem_take hx)) ns
   have hlp:(obE ns (l.take i)).length≤1000:=by unfold obE;rw [c6U,c7i];omega
   obtain ⟨f1,f2,f3,f4,f5⟩:=b5s hs hwp hlp
   rw [← hc] at f1 f2 f5
   obtain ⟨S',d',e2,hS',hc'⟩:=c2C S x size (a3h ns e) kd e.a6 g hS hkd hkl (by rw [c6U] at f5;omega) f1 hs (fun c hcm=>by
    have:=f2 (ctc c) (c7l.2 ⟨c,hcm,rfl⟩)
    have h3:(ctc c).2.1=c.n:=rfl
    rw [h3] at this
    exact wrap_i64 (by omega) (by omega))
   simp only [b1P hd,Int.natCast_nonneg,if_true,c6X,hee,Option.map_some,bs,hL,hB,e1,hF,hW,b6S,e2,a1r,a0n,hw]
   refine .some (.inl ⟨rfl,k - 1,by omega,rfl,i+1,_,_,_,S',rfl,by omega,hS',?_⟩)
   rw [hc',hc]
   have:obE ns (l.take (i+1))=obE ns (l.take i)++[(a3h ns e,e.a6)]:=by
    unfold obE
    rw [c7a,hee,c6V];rfl
   rw [this,b4l]
  ·intro h0
   have h0:i=l.length:=by
    have:¬ (i:Int)<(l.length:Int):=by simpa using h0
    omega
   subst h0
   rw [c7m] at hc
   exact .some (.inr ⟨by simp,rfl,rfl,S,hS,hc⟩)
 ·rintro ⟨ex,ds,g⟩ ⟨rfl,rfl,S,hS,hc⟩
  simp only at hS
  simp only [a0m,a0g,bs,a0d,a0q]
  exact .some ⟨rfl,S,hS,hc⟩
abbrev RC:=List Str × List Int × Int
theorem RdCt.keep {h h':Hp} {l:List Ct} {d:D} (hd:RdCt h l d) (hq:∀ q,q<h.length→h'[q]?=h[q]?):RdCt h' l d:=by
 rcases hd with hd | ⟨ob,tl,rfl,ho⟩
 ·exact .inl hd
 ·exact .inr ⟨ob,tl,rfl,by rw [hq ob (c7e.1 ho).1];exact ho⟩
theorem c1C {l:List Ev} (h:a2E l):EvW l:=fun e he=>by
 obtain ⟨h1,h2,h3,_⟩:=h.1 e he
 obtain ⟨_,_,h5,h6,_,_,h4,_⟩:=h1.ev rfl
 have h5:1≤e.a6:=h5
 exact ⟨by omega,by omega,h4,by omega,h6⟩
def b2Y (S:List Cn):Prop:=∀ c∈S,c.2.2≤c.2.1
theorem b6J {size:Int} {S:List Cn} {k:List Str} {w:Int} (h:b2Y S) (hw:0≤w):b2Y (obs size S k w):=by
 intro c hc
 unfold obs at hc
 split at hc
 ·obtain ⟨d,hd,rfl⟩:=c7l.1 hc
  have:=h d hd
  split
  ·show d.2.2≤d.2.1+w;omega
  ·exact this
 ·split at hc
  ·rcases c7j.1 ((a2p _ _).mem_iff.1 hc) with rfl | hc
   ·exact hw
   ·exact h c hc
  ·rcases c7j.1 ((a2p _ _).mem_iff.1 hc) with rfl | hc
   ·show a5b S≤a5b S+w;omega
   ·exact h c ((List.eraseIdx_sublist _ _).subset hc)
theorem b6X {size:Int} {ps:List Ob1} (h:WOK ps):b2Y (skO size ps):=by
 have:=a4p (fun S (p:Ob1)=>obs size S p.1 p.2) (fun pre S=>WOK pre→b2Y S) (fun pre a S hP hw=>b6J (hP hw.pre) (hw a (by simp)).1) ps [] [] (fun _ c hc=>by cases hc)
 exact this h
theorem b0L:∀ (S:List Cn) (m:Int),(∀ c∈S,m≤c.2.1)→m*S.length≤a2q S
 | [],m,_=>by simp [-bind_some, a2q]
 | c::r,m,h=>by
  have ih:=b0L r m fun x hx=>h x (by simp [-bind_some, hx])
  have h1:=h c (by simp)
  have e:a2q (c::r)=c.2.1+a2q r:=by simp [-bind_some, a2q]
  rw [e,c7f,Int.natCast_add,Int.mul_add]
  omega
def LM (S:List Ct) (m:Int):Prop:=(S=[]∧m=0)∨((∀ c∈S,m≤c.n)∧∃ c∈S,c.n=m)
theorem b8y {size:Int} (hs:1≤size) {ps:List Ob1} (h:WOK ps) {S:List Ct} (hS:S.map ctc=skO size ps) {m:Int} (hm:LM S m) {k:List Str} (hk:k∉S.map Ct.k):TL ps k≤m∧TL ps k*size≤a6y ps:=by
 have sk:=b2I hs ps h
 rw [← hS] at sk
 have hkk:k∉(S.map ctc).map (·.1):=by
  have:(S.map ctc).map (·.1)=S.map Ct.k:=by rw [List.map_map];rfl
  rw [this];exact hk
 have hw:=(a3V h).1
 have hn:∀ c∈S,0≤c.n:=fun c hc=>by
  have:=(sk.bd (ctc c) (c7l.2 ⟨c,hc,rfl⟩)).1
  have h2:=a9T h (ctc c).1
  have h3:(ctc c).2.1=c.n:=rfl
  omega
 have hm0:0≤m:=by
  rcases hm with ⟨_,rfl⟩ | ⟨_,c,hc,rfl⟩
  ·exact Int.le_refl _
  ·exact hn c hc
 obtain ⟨a1,a2⟩:=sk.ab k hkk
 by_cases hl:((S.map ctc).length:Int)<size
 ·rw [a1 hl]
  exact ⟨hm0,by rw [Int.zero_mul];exact hw⟩
 ·have hl2:((S.map ctc).length:Int)=size:=by have:=sk.len;omega
  have a3:=a2 hl2
  constructor
  ·rcases hm with ⟨rfl,_⟩ | ⟨_,c,hc,rfl⟩
   ·simp at hl2;omega
   ·exact a3 (ctc c) (c7l.2 ⟨c,hc,rfl⟩)
  ·have:=b0L (S.map ctc) (TL ps k) a3
   rw [hl2,sk.sum] at this
   exact this
theorem b9x {ns:List Str} {l:List Ev} {M:List Rw} (he:EvW l) (hl:l.length≤1000) (h:M.map a7z=(b0R ns l).map b5m):∀ r∈M,r.n≠[]∧a3Z r=TL (obE ns l) r.k:=fun r hr=>by
 have h1:a7z r∈(b0R ns l).map b5m:=by rw [← h];exact c7l.2 ⟨r,hr,rfl⟩
 obtain ⟨z,hz,e⟩:=c7l.1 h1
 rw [b8L] at hz
 have hc:=b5S (he.wok ns) (by unfold obE;rw [c6U];omega)
 have h2:=hc.val z hz
 have e1:r.k=z.1:=(congrArg (fun q:RC=>q.1) e).symm
 have e2:r.n=[z.2]:=(congrArg (fun q:RC=>q.2.1) e).symm
 refine ⟨by rw [e2];simp [-bind_some],?_⟩
 unfold a3Z
 rw [e2,e1,← h2]
 rfl
theorem b6z (zs:List Int) (d:D) (hd:a3q .u8 zs d) (hz:∀ z∈zs,0≤z∧z<256):∃ h',R1 b1z [d] []=some (.bool true,h'):=by
 suffices Wp (R1 b1z [d] []) (fun p=>p.1 = .bool true) by
  obtain ⟨⟨x,h'⟩,h1,rfl⟩:=this
  exact ⟨h',h1⟩
 rw [c1A]
 simp only [b8u,bs,b6O,c2j,a3K,c6Y,a0e,c6P,if_false,c6O]
 obtain ⟨ns,l,dn,dl,sz,o,g0,e0,c0,C,hl,hok,hll,hs1,hs5⟩:=c2k zs d [] hd hz
 have hev:=c1C hok
 simp only [b6P,e0,bs,a1a,c6R,c6S,c6O]
 have hF:∀ (e:Ev),a0a tab a0O 6 (.fptr (evr e))=some (.fptr [.int .i64 e.a6,.str e.s7,.str e.s8,e.fd]):=fun e=>id rfl
 have hW:∀ (e:Ev) g,a0c tab g ty3 (.fptr [.int .i64 e.a6,.str e.s7,.str e.s8,e.fd])=some (.int .i64 e.a6):=fun e g=>id rfl
 obtain ⟨S,x,e1,hS,hcS⟩:=c3j C l dl sz g0 hl (by omega) hev hs1 (by omega)
 obtain ⟨M,dM,e2,m1,m2,m3⟩:=c2l C l dl g0 hl (by omega) (b3L hok)
 have hwp:WOK (obE ns l):=hev.wok ns
 have hlp:(obE ns l).length≤1000:=by unfold obE;rw [c6U];omega
 obtain ⟨f1,f2,f3,f4,f5⟩:=b5s hs1 hwp hlp
 have sk:=b2I hs1 (obE ns l) hwp
 have hw0:=a3V hwp
 have hSl:(S.length:Int)≤sz:=by have:=congrArg List.length hcS;rw [c6U] at this;omega
 have hrow:=b9x hev (by omega) m2
 have hcn:∀ c∈S,ctc c∈skO sz (obE ns l):=fun c hc=>by rw [← hcS];exact c7l.2 ⟨c,hc,rfl⟩
 have herr:=b6X (size:=sz) hwp
 simp only [e1,b6Q,e2,bs,c6O]
 refine Wp.loop (fun k ds g=>g=g0∧∃ c,∃ i:Nat,ds=[.int .i64 (a6y (obE ns (l.take i))),.int .i64 (i:Int),c]∧k+i=l.length)
  (fun r=>r.1 = .ext 0∧r.2.2=g0∧nth 0 r.2.1 = .int .i64 (a6y (obE ns l))) l.length ⟨rfl,_,0,rfl,rfl⟩ ?_ ?_
 ·rintro k ds g ⟨rfl,c,i,rfl,hk⟩
  simp only [a8K,a0d,a0f,bs,c6O,a9D hl,a0o]
  refine Wp.dif ?_ ?_
  ·intro h0
   have h0:i<l.length:=by
    have:(i:Int)<(l.length:Int):=by simpa using h0
    omega
   have hw:=wi_ i (by omega)
   obtain ⟨u,hu⟩:=gx_ h0
   have hem:=hev u (c7c hu)
   have hwp1:WOK (obE ns (l.take i)):=EvW.wok (fun x hx=>hev x (List.mem_of_mem_take hx)) ns
   have hb:=a3V hwp1
   have hbl:(obE ns (l.take i)).length≤1000:=by unfold obE;rw [c6U,c7i];omega
   have hob:obE ns (l.take (i+1))=obE ns (l.take i)++[(a3h ns u,u.a6)]:=by
    unfold obE
    rw [c7a,hu,c6V];rfl
   have hw2:IntKind.wrap .i64 (a6y (obE ns (l.take i))+u.a6)=a6y (obE ns (l.take (i+1))):=by
    rw [hob,a7I]
    have h3:=hem.2.2.2.1
    have h4:=hem.2.2.2.2
    exact wrap_i64 (by omega) (by omega)
   simp only [b1P hl,Int.natCast_nonneg,if_true,c6X,hu,Option.map_some,bs,hF,hW,a0n,hw2,hw]
   exact .some (.inl ⟨rfl,k - 1,by omega,rfl,_,i+1,rfl,by omega⟩)
  ·intro h0
   have h0:i=l.length:=by
    have:¬ (i:Int)<(l.length:Int):=by simpa using h0
    omega
   subst h0
   rw [c7m]
   exact .some (.inr ⟨by simp,rfl,rfl,rfl⟩)
 rintro ⟨ex,ds,g⟩ ⟨rfl,rfl,hwant⟩
 simp only at hwant
 simp only [a0m,a0g,bs,a0d,a0f,hwant,c6O]
 refine Wp.loop (fun k ds g'=>g'=g∧∃ b c,∃ i:Nat,∃ m:Int,ds=[.int .i64 m,.int .i64 (i:Int),b,c]∧k+i=S.length∧LM (S.take i) m)
  (fun r=>r.1 = .ext 2∧r.2.2=g∧∃ m:Int,nth 0 r.2.1 = .int .i64 m∧LM S m) S.length ⟨rfl,_,_,0,0,rfl,rfl,.inl ⟨rfl,rfl⟩⟩ ?_ ?_
 ·rintro k ds g' ⟨rfl,b,c,i,m,rfl,hk,hm⟩
  simp only [a8L,a0d,a0f,bs,c6O,a3E hS,a0o]
  refine Wp.dif ?_ ?_
  ·intro h0
   have h0:i<S.length:=by
    have:(i:Int)<(S.length:Int):=by simpa using h0
    omega
   have hw:=wi_ i (by omega)
   obtain ⟨u,hu⟩:=gx_ h0
   have uix:a0b tab a0r x (.int .i64 (i:Int))=some (.fptr (ctr u)):=by rw [a6j hS];simp [-bind_some, hu]
   have htk:S.take (i+1)=S.take i++[u]:=by rw [c7a,hu];rfl
   by_cases hi:i=0
   ·subst hi
    have d0:decide (((0:Nat):Int)=0)=true:=rfl
    simp only [a0Q,d0,a0S,a9z,c6Q,if_false,bs,a0A,if_true,a0e,uix,b5U,b4I,a0v,a0g,a0d,a0f,a0n,hw]
    refine .some (.inl ⟨rfl,k - 1,by omega,rfl,_,_,1,u.n,rfl,by omega,.inr ⟨fun c hc=>?_,u,by rw [htk];simp [-bind_some],rfl⟩⟩)
    rw [htk] at hc
    simp at hc
    rw [hc];exact Int.le_refl _
   ·have d0:decide ((i:Int)=0)=false:=decide_eq_false (by omega)
    have hm':(∀ c∈S.take i,m≤c.n)∧∃ c∈S.take i,c.n=m:=by
     rcases hm with ⟨h1,_⟩ | h1
     ·have:=congrArg List.length h1
      rw [c7i,c7g] at this
      omega
     ·exact h1
    by_cases hlt:u.n<m
    ·simp only [a0Q,d0,a0S,if_true,bs,uix,b5U,b4I,a0o,hlt,decide_true,a0A,c6P,if_false,a0e,a0v,a0g,a0d,a0f,a0n,hw]
     refine .some (.inl ⟨rfl,k - 1,by omega,rfl,_,_,i+1,u.n,rfl,by omega,.inr ⟨fun c hc=>?_,u,by rw [htk];simp [-bind_some],rfl⟩⟩)
     rw [htk] at hc
     rcases c7k.1 hc with hc | hc
     ·have:=hm'.1 c hc;omega
     ·simp at hc;rw [hc];exact Int.le_refl _
    ·simp only [a0Q,d0,a0S,if_true,bs,uix,b5U,b4I,a0o,hlt,decide_false,a0A,c6P,if_false,a0e,a0v,a0g,a0d,a0f,a0n,hw]
     obtain ⟨c1,hc1,hc2⟩:=hm'.2
     refine .some (.inl ⟨rfl,k - 1,by omega,rfl,_,_,i+1,m,rfl,by omega,.inr ⟨fun c hc=>?_,c1,by rw [htk];exact List.mem_append_left _ hc1,hc2⟩⟩)
     rw [htk] at hc
     rcases c7k.1 hc with hc | hc
     ·exact hm'.1 c hc
     ·simp at hc;rw [hc];omega
  ·intro h0
   have h0:i=S.length:=by
    have:¬ (i:Int)<(S.length:Int):=by simpa using h0
    omega
   subst h0
   rw [c7m] at hm
   exact .some (.inr ⟨by simp,rfl,rfl,m,rfl,hm⟩)
 rintro ⟨ex,ds2,g2⟩ ⟨rfl,rfl,m,hleast,hm⟩
 simp only at hleast
 have hn:∀ c∈S.map ctc,0≤c.2.1:=by rw [hcS];exact fun c hc=>(f2 c hc).1
 have e3:=c2D S x g2 hS hn (by rw [hcS];omega) (by omega)
 rw [hcS,f3] at e3
 have dlen:decide ((S.length:Int)>sz)=false:=decide_eq_false (by omega)
 simp only [a0m,a0g,bs,a0d,a0f,b6T,e3,a4n,ne_eq,not_true,decide_false,a0S,if_true,a3E hS,a1l,dlen,a0A,c6P,if_false,a0e,c6O]
 refine Wp.loop (fun k ds' g'=>g'=g2∧∃ a0 a2 a3 a4 a5 a6 a7 a8 a9,∃ i:Nat,ds'=[a0,.int .i64 (i:Int),a2,a3,a4,a5,a6,a7,a8,a9]∧k+i=M.length)
  (fun r=>r.1 = .ext 4∧r.2.2=g2) M.length ⟨rfl,_,_,_,_,_,_,_,_,_,0,rfl,rfl⟩ ?_ ?_
 ·rintro k ds' g' ⟨rfl,a0,a2,a3,a4,a5,a6,a7,a8,a9,i,rfl,hk⟩
  simp only [a8M,a0d,a0f,bs,c6O,a4r m1,a0o,hwant,hleast]
  refine Wp.dif ?_ ?_
  ·intro h0
   have h0:i<M.length:=by
    have:(i:Int)<(M.length:Int):=by simpa using h0
    omega
   have hw:=wi_ i (by omega)
   obtain ⟨r,hr⟩:=gx_ h0
   have rix:a0b tab a0u dM (.int .i64 (i:Int))=some (.fptr (a0w r)):=by rw [b1O m1];simp [-bind_some, hr]
   obtain ⟨hr1,hr2⟩:=hrow r (c7c hr)
   obtain ⟨z,hz1,hz2⟩:=b6W (h:=g') r hr1
   rw [hr2] at hz2
   have htl0:=a9T hwp r.k
   have htl1:=b5G hwp r.k
   rw [← hz2] at htl0 htl1
   simp only [rix,c2h,c2i,hz1,a9A,bs,c6O]
   refine Wp.loop (fun k3 ds3 g3=>g3=g'∧∃ b0 b3 b4 b5,∃ j:Nat,ds3=[b0,.bool (decide (r.k∈(S.take j).map Ct.k)),.int .i64 (j:Int),b3,b4,b5]∧k3+j=S.length)
    (fun r3=>r3.1 = .ext 6∧r3.2.2=g'∧nth 1 r3.2.1 = .bool (decide (r.k∈S.map Ct.k))) S.length ⟨rfl,_,_,_,_,0,rfl,rfl⟩ ?_ ?_
   ·rintro k3 ds3 g3 ⟨rfl,b0,b3,b4,b5,j,rfl,hk3⟩
    simp only [a8N,a0d,a0f,bs,c6O,a3E hS,a0o]
    refine Wp.dif ?_ ?_
    ·intro h3
     have h3:j<S.length:=by
      have:(j:Int)<(S.length:Int):=by simpa using h3
      omega
     have hw3:=wi_ j (by omega)
     obtain ⟨u,hu⟩:=gx_ h3
     have uix:a0b tab a0r x (.int .i64 (j:Int))=some (.fptr (ctr u)):=by rw [a6j hS];simp [-bind_some, hu]
     have hst:decide (r.k∈(S.take (j+1)).map Ct.k)=(decide (r.k∈(S.take j).map Ct.k)||u.k==r.k):=by
      rw [c7a,hu,Option.toList_some,c6V,Bool.eq_iff_iff,decide_eq_true_iff,Bool.or_eq_true,decide_eq_true_iff,beq_iff_eq,c7k]
      simp [-bind_some, eq_comm]
     have hsm:=c2p u.k r.k u.kd r.kd g3 u.hk r.hk u.hkl
     simp only [uix,b9V,b9W,rix,c3L,c3M,b6R,hsm,bs,c6O]
     by_cases he:(u.k==r.k)=true
     ·have hek:u.k=r.k:=by simpa using he
      have hum:=hcn u (c7c hu)
      have hb:=sk.bd _ hum
      have hb2:=f2 _ hum
      have hb3:=herr _ hum
      have q1:(ctc u).1=r.k:=hek
      have q2:(ctc u).2.1=u.n:=rfl
      have q3:(ctc u).2.2=u.e:=rfl
      rw [q1,q2,q3,← hz2] at hb
      rw [q2] at hb2
      rw [q2,q3] at hb3
      have t1:decide (z>u.n)=false:=decide_eq_false (by omega)
      have t2:IntKind.wrap .i64 (u.n - u.e)=u.n - u.e:=wrap_i64 (by omega) (by omega)
      have t3:decide (z<u.n - u.e)=false:=decide_eq_false (by omega)
      rw [he,Bool.or_true] at hst
      simp only [he,a0e,if_true,uix,b5U,b4I,bs,a1l,t1,a0S,c3S,c3T,a0Y,t2,a0o,t3,a0A,c6P,if_false,a0v,a0g,a0d,a0f,a0n,hw3]
      exact .some (.inl ⟨rfl,k3 - 1,by omega,rfl,_,_,_,_,j+1,by rw [hst],by omega⟩)
     ·have he:(u.k==r.k)=false:=by simpa using he
      rw [he,Bool.or_false] at hst
      simp only [he,a0e,c6P,if_false,bs,a0v,a0g,a0d,a0f,a0n,hw3]
      exact .some (.inl ⟨rfl,k3 - 1,by omega,rfl,_,_,_,_,j+1,by rw [hst],by omega⟩)
    ·intro h3
     have h3:j=S.length:=by
      have:¬ (j:Int)<(S.length:Int):=by simpa using h3
      omega
     subst h3
     rw [c7m]
     exact .some (.inr ⟨by simp,rfl,rfl,rfl⟩)
   ·rintro ⟨ex3,ds3,g3⟩ ⟨rfl,rfl,hfound⟩
    simp only at hfound
    simp only [a0m,a0g,bs,a0d,a0f,hfound,a3K,c6O]
    by_cases hin:r.k∈S.map Ct.k
    ·simp only [hin,decide_true,c6Y,a0S,a9z,c6P,if_false,bs,a0A,a0e,a0n,hw]
     exact .some (.inl ⟨rfl,k - 1,by omega,rfl,_,_,_,_,_,_,_,_,_,i+1,rfl,by omega⟩)
    ·obtain ⟨p1,p2⟩:=b8y hs1 hwp hcS hm hin
     rw [← hz2] at p1 p2
     have p3:0≤z*sz:=Int.mul_nonneg htl0 (by omega)
     have t1:decide (z>m)=false:=decide_eq_false (by omega)
     have t2:IntKind.wrap .i64 (z*sz)=z*sz:=wrap_i64 (by omega) (by omega)
     have t3:decide (z*sz>a6y (obE ns l))=false:=decide_eq_false (by omega)
     simp only [hin,decide_false,c6Z,a0S,if_true,bs,a1l,t1,a5T,t2,t3,a0A,c6P,if_false,a0e,a0n,hw]
     exact .some (.inl ⟨rfl,k - 1,by omega,rfl,_,_,_,_,_,_,_,_,_,i+1,rfl,by omega⟩)
  ·intro h0
   exact .some (.inr ⟨by simp,rfl,rfl⟩)
 ·rintro ⟨ex,ds',g'⟩ ⟨rfl,h2⟩
  simp only [a0m,a0g,bs,a0q]
  exact .some rfl
end Go.Proofs.YtehgglgadbmecaaDoor
