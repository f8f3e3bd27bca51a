/- Laws, on plain data, about functions that the statement reaches. -/
import Derived.Test.YtkpnnfhodlanjaaGreatDoorL1
set_option linter.unusedSimpArgs false
set_option linter.unusedVariables false
set_option linter.unnecessarySimpa false
set_option maxRecDepth 100000
namespace Go.Proofs.YtkpnnfhodlanjaaGreatDoor
open Go.Eng Go.Pi
open Option (bind_some)
theorem c4T {c:Pr→Pr→Int} {cmp:D} (hcmp:CmpFP cmp c) {o N:Nat} (hN:N≤1000000) {g:Hp} {l:List Pr} (hl:l.length=N) (ho:g[o]?=some (.row a0i 2 (l.map prr))) (a b:Nat) (hab:a+8≤b) (hb:b≤N) :
  ∃ (p:Nat) (t:Int),R a9D [.msl 2 o 0 N,.int .i64 (a:Int),.int .i64 (b:Int),cmp] g=some (.tup [.int .i64 (p:Int),.int .i64 t],g)∧a≤p∧p<b:=by
 suffices Wp (R a9D [.msl 2 o 0 N,.int .i64 (a:Int),.int .i64 (b:Int),cmp] g) (fun r=>∃ (p:Nat) (t:Int),r=(.tup [.int .i64 (p:Int),.int .i64 t],g)∧a≤p∧p<b) by
  obtain ⟨r,h1,p,t,rfl,h2⟩:=this
  exact ⟨p,t,h1,h2⟩
 obtain ⟨n,hn⟩:∃ n,n=b - a:=⟨_,rfl⟩
 have w1:IntKind.wrap .i64 ((b:Int) - (a:Int))=((n:Nat):Int):=by rw [wrap_i64 (by omega) (by omega)];omega
 obtain ⟨k,hk⟩:∃ k,k=n / 4:=⟨_,rfl⟩
 have wq:IntKind.wrap .i64 (Int.tdiv (n:Int) 4)=((k:Nat):Int):=by
  rw [show Int.tdiv (n:Int) 4=((n / 4:Nat):Int) from by rw [Int.tdiv_eq_ediv_of_nonneg (by omega)];omega,wrap_i64 (by omega) (by omega)];omega
 have wa:∀ m:Nat,m≤3→IntKind.wrap .i64 ((a:Int)+IntKind.wrap .i64 ((k:Int)*(m:Int)))=((a+k*m:Nat):Int):=fun m hm=>by
  have h1:k*m≤n:=by
   have:=Nat.mul_le_mul_left k hm
   omega
  have h2:(k:Int)*(m:Int)=((k*m:Nat):Int):=by simp
  have h3:IntKind.wrap .i64 ((k*m:Nat):Int)=((k*m:Nat):Int):=wrap_i64 (by omega) (by omega)
  rw [h2,h3,wrap_i64 (by omega) (by omega)];omega
 have ho':o<g.length:=(c9d.1 ho).1
 have q0:(a1h g ty3 1 [[.int .i64 0]])[g.length]?=some (.row ty3 1 [[.int .i64 0]]):=a2j _ _ _ _
 have l0:(a1h g ty3 1 [[.int .i64 0]]).length=g.length+1:=a6R _ _ _ _
 have k0:∀ q,q<g.length→(a1h g ty3 1 [[.int .i64 0]])[q]?=g[q]?:=fun q hq=>a1T _ _ _ _ hq
 have ho0:(a1h g ty3 1 [[.int .i64 0]])[o]?=some (.row a0i 2 (l.map prr)):=by rw [k0 o ho'];exact ho
 have hsc:∀ (g2:Hp) (p:Nat) (t:Int),Same g.length (a1h g ty3 1 [[.int .i64 0]]) g2→scope g g2 (.tup [.int .i64 (p:Int),.int .i64 t])=some (.tup [.int .i64 (p:Int),.int .i64 t],g):=fun g2 p t sm=>a1m (by simp) (.tup _ fun d hd=>by
   simp only [c9i,List.not_mem_nil,or_false] at hd
   rcases hd with rfl | rfl
   ·exact .int _ _
   ·exact .int _ _) (by have:=sm.1;omega) fun q hq=>by rw [sm.2 q (by omega),k0 q hq]
 rw [c2G]
 have g8:decide ((n:Int)≥8)=true:=decide_eq_true (by omega)
 have a1:=wa 1 (by omega)
 have a2:=wa 2 (by omega)
 have a3:=wa 3 (by omega)
 simp only [Nat.mul_one] at a1
 simp only [b8x,bs,a0t,w1,a1D,show ¬ (4:Int)=0 by omega,if_false,wq,a2i,a0k,show (1:Int)=((1:Nat):Int) from rfl,show (2:Int)=((2:Nat):Int) from rfl,show (3:Int)=((3:Nat):Int) from rfl,a1,a2,a3,a0S,g8,a0d,if_true,c8N]
 refine Wp.bind (P:=fun r=>r.1 = .nrm∧∃ (x y z:Nat) (s:Int),r.2.1=[.int .i64 (x:Int),.int .i64 (y:Int),.int .i64 (z:Int)]∧a≤x∧x<b∧a≤y∧y<b∧a≤z∧z<b∧r.2.2[g.length]?=some (.row ty3 1 [[.int .i64 s]])∧Same g.length (a1h g ty3 1 [[.int .i64 0]]) r.2.2) ?_ ?_
 ·by_cases h50:(n:Int)≥50
  ·simp only [h50,decide_true,a0d,if_true]
   obtain ⟨m1,s1,g1,e1,b1,q1,sm1⟩:=b7F hcmp hN hl ho0 (a+k) (by omega) (by omega) g.length 0 q0 (by omega)
   have ho1:g1[o]?=some (.row a0i 2 (l.map prr)):=by rw [sm1.2 o (by omega)];exact ho0
   obtain ⟨m2,s2,g2,e2,b2,q2,sm2⟩:=b7F hcmp hN hl ho1 (a+k*2) (by omega) (by omega) g.length s1 q1 (by omega)
   have ho2:g2[o]?=some (.row a0i 2 (l.map prr)):=by rw [sm2.2 o (by omega)];exact ho1
   obtain ⟨m3,s3,g3,e3,b3,q3,sm3⟩:=b7F hcmp hN hl ho2 (a+k*3) (by omega) (by omega) g.length s2 q2 (by omega)
   simp only [e1,e2,e3,bs]
   exact .some ⟨rfl,m1,m2,m3,s3,rfl,by omega,by omega,by omega,by omega,by omega,by omega,q3,(sm1.trans sm2).trans sm3⟩
  ·simp only [h50,decide_false,a0d,c8O,if_false]
   exact .some ⟨rfl,a+k,a+k*2,a+k*3,0,rfl,by omega,by omega,by omega,by omega,by omega,by omega,q0,.refl _ _⟩
 ·rintro ⟨ex,ds,g4⟩ ⟨rfl,x,y,z,s,hds,x1,x2,y1,y2,z1,z2,q4,sm4⟩
  simp only at hds q4 sm4
  subst hds
  have ho4:g4[o]?=some (.row a0i 2 (l.map prr)):=by rw [sm4.2 o (by omega)];exact ho0
  obtain ⟨m,s5,g5,e5,b5,q5,sm5⟩:=c1o hcmp hl ho4 x y z (by omega) (by omega) (by omega) g.length s q4 (by omega)
  have lq:a0c tab g5 ty3 (.ptr g.length 0 0)=some (.int .i64 s5):=by rw [c1O,a1A q5];rfl
  have hs:=hsc g5 m
  have sm6:=sm4.trans sm5
  simp only [a0j,a0e,a0g,e5,bs,lq,a0Q,c8N]
  by_cases h0:s5=0
  ·simp only [h0,decide_true,a0d,if_true,a0G,hs _ sm6]
   exact .some ⟨m,_,rfl,by omega,by omega⟩
  ·by_cases h12:s5=12
   ·simp only [h0,h12,decide_true,decide_false,a0d,c8O,if_false,if_true,bs,a0G,hs _ sm6,show ¬ (12:Int)=0 by omega]
    exact .some ⟨m,_,rfl,by omega,by omega⟩
   ·simp only [h0,h12,decide_false,a0d,c8O,if_false,bs,a0G,hs _ sm6]
    exact .some ⟨m,_,rfl,by omega,by omega⟩
theorem c4U {o N:Nat} (hN:N≤1000000) {g:Hp} {l:List Pr} (hl:l.length=N) (ho:g[o]?=some (.row a0i 2 (l.map prr))) (a b:Nat) (hab:a<b) (hb:b≤N) (cmp:D) :
  Wp (R b1G [.msl 2 o 0 N,.int .i64 (a:Int),.int .i64 (b:Int),cmp] g) fun p=>∃ l',p.2[o]?=some (.row a0i 2 (l'.map prr))∧Seg a b l l'∧Same o g p.2:=by
 rw [c2H]
 have w1:IntKind.wrap .i64 ((b:Int) - 1)=((b - 1:Nat):Int):=by rw [wrap_i64 (by omega) (by omega)];omega
 simp only [b8y,bs,a0t,w1,c8N]
 refine Wp.loop (fun n ds g'=>∃ x,∃ i j:Nat,∃ l',ds=[.int .i64 (i:Int),.int .i64 (j:Int),x]∧n=j+1∧a≤i∧j<b∧(i≤j+1)∧g'[o]?=some (.row a0i 2 (l'.map prr))∧Seg a b l l'∧Same o g g')
  (fun r=>r.1 = .ext 0∧∃ l',r.2.2[o]?=some (.row a0i 2 (l'.map prr))∧Seg a b l l'∧Same o g r.2.2) b ⟨_,a,b - 1,l,rfl,by omega,by omega,by omega,by omega,ho,.refl _ _ _,.refl _ _⟩ ?_ ?_
 ·rintro n ds g' ⟨x,i,j,l',rfl,hn,hi,hj,hij,ho',sg,sm⟩
  have hl':=sg.len
  simp only [a8T,a0e,a0g,bs,c8N,a0q]
  refine Wp.dif ?_ ?_
  ·intro h0
   have h0:i<j:=by
    have:(i:Int)<(j:Int):=by simpa using h0
    omega
   obtain ⟨u,hu⟩:∃ u,l'[i]?=some u:=⟨_,c9c (by omega)⟩
   obtain ⟨v,hv⟩:∃ v,l'[j]?=some v:=⟨_,c9c (by omega)⟩
   have w2:=wi_ i (by omega)
   have w3:IntKind.wrap .i64 ((j:Int) - 1)=((j - 1:Nat):Int):=by rw [wrap_i64 (by omega) (by omega)];omega
   simp only [adP (show i<N by omega),adP (show j<N by omega),a1r ho' hu,a1r ho' hv,bs]
   refine swP ho' hu hv fun g2 p2 s2=>?_
   simp only [bs,a0k,a0t,w2,w3]
   exact .some (.inl ⟨rfl,j,by omega,_,i+1,j - 1,_,rfl,by omega,by omega,by omega,by omega,p2,sg.trans (a1O hu hv (by omega) (by omega) (by omega) (by omega)),sm.trans s2⟩)
  ·intro h0
   exact .some (.inr ⟨by simp,rfl,l',ho',sg,sm⟩)
 ·rintro ⟨ex,ds,g'⟩ ⟨rfl,l',h1,h2,h3⟩
  simp only [a0o,a1M,bs]
  exact .some ⟨l',h1,h2,h3⟩
theorem c1n {c:Pr→Pr→Int} (od:CmO c) {cmp:D} (hcmp:CmpFP cmp c) {o N:Nat} (hN:N≤1000000) {g:Hp} {l:List Pr} (hl:l.length=N) (ho:g[o]?=some (.row a0i 2 (l.map prr))) (lo hi f:Nat) (hlo:lo≤N) (hb:f+hi≤N) :
  Wp (R a9F [.msl 2 o 0 N,.int .i64 (lo:Int),.int .i64 (hi:Int),.int .i64 (f:Int),cmp] g) fun p=>∃ l',p.2[o]?=some (.row a0i 2 (l'.map prr))∧Seg f (f+hi) l l'∧(HeapE c f lo hi lo l→a8h c f lo hi l')∧Same o g p.2:=by
 rw [c2Q]
 simp only [b8H,bs,c8N]
 refine Wp.loop (fun n ds g'=>∃ x1 x2 x3 x4,∃ r:Nat,∃ l',ds=[.int .i64 (r:Int),x1,x2,x3,x4]∧n+r=hi+lo∧lo≤r∧g'[o]?=some (.row a0i 2 (l'.map prr))∧Seg f (f+hi) l l'∧(HeapE c f lo hi lo l→HeapE c f lo hi r l')∧Same o g g')
  (fun r=>(r.1 = .ext 0∨r.1 = .ret)∧∃ l',r.2.2[o]?=some (.row a0i 2 (l'.map prr))∧Seg f (f+hi) l l'∧(HeapE c f lo hi lo l→a8h c f lo hi l')∧Same o g r.2.2) hi ⟨_,_,_,_,lo,l,rfl,rfl,Nat.le_refl _,ho,.refl _ _ _,id,.refl _ _⟩ ?_ ?_
 ·rintro n ds g' ⟨x1,x2,x3,x4,r,l',rfl,hn,hr,ho',sg,hh,sm⟩
  have hl':=sg.len
  have w1:IntKind.wrap .i64 ((2:Int)*(r:Int))=((2*r:Nat):Int):=by rw [wrap_i64 (by omega) (by omega)];omega
  have w2:IntKind.wrap .i64 (((2*r:Nat):Int)+1)=((2*r+1:Nat):Int):=by rw [wrap_i64 (by omega) (by omega)];omega
  have w3:IntKind.wrap .i64 (((2*r+1:Nat):Int)+1)=((2*r+2:Nat):Int):=by rw [wrap_i64 (by omega) (by omega)];omega
  simp only [a9c,a0e,a0g,bs,c8N,a2i,w1,a0k,w2,a0S]
  by_cases h0:hi≤2*r+1
  ·have d0:decide (((2*r+1:Nat):Int)≥(hi:Int))=true:=decide_eq_true (by omega)
   simp only [d0,a0d,if_true]
   exact .some (.inr ⟨by simp,.inl rfl,l',ho',sg,fun h=>(hh h).leaf h0,sm⟩)
  ·have d0:decide (((2*r+1:Nat):Int)≥(hi:Int))=false:=decide_eq_false (by omega)
   obtain ⟨u,hu⟩:∃ u,l'[f+(2*r+1)]?=some u:=⟨_,c9c (by omega)⟩
   obtain ⟨x,hx⟩:∃ x,l'[f+r]?=some x:=⟨_,c9c (by omega)⟩
   have wf1:IntKind.wrap .i64 ((f:Int)+((2*r+1:Nat):Int))=((f+(2*r+1):Nat):Int):=by rw [wrap_i64 (by omega) (by omega)];omega
   have wf2:IntKind.wrap .i64 (((f+(2*r+1):Nat):Int)+1)=((f+(2*r+2):Nat):Int):=by rw [wrap_i64 (by omega) (by omega)];omega
   have wf0:IntKind.wrap .i64 ((f:Int)+(r:Int))=((f+r:Nat):Int):=by rw [wrap_i64 (by omega) (by omega)];omega
   simp only [d0,a0d,c8O,if_false,bs,w3,a0q,c8N]
   obtain ⟨ch,hbc,hcase⟩:∃ ch,c1w c f hi r ch l'∧((¬ 2*r+2<hi∧2*r+1=ch)∨(2*r+2<hi∧∃ v,l'[f+(2*r+2)]?=some v∧((c u v<0∧2*r+2=ch)∨(¬ c u v<0∧2*r+1=ch)))):=by
    by_cases h2:2*r+2<hi
    ·obtain ⟨v,hv⟩:∃ v,l'[f+(2*r+2)]?=some v:=⟨_,c9c (by omega)⟩
     by_cases hc:c u v<0
     ·exact ⟨2*r+2,⟨.inr rfl,h2,fun d y z h3 h4 hy hz=>by
        rw [hv] at hy;injection hy with hy;subst hy
        rcases h3 with rfl | rfl
        ·rw [hu] at hz;injection hz with hz;subst hz;exact od.asm _ _ hc
        ·rw [hv] at hz;injection hz with hz;subst hz;exact od.irr _⟩,.inr ⟨h2,v,hv,.inl ⟨hc,rfl⟩⟩⟩
     ·exact ⟨2*r+1,⟨.inl rfl,by omega,fun d y z h3 h4 hy hz=>by
        rw [hu] at hy;injection hy with hy;subst hy
        rcases h3 with rfl | rfl
        ·rw [hu] at hz;injection hz with hz;subst hz;exact od.irr _
        ·rw [hv] at hz;injection hz with hz;subst hz;exact hc⟩,.inr ⟨h2,v,hv,.inr ⟨hc,rfl⟩⟩⟩
    ·exact ⟨2*r+1,⟨.inl rfl,by omega,fun d y z h3 h4 hy hz=>by
         rw [hu] at hy;injection hy with hy;subst hy
         rcases h3 with rfl | rfl
         ·rw [hu] at hz;injection hz with hz;subst hz;exact od.irr _
         ·omega⟩,.inl ⟨h2,rfl⟩⟩
   obtain ⟨y,hy⟩:∃ y,l'[f+ch]?=some y:=⟨_,c9c (by have:=hbc.2.1;omega)⟩
   have b1:=hbc.1
   have b2:=hbc.2.1
   have wfc:IntKind.wrap .i64 ((f:Int)+(ch:Int))=((f+ch:Nat):Int):=by rw [wrap_i64 (by omega) (by omega)];omega
   rcases hcase with ⟨h2,e⟩ | ⟨h2,v,hv,⟨hc2,e⟩ | ⟨hc2,e⟩⟩
   all_goals
    have d1:decide (((2*r+2:Nat):Int)<(hi:Int))=decide (2*r+2<hi):=decide_eq_decide.2 (by omega)
    simp only [d1,h2,decide_false,decide_true,a0x,a0F,a1a,reduceCtorEq,c8O,if_false,if_true,bs,a0k,wf1,wf2,adP (show f+(2*r+1)<N by omega),a1r ho' hu,a0n,a0d]
    try simp only [adP (show f+(2*r+2)<N by omega),a1r ho' hv,hcmp.ap,a0q,bs,a0n,hc2,decide_true,decide_false,a0d,c8O,if_false,if_true]
    rw [e]
    simp only [bs,a0j,a0e,a0k,wf0,wfc,adP (show f+r<N by omega),adP (show f+ch<N by omega),a1r ho' hx,a1r ho' hy,hcmp.ap,a0q,a1f,c8N]
    by_cases hc:c x y<0
    ·simp only [hc,decide_true,c8X,a0d,c8O,if_false]
     refine swP ho' hx hy fun g2 p2 s2=>?_
     exact .some (.inl ⟨rfl,n - (ch - r),by omega,_,_,_,_,ch,_,rfl,by omega,by omega,p2,sg.trans (a1O hx hy (by omega) (by omega) (by omega) (by omega)),fun h=>(hh h).down od hr hbc hx hy hc,sm.trans s2⟩)
    ·simp only [hc,decide_false,c8Y,a0d,if_true]
     exact .some (.inr ⟨by simp,.inr rfl,l',ho',sg,fun h=>(hh h).stop od hbc hx hy hc,sm⟩)
 ·rintro ⟨ex,ds,g'⟩ ⟨rfl | rfl,l',h1,h2,h3,h4⟩
  ·simp only [a0o,a1M,bs]
   exact .some ⟨l',h1,h2,h3,h4⟩
  ·simp only [a0U,a1i,bs]
   exact .some ⟨l',h1,h2,h3,h4⟩
theorem c4R {c:Pr→Pr→Int} (od:CmO c) {cmp:D} (hcmp:CmpFP cmp c) {o N:Nat} (hN:N≤1000000) {g:Hp} {l:List Pr} (hl:l.length=N) (ho:g[o]?=some (.row a0i 2 (l.map prr))) (a b:Nat) (hab:a<b) (hb:b≤N) :
  Wp (R b1E [.msl 2 o 0 N,.int .i64 (a:Int),.int .i64 (b:Int),cmp] g) fun p=>∃ l',p.2[o]?=some (.row a0i 2 (l'.map prr))∧Seg a b l l'∧Srt c a b l'∧Same o g p.2:=by
 obtain ⟨n,hn⟩:∃ n,b=a+n:=⟨b - a,by omega⟩
 subst hn
 rw [c2E]
 have w1:IntKind.wrap .i64 (((a+n:Nat):Int) - (a:Int))=((n:Nat):Int):=by rw [wrap_i64 (by omega) (by omega)];omega
 have w2:IntKind.wrap .i64 ((n:Int) - 1)=((n - 1:Nat):Int):=by rw [wrap_i64 (by omega) (by omega)];omega
 have w3:IntKind.wrap .i64 (Int.tdiv ((n - 1:Nat):Int) 2)=(((n - 1) / 2+1:Nat):Int) - 1:=by
  rw [show Int.tdiv ((n - 1:Nat):Int) 2=(((n - 1) / 2:Nat):Int) from by rw [Int.tdiv_eq_ediv_of_nonneg (by omega)];omega,wrap_i64 (by omega) (by omega)];omega
 have dec:∀ i:Nat,i≤N→IntKind.wrap .i64 (((i+1:Nat):Int) - 1 - 1)=((i:Nat):Int) - 1:=fun i hi=>by rw [wrap_i64 (by omega) (by omega)];omega
 simp only [b8v,bs,a0t,w1,w2,a1D,show ¬ (2:Int)=0 by omega,if_false,w3,c8N]
 refine Wp.loop (fun k ds g'=>∃ x,∃ l',ds=[.int .i64 ((k:Int) - 1),x]∧k≤n∧g'[o]?=some (.row a0i 2 (l'.map prr))∧Seg a (a+n) l l'∧a8h c a k n l'∧Same o g g')
  (fun r=>r.1 = .ext 0∧∃ l',r.2.2[o]?=some (.row a0i 2 (l'.map prr))∧Seg a (a+n) l l'∧a8h c a 0 n l'∧Same o g r.2.2) ((n - 1) / 2+1) ⟨_,l,rfl,by omega,ho,.refl _ _ _,fun i ch x y h1 h2 h3=>by omega,.refl _ _⟩ ?_ ?_
 ·rintro k ds g' ⟨x,l',rfl,hk,ho',sg,hh,sm⟩
  simp only [a8Q,a0e,a0g,bs,c8N,a0S]
  cases k with
  | zero =>
   have d0:decide ((((0:Nat):Int) - 1)≥0)=false:=rfl
   simp only [d0,a0d,c8O,if_false]
   exact .some (.inr ⟨by simp,rfl,l',ho',sg,hh,sm⟩)
  | succ k =>
   have d0:decide ((((k+1:Nat):Int) - 1)≥0)=true:=decide_eq_true (by omega)
   have e0:(((k+1:Nat):Int) - 1)=(k:Int):=by omega
   simp only [d0,a0d,if_true,a0t,dec k (by omega)]
   rw [e0]
   refine Wp.bind (c1n od hcmp hN (sg.len.trans hl) ho' k n a (by omega) (by omega)) ?_
   rintro ⟨d,g2⟩ ⟨l2,p2,s2,hh2,m2⟩
   exact .some (.inl ⟨rfl,k,by omega,_,l2,rfl,by omega,p2,sg.trans s2,hh2 (.mk0 hh),sm.trans m2⟩)
 ·rintro ⟨ex,ds,g1⟩ ⟨rfl,l1,ho1,sg1,hh1,sm1⟩
  simp only at ho1 sm1
  have w4:((n - 1:Nat):Int)=(n:Int) - 1:=by omega
  simp only [a0o,a0j,bs,c8N]
  rw [w4]
  refine Wp.loop (fun k ds g'=>∃ x,∃ l',ds=[.int .i64 ((k:Int) - 1),x]∧k≤n∧g'[o]?=some (.row a0i 2 (l'.map prr))∧Seg a (a+n) l l'∧HS c a n k l'∧Same o g g')
   (fun r=>r.1 = .ext 2∧∃ l',r.2.2[o]?=some (.row a0i 2 (l'.map prr))∧Seg a (a+n) l l'∧HS c a n 0 l'∧Same o g r.2.2) n ⟨_,l1,rfl,by omega,ho1,sg1,.mk0 hh1,sm1⟩ ?_ ?_
  ·rintro k ds g' ⟨x,l',rfl,hk,ho',sg,hh,sm⟩
   have hl':=sg.len.trans hl
   simp only [a8R,a0e,a0g,bs,c8N,a0S]
   cases k with
   | zero =>
    have d0:decide ((((0:Nat):Int) - 1)≥0)=false:=rfl
    simp only [d0,a0d,c8O,if_false]
    exact .some (.inr ⟨by simp,rfl,l',ho',sg,hh,sm⟩)
   | succ k =>
    have d0:decide ((((k+1:Nat):Int) - 1)≥0)=true:=decide_eq_true (by omega)
    have e0:(((k+1:Nat):Int) - 1)=(k:Int):=by omega
    have w5:IntKind.wrap .i64 ((a:Int)+(k:Int))=((a+k:Nat):Int):=by rw [wrap_i64 (by omega) (by omega)];omega
    obtain ⟨u,hu⟩:∃ u,l'[a]?=some u:=⟨_,c9c (by omega)⟩
    obtain ⟨v,hv⟩:∃ v,l'[a+k]?=some v:=⟨_,c9c (by omega)⟩
    simp only [d0,a0d,if_true,a0t,dec k (by omega)]
    rw [e0]
    simp only [a0k,w5,bs,adP (show a<N by omega),adP (show a+k<N by omega),a1r ho' hu,a1r ho' hv]
    refine swP ho' hu hv fun g2 p2 s2=>?_
    have hl2:((l'.set a v).set (a+k) u).length=N:=by simpa using hl'
    refine Wp.bind (c1n od hcmp hN hl2 p2 0 k a (by omega) (by omega)) ?_
    rintro ⟨d,g3⟩ ⟨l3,p3,s3,hh3,m3⟩
    exact .some (.inl ⟨rfl,k,by omega,_,l3,rfl,by omega,p3,sg.trans ((a1O hu hv (by omega) (by omega) (by omega) (by omega)).trans (s3.mono (Nat.le_refl _) (by omega))),hh.step od (by omega) (by omega) hu hv s3 (fun h=>hh3 (.mk0 h)),(sm.trans s2).trans m3⟩)
  ·rintro ⟨ex,ds,g2⟩ ⟨rfl,l2,ho2,sg2,hh2,sm2⟩
   simp only [a0o,a1M,bs]
   exact .some ⟨l2,ho2,sg2,hh2.fin,sm2⟩
theorem Srt.keep {α:Type} {c:α→α→Int} {a i b:Nat} {l l':List α} (h:Srt c a i l) (s:Seg i b l l'):Srt c a i l':=fun p q x y h1 h2 h3 hx hy=>by
 rw [s.out p (by omega)] at hx
 rw [s.out q (by omega)] at hy
 exact h p q x y h1 h2 h3 hx hy
theorem c0Y {c:Pr→Pr→Int} (od:CmO c) {cmp:D} (hcmp:CmpFP cmp c) {o N:Nat} (hN:N≤1000000) {g:Hp} {l:List Pr} (hl:l.length=N) (ho:g[o]?=some (.row a0i 2 (l.map prr))) (a b i:Nat) (hb:b≤N) (hi:a<i) (hib:i≤b) (st:Srt c a i l) (x0:D) {β:Type} {K:Out→Option β} {Q:β→Prop}
  (k:∀ (i':Nat) y,i≤i'→i'≤b→Srt c a i' l→(i'<b→∃ u v,l[i']?=some u∧l[i' - 1]?=some v∧c u v<0)→Wp (K (.ext 2,[.int .i64 (i':Int),y],g)) Q) :
  Wp ((a0z (a6d (.msl 2 o 0 N) (.int .i64 (b:Int)) cmp) [.int .i64 (i:Int),x0] g).bind K) Q:=by
 refine Wp.loop (fun n ds g'=>g'=g∧∃ x,∃ j:Nat,ds=[.int .i64 (j:Int),x]∧n+j=b∧i≤j∧Srt c a j l)
  (fun r=>r.1 = .ext 2∧r.2.2=g∧∃ x,∃ j:Nat,r.2.1=[.int .i64 (j:Int),x]∧i≤j∧j≤b∧Srt c a j l∧(j<b→∃ u v,l[j]?=some u∧l[j - 1]?=some v∧c u v<0)) (b - i) ⟨rfl,_,i,rfl,by omega,Nat.le_refl _,st⟩ ?_ ?_
 ·rintro n ds g' ⟨rfl,x,j,rfl,hn,hj,st⟩
  simp only [a6d,a0e,a0g,bs,c8N,a0q]
  by_cases h0:j<b
  ·have d0:decide ((j:Int)<(b:Int))=true:=decide_eq_true (by omega)
   obtain ⟨u,hu⟩:∃ u,l[j]?=some u:=⟨_,c9c (by omega)⟩
   obtain ⟨v,hv⟩:∃ v,l[j - 1]?=some v:=⟨_,c9c (by omega)⟩
   have w1:IntKind.wrap .i64 ((j:Int) - 1)=((j - 1:Nat):Int):=by rw [wrap_i64 (by omega) (by omega)];omega
   have w2:=wi_ j (by omega)
   simp only [d0,a0x,a0F,if_true,bs,a0t,w1,adP (show j<N by omega),adP (show j - 1<N by omega),a1r ho hu,a1r ho hv,hcmp.ap,a0q,a1f,a0n]
   by_cases hc:c u v<0
   ·simp only [hc,decide_true,c8X,a0d,c8O,if_false]
    exact .some (.inr ⟨by simp,rfl,rfl,_,j,rfl,hj,by omega,st,fun _=>⟨u,v,hu,hv,hc⟩⟩)
   ·simp only [hc,decide_false,c8Y,a0d,if_true,a0k,w2,bs]
    exact .some (.inl ⟨rfl,n - 1,by omega,rfl,_,j+1,rfl,by omega,by omega,st.more od (by omega) (by omega) fun x y hx hy=>by
     rw [hu] at hx;injection hx with hx;subst hx
     rw [hv] at hy;injection hy with hy;subst hy
     exact hc⟩)
  ·have d0:decide ((j:Int)<(b:Int))=false:=decide_eq_false (by omega)
   simp only [d0,a0x,a0F,a1a,reduceCtorEq,c8O,if_false,bs,a0n,a0d]
   exact .some (.inr ⟨by simp,rfl,rfl,_,j,rfl,hj,by omega,st,fun h=>absurd h h0⟩)
 ·rintro ⟨ex,ds,g'⟩ ⟨rfl,rfl,y,j,hds,h1,h2,h3,h4⟩
  simp only at hds
  subst hds
  exact k j y h1 h2 h3 h4
theorem c0Z {c:Pr→Pr→Int} (od:CmO c) {cmp:D} (hcmp:CmpFP cmp c) {o N:Nat} (hN:N≤1000000) {g:Hp} {l:List Pr} (hl:l.length=N) (ho:g[o]?=some (.row a0i 2 (l.map prr))) (a i j:Nat) (hi:i≤N) (haj:a≤j) (hji:j<i) (st:SrtX c a i j l) (lw:Low c a i l) (x0 x1:D) {β:Type} {K:Out→Option β} {Q:β→Prop}
  (k:∀ u v w g' l',g'[o]?=some (.row a0i 2 (l'.map prr))→Seg a i l l'→Srt c a i l'→Same o g g'→Wp (K (.ext 4,[u,v,w],g')) Q) :
  Wp ((a0z (a6e (.msl 2 o 0 N) cmp) [.int .i64 (j:Int),x0,x1] g).bind K) Q:=by
 refine Wp.loop (fun n ds g'=>∃ u v,∃ l',ds=[.int .i64 (n:Int),u,v]∧a≤n∧n<i∧g'[o]?=some (.row a0i 2 (l'.map prr))∧Seg a i l l'∧SrtX c a i n l'∧Same o g g')
  (fun r=>r.1 = .ext 4∧(∃ u v w,r.2.1=[u,v,w])∧∃ l',r.2.2[o]?=some (.row a0i 2 (l'.map prr))∧Seg a i l l'∧Srt c a i l'∧Same o g r.2.2) j ⟨_,_,l,rfl,haj,hji,ho,.refl _ _ _,st,.refl _ _⟩ ?_ ?_
 ·rintro n ds g' ⟨u0,v0,l',rfl,hn,hni,ho',sg,sx,sm⟩
  have hl':=sg.len.trans hl
  simp only [a6e,a0e,a0g,bs,c8N,a0S]
  cases n with
  | zero =>
   have d0:decide (((0:Nat):Int)≥1)=false:=rfl
   simp only [d0,a0d,c8O,if_false]
   exact .some (.inr ⟨by simp,rfl,⟨_,_,_,rfl⟩,l',ho',sg,sx.stop od (fun h=>by omega),sm⟩)
  | succ m =>
   have d0:decide (((m+1:Nat):Int)≥1)=true:=decide_eq_true (by omega)
   have w1:IntKind.wrap .i64 (((m+1:Nat):Int) - 1)=(m:Int):=by rw [wrap_i64 (by omega) (by omega)];omega
   obtain ⟨u,hu⟩:∃ u,l'[m+1]?=some u:=⟨_,c9c (by omega)⟩
   obtain ⟨v,hv⟩:∃ v,l'[m]?=some v:=⟨_,c9c (by omega)⟩
   simp only [d0,a0d,if_true,a0t,w1,bs,adP (show m+1<N by omega),adP (show m<N by omega),a1r ho' hu,a1r ho' hv,hcmp.ap,a0q,a1f]
   by_cases hc:c u v<0
   ·have ham:a≤m:=by
      rcases Nat.lt_or_ge m a with h1 | h1
      ·exact absurd hc (od.asm _ _ (lw.seg sg m (m+1) v u h1 hn hni hv hu))
      ·exact h1
    simp only [hc,decide_true,c8X,a0d,c8O,if_false]
    refine swP ho' hu hv fun g2 p2 s2=>?_
    try simp only [bs]
    exact .some (.inl ⟨rfl,m,by omega,_,_,_,rfl,ham,by omega,p2,sg.trans (a1O hu hv (by omega) (by omega) (by omega) (by omega)),sx.step od ham hni hu hv hc,sm.trans s2⟩)
   ·simp only [hc,decide_false,c8Y,a0d,if_true]
    exact .some (.inr ⟨by simp,rfl,⟨_,_,_,rfl⟩,l',ho',sg,sx.stop od (fun h x y hx hy=>by
     rw [hu] at hx;injection hx with hx;subst hx
     rw [show m+1 - 1=m from rfl,hv] at hy;injection hy with hy;subst hy
     exact hc),sm⟩)
 ·rintro ⟨ex,ds,g'⟩ ⟨rfl,⟨u,v,w,hds⟩,l',h1,h2,h3,h4⟩
  simp only at hds
  subst hds
  exact k u v w g' l' h1 h2 h3 h4
theorem c1a {c:Pr→Pr→Int} {cmp:D} (hcmp:CmpFP cmp c) {o N:Nat} (hN:N≤1000000) {g:Hp} {l:List Pr} (hl:l.length=N) (ho:g[o]?=some (.row a0i 2 (l.map prr))) (i j b:Nat) (hb:b≤N) (hij:i<j) (hjb:j≤b) (x0 x1:D) {β:Type} {K:Out→Option β} {Q:β→Prop}
  (k:∀ u v w g' l',g'[o]?=some (.row a0i 2 (l'.map prr))→Seg i b l l'→Same o g g'→Wp (K (.ext 6,[u,v,w],g')) Q) :
  Wp ((a0z (a6f (.msl 2 o 0 N) (.int .i64 (b:Int)) cmp) [.int .i64 (j:Int),x0,x1] g).bind K) Q:=by
 refine Wp.loop (fun n ds g'=>∃ u v,∃ m:Nat,∃ l',ds=[.int .i64 (m:Int),u,v]∧n+m=b∧i<m∧g'[o]?=some (.row a0i 2 (l'.map prr))∧Seg i b l l'∧Same o g g')
  (fun r=>r.1 = .ext 6∧(∃ u v w,r.2.1=[u,v,w])∧∃ l',r.2.2[o]?=some (.row a0i 2 (l'.map prr))∧Seg i b l l'∧Same o g r.2.2) (b - j) ⟨_,_,j,l,rfl,by omega,hij,ho,.refl _ _ _,.refl _ _⟩ ?_ ?_
 ·rintro n ds g' ⟨u0,v0,m,l',rfl,hn,him,ho',sg,sm⟩
  have hl':=sg.len.trans hl
  simp only [a6f,a0e,a0g,bs,c8N,a0q]
  by_cases h0:m<b
  ·have d0:decide ((m:Int)<(b:Int))=true:=decide_eq_true (by omega)
   have w1:IntKind.wrap .i64 ((m:Int) - 1)=((m - 1:Nat):Int):=by rw [wrap_i64 (by omega) (by omega)];omega
   have w2:=wi_ m (by omega)
   obtain ⟨u,hu⟩:∃ u,l'[m]?=some u:=⟨_,c9c (by omega)⟩
   obtain ⟨v,hv⟩:∃ v,l'[m - 1]?=some v:=⟨_,c9c (by omega)⟩
   simp only [d0,a0d,if_true,a0t,w1,bs,adP (show m<N by omega),adP (show m - 1<N by omega),a1r ho' hu,a1r ho' hv,hcmp.ap,a0q,a1f]
   by_cases hc:c u v<0
   ·simp only [hc,decide_true,c8X,a0d,c8O,if_false]
    refine swP ho' hu hv fun g2 p2 s2=>?_
    simp only [bs,a0k,w2]
    exact .some (.inl ⟨rfl,n - 1,by omega,_,_,m+1,_,rfl,by omega,by omega,p2,sg.trans (a1O hu hv (by omega) (by omega) (by omega) (by omega)),sm.trans s2⟩)
   ·simp only [hc,decide_false,c8Y,a0d,if_true]
    exact .some (.inr ⟨by simp,rfl,⟨_,_,_,rfl⟩,l',ho',sg,sm⟩)
  ·have d0:decide ((m:Int)<(b:Int))=false:=decide_eq_false (by omega)
   simp only [d0,a0d,c8O,if_false]
   exact .some (.inr ⟨by simp,rfl,⟨_,_,_,rfl⟩,l',ho',sg,sm⟩)
 ·rintro ⟨ex,ds,g'⟩ ⟨rfl,⟨u,v,w,hds⟩,l',h1,h2,h3⟩
  simp only at hds
  subst hds
  exact k u v w g' l' h1 h2 h3
theorem c4V {c:Pr→Pr→Int} (od:CmO c) {cmp:D} (hcmp:CmpFP cmp c) {o N:Nat} (hN:N≤1000000) {g:Hp} {l:List Pr} (hl:l.length=N) (ho:g[o]?=some (.row a0i 2 (l.map prr))) (a b:Nat) (hab:a<b) (hb:b≤N) (lw:Low c a b l) :
  Wp (R b1H [.msl 2 o 0 N,.int .i64 (a:Int),.int .i64 (b:Int),cmp] g) fun p=>∃ (d:Bool) (l':List Pr),p.1 = .bool d∧p.2[o]?=some (.row a0i 2 (l'.map prr))∧Seg a b l l'∧(d=true→Srt c a b l')∧Same o g p.2:=by
 rw [c2I]
 have w1:=wi_ a (by omega)
 have w2:IntKind.wrap .i64 ((b:Int) - (a:Int))=((b - a:Nat):Int):=by rw [wrap_i64 (by omega) (by omega)];omega
 simp only [b8z,bs,a0k,w1,c8N]
 refine Wp.loop (fun n ds g'=>∃ x0 x3 x4 x5 x6 x7 x8 x9 y1 y2 y3 y4 y5,∃ i s:Nat,∃ l',ds=[x0,.int .i64 (i:Int),.int .i64 (s:Int),x3,x4,x5,x6,x7,x8,x9,y1,y2,y3,y4,y5]∧n+s=5∧a<i∧i≤b∧g'[o]?=some (.row a0i 2 (l'.map prr))∧Seg a b l l'∧Srt c a i l'∧Same o g g')
  (fun r=>(r.1 = .ext 0∧∃ l',r.2.2[o]?=some (.row a0i 2 (l'.map prr))∧Seg a b l l'∧Same o g r.2.2)∨(r.1 = .ret∧∃ (d:Bool) (l':List Pr),nth 0 r.2.1 = .bool d∧r.2.2[o]?=some (.row a0i 2 (l'.map prr))∧Seg a b l l'∧(d=true→Srt c a b l')∧Same o g r.2.2)) 5 ⟨_,_,_,_,_,_,_,_,_,_,_,_,_,a+1,0,l,rfl,rfl,by omega,by omega,ho,.refl _ _ _,.one,.refl _ _⟩ ?_ ?_
 ·rintro n ds g' ⟨x0,x3,x4,x5,x6,x7,x8,x9,y1,y2,y3,y4,y5,i,s,l',rfl,hn,hi,hib,ho',sg,st,sm⟩
  have hl':=sg.len.trans hl
  have ws:=wi_ s (by omega)
  simp only [a8U,a0e,a0g,bs,c8N,a0q]
  refine Wp.dif ?_ ?_
  ·intro h0
   have h0:s<5:=dl_ h0
   refine c0Y od hcmp hN hl' ho' a b i hb hi hib st _ fun j y hij hjb st2 hd=>?_
   simp only [a0o,a0j,bs,a0e,a0g,a0Q,a0t,w2,a0q,c8N]
   by_cases hjb2:j=b
   ·subst hjb2
    simp only [decide_true,a0d,if_true]
    exact .some (.inr ⟨by simp,.inr ⟨rfl,true,l',rfl,ho',sg,fun _=>st2,sm⟩⟩)
   ·have d1:decide ((j:Int)=(b:Int))=false:=decide_eq_false (by omega)
    simp only [d1,a0d,c8O,if_false,bs]
    by_cases h50:b - a<50
    ·have d2:decide (((b - a:Nat):Int)<50)=true:=decide_eq_true (by omega)
     simp only [d2,a0d,if_true]
     exact .some (.inr ⟨by simp,.inr ⟨rfl,false,l',rfl,ho',sg,(fun h=>by cases h),sm⟩⟩)
    ·have d2:decide (((b - a:Nat):Int)<50)=false:=decide_eq_false (by omega)
     obtain ⟨u,v,hu,hv,hc⟩:=hd (by omega)
     obtain ⟨m,rfl⟩:∃ m,j=m+1:=⟨j - 1,by omega⟩
     rw [show m+1 - 1=m from rfl] at hv
     have w3:IntKind.wrap .i64 (((m+1:Nat):Int) - 1)=(m:Int):=by rw [wrap_i64 (by omega) (by omega)];omega
     have w4:IntKind.wrap .i64 (((m+1:Nat):Int) - (a:Int))=((m+1 - a:Nat):Int):=by rw [wrap_i64 (by omega) (by omega)];omega
     have w5:IntKind.wrap .i64 ((b:Int) - ((m+1:Nat):Int))=((b - (m+1):Nat):Int):=by rw [wrap_i64 (by omega) (by omega)];omega
     have w6:IntKind.wrap .i64 (((m+1:Nat):Int)+1)=((m+2:Nat):Int):=by rw [wrap_i64 (by omega) (by omega)];omega
     simp only [d2,a0d,c8O,if_false,w3,bs,adP (show m+1<N by omega),adP (show m<N by omega),a1r ho' hu,a1r ho' hv]
     refine swP ho' hu hv fun g2 p2 s2=>?_
     have hsg2:Seg a b l' ((l'.set (m+1) v).set m u):=a1O hu hv (by omega) (by omega) (by omega) (by omega)
     have sx2:=st2.swX hu hv
     have hl2:=hsg2.len.trans hl'
     generalize (l'.set (m+1) v).set m u=l2 at p2 hsg2 sx2 hl2
     simp only [bs,a0t,w4,a0S,c8N]
     refine Wp.bind (P:=fun r=>r.1 = .nrm∧∃ l3,r.2.2[o]?=some (.row a0i 2 (l3.map prr))∧Seg a b l2 l3∧Srt c a (m+1) l3∧Same o g2 r.2.2) ?_ ?_
     ·by_cases hge:m+1 - a≥2
      ·have d3:decide (((m+1 - a:Nat):Int)≥2)=true:=decide_eq_true (by omega)
       simp only [d3,a0d,if_true,w3,bs,c8N]
       refine c0Z od hcmp hN hl2 p2 a (m+1) m (by omega) (by omega) (by omega) sx2 (fun p q x y h1 h2 h3 hx hy=>(lw.seg (sg.trans hsg2)) p q x y h1 h2 (by omega) hx hy) _ _ fun u1 v1 w1' g3 l3 p3 s3 st3 m3=>?_
       simp only [a0o,bs]
       exact .some ⟨rfl,l3,p3,s3.mono (Nat.le_refl _) (by omega),st3,m3⟩
      ·have d3:decide (((m+1 - a:Nat):Int)≥2)=false:=decide_eq_false (by omega)
       simp only [d3,a0d,c8O,if_false]
       have:m=a:=by omega
       subst this
       exact .some ⟨rfl,l2,p2,.refl _ _ _,.one,.refl _ _⟩
     ·rintro ⟨ex,ds3,g3⟩ ⟨rfl,l3,p3,s3,st3,m3⟩
      simp only at p3 m3
      have hl3:=s3.len.trans hl2
      simp only [a0j,bs,a0t,w5,a0S,c8N]
      refine Wp.bind (P:=fun r=>r.1 = .nrm∧∃ l4,r.2.2[o]?=some (.row a0i 2 (l4.map prr))∧Seg (m+1) b l3 l4∧Same o g3 r.2.2) ?_ ?_
      ·by_cases hge:b - (m+1)≥2
       ·have d3:decide (((b - (m+1):Nat):Int)≥2)=true:=decide_eq_true (by omega)
        simp only [d3,a0d,if_true,a0k,w6,bs,c8N]
        refine c1a hcmp hN hl3 p3 (m+1) (m+2) b hb (by omega) (by omega) _ _ fun u1 v1 w1' g4 l4 p4 s4 m4=>?_
        simp only [a0o,bs]
        exact .some ⟨rfl,l4,p4,s4,m4⟩
       ·have d3:decide (((b - (m+1):Nat):Int)≥2)=false:=decide_eq_false (by omega)
        simp only [d3,a0d,c8O,if_false]
        exact .some ⟨rfl,l3,p3,.refl _ _ _,.refl _ _⟩
      ·rintro ⟨ex,ds4,g4⟩ ⟨rfl,l4,p4,s4,m4⟩
       simp only at p4 m4
       simp only [a0L,a0j,bs,a0k,ws,a0e,a0g]
       exact .some (.inl ⟨rfl,n - 1,by omega,_,_,_,_,_,_,_,_,_,_,_,_,_,m+1,s+1,l4,rfl,by omega,by omega,by omega,p4,((sg.trans hsg2).trans s3).trans (s4.mono (by omega) (Nat.le_refl _)),st3.keep s4,((sm.trans s2).trans m3).trans m4⟩)
  ·intro h0
   exact .some (.inr ⟨by simp,.inl ⟨rfl,l',ho',sg,sm⟩⟩)
 ·rintro ⟨ex,ds,g'⟩ (⟨rfl,l',h1,h2,h3⟩ | ⟨rfl,d,l',hd,h1,h2,hs,h3⟩)
  ·simp only [a0o,a0j,bs,a0s]
   exact .some ⟨false,l',rfl,h1,h2,(fun h=>by cases h),h3⟩
  ·simp only at hd
   simp only [a0U,a1n,a1i,bs,a0e,hd,a0s]
   exact .some ⟨d,l',rfl,h1,h2,hs,h3⟩
theorem c1b {c:Pr→Pr→Int} {cmp:D} (hcmp:CmpFP cmp c) {o N:Nat} (hN:N≤1000000) {g:Hp} {l:List Pr} (hl:l.length=N) (ho:g[o]?=some (.row a0i 2 (l.map prr))) (a b i j:Nat) (p:Pr) (hb:b≤N) (hp:PI c a b i j p l) (x0:D) {β:Type} {K:Out→Option β} {Q:β→Prop}
  (k:∀ (i':Nat) y,PI c a b i' j p l→i≤i'→(i'≤j→∃ u,l[i']?=some u∧¬ c u p<0)→Wp (K (.ext 0,[.int .i64 (i':Int),y],g)) Q) :
  Wp ((a0z (a6g (.msl 2 o 0 N) (.int .i64 (a:Int)) cmp (.int .i64 (j:Int))) [.int .i64 (i:Int),x0] g).bind K) Q:=by
 have hab:a<b:=by have:=hp.i1;have:=hp.ij;have:=hp.jb;omega
 refine Wp.loop (fun n ds g'=>g'=g∧∃ x,∃ i':Nat,ds=[.int .i64 (i':Int),x]∧n+i'=j+1∧PI c a b i' j p l∧i≤i')
  (fun r=>r.1 = .ext 0∧r.2.2=g∧∃ x,∃ i':Nat,r.2.1=[.int .i64 (i':Int),x]∧PI c a b i' j p l∧i≤i'∧(i'≤j→∃ u,l[i']?=some u∧¬ c u p<0)) (j+1 - i) ⟨rfl,_,i,rfl,by have:=hp.ij;omega,hp,Nat.le_refl _⟩ ?_ ?_
 ·rintro n ds g' ⟨rfl,x,i',rfl,hn,hp',hi⟩
  have hjb:=hp'.jb
  simp only [a6g,a0e,a0g,bs,c8N,a0Y]
  by_cases h0:i'≤j
  ·have d0:decide ((i':Int)≤(j:Int))=true:=decide_eq_true (by omega)
   obtain ⟨u,hu⟩:∃ u,l[i']?=some u:=⟨_,c9c (by omega)⟩
   have w2:IntKind.wrap .i64 ((i':Int)+1)=((i'+1:Nat):Int):=by rw [wrap_i64 (by omega) (by omega)];omega
   simp only [d0,a0x,a0F,if_true,bs,adP (show i'<N by omega),adP (show a<N by omega),a1r ho hu,a1r ho hp'.pv,hcmp.ap,a0q,a0n]
   by_cases hc:c u p<0
   ·simp only [hc,decide_true,a0d,if_true,a0k,w2,bs]
    exact .some (.inl ⟨rfl,n - 1,by omega,rfl,_,i'+1,rfl,by omega,hp'.up h0 hu hc,by omega⟩)
   ·simp only [hc,decide_false,a0d,c8O,if_false]
    exact .some (.inr ⟨by simp,rfl,rfl,_,i',rfl,hp',hi,fun _=>⟨u,hu,hc⟩⟩)
  ·have d0:decide ((i':Int)≤(j:Int))=false:=decide_eq_false (by omega)
   simp only [d0,a0x,a0F,a1a,reduceCtorEq,c8O,if_false,bs,a0n,a0d]
   exact .some (.inr ⟨by simp,rfl,rfl,_,i',rfl,hp',hi,fun h=>absurd h h0⟩)
 ·rintro ⟨ex,ds,g'⟩ ⟨rfl,rfl,y,i',hds,h1,h2,h3⟩
  simp only at hds
  subst hds
  exact k i' y h1 h2 h3
theorem c1c {c:Pr→Pr→Int} {cmp:D} (hcmp:CmpFP cmp c) {o N:Nat} (hN:N≤1000000) {g:Hp} {l:List Pr} (hl:l.length=N) (ho:g[o]?=some (.row a0i 2 (l.map prr))) (a b i j:Nat) (p:Pr) (hb:b≤N) (hp:PI c a b i j p l) (r_1:Out) (hr:nth 0 r_1.2.1 = .int .i64 (i:Int)) (x0:D) {β:Type} {K:Out→Option β} {Q:β→Prop}
  (k:∀ (j':Nat) y,PI c a b i j' p l→j'≤j→(i≤j'→∃ u,l[j']?=some u∧c u p<0)→Wp (K (.ext 2,[.int .i64 (j':Int),y],g)) Q) :
  Wp ((a0z (a6h (.msl 2 o 0 N) (.int .i64 (a:Int)) cmp r_1) [.int .i64 (j:Int),x0] g).bind K) Q:=by
 have hab:a<b:=by have:=hp.i1;have:=hp.ij;have:=hp.jb;omega
 refine Wp.loop (fun n ds g'=>g'=g∧∃ x,ds=[.int .i64 (n:Int),x]∧n≤j∧PI c a b i n p l)
  (fun r=>r.1 = .ext 2∧r.2.2=g∧∃ x,∃ j':Nat,r.2.1=[.int .i64 (j':Int),x]∧PI c a b i j' p l∧j'≤j∧(i≤j'→∃ u,l[j']?=some u∧c u p<0)) j ⟨rfl,_,rfl,Nat.le_refl _,hp⟩ ?_ ?_
 ·rintro n ds g' ⟨rfl,x,rfl,hn,hp'⟩
  have hjb:=hp'.jb
  simp only [a6h,a0e,a0g,bs,c8N,hr,a0Y]
  by_cases h0:i≤n
  ·have d0:decide ((i:Int)≤(n:Int))=true:=decide_eq_true (by omega)
   obtain ⟨u,hu⟩:∃ u,l[n]?=some u:=⟨_,c9c (by omega)⟩
   simp only [d0,a0x,a0F,if_true,bs,adP (show n<N by omega),adP (show a<N by omega),a1r ho hu,a1r ho hp'.pv,hcmp.ap,a0q,a1f,a0n]
   by_cases hc:c u p<0
   ·simp only [hc,decide_true,c8X,a0d,c8O,if_false]
    exact .some (.inr ⟨by simp,rfl,rfl,_,n,rfl,hp',hn,fun _=>⟨u,hu,hc⟩⟩)
   ·obtain ⟨m,rfl⟩:∃ m,n=m+1:=⟨n - 1,by have:=hp'.i1;omega⟩
    have w2:IntKind.wrap .i64 (((m+1:Nat):Int) - 1)=(m:Int):=by rw [wrap_i64 (by omega) (by omega)];omega
    simp only [hc,decide_false,c8Y,a0d,if_true,a0t,w2,bs]
    exact .some (.inl ⟨rfl,m,by omega,rfl,_,rfl,by omega,hp'.down h0 hu hc⟩)
  ·have d0:decide ((i:Int)≤(n:Int))=false:=decide_eq_false (by omega)
   simp only [d0,a0x,a0F,a1a,reduceCtorEq,c8O,if_false,bs,a0n,a0d]
   exact .some (.inr ⟨by simp,rfl,rfl,_,n,rfl,hp',hn,fun h=>absurd h h0⟩)
 ·rintro ⟨ex,ds,g'⟩ ⟨rfl,rfl,y,j',hds,h1,h2,h3⟩
  simp only at hds
  subst hds
  exact k j' y h1 h2 h3
theorem c1d {c:Pr→Pr→Int} {cmp:D} (hcmp:CmpFP cmp c) {o N:Nat} (hN:N≤1000000) {g:Hp} {l:List Pr} (hl:l.length=N) (ho:g[o]?=some (.row a0i 2 (l.map prr))) (a b i j:Nat) (p:Pr) (hb:b≤N) (hp:PI c a b i j p l) (ds2:List D) (hr:nth 1 ds2 = .int .i64 (j:Int)) (x0:D) {β:Type} {K:Out→Option β} {Q:β→Prop}
  (k:∀ (i':Nat) y,PI c a b i' j p l→i≤i'→(i'≤j→∃ u,l[i']?=some u∧¬ c u p<0)→Wp (K (.ext 6,[.int .i64 (i':Int),y],g)) Q) :
  Wp ((a0z (a6i (.msl 2 o 0 N) (.int .i64 (a:Int)) cmp ds2) [.int .i64 (i:Int),x0] g).bind K) Q:=by
 have hab:a<b:=by have:=hp.i1;have:=hp.ij;have:=hp.jb;omega
 refine Wp.loop (fun n ds g'=>g'=g∧∃ x,∃ i':Nat,ds=[.int .i64 (i':Int),x]∧n+i'=j+1∧PI c a b i' j p l∧i≤i')
  (fun r=>r.1 = .ext 6∧r.2.2=g∧∃ x,∃ i':Nat,r.2.1=[.int .i64 (i':Int),x]∧PI c a b i' j p l∧i≤i'∧(i'≤j→∃ u,l[i']?=some u∧¬ c u p<0)) (j+1 - i) ⟨rfl,_,i,rfl,by have:=hp.ij;omega,hp,Nat.le_refl _⟩ ?_ ?_
 ·rintro n ds g' ⟨rfl,x,i',rfl,hn,hp',hi⟩
  have hjb:=hp'.jb
  simp only [a6i,a0e,a0g,bs,c8N,hr,a0Y]
  by_cases h0:i'≤j
  ·have d0:decide ((i':Int)≤(j:Int))=true:=decide_eq_true (by omega)
   obtain ⟨u,hu⟩:∃ u,l[i']?=some u:=⟨_,c9c (by omega)⟩
   have w2:IntKind.wrap .i64 ((i':Int)+1)=((i'+1:Nat):Int):=by rw [wrap_i64 (by omega) (by omega)];omega
   simp only [d0,a0x,a0F,if_true,bs,adP (show i'<N by omega),adP (show a<N by omega),a1r ho hu,a1r ho hp'.pv,hcmp.ap,a0q,a0n]
   by_cases hc:c u p<0
   ·simp only [hc,decide_true,a0d,if_true,a0k,w2,bs]
    exact .some (.inl ⟨rfl,n - 1,by omega,rfl,_,i'+1,rfl,by omega,hp'.up h0 hu hc,by omega⟩)
   ·simp only [hc,decide_false,a0d,c8O,if_false]
    exact .some (.inr ⟨by simp,rfl,rfl,_,i',rfl,hp',hi,fun _=>⟨u,hu,hc⟩⟩)
  ·have d0:decide ((i':Int)≤(j:Int))=false:=decide_eq_false (by omega)
   simp only [d0,a0x,a0F,a1a,reduceCtorEq,c8O,if_false,bs,a0n,a0d]
   exact .some (.inr ⟨by simp,rfl,rfl,_,i',rfl,hp',hi,fun h=>absurd h h0⟩)
 ·rintro ⟨ex,ds,g'⟩ ⟨rfl,rfl,y,i',hds,h1,h2,h3⟩
  simp only at hds
  subst hds
  exact k i' y h1 h2 h3
theorem c1e {c:Pr→Pr→Int} {cmp:D} (hcmp:CmpFP cmp c) {o N:Nat} (hN:N≤1000000) {g:Hp} {l:List Pr} (hl:l.length=N) (ho:g[o]?=some (.row a0i 2 (l.map prr))) (a b i j:Nat) (p:Pr) (hb:b≤N) (hp:PI c a b i j p l) (r_1:Out) (hr:nth 0 r_1.2.1 = .int .i64 (i:Int)) (x0:D) {β:Type} {K:Out→Option β} {Q:β→Prop}
  (k:∀ (j':Nat) y,PI c a b i j' p l→j'≤j→(i≤j'→∃ u,l[j']?=some u∧c u p<0)→Wp (K (.ext 8,[.int .i64 (j':Int),y],g)) Q) :
  Wp ((a0z (a6j (.msl 2 o 0 N) (.int .i64 (a:Int)) cmp r_1) [.int .i64 (j:Int),x0] g).bind K) Q:=by
 have hab:a<b:=by have:=hp.i1;have:=hp.ij;have:=hp.jb;omega
 refine Wp.loop (fun n ds g'=>g'=g∧∃ x,ds=[.int .i64 (n:Int),x]∧n≤j∧PI c a b i n p l)
  (fun r=>r.1 = .ext 8∧r.2.2=g∧∃ x,∃ j':Nat,r.2.1=[.int .i64 (j':Int),x]∧PI c a b i j' p l∧j'≤j∧(i≤j'→∃ u,l[j']?=some u∧c u p<0)) j ⟨rfl,_,rfl,Nat.le_refl _,hp⟩ ?_ ?_
 ·rintro n ds g' ⟨rfl,x,rfl,hn,hp'⟩
  have hjb:=hp'.jb
  simp only [a6j,a0e,a0g,bs,c8N,hr,a0Y]
  by_cases h0:i≤n
  ·have d0:decide ((i:Int)≤(n:Int))=true:=decide_eq_true (by omega)
   obtain ⟨u,hu⟩:∃ u,l[n]?=some u:=⟨_,c9c (by omega)⟩
   simp only [d0,a0x,a0F,if_true,bs,adP (show n<N by omega),adP (show a<N by omega),a1r ho hu,a1r ho hp'.pv,hcmp.ap,a0q,a1f,a0n]
   by_cases hc:c u p<0
   ·simp only [hc,decide_true,c8X,a0d,c8O,if_false]
    exact .some (.inr ⟨by simp,rfl,rfl,_,n,rfl,hp',hn,fun _=>⟨u,hu,hc⟩⟩)
   ·obtain ⟨m,rfl⟩:∃ m,n=m+1:=⟨n - 1,by have:=hp'.i1;omega⟩
    have w2:IntKind.wrap .i64 (((m+1:Nat):Int) - 1)=(m:Int):=by rw [wrap_i64 (by omega) (by omega)];omega
    simp only [hc,decide_false,c8Y,a0d,if_true,a0t,w2,bs]
    exact .some (.inl ⟨rfl,m,by omega,rfl,_,rfl,by omega,hp'.down h0 hu hc⟩)
  ·have d0:decide ((i:Int)≤(n:Int))=false:=decide_eq_false (by omega)
   simp only [d0,a0x,a0F,a1a,reduceCtorEq,c8O,if_false,bs,a0n,a0d]
   exact .some (.inr ⟨by simp,rfl,rfl,_,n,rfl,hp',hn,fun h=>absurd h h0⟩)
 ·rintro ⟨ex,ds,g'⟩ ⟨rfl,rfl,y,j',hds,h1,h2,h3⟩
  simp only at hds
  subst hds
  exact k j' y h1 h2 h3
theorem c4W {c:Pr→Pr→Int} (od:CmO c) {cmp:D} (hcmp:CmpFP cmp c) {o N:Nat} (hN:N≤1000000) {g:Hp} {l:List Pr} (hl:l.length=N) (ho:g[o]?=some (.row a0i 2 (l.map prr))) (a b pv:Nat) (hb:b≤N) (hp1:a≤pv) (hp2:pv<b) :
  Wp (R b1I [.msl 2 o 0 N,.int .i64 (a:Int),.int .i64 (b:Int),.int .i64 (pv:Int),cmp] g) fun r=>∃ (m:Nat) (d:Bool) (l':List Pr),r.1 = .tup [.int .i64 (m:Int),.bool d]∧r.2[o]?=some (.row a0i 2 (l'.map prr))∧Seg a b l l'∧Part c a b m l'∧Same o g r.2:=by
 rw [c2J]
 obtain ⟨x,hx⟩:∃ x,l[a]?=some x:=⟨_,c9c (by omega)⟩
 obtain ⟨p,hp⟩:∃ p,l[pv]?=some p:=⟨_,c9c (by omega)⟩
 have w1:=wi_ a (by omega)
 have w2:IntKind.wrap .i64 ((b:Int) - 1)=((b - 1:Nat):Int):=by rw [wrap_i64 (by omega) (by omega)];omega
 simp only [b8A,bs,adP (show pv<N by omega),adP (show a<N by omega),a1r ho hx,a1r ho hp,c8N]
 refine swP ho hx hp fun g1 p1 s1=>?_
 have sg1:Seg a b l ((l.set a p).set pv x):=a1O hx hp (by omega) (by omega) (by omega) (by omega)
 have pv1:((l.set a p).set pv x)[a]?=some p:=by
  rw [a3V hx hp]
  split
  ·rename_i e
   subst e
   rw [hx] at hp
   exact hp
  ·rw [if_pos rfl]
 have hl1:=sg1.len.trans hl
 generalize (l.set a p).set pv x=l1 at p1 sg1 pv1 hl1
 have P1:PI c a b (a+1) (b - 1) p l1:=⟨pv1,by omega,by omega,by omega,fun k x h1 h2=>by omega,fun k x h1 h2=>by omega⟩
 simp only [bs,a0k,w1,a0t,w2,c8N]
 refine c1b hcmp hN hl1 p1 a b _ _ p hb P1 _ fun i1 y1 P2 hi1 hd1=>?_
 simp only [a0o,a0j,bs,a0e,a0g,c8N]
 refine c1c hcmp hN hl1 p1 a b _ _ p hb P2 _ (by rfl) _ fun j1 y2 P3 hj1 hd2=>?_
 have hjb3:=P3.jb
 have hi3:=P3.i1
 have hij3:=P3.ij
 simp only [a0o,a0j,bs,a0e,a0g,a1e,c8N]
 obtain ⟨q,hq⟩:∃ q,l1[j1]?=some q:=⟨_,c9c (by omega)⟩
 by_cases hij:i1>j1
 ·have d0:decide ((i1:Int)>(j1:Int))=true:=decide_eq_true (by omega)
  have e1:i1=j1+1:=by omega
  subst e1
  simp only [d0,a0d,if_true,adP (show a<N by omega),adP (show j1<N by omega),a1r p1 pv1,a1r p1 hq,bs]
  refine swP p1 hq pv1 fun g2 p2 s2=>?_
  obtain ⟨pt,sg2⟩:=P3.part hq
  simp only [bs,a0G]
  exact .some ⟨j1,true,_,rfl,p2,sg1.trans sg2,pt,s1.trans s2⟩
 ·have d0:decide ((i1:Int)>(j1:Int))=false:=decide_eq_false (by omega)
  obtain ⟨u,hu,hcu⟩:=hd1 (by omega)
  obtain ⟨v,hv,hcv⟩:=hd2 (by omega)
  have hne:i1≠j1:=fun e=>by
   subst e
   rw [hu] at hv
   injection hv with hv
   subst hv
   exact hcu hcv
  have w3:=wi_ i1 (by omega)
  have w4:IntKind.wrap .i64 ((j1:Int) - 1)=((j1 - 1:Nat):Int):=by rw [wrap_i64 (by omega) (by omega)];omega
  simp only [d0,a0d,c8O,if_false,adP (show i1<N by omega),adP (show j1<N by omega),a1r p1 hu,a1r p1 hv,bs,c8N]
  refine swP p1 hu hv fun g2 p2 s2=>?_
  have P4:=P3.swap (by omega) hu hv hcu hcv
  have sg2:Seg a b l1 ((l1.set i1 v).set j1 u):=a1O hu hv (by omega) (by omega) (by omega) (by omega)
  have hl2:=sg2.len.trans hl1
  generalize (l1.set i1 v).set j1 u=l2 at p2 P4 sg2 hl2
  simp only [bs,a0k,a0t,w3,w4,c8N]
  refine Wp.loop (fun n ds g'=>∃ x2 x3 x4,∃ i j:Nat,∃ l',ds=[.int .i64 (i:Int),.int .i64 (j:Int),x2,x3,x4]∧n+i=j+1∧g'[o]?=some (.row a0i 2 (l'.map prr))∧Seg a b l2 l'∧PI c a b i j p l'∧Same o g2 g')
   (fun r=>r.1 = .ext 4∧∃ j:Nat,∃ l',nth 1 r.2.1 = .int .i64 (j:Int)∧r.2.2[o]?=some (.row a0i 2 (l'.map prr))∧Seg a b l2 l'∧PI c a b (j+1) j p l'∧Same o g2 r.2.2) (j1 - 1+1 - (i1+1)) ⟨_,_,_,i1+1,j1 - 1,l2,rfl,by omega,p2,.refl _ _ _,P4,.refl _ _⟩ ?_ ?_
  ·rintro n ds g' ⟨x2,x3,x4,i,j,l',rfl,hn,ho',sg,hP,sm⟩
   have hl':=sg.len.trans hl2
   simp only [a8V,a0e,a0g,bs,c8N]
   refine c1d hcmp hN hl' ho' a b _ _ p hb hP _ (by rfl) _ fun i2 y3 P5 hi2 hd3=>?_
   simp only [a0o,a0j,bs,a0e,a0g,c8N]
   refine c1e hcmp hN hl' ho' a b _ _ p hb P5 _ (by rfl) _ fun j2 y4 P6 hj2 hd4=>?_
   have hjb6:=P6.jb
   have hi6:=P6.i1
   have hij6:=P6.ij
   simp only [a0o,a0j,bs,a0e,a0g,a1e,c8N]
   by_cases hij:i2>j2
   ·have d0:decide ((i2:Int)>(j2:Int))=true:=decide_eq_true (by omega)
    have e1:i2=j2+1:=by omega
    subst e1
    simp only [d0,a0d,if_true]
    exact .some (.inr ⟨by simp,rfl,j2,l',rfl,ho',sg,P6,sm⟩)
   ·have d0:decide ((i2:Int)>(j2:Int))=false:=decide_eq_false (by omega)
    obtain ⟨u2,hu2,hcu2⟩:=hd3 (by omega)
    obtain ⟨v2,hv2,hcv2⟩:=hd4 (by omega)
    have hne2:i2≠j2:=fun e=>by
     subst e
     rw [hu2] at hv2
     injection hv2 with hv2
     subst hv2
     exact hcu2 hcv2
    have w5:=wi_ i2 (by omega)
    have w6:IntKind.wrap .i64 ((j2:Int) - 1)=((j2 - 1:Nat):Int):=by rw [wrap_i64 (by omega) (by omega)];omega
    simp only [d0,a0d,c8O,if_false,adP (show i2<N by omega),adP (show j2<N by omega),a1r ho' hu2,a1r ho' hv2,bs,c8N]
    refine swP ho' hu2 hv2 fun g3 p3 s3=>?_
    simp only [bs,a0k,a0t,w5,w6]
    exact .some (.inl ⟨rfl,j2 - 1+1 - (i2+1),by omega,_,_,_,i2+1,j2 - 1,_,rfl,by omega,p3,sg.trans (a1O hu2 hv2 (by omega) (by omega) (by omega) (by omega)),P6.swap (by omega) hu2 hv2 hcu2 hcv2,sm.trans s3⟩)
  ·rintro ⟨ex,ds,g3⟩ ⟨rfl,j3,l3,hj3,p3,sg3,P7,sm3⟩
   simp only at hj3 p3 sm3
   have hl3:=sg3.len.trans hl2
   have hjb7:=P7.jb
   obtain ⟨q3,hq3⟩:∃ q,l3[j3]?=some q:=⟨_,c9c (by omega)⟩
   simp only [a0o,a0j,bs,a0e,a0g,hj3,adP (show a<N by omega),adP (show j3<N by omega),a1r p3 P7.pv,a1r p3 hq3,c8N]
   refine swP p3 hq3 P7.pv fun g4 p4 s4=>?_
   obtain ⟨pt,sg4⟩:=P7.part hq3
   simp only [bs,a0G]
   exact .some ⟨j3,false,_,rfl,p4,((sg1.trans sg2).trans sg3).trans sg4,pt,((s1.trans s2).trans sm3).trans s4⟩
def c1P:List UInt8:=(List.range 256).map fun v=>if v=0 then 0 else if v<2 then 1 else if v<4 then 2 else if v<8 then 3 else if v<16 then 4 else if v<32 then 5 else if v<64 then 6 else if v<128 then 7 else 8
set_option maxRecDepth 20000 in
theorem b2n:([0,1,2,2,3,3,3,3,4,4,4,4,4,4,4,4,5,5,5,5,5,5,5,5,5,5,5,5,5,5,5,5,6,6,6,6,6,6,6,6,6,6,6,6,6,6,6,6,6,6,6,6,6,6,6,6,6,6,6,6,6,6,6,6,7,7,7,7,7,7,7,7,7,7,7,7,7,7,7,7,7,7,7,7,7,7,7,7,7,7,7,7,7,7,7,7,7,7,7,7,7,7,7,7,7,7,7,7,7,7,7,7,7,7,7,7,7,7,7,7,7,7,7,7,7,7,7,7,8,8,8,8,8,8,8,8,8,8,8,8,8,8,8,8,8,8,8,8,8,8,8,8,8,8,8,8,8,8,8,8,8,8,8,8,8,8,8,8,8,8,8,8,8,8,8,8,8,8,8,8,8,8,8,8,8,8,8,8,8,8,8,8,8,8,8,8,8,8,8,8,8,8,8,8,8,8,8,8,8,8,8,8,8,8,8,8,8,8,8,8,8,8,8,8,8,8,8,8,8,8,8,8,8,8,8,8,8,8,8,8,8,8,8,8,8,8,8,8,8,8,8,8,8,8,8,8]:List UInt8)=c1P:=by kernel_rfl
theorem b4u:((List.range 256).all fun v=>match c1P[v]? with | some w=>decide (w.toNat≤8)&&(decide (v=0)||decide (2 ^ w.toNat≤2*v)) | none=>false)=true:=by kernel_rfl
theorem b2o (v:Nat) (hv:v<256):∃ w,c1P[v]?=some w∧w.toNat≤8∧(1≤v→2 ^ w.toNat≤2*v):=by
 have h:=List.all_eq_true.1 b4u v (List.mem_range.2 hv)
 cases hw:c1P[v]? with
 | none=>rw [hw] at h;cases h
 | some w =>
  rw [hw] at h
  simp only [Bool.and_eq_true,Bool.or_eq_true,decide_eq_true_eq] at h
  exact ⟨w,rfl,h.1,fun h1=>by
   rcases h.2 with h2 | h2
   ·omega
   ·exact h2⟩
theorem ix8 (s:Str) (i:Nat) (c:UInt8) (hc:s[i]?=some c):a2N tab ty9 (.str s) (.int .u8 (i:Int))=some (.int .u8 c.toNat):=by
 show (if (0:Int)≤(i:Int) then (match s[(i:Int).toNat]? with | some c=>some (D.int .u8 c.toNat) | none=>none) else none)=_
 simp [-bind_some, hc]
theorem c4m (x:Nat) (hx:x<65536) (h:Hp):∃ k:Nat,R b1D [.int .u64 (x:Int)] h=some (.int .i64 (k:Int),h)∧k≤16∧(1≤x→2 ^ k≤2*x):=by
 have w8:∀ v:Nat,v<256→IntKind.wrap .u8 (v:Int)=(v:Int):=fun v hv=>by rw [a4F];omega
 have d1:decide ((x:Int)≥4294967296)=false:=decide_eq_false (by omega)
 have d2:decide ((x:Int)≥65536)=false:=decide_eq_false (by omega)
 by_cases h0:x<256
 ·obtain ⟨w,hw,h1,h2⟩:=b2o x h0
  have d3:decide ((x:Int)≥256)=false:=decide_eq_false (by omega)
  have wi:IntKind.wrap .i64 ((w.toNat:Nat):Int)=((w.toNat:Nat):Int):=wrap_i64 (by omega) (by omega)
  have wz:IntKind.wrap .i64 ((0:Int)+((w.toNat:Nat):Int))=((w.toNat:Nat):Int):=by rw [wrap_i64 (by omega) (by omega)];omega
  refine ⟨w.toNat,?_,by omega,h2⟩
  rw [b9v]
  simp only [b5Y,a0S,d1,d2,d3,a0d,c8O,if_false,bs,a0j,a0e,a0g,a4y,w8 x h0,b2n,ix8 _ _ _ hw,b6n,wi,a0k,wz,a0s]
 ·obtain ⟨v,hv⟩:∃ v,v=x / 256:=⟨_,rfl⟩
  obtain ⟨w,hw,h1,h2⟩:=b2o v (by omega)
  have d3:decide ((x:Int)≥256)=true:=decide_eq_true (by omega)
  have fd:Int.fdiv (x:Int) (2 ^ min (8:Int).toNat IntKind.u64.bits)=(v:Int):=by
   have e:(2:Int) ^ min (8:Int).toNat IntKind.u64.bits=256:=by decide
   rw [e,Int.fdiv_eq_ediv_of_nonneg _ (by omega)]
   omega
  have wi:IntKind.wrap .i64 ((w.toNat:Nat):Int)=((w.toNat:Nat):Int):=wrap_i64 (by omega) (by omega)
  have w0:IntKind.wrap .i64 ((0:Int)+8)=8:=rfl
  have wz:IntKind.wrap .i64 ((8:Int)+((w.toNat:Nat):Int))=((8+w.toNat:Nat):Int):=by rw [wrap_i64 (by omega) (by omega)];omega
  refine ⟨8+w.toNat,?_,by omega,fun _=>?_⟩
  ·rw [b9v]
   simp only [b5Y,a0S,d1,d2,d3,a0d,c8O,if_false,if_true,bs,a0j,a0e,a0g,a9t,show ¬ (8:Int)<0 by omega,fd,a0k,w0,a4y,w8 v (by omega),b2n,ix8 _ _ _ hw,b6n,wi,wz,a0s]
  ·have h3:=h2 (by omega)
   rw [Nat.pow_add]
   have:(2:Nat) ^ 8=256:=rfl
   omega
theorem b2V (x:Nat) (hx:x<65536) (h:Hp):∃ k:Nat,R a4V [.int .u64 (x:Int)] h=some (.int .i64 (k:Int),h)∧k≤16∧(1≤x→2 ^ k≤2*x):=by
 obtain ⟨k,e,h1⟩:=c4m x hx h
 refine ⟨k,?_,h1⟩
 rw [c2D]
 simp only [b8u,a0d,c8O,if_false,e,bs,a0s]
theorem c0I (x:Nat) (h0:1≤x) (hx:x<65536) (h:Hp):∃ m:Nat,R a9G [.int .i64 (x:Int)] h=some (.int .u64 (m:Int),h)∧1≤m∧m≤2*x:=by
 obtain ⟨k,e,h1,h2⟩:=b2V x hx h
 have hp:=h2 h0
 have hp1:1≤2 ^ k:=Nat.one_le_two_pow
 have w1:IntKind.wrap .u64 (x:Int)=(x:Int):=a1y (by omega) (by omega)
 have w2:IntKind.wrap .u64 ((1:Int)*2 ^ min ((k:Int).toNat) IntKind.u64.bits)=((2 ^ k:Nat):Int):=by
  have e1:min ((k:Int).toNat) IntKind.u64.bits=k:=by
   have:IntKind.u64.bits=64:=rfl
   rw [this];omega
  have e2:(1:Int)*2 ^ k=((2 ^ k:Nat):Int):=by rw [Int.one_mul];exact (Int.natCast_pow 2 k).symm
  rw [e1,e2,a1y (by omega) (by omega)]
 refine ⟨2 ^ k,?_,hp1,hp⟩
 rw [c2R]
 simp only [b8I,a4L,w1,bs,e,a6y,show ¬ ((k:Int)<0) by omega,if_false,w2,a0s]
theorem c0J {q:Nat} {g:Hp} {s:Int} (hq:g[q]?=some (.row a0T 1 [[.int .u64 s]])):Wp (R a9H [.ptr q 0 0] g) fun p=>∃ s':Int,p.1 = .int .u64 s'∧p.2[q]?=some (.row a0T 1 [[.int .u64 s']])∧Same q g p.2:=by
 have ld:∀ (g':Hp) (s:Int),g'[q]?=some (.row a0T 1 [[.int .u64 s]])→a0c tab g' a0T (.ptr q 0 0)=some (.int .u64 s):=fun g' s h=>by rw [b7b,a1A h];rfl
 rw [c2S]
 simp only [b8J,a2W,bs,ld _ _ hq,a6y,show ¬ (13:Int)<0 by omega,if_false,a6z,c8N]
 refine a5m (kk:=0) (off:=0) hq (row:=[.int .u64 s]) (by rfl) (by rfl) (by simp) (by rfl) fun g2 p2 s2=>?_
 replace p2:g2[q]?=some (.row a0T 1 [[_]]):=p2
 simp only [bs,ld _ _ p2,a9t,show ¬ (7:Int)<0 by omega,if_false,a6z,c8N]
 refine a5m (kk:=0) (off:=0) p2 (row:=[_]) (by rfl) (by rfl) (by simp) (by rfl) fun g3 p3 s3=>?_
 replace p3:g3[q]?=some (.row a0T 1 [[_]]):=p3
 simp only [bs,ld _ _ p3,a6y,show ¬ (17:Int)<0 by omega,if_false,a6z,c8N]
 refine a5m (kk:=0) (off:=0) p3 (row:=[_]) (by rfl) (by rfl) (by simp) (by rfl) fun g4 p4 s4=>?_
 replace p4:g4[q]?=some (.row a0T 1 [[_]]):=p4
 simp only [bs,ld _ _ p4,a0s]
 exact .some ⟨_,rfl,p4,(s2.trans s3).trans s4⟩
theorem b5i (s:Int) (m:Nat) (h1:1≤m) (hm:m≤1000000):∃ v:Nat,v<m∧IntKind.wrap .u64 ((BitVec.ofInt IntKind.u64.bits s &&& BitVec.ofInt IntKind.u64.bits ((m - 1:Nat):Int)).toNat:Int)=(v:Int):=by
 refine ⟨(BitVec.ofInt IntKind.u64.bits s &&& BitVec.ofInt IntKind.u64.bits ((m - 1:Nat):Int)).toNat,?_,b3p _⟩
 rw [BitVec.toNat_and]
 have h2:(BitVec.ofInt IntKind.u64.bits ((m - 1:Nat):Int)).toNat=m - 1:=by
  rw [BitVec.toNat_ofInt]
  have:IntKind.u64.bits=64:=rfl
  rw [this]
  omega
 rw [h2]
 have:=Nat.and_le_right (n:=(BitVec.ofInt IntKind.u64.bits s).toNat) (m:=m - 1)
 omega
theorem c4S {o N:Nat} (hN:N≤60000) {g:Hp} {l:List Pr} (hl:l.length=N) (ho:g[o]?=some (.row a0i 2 (l.map prr))) (a b:Nat) (hab:a+8≤b) (hb:b≤N) (cmp:D) :
  Wp (R b1F [.msl 2 o 0 N,.int .i64 (a:Int),.int .i64 (b:Int),cmp] g) fun p=>∃ l',p.2[o]?=some (.row a0i 2 (l'.map prr))∧Seg a b l l'∧Same o g p.2:=by
 obtain ⟨n,hn⟩:∃ n,n=b - a:=⟨_,rfl⟩
 obtain ⟨k,hk⟩:∃ k,k=n / 4:=⟨_,rfl⟩
 have ho':o<g.length:=(c9d.1 ho).1
 have w1:IntKind.wrap .i64 ((b:Int) - (a:Int))=((n:Nat):Int):=by rw [wrap_i64 (by omega) (by omega)];omega
 have wq:IntKind.wrap .i64 (Int.tdiv (n:Int) 4)=((k:Nat):Int):=by
  rw [show Int.tdiv (n:Int) 4=((n / 4:Nat):Int) from by rw [Int.tdiv_eq_ediv_of_nonneg (by omega)];omega,wrap_i64 (by omega) (by omega)];omega
 have wu:IntKind.wrap .u64 (n:Int)=(n:Int):=a1y (by omega) (by omega)
 have w2:IntKind.wrap .i64 ((k:Int)*2)=((2*k:Nat):Int):=by rw [wrap_i64 (by omega) (by omega)];omega
 have w3:IntKind.wrap .i64 ((a:Int)+((2*k:Nat):Int))=((a+2*k:Nat):Int):=by rw [wrap_i64 (by omega) (by omega)];omega
 have w4:IntKind.wrap .i64 (((a+2*k:Nat):Int) - 1)=((a+2*k - 1:Nat):Int):=by rw [wrap_i64 (by omega) (by omega)];omega
 have w5:IntKind.wrap .i64 (((a+2*k:Nat):Int)+1)=((a+2*k+1:Nat):Int):=by rw [wrap_i64 (by omega) (by omega)];omega
 have g8:decide ((n:Int)≥8)=true:=decide_eq_true (by omega)
 rw [c2F]
 simp only [b8w,bs,a0t,w1,a0S,g8,a0d,if_true,a9r,wu,c8N]
 have q0:(a1h g a0T 1 [[.int .u64 0]])[g.length]?=some (.row a0T 1 [[.int .u64 0]]):=a2j _ _ _ _
 have l0:(a1h g a0T 1 [[.int .u64 0]]).length=g.length+1:=a6R _ _ _ _
 have k0:∀ q,q<g.length→(a1h g a0T 1 [[.int .u64 0]])[q]?=g[q]?:=fun q hq=>a1T _ _ _ _ hq
 refine a5m (kk:=0) (off:=0) q0 (row:=[.int .u64 0]) (by rfl) (by rfl) (by simp) (by rfl) fun g1 p1 s1=>?_
 replace p1:g1[g.length]?=some (.row a0T 1 [[.int .u64 (n:Int)]]):=p1
 obtain ⟨m,em,m1,m2⟩:=c0I n (by omega) (by omega) g1
 have wm:IntKind.wrap .u64 ((m:Int) - 1)=((m - 1:Nat):Int):=by rw [a1y (by omega) (by omega)];omega
 simp only [bs,em,a1D,show ¬ (4:Int)=0 by omega,if_false,wq,a2i,w2,a0k,w3,a0t,w4,c8N]
 refine Wp.loop (fun j ds g'=>∃ x1 x2 x3,∃ i:Nat,∃ s:Int,∃ l',ds=[.int .i64 (i:Int),x1,x2,x3]∧j+i=a+2*k+2∧a+2*k - 1≤i∧g'[o]?=some (.row a0i 2 (l'.map prr))∧g'[g.length]?=some (.row a0T 1 [[.int .u64 s]])∧Seg a b l l'∧Grow g.length o g g')
  (fun r=>r.1 = .ext 0∧∃ l',r.2.2[o]?=some (.row a0i 2 (l'.map prr))∧Seg a b l l'∧Grow g.length o g r.2.2) 3 ⟨_,_,_,a+2*k - 1,(n:Int),l,rfl,by omega,Nat.le_refl _,by rw [s1.2 o (by omega),k0 o ho'];exact ho,p1,.refl _ _ _,by have:=s1.1;omega,fun q hq hne=>by rw [s1.2 q (by omega),k0 q hq]⟩ ?_ ?_
 ·rintro j ds g' ⟨x1,x2,x3,i,s,l',rfl,hj,hi,ho2,hq2,sg,gr⟩
  have hl':=sg.len.trans hl
  have w6:=wi_ i (by omega)
  simp only [a8S,a0e,a0g,bs,a1D,show ¬ (4:Int)=0 by omega,if_false,wq,a2i,w2,a0k,w3,w5,a0Y,c8N]
  refine Wp.dif ?_ ?_
  ·intro h0
   have h0:i≤a+2*k+1:=by
    have:(i:Int)≤((a+2*k+1:Nat):Int):=by simpa using h0
    omega
   refine Wp.bind (c0J hq2) ?_
   rintro ⟨d,g3⟩ ⟨s',hd,hq3,sm3⟩
   simp only at hd hq3 sm3
   subst hd
   obtain ⟨v,hv,ev⟩:=b5i s' m m1 (by omega)
   have wv:IntKind.wrap .i64 (v:Int)=(v:Int):=wrap_i64 (by omega) (by omega)
   have ho3:g3[o]?=some (.row a0i 2 (l'.map prr)):=by rw [sm3.2 o (by omega)];exact ho2
   simp only [bs,a0t,wm,a9s,ev,b1f,wv,a0S,c8N]
   refine Wp.bind (P:=fun r=>r.1 = .nrm∧r.2.2=g3∧∃ w:Nat,r.2.1=[.int .i64 (w:Int)]∧w<n) ?_ ?_
   ·by_cases hvn:v≥n
    ·have d0:decide ((v:Int)≥(n:Int))=true:=decide_eq_true (by omega)
     have w7:IntKind.wrap .i64 ((v:Int) - (n:Int))=((v - n:Nat):Int):=by rw [wrap_i64 (by omega) (by omega)];omega
     simp only [d0,a0d,if_true,a0t,w7,bs]
     exact .some ⟨rfl,rfl,v - n,rfl,by omega⟩
    ·have d0:decide ((v:Int)≥(n:Int))=false:=decide_eq_false (by omega)
     simp only [d0,a0d,c8O,if_false]
     exact .some ⟨rfl,rfl,v,rfl,by omega⟩
   ·rintro ⟨ex,ds2,g4⟩ ⟨rfl,rfl,w,hds,hw⟩
    simp only at hds
    subst hds
    have w8:IntKind.wrap .i64 ((a:Int)+(w:Int))=((a+w:Nat):Int):=by rw [wrap_i64 (by omega) (by omega)];omega
    obtain ⟨x,hx⟩:∃ x,l'[i]?=some x:=⟨_,c9c (by omega)⟩
    obtain ⟨y,hy⟩:∃ y,l'[a+w]?=some y:=⟨_,c9c (by omega)⟩
    simp only [a0j,a0e,a0k,w8,bs,adP (show i<N by omega),adP (show a+w<N by omega),a1r ho3 hx,a1r ho3 hy,c8N]
    refine swP ho3 hx hy fun g5 p5 s5=>?_
    simp only [bs,a0k,w6]
    exact .some (.inl ⟨rfl,j - 1,by omega,_,_,_,i+1,s',_,rfl,by omega,by omega,p5,by rw [s5.2 _ (by omega)];exact hq3,sg.trans (a1O hx hy (by omega) (by omega) (by omega) (by omega)),gr.trans ⟨by show g'.length≤g5.length;have:=s5.1;have:=sm3.1;omega,fun q hq hne=>by show g5[q]?=g'[q]?;rw [s5.2 q hne,sm3.2 q (by omega)]⟩⟩)
  ·intro h0
   exact .some (.inr ⟨by simp,rfl,l',ho2,sg,gr⟩)
 ·rintro ⟨ex,ds,g2⟩ ⟨rfl,l2,p2,sg,gr⟩
  simp only at p2 gr
  simp only [a0o,a1M,bs]
  obtain ⟨e1,e2,e3⟩:=a4g (d:=a0m []) (d':=a0m []) (by rfl) (.tup _ fun d hd=>by cases hd) gr (fun T sz rows hr row hrow d hd=>by
   rw [p2] at hr
   injection hr with hr
   injection hr with _ _ hr
   subst hr
   obtain ⟨x,_,rfl⟩:=c9k.1 hrow
   exact b7n _ x d hd)
  rw [e1]
  exact .some ⟨l2,by rw [e3 o ho'];exact p2,sg,e2⟩
theorem Low.pre {α:Type} {c:α→α→Int} {a m b:Nat} {l l':List α} (h:Low c (m+1) b l) (s:Seg a m l l'):Low c (m+1) b l':=fun i j x y h1 h2 h3 hx hy=>by
 rw [s.out j (by omega)] at hy
 by_cases hi:a≤i∧i<m
 ·exact (AllIn.seg (Q:=fun x=>c x y<0) (fun k z z1 z2 hz=>h k j z y (by omega) h2 h3 hz hy) s) i x hi.1 hi.2 hx
 ·rw [s.out i (by omega)] at hx
  exact h i j x y h1 h2 h3 hx hy
theorem Low.post {α:Type} {c:α→α→Int} {a m p b:Nat} {l l':List α} (h:Low c a m l) (s:Seg p b l l') (hp:a≤p) (hm:m≤p):Low c a m l':=fun i j x y h1 h2 h3 hx hy=>by
 rw [s.out j (by omega)] at hy
 rw [s.out i (by omega)] at hx
 exact h i j x y h1 h2 h3 hx hy
theorem b3g {α:Type} {c:α→α→Int} {l:List α} (h:Srt c 0 l.length l):l.Pairwise fun x y=>¬ c y x<0 :=
 List.pairwise_iff_getElem.2 fun i j hi hj hij=>h i j _ _ (Nat.zero_le _) hij hj (c9c hi) (c9c hj)
theorem c0X {c:Pr→Pr→Int} (od:CmO c) {cmp:D} (hcmp:CmpFP cmp c) {o N:Nat} (hN:N≤1000000) {g:Hp} {l:List Pr} (hl:l.length=N) (ho:g[o]?=some (.row a0i 2 (l.map prr))) (a b:Nat) (hab:a≤b) (hb:b≤N) :
  Wp (R a4W [.msl 2 o 0 N,.int .i64 (a:Int),.int .i64 (b:Int),cmp] g) fun p=>∃ l',p.2[o]?=some (.row a0i 2 (l'.map prr))∧Seg a b l l'∧Srt c a b l'∧Same o g p.2:=by
 have e:=b0c l hab
 rw [← List.append_assoc] at e
 have h1:(l.take a).length=a:=by rw [c9h];omega
 have h2:((l.take b).drop a).length=b - a:=by rw [c9g,c9h];omega
 obtain ⟨⟨d,g'⟩,e1,C,q1,q2,q3,q4⟩:=b6M od.od hcmp (g:=g) (o:=o) (N:=N) (P:=l.take a) (A:=(l.take b).drop a) (Q:=l.drop b) (by omega) (by rw [← e];exact hl) (List.pairwise_of_forall fun _ _=>trivial) (by rw [← e];exact ho) (a:Int) (b:Int) (by rw [h1]) (by rw [h1,h2];omega)
 refine ⟨(d,g'),e1,_,q3,?_,?_,q4⟩
 ·have:=b2W (P:=l.take a) (Q:=l.drop b) q1
  rw [← e,h1,h2,show a+(b - a)=b by omega] at this
  exact this
 ·have:=b5R (c:=c) (P:=l.take a) (Q:=l.drop b) q2
  rw [q1.length_eq,h1,h2,show a+(b - a)=b by omega] at this
  exact this
theorem b5l (wb wp:Bool) (t:Int) (F:D→Option Out):((gd (.bool wb) true (some (.bool wp))).bind fun t70=>(a0K (.bool wb) t70 (.bool false)).bind fun t71=>(gd t71 true (some (.int .i64 t))).bind fun t73=>(gd t71 true (a0f tab .eql a8e t73 (.int .i64 1))).bind fun t74=>(a0K t71 t74 (.bool false)).bind F)=F (.bool (wb&&wp&&decide (t=1))):=by
 cases wb <;> cases wp <;> simp [-bind_some]
theorem c4P {c:Pr→Pr→Int} (od:CmO c) {cmp:D} (hcmp:CmpFP cmp c) {o N:Nat} (hN:N≤60000):∀ (n:Nat) (g:Hp) (l:List Pr) (a b:Nat) (lim:Int),b - a=n→l.length=N→g[o]?=some (.row a0i 2 (l.map prr))→a≤b→b≤N→Low c a b l→Nd c l →
  Wp (R a5H [.msl 2 o 0 N,.int .i64 (a:Int),.int .i64 (b:Int),.int .i64 lim,cmp] g) fun p=>∃ l',p.2[o]?=some (.row a0i 2 (l'.map prr))∧Seg a b l l'∧Srt c a b l'∧Same o g p.2:=by
 intro n
 induction n using Nat.strongRecOn with
 | _ n ih =>
  intro g l a b lim hn hl ho hab hb lw nd
  rw [b9y]
  simp only [b6b,bs,c8N]
  refine Wp.loop (fun k ds g'=>∃ a' b':Nat,∃ lim':Int,∃ wb wp:Bool,∃ x5 x6 x7 x8 x9 y0 y1 y2 y3 y4 y5 y6 y7 y8 y9 z0 z1,∃ l',ds=[.int .i64 (a':Int),.int .i64 (b':Int),.int .i64 lim',.bool wb,.bool wp,x5,x6,x7,x8,x9,y0,y1,y2,y3,y4,y5,y6,y7,y8,y9,z0,z1]∧k=b' - a'∧a≤a'∧a'≤b'∧b'≤b∧g'[o]?=some (.row a0i 2 (l'.map prr))∧Seg a b l l'∧Low c a' b' l'∧Out2 c a b a' b' l'∧Same o g g')
   (fun r=>r.1 = .ret∧∃ l',r.2.2[o]?=some (.row a0i 2 (l'.map prr))∧Seg a b l l'∧Srt c a b l'∧Same o g r.2.2) (b - a)
   ⟨a,b,lim,true,true,_,_,_,_,_,_,_,_,_,_,_,_,_,_,_,_,_,l,rfl,rfl,Nat.le_refl _,hab,Nat.le_refl _,ho,.refl _ _ _,lw,fun i j x y h1 h2 h3 h4=>absurd ⟨h1,h3⟩ h4,.refl _ _⟩ ?_ ?_
  ·rintro k ds g' ⟨a',b',lim',wb,wp,x5,x6,x7,x8,x9,y0,y1,y2,y3,y4,y5,y6,y7,y8,y9,z0,z1,l',rfl,rfl,ha,hab',hbb,ho',sg,lw',out,sm⟩
   have hl':=sg.len.trans hl
   have wlen:IntKind.wrap .i64 ((b':Int) - (a':Int))=((b' - a':Nat):Int):=by rw [wrap_i64 (by omega) (by omega)];omega
   simp only [a5Z,a0e,a0g,bs,c8N,a0t,wlen,a0Y]
   by_cases h12:b' - a'≤12
   ·have d0:decide (((b' - a':Nat):Int)≤12)=true:=decide_eq_true (by omega)
    simp only [d0,a0d,if_true,bs,c8N]
    refine Wp.bind (c0X od hcmp (by omega) hl' ho' a' b' hab' (by omega)) ?_
    rintro ⟨d,g2⟩ ⟨l2,p2,s2,st2,m2⟩
    exact .some (.inr ⟨by simp,rfl,l2,p2,sg.trans (s2.mono ha hbb),(out.seg s2 ha hbb).all st2,sm.trans m2⟩)
   ·have d0:decide (((b' - a':Nat):Int)≤12)=false:=decide_eq_false (by omega)
    simp only [d0,a0d,c8O,if_false,bs,a0Q,c8N]
    by_cases hlim:lim'=0
    ·simp only [hlim,decide_true,a0d,if_true,bs,c8N]
     refine Wp.bind (c4R od hcmp (by omega) hl' ho' a' b' (by omega) (by omega)) ?_
     rintro ⟨d,g2⟩ ⟨l2,p2,s2,st2,m2⟩
     exact .some (.inr ⟨by simp,rfl,l2,p2,sg.trans (s2.mono ha hbb),(out.seg s2 ha hbb).all st2,sm.trans m2⟩)
    ·simp only [hlim,decide_false,a0d,c8O,if_false,bs,a1f,c8N]
     refine Wp.bind (P:=fun r=>r.1 = .nrm∧∃ (lim2:Int) (l2:List Pr),r.2.1=[.int .i64 lim2]∧r.2.2[o]?=some (.row a0i 2 (l2.map prr))∧Seg a' b' l' l2∧Same o g' r.2.2) ?_ ?_
     ·cases wb with
      | true =>
       simp only [c8X,a0d,c8O,if_false]
       exact .some ⟨rfl,lim',l',rfl,ho',.refl _ _ _,.refl _ _⟩
      | false =>
       simp only [c8Y,a0d,if_true]
       refine Wp.bind (c4S hN hl' ho' a' b' (by omega) (by omega) cmp) ?_
       rintro ⟨d,g2⟩ ⟨l2,p2,s2,m2⟩
       simp only [a0t,bs]
       exact .some ⟨rfl,_,l2,rfl,p2,s2,m2⟩
     ·rintro ⟨ex,ds1,g2⟩ ⟨rfl,lim2,l2,hds,p2,s2,m2⟩
      simp only at hds p2 m2
      subst hds
      have hl2:=s2.len.trans hl'
      obtain ⟨pv,t,e35,pv1,pv2⟩:=c4T hcmp (by omega) hl2 p2 a' b' (by omega) (by omega)
      simp only [a0j,a0e,a0g,e35,bs,a0H,c8Q,c8R,a0Q,c8N]
      refine Wp.bind (P:=fun r=>r.1 = .nrm∧∃ (pv:Nat) (t:Int) (l3:List Pr),r.2.1=[.int .i64 (pv:Int),.int .i64 t]∧a'≤pv∧pv<b'∧r.2.2[o]?=some (.row a0i 2 (l3.map prr))∧Seg a' b' l2 l3∧Same o g2 r.2.2) ?_ ?_
      ·by_cases h2:t=2
       ·have w1:IntKind.wrap .i64 ((b':Int) - 1)=((b' - 1:Nat):Int):=by rw [wrap_i64 (by omega) (by omega)];omega
        have w2:IntKind.wrap .i64 ((pv:Int) - (a':Int))=((pv - a':Nat):Int):=by rw [wrap_i64 (by omega) (by omega)];omega
        have w3:IntKind.wrap .i64 (((b' - 1:Nat):Int) - ((pv - a':Nat):Int))=((b' - 1 - (pv - a'):Nat):Int):=by rw [wrap_i64 (by omega) (by omega)];omega
        simp only [h2,decide_true,a0d,if_true]
        refine Wp.bind (c4U (by omega) hl2 p2 a' b' (by omega) (by omega) cmp) ?_
        rintro ⟨d,g3⟩ ⟨l3,p3,s3,m3⟩
        simp only [a0t,w1,w2,w3,bs]
        exact .some ⟨rfl,b' - 1 - (pv - a'),1,l3,rfl,by omega,by omega,p3,s3,m3⟩
       ·simp only [h2,decide_false,a0d,c8O,if_false]
        exact .some ⟨rfl,pv,t,l2,rfl,pv1,pv2,p2,.refl _ _ _,.refl _ _⟩
      ·rintro ⟨ex,ds2,g3⟩ ⟨rfl,pv,t,l3,hds,pv1,pv2,p3,s3,m3⟩
       simp only at hds p3 m3
       subst hds
       have hl3:=s3.len.trans hl2
       simp only [a0j,a0e,a0g,b5l,c8N]
       refine Wp.bind (P:=fun r=>(r.1 = .nrm∧∃ x l4,r.2.1=[x]∧r.2.2[o]?=some (.row a0i 2 (l4.map prr))∧Seg a' b' l3 l4∧Same o g3 r.2.2)∨(r.1 = .ret∧∃ x l4,r.2.1=[x]∧r.2.2[o]?=some (.row a0i 2 (l4.map prr))∧Seg a' b' l3 l4∧Srt c a' b' l4∧Same o g3 r.2.2)) ?_ ?_
       ·cases (wb&&wp&&decide (t=1)) with
        | false =>
         simp only [a0d,c8O,if_false]
         exact .some (.inl ⟨rfl,_,l3,rfl,p3,.refl _ _ _,.refl _ _⟩)
        | true =>
         simp only [a0d,if_true]
         refine Wp.bind (c4V od hcmp (by omega) hl3 p3 a' b' (by omega) (by omega) (lw'.seg (s2.trans s3))) ?_
         rintro ⟨d,g4⟩ ⟨bb,l4,hd,p4,s4,st4,m4⟩
         simp only at hd p4 m4
         subst hd
         cases bb with
         | true =>
          simp only [a0d,if_true]
          exact .some (.inr ⟨rfl,_,l4,rfl,p4,s4,st4 rfl,m4⟩)
         | false =>
          simp only [a0d,c8O,if_false]
          exact .some (.inl ⟨rfl,_,l4,rfl,p4,s4,m4⟩)
       ·rintro ⟨ex,ds3,g4⟩ (⟨rfl,x,l4,hds,p4,s4,m4⟩ | ⟨rfl,x,l4,hds,p4,s4,st4,m4⟩)
        ·simp only at hds p4 m4
         subst hds
         have hl4:=s4.len.trans hl3
         have sgA:=(s2.trans s3).trans s4
         have lw4:=lw'.seg sgA
         obtain ⟨v,hv⟩:∃ v,l4[pv]?=some v:=⟨_,c9c (by omega)⟩
         have h0:decide ((a':Int)>0)=false∨(decide ((a':Int)>0)=true∧∃ u,l4[a' - 1]?=some u∧c u v<0∧IntKind.wrap .i64 ((a':Int) - 1)=((a' - 1:Nat):Int)∧a' - 1<N):=by
          by_cases hh:0<a'
          ·obtain ⟨u,hu⟩:∃ u,l4[a' - 1]?=some u:=⟨_,c9c (by omega)⟩
           exact .inr ⟨decide_eq_true (by omega),u,hu,lw4 (a' - 1) pv u v (by omega) pv1 pv2 hu hv,by rw [wrap_i64 (by omega) (by omega)];omega,by omega⟩
          ·exact .inl (decide_eq_false (by omega))
         simp only [a0j,a0e,a0g,a1e]
         rcases h0 with dg | ⟨dg,u,hu,hcu,wa,hlt⟩
         all_goals
          simp only [dg,a0x,a0F,a1a,reduceCtorEq,c8O,if_false,if_true,bs,a0t,a0n,a0d,c8N]
          try simp only [wa,adP hlt,adP (show pv<N by omega),a1r p4 hu,a1r p4 hv,hcmp.ap,a0q,hcu,decide_true,a1f,c8X,bs,a0n,a0d,c8O,if_false,if_true,c8N]
          refine Wp.bind (c4W od hcmp (by omega) hl4 p4 a' b' pv (by omega) pv1 pv2) ?_
          rintro ⟨d,g5⟩ ⟨m,dd,l5,hd,p5,s5,pt,m5⟩
          simp only at hd p5 m5
          subst hd
          have hl5:=s5.len.trans hl4
          have pl:=pt.lo
          have ph:=pt.hi
          have sgB:=sgA.trans s5
          have sg5:=sg.trans (sgB.mono ha hbb)
          have lw5:=lw'.seg sgB
          have out5:=out.seg sgB ha hbb
          have nd5:Nd c l5:=nd.pm sg5.pm
          have sm5:=(((sm.trans m2).trans m3).trans m4).trans m5
          have w6:IntKind.wrap .i64 ((m:Int) - (a':Int))=((m - a':Nat):Int):=by rw [wrap_i64 (by omega) (by omega)];omega
          have w7:IntKind.wrap .i64 ((b':Int) - (m:Int))=((b' - m:Nat):Int):=by rw [wrap_i64 (by omega) (by omega)];omega
          have w8:=wi_ m (by omega)
          simp only [bs,a0H,c8Q,c8R,a0t,w6,w7,a1D,show ¬ (8:Int)=0 by omega,if_false,a0q,c8N]
          by_cases hlr:m - a'<b' - m
          ·have d2:decide (((m - a':Nat):Int)<((b' - m:Nat):Int))=true:=decide_eq_true (by omega)
           simp only [d2,a0d,if_true,a0S,bs,c8N]
           refine Wp.bind (ih (m - a') (by omega) g5 l5 a' m lim2 rfl hl5 p5 pl (by omega) (lw5.lft pt) nd5) ?_
           rintro ⟨d,g6⟩ ⟨l6,p6,s6,st6,m6⟩
           simp only [bs,a0k,w8,a0L,a0e,a0g]
           exact .some (.inl ⟨rfl,b' - (m+1),by omega,m+1,b',lim2,_,dd,_,_,_,_,_,_,_,_,_,_,_,_,_,_,_,_,_,l6,rfl,rfl,by omega,by omega,hbb,p6,sg5.trans (s6.mono ha (by omega)),(lw5.rgt od pt nd5 (by omega)).pre s6,out5.left od pt (by omega) s6 st6 ha hbb,sm5.trans m6⟩)
          ·have d2:decide (((m - a':Nat):Int)<((b' - m:Nat):Int))=false:=decide_eq_false (by omega)
           simp only [d2,a0d,c8O,if_false,a0S,a0k,w8,bs,c8N]
           refine Wp.bind (ih (b' - (m+1)) (by omega) g5 l5 (m+1) b' lim2 rfl hl5 p5 (by omega) (by omega) (lw5.rgt od pt nd5 (by omega)) nd5) ?_
           rintro ⟨d,g6⟩ ⟨l6,p6,s6,st6,m6⟩
           simp only [bs,a0L,a0e,a0g]
           exact .some (.inl ⟨rfl,m - a',by omega,a',m,lim2,_,dd,_,_,_,_,_,_,_,_,_,_,_,_,_,_,_,_,_,l6,rfl,rfl,ha,pl,by omega,p6,sg5.trans (s6.mono (by omega) hbb),(lw5.lft pt).post s6 (by omega) (by omega),out5.right od pt (by omega) s6 st6 ha hbb,sm5.trans m6⟩)
        ·simp only at hds p4 m4
         subst hds
         have sgA:=(s2.trans s3).trans s4
         simp only [a1n,a0U,a0e,a0g,bs]
         exact .some (.inr ⟨by simp,rfl,l4,p4,sg.trans (sgA.mono ha hbb),(out.seg sgA ha hbb).all st4,((sm.trans m2).trans m3).trans m4⟩)
  ·rintro ⟨ex,ds,g'⟩ ⟨rfl,l',h1,h2,h3,h4⟩
   simp only [a0U,a1i]
   exact .some ⟨l',h1,h2,h3,h4⟩
theorem c4N {c:Pr→Pr→Int} (od:CmO c) {cmp:D} (hcmp:CmpFP cmp c) {o N:Nat} (hN:N≤60000) {g:Hp} {l:List Pr} (hl:l.length=N) (ho:g[o]?=some (.row a0i 2 (l.map prr))) (nd:Nd c l) :
  Wp (R a5F [.msl 2 o 0 N,cmp] g) fun p=>∃ C:List Pr,C.Perm l∧(C.Pairwise fun x y=>¬ c y x<0)∧p.2[o]?=some (.row a0i 2 (C.map prr))∧Same o g p.2:=by
 have wu:IntKind.wrap .u64 (N:Int)=(N:Int):=a1y (by omega) (by omega)
 obtain ⟨k,ek,_⟩:=b2V N (by omega) g
 rw [b9w]
 simp only [b5Z,a9O,bs,a4L,wu,ek]
 refine Wp.bind (c4P od hcmp hN N g l 0 N (k:Int) (by omega) hl ho (by omega) (Nat.le_refl _) (fun i j x y h1=>by omega) nd) ?_
 rintro ⟨d,g'⟩ ⟨l',h1,h2,h3,h4⟩
 exact .some ⟨l',h2.pm,b3g (by rw [h2.len,hl];exact h3),h1,h4⟩
theorem c0G (d cmp:D) (h:Hp) (hd:SlOf 2 prr [] d):∃ x,R a5F [d,cmp] h=some (x,h):=by
 have hl:a0B tab a0v d=some (.int .i64 0):=b4z hd
 have h65:∃ x,R a4W [d,.int .i64 0,.int .i64 0,cmp] h=some (x,h):=by
  rw [b9A]
  refine ⟨a0m [],?_⟩
  simp only [b6d,bs,c8N,a0k,show IntKind.wrap .i64 ((0:Int)+1)=1 from rfl]
  rw [a1w]
  simp [-bind_some, a6b]
 obtain ⟨x,h65⟩:=h65
 obtain ⟨k,ek,_⟩:=b2V 0 (by omega) h
 have ek:R a4V [.int .u64 0] h=some (.int .i64 (k:Int),h):=ek
 have h63:∃ y,R a5H [d,.int .i64 0,.int .i64 0,.int .i64 (k:Int),cmp] h=some (y,h):=by
  rw [b9y]
  refine ⟨a0m [],?_⟩
  simp only [b6b,bs,c8N]
  rw [a1w]
  simp only [a5Z,a0e,a0g,bs,a0t,show IntKind.wrap .i64 ((0:Int) - 0)=0 from rfl,a0Y,show decide ((0:Int)≤12)=true from rfl,a0d,if_true,h65,a0U,a1i]
 obtain ⟨y,h63⟩:=h63
 refine ⟨a0m [],?_⟩
 rw [b9w]
 simp only [b5Z,bs,hl,a4L,show IntKind.wrap .u64 (0:Int)=0 from rfl,ek,h63]
structure Kd where
 e:Ev
 v:Str
 ix:Int
def kdr (p:Kd):List D:=evr p.e++[.str p.v,.int .i64 p.ix]
theorem a6M (p:Kd):(D.agg (kdr p)).okv=true:=by
 have h:=b1v p.e
 simp only [D.okv,kdr,List.all_append,Bool.and_eq_true] at h ⊢
 try exact ⟨h,rfl⟩
theorem b2h (n:Nat) (p:Kd):∀ d∈kdr p,Ok n d:=fun d hd=>by
 rcases c9j.1 hd with hd | hd
 ·exact a5z n p.e d hd
 ·simp only [c9i,List.not_mem_nil,or_false] at hd
  rcases hd with rfl | rfl
  ·exact .str _
  ·exact .int _ _
theorem b5B {h:Hp} {q k T z:Nat} {rows:List (List D)} {p:Kd} (hq:h[q]?=some (.row T z rows)) (hk:rows[k]?=some (kdr p)):a0c tab h a0h (.ptr q k 0)=some (.agg (kdr p)):=by
 rw [b2j,a1A hq,hk]
 rfl
theorem c3T (c:Kd→Kd→Int) (cmp:D) (hc:∀ x y g,a1B R cmp [.agg (kdr x),.agg (kdr y)] g=some (.int .i64 (c x y),g)) (ob N a:Nat) (hN:N≤1000000000) {β:Type} {K:Out→Option β} {Q:β→Prop}
  (l:List Kd) (hl:l.length=N) (j:Nat) (hj:j<N) (h:Hp) (ho:h[ob]?=some (.row a0h 12 (l.map kdr))) (b:D)
  (k:∀ x y h',h'[ob]?=some (.row a0h 12 ((dn c a j l).map kdr))→Same ob h h'→Wp (K (.ext 2,[x,y],h')) Q) :
  Wp ((a0z (a6l (.msl 12 ob 0 N) (.int .i64 a) cmp) [.int .i64 j,b] h).bind K) Q:=by
 generalize hV:dn c a j l=V at k
 refine Wp.loop (fun n ds g=>∃ b,∃ j:Nat,∃ l':List Kd,n=j∧ds=[.int .i64 j,b]∧l'.length=N∧j<N∧g[ob]?=some (.row a0h 12 (l'.map kdr))∧Same ob h g∧dn c a j l'=V)
  (fun r=>r.1 = .ext 2∧(∃ x y,r.2.1=[x,y])∧r.2.2[ob]?=some (.row a0h 12 (V.map kdr))∧Same ob h r.2.2) j ⟨b,j,l,rfl,rfl,hl,hj,ho,.refl _ _,hV⟩ ?_ ?_
 ·clear ho hl hj hV l j
  rintro n ds g ⟨b,j,l,rfl,rfl,hl,hj,ho,sm,hV⟩
  simp only [a6l,a0e,a0g,bs,c8N,a1e]
  cases n with
  | zero =>
   have hq:¬ (a:Int)<((0:Nat):Int):=by omega
   have hV:l=V:=hV
   subst hV
   simp only [hq,decide_false,a0x,a0F,c8O,if_false,reduceCtorEq,bs,a0n,a0d]
   exact .some (.inr ⟨by simp,rfl,⟨_,_,rfl⟩,ho,sm⟩)
  | succ j =>
   have g1:l[j+1]?=some l[j+1]:=c9c (by omega)
   have g0:l[j]?=some l[j]:=c9c (by omega)
   unfold dn at hV
   rw [g1,g0] at hV
   simp only at hV
   generalize l[j+1]=x at g1 hV
   generalize l[j]=y at g0 hV
   by_cases ha:a<j+1
   ·have ha':(a:Int)<((j+1:Nat):Int):=by omega
    have hw:IntKind.wrap .i64 (((j+1:Nat):Int) - 1)=(j:Int):=by
     rw [wrap_i64 (by omega) (by omega)];omega
    have i1:(0:Int)≤((j+1:Nat):Int)∧((j+1:Nat):Int)<(N:Int):=by omega
    have i0:(0:Int)≤(j:Int)∧(j:Int)<(N:Int):=by omega
    have m1:(l.map kdr)[j+1]?=some (kdr x):=by rw [c9a,g1];rfl
    have m0:(l.map kdr)[j]?=some (kdr y):=by rw [c9a,g0];rfl
    simp only [ha',decide_true,a0x,a0F,if_true,b2e,i1,i0,and_self,Nat.zero_add,c8W,a0t,hw,bs,b5B ho m1,b5B ho m0,hc,a0q,a0n]
    by_cases hlt:c x y<0
    ·rw [if_pos ⟨ha,hlt⟩] at hV
     simp only [hlt,decide_true,a0d,if_true]
     refine a7d ho m1 (by rfl) (by simp [-bind_some, kdr,evr]) (a6M _) fun g2 p2 s2=>?_
     rw [show spl (kdr x) 0 (a0A (.agg (kdr y)))=kdr y from id rfl,a2L] at p2
     have m2:((l.set (j+1) y).map kdr)[j]?=some (kdr y):=by
      rw [c9a,c9m (by omega),g0];rfl
     try simp only [bs,i0,and_self,if_true,Nat.zero_add,c8W]
     refine a7d p2 m2 (by rfl) (by simp [-bind_some, kdr,evr]) (a6M _) fun g3 p3 s3=>?_
     rw [show spl (kdr y) 0 (a0A (.agg (kdr x)))=kdr x from id rfl,a2L] at p3
     try simp only [bs]
     exact .some (.inl ⟨rfl,j,by omega,_,j,_,rfl,rfl,by simpa using hl,by omega,p3,(sm.trans s2).trans s3,hV⟩)
    ·rw [if_neg (fun hh=>hlt hh.2)] at hV
     subst hV
     simp only [hlt,decide_false,a0d,c8O,if_false]
     exact .some (.inr ⟨by simp,rfl,⟨_,_,rfl⟩,ho,sm⟩)
   ·rw [if_neg (fun hh=>ha hh.1)] at hV
    subst hV
    have ha':¬ (a:Int)<((j+1:Nat):Int):=by omega
    simp only [ha',decide_false,a0x,a0F,c8O,if_false,reduceCtorEq,bs,a0n,a0d]
    exact .some (.inr ⟨by simp,rfl,⟨_,_,rfl⟩,ho,sm⟩)
 ·rintro ⟨x,ds,g⟩ ⟨rfl,⟨u,v,rfl⟩,h1,h2⟩
  exact k u v g h1 h2
theorem c4r (c:Kd→Kd→Int) (cmp:D) (hc:∀ x y g,a1B R cmp [.agg (kdr x),.agg (kdr y)] g=some (.int .i64 (c x y),g)) (ob N a b:Nat) (hN:N≤1000000000) (hab:a<b∨(a=b∧b≤N)) (hb:b≤N)
  (l:List Kd) (hl:l.length=N) (h:Hp) (ho:h[ob]?=some (.row a0h 12 (l.map kdr))) :
  ∃ d h',R a4X [.msl 12 ob 0 N,.int .i64 a,.int .i64 b,cmp] h=some (d,h')∧h'[ob]?=some (.row a0h 12 ((isr c a (a+1) (b - (a+1)) l).map kdr))∧Same ob h h':=by
 suffices Wp (R a4X [.msl 12 ob 0 N,.int .i64 a,.int .i64 b,cmp] h) (fun p=>p.2[ob]?=some (.row a0h 12 ((isr c a (a+1) (b - (a+1)) l).map kdr))∧Same ob h p.2) by
  obtain ⟨⟨x,h'⟩,h1,h2⟩:=this
  exact ⟨x,h',h1,h2⟩
 rw [b9B]
 have hw:=wi_ a (by omega)
 simp only [b6e,bs,c8N,a0k,hw]
 generalize hV:isr c a (a+1) (b - (a+1)) l=V
 refine Wp.loop (fun n ds g=>∃ u v w,∃ i:Nat,∃ l':List Kd,ds=[.int .i64 i,u,v,w]∧n=b - i∧l'.length=N∧g[ob]?=some (.row a0h 12 (l'.map kdr))∧Same ob h g∧isr c a i (b - i) l'=V)
  (fun r=>r.1 = .ext 0∧r.2.2[ob]?=some (.row a0h 12 (V.map kdr))∧Same ob h r.2.2) (b - (a+1)) ⟨_,_,_,a+1,l,rfl,rfl,hl,ho,.refl _ _,hV⟩ ?_ ?_
 ·rintro n ds g ⟨u,v,w,i,l',rfl,rfl,hl',ho',sm,hV⟩
  simp only [a6k,a0e,a0g,bs,c8N,a0q]
  refine Wp.dif ?_ ?_
  ·intro h0
   have h0:i<b:=by
    have:(i:Int)<(b:Int):=by simpa using h0
    omega
   have hb1:b - i=(b - (i+1))+1:=by omega
   rw [hb1] at hV
   unfold isr at hV
   have hw2:=wi_ i (by omega)
   refine c3T c cmp hc ob N a hN l' hl' i (by omega) g ho' _ fun x y g2 p2 s2=>?_
   simp only [a0o,a0L,a0j,bs,a0e,a0k,hw2]
   exact .some (.inl ⟨rfl,b - (i+1),by omega,_,_,_,i+1,_,rfl,rfl,by rw [b1j];exact hl',p2,sm.trans s2,hV⟩)
  ·intro h0
   have h0:¬ i<b:=by
    have:¬ (i:Int)<(b:Int):=by simpa using h0
    omega
   rw [show b - i=0 by omega] at hV
   have hV:l'=V:=hV
   subst hV
   exact .some (.inr ⟨by simp,rfl,ho',sm⟩)
 ·rintro ⟨x,ds,g⟩ ⟨rfl,h1,h2⟩
  simp only [a0o,a1M,bs]
  exact .some ⟨h1,h2⟩
theorem a1s {g:Hp} {o n:Nat} {rows:List Kd} {p:Kd} (ho:g[o]?=some (.row a0h 12 (rows.map kdr))) (hp:rows[n]?=some p):a0c tab g a0h (.ptr o n 0)=some (.agg (kdr p)):=by
 have hr:(rows.map kdr)[n]?=some (kdr p):=by rw [c9a,hp];rfl
 rw [b2j,a1A ho,hr]
 rfl
def CmpFY (cmp:D) (c:Kd→Kd→Int):Prop:=∀ x y g,a1B R cmp [.agg (kdr x),.agg (kdr y)] g=some (.int .i64 (c x y),g)
theorem b6N {c:Kd→Kd→Int} {S Pre:Kd→Kd→Prop} (od:SOrd c S Pre) {cmp:D} (hcmp:CmpFY cmp c) {o N:Nat} (hN:N≤1000000000) {g:Hp} {P A Q:List Kd} (hlen:(P++A++Q).length=N) (hA:A.Pairwise Pre)
  (ho:g[o]?=some (.row a0h 12 ((P++A++Q).map kdr))) (a b:Int) (ha:a=P.length) (hb:b=(P.length+A.length:Nat)) :
  Wp (R a4X [.msl 12 o 0 N,.int .i64 a,.int .i64 b,cmp] g) fun p=>∃ C:List Kd,C.Perm A∧C.Pairwise S∧p.2[o]?=some (.row a0h 12 ((P++C++Q).map kdr))∧Same o g p.2:=by
 subst ha hb
 have hl:=hlen
 simp only [c8S] at hl
 obtain ⟨d,h',e,p1,s1⟩:=c4r c cmp hcmp o N P.length (P.length+A.length) hN (by omega) (by omega) _ hlen g ho
 refine ⟨(d,h'),e,?_⟩
 cases A with
 | nil =>
  refine ⟨[],by simp,List.Pairwise.nil,?_,s1⟩
  rw [p1]
  simp [-bind_some, isr]
 | cons x A =>
  obtain ⟨C,q1,q2,q3⟩:=b2d od P Q A [x] (by simp) (fun u hu v hv=>by simp at hu;subst hu;exact (List.pairwise_cons.1 hA).1 v hv) (List.pairwise_cons.1 hA).2
  refine ⟨C,q2,q3,?_,s1⟩
  rw [p1]
  have e1:P.length+(x::A).length - (P.length+1)=A.length:=by simp;omega
  rw [e1]
  have e2:P++x::A++Q=P++[x]++A++Q:=by simp
  rw [e2]
  exact congrArg (fun z:List Kd=>some (Ob.row a0h 12 (z.map kdr))) q1
theorem CmpFY.ap {cmp:D} {c:Kd→Kd→Int} (h:CmpFY cmp c) (x y:Kd) (g:Hp):a1B R cmp [.agg (kdr x),.agg (kdr y)] g=some (.int .i64 (c x y),g):=h x y g
theorem adY {N i:Nat} (h:i<N) (o:Nat):a0a tab a0u (.msl 12 o 0 N) (.int .i64 (i:Int))=some (.ptr o i 0):=by
 rw [b2e,if_pos (by omega)];simp [-bind_some]
theorem swY {g:Hp} {o i j:Nat} {l:List Kd} {x y:Kd} (ho:g[o]?=some (.row a0h 12 (l.map kdr))) (hi:l[i]?=some x) (hj:l[j]?=some y) {β:Type} {f:Hp→Option β} {Q:β→Prop}
  (k:∀ g',g'[o]?=some (.row a0h 12 (((l.set i y).set j x).map kdr))→Same o g g'→Wp (f g') Q) :
  Wp ((a0p tab g a0h (.ptr o i 0) (.agg (kdr y))).bind fun h'=>(a0p tab h' a0h (.ptr o j 0) (.agg (kdr x))).bind f) Q:=by
 have mi:(l.map kdr)[i]?=some (kdr x):=by rw [c9a,hi];rfl
 have sp:∀ a b:Kd,spl (kdr a) 0 (a0A (.agg (kdr b)))=kdr b:=fun a b=>id rfl
 refine a7d (off:=0) ho mi (by rfl) (by simp [-bind_some, kdr,evr]) (a6M _) fun g2 p2 s2=>?_
 rw [sp,← List.map_set] at p2
 obtain ⟨z,hz⟩:∃ z,(l.set i y)[j]?=some z:=⟨_,c9c (by have:=(c9d.1 hj).1;simpa using this)⟩
 have mj:((l.set i y).map kdr)[j]?=some (kdr z):=by rw [c9a,hz];rfl
 refine a7d (off:=0) p2 mj (by rfl) (by simp [-bind_some, kdr,evr]) (a6M _) fun g3 p3 s3=>?_
 rw [sp,← List.map_set] at p3
 exact k g3 p3 (s2.trans s3)
theorem b7I {c:Kd→Kd→Int} {cmp:D} (hcmp:CmpFY cmp c) {o N:Nat} {g:Hp} {l:List Kd} (hl:l.length=N) (ho:g[o]?=some (.row a0h 12 (l.map kdr))) (a b:Nat) (ha:a<N) (hb:b<N) (q:Nat) (s:Int) (hq:g[q]?=some (.row ty3 1 [[.int .i64 s]])) :
  ∃ (x y:Nat) (s':Int) (g':Hp),R a5K [.msl 12 o 0 N,.int .i64 (a:Int),.int .i64 (b:Int),.ptr q 0 0,cmp] g=some (.tup [.int .i64 (x:Int),.int .i64 (y:Int)],g')∧((x=a∧y=b)∨(x=b∧y=a))∧g'[q]?=some (.row ty3 1 [[.int .i64 s']])∧Same q g g':=by
 suffices Wp (R a5K [.msl 12 o 0 N,.int .i64 (a:Int),.int .i64 (b:Int),.ptr q 0 0,cmp] g) (fun p=>∃ (x y:Nat) (s':Int),p.1 = .tup [.int .i64 (x:Int),.int .i64 (y:Int)]∧((x=a∧y=b)∨(x=b∧y=a))∧p.2[q]?=some (.row ty3 1 [[.int .i64 s']])∧Same q g p.2) by
  obtain ⟨⟨d,g'⟩,h1,x,y,s',rfl,h2⟩:=this
  exact ⟨x,y,s',g',h1,h2⟩
 obtain ⟨u,hu⟩:∃ u,l[a]?=some u:=⟨_,c9c (by omega)⟩
 obtain ⟨v,hv⟩:∃ v,l[b]?=some v:=⟨_,c9c (by omega)⟩
 have lq:a0c tab g ty3 (.ptr q 0 0)=some (.int .i64 s):=by rw [c1O,a1A hq];rfl
 rw [c2Z]
 simp only [b8Q,adY ha,adY hb,a1s ho hu,a1s ho hv,bs,hcmp.ap,a0q,c8N]
 by_cases hc:c v u<0
 ·simp only [hc,decide_true,a0d,if_true,a2W,bs,lq,a0k,c8N]
  refine b8f (kk:=0) (off:=0) hq (row:=[.int .i64 s]) (by rfl) (by rfl) (by simp) (by rfl) fun g2 p2 s2=>?_
  simp only [bs,a0G]
  exact .some ⟨b,a,_,rfl,.inr ⟨rfl,rfl⟩,p2,s2⟩
 ·simp only [hc,decide_false,a0d,c8O,if_false,a0G]
  exact .some ⟨a,b,s,rfl,.inl ⟨rfl,rfl⟩,hq,.refl _ _⟩
theorem c1q {c:Kd→Kd→Int} {cmp:D} (hcmp:CmpFY cmp c) {o N:Nat} {g:Hp} {l:List Kd} (hl:l.length=N) (ho:g[o]?=some (.row a0h 12 (l.map kdr))) (a b d:Nat) (ha:a<N) (hb:b<N) (hd:d<N) (q:Nat) (s:Int) (hq:g[q]?=some (.row ty3 1 [[.int .i64 s]])) (hqo:o≠q) :
  ∃ (m:Nat) (s':Int) (g':Hp),R a9K [.msl 12 o 0 N,.int .i64 (a:Int),.int .i64 (b:Int),.int .i64 (d:Int),.ptr q 0 0,cmp] g=some (.int .i64 (m:Int),g')∧(m=a∨m=b∨m=d)∧g'[q]?=some (.row ty3 1 [[.int .i64 s']])∧Same q g g':=by
 obtain ⟨x1,y1,s1,g1,e1,h1,q1,m1⟩:=b7I hcmp hl ho a b ha hb q s hq
 have ho1:g1[o]?=some (.row a0h 12 (l.map kdr)):=by rw [m1.2 o hqo];exact ho
 obtain ⟨x2,y2,s2,g2,e2,h2,q2,m2⟩:=b7I hcmp hl ho1 y1 d (by omega) hd q s1 q1
 have ho2:g2[o]?=some (.row a0h 12 (l.map kdr)):=by rw [m2.2 o hqo];exact ho1
 obtain ⟨x3,y3,s3,g3,e3,h3,q3,m3⟩:=b7I hcmp hl ho2 x1 x2 (by omega) (by omega) q s2 q2
 refine ⟨y3,s3,g3,?_,by omega,q3,(m1.trans m2).trans m3⟩
 rw [c2X]
 simp only [b8O,e1,e2,e3,bs,a0H,c8Q,c8R,a0s]
theorem b7G {c:Kd→Kd→Int} {cmp:D} (hcmp:CmpFY cmp c) {o N:Nat} (hN:N≤1000000) {g:Hp} {l:List Kd} (hl:l.length=N) (ho:g[o]?=some (.row a0h 12 (l.map kdr))) (a:Nat) (h0:1≤a) (ha:a+1<N) (q:Nat) (s:Int) (hq:g[q]?=some (.row ty3 1 [[.int .i64 s]])) (hqo:o≠q) :
  ∃ (m:Nat) (s':Int) (g':Hp),R a7E [.msl 12 o 0 N,.int .i64 (a:Int),.ptr q 0 0,cmp] g=some (.int .i64 (m:Int),g')∧(a≤m+1∧m≤a+1)∧g'[q]?=some (.row ty3 1 [[.int .i64 s']])∧Same q g g':=by
 obtain ⟨m,s',g',e,h1,h2⟩:=c1q hcmp hl ho (a - 1) a (a+1) (by omega) (by omega) ha q s hq hqo
 have w1:IntKind.wrap .i64 ((a:Int) - 1)=((a - 1:Nat):Int):=by rw [wrap_i64 (by omega) (by omega)];omega
 have w2:=wi_ a (by omega)
 refine ⟨m,s',g',?_,by omega,h2⟩
 rw [c2W]
 simp only [b8N,bs,a0t,a0k,w1,w2,e,a0s]
theorem c4Z {c:Kd→Kd→Int} {cmp:D} (hcmp:CmpFY cmp c) {o N:Nat} (hN:N≤1000000) {g:Hp} {l:List Kd} (hl:l.length=N) (ho:g[o]?=some (.row a0h 12 (l.map kdr))) (a b:Nat) (hab:a+8≤b) (hb:b≤N) :
  ∃ (p:Nat) (t:Int),R a9E [.msl 12 o 0 N,.int .i64 (a:Int),.int .i64 (b:Int),cmp] g=some (.tup [.int .i64 (p:Int),.int .i64 t],g)∧a≤p∧p<b:=by
 suffices Wp (R a9E [.msl 12 o 0 N,.int .i64 (a:Int),.int .i64 (b:Int),cmp] g) (fun r=>∃ (p:Nat) (t:Int),r=(.tup [.int .i64 (p:Int),.int .i64 t],g)∧a≤p∧p<b) by
  obtain ⟨r,h1,p,t,rfl,h2⟩:=this
  exact ⟨p,t,h1,h2⟩
 obtain ⟨n,hn⟩:∃ n,n=b - a:=⟨_,rfl⟩
 have w1:IntKind.wrap .i64 ((b:Int) - (a:Int))=((n:Nat):Int):=by rw [wrap_i64 (by omega) (by omega)];omega
 obtain ⟨k,hk⟩:∃ k,k=n / 4:=⟨_,rfl⟩
 have wq:IntKind.wrap .i64 (Int.tdiv (n:Int) 4)=((k:Nat):Int):=by
  rw [show Int.tdiv (n:Int) 4=((n / 4:Nat):Int) from by rw [Int.tdiv_eq_ediv_of_nonneg (by omega)];omega,wrap_i64 (by omega) (by omega)];omega
 have wa:∀ m:Nat,m≤3→IntKind.wrap .i64 ((a:Int)+IntKind.wrap .i64 ((k:Int)*(m:Int)))=((a+k*m:Nat):Int):=fun m hm=>by
  have h1:k*m≤n:=by
   have:=Nat.mul_le_mul_left k hm
   omega
  have h2:(k:Int)*(m:Int)=((k*m:Nat):Int):=by simp
  have h3:IntKind.wrap .i64 ((k*m:Nat):Int)=((k*m:Nat):Int):=wrap_i64 (by omega) (by omega)
  rw [h2,h3,wrap_i64 (by omega) (by omega)];omega
 have ho':o<g.length:=(c9d.1 ho).1
 have q0:(a1h g ty3 1 [[.int .i64 0]])[g.length]?=some (.row ty3 1 [[.int .i64 0]]):=a2j _ _ _ _
 have l0:(a1h g ty3 1 [[.int .i64 0]]).length=g.length+1:=a6R _ _ _ _
 have k0:∀ q,q<g.length→(a1h g ty3 1 [[.int .i64 0]])[q]?=g[q]?:=fun q hq=>a1T _ _ _ _ hq
 have ho0:(a1h g ty3 1 [[.int .i64 0]])[o]?=some (.row a0h 12 (l.map kdr)):=by rw [k0 o ho'];exact ho
 have hsc:∀ (g2:Hp) (p:Nat) (t:Int),Same g.length (a1h g ty3 1 [[.int .i64 0]]) g2→scope g g2 (.tup [.int .i64 (p:Int),.int .i64 t])=some (.tup [.int .i64 (p:Int),.int .i64 t],g):=fun g2 p t sm=>a1m (by simp) (.tup _ fun d hd=>by
   simp only [c9i,List.not_mem_nil,or_false] at hd
   rcases hd with rfl | rfl
   ·exact .int _ _
   ·exact .int _ _) (by have:=sm.1;omega) fun q hq=>by rw [sm.2 q (by omega),k0 q hq]
 rw [c2M]
 have g8:decide ((n:Int)≥8)=true:=decide_eq_true (by omega)
 have a1:=wa 1 (by omega)
 have a2:=wa 2 (by omega)
 have a3:=wa 3 (by omega)
 simp only [Nat.mul_one] at a1
 simp only [b8D,bs,a0t,w1,a1D,show ¬ (4:Int)=0 by omega,if_false,wq,a2i,a0k,show (1:Int)=((1:Nat):Int) from rfl,show (2:Int)=((2:Nat):Int) from rfl,show (3:Int)=((3:Nat):Int) from rfl,a1,a2,a3,a0S,g8,a0d,if_true,c8N]
 refine Wp.bind (P:=fun r=>r.1 = .nrm∧∃ (x y z:Nat) (s:Int),r.2.1=[.int .i64 (x:Int),.int .i64 (y:Int),.int .i64 (z:Int)]∧a≤x∧x<b∧a≤y∧y<b∧a≤z∧z<b∧r.2.2[g.length]?=some (.row ty3 1 [[.int .i64 s]])∧Same g.length (a1h g ty3 1 [[.int .i64 0]]) r.2.2) ?_ ?_
 ·by_cases h50:(n:Int)≥50
  ·simp only [h50,decide_true,a0d,if_true]
   obtain ⟨m1,s1,g1,e1,b1,q1,sm1⟩:=b7G hcmp hN hl ho0 (a+k) (by omega) (by omega) g.length 0 q0 (by omega)
   have ho1:g1[o]?=some (.row a0h 12 (l.map kdr)):=by rw [sm1.2 o (by omega)];exact ho0
   obtain ⟨m2,s2,g2,e2,b2,q2,sm2⟩:=b7G hcmp hN hl ho1 (a+k*2) (by omega) (by omega) g.length s1 q1 (by omega)
   have ho2:g2[o]?=some (.row a0h 12 (l.map kdr)):=by rw [sm2.2 o (by omega)];exact ho1
   obtain ⟨m3,s3,g3,e3,b3,q3,sm3⟩:=b7G hcmp hN hl ho2 (a+k*3) (by omega) (by omega) g.length s2 q2 (by omega)
   simp only [e1,e2,e3,bs]
   exact .some ⟨rfl,m1,m2,m3,s3,rfl,by omega,by omega,by omega,by omega,by omega,by omega,q3,(sm1.trans sm2).trans sm3⟩
  ·simp only [h50,decide_false,a0d,c8O,if_false]
   exact .some ⟨rfl,a+k,a+k*2,a+k*3,0,rfl,by omega,by omega,by omega,by omega,by omega,by omega,q0,.refl _ _⟩
 ·rintro ⟨ex,ds,g4⟩ ⟨rfl,x,y,z,s,hds,x1,x2,y1,y2,z1,z2,q4,sm4⟩
  simp only at hds q4 sm4
  subst hds
  have ho4:g4[o]?=some (.row a0h 12 (l.map kdr)):=by rw [sm4.2 o (by omega)];exact ho0
  obtain ⟨m,s5,g5,e5,b5,q5,sm5⟩:=c1q hcmp hl ho4 x y z (by omega) (by omega) (by omega) g.length s q4 (by omega)
  have lq:a0c tab g5 ty3 (.ptr g.length 0 0)=some (.int .i64 s5):=by rw [c1O,a1A q5];rfl
  have hs:=hsc g5 m
  have sm6:=sm4.trans sm5
  simp only [a0j,a0e,a0g,e5,bs,lq,a0Q,c8N]
  by_cases h0:s5=0
  ·simp only [h0,decide_true,a0d,if_true,a0G,hs _ sm6]
   exact .some ⟨m,_,rfl,by omega,by omega⟩
  ·by_cases h12:s5=12
   ·simp only [h0,h12,decide_true,decide_false,a0d,c8O,if_false,if_true,bs,a0G,hs _ sm6,show ¬ (12:Int)=0 by omega]
    exact .some ⟨m,_,rfl,by omega,by omega⟩
   ·simp only [h0,h12,decide_false,a0d,c8O,if_false,bs,a0G,hs _ sm6]
    exact .some ⟨m,_,rfl,by omega,by omega⟩
theorem c5a {o N:Nat} (hN:N≤1000000) {g:Hp} {l:List Kd} (hl:l.length=N) (ho:g[o]?=some (.row a0h 12 (l.map kdr))) (a b:Nat) (hab:a<b) (hb:b≤N) (cmp:D) :
  Wp (R b1L [.msl 12 o 0 N,.int .i64 (a:Int),.int .i64 (b:Int),cmp] g) fun p=>∃ l',p.2[o]?=some (.row a0h 12 (l'.map kdr))∧Seg a b l l'∧Same o g p.2:=by
 rw [c2N]
 have w1:IntKind.wrap .i64 ((b:Int) - 1)=((b - 1:Nat):Int):=by rw [wrap_i64 (by omega) (by omega)];omega
 simp only [b8E,bs,a0t,w1,c8N]
 refine Wp.loop (fun n ds g'=>∃ x,∃ i j:Nat,∃ l',ds=[.int .i64 (i:Int),.int .i64 (j:Int),x]∧n=j+1∧a≤i∧j<b∧(i≤j+1)∧g'[o]?=some (.row a0h 12 (l'.map kdr))∧Seg a b l l'∧Same o g g')
  (fun r=>r.1 = .ext 0∧∃ l',r.2.2[o]?=some (.row a0h 12 (l'.map kdr))∧Seg a b l l'∧Same o g r.2.2) b ⟨_,a,b - 1,l,rfl,by omega,by omega,by omega,by omega,ho,.refl _ _ _,.refl _ _⟩ ?_ ?_
 ·rintro n ds g' ⟨x,i,j,l',rfl,hn,hi,hj,hij,ho',sg,sm⟩
  have hl':=sg.len
  simp only [a8Z,a0e,a0g,bs,c8N,a0q]
  refine Wp.dif ?_ ?_
  ·intro h0
   have h0:i<j:=by
    have:(i:Int)<(j:Int):=by simpa using h0
    omega
   obtain ⟨u,hu⟩:∃ u,l'[i]?=some u:=⟨_,c9c (by omega)⟩
   obtain ⟨v,hv⟩:∃ v,l'[j]?=some v:=⟨_,c9c (by omega)⟩
   have w2:=wi_ i (by omega)
   have w3:IntKind.wrap .i64 ((j:Int) - 1)=((j - 1:Nat):Int):=by rw [wrap_i64 (by omega) (by omega)];omega
   simp only [adY (show i<N by omega),adY (show j<N by omega),a1s ho' hu,a1s ho' hv,bs]
   refine swY ho' hu hv fun g2 p2 s2=>?_
   simp only [bs,a0k,a0t,w2,w3]
   exact .some (.inl ⟨rfl,j,by omega,_,i+1,j - 1,_,rfl,by omega,by omega,by omega,by omega,p2,sg.trans (a1O hu hv (by omega) (by omega) (by omega) (by omega)),sm.trans s2⟩)
  ·intro h0
   exact .some (.inr ⟨by simp,rfl,l',ho',sg,sm⟩)
 ·rintro ⟨ex,ds,g'⟩ ⟨rfl,l',h1,h2,h3⟩
  simp only [a0o,a1M,bs]
  exact .some ⟨l',h1,h2,h3⟩
theorem c1p {c:Kd→Kd→Int} (od:CmO c) {cmp:D} (hcmp:CmpFY cmp c) {o N:Nat} (hN:N≤1000000) {g:Hp} {l:List Kd} (hl:l.length=N) (ho:g[o]?=some (.row a0h 12 (l.map kdr))) (lo hi f:Nat) (hlo:lo≤N) (hb:f+hi≤N) :
  Wp (R a9J [.msl 12 o 0 N,.int .i64 (lo:Int),.int .i64 (hi:Int),.int .i64 (f:Int),cmp] g) fun p=>∃ l',p.2[o]?=some (.row a0h 12 (l'.map kdr))∧Seg f (f+hi) l l'∧(HeapE c f lo hi lo l→a8h c f lo hi l')∧Same o g p.2:=by
 rw [c2V]
 simp only [b8M,bs,c8N]
 refine Wp.loop (fun n ds g'=>∃ x1 x2 x3 x4,∃ r:Nat,∃ l',ds=[.int .i64 (r:Int),x1,x2,x3,x4]∧n+r=hi+lo∧lo≤r∧g'[o]?=some (.row a0h 12 (l'.map kdr))∧Seg f (f+hi) l l'∧(HeapE c f lo hi lo l→HeapE c f lo hi r l')∧Same o g g')
  (fun r=>(r.1 = .ext 0∨r.1 = .ret)∧∃ l',r.2.2[o]?=some (.row a0h 12 (l'.map kdr))∧Seg f (f+hi) l l'∧(HeapE c f lo hi lo l→a8h c f lo hi l')∧Same o g r.2.2) hi ⟨_,_,_,_,lo,l,rfl,rfl,Nat.le_refl _,ho,.refl _ _ _,id,.refl _ _⟩ ?_ ?_
 ·rintro n ds g' ⟨x1,x2,x3,x4,r,l',rfl,hn,hr,ho',sg,hh,sm⟩
  have hl':=sg.len
  have w1:IntKind.wrap .i64 ((2:Int)*(r:Int))=((2*r:Nat):Int):=by rw [wrap_i64 (by omega) (by omega)];omega
  have w2:IntKind.wrap .i64 (((2*r:Nat):Int)+1)=((2*r+1:Nat):Int):=by rw [wrap_i64 (by omega) (by omega)];omega
  have w3:IntKind.wrap .i64 (((2*r+1:Nat):Int)+1)=((2*r+2:Nat):Int):=by rw [wrap_i64 (by omega) (by omega)];omega
  simp only [a9d,a0e,a0g,bs,c8N,a2i,w1,a0k,w2,a0S]
  by_cases h0:hi≤2*r+1
  ·have d0:decide (((2*r+1:Nat):Int)≥(hi:Int))=true:=decide_eq_true (by omega)
   simp only [d0,a0d,if_true]
   exact .some (.inr ⟨by simp,.inl rfl,l',ho',sg,fun h=>(hh h).leaf h0,sm⟩)
  ·have d0:decide (((2*r+1:Nat):Int)≥(hi:Int))=false:=decide_eq_false (by omega)
   obtain ⟨u,hu⟩:∃ u,l'[f+(2*r+1)]?=some u:=⟨_,c9c (by omega)⟩
   obtain ⟨x,hx⟩:∃ x,l'[f+r]?=some x:=⟨_,c9c (by omega)⟩
   have wf1:IntKind.wrap .i64 ((f:Int)+((2*r+1:Nat):Int))=((f+(2*r+1):Nat):Int):=by rw [wrap_i64 (by omega) (by omega)];omega
   have wf2:IntKind.wrap .i64 (((f+(2*r+1):Nat):Int)+1)=((f+(2*r+2):Nat):Int):=by rw [wrap_i64 (by omega) (by omega)];omega
   have wf0:IntKind.wrap .i64 ((f:Int)+(r:Int))=((f+r:Nat):Int):=by rw [wrap_i64 (by omega) (by omega)];omega
   simp only [d0,a0d,c8O,if_false,bs,w3,a0q,c8N]
   obtain ⟨ch,hbc,hcase⟩:∃ ch,c1w c f hi r ch l'∧((¬ 2*r+2<hi∧2*r+1=ch)∨(2*r+2<hi∧∃ v,l'[f+(2*r+2)]?=some v∧((c u v<0∧2*r+2=ch)∨(¬ c u v<0∧2*r+1=ch)))):=by
    by_cases h2:2*r+2<hi
    ·obtain ⟨v,hv⟩:∃ v,l'[f+(2*r+2)]?=some v:=⟨_,c9c (by omega)⟩
     by_cases hc:c u v<0
     ·exact ⟨2*r+2,⟨.inr rfl,h2,fun d y z h3 h4 hy hz=>by
        rw [hv] at hy;injection hy with hy;subst hy
        rcases h3 with rfl | rfl
        ·rw [hu] at hz;injection hz with hz;subst hz;exact od.asm _ _ hc
        ·rw [hv] at hz;injection hz with hz;subst hz;exact od.irr _⟩,.inr ⟨h2,v,hv,.inl ⟨hc,rfl⟩⟩⟩
     ·exact ⟨2*r+1,⟨.inl rfl,by omega,fun d y z h3 h4 hy hz=>by
        rw [hu] at hy;injection hy with hy;subst hy
        rcases h3 with rfl | rfl
        ·rw [hu] at hz;injection hz with hz;subst hz;exact od.irr _
        ·rw [hv] at hz;injection hz with hz;subst hz;exact hc⟩,.inr ⟨h2,v,hv,.inr ⟨hc,rfl⟩⟩⟩
    ·exact ⟨2*r+1,⟨.inl rfl,by omega,fun d y z h3 h4 hy hz=>by
         rw [hu] at hy;injection hy with hy;subst hy
         rcases h3 with rfl | rfl
         ·rw [hu] at hz;injection hz with hz;subst hz;exact od.irr _
         ·omega⟩,.inl ⟨h2,rfl⟩⟩
   obtain ⟨y,hy⟩:∃ y,l'[f+ch]?=some y:=⟨_,c9c (by have:=hbc.2.1;omega)⟩
   have b1:=hbc.1
   have b2:=hbc.2.1
   have wfc:IntKind.wrap .i64 ((f:Int)+(ch:Int))=((f+ch:Nat):Int):=by rw [wrap_i64 (by omega) (by omega)];omega
   rcases hcase with ⟨h2,e⟩ | ⟨h2,v,hv,⟨hc2,e⟩ | ⟨hc2,e⟩⟩
   all_goals
    have d1:decide (((2*r+2:Nat):Int)<(hi:Int))=decide (2*r+2<hi):=decide_eq_decide.2 (by omega)
    simp only [d1,h2,decide_false,decide_true,a0x,a0F,a1a,reduceCtorEq,c8O,if_false,if_true,bs,a0k,wf1,wf2,adY (show f+(2*r+1)<N by omega),a1s ho' hu,a0n,a0d]
    try simp only [adY (show f+(2*r+2)<N by omega),a1s ho' hv,hcmp.ap,a0q,bs,a0n,hc2,decide_true,decide_false,a0d,c8O,if_false,if_true]
    rw [e]
    simp only [bs,a0j,a0e,a0k,wf0,wfc,adY (show f+r<N by omega),adY (show f+ch<N by omega),a1s ho' hx,a1s ho' hy,hcmp.ap,a0q,a1f,c8N]
    by_cases hc:c x y<0
    ·simp only [hc,decide_true,c8X,a0d,c8O,if_false]
     refine swY ho' hx hy fun g2 p2 s2=>?_
     exact .some (.inl ⟨rfl,n - (ch - r),by omega,_,_,_,_,ch,_,rfl,by omega,by omega,p2,sg.trans (a1O hx hy (by omega) (by omega) (by omega) (by omega)),fun h=>(hh h).down od hr hbc hx hy hc,sm.trans s2⟩)
    ·simp only [hc,decide_false,c8Y,a0d,if_true]
     exact .some (.inr ⟨by simp,.inr rfl,l',ho',sg,fun h=>(hh h).stop od hbc hx hy hc,sm⟩)
 ·rintro ⟨ex,ds,g'⟩ ⟨rfl | rfl,l',h1,h2,h3,h4⟩
  ·simp only [a0o,a1M,bs]
   exact .some ⟨l',h1,h2,h3,h4⟩
  ·simp only [a0U,a1i,bs]
   exact .some ⟨l',h1,h2,h3,h4⟩
theorem c4X {c:Kd→Kd→Int} (od:CmO c) {cmp:D} (hcmp:CmpFY cmp c) {o N:Nat} (hN:N≤1000000) {g:Hp} {l:List Kd} (hl:l.length=N) (ho:g[o]?=some (.row a0h 12 (l.map kdr))) (a b:Nat) (hab:a<b) (hb:b≤N) :
  Wp (R b1J [.msl 12 o 0 N,.int .i64 (a:Int),.int .i64 (b:Int),cmp] g) fun p=>∃ l',p.2[o]?=some (.row a0h 12 (l'.map kdr))∧Seg a b l l'∧Srt c a b l'∧Same o g p.2:=by
 obtain ⟨n,hn⟩:∃ n,b=a+n:=⟨b - a,by omega⟩
 subst hn
 rw [c2K]
 have w1:IntKind.wrap .i64 (((a+n:Nat):Int) - (a:Int))=((n:Nat):Int):=by rw [wrap_i64 (by omega) (by omega)];omega
 have w2:IntKind.wrap .i64 ((n:Int) - 1)=((n - 1:Nat):Int):=by rw [wrap_i64 (by omega) (by omega)];omega
 have w3:IntKind.wrap .i64 (Int.tdiv ((n - 1:Nat):Int) 2)=(((n - 1) / 2+1:Nat):Int) - 1:=by
  rw [show Int.tdiv ((n - 1:Nat):Int) 2=(((n - 1) / 2:Nat):Int) from by rw [Int.tdiv_eq_ediv_of_nonneg (by omega)];omega,wrap_i64 (by omega) (by omega)];omega
 have dec:∀ i:Nat,i≤N→IntKind.wrap .i64 (((i+1:Nat):Int) - 1 - 1)=((i:Nat):Int) - 1:=fun i hi=>by rw [wrap_i64 (by omega) (by omega)];omega
 simp only [b8B,bs,a0t,w1,w2,a1D,show ¬ (2:Int)=0 by omega,if_false,w3,c8N]
 refine Wp.loop (fun k ds g'=>∃ x,∃ l',ds=[.int .i64 ((k:Int) - 1),x]∧k≤n∧g'[o]?=some (.row a0h 12 (l'.map kdr))∧Seg a (a+n) l l'∧a8h c a k n l'∧Same o g g')
  (fun r=>r.1 = .ext 0∧∃ l',r.2.2[o]?=some (.row a0h 12 (l'.map kdr))∧Seg a (a+n) l l'∧a8h c a 0 n l'∧Same o g r.2.2) ((n - 1) / 2+1) ⟨_,l,rfl,by omega,ho,.refl _ _ _,fun i ch x y h1 h2 h3=>by omega,.refl _ _⟩ ?_ ?_
 ·rintro k ds g' ⟨x,l',rfl,hk,ho',sg,hh,sm⟩
  simp only [a8W,a0e,a0g,bs,c8N,a0S]
  cases k with
  | zero =>
   have d0:decide ((((0:Nat):Int) - 1)≥0)=false:=rfl
   simp only [d0,a0d,c8O,if_false]
   exact .some (.inr ⟨by simp,rfl,l',ho',sg,hh,sm⟩)
  | succ k =>
   have d0:decide ((((k+1:Nat):Int) - 1)≥0)=true:=decide_eq_true (by omega)
   have e0:(((k+1:Nat):Int) - 1)=(k:Int):=by omega
   simp only [d0,a0d,if_true,a0t,dec k (by omega)]
   rw [e0]
   refine Wp.bind (c1p od hcmp hN (sg.len.trans hl) ho' k n a (by omega) (by omega)) ?_
   rintro ⟨d,g2⟩ ⟨l2,p2,s2,hh2,m2⟩
   exact .some (.inl ⟨rfl,k,by omega,_,l2,rfl,by omega,p2,sg.trans s2,hh2 (.mk0 hh),sm.trans m2⟩)
 ·rintro ⟨ex,ds,g1⟩ ⟨rfl,l1,ho1,sg1,hh1,sm1⟩
  simp only at ho1 sm1
  have w4:((n - 1:Nat):Int)=(n:Int) - 1:=by omega
  simp only [a0o,a0j,bs,c8N]
  rw [w4]
  refine Wp.loop (fun k ds g'=>∃ x,∃ l',ds=[.int .i64 ((k:Int) - 1),x]∧k≤n∧g'[o]?=some (.row a0h 12 (l'.map kdr))∧Seg a (a+n) l l'∧HS c a n k l'∧Same o g g')
   (fun r=>r.1 = .ext 2∧∃ l',r.2.2[o]?=some (.row a0h 12 (l'.map kdr))∧Seg a (a+n) l l'∧HS c a n 0 l'∧Same o g r.2.2) n ⟨_,l1,rfl,by omega,ho1,sg1,.mk0 hh1,sm1⟩ ?_ ?_
  ·rintro k ds g' ⟨x,l',rfl,hk,ho',sg,hh,sm⟩
   have hl':=sg.len.trans hl
   simp only [a8X,a0e,a0g,bs,c8N,a0S]
   cases k with
   | zero =>
    have d0:decide ((((0:Nat):Int) - 1)≥0)=false:=rfl
    simp only [d0,a0d,c8O,if_false]
    exact .some (.inr ⟨by simp,rfl,l',ho',sg,hh,sm⟩)
   | succ k =>
    have d0:decide ((((k+1:Nat):Int) - 1)≥0)=true:=decide_eq_true (by omega)
    have e0:(((k+1:Nat):Int) - 1)=(k:Int):=by omega
    have w5:IntKind.wrap .i64 ((a:Int)+(k:Int))=((a+k:Nat):Int):=by rw [wrap_i64 (by omega) (by omega)];omega
    obtain ⟨u,hu⟩:∃ u,l'[a]?=some u:=⟨_,c9c (by omega)⟩
    obtain ⟨v,hv⟩:∃ v,l'[a+k]?=some v:=⟨_,c9c (by omega)⟩
    simp only [d0,a0d,if_true,a0t,dec k (by omega)]
    rw [e0]
    simp only [a0k,w5,bs,adY (show a<N by omega),adY (show a+k<N by omega),a1s ho' hu,a1s ho' hv]
    refine swY ho' hu hv fun g2 p2 s2=>?_
    have hl2:((l'.set a v).set (a+k) u).length=N:=by simpa using hl'
    refine Wp.bind (c1p od hcmp hN hl2 p2 0 k a (by omega) (by omega)) ?_
    rintro ⟨d,g3⟩ ⟨l3,p3,s3,hh3,m3⟩
    exact .some (.inl ⟨rfl,k,by omega,_,l3,rfl,by omega,p3,sg.trans ((a1O hu hv (by omega) (by omega) (by omega) (by omega)).trans (s3.mono (Nat.le_refl _) (by omega))),hh.step od (by omega) (by omega) hu hv s3 (fun h=>hh3 (.mk0 h)),(sm.trans s2).trans m3⟩)
  ·rintro ⟨ex,ds,g2⟩ ⟨rfl,l2,ho2,sg2,hh2,sm2⟩
   simp only [a0o,a1M,bs]
   exact .some ⟨l2,ho2,sg2,hh2.fin,sm2⟩
theorem c1g {c:Kd→Kd→Int} (od:CmO c) {cmp:D} (hcmp:CmpFY cmp c) {o N:Nat} (hN:N≤1000000) {g:Hp} {l:List Kd} (hl:l.length=N) (ho:g[o]?=some (.row a0h 12 (l.map kdr))) (a b i:Nat) (hb:b≤N) (hi:a<i) (hib:i≤b) (st:Srt c a i l) (x0:D) {β:Type} {K:Out→Option β} {Q:β→Prop}
  (k:∀ (i':Nat) y,i≤i'→i'≤b→Srt c a i' l→(i'<b→∃ u v,l[i']?=some u∧l[i' - 1]?=some v∧c u v<0)→Wp (K (.ext 2,[.int .i64 (i':Int),y],g)) Q) :
  Wp ((a0z (a6m (.msl 12 o 0 N) (.int .i64 (b:Int)) cmp) [.int .i64 (i:Int),x0] g).bind K) Q:=by
 refine Wp.loop (fun n ds g'=>g'=g∧∃ x,∃ j:Nat,ds=[.int .i64 (j:Int),x]∧n+j=b∧i≤j∧Srt c a j l)
  (fun r=>r.1 = .ext 2∧r.2.2=g∧∃ x,∃ j:Nat,r.2.1=[.int .i64 (j:Int),x]∧i≤j∧j≤b∧Srt c a j l∧(j<b→∃ u v,l[j]?=some u∧l[j - 1]?=some v∧c u v<0)) (b - i) ⟨rfl,_,i,rfl,by omega,Nat.le_refl _,st⟩ ?_ ?_
 ·rintro n ds g' ⟨rfl,x,j,rfl,hn,hj,st⟩
  simp only [a6m,a0e,a0g,bs,c8N,a0q]
  by_cases h0:j<b
  ·have d0:decide ((j:Int)<(b:Int))=true:=decide_eq_true (by omega)
   obtain ⟨u,hu⟩:∃ u,l[j]?=some u:=⟨_,c9c (by omega)⟩
   obtain ⟨v,hv⟩:∃ v,l[j - 1]?=some v:=⟨_,c9c (by omega)⟩
   have w1:IntKind.wrap .i64 ((j:Int) - 1)=((j - 1:Nat):Int):=by rw [wrap_i64 (by omega) (by omega)];omega
   have w2:=wi_ j (by omega)
   simp only [d0,a0x,a0F,if_true,bs,a0t,w1,adY (show j<N by omega),adY (show j - 1<N by omega),a1s ho hu,a1s ho hv,hcmp.ap,a0q,a1f,a0n]
   by_cases hc:c u v<0
   ·simp only [hc,decide_true,c8X,a0d,c8O,if_false]
    exact .some (.inr ⟨by simp,rfl,rfl,_,j,rfl,hj,by omega,st,fun _=>⟨u,v,hu,hv,hc⟩⟩)
   ·simp only [hc,decide_false,c8Y,a0d,if_true,a0k,w2,bs]
    exact .some (.inl ⟨rfl,n - 1,by omega,rfl,_,j+1,rfl,by omega,by omega,st.more od (by omega) (by omega) fun x y hx hy=>by
     rw [hu] at hx;injection hx with hx;subst hx
     rw [hv] at hy;injection hy with hy;subst hy
     exact hc⟩)
  ·have d0:decide ((j:Int)<(b:Int))=false:=decide_eq_false (by omega)
   simp only [d0,a0x,a0F,a1a,reduceCtorEq,c8O,if_false,bs,a0n,a0d]
   exact .some (.inr ⟨by simp,rfl,rfl,_,j,rfl,hj,by omega,st,fun h=>absurd h h0⟩)
 ·rintro ⟨ex,ds,g'⟩ ⟨rfl,rfl,y,j,hds,h1,h2,h3,h4⟩
  simp only at hds
  subst hds
  exact k j y h1 h2 h3 h4
theorem c1h {c:Kd→Kd→Int} (od:CmO c) {cmp:D} (hcmp:CmpFY cmp c) {o N:Nat} (hN:N≤1000000) {g:Hp} {l:List Kd} (hl:l.length=N) (ho:g[o]?=some (.row a0h 12 (l.map kdr))) (a i j:Nat) (hi:i≤N) (haj:a≤j) (hji:j<i) (st:SrtX c a i j l) (lw:Low c a i l) (x0 x1:D) {β:Type} {K:Out→Option β} {Q:β→Prop}
  (k:∀ u v w g' l',g'[o]?=some (.row a0h 12 (l'.map kdr))→Seg a i l l'→Srt c a i l'→Same o g g'→Wp (K (.ext 4,[u,v,w],g')) Q) :
  Wp ((a0z (a6n (.msl 12 o 0 N) cmp) [.int .i64 (j:Int),x0,x1] g).bind K) Q:=by
 refine Wp.loop (fun n ds g'=>∃ u v,∃ l',ds=[.int .i64 (n:Int),u,v]∧a≤n∧n<i∧g'[o]?=some (.row a0h 12 (l'.map kdr))∧Seg a i l l'∧SrtX c a i n l'∧Same o g g')
  (fun r=>r.1 = .ext 4∧(∃ u v w,r.2.1=[u,v,w])∧∃ l',r.2.2[o]?=some (.row a0h 12 (l'.map kdr))∧Seg a i l l'∧Srt c a i l'∧Same o g r.2.2) j ⟨_,_,l,rfl,haj,hji,ho,.refl _ _ _,st,.refl _ _⟩ ?_ ?_
 ·rintro n ds g' ⟨u0,v0,l',rfl,hn,hni,ho',sg,sx,sm⟩
  have hl':=sg.len.trans hl
  simp only [a6n,a0e,a0g,bs,c8N,a0S]
  cases n with
  | zero =>
   have d0:decide (((0:Nat):Int)≥1)=false:=rfl
   simp only [d0,a0d,c8O,if_false]
   exact .some (.inr ⟨by simp,rfl,⟨_,_,_,rfl⟩,l',ho',sg,sx.stop od (fun h=>by omega),sm⟩)
  | succ m =>
   have d0:decide (((m+1:Nat):Int)≥1)=true:=decide_eq_true (by omega)
   have w1:IntKind.wrap .i64 (((m+1:Nat):Int) - 1)=(m:Int):=by rw [wrap_i64 (by omega) (by omega)];omega
   obtain ⟨u,hu⟩:∃ u,l'[m+1]?=some u:=⟨_,c9c (by omega)⟩
   obtain ⟨v,hv⟩:∃ v,l'[m]?=some v:=⟨_,c9c (by omega)⟩
   simp only [d0,a0d,if_true,a0t,w1,bs,adY (show m+1<N by omega),adY (show m<N by omega),a1s ho' hu,a1s ho' hv,hcmp.ap,a0q,a1f]
   by_cases hc:c u v<0
   ·have ham:a≤m:=by
      rcases Nat.lt_or_ge m a with h1 | h1
      ·exact absurd hc (od.asm _ _ (lw.seg sg m (m+1) v u h1 hn hni hv hu))
      ·exact h1
    simp only [hc,decide_true,c8X,a0d,c8O,if_false]
    refine swY ho' hu hv fun g2 p2 s2=>?_
    try simp only [bs]
    exact .some (.inl ⟨rfl,m,by omega,_,_,_,rfl,ham,by omega,p2,sg.trans (a1O hu hv (by omega) (by omega) (by omega) (by omega)),sx.step od ham hni hu hv hc,sm.trans s2⟩)
   ·simp only [hc,decide_false,c8Y,a0d,if_true]
    exact .some (.inr ⟨by simp,rfl,⟨_,_,_,rfl⟩,l',ho',sg,sx.stop od (fun h x y hx hy=>by
     rw [hu] at hx;injection hx with hx;subst hx
     rw [show m+1 - 1=m from rfl,hv] at hy;injection hy with hy;subst hy
     exact hc),sm⟩)
 ·rintro ⟨ex,ds,g'⟩ ⟨rfl,⟨u,v,w,hds⟩,l',h1,h2,h3,h4⟩
  simp only at hds
  subst hds
  exact k u v w g' l' h1 h2 h3 h4
theorem c1i {c:Kd→Kd→Int} {cmp:D} (hcmp:CmpFY cmp c) {o N:Nat} (hN:N≤1000000) {g:Hp} {l:List Kd} (hl:l.length=N) (ho:g[o]?=some (.row a0h 12 (l.map kdr))) (i j b:Nat) (hb:b≤N) (hij:i<j) (hjb:j≤b) (x0 x1:D) {β:Type} {K:Out→Option β} {Q:β→Prop}
  (k:∀ u v w g' l',g'[o]?=some (.row a0h 12 (l'.map kdr))→Seg i b l l'→Same o g g'→Wp (K (.ext 6,[u,v,w],g')) Q) :
  Wp ((a0z (a6o (.msl 12 o 0 N) (.int .i64 (b:Int)) cmp) [.int .i64 (j:Int),x0,x1] g).bind K) Q:=by
 refine Wp.loop (fun n ds g'=>∃ u v,∃ m:Nat,∃ l',ds=[.int .i64 (m:Int),u,v]∧n+m=b∧i<m∧g'[o]?=some (.row a0h 12 (l'.map kdr))∧Seg i b l l'∧Same o g g')
  (fun r=>r.1 = .ext 6∧(∃ u v w,r.2.1=[u,v,w])∧∃ l',r.2.2[o]?=some (.row a0h 12 (l'.map kdr))∧Seg i b l l'∧Same o g r.2.2) (b - j) ⟨_,_,j,l,rfl,by omega,hij,ho,.refl _ _ _,.refl _ _⟩ ?_ ?_
 ·rintro n ds g' ⟨u0,v0,m,l',rfl,hn,him,ho',sg,sm⟩
  have hl':=sg.len.trans hl
  simp only [a6o,a0e,a0g,bs,c8N,a0q]
  by_cases h0:m<b
  ·have d0:decide ((m:Int)<(b:Int))=true:=decide_eq_true (by omega)
   have w1:IntKind.wrap .i64 ((m:Int) - 1)=((m - 1:Nat):Int):=by rw [wrap_i64 (by omega) (by omega)];omega
   have w2:=wi_ m (by omega)
   obtain ⟨u,hu⟩:∃ u,l'[m]?=some u:=⟨_,c9c (by omega)⟩
   obtain ⟨v,hv⟩:∃ v,l'[m - 1]?=some v:=⟨_,c9c (by omega)⟩
   simp only [d0,a0d,if_true,a0t,w1,bs,adY (show m<N by omega),adY (show m - 1<N by omega),a1s ho' hu,a1s ho' hv,hcmp.ap,a0q,a1f]
   by_cases hc:c u v<0
   ·simp only [hc,decide_true,c8X,a0d,c8O,if_false]
    refine swY ho' hu hv fun g2 p2 s2=>?_
    simp only [bs,a0k,w2]
    exact .some (.inl ⟨rfl,n - 1,by omega,_,_,m+1,_,rfl,by omega,by omega,p2,sg.trans (a1O hu hv (by omega) (by omega) (by omega) (by omega)),sm.trans s2⟩)
   ·simp only [hc,decide_false,c8Y,a0d,if_true]
    exact .some (.inr ⟨by simp,rfl,⟨_,_,_,rfl⟩,l',ho',sg,sm⟩)
  ·have d0:decide ((m:Int)<(b:Int))=false:=decide_eq_false (by omega)
   simp only [d0,a0d,c8O,if_false]
   exact .some (.inr ⟨by simp,rfl,⟨_,_,_,rfl⟩,l',ho',sg,sm⟩)
 ·rintro ⟨ex,ds,g'⟩ ⟨rfl,⟨u,v,w,hds⟩,l',h1,h2,h3⟩
  simp only at hds
  subst hds
  exact k u v w g' l' h1 h2 h3
theorem c5b {c:Kd→Kd→Int} (od:CmO c) {cmp:D} (hcmp:CmpFY cmp c) {o N:Nat} (hN:N≤1000000) {g:Hp} {l:List Kd} (hl:l.length=N) (ho:g[o]?=some (.row a0h 12 (l.map kdr))) (a b:Nat) (hab:a<b) (hb:b≤N) (lw:Low c a b l) :
  Wp (R b1M [.msl 12 o 0 N,.int .i64 (a:Int),.int .i64 (b:Int),cmp] g) fun p=>∃ (d:Bool) (l':List Kd),p.1 = .bool d∧p.2[o]?=some (.row a0h 12 (l'.map kdr))∧Seg a b l l'∧(d=true→Srt c a b l')∧Same o g p.2:=by
 rw [c2O]
 have w1:=wi_ a (by omega)
 have w2:IntKind.wrap .i64 ((b:Int) - (a:Int))=((b - a:Nat):Int):=by rw [wrap_i64 (by omega) (by omega)];omega
 simp only [b8F,bs,a0k,w1,c8N]
 refine Wp.loop (fun n ds g'=>∃ x0 x3 x4 x5 x6 x7 x8 x9 y1 y2 y3 y4 y5,∃ i s:Nat,∃ l',ds=[x0,.int .i64 (i:Int),.int .i64 (s:Int),x3,x4,x5,x6,x7,x8,x9,y1,y2,y3,y4,y5]∧n+s=5∧a<i∧i≤b∧g'[o]?=some (.row a0h 12 (l'.map kdr))∧Seg a b l l'∧Srt c a i l'∧Same o g g')
  (fun r=>(r.1 = .ext 0∧∃ l',r.2.2[o]?=some (.row a0h 12 (l'.map kdr))∧Seg a b l l'∧Same o g r.2.2)∨(r.1 = .ret∧∃ (d:Bool) (l':List Kd),nth 0 r.2.1 = .bool d∧r.2.2[o]?=some (.row a0h 12 (l'.map kdr))∧Seg a b l l'∧(d=true→Srt c a b l')∧Same o g r.2.2)) 5 ⟨_,_,_,_,_,_,_,_,_,_,_,_,_,a+1,0,l,rfl,rfl,by omega,by omega,ho,.refl _ _ _,.one,.refl _ _⟩ ?_ ?_
 ·rintro n ds g' ⟨x0,x3,x4,x5,x6,x7,x8,x9,y1,y2,y3,y4,y5,i,s,l',rfl,hn,hi,hib,ho',sg,st,sm⟩
  have hl':=sg.len.trans hl
  have ws:=wi_ s (by omega)
  simp only [a9a,a0e,a0g,bs,c8N,a0q]
  refine Wp.dif ?_ ?_
  ·intro h0
   have h0:s<5:=dl_ h0
   refine c1g od hcmp hN hl' ho' a b i hb hi hib st _ fun j y hij hjb st2 hd=>?_
   simp only [a0o,a0j,bs,a0e,a0g,a0Q,a0t,w2,a0q,c8N]
   by_cases hjb2:j=b
   ·subst hjb2
    simp only [decide_true,a0d,if_true]
    exact .some (.inr ⟨by simp,.inr ⟨rfl,true,l',rfl,ho',sg,fun _=>st2,sm⟩⟩)
   ·have d1:decide ((j:Int)=(b:Int))=false:=decide_eq_false (by omega)
    simp only [d1,a0d,c8O,if_false,bs]
    by_cases h50:b - a<50
    ·have d2:decide (((b - a:Nat):Int)<50)=true:=decide_eq_true (by omega)
     simp only [d2,a0d,if_true]
     exact .some (.inr ⟨by simp,.inr ⟨rfl,false,l',rfl,ho',sg,(fun h=>by cases h),sm⟩⟩)
    ·have d2:decide (((b - a:Nat):Int)<50)=false:=decide_eq_false (by omega)
     obtain ⟨u,v,hu,hv,hc⟩:=hd (by omega)
     obtain ⟨m,rfl⟩:∃ m,j=m+1:=⟨j - 1,by omega⟩
     rw [show m+1 - 1=m from rfl] at hv
     have w3:IntKind.wrap .i64 (((m+1:Nat):Int) - 1)=(m:Int):=by rw [wrap_i64 (by omega) (by omega)];omega
     have w4:IntKind.wrap .i64 (((m+1:Nat):Int) - (a:Int))=((m+1 - a:Nat):Int):=by rw [wrap_i64 (by omega) (by omega)];omega
     have w5:IntKind.wrap .i64 ((b:Int) - ((m+1:Nat):Int))=((b - (m+1):Nat):Int):=by rw [wrap_i64 (by omega) (by omega)];omega
     have w6:IntKind.wrap .i64 (((m+1:Nat):Int)+1)=((m+2:Nat):Int):=by rw [wrap_i64 (by omega) (by omega)];omega
     simp only [d2,a0d,c8O,if_false,w3,bs,adY (show m+1<N by omega),adY (show m<N by omega),a1s ho' hu,a1s ho' hv]
     refine swY ho' hu hv fun g2 p2 s2=>?_
     have hsg2:Seg a b l' ((l'.set (m+1) v).set m u):=a1O hu hv (by omega) (by omega) (by omega) (by omega)
     have sx2:=st2.swX hu hv
     have hl2:=hsg2.len.trans hl'
     generalize (l'.set (m+1) v).set m u=l2 at p2 hsg2 sx2 hl2
     simp only [bs,a0t,w4,a0S,c8N]
     refine Wp.bind (P:=fun r=>r.1 = .nrm∧∃ l3,r.2.2[o]?=some (.row a0h 12 (l3.map kdr))∧Seg a b l2 l3∧Srt c a (m+1) l3∧Same o g2 r.2.2) ?_ ?_
     ·by_cases hge:m+1 - a≥2
      ·have d3:decide (((m+1 - a:Nat):Int)≥2)=true:=decide_eq_true (by omega)
       simp only [d3,a0d,if_true,w3,bs,c8N]
       refine c1h od hcmp hN hl2 p2 a (m+1) m (by omega) (by omega) (by omega) sx2 (fun p q x y h1 h2 h3 hx hy=>(lw.seg (sg.trans hsg2)) p q x y h1 h2 (by omega) hx hy) _ _ fun u1 v1 w1' g3 l3 p3 s3 st3 m3=>?_
       simp only [a0o,bs]
       exact .some ⟨rfl,l3,p3,s3.mono (Nat.le_refl _) (by omega),st3,m3⟩
      ·have d3:decide (((m+1 - a:Nat):Int)≥2)=false:=decide_eq_false (by omega)
       simp only [d3,a0d,c8O,if_false]
       have:m=a:=by omega
       subst this
       exact .some ⟨rfl,l2,p2,.refl _ _ _,.one,.refl _ _⟩
     ·rintro ⟨ex,ds3,g3⟩ ⟨rfl,l3,p3,s3,st3,m3⟩
      simp only at p3 m3
      have hl3:=s3.len.trans hl2
      simp only [a0j,bs,a0t,w5,a0S,c8N]
      refine Wp.bind (P:=fun r=>r.1 = .nrm∧∃ l4,r.2.2[o]?=some (.row a0h 12 (l4.map kdr))∧Seg (m+1) b l3 l4∧Same o g3 r.2.2) ?_ ?_
      ·by_cases hge:b - (m+1)≥2
       ·have d3:decide (((b - (m+1):Nat):Int)≥2)=true:=decide_eq_true (by omega)
        simp only [d3,a0d,if_true,a0k,w6,bs,c8N]
        refine c1i hcmp hN hl3 p3 (m+1) (m+2) b hb (by omega) (by omega) _ _ fun u1 v1 w1' g4 l4 p4 s4 m4=>?_
        simp only [a0o,bs]
        exact .some ⟨rfl,l4,p4,s4,m4⟩
       ·have d3:decide (((b - (m+1):Nat):Int)≥2)=false:=decide_eq_false (by omega)
        simp only [d3,a0d,c8O,if_false]
        exact .some ⟨rfl,l3,p3,.refl _ _ _,.refl _ _⟩
      ·rintro ⟨ex,ds4,g4⟩ ⟨rfl,l4,p4,s4,m4⟩
       simp only at p4 m4
       simp only [a0L,a0j,bs,a0k,ws,a0e,a0g]
       exact .some (.inl ⟨rfl,n - 1,by omega,_,_,_,_,_,_,_,_,_,_,_,_,_,m+1,s+1,l4,rfl,by omega,by omega,by omega,p4,((sg.trans hsg2).trans s3).trans (s4.mono (by omega) (Nat.le_refl _)),st3.keep s4,((sm.trans s2).trans m3).trans m4⟩)
  ·intro h0
   exact .some (.inr ⟨by simp,.inl ⟨rfl,l',ho',sg,sm⟩⟩)
 ·rintro ⟨ex,ds,g'⟩ (⟨rfl,l',h1,h2,h3⟩ | ⟨rfl,d,l',hd,h1,h2,hs,h3⟩)
  ·simp only [a0o,a0j,bs,a0s]
   exact .some ⟨false,l',rfl,h1,h2,(fun h=>by cases h),h3⟩
  ·simp only at hd
   simp only [a0U,a1n,a1i,bs,a0e,hd,a0s]
   exact .some ⟨d,l',rfl,h1,h2,hs,h3⟩
theorem c1j {c:Kd→Kd→Int} {cmp:D} (hcmp:CmpFY cmp c) {o N:Nat} (hN:N≤1000000) {g:Hp} {l:List Kd} (hl:l.length=N) (ho:g[o]?=some (.row a0h 12 (l.map kdr))) (a b i j:Nat) (p:Kd) (hb:b≤N) (hp:PI c a b i j p l) (x0:D) {β:Type} {K:Out→Option β} {Q:β→Prop}
  (k:∀ (i':Nat) y,PI c a b i' j p l→i≤i'→(i'≤j→∃ u,l[i']?=some u∧¬ c u p<0)→Wp (K (.ext 0,[.int .i64 (i':Int),y],g)) Q) :
  Wp ((a0z (a6p (.msl 12 o 0 N) (.int .i64 (a:Int)) cmp (.int .i64 (j:Int))) [.int .i64 (i:Int),x0] g).bind K) Q:=by
 have hab:a<b:=by have:=hp.i1;have:=hp.ij;have:=hp.jb;omega
 refine Wp.loop (fun n ds g'=>g'=g∧∃ x,∃ i':Nat,ds=[.int .i64 (i':Int),x]∧n+i'=j+1∧PI c a b i' j p l∧i≤i')
  (fun r=>r.1 = .ext 0∧r.2.2=g∧∃ x,∃ i':Nat,r.2.1=[.int .i64 (i':Int),x]∧PI c a b i' j p l∧i≤i'∧(i'≤j→∃ u,l[i']?=some u∧¬ c u p<0)) (j+1 - i) ⟨rfl,_,i,rfl,by have:=hp.ij;omega,hp,Nat.le_refl _⟩ ?_ ?_
 ·rintro n ds g' ⟨rfl,x,i',rfl,hn,hp',hi⟩
  have hjb:=hp'.jb
  simp only [a6p,a0e,a0g,bs,c8N,a0Y]
  by_cases h0:i'≤j
  ·have d0:decide ((i':Int)≤(j:Int))=true:=decide_eq_true (by omega)
   obtain ⟨u,hu⟩:∃ u,l[i']?=some u:=⟨_,c9c (by omega)⟩
   have w2:IntKind.wrap .i64 ((i':Int)+1)=((i'+1:Nat):Int):=by rw [wrap_i64 (by omega) (by omega)];omega
   simp only [d0,a0x,a0F,if_true,bs,adY (show i'<N by omega),adY (show a<N by omega),a1s ho hu,a1s ho hp'.pv,hcmp.ap,a0q,a0n]
   by_cases hc:c u p<0
   ·simp only [hc,decide_true,a0d,if_true,a0k,w2,bs]
    exact .some (.inl ⟨rfl,n - 1,by omega,rfl,_,i'+1,rfl,by omega,hp'.up h0 hu hc,by omega⟩)
   ·simp only [hc,decide_false,a0d,c8O,if_false]
    exact .some (.inr ⟨by simp,rfl,rfl,_,i',rfl,hp',hi,fun _=>⟨u,hu,hc⟩⟩)
  ·have d0:decide ((i':Int)≤(j:Int))=false:=decide_eq_false (by omega)
   simp only [d0,a0x,a0F,a1a,reduceCtorEq,c8O,if_false,bs,a0n,a0d]
   exact .some (.inr ⟨by simp,rfl,rfl,_,i',rfl,hp',hi,fun h=>absurd h h0⟩)
 ·rintro ⟨ex,ds,g'⟩ ⟨rfl,rfl,y,i',hds,h1,h2,h3⟩
  simp only at hds
  subst hds
  exact k i' y h1 h2 h3
theorem c1k {c:Kd→Kd→Int} {cmp:D} (hcmp:CmpFY cmp c) {o N:Nat} (hN:N≤1000000) {g:Hp} {l:List Kd} (hl:l.length=N) (ho:g[o]?=some (.row a0h 12 (l.map kdr))) (a b i j:Nat) (p:Kd) (hb:b≤N) (hp:PI c a b i j p l) (r_1:Out) (hr:nth 0 r_1.2.1 = .int .i64 (i:Int)) (x0:D) {β:Type} {K:Out→Option β} {Q:β→Prop}
  (k:∀ (j':Nat) y,PI c a b i j' p l→j'≤j→(i≤j'→∃ u,l[j']?=some u∧c u p<0)→Wp (K (.ext 2,[.int .i64 (j':Int),y],g)) Q) :
  Wp ((a0z (a6q (.msl 12 o 0 N) (.int .i64 (a:Int)) cmp r_1) [.int .i64 (j:Int),x0] g).bind K) Q:=by
 have hab:a<b:=by have:=hp.i1;have:=hp.ij;have:=hp.jb;omega
 refine Wp.loop (fun n ds g'=>g'=g∧∃ x,ds=[.int .i64 (n:Int),x]∧n≤j∧PI c a b i n p l)
  (fun r=>r.1 = .ext 2∧r.2.2=g∧∃ x,∃ j':Nat,r.2.1=[.int .i64 (j':Int),x]∧PI c a b i j' p l∧j'≤j∧(i≤j'→∃ u,l[j']?=some u∧c u p<0)) j ⟨rfl,_,rfl,Nat.le_refl _,hp⟩ ?_ ?_
 ·rintro n ds g' ⟨rfl,x,rfl,hn,hp'⟩
  have hjb:=hp'.jb
  simp only [a6q,a0e,a0g,bs,c8N,hr,a0Y]
  by_cases h0:i≤n
  ·have d0:decide ((i:Int)≤(n:Int))=true:=decide_eq_true (by omega)
   obtain ⟨u,hu⟩:∃ u,l[n]?=some u:=⟨_,c9c (by omega)⟩
   simp only [d0,a0x,a0F,if_true,bs,adY (show n<N by omega),adY (show a<N by omega),a1s ho hu,a1s ho hp'.pv,hcmp.ap,a0q,a1f,a0n]
   by_cases hc:c u p<0
   ·simp only [hc,decide_true,c8X,a0d,c8O,if_false]
    exact .some (.inr ⟨by simp,rfl,rfl,_,n,rfl,hp',hn,fun _=>⟨u,hu,hc⟩⟩)
   ·obtain ⟨m,rfl⟩:∃ m,n=m+1:=⟨n - 1,by have:=hp'.i1;omega⟩
    have w2:IntKind.wrap .i64 (((m+1:Nat):Int) - 1)=(m:Int):=by rw [wrap_i64 (by omega) (by omega)];omega
    simp only [hc,decide_false,c8Y,a0d,if_true,a0t,w2,bs]
    exact .some (.inl ⟨rfl,m,by omega,rfl,_,rfl,by omega,hp'.down h0 hu hc⟩)
  ·have d0:decide ((i:Int)≤(n:Int))=false:=decide_eq_false (by omega)
   simp only [d0,a0x,a0F,a1a,reduceCtorEq,c8O,if_false,bs,a0n,a0d]
   exact .some (.inr ⟨by simp,rfl,rfl,_,n,rfl,hp',hn,fun h=>absurd h h0⟩)
 ·rintro ⟨ex,ds,g'⟩ ⟨rfl,rfl,y,j',hds,h1,h2,h3⟩
  simp only at hds
  subst hds
  exact k j' y h1 h2 h3
theorem c1l {c:Kd→Kd→Int} {cmp:D} (hcmp:CmpFY cmp c) {o N:Nat} (hN:N≤1000000) {g:Hp} {l:List Kd} (hl:l.length=N) (ho:g[o]?=some (.row a0h 12 (l.map kdr))) (a b i j:Nat) (p:Kd) (hb:b≤N) (hp:PI c a b i j p l) (ds2:List D) (hr:nth 1 ds2 = .int .i64 (j:Int)) (x0:D) {β:Type} {K:Out→Option β} {Q:β→Prop}
  (k:∀ (i':Nat) y,PI c a b i' j p l→i≤i'→(i'≤j→∃ u,l[i']?=some u∧¬ c u p<0)→Wp (K (.ext 6,[.int .i64 (i':Int),y],g)) Q) :
  Wp ((a0z (a6r (.msl 12 o 0 N) (.int .i64 (a:Int)) cmp ds2) [.int .i64 (i:Int),x0] g).bind K) Q:=by
 have hab:a<b:=by have:=hp.i1;have:=hp.ij;have:=hp.jb;omega
 refine Wp.loop (fun n ds g'=>g'=g∧∃ x,∃ i':Nat,ds=[.int .i64 (i':Int),x]∧n+i'=j+1∧PI c a b i' j p l∧i≤i')
  (fun r=>r.1 = .ext 6∧r.2.2=g∧∃ x,∃ i':Nat,r.2.1=[.int .i64 (i':Int),x]∧PI c a b i' j p l∧i≤i'∧(i'≤j→∃ u,l[i']?=some u∧¬ c u p<0)) (j+1 - i) ⟨rfl,_,i,rfl,by have:=hp.ij;omega,hp,Nat.le_refl _⟩ ?_ ?_
 ·rintro n ds g' ⟨rfl,x,i',rfl,hn,hp',hi⟩
  have hjb:=hp'.jb
  simp only [a6r,a0e,a0g,bs,c8N,hr,a0Y]
  by_cases h0:i'≤j
  ·have d0:decide ((i':Int)≤(j:Int))=true:=decide_eq_true (by omega)
   obtain ⟨u,hu⟩:∃ u,l[i']?=some u:=⟨_,c9c (by omega)⟩
   have w2:IntKind.wrap .i64 ((i':Int)+1)=((i'+1:Nat):Int):=by rw [wrap_i64 (by omega) (by omega)];omega
   simp only [d0,a0x,a0F,if_true,bs,adY (show i'<N by omega),adY (show a<N by omega),a1s ho hu,a1s ho hp'.pv,hcmp.ap,a0q,a0n]
   by_cases hc:c u p<0
   ·simp only [hc,decide_true,a0d,if_true,a0k,w2,bs]
    exact .some (.inl ⟨rfl,n - 1,by omega,rfl,_,i'+1,rfl,by omega,hp'.up h0 hu hc,by omega⟩)
   ·simp only [hc,decide_false,a0d,c8O,if_false]
    exact .some (.inr ⟨by simp,rfl,rfl,_,i',rfl,hp',hi,fun _=>⟨u,hu,hc⟩⟩)
  ·have d0:decide ((i':Int)≤(j:Int))=false:=decide_eq_false (by omega)
   simp only [d0,a0x,a0F,a1a,reduceCtorEq,c8O,if_false,bs,a0n,a0d]
   exact .some (.inr ⟨by simp,rfl,rfl,_,i',rfl,hp',hi,fun h=>absurd h h0⟩)
 ·rintro ⟨ex,ds,g'⟩ ⟨rfl,rfl,y,i',hds,h1,h2,h3⟩
  simp only at hds
  subst hds
  exact k i' y h1 h2 h3
theorem c1m {c:Kd→Kd→Int} {cmp:D} (hcmp:CmpFY cmp c) {o N:Nat} (hN:N≤1000000) {g:Hp} {l:List Kd} (hl:l.length=N) (ho:g[o]?=some (.row a0h 12 (l.map kdr))) (a b i j:Nat) (p:Kd) (hb:b≤N) (hp:PI c a b i j p l) (r_1:Out) (hr:nth 0 r_1.2.1 = .int .i64 (i:Int)) (x0:D) {β:Type} {K:Out→Option β} {Q:β→Prop}
  (k:∀ (j':Nat) y,PI c a b i j' p l→j'≤j→(i≤j'→∃ u,l[j']?=some u∧c u p<0)→Wp (K (.ext 8,[.int .i64 (j':Int),y],g)) Q) :
  Wp ((a0z (a6s (.msl 12 o 0 N) (.int .i64 (a:Int)) cmp r_1) [.int .i64 (j:Int),x0] g).bind K) Q:=by
 have hab:a<b:=by have:=hp.i1;have:=hp.ij;have:=hp.jb;omega
 refine Wp.loop (fun n ds g'=>g'=g∧∃ x,ds=[.int .i64 (n:Int),x]∧n≤j∧PI c a b i n p l)
  (fun r=>r.1 = .ext 8∧r.2.2=g∧∃ x,∃ j':Nat,r.2.1=[.int .i64 (j':Int),x]∧PI c a b i j' p l∧j'≤j∧(i≤j'→∃ u,l[j']?=some u∧c u p<0)) j ⟨rfl,_,rfl,Nat.le_refl _,hp⟩ ?_ ?_
 ·rintro n ds g' ⟨rfl,x,rfl,hn,hp'⟩
  have hjb:=hp'.jb
  simp only [a6s,a0e,a0g,bs,c8N,hr,a0Y]
  by_cases h0:i≤n
  ·have d0:decide ((i:Int)≤(n:Int))=true:=decide_eq_true (by omega)
   obtain ⟨u,hu⟩:∃ u,l[n]?=some u:=⟨_,c9c (by omega)⟩
   simp only [d0,a0x,a0F,if_true,bs,adY (show n<N by omega),adY (show a<N by omega),a1s ho hu,a1s ho hp'.pv,hcmp.ap,a0q,a1f,a0n]
   by_cases hc:c u p<0
   ·simp only [hc,decide_true,c8X,a0d,c8O,if_false]
    exact .some (.inr ⟨by simp,rfl,rfl,_,n,rfl,hp',hn,fun _=>⟨u,hu,hc⟩⟩)
   ·obtain ⟨m,rfl⟩:∃ m,n=m+1:=⟨n - 1,by have:=hp'.i1;omega⟩
    have w2:IntKind.wrap .i64 (((m+1:Nat):Int) - 1)=(m:Int):=by rw [wrap_i64 (by omega) (by omega)];omega
    simp only [hc,decide_false,c8Y,a0d,if_true,a0t,w2,bs]
    exact .some (.inl ⟨rfl,m,by omega,rfl,_,rfl,by omega,hp'.down h0 hu hc⟩)
  ·have d0:decide ((i:Int)≤(n:Int))=false:=decide_eq_false (by omega)
   simp only [d0,a0x,a0F,a1a,reduceCtorEq,c8O,if_false,bs,a0n,a0d]
   exact .some (.inr ⟨by simp,rfl,rfl,_,n,rfl,hp',hn,fun h=>absurd h h0⟩)
 ·rintro ⟨ex,ds,g'⟩ ⟨rfl,rfl,y,j',hds,h1,h2,h3⟩
  simp only at hds
  subst hds
  exact k j' y h1 h2 h3
end Go.Proofs.YtkpnnfhodlanjaaGreatDoor
