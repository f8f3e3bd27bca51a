/- Laws, on plain data, about functions that the statement reaches. -/
import Derived.Test.YtjmndhbabkjebaaGreatDoorL4
set_option linter.unusedSimpArgs false
set_option linter.unusedVariables false
set_option linter.unnecessarySimpa false
set_option maxRecDepth 100000
namespace Go.Proofs.YtjmndhbabkjebaaGreatDoor
open Go.Eng Go.Pi
open Option (bind_some)
theorem d3e (j:List Int) (n:Int) (ms:List FM) (its:List It) (dj dm dq:D) (h:Hp) (hj:SlOf 1 byr j dj) (hjl:j.length≤1000000000) (hm:SlOf 2 mkr ms dm) (hq:SlOf 11 itr its dq) (hl:ms.length≤1000000) (hT:(its.map a2N).flatten.length≤700000000) (hb:∀ i∈its,(a1r i).length≤800000000) (hck:∀ i∈its,∀ g,R a5E [.agg (itr i)] g=some (.int .i64 (itE i),g)) :
  ∃ d',R a7j [dj,.agg (svr n dm dq)] h=some (.tup [d',.int .i64 (stE n ms its)],h)∧SlOf 1 byr (if stE n ms its=0 then j++b0b n ms its else []) d':=by
 obtain ⟨d1,e1,h1⟩:=c8h n ms its dm dq h hm hq hl hT hb hck
 have hel:=a6m n ms its
 rw [d0I]
 simp only [c5U,a1M,bs,svl,e1,a0J,d7f,d7g,a0w]
 by_cases hc:stE n ms its=0
 case neg =>
  have hcc:decide (stE n ms its≠0)=true:=decide_eq_true hc
  refine ⟨.nils,?_,by rw [if_neg hc];exact .nils _ _⟩
  simp only [hcc,a0d,if_true,a1c]
  exact a1n (by simp) (.tup _ fun d hd=>by simp at hd;rcases hd with rfl | rfl <;> constructor) (Nat.le_refl _) fun _ _=>rfl
 have hcc:decide (stE n ms its≠0)=false:=decide_eq_false (by rw [hc];simp [-bind_some])
 rw [if_pos hc] at h1 ⊢
 rw [hc] at hcc ⊢
 suffices Wp ((a0F tab h a0N a0N .nils dj).bind fun p17=>(a0F tab p17.2 a0N a0N p17.1 d1).bind fun p19=>scope h p19.2 (a0k [p19.1,.int .i64 0])) (fun p=>p.2=h∧∃ d',p.1 = .tup [d',.int .i64 0]∧SlOf 1 byr (j++b0b n ms its) d') by
  obtain ⟨⟨x,h'⟩,h1,rfl,d',rfl,h2⟩:=this
  refine ⟨d',?_,h2⟩
  simp only [hcc,a0d,d7d,if_false]
  exact h1
 refine b2V (n0:=h.length) (rows:=[]) (Nat.le_refl _) (.nils _ _ _ _) (a2L _ hj) (by simp only [d7i,d7u];omega) fun x4 g4 o4 l4 k4 _ _=>?_
 rw [List.nil_append] at o4
 simp only [bs]
 refine b2V (n0:=h.length) l4 o4 (a2L _ h1) (by simp only [d7i];omega) fun x5 g5 o5 l5 k5 _ _=>?_
 rw [← d7j] at o5
 simp only [bs,a1c]
 have hso:=a2g (n0:=h.length) (n:=2) o5 (Nat.le_refl _) (fun a _=>a5L _ g5 2 a)
 rw [a1n (d' := .tup [frz h.length g5 3 x5,.int .i64 0]) (by simp) (by
  refine .tup _ fun d hd=>?_
  simp at hd
  rcases hd with rfl | rfl
  ·exact a1K hso fun a _=>a7K _ a
  ·constructor) (by omega) (fun q hq=>by rw [k5 q hq,k4 q hq])]
 exact .some ⟨rfl,_,rfl,hso⟩
def CuP (g:Hp) (oc:Nat) (s:Cur):Prop:=∃ d,g[oc]?=some (.row a1Q 2 [[d,.bool s.2]])∧SlOf 1 byr s.1 d∧(∀ z∈s.1,U8 z)∧s.1.length≤1000000000
theorem b6K {g:Hp} {oc:Nat} {d:D} {b:Bool} (h:g[oc]?=some (.row a1Q 2 [[d,.bool b]])):a0b tab g a0N (.ptr oc 0 (0+0))=some d∧a0b tab g ty4 (.ptr oc 0 (0+1))=some (.bool b):=⟨by rw [b7T,a0I h];rfl,by rw [d2i,a0I h];rfl⟩
theorem b3H {g:Hp} {oc:Nat} {d:D} {b:Bool} (h:g[oc]?=some (.row a1Q 2 [[d,.bool b]])) {β:Type} {f:Hp→Option β} {Q:β→Prop} (k:∀ g',g'[oc]?=some (.row a1Q 2 [[d,.bool true]])→Same oc g g'→Wp (f g') Q):Wp ((a0h tab g ty4 (.ptr oc 0 (0+1)) (.bool true)).bind f) Q :=
 c8V (kk:=0) (row:=[d,.bool b]) h (by rfl) (by rfl) (by simp) (by rfl) fun g' p s=>k g' p s
theorem c6A {g:Hp} {oc:Nat} {d d':D} {b:Bool} (h:g[oc]?=some (.row a1Q 2 [[d,.bool b]])) (h1:d'.one=true) {β:Type} {f:Hp→Option β} {Q:β→Prop} (k:∀ g',g'[oc]?=some (.row a1Q 2 [[d',.bool b]])→Same oc g g'→Wp (f g') Q):Wp ((a0h tab g a0N (.ptr oc 0 (0+0)) d').bind f) Q :=
 c1k (kk:=0) (row:=[d,.bool b]) h (by rfl) (by rw [(a0z h1).1];rfl) (by simp) (a0z h1).2 fun g' p s=>k g' (by rw [(a0z h1).1] at p;exact p) s
theorem c6w {g:Hp} {oc:Nat} {s:Cur} (hc:CuP g oc s) (n:Nat) (hn:n≤8):∃ g',R a4T [.ptr oc 0 0,.int .i64 n] g=some (.int .i64 (IntKind.wrap .i64 (num (a0G s n).1)),g')∧CuP g' oc (a0G s n).2∧Same oc g g':=by
 suffices Wp (R a4T [.ptr oc 0 0,.int .i64 n] g) (fun p=>p.1 = .int .i64 (IntKind.wrap .i64 (num (a0G s n).1))∧CuP p.2 oc (a0G s n).2∧Same oc g p.2) by
  obtain ⟨⟨x,h'⟩,h1,rfl,h2⟩:=this
  exact ⟨h',h1,h2⟩
 obtain ⟨d,ho,hd,hu,hl⟩:=hc
 obtain ⟨l1,l2⟩:=b6K ho
 obtain ⟨b,bad⟩:=s
 simp only at ho hd hu hl l2
 have h00:IntKind.wrap .i64 (num [])=0:=rfl
 rw [d0V]
 simp only [c6h,bs,a0v,a3Z,a3G,l1,l2,a1Z hd,a0o,d7c,a0u]
 by_cases hb:bad=true
 ·subst hb
  have ht:a0G (b,true) n=([],(b,true)):=by simp [-bind_some, a0G]
  rw [ht]
  simp only [reduceCtorEq,d7e,if_false,bs,a0e,if_true,a0d,a0o]
  refine b3H ho fun g' p s=>?_
  simp only [bs,a0j,h00]
  exact .some ⟨rfl,⟨d,p,hd,hu,hl⟩,s⟩
 have hb:bad=false:=by simpa using hb
 subst hb
 by_cases hn2:b.length<n
 ·have hn3:(n:Int)>(b.length:Int):=by omega
  have ht:a0G (b,false) n=([],(b,true)):=by unfold a0G;rw [if_pos (.inr (.inr (by simp only;omega)))]
  rw [ht]
  simp only [if_true,bs,a0u,hn3,decide_true,d7d,if_false,a0e,a0d,a0v,a3Z,a3G,l1,a1Z hd,d7c]
  refine b3H ho fun g' p s=>?_
  simp only [bs,a0j,h00]
  exact .some ⟨rfl,⟨d,p,hd,hu,hl⟩,s⟩
 ·have hn3:¬ (n:Int)>(b.length:Int):=by omega
  have ht:a0G (b,false) n=(b.take n,(b.drop n,false)):=by
   unfold a0G
   rw [if_neg (by
    rintro (hh | hh | hh)
    ·cases hh
    ·omega
    ·simp only at hh;omega)]
   simp [-bind_some]
  rw [ht]
  obtain ⟨dt,et,st⟩:=a8M hd (k := .i64) (n:=(n:Int)) (by omega) (by omega)
  obtain ⟨dr,er,sr⟩:=c1d hd (k := .i64) (n:=(n:Int)) (by omega) (by omega)
  rw [d7l] at st sr
  have eg:=c4h (b.take n) dt g st (by simp;omega) (fun z hz=>hu z (List.mem_of_mem_take hz))
  simp only [if_true,bs,a0u,hn3,decide_false,d7d,if_false,a0e,a0d,a0v,a3Z,a3G,l1,a1Z hd,et,eg,er,d7c]
  refine c6A ho (a1v sr) fun g' p s=>?_
  simp only [bs,a0j]
  exact .some ⟨rfl,⟨dr,p,sr,fun z hz=>hu z (List.mem_of_mem_drop hz),by simp;omega⟩,s⟩
theorem c2Q (l:List Int) (d:D) (h:Hp) (hd:SlOf 1 byr l d) (hl:l.length≤1000000000) (hu:∀ z∈l,U8 z) :
  ∃ j:It,R a9b [d] h=some (.tup [.agg (itr j),.int .i64 (a3X l).2.1,.int .i64 (a3X l).1],h)∧a1m j=(a3X l).2.2 :=
 c8f l d (ckR (a1X ((l.take (num (l.take 4)).toNat).drop 4,false))) h hd hl hu fun j hj g=>by
  rw [← hj,b0S];exact b5d j g
noncomputable def itS (s:Cur):RI × Cur:=if s.2=true∨(a3X s.1).1≠0 then (a1m zit,(s.1,true)) else ((a3X s.1).2.2,(s.1.drop (a3X s.1).2.1.toNat,false))
theorem b6P (l:List Int) (h:(a3X l).1=0):0≤(a3X l).2.1∧(a3X l).2.1≤l.length:=by
 obtain ⟨a,b,_⟩:=b6O h
 omega
theorem c9m {g:Hp} {oc:Nat} {s:Cur} (hc:CuP g oc s):∃ j g',R b4q [.ptr oc 0 0] g=some (.agg (itr j),g')∧a1m j=(itS s).1∧CuP g' oc (itS s).2∧Same oc g g':=by
 suffices Wp (R b4q [.ptr oc 0 0] g) (fun p=>∃ j,p.1 = .agg (itr j)∧a1m j=(itS s).1∧CuP p.2 oc (itS s).2∧Same oc g p.2) by
  obtain ⟨⟨x,h'⟩,h1,j,rfl,h2⟩:=this
  exact ⟨j,h',h1,h2⟩
 obtain ⟨d,ho,hd,hu,hl⟩:=hc
 have hlt:=(d7s.1 ho).1
 have hz74:([.str [],.int .i64 0,.int .i64 0,.int .i64 0,.int .i64 0,.nils,.int .i64 0,.int .i64 0,.str [],.str [],.nils]:List D)=itr zit:=rfl
 have hbz:a0M tab a0L [] []=some (.agg (itr zit)):=id rfl
 have a0:(a0H g a0L 11 [itr zit])[g.length]?=some (.row a0L 11 [itr zit]):=a1a _ _ _ _
 have k0:∀ q,q<g.length→(a0H g a0L 11 [itr zit])[q]?=g[q]?:=fun q hq=>a0W _ _ _ _ hq
 have l0:(a0H g a0L 11 [itr zit]).length=g.length+1:=by simp [-bind_some, a0H]
 rw [d0W]
 simp only [c6i,hz74,bs,a0v,a3Z,a3G,d7c]
 generalize a0H g a0L 11 [itr zit]=g1 at *
 have ho1:g1[oc]?=some (.row a1Q 2 [[d,.bool s.2]]):=by rw [k0 oc hlt];exact ho
 obtain ⟨l1,l2⟩:=b6K ho1
 obtain ⟨j,ej,hj⟩:=c2Q s.1 d g1 hd hl hu
 simp only [l1,ej,bs,a0J,d7f,d7g,c2D,l2,a0o,a0w]
 -- the end: the result's variable holds j, the cursor this
 have fin:∀ (g3:Hp) (j:It) (dd:D) (s':Cur),g3[oc]?=some (.row a1Q 2 [[dd,.bool s'.2]])→SlOf 1 byr s'.1 dd→(∀ z∈s'.1,U8 z)→s'.1.length≤1000000000→g3[g.length]?=some (.row a0L 11 [itr zit])→g3.length=g.length+1→(∀ q,q<g.length→q≠oc→g3[q]?=g[q]?)→a1m j=(itS s).1→s'=(itS s).2 →
   Wp ((a0h tab g3 a0L (.ptr g.length 0 0) (.agg (itr j))).bind fun h'=>(a0b tab h' a0L (.ptr g.length 0 0)).bind fun d0=>scope g h' (a0k [d0])) (fun p=>∃ j,p.1 = .agg (itr j)∧a1m j=(itS s).1∧CuP p.2 oc (itS s).2∧Same oc g p.2):=by
  intro g3 j dd s' q1 q2 q3 q4 q5 q6 q7 q8 q9
  refine b2a (kk:=0) (off:=0) (row:=itr zit) (v := .agg (itr j)) q5 (by rfl) (by rfl) (by exact Nat.le_refl _) (b2w _) fun g4 p4 s4=>?_
  have p4:g4[g.length]?=some (.row a0L 11 [itr j]):=p4
  have ld:a0b tab g4 a0L (.ptr g.length 0 0)=some (.agg (itr j)):=by rw [a8g,a0I p4];rfl
  have r4:g4[oc]?=some (.row a1Q 2 [[dd,.bool s'.2]]):=by rw [s4.2 oc (by omega)];exact q1
  have G:Grow g.length oc g g4:=⟨by rw [s4.1];omega,fun q hq hne=>by rw [s4.2 q (by omega)];exact q7 q hq hne⟩
  obtain ⟨c1,c2,c3⟩:=a9o (h:=g) (h2:=g4) (d := .agg (itr j)) (d' := .agg (itr j)) (o:=oc) (by rw [b0l,a3m fun d hd=>a4q g.length g4 2 j d hd]) (a9f _ _) G (fun T sz rows hr row hrow x hx=>by
   rw [r4] at hr
   injection hr with hr
   injection hr with _ _ hr
   subst hr
   simp at hrow
   subst hrow
   simp at hx
   rcases hx with rfl | rfl
   ·exact a1K q2 fun a _=>a7K _ a
   ·constructor)
  simp only [ld,bs,a0j,c1]
  refine .some ⟨j,rfl,q8,?_,c2⟩
  rw [← q9]
  exact ⟨dd,by rw [c3 oc hlt];exact r4,q2,q3,q4⟩
 cases hb:s.2 with
 | true =>
  have hi:itS s=(a1m zit,(s.1,true)):=by unfold itS;rw [if_pos (.inl hb)]
  rw [hb] at ho1
  simp only [reduceCtorEq,d7e,if_false,bs,a0e,if_true,a0d]
  refine b3H ho1 fun g2 p2 s2=>?_
  simp only [bs,hbz]
  exact fin g2 zit d (s.1,true) p2 hd hu hl (by rw [s2.2 _ (by omega)];exact a0) (by rw [s2.1];exact l0) (fun q hq hne=>by rw [s2.2 q hne];exact k0 q hq) (by rw [hi]) (by rw [hi])
 | false =>
  rw [hb] at ho1
  simp only [if_true,bs,a0w,a0e,d7d,if_false]
  by_cases he:(a3X s.1).1=0
  ·have hi:itS s=((a3X s.1).2.2,(s.1.drop (a3X s.1).2.1.toNat,false)):=by unfold itS;rw [if_neg fun hh=>hh.elim (fun hh=>by rw [hb] at hh;cases hh) fun hh=>hh he]
   have hd0:decide ((a3X s.1).1≠0)=false:=decide_eq_false (by rw [he];simp [-bind_some])
   obtain ⟨z0,z1⟩:=b6P s.1 he
   obtain ⟨dr,er,sr⟩:=c1d hd (k := .i64) (n:=(a3X s.1).2.1) z0 z1
   simp only [hd0,a0d,d7d,if_false,l1,er,bs]
   refine c6A ho1 (a1v sr) fun g2 p2 s2=>?_
   simp only [bs,d2f]
   exact fin g2 j dr (s.1.drop (a3X s.1).2.1.toNat,false) p2 sr (fun z hz=>hu z (List.mem_of_mem_drop hz)) (by simp;omega) (by rw [s2.2 _ (by omega)];exact a0) (by rw [s2.1];exact l0) (fun q hq hne=>by rw [s2.2 q hne];exact k0 q hq) (by rw [hi];exact hj) (by rw [hi])
  ·have hi:itS s=(a1m zit,(s.1,true)):=by unfold itS;rw [if_pos (.inr he)]
   have hd0:decide ((a3X s.1).1≠0)=true:=decide_eq_true he
   simp only [hd0,a0d,if_true]
   refine b3H ho1 fun g2 p2 s2=>?_
   simp only [bs,hbz]
   exact fin g2 zit d (s.1,true) p2 hd hu hl (by rw [s2.2 _ (by omega)];exact a0) (by rw [s2.1];exact l0) (fun q hq hne=>by rw [s2.2 q hne];exact k0 q hq) (by rw [hi]) (by rw [hi])
def a3u:Nat→Cur→List FM × Cur
 | 0,s=>([],s)
 | n+1,s=>if s.2=true then ([],s) else (((a0R s).1,(a0R (a0R s).2).1)::(a3u n (a0R (a0R s).2).2).1,(a3u n (a0R (a0R s).2).2).2)
noncomputable def qsS:Nat→Cur→List RI × Cur
 | 0,s=>([],s)
 | n+1,s=>if s.2=true then ([],s) else ((itS s).1::(qsS n (itS s).2).1,(qsS n (itS s).2).2)
theorem b4N (n:Nat) (s:Cur) (h:s.2=true):a3u n s=([],s):=by
 cases n with
 | zero=>rfl
 | succ n=>simp [-bind_some, a3u,h]
theorem b2N (n:Nat) (s:Cur) (h:s.2=true):qsS n s=([],s):=by
 cases n with
 | zero=>rfl
 | succ n=>simp [-bind_some, qsS,h]
theorem b0v:∀ (n:Nat) (s:Cur),(a3u n s).1.length≤n
 | 0,s=>Nat.le_refl _
 | n+1,s=>by
  unfold a3u
  split
  ·simp [-bind_some]
  ·have:=b0v n (a0R (a0R s).2).2
   simp only [d7t];omega
theorem b8B:∀ (n:Nat) (s:Cur),(qsS n s).1.length≤n
 | 0,s=>Nat.le_refl _
 | n+1,s=>by
  unfold qsS
  split
  ·simp [-bind_some]
  ·have:=b8B n (itS s).2
   simp only [d7t];omega
structure DcP (h g:Hp) (row:List D) (s:Cur):Prop where
 r0:g[h.length]?=some (.row a0f 3 [svr 0 .nils .nils])
 cu:CuP g (h.length+1) s
 st:g[h.length+2]?=some (.row a0f 3 [row])
 lo:∀ q,q<h.length→g[q]?=h[q]?
theorem DcP.ln {h g:Hp} {row:List D} {s:Cur} (P:DcP h g row s):h.length+3≤g.length:=by have:=(d7s.1 P.st).1;omega
theorem DcP.cur {h g g':Hp} {row:List D} {s s':Cur} (P:DcP h g row s) (hc:CuP g' (h.length+1) s') (hs:Same (h.length+1) g g'):DcP h g' row s' :=
 ⟨by rw [hs.2 _ (by omega)];exact P.r0,hc,by rw [hs.2 _ (by omega)];exact P.st,fun q hq=>by rw [hs.2 q (by omega)];exact P.lo q hq⟩
theorem DcP.keep {h g g':Hp} {row:List D} {s:Cur} (P:DcP h g row s) (hk:∀ q,q<h.length+3→g'[q]?=g[q]?):DcP h g' row s:=by
 obtain ⟨d,h1,h2⟩:=P.cu
 exact ⟨by rw [hk _ (by omega)];exact P.r0,⟨d,by rw [hk _ (by omega)];exact h1,h2⟩,by rw [hk _ (by omega)];exact P.st,fun q hq=>by rw [hk q (by omega)];exact P.lo q hq⟩
theorem DcP.sta {h g g':Hp} {row row':List D} {s:Cur} (P:DcP h g row s) (hp:g'[h.length+2]?=some (.row a0f 3 [row'])) (hs:Same (h.length+2) g g'):DcP h g' row' s:=by
 obtain ⟨d,h1,h2⟩:=P.cu
 exact ⟨by rw [hs.2 _ (by omega)];exact P.r0,⟨d,by rw [hs.2 _ (by omega)];exact h1,h2⟩,hp,fun q hq=>by rw [hs.2 q (by omega)];exact P.lo q hq⟩
theorem DcP.own {h g g':Hp} {row:List D} {s:Cur} {e z o:Nat} {rows:List (List D)} {d:D} (ow:Own g (h.length+3) e z rows d) (ho:o<h.length+3) (hs:Same o g g'):Own g' (h.length+3) e z rows d:=ow.same hs ho
theorem d2s {g:Hp} {oc:Nat} {s:Cur} (hc:CuP g oc s):∃ g',R a4T [.ptr oc 0 0,.int .i64 8] g=some (.int .i64 (a0R s).1,g')∧CuP g' oc (a0R s).2∧Same oc g g':=c6w hc 8 (by omega)
theorem c7A {g:Hp} {oc:Nat} {s:Cur} (hc:CuP g oc s):∃ g',R a4T [.ptr oc 0 0,.int .i64 4] g=some (.int .i64 (a1D s).1,g')∧CuP g' oc (a1D s).2∧Same oc g g':=c6w hc 4 (by omega)
theorem b4C {s:Cur} (hu:∀ z∈s.1,U8 z):∃ n:Nat,(a1D s).1=n∧n<4294967296:=by
 have hl:=a3K s 4
 obtain ⟨k,hk⟩:∃ k,(a0G s 4).1.length=k:=⟨_,rfl⟩
 obtain ⟨a,b⟩:=a2n k _ hk (a4x hu 4).1
 have hb:num (a0G s 4).1<4294967296:=by
  have hl':k≤4:=by rw [← hk];exact hl
  have:k=0∨k=1∨k=2∨k=3∨k=4:=by omega
  rcases this with rfl | rfl | rfl | rfl | rfl <;> omega
 refine ⟨(num (a0G s 4).1).toNat,?_,by omega⟩
 show IntKind.wrap .i64 (num (a0G s 4).1)=_
 rw [wrap_i64 (by omega) (by omega)];omega
theorem c2M {h:Hp} {a:Int} {N:Nat} (hN:N<4294967296) {s0:Cur} {p7:D × Hp} (hp7:p7.1 = .ptr (h.length+2) 0 0) {g:Hp} (P:DcP h g (svr a .nils .nils) s0) (x:D) {β:Type} {K:Out→Option β} {Q:β→Prop}
  (k:∀ g' dm b c,DcP h g' (svr a dm .nils) (a3u N s0).2→Own g' (h.length+3) a0K 2 ((a3u N s0).1.map mkr) dm→Wp (K (.ext 0,[b,c],g')) Q) :
  Wp ((a0P (a9I (.ptr (h.length+1) 0 0) p7) [.int .i64 N,x] g).bind K) Q:=by
 refine Wp.loop (fun r ds g=>∃ y dm,∃ s:Cur,∃ L:List FM,ds=[.int .i64 r,y]∧r+L.length≤N∧DcP h g (svr a dm .nils) s∧Own g (h.length+3) a0K 2 (L.map mkr) dm∧L++(a3u r s).1=(a3u N s0).1∧(a3u r s).2=(a3u N s0).2)
  (fun r=>r.1 = .ext 0∧∃ b c dm,r.2.1=[b,c]∧DcP h r.2.2 (svr a dm .nils) (a3u N s0).2∧Own r.2.2 (h.length+3) a0K 2 ((a3u N s0).1.map mkr) dm) N ⟨_,.nils,s0,[],rfl,by simp,P,.nils _ _ _ _,rfl,rfl⟩ ?_ ?_
 ·rintro r ds g ⟨y,dm,s,L,rfl,hr,P,ow,q1,q2⟩
  obtain ⟨d,ho,hd,hu,hl⟩:=P.cu
  obtain ⟨l1,l2⟩:=b6K ho
  have stop:(s.2=true∨r=0)→a3u r s=([],s):=by
   rintro (h0 | h0)
   ·exact b4N r s h0
   ·rw [h0];rfl
  have fin:(s.2=true∨r=0)→∀ b c:D,Wp (some ((Ex.ext 0,[b,c],g):Out)) (fun x:Out=>(x.1 = .nrm∧∃ r'<r,∃ y dm,∃ s:Cur,∃ L:List FM,x.2.1=[.int .i64 r',y]∧r'+L.length≤N∧DcP h x.2.2 (svr a dm .nils) s∧Own x.2.2 (h.length+3) a0K 2 (L.map mkr) dm∧L++(a3u r' s).1=(a3u N s0).1∧(a3u r' s).2=(a3u N s0).2)∨(x.1 ≠ .nrm∧x.1 = .ext 0∧∃ b c dm,x.2.1=[b,c]∧DcP h x.2.2 (svr a dm .nils) (a3u N s0).2∧Own x.2.2 (h.length+3) a0K 2 ((a3u N s0).1.map mkr) dm)):=by
   intro h0 b c
   rw [stop h0] at q1 q2
   simp only [List.append_nil] at q1 q2
   exact .some (.inr ⟨by simp,rfl,b,c,dm,rfl,by rw [← q2];exact P,by rw [← q1];exact ow⟩)
  simp only [a9I,a0g,a0q,bs,d7c,a0u,hp7]
  by_cases hr0:r=0
  ·subst hr0
   simp only [show decide (((0:Nat):Int)>0)=false by decide,a0o,a1q,d7d,reduceCtorEq,if_false,bs,a0e,a0d]
   exact fin (.inr rfl) _ _
  have hrp:decide ((r:Int)>0)=true:=decide_eq_true (by omega)
  simp only [hrp,a0o,if_true,bs,a0v,a3G,l2,a1C,a0e,a0d]
  cases hb:s.2 with
  | true =>
   simp only [d7m,d7d,if_false]
   exact fin (.inl hb) _ _
  | false =>
   obtain ⟨r',rfl⟩:∃ r',r=r'+1:=⟨r - 1,by omega⟩
   have hS:a3u (r'+1) s=(((a0R s).1,(a0R (a0R s).2).1)::(a3u r' (a0R (a0R s).2).2).1,(a3u r' (a0R (a0R s).2).2).2):=by simp [-bind_some, a3u,hb]
   rw [hS] at q1 q2
   have ldm:∀ {g':Hp} {s':Cur} {dq:D},DcP h g' (svr a dm dq) s'→a0b tab g' a0C (.ptr (h.length+2) 0 (0+1))=some dm:=fun P=>by rw [b2A,a0I P.st];rfl
   have P0:=P
   obtain ⟨g1,e1,c1,s1⟩:=d2s P.cu
   have P1:=P.cur c1 s1
   obtain ⟨g2,e2,c2,s2⟩:=d2s P1.cu
   have P2:=P1.cur c2 s2
   have ow2:=(ow.same s1 (by omega)).same s2 (by omega)
   have hw:IntKind.wrap .i64 (((r'+1:Nat):Int) - 1)=(r':Int):=by rw [wrap_i64 (by omega) (by omega)];omega
   simp only [d7n,if_true,a3Y,ldm P0,ldm P1,ldm P2,e1,e2,bs,a5m,a6f,a1H,d7c]
   refine a7b (ys:=[mkr ((a0R s).1,(a0R (a0R s).2).1)]) (n0:=h.length+3) P2.ln ow2 (a1d _ _ _ _) (by simp;omega) fun dm' g3 ow3 l3 k3 _ _=>?_
   have P3:=P2.keep k3
   simp only [bs]
   refine a7c (kk:=0) (row:=svr a dm .nils) P3.st (by rfl) (by rw [(a0z (a1l ow3)).1];rfl) (by simp [-bind_some, svr]) (a0z (a1l ow3)).2 fun g4 p4 s4=>?_
   rw [(a0z (a1l ow3)).1] at p4
   have P4:DcP h g4 (svr a dm' .nils) _:=P3.sta p4 s4
   simp only [bs,a0D,hw]
   refine .some (.inl ⟨rfl,r',by omega,_,dm',(a0R (a0R s).2).2,L++[((a0R s).1,(a0R (a0R s).2).1)],rfl,by simp;omega,P4,?_,by simpa using q1,q2⟩)
   rw [d7j]
   exact ow3.same s4 (by omega)
 ·rintro ⟨ex,ds,g⟩ ⟨rfl,b,c,dm,rfl,P,ow⟩
  exact k g dm b c P ow
theorem c2N {h:Hp} {a:Int} {N:Nat} (hN:N<4294967296) {ms:List FM} {dm:D} {s0:Cur} {p7:D × Hp} (hp7:p7.1 = .ptr (h.length+2) 0 0) {g:Hp} (P:DcP h g (svr a dm .nils) s0) (owm:Own g (h.length+3) a0K 2 (ms.map mkr) dm) (x:D) {β:Type} {K:Out→Option β} {Q:β→Prop}
  (k:∀ g' dq (its:List It) b c,DcP h g' (svr a dm dq) (qsS N s0).2→Own g' (h.length+3) a0K 2 (ms.map mkr) dm→Own g' (h.length+3) a0L 11 (its.map itr) dq→its.map a1m=(qsS N s0).1→Wp (K (.ext 2,[b,c],g')) Q) :
  Wp ((a0P (a9J (.ptr (h.length+1) 0 0) p7) [.int .i64 N,x] g).bind K) Q:=by
 refine Wp.loop (fun r ds g=>∃ y dq,∃ s:Cur,∃ L:List It,ds=[.int .i64 r,y]∧r+L.length≤N∧DcP h g (svr a dm dq) s∧Own g (h.length+3) a0K 2 (ms.map mkr) dm∧Own g (h.length+3) a0L 11 (L.map itr) dq∧L.map a1m++(qsS r s).1=(qsS N s0).1∧(qsS r s).2=(qsS N s0).2)
  (fun r=>r.1 = .ext 2∧∃ b c dq,∃ L:List It,r.2.1=[b,c]∧DcP h r.2.2 (svr a dm dq) (qsS N s0).2∧Own r.2.2 (h.length+3) a0K 2 (ms.map mkr) dm∧Own r.2.2 (h.length+3) a0L 11 (L.map itr) dq∧L.map a1m=(qsS N s0).1) N ⟨_,.nils,s0,[],rfl,by simp,P,owm,.nils _ _ _ _,rfl,rfl⟩ ?_ ?_
 ·rintro r ds g ⟨y,dq,s,L,rfl,hr,P,owm,ow,q1,q2⟩
  obtain ⟨d,ho,hd,hu,hl⟩:=P.cu
  obtain ⟨l1,l2⟩:=b6K ho
  have stop:(s.2=true∨r=0)→qsS r s=([],s):=by
   rintro (h0 | h0)
   ·exact b2N r s h0
   ·rw [h0];rfl
  have fin:(s.2=true∨r=0)→∀ b c:D,Wp (some ((Ex.ext 2,[b,c],g):Out)) (fun x:Out=>(x.1 = .nrm∧∃ r'<r,∃ y dq,∃ s:Cur,∃ L:List It,x.2.1=[.int .i64 r',y]∧r'+L.length≤N∧DcP h x.2.2 (svr a dm dq) s∧Own x.2.2 (h.length+3) a0K 2 (ms.map mkr) dm∧Own x.2.2 (h.length+3) a0L 11 (L.map itr) dq∧L.map a1m++(qsS r' s).1=(qsS N s0).1∧(qsS r' s).2=(qsS N s0).2)∨(x.1 ≠ .nrm∧x.1 = .ext 2∧∃ b c dq,∃ L:List It,x.2.1=[b,c]∧DcP h x.2.2 (svr a dm dq) (qsS N s0).2∧Own x.2.2 (h.length+3) a0K 2 (ms.map mkr) dm∧Own x.2.2 (h.length+3) a0L 11 (L.map itr) dq∧L.map a1m=(qsS N s0).1)):=by
   intro h0 b c
   rw [stop h0] at q1 q2
   simp only [List.append_nil] at q1 q2
   exact .some (.inr ⟨by simp,rfl,b,c,dq,L,rfl,by rw [← q2];exact P,owm,ow,q1⟩)
  simp only [a9J,a0g,a0q,bs,d7c,a0u,hp7]
  by_cases hr0:r=0
  ·subst hr0
   simp only [show decide (((0:Nat):Int)>0)=false by decide,a0o,a1q,d7d,reduceCtorEq,if_false,bs,a0e,a0d]
   exact fin (.inr rfl) _ _
  have hrp:decide ((r:Int)>0)=true:=decide_eq_true (by omega)
  simp only [hrp,a0o,if_true,bs,a0v,a3G,l2,a1C,a0e,a0d]
  cases hb:s.2 with
  | true =>
   simp only [d7m,d7d,if_false]
   exact fin (.inl hb) _ _
  | false =>
   obtain ⟨r',rfl⟩:∃ r',r=r'+1:=⟨r - 1,by omega⟩
   have hS:qsS (r'+1) s=((itS s).1::(qsS r' (itS s).2).1,(qsS r' (itS s).2).2):=by simp [-bind_some, qsS,hb]
   rw [hS] at q1 q2
   have ldq:∀ {g':Hp} {s':Cur},DcP h g' (svr a dm dq) s'→a0b tab g' a1x (.ptr (h.length+2) 0 (0+2))=some dq:=fun P=>by rw [c1I,a0I P.st];rfl
   have P0:=P
   obtain ⟨j,g1,e1,hj,c1,s1⟩:=c9m P.cu
   have P1:=P.cur c1 s1
   have ow1:=ow.same s1 (by omega)
   have owm1:=owm.same s1 (by omega)
   have hlit:a0X tab a1x 1 [0] [.agg (itr j)]=some (.sl 11 true [itr j]):=id rfl
   have hw:IntKind.wrap .i64 (((r'+1:Nat):Int) - 1)=(r':Int):=by rw [wrap_i64 (by omega) (by omega)];omega
   simp only [d7n,if_true,a6s,ldq P0,ldq P1,e1,bs,hlit,a1H,d7c]
   have hdm:∀ q,dm.inOb q→¬ dq.inOb q:=fun q hq hq2=>by
    have h1:=a1V owm1 hq
    have h2:=a1V ow1 hq2
    rw [h1] at h2
    injection h2 with h2
    injection h2 with h2
    exact absurd h2 (by decide)
   refine b1X (ys:=[itr j]) (n0:=h.length+3) P1.ln ow1 (a1d _ _ _ _) (by simp;omega) fun dq' g3 ow3 l3 k3 k3' _=>?_
   have P3:=P1.keep k3
   have owm3:=owm1.keep fun q _ hq=>k3' q (owm1.lt hq).2 (hdm q hq)
   simp only [bs]
   refine b5k (kk:=0) (row:=svr a dm dq) P3.st (by rfl) (by rw [(a0z (a1l ow3)).1];rfl) (by simp [-bind_some, svr]) (a0z (a1l ow3)).2 fun g4 p4 s4=>?_
   rw [(a0z (a1l ow3)).1] at p4
   have P4:DcP h g4 (svr a dm dq') _:=P3.sta p4 s4
   simp only [bs,a0D,hw]
   refine .some (.inl ⟨rfl,r',by omega,_,dq',(itS s).2,L++[j],rfl,by simp;omega,P4,owm3.same s4 (by omega),?_,by rw [d7j];simpa [-bind_some, hj] using q1,q2⟩)
   rw [d7j]
   exact ow3.same s4 (by omega)
 ·rintro ⟨ex,ds,g⟩ ⟨rfl,b,c,dq,L,rfl,P,owm,ow,hL⟩
  exact k g dq L b c P owm ow hL
def dN (l:List Int):Nat:=(num ((l.drop 4).take 4)).toNat
def dS0 (l:List Int):Cur:=((l.take (8+dN l)).drop 8,false)
def dA (l:List Int):Int × Cur:=a0R (dS0 l)
def dM (l:List Int):List FM × Cur:=a3u (a1D (dA l).2).1.toNat (a1D (dA l).2).2
noncomputable def dQ (l:List Int):List RI × Cur:=qsS (a1D (dM l).2).1.toNat (a1D (dM l).2).2
def b3K (l:List Int):Prop:=(dQ l).2.2=true∨0<(dQ l).2.1.length∨stC (dA l).1 (dM l).1 (dQ l).1.length≠0
open Classical in
noncomputable def a2x (l:List Int):Int × Int × (Int × List FM × List RI) :=
 if l.length<8 then (14,0,0,[],[]) else if l.take 4≠magS then (1,0,0,[],[]) else if l.length<12+dN l then (14,0,0,[],[])
 else if a2t (l.take (8+dN l))≠num ((l.drop (8+dN l)).take 4) then (15,0,0,[],[]) else if b3K l then (1,0,0,[],[])
 else (0,((12+dN l:Nat):Int),(dA l).1,(dM l).1,(dQ l).1)
theorem d3i (s p:Str) (h:Hp) (hl:p.length≤s.length):R b7C [.str s,.str p] h=some (.bool (s.take p.length==p),h):=by
 have h1:(s.length:Int)≥(p.length:Int):=by omega
 have e:R b7D [.str s,.str p] h=some (.bool (s.take p.length==p),h):=by
  rw [d0X]
  have hs:a0A tab ty9 false true false [.str s,.int .i64 (p.length:Nat)]=some (.str (s.take p.length)):=by
   have h2:tab ty9=some ti9:=id rfl
   have h3:ti9.td = .str:=id rfl
   simp [-bind_some, a0A,a3f,a2k,h2,h3,hl]
  simp only [c6j,bs,a4W,a3x,decide_eq_true h1,a0o,if_true,hs,a2H,a0e,a0j]
 rw [d0T]
 simp only [c6f,e,bs,a0j]
theorem c3F (l:List Int) (hu:∀ z∈l,U8 z) (hl:8≤l.length):((bys (l.take 8)).take ([76,84,49,10]:Str).length==([76,84,49,10]:Str))=decide (l.take 4=magS):=by
 have e1:(bys (l.take 8)).take ([76,84,49,10]:Str).length=bys (l.take 4):=by
  simp only [bys,d7t,d7u,← List.map_take,List.take_take]
  rfl
 have e2:([76,84,49,10]:Str)=bys magS:=by decide
 rw [e1,e2]
 by_cases h:l.take 4=magS
 ·rw [h];simp [-bind_some]
 ·have:bys (l.take 4)≠bys magS:=fun hh=>h (by rw [← a8q (l.take 4) (fun z hz=>hu z (List.mem_of_mem_take hz)),hh,a8q magS (by unfold magS U8;decide)])
  simp [-bind_some, h,this]
theorem a7q {h g:Hp} {row:List D} (r0:g[h.length]?=some (.row a0f 3 [row])) (hr:row.length=3) (lo:∀ q,q<h.length→g[q]?=h[q]?) (e:Int) {Q:D × Hp→Prop} (hQ:Q (.tup [.agg (svr 0 .nils .nils),.int .i64 0,.int .i64 e],h)) :
  Wp ((a0h tab g a0f (.ptr h.length 0 0) (.agg [.int .i64 0,.nils,.nils])).bind fun h'=>(a0b tab h' a0f (.ptr h.length 0 0)).bind fun d0=>scope h h' (a0k [d0,.int .i64 0,.int .i64 e])) Q:=by
 have hlt:=(d7s.1 r0).1
 refine a4z (kk:=0) (off:=0) (row:=row) (v := .agg [.int .i64 0,.nils,.nils]) r0 (by rfl) (by rfl) (by rw [hr];exact Nat.le_refl _) (by rfl) fun g' p s=>?_
 have hs:spl row 0 (a0B (.agg [.int .i64 0,.nils,.nils]))=svr 0 .nils .nils:=by simp [-bind_some, spl,a0B,hr,svr]
 rw [hs] at p
 have p:g'[h.length]?=some (.row a0f 3 [svr 0 .nils .nils]):=p
 have ld:a0b tab g' a0f (.ptr h.length 0 0)=some (.agg (svr 0 .nils .nils)):=by rw [a3r,a0I p];rfl
 simp only [ld,bs,a6T]
 rw [a1n (d' := .tup [.agg (svr 0 .nils .nils),.int .i64 0,.int .i64 e]) (by simp [-bind_some, svr]) (by
  refine .tup _ fun d hd=>?_
  simp at hd
  rcases hd with rfl | rfl | rfl
  ·exact .agg _ fun d hd=>by simp [-bind_some, svr] at hd;rcases hd with rfl | rfl <;> constructor
  ·constructor
  ·constructor) (by rw [s.1];omega) (fun q hq=>by rw [s.2 q (by omega)];exact lo q hq)]
 exact .some hQ
theorem c0Q (h:Hp) (n:Nat) (m:FM):∀ d∈mkr m,a8B h n d=d:=by
 intro d hd
 simp only [mkr,d7x,List.not_mem_nil,or_false] at hd
 rcases hd with rfl | rfl <;> (cases n <;> rfl)
theorem a4Y (n0:Nat) (h:Hp) (n:Nat) (m:FM):∀ d∈mkr m,frz n0 h n d=d:=by
 intro d hd
 simp only [mkr,d7x,List.not_mem_nil,or_false] at hd
 rcases hd with rfl | rfl <;> exact b2t _ _ _ _ _
theorem b1H (n:Nat) (m:FM):∀ d∈mkr m,Ok n d:=by
 intro d hd
 simp only [mkr,d7x,List.not_mem_nil,or_false] at hd
 rcases hd with rfl | rfl <;> exact .int _ _
theorem c0y (h:Hp) (n:Nat) (i:It):∀ d∈itr i,a8B h n d=d:=by
 intro d hd
 simp only [itr,evr,d7x,List.not_mem_nil,or_false] at hd
 rcases hd with rfl | rfl | rfl | rfl | rfl | rfl | rfl | rfl | rfl | rfl | rfl
 case inr.inr.inr.inr.inr.inl=>rcases i.e.hld with ⟨hh,_⟩ | ⟨b,hh⟩ <;> rw [hh] <;> cases n <;> rfl
 case inr.inr.inr.inr.inr.inr.inr.inr.inr.inr=>rcases i.e.hfd with ⟨hh,_⟩ | ⟨b,hh⟩ <;> rw [hh] <;> cases n <;> rfl
 all_goals (cases n <;> rfl)
theorem c8k (l:List Int) (d:D) (h:Hp) (hd:SlOf 1 byr l d) (hl:l.length≤1000000000) (hu:∀ z∈l,U8 z) :
  ∃ dm dq its,R a4E [d] h=some (.tup [.agg (svr (a2x l).2.2.1 dm dq),.int .i64 (a2x l).2.1,.int .i64 (a2x l).1],h)∧SlOf 2 mkr (a2x l).2.2.2.1 dm∧SlOf 11 itr its dq∧its.map a1m=(a2x l).2.2.2.2:=by
 suffices Wp (R a4E [d] h) (fun p=>∃ dm dq its,p=(.tup [.agg (svr (a2x l).2.2.1 dm dq),.int .i64 (a2x l).2.1,.int .i64 (a2x l).1],h)∧SlOf 2 mkr (a2x l).2.2.2.1 dm∧SlOf 11 itr its dq∧its.map a1m=(a2x l).2.2.2.2) by
  obtain ⟨p,h1,dm,dq,its,rfl,h2⟩:=this
  exact ⟨dm,dq,its,h1,h2⟩
 have fin:∀ e,a2x l=(e,0,0,[],[])→∃ dm dq its,((.tup [.agg (svr 0 .nils .nils),.int .i64 0,.int .i64 e],h):D × Hp)=(.tup [.agg (svr (a2x l).2.2.1 dm dq),.int .i64 (a2x l).2.1,.int .i64 (a2x l).1],h)∧SlOf 2 mkr (a2x l).2.2.2.1 dm∧SlOf 11 itr its dq∧its.map a1m=(a2x l).2.2.2.2:=fun e he=>by
  rw [he];exact ⟨.nils,.nils,[],rfl,.nils _ _,.nils _ _,rfl⟩
 have r0:(a0H h a0f 3 [[.int .i64 0,.nils,.nils]])[h.length]?=some (.row a0f 3 [svr 0 .nils .nils]):=a1a _ _ _ _
 have l0:(a0H h a0f 3 [[.int .i64 0,.nils,.nils]]).length=h.length+1:=by simp [-bind_some, a0H]
 have k0:∀ q,q<h.length→(a0H h a0f 3 [[.int .i64 0,.nils,.nils]])[q]?=h[q]?:=fun q hq=>a0W _ _ _ _ hq
 rw [d0S]
 simp only [c6e,bs,a1Z hd,a0n,b6t,d7c]
 generalize a0H h a0f 3 [[.int .i64 0,.nils,.nils]]=g0 at *
 by_cases h8:l.length<8
 ·have h8':(l.length:Int)<8:=by omega
  simp only [h8',decide_true,a0d,if_true]
  exact a7q r0 rfl k0 14 (fin 14 (by unfold a2x;rw [if_pos h8]))
 have h8':¬ (l.length:Int)<8:=by omega
 obtain ⟨d8,e8,s8⟩:=a8M hd (k := .i64) (n:=8) (by omega) (by omega)
 have s8:SlOf 1 byr (l.take 8) d8:=s8
 have epre:=d3i (bys (l.take 8)) [76,84,49,10] g0 (by simp [-bind_some, bys];omega)
 rw [c3F l hu (by omega)] at epre
 simp only [h8',decide_false,a0d,d7d,if_false,e8,bs,a5u s8,epre,a1C]
 by_cases hmag:l.take 4=magS
 case neg =>
  have hm:decide (l.take 4=magS)=false:=decide_eq_false hmag
  simp only [hm,d7n,if_true]
  exact a7q r0 rfl k0 1 (fin 1 (by unfold a2x;rw [if_neg h8,if_pos hmag]))
 have hm:decide (l.take 4=magS)=true:=decide_eq_true hmag
 obtain ⟨dc,ec,sc⟩:=a5M hd 4 8 (by omega) (by omega)
 have lc:(l.take 8).drop 4=(l.drop 4).take 4:=by rw [List.drop_take]
 rw [lc] at sc
 have ec:a0A tab a0N true true false [d,.int .i64 4,.int .i64 8]=some dc:=ec
 have hu4:∀ z∈(l.drop 4).take 4,U8 z:=fun z hz=>hu z (List.mem_of_mem_drop (List.mem_of_mem_take hz))
 obtain ⟨n0,n1⟩:=a2n 4 ((l.drop 4).take 4) (by simp;omega) hu4
 rw [a6E] at n1
 have eg:=c4h _ dc g0 sc (by simp;omega) hu4
 have hN:IntKind.wrap .i64 (num ((l.drop 4).take 4))=(dN l:Int):=by rw [wrap_i64 (by omega) (by omega)];unfold dN;omega
 have hN32:dN l<4294967296:=by unfold dN;omega
 rw [hN] at eg
 have w1:IntKind.wrap .i64 (8+(dN l:Int))=((8+dN l:Nat):Int):=by rw [wrap_i64 (by omega) (by omega)];omega
 have w2:IntKind.wrap .i64 (((8+dN l:Nat):Int)+4)=((12+dN l:Nat):Int):=by rw [wrap_i64 (by omega) (by omega)];omega
 simp only [hm,d7m,d7d,if_false,ec,eg,bs,a0t,w1,w2,a1Z hd,a0n]
 by_cases hsh:l.length<12+dN l
 ·have hsh':decide ((l.length:Int)<((12+dN l:Nat):Int))=true:=decide_eq_true (by omega)
  simp only [hsh',if_true]
  exact a7q r0 rfl k0 14 (fin 14 (by unfold a2x;rw [if_neg h8,if_neg (by simpa using hmag),if_pos hsh]))
 have hsh':decide ((l.length:Int)<((12+dN l:Nat):Int))=false:=decide_eq_false (by omega)
 obtain ⟨dn,en,sn⟩:=a8M hd (k := .i64) (n:=((8+dN l:Nat):Int)) (by omega) (by omega)
 rw [d7l] at sn
 have ek:=c8j (l.take (8+dN l)) dn g0 (.inl sn) (by simp;omega) (fun z hz=>hu z (List.mem_of_mem_take hz))
 obtain ⟨dk,ek2,sk⟩:=a5M hd (8+dN l) (12+dN l) (by omega) (by omega)
 have lk:(l.take (12+dN l)).drop (8+dN l)=(l.drop (8+dN l)).take 4:=by rw [List.drop_take];congr 1;omega
 rw [lk] at sk
 have huk:∀ z∈(l.drop (8+dN l)).take 4,U8 z:=fun z hz=>hu z (List.mem_of_mem_drop (List.mem_of_mem_take hz))
 obtain ⟨m0,m1⟩:=a2n 4 ((l.drop (8+dN l)).take 4) (by simp;omega) huk
 rw [a6E] at m1
 have eg2:=c4h _ dk g0 sk (by simp;omega) huk
 rw [wrap_i64 (by omega) (by omega)] at eg2
 simp only [hsh',d7d,if_false,en,ek,ek2,eg2,bs,a0w]
 by_cases hck:a2t (l.take (8+dN l))=num ((l.drop (8+dN l)).take 4)
 case neg =>
  have hck':decide (a2t (l.take (8+dN l))≠num ((l.drop (8+dN l)).take 4))=true:=decide_eq_true hck
  simp only [hck',if_true]
  exact a7q r0 rfl k0 15 (fin 15 (by unfold a2x;rw [if_neg h8,if_neg (by simpa using hmag),if_neg hsh,if_pos hck]))
 have hck':decide (a2t (l.take (8+dN l))≠num ((l.drop (8+dN l)).take 4))=false:=decide_eq_false (by simpa using hck)
 have hdec:∀ x,(b3K l→x=(1,0,0,[],[]))→(¬ b3K l→x=(0,((12+dN l:Nat):Int),(dA l).1,(dM l).1,(dQ l).1))→a2x l=x:=fun x h1 h2=>by
  unfold a2x
  rw [if_neg h8,if_neg (by simpa using hmag),if_neg hsh,if_neg (by simpa using hck)]
  by_cases hb:b3K l
  ·rw [if_pos hb,h1 hb]
  ·rw [if_neg hb,h2 hb]
 -- the cursor, and the state's variable
 obtain ⟨db,eb,sb⟩:=a5M hd 8 (8+dN l) (by omega) (by omega)
 have eb:a0A tab a0N true true false [d,.int .i64 8,.int .i64 ((8+dN l:Nat):Int)]=some db:=eb
 have hbc:a0M tab a1Q [0] [db]=some (.agg [db,.bool false]):=b9F db (a1v sb)
 have c0:(a0H g0 a1Q 2 [[db,.bool false]])[h.length+1]?=some (.row a1Q 2 [[db,.bool false]]):=by rw [← l0];exact a1a _ _ _ _
 have cl:(a0H g0 a1Q 2 [[db,.bool false]]).length=h.length+2:=by simp [-bind_some, a0H,l0]
 have ck:∀ q,q<h.length+1→(a0H g0 a1Q 2 [[db,.bool false]])[q]?=g0[q]?:=fun q hq=>a0W _ _ _ _ (by omega)
 simp only [hck',d7d,if_false,eb,hbc,bs,a3b a1Q 2 g0 [db,.bool false] rfl (by omega),l0,d7c]
 generalize a0H g0 a1Q 2 [[db,.bool false]]=g1 at *
 have C0:CuP g1 (h.length+1) (dS0 l):=⟨db,c0,sb,fun z hz=>hu z (List.mem_of_mem_take (List.mem_of_mem_drop hz)),by simp [-bind_some, dS0];omega⟩
 obtain ⟨g2,e2,c2,t2⟩:=d2s C0
 have e2:R a4T [.ptr (h.length+1) 0 0,.int .i64 8] g1=some (.int .i64 (dA l).1,g2):=e2
 have l2:g2.length=h.length+2:=by rw [t2.1];exact cl
 simp only [e2,bs,b9E,l2,d7c]
 have v3:(a0H g2 a0f 3 [[.int .i64 0,.nils,.nils]])[h.length+2]?=some (.row a0f 3 [[.int .i64 0,.nils,.nils]]):=by rw [← l2];exact a1a _ _ _ _
 have k3:∀ q,q<h.length+2→(a0H g2 a0f 3 [[.int .i64 0,.nils,.nils]])[q]?=g2[q]?:=fun q hq=>a0W _ _ _ _ (by omega)
 have hp7:((.ptr (h.length+2) 0 0,a0H g2 a0f 3 [[.int .i64 0,.nils,.nils]]):D × Hp).1 = .ptr (h.length+2) 0 0:=rfl
 generalize a0H g2 a0f 3 [[.int .i64 0,.nils,.nils]]=g3 at *
 refine a4z (kk:=0) (off:=0) (row:=[.int .i64 0,.nils,.nils]) (v := .agg [.int .i64 (dA l).1,.nils,.nils]) v3 (by rfl) (by rfl) (by exact Nat.le_refl _) (by rfl) fun g4 p4 s4=>?_
 have p4:g4[h.length+2]?=some (.row a0f 3 [svr (dA l).1 .nils .nils]):=p4
 have P4:DcP h g4 (svr (dA l).1 .nils .nils) (dA l).2:=by
  obtain ⟨dd,q1,q2⟩:=c2
  exact ⟨by rw [s4.2 _ (by omega),k3 _ (by omega),t2.2 _ (by omega),ck _ (by omega)];exact r0,⟨dd,by rw [s4.2 _ (by omega),k3 _ (by omega)];exact q1,q2⟩,p4,fun q hq=>by rw [s4.2 _ (by omega),k3 _ (by omega),t2.2 _ (by omega),ck _ (by omega)];exact k0 q hq⟩
 obtain ⟨g5,e5,c5,t5⟩:=c7A P4.cu
 have P5:=P4.cur c5 t5
 obtain ⟨_,_,_,hu5,_⟩:=P4.cu
 obtain ⟨N1,hN1,hN1b⟩:=b4C hu5
 rw [hN1] at e5
 have hM:dM l=a3u N1 (a1D (dA l).2).2:=by unfold dM;rw [hN1];rfl
 simp only [bs,e5,d7c]
 refine c2M (a:=(dA l).1) hN1b hp7 P5 _ fun g6 dm b c P6 owm=>?_
 rw [← hM] at P6 owm
 obtain ⟨g7,e7,c7,t7⟩:=c7A P6.cu
 have P7:=P6.cur c7 t7
 have owm7:=owm.same t7 (by omega)
 obtain ⟨_,_,_,hu7,_⟩:=P6.cu
 obtain ⟨N2,hN2,hN2b⟩:=b4C hu7
 rw [hN2] at e7
 have hQ2:dQ l=qsS N2 (a1D (dM l).2).2:=by unfold dQ;rw [hN2];rfl
 simp only [bs,a0r,a0s,a0g,a0q,e7,d7c]
 refine c2N (a:=(dA l).1) hN2b hp7 P7 owm7 _ fun g8 dq its b2 c2' P8 owm8 owq hits=>?_
 rw [← hQ2] at P8 hits
 obtain ⟨dd,q1,q2,q3,q4⟩:=P8.cu
 obtain ⟨m1',m2'⟩:=b6K q1
 have hlm:(dM l).1.length≤4294967296:=by rw [hM];have:=b0v N1 (a1D (dA l).2).2;omega
 have hlq:its.length=(dQ l).1.length:=by rw [← hits];simp [-bind_some]
 have hlq2:its.length≤4294967296:=by rw [hlq,hQ2];have:=b8B N2 (a1D (dM l).2).2;omega
 have ldv:a0b tab g8 a0f (.ptr (h.length+2) 0 0)=some (.agg (svr (dA l).1 dm dq)):=by rw [a3r,a0I P8.st];rfl
 simp only [bs,a0r,a0s,a0g,a0q,a0v,a3Z,a3G,m1',m2',a0o,d7c]
 -- the check's answer
 have sM:=a7E (n:=1) owm8 (fun a _=>c0Q g8 1 a)
 have sQ:=a7E (n:=1) owq (fun a _=>c0y g8 1 a)
 have hsn:a8B g8 3 (.agg (svr (dA l).1 dm dq)) = .agg (svr (dA l).1 (a8B g8 2 dm) (a8B g8 2 dq)):=rfl
 have hcall:=c8i (dA l).1 (dM l).1 its.length (a8B g8 2 dm) (a8B g8 2 dq) (g8.map fun _ => .dead) sM (a6S sQ) (by omega)
 have hcB:a4O R b1s [.agg (svr (dA l).1 dm dq)] g8=some (.int .i64 (stC (dA l).1 (dM l).1 its.length),g8):=by
  unfold a4O
  simp only [d7k,List.map_nil,hsn,hcall]
  rfl
 rw [hlq] at hcB
 have bad:b3K l→∀ {β:Type},a2x l=(1,0,0,[],[]):=fun hb _=>hdec _ (fun _=>rfl) fun hn=>absurd hb hn
 cases hbd:(dQ l).2.2 with
 | true =>
  have hB:b3K l := .inl hbd
  simp only [reduceCtorEq,d7e,if_false,bs,a0e,if_true,a0o,a1g,a0d]
  exact a7q P8.r0 rfl P8.lo 1 (fin 1 (hdec _ (fun _=>rfl) fun hn=>absurd hB hn))
 | false =>
  simp only [if_true,bs,a0v,a3Z,m1',a1Z q2,a0u,a0e,d7d,if_false]
  by_cases hlen:0<(dQ l).2.1.length
  ·have hB:b3K l := .inr (.inl hlen)
   have hd1:decide (((dQ l).2.1.length:Int)>0)=true:=decide_eq_true (by omega)
   simp only [hd1,reduceCtorEq,d7e,if_false,bs,a0e,if_true,a0o,a1g,a0d]
   exact a7q P8.r0 rfl P8.lo 1 (fin 1 (hdec _ (fun _=>rfl) fun hn=>absurd hB hn))
  have hd1:decide (((dQ l).2.1.length:Int)>0)=false:=decide_eq_false (by omega)
  simp only [hd1,a0o,a1g,if_true,bs,ldv,hcB,a0w,a0e,d7d,if_false]
  by_cases hst:stC (dA l).1 (dM l).1 (dQ l).1.length=0
  case neg =>
   have hB:b3K l := .inr (.inr hst)
   have hd2:decide (stC (dA l).1 (dM l).1 (dQ l).1.length≠0)=true:=decide_eq_true hst
   simp only [hd2,a0d,if_true]
   exact a7q P8.r0 rfl P8.lo 1 (fin 1 (hdec _ (fun _=>rfl) fun hn=>absurd hB hn))
  have hd2:decide (stC (dA l).1 (dM l).1 (dQ l).1.length≠0)=false:=decide_eq_false (by rw [hst];simp [-bind_some])
  have hgood:a2x l=(0,((12+dN l:Nat):Int),(dA l).1,(dM l).1,(dQ l).1):=hdec _ (fun hb=>absurd hb (by
   rintro (hx | hx | hx)
   ·rw [hbd] at hx;cases hx
   ·exact hlen hx
   ·exact hx hst)) fun _=>rfl
  have okv:(D.agg (svr (dA l).1 dm dq)).okv=true:=by
   rcases owm8 with ⟨rfl,_⟩ | ⟨_,_,rfl,_⟩ <;> rcases owq with ⟨rfl,_⟩ | ⟨_,_,rfl,_⟩ <;> rfl
  simp only [hd2,a0d,d7d,if_false,ldv,bs]
  refine a4z (kk:=0) (off:=0) (row:=svr 0 .nils .nils) (v := .agg (svr (dA l).1 dm dq)) P8.r0 (by rfl) (by rfl) (by exact Nat.le_refl _) okv fun g9 p9 s9=>?_
  have p9:g9[h.length]?=some (.row a0f 3 [svr (dA l).1 dm dq]):=p9
  have ld9:a0b tab g9 a0f (.ptr h.length 0 0)=some (.agg (svr (dA l).1 dm dq)):=by rw [a3r,a0I p9];rfl
  have om9:=owm8.keep (h':=g9) fun q hq _=>s9.2 q (by omega)
  have oq9:=owq.keep (h':=g9) fun q hq _=>s9.2 q (by omega)
  have fM:=a2g (n0:=h.length) (n:=1) om9 (by omega) (fun a _=>a4Y _ g9 1 a)
  have fQ:=a2g (n0:=h.length) (n:=1) oq9 (by omega) (fun a _=>a4q _ g9 0 a)
  have hl9:h.length≤g9.length:=by have:=(d7s.1 p9).1;omega
  simp only [ld9,bs,a6T]
  rw [a1n (d' := .tup [.agg (svr (dA l).1 (frz h.length g9 2 dm) (frz h.length g9 2 dq)),.int .i64 ((12+dN l:Nat):Int),.int .i64 0]) rfl (by
   refine .tup _ fun d hd=>?_
   simp at hd
   rcases hd with rfl | rfl | rfl
   ·refine .agg _ fun d hd=>?_
    simp [-bind_some, svr] at hd
    rcases hd with rfl | rfl | rfl
    ·constructor
    ·exact a1K fM fun a _=>b1H _ a
    ·exact a1K fQ fun a _=>a8c _ a
   ·constructor
   ·constructor) hl9 (fun q hq=>by rw [s9.2 q (by omega)];exact P8.lo q hq)]
  rw [hgood]
  exact .some ⟨_,_,its,rfl,fM,fQ,hits⟩
structure OkI (i:It):Prop where
 r:ItR i
 b:(a1r i).length≤20000
 e:itE i=0
theorem b9W {i:It} (h:OkI i) (r:List Int):a3X (a2N i++r)=(0,((a2N i).length:Int),a1m i):=by
 obtain ⟨e1,e2⟩:=c2P h.r h.b r
 unfold a3X
 rw [e2,b0S,h.e,e1]
theorem c3o {i:It} (h:OkI i) (r:List Int):itS (a2N i++r,false)=(a1m i,(r,false)):=by
 unfold itS
 rw [b9W h r]
 rw [if_neg (by simp)]
 simp only [d7l]
 rw [List.drop_left' rfl]
theorem b4M:∀ (ms:List FM),(∀ m∈ms,I64 m.1∧I64 m.2)→∀ r,a3u ms.length ((ms.map mkB).flatten++r,false)=(ms,(r,false))
 | [],_,r=>rfl
 | m::t,h,r=>by
  obtain ⟨h1,h2⟩:=h m (by simp)
  have e:((m::t).map mkB).flatten++r=pI m.1++(pI m.2++((t.map mkB).flatten++r)):=by simp [-bind_some, mkB]
  rw [e,d7t]
  unfold a3u
  rw [if_neg (by simp),a2f h1,a2f h2,b4M t (fun x hx=>h x (List.mem_cons_of_mem _ hx)) r]
theorem b8A:∀ (its:List It),(∀ i∈its,OkI i)→∀ r,qsS its.length ((its.map a2N).flatten++r,false)=(its.map a1m,(r,false))
 | [],_,r=>rfl
 | i::t,h,r=>by
  have e:((i::t).map a2N).flatten++r=a2N i++((t.map a2N).flatten++r):=by simp
  rw [e,d7t]
  unfold qsS
  rw [if_neg (by simp),c3o (h i (by simp)),b8A t (fun x hx=>h x (List.mem_cons_of_mem _ hx)) r]
  rfl
abbrev SvD:=Int × List FM × List It
def a4I (s:SvD):List Int:=b0b s.1 s.2.1 s.2.2
structure OkS (s:SvD):Prop where
 n:I64 s.1
 m:∀ m∈s.2.1,I64 m.1∧I64 m.2
 q:∀ i∈s.2.2,OkI i
 c:stC s.1 s.2.1 s.2.2.length=0
 b:(a1E s.1 s.2.1 s.2.2).length<4294967000
theorem b7N:∀ {its:List It},(∀ i∈its,OkI i)→a7B its=0
 | [],_=>rfl
 | i::t,h=>by
  unfold a7B
  rw [if_pos (h i (by simp)).e]
  exact b7N fun x hx=>h x (List.mem_cons_of_mem _ hx)
theorem OkS.e {s:SvD} (h:OkS s):stE s.1 s.2.1 s.2.2=0:=by
 unfold stE
 rw [if_pos h.c]
 exact b7N h.q
theorem OkS.le {s:SvD} (h:OkS s):s.2.1.length≤1000∧s.2.2.length≤1000:=by
 have:=h.c
 unfold stC at this
 by_cases h1:s.1<0
 ·rw [if_pos h1] at this;cases this
 by_cases h2:a7d s.2.1=false
 ·rw [if_neg h1,if_pos h2] at this;cases this
 by_cases h3:a6C s.2.1=true
 ·rw [if_neg h1,if_neg h2,if_pos h3] at this;cases this
 by_cases h4:1000<s.2.1.length∨1000<s.2.2.length
 ·rw [if_neg h1,if_neg h2,if_neg h3,if_pos h4] at this;cases this
 omega
theorem a6O (s:SvD) (r:List Int):(a4I s++r).length=12+(a1E s.1 s.2.1 s.2.2).length+r.length∧(a4I s++r).take 4=magS∧((a4I s++r).drop 4).take 4=pN (a1E s.1 s.2.1 s.2.2).length∧(a4I s++r).take (8+(a1E s.1 s.2.1 s.2.2).length)=a3i (a1E s.1 s.2.1 s.2.2)∧((a4I s++r).drop (8+(a1E s.1 s.2.1 s.2.2).length)).take 4=a3B 4 (a2t (a3i (a1E s.1 s.2.1 s.2.2))):=by
 obtain ⟨B,hB⟩:∃ B,B=a1E s.1 s.2.1 s.2.2:=⟨_,rfl⟩
 have e1:a4I s++r=magS++(pN B.length++(B++(a3B 4 (a2t (a3i B))++r))):=by rw [hB];simp [-bind_some, a4I,b0b,a3i]
 have e2:a4I s++r=a3i B++(a3B 4 (a2t (a3i B))++r):=by rw [hB];simp [-bind_some, a4I,b0b]
 rw [← hB]
 have hl:=a4b B
 refine ⟨?_,?_,?_,?_,?_⟩
 ·rw [e2,d7h,d7h,hl,a1b];omega
 ·rw [e1];exact List.take_left' rfl
 ·rw [e1,List.drop_left' (show magS.length=4 from rfl)];exact List.take_left' (a1G _)
 ·rw [e2];exact List.take_left' hl
 ·rw [e2,List.drop_left' hl];exact List.take_left' (a1b _ _)
theorem b9Y {s:SvD} (h:OkS s) (r:List Int):a2x (a4I s++r)=(0,((a4I s).length:Int),s.1,s.2.1,s.2.2.map a1m):=by
 obtain ⟨p1,p2,p3,p4,p5⟩:=a6O s r
 obtain ⟨hm,hq⟩:=h.le
 have hB:=h.b
 have hc:=a3A (a3i (a1E s.1 s.2.1 s.2.2))
 have hN:dN (a4I s++r)=(a1E s.1 s.2.1 s.2.2).length:=by unfold dN;rw [p3,c1S (by omega)];rfl
 have hlen:(a4I s).length=12+(a1E s.1 s.2.1 s.2.2).length:=by
  have:=(a6O s []).1
  simpa using this
 have hS0:dS0 (a4I s++r)=(a1E s.1 s.2.1 s.2.2,false):=by
  unfold dS0
  rw [hN,p4]
  unfold a3i
  rw [List.drop_left' (by simp [-bind_some, magS,a1G])]
 have hbody:a1E s.1 s.2.1 s.2.2=pI s.1++(pN s.2.1.length++((s.2.1.map mkB).flatten++(pN s.2.2.length++((s.2.2.map a2N).flatten++[])))):=by simp [-bind_some, a1E]
 have hA:dA (a4I s++r)=(s.1,(pN s.2.1.length++((s.2.1.map mkB).flatten++(pN s.2.2.length++((s.2.2.map a2N).flatten++[]))),false)):=by
  unfold dA
  rw [hS0,hbody,a2f h.n]
 have hM:dM (a4I s++r)=(s.2.1,(pN s.2.2.length++((s.2.2.map a2N).flatten++[]),false)):=by
  unfold dM
  rw [hA]
  simp only
  rw [a7C (by omega)]
  simp only [d7l]
  exact b4M _ h.m _
 have hQ:dQ (a4I s++r)=(s.2.2.map a1m,([],false)):=by
  unfold dQ
  rw [hM]
  simp only
  rw [a7C (by omega)]
  simp only [d7l]
  exact b8A _ h.q _
 have hbad:¬ b3K (a4I s++r):=by
  unfold b3K
  rw [hQ,hA,hM]
  simp only [d7i,h.c]
  simp [-bind_some]
 unfold a2x
 rw [if_neg (by omega),if_neg (by rw [p2];simp [-bind_some]),hN,if_neg (by omega),p4,p5,if_neg (by rw [a5r 4 _ hc.1,a6E];omega),if_neg hbad,hA,hM,hQ,hlen]
theorem b9Z:a2x []=(14,0,0,[],[]):=rfl
theorem b6Q {l:List Int} (h:(a2x l).1=0):12≤(a2x l).2.1∧(a2x l).2.1≤l.length:=by
 unfold a2x at h ⊢
 by_cases h1:l.length<8
 ·rw [if_pos h1] at h;cases h
 by_cases h2:l.take 4≠magS
 ·rw [if_neg h1,if_pos h2] at h;cases h
 by_cases h3:l.length<12+dN l
 ·rw [if_neg h1,if_neg h2,if_pos h3] at h;cases h
 by_cases h4:a2t (l.take (8+dN l))≠num ((l.drop (8+dN l)).take 4)
 ·rw [if_neg h1,if_neg h2,if_neg h3,if_pos h4] at h;cases h
 by_cases h5:b3K l
 ·rw [if_neg h1,if_neg h2,if_neg h3,if_neg h4,if_pos h5] at h;cases h
 rw [if_neg h1,if_neg h2,if_neg h3,if_neg h4,if_neg h5]
 simp only
 omega
noncomputable def c1W:Nat→List Int→Int→List ((Int × List FM × List RI) × Int)
 | 0,_,_=>[]
 | f+1,l,a=>if (a2x l).1=0 then ((a2x l).2.2,a+(a2x l).2.1)::c1W f (l.drop (a2x l).2.1.toNat) (a+(a2x l).2.1) else []
def c9g (r:List D × Int) (x:(Int × List FM × List RI) × Int):Prop:=∃ dm dq its,r=(svr x.1.1 dm dq,x.2)∧SlOf 2 mkr x.1.2.1 dm∧SlOf 11 itr its dq∧its.map a1m=x.1.2.2
inductive RecsOf:List (List D × Int)→List ((Int × List FM × List RI) × Int)→Prop
 | nil:RecsOf [] []
 | cons {r x rs xs}:c9g r x→RecsOf rs xs→RecsOf (r::rs) (x::xs)
theorem b5g {z:Nat} {α:Type} {f:α→List D} {l:List α} {d:D} (h:SlOf z f l d):slD d=true:=by
 rcases h with ⟨rfl,_⟩ | ⟨b,rfl⟩ <;> rfl
theorem c2J {l:List Int} {d:D} (h:SlOf 1 byr l d) (a:Int) (h0:0≤a):SlOf 1 byr (l.drop a.toNat) (c6B d a):=by
 rcases h with ⟨rfl,rfl⟩ | ⟨b,rfl⟩
 ·exact .inl ⟨rfl,by simp⟩
 ·refine .inr ⟨false,?_⟩
  show D.sl 1 false ((l.map byr).drop a.toNat)=_
  rw [List.map_drop]
theorem b4V {l:List Int} {d:D} (hd:SlOf 1 byr l d) (hl:l.length≤1000000000) (hu:∀ z∈l,U8 z):∀ (f:Nat) (a:Int),0≤a→a≤l.length→(l.length:Int) - a<f→∃ rs,a7r R a4E d l.length f a=some rs∧RecsOf rs (c1W f (l.drop a.toNat) a)
 | 0,a,h0,h1,h2=>by omega
 | f+1,a,h0,h1,h2=>by
  have hu2:∀ z∈l.drop a.toNat,U8 z:=fun z hz=>hu z (List.mem_of_mem_drop hz)
  have hl2:(l.drop a.toNat).length=l.length - a.toNat:=by simp
  obtain ⟨dm,dq,its,e,o1,o2,o3⟩:=c8k (l.drop a.toNat) (c6B d a) [] (c2J hd a h0) (by omega) hu2
  unfold a7r c1W
  rw [e]
  simp only [svr,b5g o1,b5g o2,and_self,if_true]
  by_cases hz:(a2x (l.drop a.toNat)).1=0
  ·obtain ⟨z1,z2⟩:=b6Q hz
   rw [if_pos hz,if_pos hz,if_pos ⟨by omega,by omega⟩]
   obtain ⟨rs,er,hr⟩:=b4V hd hl hu f (a+(a2x (l.drop a.toNat)).2.1) (by omega) (by omega) (by omega)
   rw [er]
   refine ⟨_,rfl,.cons ⟨dm,dq,its,rfl,o1,o2,o3⟩ ?_⟩
   rw [List.drop_drop]
   have:a.toNat+(a2x (l.drop a.toNat)).2.1.toNat=(a+(a2x (l.drop a.toNat)).2.1).toNat:=by omega
   rw [this]
   exact hr
  ·rw [if_neg hz,if_neg hz]
   exact ⟨[],rfl,.nil⟩
theorem c6H {l:List Int} {d:D} (h:SlOf 1 byr l d):b2m d=some l.length:=by
 rcases h with ⟨rfl,rfl⟩ | ⟨b,rfl⟩
 ·rfl
 ·simp only [b2m,a7P,d7i]
theorem c0c {l:List Int} {d:D} (hd:SlOf 1 byr l d) (hl:l.length≤1000000000) (hu:∀ z∈l,U8 z):∃ rs,b5t R a4E [d]=some rs∧RecsOf rs (c1W (l.length+1) l 0):=by
 obtain ⟨rs,e,h⟩:=b4V hd hl hu (l.length+1) 0 (by omega) (by omega) (by omega)
 refine ⟨rs,?_,by simpa using h⟩
 simp only [b5t,c6H hd]
 rw [if_pos (by omega),e]
theorem d3g (l:List FM) (da db:D) (h:Hp) (ha:SlOf 2 mkr l da) (hb:SlOf 2 mkr l db) (hl:l.length≤9000000000000000000):R b7A [da,db] h=some (.bool true,h):=by
 apply Wp.val
 rw [d0N]
 simp only [c5Z,bs,a0w,ne_eq,not_true,decide_false,d7d,if_false,a3z ha,a3z hb,a0d,d7c]
 refine Wp.loop (fun n ds g=>g=h∧∃ x y z,∃ i:Nat,ds=[x,.int .i64 i,y,z]∧n+i=l.length)
  (fun r=>r.1 = .ext 0∧r.2.2=h) l.length ⟨rfl,_,_,_,0,rfl,rfl⟩ ?_ ?_
 ·rintro n ds g ⟨rfl,x,y,z,i,rfl,hi⟩
  simp only [b3r,a0g,a0q,bs,d7c,a3z ha,a0n]
  refine Wp.dif ?_ ?_
  ·intro h0
   have h0:i<l.length:=dl_ h0
   have hg:l[i]?=some l[i]:=d7r h0
   generalize l[i]=u at hg
   have ia:a0c tab a0C da (.int .i64 i)=some (.fptr (mkr u)):=by rw [a6Q ha];simp [-bind_some, hg]
   have ib:a0c tab a0C db (.int .i64 i)=some (.fptr (mkr u)):=by rw [a6Q hb];simp [-bind_some, hg]
   have lu:a0b tab g a0K (.fptr (mkr u))=some (.agg (mkr u)):=id rfl
   have hw:=wi_ i (by omega)
   have hn:a0m tab .neq a0K (.agg (mkr u)) (.agg (mkr u))=some (.bool false):=by
    have:=b9H u.1 u.1 u.2 u.2
    simpa [-bind_some, mkr] using this
   simp only [ia,ib,lu,hn,bs,a0d,d7d,if_false,a0t,hw]
   exact .some (.inl ⟨rfl,n - 1,by omega,rfl,_,_,_,i+1,rfl,by omega⟩)
  ·intro _
   exact .some (.inr ⟨by simp,rfl,rfl⟩)
 ·rintro ⟨ex,ds,g⟩ ⟨q1,q2⟩
  simp only at q1 q2
  subst q1;subst q2
  simp only [a0r,a0s,bs,a0j]
  exact .some rfl
theorem d3h (l m:List It) (da db:D) (h:Hp) (ha:SlOf 11 itr l da) (hb:SlOf 11 itr m db) (hlm:l.map a1m=m.map a1m) (hl:l.length≤9000000000000000000):R b7B [da,db] h=some (.bool true,h):=by
 apply Wp.val
 have hlen:m.length=l.length:=by have:=congrArg List.length hlm;simpa using this.symm
 rw [d0O]
 simp only [c6a,bs,a0w,ne_eq,not_true,decide_false,d7d,if_false,a6S ha,a6S hb,hlen,a0d,d7c]
 refine Wp.loop (fun n ds g=>g=h∧∃ x y z,∃ i:Nat,ds=[x,.int .i64 i,y,z]∧n+i=l.length)
  (fun r=>r.1 = .ext 0∧r.2.2=h) l.length ⟨rfl,_,_,_,0,rfl,rfl⟩ ?_ ?_
 ·rintro n ds g ⟨rfl,x,y,z,i,rfl,hi⟩
  simp only [b3s,a0g,a0q,bs,d7c,a6S ha,a0n]
  refine Wp.dif ?_ ?_
  ·intro h0
   have h0:i<l.length:=dl_ h0
   have hg:l[i]?=some l[i]:=d7r h0
   have hg2:m[i]?=some m[i]:=d7r (by omega)
   have hri:a1m l[i]=a1m m[i]:=by
    have e1:(l.map a1m)[i]?=some (a1m l[i]):=by rw [d7p,hg];rfl
    have e2:(m.map a1m)[i]?=some (a1m m[i]):=by rw [d7p,hg2];rfl
    rw [hlm,e2] at e1
    injection e1 with e1
    exact e1.symm
   generalize l[i]=u at hg hri
   generalize m[i]=v at hg2 hri
   have ia:a0c tab a1x da (.int .i64 i)=some (.fptr (itr u)):=by rw [b4y ha];simp [-bind_some, hg]
   have ib:a0c tab a1x db (.int .i64 i)=some (.fptr (itr v)):=by rw [b4y hb];simp [-bind_some, hg2]
   have lu:∀ u:It,a0b tab g a0L (.fptr (itr u))=some (.agg (itr u)):=fun u=>id rfl
   have hw:=wi_ i (by omega)
   have hs:=s82 u v g
   rw [(b8M hri).2.2.2] at hs
   simp only [ia,ib,lu,hs,bs,a1C,d7m,a0d,d7d,if_false,a0t,hw]
   exact .some (.inl ⟨rfl,n - 1,by omega,rfl,_,_,_,i+1,rfl,by omega⟩)
  ·intro _
   exact .some (.inr ⟨by simp,rfl,rfl⟩)
 ·rintro ⟨ex,ds,g⟩ ⟨q1,q2⟩
  simp only at q1 q2
  subst q1;subst q2
  simp only [a0r,a0s,bs,a0j]
  exact .some rfl
theorem d3f (n:Int) (ms:List FM) (l m:List It) (da db dx dy:D) (h:Hp) (hm:SlOf 2 mkr ms da) (hm2:SlOf 2 mkr ms db) (hx:SlOf 11 itr l dx) (hy:SlOf 11 itr m dy) (hlm:l.map a1m=m.map a1m) (hml:ms.length≤9000000000000000000) (hl:l.length≤9000000000000000000):R a9c [.agg (svr n da dx),.agg (svr n db dy)] h=some (.bool true,h):=by
 have e1:=d3g ms da db h hm hm2 hml
 have e2:=d3h l m dx dy h hx hy hlm hl
 rw [d0J]
 simp only [c5V,bs,a1M,sv0,sv1,sv2,c4P,a3J,b2z,a0Q,decide_true,a0o,a1g,if_true,e1,e2,a0e,d7c,a0j]
theorem b1E (k:Int):∀ (ls:List Lin) (a b:Int),mch a ls b→mch (a+k) (ls.map fun l=>⟨l.off+k,l.len,l.txt⟩) (b+k)
 | [],a,b,h=>by show a+k=b+k;rw [show a=b from h]
 | l::r,a,b,h=>by
  obtain ⟨h1,h2,h3,h4,h5⟩:=h
  refine ⟨by show l.off+k=a+k;rw [h1],h2,h3,h4,?_⟩
  have:=b1E k r _ b h5
  show mch (a+k+l.len) _ _
  rw [show a+k+l.len=a+l.len+k by omega]
  exact this
def mvI (x:RI) (f k:Int):RI:=⟨x.r,x.a0,f,x.a2+k,x.a3+k,x.ls.map fun l=>⟨l.off+k,l.len,l.txt⟩,x.a5,x.a6,x.t7,x.t8,x.fs⟩
theorem d2q {i j:It} (hi:ItK i) {f k:Int} (hf:0≤f) (hf2:f≤2) (h0:0≤i.e.a2+k) (h9:i.e.a3+k≤50000) (hj:a1m j=mvI (a1m i) f k):OkI j:=by
 obtain ⟨jr,⟨b0,b1,b2,b3,bl,dl,b5,b6,b7,b8,bf,df,w1,w2,w3,w4⟩⟩:=j
 simp only [a1m,mvI,RI.mk.injEq] at hj
 obtain ⟨q0,q1,q2,q3,q4,q5,q6,q7,q8,q9,q10⟩:=hj
 have l3:=hi.l3
 have f4:=hi.fs
 obtain ⟨ch,a0,a9,l1⟩:=hi.ch
 have chj:=b1E k _ _ _ ch
 rw [← q3,← q4,← q5] at chj
 have bl3:bl.length=i.e.ls.length:=by rw [q5];simp [-bind_some]
 have hle:=a5G _ _ _ chj
 have tx:=b0u _ _ _ chj (by omega) (by omega)
 have hh:jr.length≤32∧b7.length≤32∧b8.length≤32∧I64 b0∧I64 b1∧I64 b5∧I64 b6∧∀ p∈bf,p.1.length≤1000∧p.2.length≤1000:=by
  rw [q0,q1,q2,q6,q7,q8,q9,q10]
  rcases hi with ⟨hr,g⟩ | g
  ·have h1:=g.h0;have h2:=g.h2;have h5:=g.t0;have h6:=g.t9
   have hw:=(show ∀ s∈lt82_14,(-10000:Int)≤s∧s≤10000 by decide) _ g.wt
   refine ⟨by rw [hr];simp [-bind_some],(show ∀ s∈lt98_15,s.length≤32 by decide) _ g.tr,(show ∀ s∈lt98_16,s.length≤32 by decide) _ g.st,by unfold I64;omega,by unfold I64;omega,by unfold I64;omega,by unfold I64;omega,fun p hp=>⟨?_,(show ∀ s∈lt98_18,s.length≤1000 by decide) _ (g.fs.2 p hp)⟩⟩
   exact (show ∀ s∈lt98_17,s.length≤1000 by decide) _ (g.fs.1.subset (d7z.2 ⟨p,hp,rfl⟩))
  ·have h1:=g.h0;have h2:=g.h2;have h5:=g.t0;have h6:=g.w0
   exact ⟨(show ∀ s∈lt98_35,s.length≤32 by decide) _ g.r,by rw [g.tr];simp [-bind_some],by rw [g.st];simp [-bind_some],by unfold I64;omega,by unfold I64;omega,by unfold I64;omega,by unfold I64;omega,fun p hp=>by rw [g.fs] at hp;cases hp⟩
 obtain ⟨r1,r2,r3,r4,r5,r6,r7,r8⟩:=hh
 have bf4:bf.length≤4:=by rw [q10];exact f4
 refine ⟨⟨by show jr.length<_;omega,r4,r5,by unfold I64;show _≤b2∧b2<_;omega,by unfold I64;show _≤b3∧b3<_;omega,by show bl.length<_;omega,fun l hl=>(tx l hl).1,r6,r7,by show b7.length<_;omega,by show b8.length<_;omega,by show bf.length<_;omega,fun p hp=>by have:=r8 p hp;omega⟩,?_,?_⟩
 ·have h1:=a2E lnB 220 bl (fun l hl=>by
    have:=(tx l hl).2
    simp only [lnB,d7h,a1k,a1z];omega)
  have h2:(bf.map fdB).flatten.length≤bf.length*2008:=a2E fdB 2008 bf (fun p hp=>by
   have:=r8 p hp
   simp only [fdB,d7h,a1z];omega)
  have h8:(bf.length*2008:Nat)≤4*2008:=Nat.mul_le_mul_right _ bf4
  have h9:(bl.length*220:Nat)≤3*220:=Nat.mul_le_mul_right _ (by omega)
  simp only [a1r,a4k,a3o,d7h,a1k,a1z,a1G]
  omega
 ·have hl:∀ m:Int,200≤m→a2m (⟨b0,b1,b2,b3,bl,dl,b5,b6,b7,b8,bf,df,w1,w2,w3,w4⟩:Ev) m=0:=fun m hm=>b7Y m hm (by show 0≤b2;omega) (by show b3≤60000;omega) (by show 1≤bl.length;omega) (by show bl.length≤40;omega) chj
  rcases hi with ⟨hr,h⟩ | h
  ·have h1:=h.h0;have h2:=h.h2;have h8:=h.t0;have h9:=h.t9
   have hw:=(show ∀ s∈lt82_14,¬ s<1∧Int.tmod 5040 s=0 by decide) _ h.wt
   have htr:=(show ∀ s∈lt98_15,¬ 32<s.length by decide) _ h.tr
   have hst:=(show ∀ s∈lt98_16,¬ 32<s.length by decide) _ h.st
   have hs:=c3G h.fs
   have hv:(bf.any fun p=>decide (2000<p.2.length))=false:=by
    rw [List.any_eq_false]
    intro p hp
    have:=(r8 p hp).2
    simp [-bind_some];omega
   rw [← q7] at hw
   rw [← q8] at htr
   rw [← q9] at hst
   rw [← q10] at hs
   have hrj:jr=[]:=by rw [q0];exact hr
   have ht:(decide (0≤b5)&&decide (b5≤253402300799999))=true:=by simp;omega
   have hp:plB (⟨b0,b1,b2,b3,bl,dl,b5,b6,b7,b8,bf,df,w1,w2,w3,w4⟩:Ev)=true:=by
    simp [-bind_some, plB]
    omega
   simp [-bind_some, itE,hrj,evE,hp,ht,hw.1,hw.2,hl 2000 (by omega),htr,hst,hs,hv]
  ·have hr:=(show ∀ s∈lt98_35,s≠[]∧¬ 32<s.length by decide) _ h.r
   rw [← q0] at hr
   have h1:=h.h0;have h2:=h.h2
   obtain rfl:b5=0:=q6.trans h.t0
   obtain rfl:b6=0:=q7.trans h.w0
   obtain rfl:b7=[]:=q8.trans h.tr
   obtain rfl:b8=[]:=q9.trans h.st
   obtain rfl:bf=[]:=q10.trans h.fs
   have hp:plB (⟨b0,b1,b2,b3,bl,dl,0,0,[],[],[],df,w1,w2,w3,w4⟩:Ev)=true:=by
    simp [-bind_some, plB]
    omega
   have htx:∀ p∈bl,p.txt=[]:=fun p hp=>by
    rw [q5] at hp
    obtain ⟨l0,hl0,rfl⟩:=d7z.1 hp
    exact h.tx l0 hl0
   have ha:(bl.any fun p => !(p.txt==[]))=false:=by
    rw [List.any_eq_false]
    intro p hp
    simp [-bind_some, htx p hp]
   simp [-bind_some, itE,hr.1,hr.2,hp,hl 60000 (by omega)]
   exact htx
inductive MkA:Int→List FM→Prop
 | nil (n):MkA n []
 | cons {n:Int} {m:FM} {r}:n≤m.1→m.1≤3→0≤m.2→m.2≤1000→MkA (m.1+1) r→MkA n (m::r)
theorem MkA.mem:∀ {l:List FM} {n:Int},MkA n l→∀ m∈l,n≤m.1∧m.1≤3∧0≤m.2∧m.2≤1000
 | x::r,n,h,m,hm=>by
  cases h with
  | cons h1 h2 h3 h4 h5 =>
   rcases d7x.1 hm with rfl | hm
   ·exact ⟨h1,h2,h3,h4⟩
   ·have:=h5.mem m hm
    omega
theorem MkA.asc:∀ {l:List FM} {n:Int},MkA n l→a7d l=true
 | [],n,h=>rfl
 | [x],n,h=>rfl
 | x::y::r,n,h=>by
  cases h with
  | cons h1 h2 h3 h4 h5 =>
   have:=h5.asc
   cases h5 with
   | cons g1 g2 g3 g4 g5 =>
    unfold a7d
    rw [this]
    simp [-bind_some];omega
theorem MkA.neg {l:List FM} {n:Int} (h:MkA n l) (hn:0≤n):a6C l=false:=by
 unfold a6C
 rw [List.any_eq_false]
 intro m hm
 have:=h.mem m hm
 simp [-bind_some];omega
theorem MkA.app {k:Int}:∀ {l:List FM} {n:Int} {m:FM},MkA n l→(∀ x∈l,x.1<m.1)→n≤m.1→m.1≤3→0≤m.2→m.2≤1000→MkA n (l++[m])
 | [],n,m,h,hx,h1,h2,h3,h4 => .cons h1 h2 h3 h4 (.nil _)
 | x::r,n,m,h,hx,h1,h2,h3,h4=>by
  cases h with
  | cons g1 g2 g3 g4 g5 =>
   have:=hx x (by simp)
   exact .cons g1 g2 g3 g4 (MkA.app (k:=k) g5 (fun y hy=>hx y (List.mem_cons_of_mem _ hy)) (by omega) h2 h3 h4)
theorem d2o {h:Hp} {o:Nat} (hc:CM h o):∃ ms d h',R b4o [.ptr o 0 0] h=some (d,h')∧SlOf 2 mkr ms d∧MkA 0 ms∧CM h' o∧Same o h h':=by
 suffices Wp (R b4o [.ptr o 0 0] h) (fun p=>∃ ms,SlOf 2 mkr ms p.1∧MkA 0 ms∧CM p.2 o∧Same o h p.2) by
  obtain ⟨⟨x,h'⟩,h1,ms,h2⟩:=this
  exact ⟨ms,x,h',h1,h2⟩
 have ho:=hc.lt
 rw [d0K]
 simp only [c5W,bs,d7c]
 refine Wp.loop (fun n ds g=>∃ d,∃ i:Nat,∃ x y,∃ l:List FM,ds=[d,.int .i64 i,x,y]∧n+i=4∧Sm h o g∧Own g h.length a0K 2 (l.map mkr) d∧MkA 0 l∧(∀ m∈l,m.1<i)∧l.length≤i)
  (fun r=>r.1 = .ext 0∧∃ d,∃ l:List FM,nth 0 r.2.1=d∧Sm h o r.2.2∧Own r.2.2 h.length a0K 2 (l.map mkr) d∧MkA 0 l) 4 ⟨.nils,0,.any,.any,[],rfl,rfl,.refl hc,.nils _ _ _ _,.nil _,by simp,by simp⟩ ?_ ?_
 ·rintro n ds g ⟨d,i,x,y,l,rfl,hi,S,ow,hl,hlt,hll⟩
  simp only [b3o,a0g,a0q,bs,d7c,a0n]
  refine Wp.dif ?_ ?_
  ·intro h0
   have h0:i<4:=dl_ h0
   have hw:=wi_ i (by omega)
   obtain ⟨v,g1,e1,c1,s1,v0,v1⟩:=m39 S.cd 2 (by omega) (by omega)
   have S1:=S.next c1 s1
   have ow1:=ow.same s1 ho
   simp only [e1,bs,a0Q]
   by_cases hv:v=1
   ·simp only [hv,decide_true,a0d,if_true]
    obtain ⟨w,g2,e2,c2,s2,w0,w1⟩:=m39 S1.cd 120 (by omega) (by omega)
    have S2:=S1.next c2 s2
    have ow2:=ow1.same s2 ho
    simp only [e2,bs,a5m,a6f,d7c]
    refine a7b (ys:=[mkr ((i:Int),w)]) (n0:=h.length) S2.le ow2 (a1d _ _ _ _) (by simp;omega) fun d' g3 ow3 l3 k3 _ _=>?_
    have S3:=S2.app l3 fun q hq=>k3 q hq
    simp only [bs,a0s,a2p,a0g,a0t,hw]
    have e:l.map mkr++[mkr ((i:Int),w)]=(l++[((i:Int),w)]).map mkr:=by simp
    rw [e] at ow3
    refine .some (.inl ⟨rfl,n - 1,by omega,_,i+1,_,_,_,rfl,by omega,S3,ow3,MkA.app (k:=0) hl (fun m hm=>hlt m hm) (by show (0:Int)≤i;omega) (by show (i:Int)≤3;omega) w0 (by show w≤1000;omega),fun m hm=>?_,by simp;omega⟩)
    rcases d7y.1 hm with hm | hm
    ·have:=hlt m hm;omega
    ·simp at hm;rw [hm];show (i:Int)<_;omega
   ·simp only [hv,decide_false,a0d,d7d,if_false]
    simp only [bs,a0s,a2p,a0g,a0t,hw]
    exact .some (.inl ⟨rfl,n - 1,by omega,_,i+1,_,_,l,rfl,by omega,S1,ow1,hl,fun m hm=>by have:=hlt m hm;omega,by omega⟩)
  ·intro _
   exact .some (.inr ⟨by simp,rfl,d,l,rfl,S,ow,hl⟩)
 ·rintro ⟨ex,ds,g⟩ ⟨rfl,d,l,hd,S,ow,hl⟩
  simp only at hd S ow
  simp only [a0r,a0s,bs,a0g,hd,a0j]
  have fM:=a2g (n0:=h.length) (n:=3) ow (Nat.le_refl _) (fun a _=>a4Y _ g 3 a)
  obtain ⟨h',e,c',s'⟩:=S.scope (d:=d) rfl (a1K fM fun a _=>b1H _ a)
  rw [e]
  exact .some ⟨l,fM,hl,c',s'⟩
def mvL (k:Int) (l:Lin):Lin:=⟨l.off+k,l.len,l.txt⟩
theorem c4i (s:Int) (ls:List Lin) (i:Nat) (hi:i<ls.length):(((ls.take i).map (mvL s)++ls.drop i).map a1p).set i (a1p (mvL s ls[i]))=((ls.take (i+1)).map (mvL s)++ls.drop (i+1)).map a1p:=by
 have hg:ls[i]?=some ls[i]:=d7r hi
 rw [List.drop_eq_getElem_cons hi,d7o,hg]
 generalize ls[i]=l
 rw [d7j,d7k,a4w _ _ _ _ i (by simp;omega)]
 simp [-bind_some]
theorem c7K {s:Int} {ls:List Lin} {x:D} {n0:Nat} {g:Hp} (ow:Own g n0 a1o 3 (ls.map a1p) x) (hl:ls.length≤1000) (hw:∀ l∈ls, -9223372036854775808≤l.off+s∧l.off+s<9223372036854775808) (a b:D) {β:Type} {K:Out→Option β} {Q:β→Prop}
  (k:∀ g' a' b' c',g'.length=g.length→(∀ q,¬ x.inOb q→g'[q]?=g[q]?)→Own g' n0 a1o 3 ((ls.map (mvL s)).map a1p) x→Wp (K (.ext 2,[a',b',c'],g')) Q) :
  Wp ((a0P (a9H (.int .i64 s) x (.int .i64 ls.length)) [a,.int .i64 0,b] g).bind K) Q:=by
 refine Wp.loop (fun r ds g'=>∃ y z,∃ i:Nat,ds=[y,.int .i64 i,z]∧r+i=ls.length∧g'.length=g.length∧(∀ q,¬ x.inOb q→g'[q]?=g[q]?)∧Own g' n0 a1o 3 (((ls.take i).map (mvL s)++ls.drop i).map a1p) x)
  (fun r=>r.1 = .ext 2∧∃ a' b' c',r.2.1=[a',b',c']∧r.2.2.length=g.length∧(∀ q,¬ x.inOb q→r.2.2[q]?=g[q]?)∧Own r.2.2 n0 a1o 3 ((ls.map (mvL s)).map a1p) x) ls.length ⟨_,_,0,rfl,by omega,rfl,fun _ _=>rfl,by simpa using ow⟩ ?_ ?_
 ·rintro r ds g' ⟨y,z,i,rfl,hi,lg,sg,ow'⟩
  simp only [a9H,a0g,a0q,bs,d7c,a0n]
  refine Wp.dif ?_ ?_
  ·intro h0
   have h0:i<ls.length:=dl_ h0
   have hg:ls[i]?=some ls[i]:=d7r h0
   have hset:=c4i s ls i h0
   have hmem:ls[i]∈ls:=List.getElem_mem h0
   have hrow:(((ls.take i).map (mvL s)++ls.drop i).map a1p)[i]?=some (a1p ls[i]):=by
    rw [d7p,List.getElem?_append_right (by simp;omega)]
    have:i - ((ls.take i).map (mvL s)).length=0:=by simp;omega
    rw [this,List.getElem?_drop]
    simp [-bind_some, hg]
   have hL:(((ls.take i).map (mvL s)++ls.drop i).map a1p).length=ls.length:=by simp;omega
   obtain ⟨w0,w1⟩:=hw _ hmem
   generalize ls[i]=l at *
   have hws:IntKind.wrap .i64 (l.off+s)=l.off+s:=wrap_i64 w0 (by omega)
   have hw1:=wi_ i (by omega)
   rcases ow' with ⟨_,hn⟩ | ⟨o,hno,rfl,ho⟩
   ·rw [hn] at hrow;cases hrow
   rw [hL]
   have hlt:(0:Int)≤i∧(i:Int)<ls.length:=⟨by omega,by omega⟩
   have ld:a0b tab g' ty3 (.ptr o i 0)=some (.int .i64 l.off):=by rw [a6R,a0I ho,hrow];rfl
   rw [hL] at sg
   simp only [c0z,hlt,and_self,if_true,bs,Nat.zero_add,d7l,a3g,Nat.add_zero,ld,a0t,hws]
   refine b0H (kk:=i) (off:=0) (row:=a1p l) ho hrow (by rfl) (by simp [-bind_some, a1p]) (by rfl) fun g3 p3 s3=>?_
   have hspl:spl (a1p l) 0 (a0B (.int .i64 (l.off+s)))=a1p (mvL s l):=id rfl
   rw [hspl,hset] at p3
   simp only [bs,hw1]
   refine .some (.inl ⟨rfl,r - 1,by omega,_,_,i+1,rfl,by omega,s3.1.trans lg,fun q hq=>?_,?_⟩)
   ·rw [s3.2 q fun hh=>hq ⟨3,ls.length,by rw [hh]⟩];exact sg q hq
   ·refine .inr ⟨o,hno,?_,p3⟩
    have:(((ls.take (i+1)).map (mvL s)++ls.drop (i+1)).map a1p).length=ls.length:=by simp;omega
    rw [this]
  ·intro h0
   have h0:i=ls.length:=by
    have:¬ (i:Int)<ls.length:=by simpa using h0
    omega
   subst h0
   rw [d7A,List.drop_length,List.append_nil] at ow'
   exact .some (.inr ⟨by simp,rfl,_,_,_,rfl,lg,sg,ow'⟩)
 ·rintro ⟨ex,ds,g'⟩ ⟨rfl,a',b',c',rfl,lg,sg,ow'⟩
  exact k g' a' b' c' lg sg ow'
def RowQ (g:Hp) (n0:Nat) (x:RI) (row:List D):Prop:=∃ ld fd,row=x.row ld fd∧Own g n0 a1o 3 (x.ls.map a1p) ld∧SlOf 2 fld x.fs fd∧x.ls.length≤1000∧x.fs.length≤1000
inductive RowsQ (g:Hp) (n0:Nat):List RI→List (List D)→Prop
 | nil:RowsQ g n0 [] []
 | cons {x row xs rows}:RowQ g n0 x row→RowsQ g n0 xs rows→RowsQ g n0 (x::xs) (row::rows)
theorem RowsQ.snoc {g:Hp} {n0:Nat} {x:RI} {row:List D}:∀ {xs:List RI} {rows:List (List D)},RowsQ g n0 xs rows→RowQ g n0 x row→RowsQ g n0 (xs++[x]) (rows++[row])
 | _,_,.nil,h => .cons h .nil
 | _,_,.cons a b,h => .cons a (b.snoc h)
theorem RowsQ.len {g:Hp} {n0:Nat}:∀ {xs:List RI} {rows:List (List D)},RowsQ g n0 xs rows→rows.length=xs.length
 | _,_,.nil=>rfl
 | _,_,.cons a b=>by simp [-bind_some, b.len]
theorem RowQ.keep {g g':Hp} {n0:Nat} {x:RI} {row:List D} (h:RowQ g n0 x row) (hk:∀ q rs,n0≤q→q<g.length→g[q]?=some (.row a1o 3 rs)→g'[q]?=g[q]?):RowQ g' n0 x row:=by
 obtain ⟨ld,fd,h1,h2,h3⟩:=h
 exact ⟨ld,fd,h1,h2.keep fun q hq hin=>hk q _ hq (h2.lt hin).2 (a1V h2 hin),h3⟩
theorem RowsQ.keep {g g':Hp} {n0:Nat} (hk:∀ q rs,n0≤q→q<g.length→g[q]?=some (.row a1o 3 rs)→g'[q]?=g[q]?):∀ {xs:List RI} {rows:List (List D)},RowsQ g n0 xs rows→RowsQ g' n0 xs rows
 | _,_,.nil => .nil
 | _,_,.cons a b => .cons (a.keep hk) (b.keep hk)
theorem RowQ.fz {g:Hp} {n0 m:Nat} (hm:m≤n0) {x:RI} {row:List D} (h:RowQ g n0 x row):∃ j:It,a1m j=x∧row.map (Pi.frz m g 2)=itr j:=by
 obtain ⟨ld,fd,rfl,h2,h3,h4,h5⟩:=h
 have hsl:=a2g (n0:=m) (n:=1) h2 hm (fun a _=>a5p _ g _ a)
 have hfd:Pi.frz m g 2 fd=fd:=a2Z (n:=1) h3 fun p _ d hd=>by
  simp only [fld,d7x,List.not_mem_nil,or_false] at hd
  rcases hd with rfl | rfl <;> rfl
 refine ⟨c3I x (Pi.frz m g 2 ld) fd hsl h3 (by omega) (by omega),b8i _ _ _ _ _ _ _,?_⟩
 show [_,_,_,_,_,Pi.frz m g 2 ld,_,_,_,_,Pi.frz m g 2 fd]=_
 rw [hfd]
 rfl
theorem RowsQ.fz {g:Hp} {n0 m:Nat} (hm:m≤n0):∀ {xs:List RI} {rows:List (List D)},RowsQ g n0 xs rows→∃ its:List It,its.map a1m=xs∧rows.map (fun row=>row.map (Pi.frz m g 2))=its.map itr
 | _,_,.nil=>⟨[],rfl,rfl⟩
 | _,_,.cons a b=>by
  obtain ⟨j,h1,h2⟩:=a.fz hm
  obtain ⟨its,h3,h4⟩:=b.fz hm
  exact ⟨j::its,by simp [-bind_some, h1,h3],by simp [-bind_some, h2,h4]⟩
theorem c3L {g:Hp} {n1 m e z n:Nat} {rows:List (List D)} {d:D} (hd:Own g n1 e z rows d) (hn:m≤n1):(rows=[]∧frz m g (n+1) d = .nils)∨frz m g (n+1) d = .sl z false (rows.map fun row=>row.map (frz m g n)):=by
 rcases hd with ⟨rfl,hr⟩ | ⟨o,ho,rfl,hg⟩
 ·exact .inl ⟨hr,rfl⟩
 ·right
  have:Nat.ble m o=true:=by rw [Nat.ble_eq];omega
  simp only [Pi.frz,this,hg,List.drop_zero,d7A]
theorem c1G (o k:Nat) (f:Int) (h0:0≤f) (h3:f<3):a0c tab a2Q (.ptr o k 0) (.int .i64 f)=some (.ptr o k f.toNat):=by
 have h1:b0V tab a2Q=some (ti3,some 3):=id rfl
 have h2:ti3.sz=1:=id rfl
 have h4:f<((3:Nat):Int):=h3
 simp only [a0c,h1,h2,h0,h4,and_self,if_true,Nat.zero_lt_one]
 simp [-bind_some]
def enr (es:List Int):List D:=es.map (.int .i64 ·)
structure QA (h g k:Hp) (o:Nat) (es:List Int) (row:List D):Prop where
 s:Sm h o k
 e:k[h.length]?=some (.row a2Q 3 [enr es])
 i:k[g.length]?=some (.row a0L 11 [row])
 a:∀ q,q<g.length→q≠o→q≠h.length→k[q]?=g[q]?
 hg:h.length<g.length
theorem QA.l {h g k:Hp} {o:Nat} {es:List Int} {row:List D} (A:QA h g k o es row):g.length<k.length:=(d7s.1 A.i).1
theorem QA.next {h g k k':Hp} {o:Nat} {es:List Int} {row:List D} (A:QA h g k o es row) (c:CM k' o) (s:Same o k k'):QA h g k' o es row :=
 have ho:=A.s.lt
 have hg:=A.hg
 ⟨A.s.next c s,by rw [s.2 _ (by omega)];exact A.e,by rw [s.2 _ (by omega)];exact A.i,fun q h1 h2 h3=>by rw [s.2 q h2];exact A.a q h1 h2 h3,A.hg⟩
theorem QA.put {h g k k':Hp} {o:Nat} {es:List Int} {row row':List D} (A:QA h g k o es row) (p:k'[g.length]?=some (.row a0L 11 [row'])) (s:Same g.length k k'):QA h g k' o es row' :=
 have ho:=A.s.lt
 have hg:=A.hg
 ⟨A.s.app (Nat.le_of_eq s.1.symm) fun q hq=>s.2 q (by omega),by rw [s.2 _ (by omega)];exact A.e,p,fun q h1 h2 h3=>by rw [s.2 q (by omega)];exact A.a q h1 h2 h3,A.hg⟩
theorem QA.ends {h g k k':Hp} {o:Nat} {es es':List Int} {row:List D} (A:QA h g k o es row) (p:k'[h.length]?=some (.row a2Q 3 [enr es'])) (s:Same h.length k k'):QA h g k' o es' row :=
 have ho:=A.s.lt
 have hg:=A.hg
 ⟨A.s.app (Nat.le_of_eq s.1.symm) fun q hq=>s.2 q (by omega),p,by rw [s.2 _ (by omega)];exact A.i,fun q h1 h2 h3=>by rw [s.2 q h3];exact A.a q h1 h2 h3,A.hg⟩
theorem QA.grow {h g k k':Hp} {o:Nat} {es:List Int} {row:List D} (A:QA h g k o es row) (l:k.length≤k'.length) (s:∀ q,q<g.length+1→k'[q]?=k[q]?):QA h g k' o es row :=
 have ho:=A.s.lt
 have hg:=A.hg
 ⟨A.s.app l fun q hq=>s q (by omega),by rw [s _ (by omega)];exact A.e,by rw [s _ (by omega)];exact A.i,fun q h1 h2 h3=>by rw [s q (by omega)];exact A.a q h1 h2 h3,A.hg⟩
theorem c6N (es:List Int) (f v:Int) (h3:es.length=3) (h0:0≤f) (hf:f<3):spl (enr es) f.toNat (a0B (.int .i64 v))=enr (es.set f.toNat v):=by
 match es,h3 with
 | [a,b,c],_ =>
  have:f=0∨f=1∨f=2:=by omega
  rcases this with rfl | rfl | rfl <;> rfl
theorem c6M (es:List Int) (f:Int) (h3:es.length=3) (h0:0≤f) (hf:f<3):∃ e,es[f.toNat]?=some e∧((enr es).drop f.toNat).head?=some (.int .i64 e)∧e∈es:=by
 match es,h3 with
 | [a,b,c],_ =>
  have:f=0∨f=1∨f=2:=by omega
  rcases this with rfl | rfl | rfl
  ·exact ⟨a,rfl,rfl,by simp⟩
  ·exact ⟨b,rfl,rfl,by simp⟩
  ·exact ⟨c,rfl,rfl,by simp⟩
def rkr (r:Int):List D:=[.int .i64 r]
structure QP (h g:Hp) (o:Nat) (es:List Int) (xs:List RI) (rows:List (List D)) (rs:List Int) (x y:D):Prop where
 s:Sm h o g
 e:g[h.length]?=some (.row a2Q 3 [enr es])
 e3:es.length=3
 eb:∀ e∈es,0≤e∧e≤40+1000*xs.length
 q:RowsQ g (h.length+1) xs rows
 x:Own g (h.length+1) a0L 11 rows x
 y:Own g (h.length+1) ty3 1 (rs.map rkr) y
 ok:∀ z∈xs,∀ j:It,a1m j=z→OkI j
 rl:rs.length=xs.length
theorem QP.hg {h g:Hp} {o:Nat} {es:List Int} {xs:List RI} {rows:List (List D)} {rs:List Int} {x y:D} (P:QP h g o es xs rows rs x y):h.length<g.length:=(d7s.1 P.e).1
theorem d2u {h g:Hp} {o:Nat} {es:List Int} {xs:List RI} {rows:List (List D)} {rs:List Int} {x y:D} (P:QP h g o es xs rows rs x y) (hx:xs.length≤40) {n:Int} (hn:0<n) (hn2:n≤1000) {p8:D × Hp} (hp:p8.1 = .ptr h.length 0 0) (d3 d4 d5 d6 d7 d8 d9 d10 d11:D) {Q:Out→Prop}
  (k:∀ g' es' z rows' r x' y' e3 e4 e5 e6 e7 e8 e9 e10 e11,QP h g' o es' (xs++[z]) rows' (rs++[r]) x' y'→Q (.nrm,[x',y',.int .i64 (n - 1),e3,e4,e5,e6,e7,e8,e9,e10,e11],g')) :
  Wp (a7x (.ptr o 0 0) p8 [x,y,.int .i64 n,d3,d4,d5,d6,d7,d8,d9,d10,d11] g) Q:=by
 have hgt:decide (n>0)=true:=decide_eq_true hn
 have ho:=P.s.lt
 have hg:=P.hg
 simp only [a7x,a0g,a0q,bs,d7c,a0u,hgt,a0d,if_true]
 obtain ⟨i,g1,e1,c1,s1,hi⟩:=c7t P.s.cd
 obtain ⟨hch,a20,a31,l1⟩:=hi.ch
 have hle:=a5G _ _ _ hch
 have l3:=hi.l3
 have f4:=hi.fs
 simp only [e1,bs]
 have l1g:g1.length=g.length:=s1.1
 have n0:(a0H g1 a0L 11 [[.str [],.int .i64 0,.int .i64 0,.int .i64 0,.int .i64 0,.nils,.int .i64 0,.int .i64 0,.str [],.str [],.nils]])[g.length]?=some (.row a0L 11 [itr zit]):=by rw [← l1g];exact a1a _ _ _ _
 have nk:∀ q,q<g.length→(a0H g1 a0L 11 [[.str [],.int .i64 0,.int .i64 0,.int .i64 0,.int .i64 0,.nils,.int .i64 0,.int .i64 0,.str [],.str [],.nils]])[q]?=g1[q]?:=fun q hq=>a0W _ _ _ _ (by omega)
 have nl:(a0H g1 a0L 11 [[.str [],.int .i64 0,.int .i64 0,.int .i64 0,.int .i64 0,.nils,.int .i64 0,.int .i64 0,.str [],.str [],.nils]]).length=g.length+1:=by rw [← l1g];exact a2C _ _ _ _
 rw [l1g]
 generalize a0H g1 a0L 11 [[.str [],.int .i64 0,.int .i64 0,.int .i64 0,.int .i64 0,.nils,.int .i64 0,.int .i64 0,.str [],.str [],.nils]]=g2 at *
 have A2:QA h g g2 o es (itr zit):=⟨(P.s.next c1 s1).app (by omega) fun q hq=>nk q (by omega),by rw [nk _ hg,s1.2 _ (by omega)];exact P.e,n0,fun q h1 h2 h3=>by rw [nk q h1,s1.2 q h2],hg⟩
 clear n0 nk nl
 refine b2a (kk:=0) (off:=0) (row:=itr zit) (v := .agg (itr i)) A2.i (by rfl) (by rfl) (by exact Nat.le_refl _) (b2w _) fun g3 p3 s3=>?_
 have A3:QA h g g3 o es (itc i.r i.e.a0 i.e.a1 i.e.a2 i.e.a3 i.e.ld i.e.a5 i.e.a6 i.e.s7 i.e.s8 i.e.fd):=A2.put p3 s3
 clear p3 s3 A2 e1
 obtain ⟨f,g4,e4,c4,s4,f0,f3⟩:=m39 A3.s.cd 3 (by omega) (by omega)
 have A4:=A3.next c4 s4
 clear A3 s4 c4
 simp only [e4,bs,a3H,a7T]
 refine b0H (kk:=0) (off:=0+1+1) (v := .int .i64 f) A4.i (by rfl) (by rfl) (by simp [-bind_some, itc]) (by rfl) fun g5 p5 s5=>?_
 have A5:QA h g g5 o es (itc i.r i.e.a0 f i.e.a2 i.e.a3 i.e.ld i.e.a5 i.e.a6 i.e.s7 i.e.s8 i.e.fd):=A4.put p5 s5
 clear p5 s5 A4 e4
 obtain ⟨ef,he,hed,hem⟩:=c6M es f P.e3 f0 f3
 obtain ⟨eb0,eb1⟩:=P.eb ef hem
 have lde:a0b tab g5 ty3 (.ptr h.length 0 f.toNat)=some (.int .i64 ef):=by rw [a6R,a0I A5.e];exact hed
 have ldf:a0b tab g5 ty3 (.ptr g.length 0 (0+1+2))=some (.int .i64 i.e.a2):=by rw [a6R,a0I A5.i];rfl
 have ldl:a0b tab g5 a1i (.ptr g.length 0 (0+1+4))=some i.e.ld:=by rw [b2B,a0I A5.i];rfl
 have hsh:IntKind.wrap .i64 (ef - i.e.a2)=ef - i.e.a2:=wrap_i64 (by omega) (by omega)
 simp only [bs,hp,c1G _ _ f f0 f3,lde,a3H,a4m,a3p,ldf,ldl,a0D,hsh]
 refine b2W (n0:=g5.length) (rows:=[]) (Nat.le_refl _) (.nils _ _ _ _) (a2L _ i.e.hld) (by simp;omega) fun x6 g6 o6 l6 k6 _ _=>?_
 rw [List.nil_append] at o6
 have l5:=A5.l
 have A6:=A5.grow l6 fun q hq=>k6 q (by omega)
 have lx6:a0y tab a1i x6=some (.int .i64 i.e.ls.length):=by rw [b4E o6];simp [-bind_some]
 have hoff:∀ l∈i.e.ls,0≤l.off∧l.off≤1000:=by
  have key:∀ (ls:List Lin) (a b:Int),mch a ls b→∀ y∈ls,a≤y.off∧y.off≤b:=by
   intro ls
   induction ls with
   | nil=>intro a b _ y hy;simp at hy
   | cons z r ih =>
    intro a b h y hy
    have h5:=a5G _ _ _ h.2.2.2.2
    rcases d7x.1 hy with rfl | hy
    ·have:=h.1;have:=h.2.1;omega
    ·have:=ih _ b h.2.2.2.2 y hy
     have:=h.2.1
     omega
  intro l hl
  have:=key _ _ _ hch l hl
  omega
 simp only [bs,lx6,d7c]
 refine c7K (s:=ef - i.e.a2) o6 (by omega) (fun l hl=>by have:=hoff l hl;omega) _ _ fun g7 z7 z10 z11 l7 k7 o7=>?_
 have A7:QA h g g7 o es _:=A6.grow (by omega) fun q hq=>k7 q fun hin=>by have:=(o6.lt hin).1;omega
 clear k7 A6 k6
 have ldf7:a0b tab g7 ty3 (.ptr g.length 0 (0+1+2))=some (.int .i64 i.e.a2):=by rw [a6R,a0I A7.i];rfl
 have ldt7:a0b tab g7 ty3 (.ptr g.length 0 (0+1+3))=some (.int .i64 i.e.a3):=by rw [a6R,a0I A7.i];rfl
 have hs2:IntKind.wrap .i64 (i.e.a2+(ef - i.e.a2))=i.e.a2+(ef - i.e.a2):=wrap_i64 (by omega) (by omega)
 have hs3:IntKind.wrap .i64 (i.e.a3+(ef - i.e.a2))=i.e.a3+(ef - i.e.a2):=wrap_i64 (by omega) (by omega)
 simp only [bs,a0r,a0s,a0g,a0q,a3H,a4m,a3R,a3p,ldf7,ldt7,a0t,hs2,hs3,d7c]
 have ox:=a0z (a1l o7)
 refine b1Z (kk:=0) (off:=0+1+4) A7.i (by rfl) (by rw [ox.1];rfl) (by simp [-bind_some, itc]) ox.2 fun g8 p8' s8=>?_
 rw [ox.1] at p8'
 have A8:QA h g g8 o es (itc i.r i.e.a0 f i.e.a2 i.e.a3 x6 i.e.a5 i.e.a6 i.e.s7 i.e.s8 i.e.fd):=A7.put p8' s8
 have o8:=o7.same s8 (by omega)
 clear p8' s8 A7 ldf7 ldt7
 try simp only [bs,a3H,a4m,a3R]
 refine b0H (kk:=0) (off:=0+1+2) (v := .int .i64 (i.e.a2+(ef - i.e.a2))) A8.i (by rfl) (by rfl) (by simp [-bind_some, itc]) (by rfl) fun g9 p9 s9=>?_
 have A9:QA h g g9 o es (itc i.r i.e.a0 f (i.e.a2+(ef - i.e.a2)) i.e.a3 x6 i.e.a5 i.e.a6 i.e.s7 i.e.s8 i.e.fd):=A8.put p9 s9
 have o9:=o8.same s9 (by omega)
 clear p9 s9 A8 o8
 try simp only [bs,a3H,a4m,a3R]
 refine b0H (kk:=0) (off:=0+1+3) (v := .int .i64 (i.e.a3+(ef - i.e.a2))) A9.i (by rfl) (by rfl) (by simp [-bind_some, itc]) (by rfl) fun ga pa sa=>?_
 have Aa:QA h g ga o es (itc i.r i.e.a0 f (i.e.a2+(ef - i.e.a2)) (i.e.a3+(ef - i.e.a2)) x6 i.e.a5 i.e.a6 i.e.s7 i.e.s8 i.e.fd):=A9.put pa sa
 have oa:=o9.same sa (by omega)
 clear pa sa A9 o9
 have ldta:a0b tab ga ty3 (.ptr g.length 0 (0+1+3))=some (.int .i64 (i.e.a3+(ef - i.e.a2))):=by rw [a6R,a0I Aa.i];rfl
 simp only [bs,a3H,a3R,ldta,hp,c1G _ _ f f0 f3]
 refine b0H (kk:=0) (off:=f.toNat) (v := .int .i64 (i.e.a3+(ef - i.e.a2))) Aa.e (by rfl) (by rfl) (by simp only [enr,d7i,P.e3];omega) (by rfl) fun gb pb sb=>?_
 rw [c6N es f _ P.e3 f0 f3] at pb
 have Ab:QA h g gb o (es.set f.toNat (i.e.a3+(ef - i.e.a2))) _:=Aa.ends pb sb
 have ob:=oa.same sb (by omega)
 clear pb sb Aa oa ldta
 have ldi:a0b tab gb a0L (.ptr g.length 0 0)=some (.agg (itc i.r i.e.a0 f (i.e.a2+(ef - i.e.a2)) (i.e.a3+(ef - i.e.a2)) x6 i.e.a5 i.e.a6 i.e.s7 i.e.s8 i.e.fd)):=b7S Ab.i rfl
 have hlit:a0X tab a1x 1 [0] [.agg (itc i.r i.e.a0 f (i.e.a2+(ef - i.e.a2)) (i.e.a3+(ef - i.e.a2)) x6 i.e.a5 i.e.a6 i.e.s7 i.e.s8 i.e.fd)]=some (.sl 11 true [itc i.r i.e.a0 f (i.e.a2+(ef - i.e.a2)) (i.e.a3+(ef - i.e.a2)) x6 i.e.a5 i.e.a6 i.e.s7 i.e.s8 i.e.fd]):=id rfl
 simp only [bs,ldi,hlit]
 have hin:∀ {e z:Nat} {rw:List (List D)} {d:D},Own g (h.length+1) e z rw d→Own gb (h.length+1) e z rw d:=fun w=>w.keep fun q hq hi=>Ab.a q (w.lt hi).2 (by omega) (by omega)
 have xb:=hin P.x
 have yb:=hin P.y
 have qb:=P.q.keep (g':=gb) fun q _ hq hq2 _=>Ab.a q hq2 (by omega) (by omega)
 have hlr:rows.length≤40:=by rw [P.q.len];exact hx
 have lb:=Ab.l
 refine b1X (n0:=h.length+1) (by omega) xb (a1d _ _ _ _) (by simp;omega) fun x' gc oc lc kc kc' _=>?_
 have Sc:=Ab.s.app lc fun q hq=>kc q (by omega)
 have nox:∀ {e z:Nat} {rw:List (List D)} {d:D} {m:Nat},Own gb m e z rw d→e≠a0L→Own gc m e z rw d:=fun w hne=>w.keep fun q hq hi=>kc' q (w.lt hi).2 fun hx=>by
  have h1:=a1V w hi
  rw [a1V xb hx] at h1
  injection h1 with h1
  injection h1 with h1
  exact hne h1.symm
 have yc:=nox yb (by decide)
 have ol:=nox ob (by decide)
 have qc:=qb.keep (g':=gc) fun q rs _ hq h1=>kc' q hq fun hx=>by
  rw [a1V xb hx] at h1
  injection h1 with h1
  injection h1 with h1
  exact absurd h1 (by decide)
 have ec:gc[h.length]?=some (.row a2Q 3 [enr (es.set f.toNat (i.e.a3+(ef - i.e.a2)))]):=by rw [kc _ (by omega)];exact Ab.e
 obtain ⟨r,gd,ed,cd,sd,r0,r4⟩:=m39 Sc.cd 4 (by omega) (by omega)
 have Sd:=Sc.next cd sd
 simp only [bs,ed,c6u]
 have xd:=oc.same sd (by omega)
 have yd:=yc.same sd (by omega)
 have old:=ol.same sd (by omega)
 have qd:=qc.keep (g':=gd) fun q rs hq _ _=>sd.2 q (by omega)
 have hld:gd.length=gc.length:=sd.1
 have hrl:rs.length≤40:=by rw [P.rl];exact hx
 refine d3F (ys:=[rkr r]) (n0:=h.length+1) (by omega) yd (a1d _ _ _ _) (by simp;omega) fun y' ge oe le ke ke' _=>?_
 have noy:∀ {e z:Nat} {rw:List (List D)} {d:D} {m:Nat},Own gd m e z rw d→e≠ty3→Own ge m e z rw d:=fun w hne=>w.keep fun q hq hi=>ke' q (w.lt hi).2 fun hx=>by
  have h1:=a1V w hi
  rw [a1V yd hx] at h1
  injection h1 with h1
  injection h1 with h1
  exact hne h1.symm
 have hn1:IntKind.wrap .i64 (n - 1)=n - 1:=wrap_i64 (by omega) (by omega)
 simp only [bs,a0D,hn1]
 have qe:=qd.keep (g':=ge) fun q rs _ hq h1=>ke' q hq fun hx=>by
  rw [a1V yd hx] at h1
  injection h1 with h1
  injection h1 with h1
  exact absurd h1 (by decide)
 have hrow:RowQ ge (h.length+1) (mvI (a1m i) f (ef - i.e.a2)) (itc i.r i.e.a0 f (i.e.a2+(ef - i.e.a2)) (i.e.a3+(ef - i.e.a2)) x6 i.e.a5 i.e.a6 i.e.s7 i.e.s8 i.e.fd) :=
  ⟨x6,i.e.fd,rfl,(noy old (by decide)).from (by omega),i.e.hfd,by simp only [mvI,a1m,d7i];omega,by show i.e.fs.length≤1000;omega⟩
 refine .some (k ge _ (mvI (a1m i) f (ef - i.e.a2)) _ r x' y' _ _ _ _ _ _ _ _ _ ⟨Sd.app le fun q hq=>ke q (by omega),by rw [ke _ (by omega),sd.2 _ (by omega)];exact ec,by simpa using P.e3,fun e he=>?_,qe.snoc hrow,noy xd (by decide),by rw [d7j];exact oe,fun z hz j hj=>?_,by simp [-bind_some, P.rl]⟩)
 ·rcases List.mem_or_eq_of_mem_set he with he | rfl
  ·have:=P.eb e he
   simp only [d7h,d7t,d7u]
   omega
  ·simp only [d7h,d7t,d7u]
   omega
 ·rcases d7y.1 hz with hz | hz
  ·exact P.ok z hz j hj
  ·simp only [List.mem_singleton] at hz
   subst hz
   exact d2q hi f0 (by omega) (by omega) (by omega) hj
theorem c4b (n0:Nat) (h:Hp) (n:Nat) (r:Int):∀ d∈rkr r,frz n0 h n d=d:=by
 intro d hd
 simp only [rkr,List.mem_singleton] at hd
 subst hd
 exact b2t _ _ _ _ _
theorem d2p {h:Hp} {o:Nat} (hc:CM h o) (m:Nat) (hm:m≤40):∃ (its:List It) (rs:List Int) (dq dr:D) (h':Hp),R b1r [.ptr o 0 0,.int .i64 m] h=some (.tup [dq,dr],h')∧SlOf 11 itr its dq∧SlOf 1 rkr rs dr∧(∀ i∈its,OkI i)∧its.length≤m∧rs.length=its.length∧CM h' o∧Same o h h':=by
 suffices Wp (R b1r [.ptr o 0 0,.int .i64 m] h) (fun p=>∃ (its:List It) (rs:List Int) (dq dr:D),p.1 = .tup [dq,dr]∧SlOf 11 itr its dq∧SlOf 1 rkr rs dr∧(∀ i∈its,OkI i)∧its.length≤m∧rs.length=its.length∧CM p.2 o∧Same o h p.2) by
  obtain ⟨⟨x,h'⟩,h1,its,rs,dq,dr,rfl,h2⟩:=this
  exact ⟨its,rs,dq,dr,h',h1,h2⟩
 have ho:=hc.lt
 have hmul:∀ v:Int,0≤v→v<4→IntKind.wrap .i64 (10*v)=10*v:=fun v h0 h1=>wrap_i64 (by omega) (by omega)
 rw [d0L]
 simp only [c5X,bs,d7c]
 obtain ⟨v1,g1,e1,c1,s1,a1,b1⟩:=m39 hc 4 (by omega) (by omega)
 simp only [e1,bs,a2D,hmul v1 a1 b1]
 obtain ⟨v2,g2,e2,c2,s2,a2,b2⟩:=m39 c1 4 (by omega) (by omega)
 simp only [e2,bs,a2D,hmul v2 a2 b2]
 obtain ⟨v3,g3,e3,c3,s3,a3,b3⟩:=m39 c2 4 (by omega) (by omega)
 have hb:a0M tab a2Q [0,1,2] [.int .i64 (10*v1),.int .i64 (10*v2),.int .i64 (10*v3)]=some (.agg (enr [10*v1,10*v2,10*v3])):=id rfl
 simp only [e3,bs,a2D,hmul v3 a3 b3,hb,d7c]
 have l3:g3.length=h.length:=by have:=s1.1;have:=s2.1;have:=s3.1;omega
 have S3:=(((Sm.refl hc).next c1 s1).next c2 s2).next c3 s3
 have n0:(a0H g3 a2Q 3 [[.int .i64 0,.int .i64 0,.int .i64 0]])[h.length]?=some (.row a2Q 3 [enr [0,0,0]]):=by rw [← l3];exact a1a _ _ _ _
 have nk:∀ q,q<h.length→(a0H g3 a2Q 3 [[.int .i64 0,.int .i64 0,.int .i64 0]])[q]?=g3[q]?:=fun q hq=>a0W _ _ _ _ (by omega)
 have nl:(a0H g3 a2Q 3 [[.int .i64 0,.int .i64 0,.int .i64 0]]).length=h.length+1:=by rw [← l3];exact a2C _ _ _ _
 rw [l3]
 generalize a0H g3 a2Q 3 [[.int .i64 0,.int .i64 0,.int .i64 0]]=g4 at *
 have S4:=S3.app (g':=g4) (by omega) fun q hq=>nk q hq
 refine c4D (kk:=0) (off:=0) (row:=enr [0,0,0]) (v := .agg (enr [10*v1,10*v2,10*v3])) n0 (by rfl) (by rfl) (by exact Nat.le_refl _) (by rfl) fun g5 p5 s5=>?_
 have p5:g5[h.length]?=some (.row a2Q 3 [enr [10*v1,10*v2,10*v3]]):=p5
 have S5:=S4.app (Nat.le_of_eq s5.1.symm) fun q hq=>s5.2 q (by omega)
 have hm1:IntKind.wrap .i64 ((m:Int)+1)=(m:Int)+1:=wrap_i64 (by omega) (by omega)
 simp only [bs,a0t,hm1]
 obtain ⟨n,g6,e6,c6,s6,a6,b6⟩:=m39 S5.cd ((m:Int)+1) (by omega) (by omega)
 have S6:=S5.next c6 s6
 simp only [bs,e6]
 obtain ⟨N,rfl⟩:∃ N:Nat,n=N:=⟨n.toNat,by omega⟩
 have hN:N≤m:=by omega
 refine Wp.loop (fun r ds g=>∃ x y d3 d4 d5 d6 d7 d8 d9 d10 d11,∃ es xs rows rs,ds=[x,y,.int .i64 (r:Nat),d3,d4,d5,d6,d7,d8,d9,d10,d11]∧r+xs.length=N∧QP h g o es xs rows rs x y)
  (fun q=>q.1 = .ext 0∧∃ x y es xs rows rs,nth 0 q.2.1=x∧nth 1 q.2.1=y∧xs.length=N∧QP h q.2.2 o es xs rows rs x y) N ⟨.nils,.nils,_,_,_,_,_,_,_,_,_,[10*v1,10*v2,10*v3],[],[],[],rfl,by simp,⟨S6,by rw [s6.2 _ (by omega)];exact p5,rfl,fun e he=>?_,.nil,.nils _ _ _ _,.nils _ _ _ _,fun z hz=>by simp at hz,rfl⟩⟩ ?_ ?_
 ·simp only [d7x,List.not_mem_nil,or_false] at he
  simp only [d7u]
  rcases he with rfl | rfl | rfl <;> omega
 ·rintro r ds g ⟨x,y,d3,d4,d5,d6,d7,d8,d9,d10,d11,es,xs,rows,rs,rfl,hr,P⟩
  by_cases h0:r=0
  ·subst h0
   simp only [a7x,a0g,a0q,bs,d7c,a0u,show decide (((0:Nat):Int)>0)=false by decide,a0d,d7d,if_false]
   exact .some (.inr ⟨by simp,rfl,x,y,es,xs,rows,rs,rfl,rfl,by omega,P⟩)
  ·refine d2u P (by omega) (n:=(r:Int)) (by omega) (by omega) rfl _ _ _ _ _ _ _ _ _ fun g' es' z rows' r' x' y' e3 e4 e5 e6 e7 e8 e9 e10 e11 P'=>?_
   have hr1:(r:Int) - 1=((r - 1:Nat):Int):=by omega
   rw [hr1]
   exact .inl ⟨rfl,r - 1,by omega,_,_,_,_,_,_,_,_,_,_,_,_,_,_,_,rfl,by simp only [d7h,d7t,d7u];omega,P'⟩
 ·rintro ⟨ex,ds,g⟩ ⟨rfl,x,y,es,xs,rows,rs,hx,hy,hxs,P⟩
  simp only at hx hy P
  simp only [a0r,a0s,bs,a0g,a0q,hx,hy,a1c]
  obtain ⟨its,q1,q2⟩:=P.q.fz (m:=h.length) (by omega)
  have hsx:SlOf 11 itr its (frz h.length g 3 x):=by
   rcases c3L (m:=h.length) (n:=2) P.x (by omega) with ⟨w1,w2⟩ | w
   ·rw [w2]
    have:its=[]:=by rw [w1] at q2;simpa using q2.symm
    rw [this]
    exact .nils _ _
   ·rw [w,q2];exact .mk _ _ _ _
  have hsy:=a2g (n0:=h.length) (n:=2) P.y (by omega) (fun a _=>c4b _ g 2 a)
  have hil:its.length=N:=by rw [← hxs,← q1];simp [-bind_some]
  obtain ⟨h',e,c',s'⟩:=P.s.scope (d := .tup [x,y]) (d' := .tup [frz h.length g 3 x,frz h.length g 3 y]) (by rfl) (.tup _ fun d hd=>by
   simp at hd
   rcases hd with rfl | rfl
   ·exact a1K hsx fun a _=>a8c _ a
   ·exact a1K hsy fun a _ d hd=>by
      simp only [rkr,List.mem_singleton] at hd
      subst hd
      exact .int _ _)
  rw [e]
  refine .some ⟨its,rs,_,_,rfl,hsx,hsy,fun i hi=>P.ok (a1m i) ?_ i rfl,by omega,by rw [P.rl,hxs,hil],c',s'⟩
  rw [← q1]
  exact d7z.2 ⟨i,hi,rfl⟩
theorem d2m {h:Hp} {o:Nat} (hc:CM h o):∃ (n:Int) (ms:List FM) (its:List It) (dm dq:D) (h':Hp),R a7i [.ptr o 0 0] h=some (.agg (svr n dm dq),h')∧SlOf 2 mkr ms dm∧SlOf 11 itr its dq∧0≤n∧n<200∧MkA 0 ms∧(∀ i∈its,OkI i)∧its.length≤3∧CM h' o∧Same o h h':=by
 suffices Wp (R a7i [.ptr o 0 0] h) (fun p=>∃ (n:Int) (ms:List FM) (its:List It) (dm dq:D),p.1 = .agg (svr n dm dq)∧SlOf 2 mkr ms dm∧SlOf 11 itr its dq∧0≤n∧n<200∧MkA 0 ms∧(∀ i∈its,OkI i)∧its.length≤3∧CM p.2 o∧Same o h p.2) by
  obtain ⟨⟨x,h'⟩,h1,n,ms,its,dm,dq,rfl,h2⟩:=this
  exact ⟨n,ms,its,dm,dq,h',h1,h2⟩
 have ho:=hc.lt
 have r0:(a0H h a0f 3 [[.int .i64 0,.nils,.nils]])[h.length]?=some (.row a0f 3 [svr 0 .nils .nils]):=a1a _ _ _ _
 have l0:(a0H h a0f 3 [[.int .i64 0,.nils,.nils]]).length=h.length+1:=a2C _ _ _ _
 have k0:∀ q,q<h.length→(a0H h a0f 3 [[.int .i64 0,.nils,.nils]])[q]?=h[q]?:=fun q hq=>a0W _ _ _ _ hq
 rw [d0H]
 simp only [c5T,bs,d7c]
 generalize a0H h a0f 3 [[.int .i64 0,.nils,.nils]]=g0 at *
 have S0:=(Sm.refl hc).app (g':=g0) (by omega) k0
 obtain ⟨n,g1,e1,c1,s1,n0,n1⟩:=m39 S0.cd 200 (by omega) (by omega)
 have S1:=S0.next c1 s1
 obtain ⟨ms,dm,g2,e2,hm,ha,c2,s2⟩:=d2o c1
 have S2:=S1.next c2 s2
 have l2:g2.length=h.length+1:=by have:=s1.1;have:=s2.1;omega
 have r2:g2[h.length]?=some (.row a0f 3 [svr 0 .nils .nils]):=by rw [s2.2 _ (by omega),s1.2 _ (by omega)];exact r0
 simp only [e1,e2,bs,b5p n dm (a1v hm),l2,d7c]
 have r3:(a0H g2 a0f 3 [[.int .i64 0,.nils,.nils]])[h.length+1]?=some (.row a0f 3 [svr 0 .nils .nils]):=by rw [← l2];exact a1a _ _ _ _
 have k3:∀ q,q<h.length+1→(a0H g2 a0f 3 [[.int .i64 0,.nils,.nils]])[q]?=g2[q]?:=fun q hq=>a0W _ _ _ _ (by omega)
 have l3:(a0H g2 a0f 3 [[.int .i64 0,.nils,.nils]]).length=h.length+2:=by rw [a2C,l2]
 generalize a0H g2 a0f 3 [[.int .i64 0,.nils,.nils]]=g3 at *
 have S3:=S2.app (g':=g3) (by omega) fun q hq=>k3 q (by omega)
 refine a4z (kk:=0) (off:=0) (row:=svr 0 .nils .nils) (v := .agg [.int .i64 n,dm,.nils]) r3 (by rfl) (by rfl) (by exact Nat.le_refl _) (by rcases hm with ⟨rfl,_⟩ | ⟨b,rfl⟩ <;> rfl) fun g4 p4 s4=>?_
 have p4:g4[h.length+1]?=some (.row a0f 3 [svr n dm .nils]):=p4
 have S4:=S3.app (g':=g4) (Nat.le_of_eq s4.1.symm) fun q hq=>s4.2 q (by omega)
 obtain ⟨its,rs,dq,dr,g5,e5,hq,_,hok,hil,_,c5,s5⟩:=d2p S4.cd 3 (by omega)
 have e5:R b1r [.ptr o 0 0,.int .i64 3] g4=some (.tup [dq,dr],g5):=e5
 have S5:=S4.next c5 s5
 simp only [bs,e5,a0J,d7f,d7g,a6s]
 have p5:g5[h.length+1]?=some (.row a0f 3 [svr n dm .nils]):=by rw [s5.2 _ (by omega)];exact p4
 have oq:=a0z (a1v hq)
 refine b5k (kk:=0) (off:=0+2) (row:=svr n dm .nils) p5 (by rfl) (by rw [oq.1];rfl) (by exact Nat.le_refl _) oq.2 fun g6 p6 s6=>?_
 rw [oq.1] at p6
 have p6:g6[h.length+1]?=some (.row a0f 3 [svr n dm dq]):=p6
 have S6:=S5.app (g':=g6) (Nat.le_of_eq s6.1.symm) fun q hq=>s6.2 q (by omega)
 have ld6:a0b tab g6 a0f (.ptr (h.length+1) 0 0)=some (.agg (svr n dm dq)):=by rw [a3r,a0I p6];rfl
 have r6:g6[h.length]?=some (.row a0f 3 [svr 0 .nils .nils]):=by rw [s6.2 _ (by omega),s5.2 _ (by omega),s4.2 _ (by omega),k3 _ (by omega)];exact r2
 have okv:(D.agg (svr n dm dq)).okv=true:=by
  rcases hm with ⟨rfl,_⟩ | ⟨_,rfl⟩ <;> rcases hq with ⟨rfl,_⟩ | ⟨_,rfl⟩ <;> rfl
 simp only [bs,ld6]
 refine a4z (kk:=0) (off:=0) (row:=svr 0 .nils .nils) (v := .agg (svr n dm dq)) r6 (by rfl) (by rfl) (by exact Nat.le_refl _) okv fun g7 p7 s7=>?_
 have p7:g7[h.length]?=some (.row a0f 3 [svr n dm dq]):=p7
 have S7:=S6.app (g':=g7) (Nat.le_of_eq s7.1.symm) fun q hq=>s7.2 q (by omega)
 have ld7:a0b tab g7 a0f (.ptr h.length 0 0)=some (.agg (svr n dm dq)):=by rw [a3r,a0I p7];rfl
 simp only [bs,ld7,a0j]
 have fM:frz h.length g7 3 dm=dm:=a2Z hm fun a _=>a4Y _ g7 2 a
 have fQ:frz h.length g7 3 dq=dq:=a2Z hq fun a _=>a4q _ g7 1 a
 obtain ⟨h',e,c',s'⟩:=S7.scope (d := .agg (svr n dm dq)) (d' := .agg (svr n dm dq)) (by
  show D.agg [frz h.length g7 3 (.int .i64 n),frz h.length g7 3 dm,frz h.length g7 3 dq]=_
  rw [fM,fQ];rfl) (.agg _ fun d hd=>by
  simp [-bind_some, svr] at hd
  rcases hd with rfl | rfl | rfl
  ·exact .int _ _
  ·exact a1K hm fun a _=>b1H _ a
  ·exact a1K hq fun a _=>a8c _ a)
 rw [e]
 exact .some ⟨n,ms,its,dm,dq,rfl,hm,hq,n0,n1,ha,hok,hil,c',s'⟩
def a4P (ss:List SvD):List Int:=(ss.map a4I).flatten
theorem a6P (s:SvD) (t:List SvD):a4P (s::t)=a4I s++a4P t:=by simp [-bind_some, a4P]
theorem c0q (ss:List SvD):∀ z∈a4P ss,U8 z:=b2r a4I ss fun s=>b7a _ _ _
theorem b3R (s:SvD):12≤(a4I s).length:=by have:=(a6O s []).1;simp at this;omega
theorem c0p (ss:List SvD):ss.length≤(a4P ss).length:=by
 induction ss with
 | nil=>exact Nat.le_refl _
 | cons s t ih=>have:=b3R s;rw [a6P,d7h,d7t];omega
def d2D:Int→List SvD→List ((Int × List FM × List RI) × Int)
 | _,[]=>[]
 | a,s::t=>((s.1,s.2.1,s.2.2.map a1m),a+(a4I s).length)::d2D (a+(a4I s).length) t
theorem b4U:∀ (ss:List SvD),(∀ s∈ss,OkS s)→∀ r,(a2x r).1≠0→∀ f a,ss.length<f→c1W f (a4P ss++r) a=d2D a ss
 | [],_,r,hr,0,a,hf=>by simp at hf
 | [],_,r,hr,f+1,a,hf=>by
  show c1W (f+1) r a=[]
  unfold c1W
  rw [if_neg hr]
 | s::t,h,r,hr,0,a,hf=>by simp at hf
 | s::t,h,r,hr,f+1,a,hf=>by
  have e:a4P (s::t)++r=a4I s++(a4P t++r):=by rw [a6P];simp [-bind_some]
  rw [e]
  unfold c1W
  rw [b9Y (h s (by simp)),if_pos rfl]
  simp only [d7l]
  rw [List.drop_left' rfl,b4U t (fun x hx=>h x (List.mem_cons_of_mem _ hx)) r hr f _ (by simp at hf;omega)]
  rfl
def a8f (ss:List SvD):SvD:=ss.getLast?.getD (0,[],[])
theorem b1P:∀ {ss:List SvD} {a:Int} {rs:List (List D × Int)},RecsOf rs (d2D a ss)→(ss=[]∧rs=[])∨(ss≠[]∧∃ dm dq its,rs.getLast?=some (svr (a8f ss).1 dm dq,a+(a4P ss).length)∧SlOf 2 mkr (a8f ss).2.1 dm∧SlOf 11 itr its dq∧its.map a1m=(a8f ss).2.2.map a1m)
 | [],a,rs,h=>by
  cases h
  exact .inl ⟨rfl,rfl⟩
 | s::t,a,rs,h=>by
  cases h with
  | cons h1 h2 =>
   rename_i r rs
   right
   refine ⟨by simp,?_⟩
   rcases b1P h2 with ⟨rfl,rfl⟩ | ⟨hne,dm,dq,its,q1,q2⟩
   ·obtain ⟨dm,dq,its,rfl,w⟩:=h1
    refine ⟨dm,dq,its,?_,w⟩
    simp [-bind_some, a8f,a4P]
   ·have hl:a8f (s::t)=a8f t:=by
      cases t with
      | nil=>exact absurd rfl hne
      | cons y u=>simp [-bind_some, a8f,List.getLast?_cons_cons]
    rw [hl]
    refine ⟨dm,dq,its,?_,q2⟩
    cases rs with
    | nil=>simp at q1
    | cons y u =>
     rw [List.getLast?_cons_cons,q1,a6P,d7h]
     have:a+(a4I s).length+(a4P t).length=a+((a4I s).length+(a4P t).length:Nat):=by omega
     rw [this]
theorem c0L {ss:List SvD} (hs:∀ s∈ss,OkS s) {r l:List Int} (hr:(a2x r).1≠0) (hl:l=a4P ss++r) (hu:∀ z∈r,U8 z) (hlen:l.length≤1000000000) {d:D} (hd:SlOf 1 byr l d) (h:Hp) :
  ∃ dm dq its,R1 a7Y [d] h=some (.tup [.agg (svr (a8f ss).1 dm dq),.int .i64 ((a4P ss).length:Int)],h)∧SlOf 2 mkr (a8f ss).2.1 dm∧SlOf 11 itr its dq∧its.map a1m=(a8f ss).2.2.map a1m:=by
 have hul:∀ z∈l,U8 z:=fun z hz=>by
  rw [hl] at hz
  rcases d7y.1 hz with hz | hz
  ·exact c0q ss z hz
  ·exact hu z hz
 obtain ⟨rs,e,hrs⟩:=c0c hd hlen hul
 have hg:=c0p ss
 rw [hl,b4U ss hs r hr _ 0 (by simp;omega)] at hrs
 rw [d3G,b9V,e]
 simp only [bs]
 rcases b1P hrs with ⟨rfl,rfl⟩ | ⟨hne,dm,dq,its,q1,q2⟩
 ·exact ⟨.nils,.nils,[],rfl,.nils _ _,.nils _ _,rfl⟩
 ·refine ⟨dm,dq,its,?_,q2⟩
  unfold b2y
  rw [q1]
  simp [-bind_some]
theorem MkA.len:∀ {l:List FM} {n:Int},MkA n l→l=[]∨n+l.length≤4
 | [],n,h => .inl rfl
 | x::r,n,h=>by
  cases h with
  | cons h1 h2 h3 h4 h5 =>
   right
   rcases h5.len with rfl | h6
   ·simp [-bind_some];omega
   ·simp only [d7t];omega
theorem b1y {its:List It} (h:∀ i∈its,OkI i):(its.map a2N).flatten.length≤its.length*20008:=a2E a2N 20008 its fun i hi=>by
 have:=(h i hi).b
 rw [a3y];omega
theorem b0a {n:Int} {ms:List FM} {its:List It} (n0:0≤n) (n1:n<200) (hm:MkA 0 ms) (hi:∀ i∈its,OkI i) (hl:its.length≤3):OkS (n,ms,its)∧(a4I (n,ms,its)).length≤61000:=by
 have h4:ms.length≤4:=by
  rcases hm.len with rfl | h
  ·simp [-bind_some]
  ·omega
 have hil:=b1y hi
 have h9:(its.length*20008:Nat)≤3*20008:=Nat.mul_le_mul_right _ hl
 refine ⟨⟨by unfold I64;show _≤n∧n<_;omega,fun m hmm=>?_,hi,?_,?_⟩,?_⟩
 ·have:=hm.mem m hmm
  unfold I64;omega
 ·show stC n ms its.length=0
  unfold stC
  rw [if_neg (by omega),if_neg (by rw [hm.asc];simp [-bind_some]),if_neg (by rw [hm.neg (Int.le_refl 0)];simp [-bind_some]),if_neg (by omega)]
 ·show (a1E n ms its).length<_
  rw [a6e];omega
 ·show (b0b n ms its).length≤_
  rw [a6m];omega
theorem b5e {s:SvD} (hs:OkS s) (he:(a4I s).length≤700000000) {j:List Int} {dj dm dq:D} (h:Hp) (hj:SlOf 1 byr j dj) (hjl:j.length≤1000000000) (hm:SlOf 2 mkr s.2.1 dm) (hq:SlOf 11 itr s.2.2 dq):∃ d',R1 a7j [dj,.agg (svr s.1 dm dq)] h=some (.tup [d',.int .i64 0],h)∧SlOf 1 byr (j++a4I s) d':=by
 have hl:=hs.le
 have hT:(s.2.2.map a2N).flatten.length≤700000000:=by
  have:(a4I s).length=_:=a6m s.1 s.2.1 s.2.2
  omega
 obtain ⟨d',e,o⟩:=d3e j s.1 s.2.1 s.2.2 dj dm dq h hj hjl hm hq (by omega) hT (fun i hi=>by have:=(hs.q i hi).b;omega) (fun i _ g=>b5d i g)
 rw [hs.e] at e o
 exact ⟨d',by rw [c3T];exact e,o⟩
theorem d3d (h:Hp):R1 b4n [] h=some (.bool true,h):=by
 have b1:a0M tab a0f [0] [.int .i64 1]=some (.agg (svr 1 .nils .nils)):=id rfl
 have b2:a0M tab a0K [0,1] [.int .i64 3,.int .i64 4]=some (.agg (mkr (3,4))):=id rfl
 have b3:a0X tab a0C 1 [0] [.agg (mkr (3,4))]=some (.sl 2 true [mkr (3,4)]):=id rfl
 have b4:a0M tab a0f [0,1] [.int .i64 2,.sl 2 true [mkr (3,4)]]=some (.agg (svr 2 (.sl 2 true [mkr (3,4)]) .nils)):=id rfl
 have hm2:SlOf 2 mkr [((3,4):FM)] (.sl 2 true [mkr (3,4)]) := .mk _ _ [((3,4):FM)] true
 have ok1:OkS (1,[],[]):=(b0a (n:=1) (ms:=[]) (its:=[]) (by omega) (by omega) (.nil _) (fun i hi=>by simp at hi) (by simp)).1
 have ok2:OkS (2,[(3,4)],[]):=(b0a (n:=2) (ms:=[(3,4)]) (its:=[]) (by omega) (by omega) (.cons (by decide) (by decide) (by decide) (by decide) (.nil _)) (fun i hi=>by simp at hi) (by simp)).1
 have l1:(a4I (1,[],[])).length=28:=by have:(a4I (1,[],[])).length=_:=a6m 1 [] [];simpa using this
 have l2:(a4I (2,[(3,4)],[])).length=44:=by have:(a4I (2,[(3,4)],[])).length=_:=a6m 2 [(3,4)] [];simpa using this
 obtain ⟨d1,e1,o1⟩:=b5e ok1 (by omega) h (SlOf.nils 1 byr) (by simp) (SlOf.nils 2 mkr) (SlOf.nils 11 itr)
 obtain ⟨d2,e2,o2⟩:=b5e ok2 (by omega) h o1 (by simp [-bind_some, l1]) hm2 (SlOf.nils 11 itr)
 have hall:∀ s∈[((1,[],[]):SvD),(2,[(3,4)],[])],OkS s:=fun s hs=>by
  simp only [d7x,List.not_mem_nil,or_false] at hs
  rcases hs with rfl | rfl
  ·exact ok1
  ·exact ok2
 have hlen:(a4P [((1,[],[]):SvD),(2,[(3,4)],[])]).length=72:=by simp [-bind_some, a4P,l1,l2]
 obtain ⟨dm,dq,its,e3,o3,_,_⟩:=c0L hall (r:=[]) (l:=[]++a4I (1,[],[])++a4I (2,[(3,4)],[])) (by rw [b9Z];decide) (by simp [-bind_some, a4P]) (by simp) (by simp [-bind_some, l1,l2]) o2 h
 have hla:a8f [((1,[],[]):SvD),(2,[(3,4)],[])]=(2,[(3,4)],[]):=rfl
 rw [hla] at e3 o3
 have hdl:a0y tab a0N d2=some (.int .i64 72):=by
  rw [a1Z o2];simp [-bind_some, l1,l2]
 have bx:a3s 3 (.agg (svr 2 dm dq))=some (.fptr (svr 2 dm dq)):=a1T 3 _ rfl
 rw [hlen] at e3
 rw [d0G]
 simp only [c5S,b1,b2,b3,b4,e1,e2,e3,bs,a0J,d7f,d7g,bx,a0Q,decide_true,a0o,if_true,a0e,hdl]
 simp only [show ((72:Nat):Int)=72 from rfl,decide_true,a0o,if_true,a0e,bs,sv0,sv1,c4P,a3J,a0Q,a3z o3,d7t,d7u,a0j]
 rfl
def RdX (g:Hp) (e z:Nat) {α:Type} (f:α→List D) (l:List α) (d:D):Prop:=SlOf z f l d∨∃ o,d = .msl z o 0 l.length∧g[o]?=some (.row e z (l.map f))
theorem b8G {g:Hp} {n0 e z:Nat} {α:Type} {f:α→List D} {l:List α} {d:D} (h:Own g n0 e z (l.map f) d):RdX g e z f l d:=by
 rcases h with ⟨rfl,hr⟩ | ⟨o,_,rfl,ho⟩
 ·have:l=[]:=by simpa using hr
  subst this
  exact .inl (.nils _ _)
 ·exact .inr ⟨o,by simp,ho⟩
theorem b2P {g:Hp} {ms:List FM} {d:D} (h:RdX g a0K 2 mkr ms d):a0y tab a0C d=some (.int .i64 ms.length):=by
 rcases h with h | ⟨o,rfl,_⟩
 ·exact a3z h
 ·exact c0G _ _ _ _
theorem a5s {g:Hp} {ms:List FM} {d:D} (h:RdX g a0K 2 mkr ms d) {i:Nat} {m:FM} (hi:ms[i]?=some m):∃ p p0 p1,a0c tab a0C d (.int .i64 i)=some p∧a0a tab a0K 0 p=some p0∧a0a tab a0K 1 p=some p1∧∀ g',(∀ q,q<g.length→g'[q]?=g[q]?)→a0b tab g' ty3 p0=some (.int .i64 m.1)∧a0b tab g' ty3 p1=some (.int .i64 m.2):=by
 have hlt:=(d7s.1 hi).1
 rcases h with h | ⟨o,rfl,ho⟩
 ·exact ⟨_,_,_,by rw [a6Q h,if_pos (by omega),d7l,hi];rfl,b4K m,b1F m,fun g' _=>⟨b4L m g',b1G m.2 g'⟩⟩
 ·have hol:=(d7s.1 ho).1
  refine ⟨_,_,_,by rw [c3r,if_pos ⟨by omega,by omega⟩,d7l],b1c _ _ _,b1d _ _ _,fun g' hk=>?_⟩
  have ho':g'[o]?=some (.row a0K 2 (ms.map mkr)):=by rw [hk o hol];exact ho
  constructor
  ·rw [a6R,a0I ho',Nat.zero_add,d7p,hi];rfl
  ·rw [a6R,a0I ho',Nat.zero_add,d7p,hi];rfl
theorem b6e {g:Hp} {its:List It} {d:D} (h:RdX g a0L 11 itr its d):a0y tab a1x d=some (.int .i64 its.length):=by
 rcases h with h | ⟨o,rfl,_⟩
 ·exact a6S h
 ·exact c3C _ _ _ _
theorem b8F {g:Hp} {its:List It} {d:D} (h:RdX g a0L 11 itr its d) {i:Nat} {x:It} (hi:its[i]?=some x):∃ p,a0c tab a1x d (.int .i64 i)=some p∧∀ g',(∀ q,q<g.length→g'[q]?=g[q]?)→a0b tab g' a0L p=some (.agg (itr x)):=by
 have hlt:=(d7s.1 hi).1
 rcases h with h | ⟨o,rfl,ho⟩
 ·exact ⟨_,by rw [b4y h,if_pos (by omega),d7l,hi];rfl,fun g' _=>id rfl⟩
 ·have hol:=(d7s.1 ho).1
  refine ⟨_,by rw [c7c,if_pos ⟨by omega,by omega⟩,d7l],fun g' hk=>?_⟩
  have ho':g'[o]?=some (.row a0L 11 (its.map itr)):=by rw [hk o hol];exact ho
  rw [a8g,a0I ho',Nat.zero_add,d7p,hi];rfl
theorem c4d {n0:Nat} {h0 h:Hp} {d0 d:D} {l:List Int} (B:Bw n0 h0 d0 h l d) (hn:n0≤h.length) (n:Int) (hr:l.length≤999999000) {β:Type} {f:D × Hp→Option β} {Q:β→Prop}
  (k:∀ d' h',Bw n0 h0 d0 h' (l++pI n) d'→n0≤h'.length→Wp (f (d',h')) Q):Wp ((R a2l [d,.int .u64 (IntKind.wrap .u64 n),.int .i64 8] h).bind f) Q:=by
 obtain ⟨d',h',e,B1⟩:=b0A (IntKind.wrap .u64 n) 8 (by omega) n0 h l d hn B.ow hr
 exact Wp.step e (k d' h' (B.trans B1) (Nat.le_trans hn B1.len))
theorem c4c {n0:Nat} {h0 h:Hp} {d0 d:D} {l:List Int} (B:Bw n0 h0 d0 h l d) (hn:n0≤h.length) (n:Nat) (hr:l.length≤999999000) {β:Type} {f:D × Hp→Option β} {Q:β→Prop}
  (k:∀ d' h',Bw n0 h0 d0 h' (l++pN n) d'→n0≤h'.length→Wp (f (d',h')) Q):Wp ((R a2l [d,.int .u64 (IntKind.wrap .u64 (n:Int)),.int .i64 4] h).bind f) Q:=by
 obtain ⟨d',h',e,B1⟩:=b0A (IntKind.wrap .u64 (n:Int)) 4 (by omega) n0 h l d hn B.ow hr
 exact Wp.step e (k d' h' (B.trans B1) (Nat.le_trans hn B1.len))
theorem c8m (n:Int) (ms:List FM) (its:List It) (dm dq:D) (h:Hp) (hm:RdX h a0K 2 mkr ms dm) (hq:RdX h a0L 11 itr its dq) (hl:ms.length≤5000000000) (hT:(its.map a2N).flatten.length≤700000000) (hb:∀ i∈its,(a1r i).length≤800000000) (hck:∀ i∈its,∀ g,R a6w [.agg (itr i)] g=some (.int .i64 (itE i),g)) :
  ∃ d',R b1u [.agg (svr n dm dq)] h=some (.tup [d',.int .i64 (stE n ms its)],h)∧SlOf 1 byr (if stE n ms its=0 then a1E n ms its else []) d':=by
 suffices Wp (R b1u [.agg (svr n dm dq)] h) (fun p=>p.2=h∧∃ d',p.1 = .tup [d',.int .i64 (stE n ms its)]∧SlOf 1 byr (if stE n ms its=0 then a1E n ms its else []) d') by
  obtain ⟨⟨x,h'⟩,h1,rfl,d',rfl,h2⟩:=this
  exact ⟨d',h1,h2⟩
 have hlm:=b2P hm
 have hlq:=b6e hq
 have hil:=a6v a2N 8 its fun a _=>by rw [a3y];omega
 have kh:∀ q,q<h.length→h[q]?=h[q]?:=fun _ _=>rfl
 have nils:∀ (g:Hp) (e:Int),h.length≤g.length→(∀ q,q<h.length→g[q]?=h[q]?)→scope h g (.tup [.nils,.int .i64 e])=some (.tup [.nils,.int .i64 e],h):=fun g e hg hk =>
  a1n (by simp) (.tup _ fun d hd=>by simp at hd;rcases hd with rfl | rfl <;> constructor) hg hk
 -- an error
 have bad:∀ (e:Int),stE n ms its=e→e≠0→∃ d',(D.tup [.nils,.int .i64 e]:D) = .tup [d',.int .i64 (stE n ms its)]∧SlOf 1 byr (if stE n ms its=0 then a1E n ms its else []) d':=fun e he hne=>⟨.nils,by rw [he],by rw [he,if_neg hne];exact .nils _ _⟩
 have stc:∀ e,stC n ms its.length=e→e≠0→stE n ms its=e:=fun e he hne=>by unfold stE;rw [he,if_neg hne]
 rw [d1b]
 simp only [c6n,a1M,bs,sv0,c4P,a0n,d7c,a1c]
 by_cases hn:n<0
 ·simp only [hn,decide_true,a0d,if_true,nils h _ (Nat.le_refl _) kh]
  exact .some ⟨rfl,bad 2 (stc 2 (by simp [-bind_some, stC,hn]) (by decide)) (by decide)⟩
 simp only [hn,decide_false,a0d,d7d,if_false]
 refine Wp.loop (fun j ds g=>g=h∧∃ a b,∃ i:Nat,ds=[.nils,.int .i64 0,.int .i64 (i+1:Nat),a,b]∧j+i=ms.length∧a7d (ms.drop i)=a7d ms) (fun r=>r.2.2=h∧((r.1 = .ext 0∧a7d ms=true∧nth 0 r.2.1 = .nils∧nth 1 r.2.1 = .int .i64 0)∨(r.1 = .ret∧a7d ms=false∧nth 0 r.2.1 = .nils∧nth 1 r.2.1 = .int .i64 19))) ms.length ⟨rfl,_,_,0,rfl,rfl,rfl⟩ ?_ ?_
 ·rintro j ds g ⟨rfl,a,b,i,rfl,hj,has⟩
  simp only [b3x,a0g,a0q,bs,d7c,sv1,a3J,hlm,a0n]
  refine Wp.dif ?_ ?_
  ·intro h0
   have h0:i+1<ms.length:=by
    have:((i+1:Nat):Int)<ms.length:=by simpa using h0
    omega
   have hx:ms[i]?=some ms[i]:=d7r (by omega)
   have hy:ms[i+1]?=some ms[i+1]:=d7r h0
   rw [List.drop_eq_getElem_cons (by omega),List.drop_eq_getElem_cons h0] at has
   have hd1:ms.drop (i+1)=ms[i+1]::ms.drop (i+1+1):=List.drop_eq_getElem_cons h0
   generalize ms[i]=x at *
   generalize ms[i+1]=y at *
   obtain ⟨p,p0,p1,ep,ep0,ep1,lp⟩:=a5s hm hx
   obtain ⟨r,r0,r1,er,er0,er1,lr⟩:=a5s hm hy
   have hw:IntKind.wrap .i64 (((i+1:Nat):Int)+1)=((i+1+1:Nat):Int):=by rw [wrap_i64 (by omega) (by omega)];omega
   have hw2:IntKind.wrap .i64 (((i+1:Nat):Int) - 1)=(i:Int):=by rw [wrap_i64 (by omega) (by omega)];omega
   simp only [a0D,hw2,ep,er,bs,ep0,er0,(lp g kh).1,(lr g kh).1,a3x]
   by_cases hxy:y.1≤x.1
   ·have:a7d ms=false:=by rw [← has];simp [-bind_some, a7d,show ¬ x.1<y.1 by omega]
    simp only [hxy,decide_true,a0d,if_true]
    exact .some (.inr ⟨by simp,rfl,.inr ⟨rfl,this,rfl,rfl⟩⟩)
   ·have:a7d (y::ms.drop (i+1+1))=a7d ms:=by rw [← has];simp [-bind_some, a7d,show x.1<y.1 by omega]
    simp only [hxy,decide_false,a0d,d7d,if_false,a0t,hw,bs]
    exact .some (.inl ⟨rfl,j - 1,by omega,rfl,_,_,i+1,rfl,by omega,by rw [hd1];exact this⟩)
  ·intro h0
   have h0:¬ i+1<ms.length:=by
    have:¬ ((i+1:Nat):Int)<ms.length:=by simpa using h0
    omega
   have:a7d ms=true:=by
    rw [← has]
    cases hdr:ms.drop i with
    | nil=>rfl
    | cons x r =>
     have:(ms.drop i).length=(x::r).length:=by rw [hdr]
     simp at this
     have hr:r=[]:=List.eq_nil_of_length_eq_zero (by omega)
     subst hr;rfl
   exact .some (.inr ⟨by simp,rfl,.inl ⟨rfl,this,rfl,rfl⟩⟩)
 rintro ⟨ex,ds,g⟩ ⟨rfl,hc⟩
 rcases hc with ⟨rfl,has,z0,z1⟩ | ⟨rfl,has,z0,z1⟩
 case inr =>
  simp only [a1O,a1N,a1L,a0g,a0q,z0,z1,bs,nils g _ (Nat.le_refl _) kh]
  exact .some ⟨rfl,bad 19 (stc 19 (by simp [-bind_some, stC,hn,has]) (by decide)) (by decide)⟩
 simp only at z0 z1
 simp only [a0r,a0s,bs,a0g,a0q,z0,z1,d7c]
 refine Wp.loop (fun j ds g'=>g'=g∧∃ b c,∃ i:Nat,ds=[.nils,.int .i64 0,.int .i64 i,b,c]∧j+i=ms.length∧a6C (ms.drop i)=a6C ms) (fun r=>r.2.2=g∧((r.1 = .ext 2∧a6C ms=false∧nth 0 r.2.1 = .nils∧nth 1 r.2.1 = .int .i64 0)∨(r.1 = .ret∧a6C ms=true∧nth 0 r.2.1 = .nils∧nth 1 r.2.1 = .int .i64 2))) ms.length ⟨rfl,_,_,0,rfl,rfl,rfl⟩ ?_ ?_
 ·rintro j ds g' ⟨rfl,b,c,i,rfl,hj,hne⟩
  simp only [b3y,a0g,a0q,bs,d7c,sv1,a3J,hlm,a0n]
  refine Wp.dif ?_ ?_
  ·intro h0
   have h0:i<ms.length:=dl_ h0
   have hx:ms[i]?=some ms[i]:=d7r h0
   rw [List.drop_eq_getElem_cons h0] at hne
   generalize ms[i]=x at *
   obtain ⟨p,p0,p1,ep,ep0,ep1,lp⟩:=a5s hm hx
   have hw:=wi_ i (by omega)
   simp only [ep,bs,ep0,(lp g' kh).1,a0n]
   by_cases h1:x.1<0
   ·have:a6C ms=true:=by rw [← hne];simp [-bind_some, a6C,h1]
    simp only [h1,decide_true,a0o,reduceCtorEq,d7e,if_false,bs,a0e,if_true,a0d]
    exact .some (.inr ⟨by simp,rfl,.inr ⟨rfl,this,rfl,rfl⟩⟩)
   ·by_cases h2:x.2<0
    ·have:a6C ms=true:=by rw [← hne];simp [-bind_some, a6C,h2]
     simp only [h1,h2,ep,ep1,(lp g' kh).2,decide_true,decide_false,a0o,reduceCtorEq,d7d,if_false,bs,a0e,if_true,a0d,a0n,sv1,a3J]
     exact .some (.inr ⟨by simp,rfl,.inr ⟨rfl,this,rfl,rfl⟩⟩)
    ·have:a6C (ms.drop (i+1))=a6C ms:=by rw [← hne];simp [-bind_some, a6C,h1,h2]
     simp only [h1,h2,ep,ep1,(lp g' kh).2,decide_true,decide_false,a0o,reduceCtorEq,d7d,if_false,bs,a0e,if_true,a0d,a0n,a0t,hw,sv1,a3J]
     exact .some (.inl ⟨rfl,j - 1,by omega,rfl,_,_,i+1,rfl,by omega,this⟩)
  ·intro h0
   have h0:¬ i<ms.length:=by
    have:¬ (i:Int)<ms.length:=by simpa using h0
    omega
   have:a6C ms=false:=by rw [← hne,List.drop_of_length_le (by omega)];rfl
   exact .some (.inr ⟨by simp,rfl,.inl ⟨rfl,this,rfl,rfl⟩⟩)
 rintro ⟨ex,ds,g'⟩ ⟨rfl,hc⟩
 rcases hc with ⟨rfl,hne,z0,z1⟩ | ⟨rfl,hne,z0,z1⟩
 case inr =>
  simp only [a1O,a1N,a1L,a0g,a0q,z0,z1,bs,nils g' _ (Nat.le_refl _) kh]
  exact .some ⟨rfl,bad 2 (stc 2 (by simp [-bind_some, stC,hn,has,hne]) (by decide)) (by decide)⟩
 simp only at z0 z1
 simp only [a0r,a0s,bs,a0g,a0q,z0,z1,hlm,sv1,a3J,a0u,d7c]
 have big:(1000<ms.length∨1000<its.length)→Wp (scope g' g' (.tup [.nils,.int .i64 4])) (fun p=>p.2=g'∧∃ d',p.1 = .tup [d',.int .i64 (stE n ms its)]∧SlOf 1 byr (if stE n ms its=0 then a1E n ms its else []) d'):=fun hb=>by
  rw [nils g' _ (Nat.le_refl _) kh]
  exact .some ⟨rfl,bad 4 (stc 4 (by simp [-bind_some, stC,hn,has,hne,hb]) (by decide)) (by decide)⟩
 by_cases hm1:1000<ms.length
 ·have h1':(1000:Int)<ms.length:=by omega
  simp only [h1',decide_true,a0o,reduceCtorEq,d7e,if_false,bs,a0e,if_true,a0d]
  exact big (.inl hm1)
 have h1':¬ (1000:Int)<ms.length:=by omega
 simp only [h1',decide_false,a0o,d7d,reduceCtorEq,if_false,if_true,bs,a0e,sv2,b2z,hlq,a0u]
 by_cases hq1:1000<its.length
 ·have h2':decide ((its.length:Int)>1000)=true:=decide_eq_true (by omega)
  simp only [h2',a0d,if_true]
  exact big (.inr hq1)
 have h2':decide ((its.length:Int)>1000)=false:=decide_eq_false (by omega)
 have hc:stC n ms its.length=0:=by simp [-bind_some, stC,hn,has,hne,hm1,hq1]
 have hE:stE n ms its=a7B its:=by unfold stE;rw [if_pos hc]
 have B0:Bw g'.length g' .nils g' [] .nils := .refl (.nils _ _ _ _)
 have hlm64:∀ k:Nat,a1B tab ty3 a0V (.int .i64 (k:Int))=some (.int .u64 (IntKind.wrap .u64 (k:Int))):=fun k=>a2b _ _
 simp only [h2',a0d,d7d,if_false,sv0,sv1,c4P,bs,a2b,a3J,hlm,d7c]
 refine c4d B0 (Nat.le_refl _) n (by simp) fun d1 g1 B1 n1=>?_
 simp only [bs]
 refine c4c B1 n1 ms.length (by simp [-bind_some, a1k]) fun d2 g2 B2 n2=>?_
 rw [List.nil_append] at B2
 simp only [bs,d7c]
 generalize hA:pI n++pN ms.length=A at B2
 have hAl:A.length=12:=by rw [← hA];simp [-bind_some, a1k,a1G]
 have low:∀ {g:Hp} {l:List Int} {d:D},Bw g'.length g' .nils g l d→∀ q,q<g'.length→g[q]?=g'[q]?:=fun B q hq=>B.old q hq (a6D q)
 refine Wp.loop (fun k ds g=>g'.length≤g.length∧∃ d' b,∃ i:Nat,ds=[d',.int .i64 i,b]∧k+i=ms.length∧Bw g'.length g' .nils g (A++((ms.take i).map mkB).flatten) d')
  (fun r=>r.1 = .ext 4∧g'.length≤r.2.2.length∧∃ d' b c,r.2.1=[d',b,c]∧Bw g'.length g' .nils r.2.2 (A++(ms.map mkB).flatten) d') ms.length ⟨n2,_,_,0,rfl,rfl,by simpa using B2⟩ ?_ ?_
 ·rintro k ds g ⟨hg,d',b,i,rfl,hk,B⟩
  simp only [b3z,a0g,a0q,bs,d7c,sv1,a3J,hlm,a0n]
  refine Wp.dif ?_ ?_
  ·intro h0
   have h0:i<ms.length:=dl_ h0
   obtain ⟨x,hx⟩:=gx_ h0
   obtain ⟨p,p0,p1,ep,ep0,ep1,lp⟩:=a5s hm hx
   have hw:=wi_ i (by omega)
   have hml:=a4X (ms.take i)
   have hml2:(ms.take i).length≤1000:=by simp;omega
   simp only [ep,bs,ep0,ep1,(lp g (low B)).1,(lp g (low B)).2,a2b]
   refine c4d B hg _ (by rw [d7h,hml];omega) fun d4 g4 B4 n4=>?_
   simp only [bs,(lp g4 (low B4)).2,a2b]
   refine c4d B4 n4 _ (by simp only [d7h,hml,a1k];omega) fun d5 g5 B5 n5=>?_
   simp only [a1H,bs,a0t,hw]
   refine .some (.inl ⟨rfl,k - 1,by omega,n5,_,_,i+1,rfl,by omega,?_⟩)
   rw [a1y mkB hx]
   simpa [-bind_some, mkB] using B5
  ·intro h0
   have h0:i=ms.length:=by
    have:¬ (i:Int)<ms.length:=by simpa using h0
    omega
   subst h0
   rw [d7A] at B
   exact .some (.inr ⟨by simp,rfl,hg,_,_,_,rfl,B⟩)
 rintro ⟨ex,ds,g4⟩ ⟨rfl,n4,d4,b,c,rfl,B4⟩
 simp only at n4 B4
 have hml:=a4X ms
 simp only [a0r,a0s,bs,a0g,a0q,sv2,b2z,hlq,a2b,d7c]
 refine c4c B4 n4 its.length (by rw [d7h,hml];omega) fun d5 g5 B5 n5=>?_
 simp only [bs,d7c]
 generalize hA2:A++(ms.map mkB).flatten++pN its.length=A2 at B5
 have hA2l:A2.length≤16016:=by rw [← hA2];simp only [d7h,hml,a1G];omega
 refine Wp.loop (fun k ds g=>g'.length≤g.length∧∃ d' a4 a5 a6 a7,∃ i:Nat,ds=[.nils,.int .i64 0,d',.int .i64 i,a4,a5,a6,a7]∧k+i=its.length∧a7B (its.take i)=0∧Bw g'.length g' .nils g (A2++((its.take i).map a2N).flatten) d')
  (fun r=>g'.length≤r.2.2.length∧(∀ q,q<g'.length→r.2.2[q]?=g'[q]?)∧((r.1 = .ext 6∧a7B its=0∧∃ d',nth 2 r.2.1=d'∧Bw g'.length g' .nils r.2.2 (A2++(its.map a2N).flatten) d')∨(r.1 = .ret∧a7B its≠0∧nth 0 r.2.1 = .nils∧nth 1 r.2.1 = .int .i64 (a7B its)))) its.length ⟨n5,_,_,_,_,_,0,rfl,rfl,rfl,by simpa using B5⟩ ?_ ?_
 ·rintro k ds g ⟨hg,d',a4,a5,a6,a7,i,rfl,hk,hz,B⟩
  simp only [b3A,a0g,a0q,bs,d7c,sv2,b2z,hlq,a0n]
  refine Wp.dif ?_ ?_
  ·intro h0
   have h0:i<its.length:=dl_ h0
   obtain ⟨x,hx⟩:=gx_ h0
   have hxm:=d7q hx
   obtain ⟨p,ep,lp⟩:=b8F hq hx
   have hw:=wi_ i (by omega)
   obtain ⟨e1,e2⟩:=a8d its i x hz hx
   obtain ⟨de,ee,he⟩:=d2S x (itE x) g (hck x hxm) (by have:=hb x hxm;omega)
   simp only [ep,bs,lp g (low B),ee,a0J,d7f,d7g,a0w]
   by_cases hxe:itE x=0
   ·have hdd:decide (itE x≠0)=false:=decide_eq_false (by rw [hxe];simp [-bind_some])
    rw [if_pos hxe] at he
    have hle:=a5P a2N its (i+1)
    rw [a1y a2N hx,d7h] at hle
    simp only [hdd,a0d,d7d,if_false]
    refine b3B B hg (a4u (.inl he)) (by simp only [d7h];omega) fun d6 g6 B6 n6=>?_
    simp only [bs,a0t,hw]
    refine .some (.inl ⟨rfl,k - 1,by omega,n6,_,_,_,_,_,i+1,rfl,by omega,e2 hxe,?_⟩)
    rw [a1y a2N hx]
    simpa using B6
   ·have hdd:decide (itE x≠0)=true:=decide_eq_true hxe
    simp only [hdd,a0d,if_true]
    exact .some (.inr ⟨by simp,hg,low B,.inr ⟨rfl,by rw [e1 hxe];exact hxe,rfl,by rw [e1 hxe];rfl⟩⟩)
  ·intro h0
   have h0:i=its.length:=by
    have:¬ (i:Int)<its.length:=by simpa using h0
    omega
   subst h0
   rw [d7A] at B hz
   exact .some (.inr ⟨by simp,hg,low B,.inl ⟨rfl,hz,_,rfl,B⟩⟩)
 rintro ⟨ex,ds,g⟩ ⟨hg,hk,hcs⟩
 simp only at hg hk
 rcases hcs with ⟨rfl,hz,d',hd',B⟩ | ⟨rfl,hz,hn0,hn1⟩
 case inr =>
  simp only [a1O,a1N,a1L,a0g,a0q,hn0,hn1,bs,nils g _ hg hk]
  exact .some ⟨rfl,bad _ hE hz⟩
 simp only at B hd'
 rw [hE,hz,if_pos rfl]
 have hbody:A2++(its.map a2N).flatten=a1E n ms its:=by rw [← hA2,← hA];simp [-bind_some, a1E]
 rw [hbody] at B
 simp only [a0r,a0s,bs,a0g,a0q,hd']
 have hso:=a2g (n0:=g'.length) (n:=2) B.ow (Nat.le_refl _) (fun a _=>a5L _ g 2 a)
 rw [a1n (d' := .tup [frz g'.length g 3 d',.int .i64 0]) (by simp) (by
  refine .tup _ fun d hd=>?_
  simp at hd
  rcases hd with rfl | rfl
  ·exact a1K hso fun a _=>a7K _ a
  ·constructor) hg hk]
 exact .some ⟨rfl,_,rfl,hso⟩
theorem b9X {l:List Int} (h:(a3X l).1=0) {j:It} (hj:a1m j=(a3X l).2.2):itE j=0:=by
 unfold a3X a5N at h hj
 by_cases h1:l.length<4
 ·rw [if_pos h1] at h;cases h
 by_cases h2:num (l.take 4)<4∨(l.length:Int) - 4<num (l.take 4)
 ·rw [if_neg h1,if_pos h2] at h;cases h
 by_cases h3:a2t (l.take (num (l.take 4)).toNat)≠num ((l.drop (num (l.take 4)).toNat).take 4)
 ·rw [if_neg h1,if_neg h2,if_pos h3] at h;cases h
 by_cases h4:(a6H ((l.take (num (l.take 4)).toNat).drop 4,false)).2=true∨0<(a6H ((l.take (num (l.take 4)).toNat).drop 4,false)).1.length∨ckR (a1X ((l.take (num (l.take 4)).toNat).drop 4,false))≠0
 ·rw [if_neg h1,if_neg h2,if_neg h3,if_pos h4] at h;cases h
 rw [if_neg h1,if_neg h2,if_neg h3,if_neg h4] at hj
 have hj:a1m j=a1X ((l.take (num (l.take 4)).toNat).drop 4,false):=hj
 rw [← b0S,hj]
 exact Classical.byContradiction fun hh=>h4 (.inr (.inr hh))
theorem b3W {α:Type} (f:α→List Int):∀ (l:List α) (a:α),a∈l→(f a).length≤(l.map f).flatten.length
 | x::r,a,h=>by
  rw [d7k,List.flatten_cons,d7h]
  rcases d7x.1 h with rfl | h
  ·omega
  ·have:=b3W f r a h;omega
structure DcI (n:Nat) (i:It):Prop where
 e:itE i=0
 l:(a2N i).length≤n
theorem DcI.nm {n:Nat} {i:It} (h:DcI n i) (hn:n≤1000000000):NmB i.e:=fun p hp=>by
 have h1:=h.l
 have h2:=b3W fdB i.e.fs p hp
 rw [a3y] at h1
 simp only [a1r,a4k,a3o,d7h] at h1
 simp only [fdB,d7h,a1z] at h2
 omega
theorem DcI.ck {n:Nat} {i:It} (h:DcI n i) (hn:n≤1000000000) (g:Hp):R a6w [.agg (itr i)] g=some (.int .i64 (itE i),g):=b5c i g (h.nm hn)
theorem b7O {n:Nat}:∀ {its:List It},(∀ i∈its,DcI n i)→a7B its=0
 | [],_=>rfl
 | i::t,h=>by
  unfold a7B
  rw [if_pos (h i (by simp)).e]
  exact b7O fun x hx=>h x (List.mem_cons_of_mem _ hx)
structure DrP (B:List Int) (d:D) (h g:Hp) (row:List D) (s:Cur):Prop where
 r0:g[h.length]?=some (.row a0f 3 [svr 0 .nils .nils])
 st:g[h.length+1]?=some (.row a0f 3 [row])
 rd:RdC B d g (h.length+2) s
 lo:∀ q,q<h.length→g[q]?=h[q]?
theorem DrP.ln {B:List Int} {d:D} {h g:Hp} {row:List D} {s:Cur} (P:DrP B d h g row s):h.length+3≤g.length:=by have:=P.rd.lt;omega
theorem DrP.cur {B:List Int} {d:D} {h g g':Hp} {row:List D} {s s':Cur} (P:DrP B d h g row s) (hc:RdC B d g' (h.length+2) s') (hs:Same (h.length+2) g g'):DrP B d h g' row s' :=
 ⟨by rw [hs.2 _ (by omega)];exact P.r0,by rw [hs.2 _ (by omega)];exact P.st,hc,fun q hq=>by rw [hs.2 q (by omega)];exact P.lo q hq⟩
theorem DrP.keep {B:List Int} {d:D} {h g g':Hp} {row:List D} {s:Cur} (P:DrP B d h g row s) (hk:∀ q,q<h.length+3→g'[q]?=g[q]?):DrP B d h g' row s :=
 ⟨by rw [hk _ (by omega)];exact P.r0,by rw [hk _ (by omega)];exact P.st,P.rd.keep (hk _ (by omega)),fun q hq=>by rw [hk q (by omega)];exact P.lo q hq⟩
theorem DrP.sta {B:List Int} {d:D} {h g g':Hp} {row row':List D} {s:Cur} (P:DrP B d h g row s) (hp:g'[h.length+1]?=some (.row a0f 3 [row'])) (hs:Same (h.length+1) g g'):DrP B d h g' row' s :=
 ⟨by rw [hs.2 _ (by omega)];exact P.r0,hp,P.rd.keep (hs.2 _ (by omega)),fun q hq=>by rw [hs.2 q (by omega)];exact P.lo q hq⟩
theorem c1R {l:List Int} (hu:∀ z∈l,U8 z) (hl:l.length≤4):∃ n:Nat,num l=n∧n<4294967296:=by
 obtain ⟨k,hk⟩:∃ k,l.length=k:=⟨_,rfl⟩
 obtain ⟨a,b⟩:=a2n k _ hk hu
 have:k=0∨k=1∨k=2∨k=3∨k=4:=by omega
 exact ⟨(num l).toNat,by omega,by rcases this with rfl | rfl | rfl | rfl | rfl <;> omega⟩
theorem c3Z {B:List Int} {d:D} (hd:SlOf 1 byr B d) (hB:B.length≤1000000000) (hu:∀ z∈B,U8 z) {h:Hp} {a:Int} {N:Nat} (hN:N<4294967296) {s0:Cur} {p4 p5:D × Hp} (hp4:p4.1 = .ptr (h.length+1) 0 0) (hp5:p5.1 = .ptr (h.length+2) 0 0) {g:Hp} (P:DrP B d h g (svr a .nils .nils) s0) (x y:D) {β:Type} {K:Out→Option β} {Q:β→Prop}
  (k:∀ g' dm b c e,DrP B d h g' (svr a dm .nils) (a3u N s0).2→Own g' (h.length+3) a0K 2 ((a3u N s0).1.map mkr) dm→Wp (K (.ext 0,[b,c,e],g')) Q) :
  Wp ((a0P (a9N p4 p5 (.int .u64 N)) [.int .u64 0,x,y] g).bind K) Q:=by
 refine Wp.loop (fun r ds g=>∃ y z dm,∃ s:Cur,∃ L:List FM,∃ i:Nat,ds=[.int .u64 i,y,z]∧r+i=N∧L.length=i∧DrP B d h g (svr a dm .nils) s∧Own g (h.length+3) a0K 2 (L.map mkr) dm∧L++(a3u r s).1=(a3u N s0).1∧(a3u r s).2=(a3u N s0).2)
  (fun r=>r.1 = .ext 0∧∃ b c e dm,r.2.1=[b,c,e]∧DrP B d h r.2.2 (svr a dm .nils) (a3u N s0).2∧Own r.2.2 (h.length+3) a0K 2 ((a3u N s0).1.map mkr) dm) N ⟨_,_,.nils,s0,[],0,rfl,rfl,rfl,P,.nils _ _ _ _,rfl,rfl⟩ ?_ ?_
 ·rintro r ds g ⟨y,z,dm,s,L,i,rfl,hr,hL,P,ow,q1,q2⟩
  have stop:(s.2=true∨r=0)→a3u r s=([],s):=by
   rintro (h0 | h0)
   ·exact b4N r s h0
   ·rw [h0];rfl
  have fin:(s.2=true∨r=0)→∀ b c e:D,Wp (some ((Ex.ext 0,[b,c,e],g):Out)) (fun x:Out=>(x.1 = .nrm∧∃ r'<r,∃ y z dm,∃ s:Cur,∃ L:List FM,∃ i:Nat,x.2.1=[.int .u64 i,y,z]∧r'+i=N∧L.length=i∧DrP B d h x.2.2 (svr a dm .nils) s∧Own x.2.2 (h.length+3) a0K 2 (L.map mkr) dm∧L++(a3u r' s).1=(a3u N s0).1∧(a3u r' s).2=(a3u N s0).2)∨(x.1 ≠ .nrm∧x.1 = .ext 0∧∃ b c e dm,x.2.1=[b,c,e]∧DrP B d h x.2.2 (svr a dm .nils) (a3u N s0).2∧Own x.2.2 (h.length+3) a0K 2 ((a3u N s0).1.map mkr) dm)):=by
   intro h0 b c e
   rw [stop h0] at q1 q2
   simp only [List.append_nil] at q1 q2
   exact .some (.inr ⟨by simp,rfl,b,c,e,dm,rfl,by rw [← q2];exact P,by rw [← q1];exact ow⟩)
  have hok:=P.rd.ok
  simp only [a9N,a0g,a0q,bs,d7c,hp4,hp5,a2T,hok,a0o,a0n]
  cases hb:s.2 with
  | true =>
   simp only [d7m,d7d,reduceCtorEq,if_false,bs,a0e,a0d]
   exact fin (.inl hb) _ _ _
  | false =>
   simp only [d7n,if_true,bs,a0n,a0e]
   by_cases hr0:r=0
   ·subst hr0
    have hlt:decide ((i:Int)<(N:Int))=false:=decide_eq_false (by omega)
    simp only [hlt,a0d,d7d,if_false]
    exact fin (.inr rfl) _ _ _
   have hlt:decide ((i:Int)<(N:Int))=true:=decide_eq_true (by omega)
   obtain ⟨r',rfl⟩:∃ r',r=r'+1:=⟨r - 1,by omega⟩
   have hS:a3u (r'+1) s=(((a0R s).1,(a0R (a0R s).2).1)::(a3u r' (a0R (a0R s).2).2).1,(a3u r' (a0R (a0R s).2).2).2):=by simp [-bind_some, a3u,hb]
   rw [hS] at q1 q2
   have hg:=P.ln
   have m0:(a0H g a0K 2 [[.int .i64 0,.int .i64 0]])[g.length]?=some (.row a0K 2 [mkr (0,0)]):=a1a _ _ _ _
   have k0:∀ q,q<g.length→(a0H g a0K 2 [[.int .i64 0,.int .i64 0]])[q]?=g[q]?:=fun q hq=>a0W _ _ _ _ hq
   simp only [hlt,a0d,if_true,bs]
   generalize a0H g a0K 2 [[.int .i64 0,.int .i64 0]]=g0 at *
   have P0:=P.keep (g':=g0) fun q hq=>k0 q (by omega)
   have ow0:=ow.keep (h':=g0) fun q hq hin=>k0 q (ow.lt hin).2
   refine rdI hd hB hu P0.rd fun g1 c1 s1=>?_
   have P1:=P0.cur c1 s1
   have ow1:=ow0.same s1 (by omega)
   have m1:g1[g.length]?=some (.row a0K 2 [mkr (0,0)]):=by rw [s1.2 _ (by omega)];exact m0
   try simp only [bs,b1c]
   refine b0H (kk:=0) (off:=0+0) (row:=mkr (0,0)) (v := .int .i64 (a0R s).1) m1 (by rfl) (by rfl) (by simp [-bind_some, mkr]) (by rfl) fun g2 p2 s2=>?_
   have m2:g2[g.length]?=some (.row a0K 2 [mkr ((a0R s).1,0)]):=p2
   have P2:=P1.keep (g':=g2) fun q hq=>s2.2 q (by omega)
   have ow2:=ow1.keep (h':=g2) fun q hq hin=>s2.2 q (by have:=(ow.lt hin).2;omega)
   try simp only [bs]
   refine rdI hd hB hu P2.rd fun g3 c3 s3=>?_
   have P3:=P2.cur c3 s3
   have ow3:=ow2.same s3 (by omega)
   have m3:g3[g.length]?=some (.row a0K 2 [mkr ((a0R s).1,0)]):=by rw [s3.2 _ (by omega)];exact m2
   try simp only [bs,b1d]
   refine b0H (kk:=0) (off:=0+1) (row:=mkr ((a0R s).1,0)) (v := .int .i64 (a0R (a0R s).2).1) m3 (by rfl) (by rfl) (by simp [-bind_some, mkr]) (by rfl) fun g4 p4' s4=>?_
   have m4:g4[g.length]?=some (.row a0K 2 [mkr ((a0R s).1,(a0R (a0R s).2).1)]):=p4'
   have P4:=P3.keep (g':=g4) fun q hq=>s4.2 q (by omega)
   have ow4:=ow3.keep (h':=g4) fun q hq hin=>s4.2 q (by have:=(ow.lt hin).2;omega)
   have ldm:a0b tab g4 a0C (.ptr (h.length+1) 0 (0+1))=some dm:=by rw [b2A,a0I P4.st];rfl
   have ld4:a0b tab g4 a0K (.ptr g.length 0 0)=some (.agg (mkr ((a0R s).1,(a0R (a0R s).2).1))):=by rw [c3y,a0I m4];rfl
   have hlit:a0X tab a0C 1 [0] [.agg (mkr ((a0R s).1,(a0R (a0R s).2).1))]=some (.sl 2 true [mkr ((a0R s).1,(a0R (a0R s).2).1)]):=id rfl
   have hw:IntKind.wrap .u64 ((i:Int)+1)=((i+1:Nat):Int):=by rw [a1w (by omega) (by omega)];omega
   simp only [bs,a3Y,ldm,ld4,hlit]
   refine a7b (n0:=h.length+3) P4.ln ow4 (a1d _ _ _ _) (by simp;omega) fun dm' g5 ow5 l5 k5 _ _=>?_
   have P5:=P4.keep k5
   simp only [bs]
   refine a7c (kk:=0) (row:=svr a dm .nils) P5.st (by rfl) (by rw [(a0z (a1l ow5)).1];rfl) (by simp [-bind_some, svr]) (a0z (a1l ow5)).2 fun g6 p6 s6=>?_
   rw [(a0z (a1l ow5)).1] at p6
   have P6:DrP B d h g6 (svr a dm' .nils) _:=P5.sta p6 s6
   simp only [bs,a0t,hw]
   refine .some (.inl ⟨rfl,r',by omega,_,_,dm',(a0R (a0R s).2).2,L++[((a0R s).1,(a0R (a0R s).2).1)],i+1,rfl,by omega,by simp [-bind_some, hL],P6,?_,by simpa using q1,q2⟩)
   rw [d7j]
   exact ow5.same s6 (by omega)
 ·rintro ⟨ex,ds,g⟩ ⟨rfl,b,c,e,dm,rfl,P,ow⟩
  exact k g dm b c e P ow
theorem c7N {h g:Hp} {a:Int} {ms:List FM} {rows:List It} {dm dq:D} {ok:Bool} (owm:Own g (h.length+3) a0K 2 (ms.map mkr) dm) (owq:Own g (h.length+3) a0L 11 (rows.map itr) dq) (hl:h.length≤g.length) (lo:∀ q,q<h.length→g[q]?=h[q]?) :
  ∃ dm' dq',scope h g (.tup [.agg (svr a dm dq),.bool ok])=some (.tup [.agg (svr a dm' dq'),.bool ok],h)∧SlOf 2 mkr ms dm'∧SlOf 11 itr rows dq':=by
 have fM:=a2g (n0:=h.length) (n:=1) owm (by omega) (fun a _=>a4Y _ g 1 a)
 have fQ:=a2g (n0:=h.length) (n:=1) owq (by omega) (fun a _=>a4q _ g 0 a)
 refine ⟨_,_,a1n (d' := .tup [.agg (svr a (frz h.length g 2 dm) (frz h.length g 2 dq)),.bool ok]) rfl (by
   refine .tup _ fun d hd=>?_
   simp at hd
   rcases hd with rfl | rfl
   ·refine .agg _ fun d hd=>?_
    simp [-bind_some, svr] at hd
    rcases hd with rfl | rfl | rfl
    ·constructor
    ·exact a1K fM fun a _=>b1H _ a
    ·exact a1K fQ fun a _=>a8c _ a
   ·constructor) hl lo,fM,fQ⟩
theorem b8Z {g:Hp} {n0:Nat} {a:Int} {r1 r2:List (List D)} {dm dq:D} (owm:Own g n0 a0K 2 r1 dm) (owq:Own g n0 a0L 11 r2 dq):(D.agg (svr a dm dq)).okv=true:=by
 rcases owm with ⟨rfl,_⟩ | ⟨_,_,rfl,_⟩ <;> rcases owq with ⟨rfl,_⟩ | ⟨_,_,rfl,_⟩ <;> rfl
end Go.Proofs.YtjmndhbabkjebaaGreatDoor
