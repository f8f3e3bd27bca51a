/- Laws, on plain data, about functions that the statement reaches. -/
import Derived.Test.YtkpnnfhodlanjaaGreatDoorL3
set_option linter.unusedSimpArgs false
set_option linter.unusedVariables false
set_option linter.unnecessarySimpa false
set_option maxRecDepth 100000
namespace Go.Proofs.YtkpnnfhodlanjaaGreatDoor
open Go.Eng Go.Pi
open Option (bind_some)
theorem b2O (n:Int) (h:Hp) (h0:0≤n) (h9:n≤1000000000000000000):∃ s:Str,R a4g [.int .i64 n] h=some (.str s,h):=by
 suffices Wp (R a4g [.int .i64 n] h) (fun p=>p.2=h∧∃ s:Str,p.1 = .str s) by
  obtain ⟨⟨x,h'⟩,h1,rfl,s,rfl⟩:=this
  exact ⟨s,h1⟩
 have d0:decide (n<0)=false:=decide_eq_false (by omega)
 have w1:IntKind.wrap .u64 n=n:=a1x h0 (by omega)
 rw [b9m]
 simp only [b5Q,bs,c8D,a9n,w1,a0r,d0,a0d,c8E,if_false,a0j,a0e]
 refine Wp.loop (fun k ds g=>∃ (u:Int) (x a:D) (w:List Int),ds=[.int .u64 u,x,a]∧0≤u∧u≤1000000000000000000∧u<(10:Int) ^ k∧w.length+k=19∧RdB g w x∧Keep h g)
  (fun r=>r.1 = .ext 0∧∃ (u x a:D) (w:List Int),r.2.1=[u,x,a]∧RdB r.2.2 w x∧Keep h r.2.2) 19 ⟨n,_,_,[],rfl,h0,h9,by omega,rfl,.inl (.nils _ _),.refl _⟩ ?_ ?_
 ·rintro k ds g ⟨u,x,a,w,rfl,u0,u9,hu,hk,hx,kp⟩
  have r1:Int.tmod u 10=u % 10:=Int.tmod_eq_emod_of_nonneg u0
  have q1:Int.tdiv u 10=u / 10:=Int.tdiv_eq_ediv_of_nonneg u0
  have w2:IntKind.wrap .u64 (48+u % 10)=48+u % 10:=a1x (by omega) (by omega)
  have w3:IntKind.wrap .u8 (48+u % 10)=48+u % 10:=by rw [a4B];omega
  have w4:IntKind.wrap .u64 (u / 10)=u / 10:=a1x (by omega) (by omega)
  obtain ⟨x',g',e1,hx',kp'⟩:=b3H (48+u % 10) hx (by omega)
  simp only [a5V,a0e,a0h,bs,a6w,show ¬ (10:Int)=0 by omega,if_false,r1,a0l,w2,a4s,w3,b5g,e1,a1C,q1,w4,a0Q,c8D]
  refine Wp.dif ?_ ?_
  ·intro _
   exact .some (.inr ⟨by simp,rfl,_,_,_,_,rfl,hx',kp.trans kp'⟩)
  ·intro hz
   have hz:¬ u / 10=0:=by simpa using hz
   cases k with
   | zero=>simp at hu;omega
   | succ k =>
    rw [Int.pow_succ] at hu
    generalize hP:(10:Int) ^ k=P at hu
    refine .some (.inl ⟨rfl,k,Nat.lt_succ_self _,u / 10,_,_,(48+u % 10)::w,rfl,by omega,by omega,?_,by rw [c8U];omega,hx',kp.trans kp'⟩)
    rw [hP];omega
 ·rintro ⟨ex,ds,g⟩ ⟨rfl,u,x,a,w,rfl,hx,kp⟩
  simp only at hx kp
  have ts:a3q g x=some (.str (bys w)):=by simp only [a3q,a6T hx,a4I]
  have hsc:scope h g (.str (bys w))=some (.str (bys w),h):=a1o (by simp) (.str _) kp.1 kp.2
  simp only [a0p,a0j,a0e,a0h,bs,a0r,d0,a0d,c8E,if_false,ts,a0s,hsc,c8D]
  exact .some ⟨rfl,_,rfl⟩
theorem c4e (c:Int) (h:Hp):∃ b:Bool,R b1u [.int .u8 c] h=some (.bool b,h):=by
 rw [c2q]
 simp only [b8g,a0R,a0X,bs]
 cases h1:decide ((48:Int)≤c) <;> cases h2:decide (c≤(57:Int)) <;>
  simp only [h1,h2,a0x,a0Y,reduceCtorEq,c8E,if_false,if_true,bs,a0n,a0X,a0s] <;> exact ⟨_,rfl⟩
theorem c4d (s:Str) (h:Hp):∃ (v:Int) (b:Bool),R a9y [.str s] h=some (.tup [.int .i64 v,.bool b],h):=by
 suffices Wp (R a9y [.str s] h) (fun p=>p.2=h∧∃ (v:Int) (b:Bool),p.1 = .tup [.int .i64 v,.bool b]) by
  obtain ⟨⟨x,h'⟩,h1,rfl,v,b,rfl⟩:=this
  exact ⟨v,b,h1⟩
 rw [c2p]
 cases s with
 | nil =>
  have d0:decide ((0:Int)<(([]:Str).length:Int))=false:=rfl
  have d1:decide ((([]:Str).length:Int)<1)=true:=rfl
  simp only [b5R,bs,b2h,a1e,d0,a0x,a0Y,reduceCtorEq,c8E,c8F,if_false,if_true,a0n,a0d,a0j,a0e,a0r,d1,a0G,c8D]
  exact .some ⟨rfl,_,_,rfl⟩
 | cons c r =>
  have d0:decide ((0:Int)<((c::r:Str).length:Int))=true:=decide_eq_true (by rw [c8U];omega)
  have hi:a2J tab ty9 (.str (c::r)) (.int .i64 0)=some (.int .u8 c.toNat):=c4r (c::r) 0 c rfl
  have hd:a0F tab ty9 true false false [.str (c::r),.int .i64 1]=some (.str r):=by
   have h2:tab ty9=some ti9:=id rfl
   have h3:ti9.td = .str:=id rfl
   have h4:(1:Int)≤((c::r:Str).length:Int):=by rw [c8U];omega
   simp only [a0F,a1W,bs,a1A,h2,h3]
   simp [-bind_some]
   omega
  simp only [b5R,bs,b2h,a1e,d0,a0x,if_true,hi,a0Q,a0n,c8D]
  refine Wp.join (P:=fun (r:Out)=>r.1 = .nrm∧r.2.2=h∧∃ d:Str,r.2.1=[.str d]) ?_ ?_ ?_
  ·intro _
   simp only [hd,bs]
   exact .some ⟨rfl,rfl,r,rfl⟩
  ·intro _
   exact .some ⟨rfl,rfl,_,rfl⟩
  ·rintro ⟨ex,ds,g⟩ ⟨rfl,hg,d,hds⟩
   simp only at hds hg
   subst hds hg
   have hc:∀ {γ:Type} (F:D→Option γ),((gd (.bool (decide ((d.length:Int)<1))) false (some (.str d))).bind fun t22=>(gd (.bool (decide ((d.length:Int)<1))) false (a0C tab ty9 t22)).bind fun t23=>(gd (.bool (decide ((d.length:Int)<1))) false (a0f tab .gtr ty3 t23 (.int .i64 18))).bind fun t24=>(a0K (.bool (decide ((d.length:Int)<1))) (.bool true) t24).bind F)=F (.bool (decide ((d.length:Int)<1)||decide ((18:Int)<(d.length:Int)))):=fun F=>by
    cases decide ((d.length:Int)<1) <;> simp [-bind_some, b2h]
   simp only [a0j,a0e,b2h,a0r,bs,hc,c8D]
   refine Wp.dif ?_ ?_
   ·intro _
    simp only [a0G]
    exact .some ⟨rfl,_,_,rfl⟩
   ·intro hl
    have hl:d.length≤18:=by
     have h2:¬ ((18:Int)<(d.length:Int)):=by
      intro hh
      have:decide ((18:Int)<(d.length:Int))=true:=decide_eq_true hh
      rw [this] at hl
      simp at hl
     omega
    refine Wp.loop (fun k ds g'=>g'=g∧∃ (v:Int) (i:Nat) (a b:D),ds=[.int .i64 0,.bool false,.int .i64 v,.int .i64 (i:Int),a,b]∧k+i=d.length)
     (fun r=>r.2.2=g∧((r.1 = .ext 0∧∃ (v:Int) (rest:List D),r.2.1 = .int .i64 0 :: .bool false :: .int .i64 v::rest)∨(r.1 = .ret∧∃ rest,r.2.1 = .int .i64 0 :: .bool false::rest))) d.length ⟨rfl,0,0,_,_,rfl,by omega⟩ ?_ ?_
    ·rintro k ds g' ⟨rfl,v,i,a,b,rfl,hk⟩
     simp only [a8L,a0e,a0h,bs,b2h,a0r,c8D]
     refine Wp.dif ?_ ?_
     ·intro h0
      have h0:i<d.length:=by
       have:(i:Int)<(d.length:Int):=by simpa using h0
       omega
      have w1:=wi_ i (by omega)
      obtain ⟨u,hu⟩:=gx_ h0
      obtain ⟨b1,eb⟩:=c4e (u.toNat:Int) g'
      simp only [c4r d i u hu,bs,eb,a1f,c8D]
      refine Wp.dif ?_ ?_
      ·intro _
       exact .some (.inr ⟨by simp,rfl,.inr ⟨rfl,_,rfl⟩⟩)
      ·intro _
       simp only [a2i,a0t,bs,b6h,a0l,w1,c8D]
       exact .some (.inl ⟨rfl,k - 1,by omega,rfl,_,i+1,_,_,rfl,by omega⟩)
     ·intro _
      exact .some (.inr ⟨by simp,rfl,.inl ⟨rfl,_,_,rfl⟩⟩)
    ·rintro ⟨ex,ds,g'⟩ ⟨rfl,⟨rfl,v,rest,rfl⟩ | ⟨rfl,rest,rfl⟩⟩
     ·simp only [a0p,a0j,a0e,a0h,b2h,a0r,bs,c8D]
      refine Wp.join (P:=fun (r:Out)=>r.1 = .nrm∧r.2.2=g'∧∃ v:Int,r.2.1=[.int .i64 v]) ?_ ?_ ?_
      ·intro _
       simp only [b6m,bs]
       exact .some ⟨rfl,rfl,_,rfl⟩
      ·intro _
       exact .some ⟨rfl,rfl,_,rfl⟩
      ·rintro ⟨ex,ds,g2⟩ ⟨rfl,hg,v,hds⟩
       simp only at hds hg
       subst hds hg
       simp only [a0j,a0e,bs,a0G]
       exact .some ⟨rfl,_,_,rfl⟩
     ·simp only [a0W,a1q,a1k,a0e,a0h,bs,a0G]
      exact .some ⟨rfl,_,_,rfl⟩
theorem b5K (e:Ev) (nm:Str) (h:Hp) (he:a8I e):∃ (s:Str) (b:Bool),R a5B [.agg (evr e),.str nm] h=some (.tup [.str s,.bool b],h):=by
 obtain ⟨hi,h1,h2,h3,h4⟩:=he
 obtain ⟨t0,t9,v0,v9,_⟩:=hi.ev rfl
 by_cases hn:b3n nm
 ·exact ⟨_,_,c3Z e nm h (by omega) (by omega) hn⟩
 ·have f1:a0b tab a0E 1 (.fptr (evr e))=some (.fptr (evr e).tail):=id rfl
  have f5:a0b tab a0E 5 (.fptr (evr e))=some (.fptr ((evr e).drop 5)):=id rfl
  have f6:a0b tab a0E 6 (.fptr (evr e))=some (.fptr ((evr e).drop 6)):=id rfl
  have l1:a0c tab h ty3 (.fptr (evr e).tail)=some (.int .i64 e.a1):=id rfl
  have l5:a0c tab h ty3 (.fptr ((evr e).drop 5))=some (.int .i64 e.a5):=id rfl
  have l6:a0c tab h ty3 (.fptr ((evr e).drop 6))=some (.int .i64 e.a6):=id rfl
  have v0:1≤e.a6:=v0
  have v9:e.a6≤5040:=v9
  have t0:0≤e.a5:=t0
  have t9:e.a5≤253402300799999:=t9
  obtain ⟨s1,d1⟩:=b2O e.a1 h (by omega) (by omega)
  obtain ⟨s5,d5⟩:=b2O e.a5 h (by omega) (by omega)
  obtain ⟨s6,d6⟩:=b2O e.a6 h (by omega) (by omega)
  have hcases:nm=[64,102,105,108,101]∨nm=[64,116,105,109,101]∨nm=[64,119,101,105,103,104,116]:=by
   unfold b3n at hn
   by_cases c1:nm=[64,102,105,108,101]
   ·exact .inl c1
   ·by_cases c2:nm=[64,116,105,109,101]
    ·exact .inr (.inl c2)
    ·by_cases c3:nm=[64,119,101,105,103,104,116]
     ·exact .inr (.inr c3)
     ·exact absurd ⟨c1,c2,c3⟩ hn
  rw [b9l]
  rcases hcases with rfl | rfl | rfl
  ·refine ⟨s1,true,?_⟩
   have n1:(([64,102,105,108,101]:Str)==[64,104,111,115,116])=false:=rfl
   have n2:(([64,102,105,108,101]:Str)==[64,102,105,108,101])=true:=rfl
   simp only [b0F,a1l,bs,a1L,n1,n2,a0d,c8E,if_false,if_true,f1,l1,d1,a0G]
  ·refine ⟨s5,true,?_⟩
   have n1:(([64,116,105,109,101]:Str)==[64,104,111,115,116])=false:=rfl
   have n2:(([64,116,105,109,101]:Str)==[64,102,105,108,101])=false:=rfl
   have n3:(([64,116,105,109,101]:Str)==[64,116,105,109,101])=true:=rfl
   simp only [b0F,a1l,bs,a1L,n1,n2,n3,a0d,c8E,if_false,if_true,f5,l5,d5,a0G]
  ·refine ⟨s6,true,?_⟩
   have n1:(([64,119,101,105,103,104,116]:Str)==[64,104,111,115,116])=false:=rfl
   have n2:(([64,119,101,105,103,104,116]:Str)==[64,102,105,108,101])=false:=rfl
   have n3:(([64,119,101,105,103,104,116]:Str)==[64,116,105,109,101])=false:=rfl
   have n4:(([64,119,101,105,103,104,116]:Str)==[64,119,101,105,103,104,116])=true:=rfl
   simp only [b0F,a1l,bs,a1L,n1,n2,n3,n4,a0d,c8E,if_false,if_true,f6,l6,d6,a0G]
theorem c0x (e:Ev) (nm:Str) (h:Hp) (he:a8I e):∃ (v:Int) (b:Bool),R b1s [.agg (evr e),.str nm] h=some (.tup [.int .i64 v,.bool b],h):=by
 obtain ⟨s,b,e1⟩:=b5K e nm h he
 obtain ⟨v,c,e2⟩:=c4d s h
 have hL:a0c tab h a0E (.fptr (evr e))=some (.agg (evr e)):=id rfl
 have e3:R b1t [.str s] h=some (.tup [.int .i64 v,.bool c],h):=by
  rw [c2n]
  simp only [b8e,e2,bs,a0I,c8G,c8H,a0G]
 rw [c2l]
 simp only [b8c,a1l,bs,hL,e1,a0I,c8G,c8H,a1f]
 cases b with
 | true =>
  simp only [c8N,a0d,c8E,if_false,e3,bs,a0I,c8G,c8H,a0G]
  exact ⟨_,_,rfl⟩
 | false =>
  simp only [c8O,a0d,if_true,a0G]
  exact ⟨_,_,rfl⟩
theorem a7n:∀ (ls:List Lin) (a b:Int),chain a ls b→∀ l∈ls,l.txt.length≤35
 | [],_,_,_,l,hl=>by cases hl
 | x::r,a,b,h,l,hl=>by
  rcases c8Y.1 hl with rfl | hl
  ·have h1:=h.2.2.1
   have h2:=h.2.2.2.1
   omega
  ·exact a7n r _ _ h.2.2.2.2 l hl
theorem b9u {e:Ev} (he:a8I e) (h:Hp):∃ s:Str,R a5A [.agg (evr e)] h=some (.str s,h)∧s.length≤1000:=by
 have hc:=a7n _ _ _ he.1.ch
 have n3:e.ls.length≤3:=he.1.n3
 suffices Wp (R a5A [.agg (evr e)] h) (fun p=>p.2=h∧∃ s:Str,p.1 = .str s∧s.length≤1000) by
  obtain ⟨⟨x,h'⟩,h1,rfl,s,rfl,h2⟩:=this
  exact ⟨s,h1,h2⟩
 have q4:a0b tab a0E 4 (.fptr (evr e))=some (.fptr [e.ld,.int .i64 e.a5,.int .i64 e.a6,.str e.s7,.str e.s8,e.fd]):=id rfl
 rw [c2j]
 simp only [b8a,a1l,bs,c8D]
 refine Wp.loop (fun k ds g=>g=h∧∃ (s:Str) (i:Nat) (a b:D),ds=[.str s,.int .i64 (i:Int),a,b]∧k+i=e.ls.length∧s.length≤100*i)
  (fun x=>x.2.2=h∧x.1 = .ext 0∧∃ (s:Str) (rest:List D),x.2.1 = .str s::rest∧s.length≤1000) e.ls.length ⟨rfl,[],0,_,_,rfl,by omega,by simp⟩ ?_ ?_
 ·rintro k ds g ⟨rfl,s,i,a,b,rfl,hk,hs⟩
  simp only [a8J,a0e,a0h,bs,c8D,q4,c5u,a9L e.hld,a0r]
  refine Wp.dif ?_ ?_
  ·intro h0
   have h0:i<e.ls.length:=dl_ h0
   obtain ⟨x,hx⟩:=gx_ h0
   have hxl:=hc x (c8R hx)
   have hw:=wi_ i (by omega)
   have hi:a0a tab a3o e.ld (.int .i64 (i:Int))=some (.fptr (a3R x)):=by rw [b6N e.hld];simp [-bind_some, hx]
   have hf:a0b tab a7e 2 (.fptr (a3R x))=some (.fptr [.str x.txt]):=id rfl
   simp only [a1e,bs]
   refine Wp.join (P:=fun (r:Out)=>r.1 = .nrm∧r.2.2=g∧∃ s:Str,r.2.1=[.str s]∧s.length≤100*i+1) ?_ ?_ ?_
   ·intro _
    rw [a3F _ _ _ _ (by simp;omega)]
    exact .some ⟨rfl,rfl,_,rfl,by simp;omega⟩
   ·intro _
    exact .some ⟨rfl,rfl,_,rfl,by omega⟩
   ·rintro ⟨ex,ds1,g1⟩ ⟨rfl,hg,s',hds,hs'⟩
    simp only at hg hds
    subst hg hds
    simp only [a0j,a0e,q4,bs,c5u,hi,hf,ld9]
    rw [a3F _ _ _ _ (by omega)]
    simp only [bs,a0l,hw]
    exact .some (.inl ⟨rfl,k - 1,by omega,rfl,_,i+1,_,_,rfl,by omega,by rw [c8I];omega⟩)
  ·intro _
   exact .some (.inr ⟨by simp,rfl,rfl,s,_,rfl,by omega⟩)
 ·rintro ⟨ex,ds,g⟩ ⟨rfl,rfl,s,rest,rfl,hs⟩
  simp only [a0p,a0j,a0e,bs,a0s]
  exact .some ⟨rfl,s,rfl,hs⟩
theorem c0E {α:Type} (kr:α→List D) (ks:List α) (kd:D) (op nu:Int) (nm tx:Str) (e:Ev) (h:Hp) (he:a8I e) (htx:tx.length≤1000) (hk:SlOf 5 kr ks kd) (hkl:ks.length≤1000)
  (hr:∀ k∈ks,a0c tab h a0k (.fptr (kr k))=some (.agg (kr k))∧∃ b:Bool,R a3r [.agg (kr k),.agg (evr e)] h=some (.bool b,h)) :
  ∃ b:Bool,R a3r [.agg [.int .i64 op,.str nm,.str tx,.int .i64 nu,kd],.agg (evr e)] h=some (.bool b,h):=by
 suffices Wp (R a3r [.agg [.int .i64 op,.str nm,.str tx,.int .i64 nu,kd],.agg (evr e)] h) (fun p=>p.2=h∧∃ b:Bool,p.1 = .bool b) by
  obtain ⟨⟨x,h'⟩,h1,rfl,b,rfl⟩:=this
  exact ⟨b,h1⟩
 have hL:a0c tab h a0E (.fptr (evr e))=some (.agg (evr e)):=id rfl
 obtain ⟨tx0,et,lt⟩:=b9u he h
 obtain ⟨ws,wd,ew,hw,lw⟩:=c4m tx0 h (by omega)
 obtain ⟨i1,b1,x1,_⟩:=c0F ws wd tx h hw (by omega)
 obtain ⟨b2,x2⟩:=c4n ws wd tx h hw (by omega)
 obtain ⟨b3,x3⟩:=c4o tx0 tx h (by omega) (by omega)
 obtain ⟨v4,b4,x4⟩:=b5K e nm h he
 obtain ⟨v5,b5,x5⟩:=c0x e nm h he
 have lkd:∀ g,a0c tab g a0H (.fptr [kd])=some kd:=fun g=>b9W _ _ _
 have l3:∀ (n:Int) (cs:List D) g,a0c tab g ty3 (.fptr (.int .i64 n::cs))=some (.int .i64 n):=fun n cs g=>id rfl
 have l9:∀ (s:Str) (cs:List D) g,a0c tab g ty9 (.fptr (.str s::cs))=some (.str s):=fun n cs g=>id rfl
 have f0:a0b tab a0k 0 (.fptr [.int .i64 op,.str nm,.str tx,.int .i64 nu,kd])=some (.fptr [.int .i64 op,.str nm,.str tx,.int .i64 nu,kd]):=id rfl
 have f1:a0b tab a0k 1 (.fptr [.int .i64 op,.str nm,.str tx,.int .i64 nu,kd])=some (.fptr [.str nm,.str tx,.int .i64 nu,kd]):=id rfl
 have f2:a0b tab a0k 2 (.fptr [.int .i64 op,.str nm,.str tx,.int .i64 nu,kd])=some (.fptr [.str tx,.int .i64 nu,kd]):=id rfl
 have f3:a0b tab a0k 3 (.fptr [.int .i64 op,.str nm,.str tx,.int .i64 nu,kd])=some (.fptr [.int .i64 nu,kd]):=id rfl
 have f4:a0b tab a0k 4 (.fptr [.int .i64 op,.str nm,.str tx,.int .i64 nu,kd])=some (.fptr [kd]):=id rfl
 rw [c2Y]
 simp only [b8O,a1l,bs,f0,l3,a0Q,c8D]
 refine Wp.dif ?_ ?_
 ·intro _
  simp only [hL,bs,et,ew,f2,l9,x1,a0I,c8G,c8H,a1i,a0s,c8D]
  exact .some ⟨rfl,_,rfl⟩
 intro _
 refine Wp.dif ?_ ?_
 ·intro _
  simp only [hL,bs,et,ew,f2,l9,x2,a1i,a0s,c8D]
  exact .some ⟨rfl,_,rfl⟩
 intro _
 refine Wp.dif ?_ ?_
 ·intro _
  simp only [hL,bs,et,f2,l9,x3,a1i,a0s,c8D]
  exact .some ⟨rfl,_,rfl⟩
 intro _
 refine Wp.dif ?_ ?_
 ·intro _
  simp only [hL,bs,f1,l9,x4,a0I,c8G,c8H,c8D]
  cases b4 <;> simp only [a0x,a0Y,reduceCtorEq,c8E,if_false,if_true,bs,f2,l9,a1L,a0n,a0s,c8D] <;> exact .some ⟨rfl,_,rfl⟩
 intro _
 refine Wp.dif ?_ ?_
 ·intro _
  simp only [hL,bs,f1,l9,x4,a0I,c8G,c8H,a0s,c8D]
  exact .some ⟨rfl,_,rfl⟩
 intro _
 refine Wp.bind (P:=fun (r:Out)=>r.1 = .nrm∧r.2.2=h∧∃ b:Bool,r.2.1=[.bool b]) ?_ ?_
 ·refine Wp.dif (fun _ => .some ⟨rfl,rfl,_,rfl⟩) fun _=>?_
  refine Wp.bind (P:=fun (r:Out)=>r.1 = .nrm∧r.2.2=h∧∃ b:Bool,r.2.1=[.bool b]) ?_ ?_
  ·exact Wp.dif (fun _ => .some ⟨rfl,rfl,_,rfl⟩) fun _ => .some ⟨rfl,rfl,_,rfl⟩
  ·rintro ⟨ex,ds,g⟩ ⟨rfl,hg,b,hds⟩
   simp only at hg hds
   subst hg hds
   exact .some ⟨rfl,rfl,b,rfl⟩
 rintro ⟨ex,ds,g⟩ ⟨rfl,hg,b,hds⟩
 simp only at hg hds
 subst hg hds
 simp only [a0j,a0e]
 refine Wp.dif ?_ ?_
 ·intro _
  simp only [hL,bs,f1,l9,x5,a0I,c8G,c8H,c8D]
  cases b5 with
  | false =>
   simp only [a0x,a0Y,reduceCtorEq,c8E,if_false,if_true,bs,a0n,a0s,c8D]
   exact .some ⟨rfl,_,rfl⟩
  | true =>
   cases c1:decide (op=9) <;> cases c2:decide (v5<nu) <;> cases c3:decide (op=10) <;> cases c4:decide (nu<v5) <;> cases c5:decide (op=11) <;>
    simp only [c1,c2,c3,c4,c5,a0x,a0Y,reduceCtorEq,c8E,c8F,if_false,if_true,bs,f0,f3,l3,a0Q,a0r,a1e,a0n,a0s,c8D] <;> exact .some ⟨rfl,_,rfl⟩
 intro _
 refine Wp.dif ?_ ?_
 ·intro _
  simp only [bs,f4,lkd,a6N hk,a0Q,c8D]
  by_cases h1:ks.length=1
  ·have d1:decide ((ks.length:Int)=1)=true:=decide_eq_true (by omega)
   obtain ⟨k,hk0⟩:∃ k,ks[0]?=some k:=⟨_,c8S (by omega)⟩
   obtain ⟨k1,bk,k2⟩:=hr k (c8R hk0)
   have hi:a0a tab a0H kd (.int .i64 0)=some (.fptr (kr k)):=by rw [b1Y hk];simp [-bind_some, hk0]
   simp only [d1,a0x,a0B,if_true,bs,f4,lkd,hi,k1,hL,k2,a1f,a0n,a0s,c8D]
   exact .some ⟨rfl,_,rfl⟩
  ·have d1:decide ((ks.length:Int)=1)=false:=decide_eq_false (by omega)
   simp only [d1,a0x,a0B,a0Y,reduceCtorEq,c8E,if_false,bs,a0n,a0s,c8D]
   exact .some ⟨rfl,_,rfl⟩
 intro _
 have ixk:∀ (i:Nat) k,ks[i]?=some k→a0a tab a0H kd (.int .i64 (i:Int))=some (.fptr (kr k)):=fun i k hi=>by rw [b1Y hk];simp [-bind_some, hi]
 refine Wp.bind (P:=fun (r:Out)=>r.2.2=g∧((r.1 = .nrm)∨(r.1 = .ret∧∃ b:Bool,nth 0 r.2.1 = .bool b))) ?_ ?_
 ·refine Wp.dif ?_ ?_
  ·intro _
   refine Wp.loop (fun n ds g'=>g'=g∧∃ (i:Nat) (a b:D),ds=[.bool false,.int .i64 (i:Int),a,b]∧n+i=ks.length)
    (fun r=>r.2.2=g∧∃ (b:Bool) (x y z:D),r.2.1=[.bool b,x,y,z]∧(r.1 = .ext 1∨r.1 = .ret)) ks.length ⟨rfl,0,_,_,rfl,by omega⟩ ?_ ?_
   ·rintro n ds g' ⟨rfl,i,a,b,rfl,hn⟩
    simp only [a9e,a0e,a0h,bs,f4,lkd,a6N hk,a0r,c8D]
    refine Wp.dif ?_ ?_
    ·intro h0
     have h0:i<ks.length:=by
      have:(i:Int)<(ks.length:Int):=by simpa using h0
      omega
     have w1:=wi_ i (by omega)
     obtain ⟨k,hk0⟩:=gx_ h0
     obtain ⟨k1,bk,k2⟩:=hr k (c8R hk0)
     simp only [ixk i k hk0,bs,k1,hL,k2,a1f,c8D]
     refine Wp.dif ?_ ?_
     ·intro _
      exact .some (.inr ⟨by simp,rfl,_,_,_,_,rfl,.inr rfl⟩)
     ·intro _
      simp only [a0l,w1,bs]
      exact .some (.inl ⟨rfl,n - 1,by omega,rfl,i+1,_,_,rfl,by omega⟩)
    ·intro _
     exact .some (.inr ⟨by simp,rfl,_,_,_,_,rfl,.inl rfl⟩)
   ·rintro ⟨ex,ds,g'⟩ ⟨rfl,b,x,y,z,rfl,rfl | rfl⟩
    ·simp only [a0p,a0e,a0h,bs]
     exact .some ⟨rfl,.inl rfl⟩
    ·simp only [a0W,a0e,a0h,bs]
     exact .some ⟨rfl,.inr ⟨rfl,b,rfl⟩⟩
  ·intro _
   refine Wp.dif ?_ ?_
   ·intro _
    refine Wp.loop (fun n ds g'=>g'=g∧∃ (i:Nat) (a b:D),ds=[.bool false,.int .i64 (i:Int),a,b]∧n+i=ks.length)
     (fun r=>r.2.2=g∧∃ (b:Bool) (x y z:D),r.2.1=[.bool b,x,y,z]∧(r.1 = .ext 3∨r.1 = .ret)) ks.length ⟨rfl,0,_,_,rfl,by omega⟩ ?_ ?_
    ·rintro n ds g' ⟨rfl,i,a,b,rfl,hn⟩
     simp only [a9f,a0e,a0h,bs,f4,lkd,a6N hk,a0r,c8D]
     refine Wp.dif ?_ ?_
     ·intro h0
      have h0:i<ks.length:=by
       have:(i:Int)<(ks.length:Int):=by simpa using h0
       omega
      have w1:=wi_ i (by omega)
      obtain ⟨k,hk0⟩:=gx_ h0
      obtain ⟨k1,bk,k2⟩:=hr k (c8R hk0)
      simp only [ixk i k hk0,bs,k1,hL,k2,c8D]
      refine Wp.dif ?_ ?_
      ·intro _
       exact .some (.inr ⟨by simp,rfl,_,_,_,_,rfl,.inr rfl⟩)
      ·intro _
       simp only [a0l,w1,bs]
       exact .some (.inl ⟨rfl,n - 1,by omega,rfl,i+1,_,_,rfl,by omega⟩)
     ·intro _
      exact .some (.inr ⟨by simp,rfl,_,_,_,_,rfl,.inl rfl⟩)
    ·rintro ⟨ex,ds,g'⟩ ⟨rfl,b,x,y,z,rfl,rfl | rfl⟩
     ·simp only [a0p,a0j,a0e,a0h,bs]
      exact .some ⟨rfl,.inr ⟨rfl,_,rfl⟩⟩
     ·simp only [a0W,a1q,a0e,a0h,bs]
      exact .some ⟨rfl,.inr ⟨rfl,b,rfl⟩⟩
   ·intro _
    exact .some ⟨rfl,.inl rfl⟩
 ·rintro ⟨ex,ds,g'⟩ ⟨rfl,rfl | ⟨rfl,b,hb⟩⟩
  ·simp only [a0P,a0j,a0s]
   exact .some ⟨rfl,_,rfl⟩
  ·simp only at hb
   simp only [a0W,a1q,a1k,hb,a0s]
   exact .some ⟨rfl,_,rfl⟩
theorem c0D (row:List D) (L:List Ev) (dL:D) (h:Hp) (hL:SlOf 10 evr L dL) (hl:L.length≤1000) (hrow:∀ g,a0c tab g a0k (.fptr row)=some (.agg row)) (hh:∀ e∈L,∀ g,∃ b:Bool,R a3r [.agg row,.agg (evr e)] g=some (.bool b,g)) :
  ∃ (l:List Ev) (d:D),R a7D [.agg row,dL] h=some (d,h)∧SlOf 10 evr l d∧l.Sublist L:=by
 suffices Wp (R a7D [.agg row,dL] h) (fun p=>p.2=h∧∃ l:List Ev,SlOf 10 evr l p.1∧l.Sublist L) by
  obtain ⟨⟨x,h'⟩,h1,rfl,l,h2⟩:=this
  exact ⟨l,x,h1,h2⟩
 have hLe:∀ (e:Ev) g,a0c tab g a0E (.fptr (evr e))=some (.agg (evr e)):=fun e g=>id rfl
 have hS:∀ e:Ev,a0J tab a2q 1 [0] [.agg (evr e)]=some (.sl 10 true [evr e]):=fun e=>id rfl
 rw [c2W]
 simp only [b8M,a1l,bs,c8D]
 refine Wp.loop (fun n ds g=>∃ (i:Nat) (x a b:D) (l:List Ev),ds=[x,.int .i64 (i:Int),a,b]∧n+i=L.length∧l.Sublist (L.take i)∧Own g h.length a0E 10 (l.map evr) x∧Keep h g)
  (fun r=>r.1 = .ext 0∧∃ (x:D) (rest:List D) (l:List Ev),r.2.1=x::rest∧l.Sublist L∧Own r.2.2 h.length a0E 10 (l.map evr) x∧Keep h r.2.2) L.length ⟨0,_,_,_,[],rfl,by omega,by simp,Own.nils _ _ _ _,.refl _⟩ ?_ ?_
 ·rintro n ds g ⟨i,x,a,b,l,rfl,hn,hs,ow,kp⟩
  simp only [a9c,a0e,a0h,bs,b2i hL,a0r,c8D]
  refine Wp.dif ?_ ?_
  ·intro h0
   have h0:i<L.length:=by
    have:(i:Int)<(L.length:Int):=by simpa using h0
    omega
   have w1:=wi_ i (by omega)
   obtain ⟨u,hu⟩:=gx_ h0
   obtain ⟨bu,eu⟩:=hh u (c8R hu) g
   have tk:L.take (i+1)=L.take i++[u]:=by rw [c8P,hu];rfl
   have hll:=hs.length_le
   rw [c8X] at hll
   simp only [hrow,b4m hL,Int.natCast_nonneg,if_true,c8M,hu,Option.map_some,bs,hLe,eu,c8D]
   refine Wp.join (P:=fun (r:Out)=>r.1 = .nrm∧∃ (x:D) (l:List Ev),r.2.1=[x]∧l.Sublist (L.take (i+1))∧Own r.2.2 h.length a0E 10 (l.map evr) x∧Keep h r.2.2) ?_ ?_ ?_
   ·intro _
    simp only [hS,bs]
    refine b4U (n0:=h.length) kp.1 ow (a0O _ _ _ _) (by rw [c8J];simp [-bind_some];omega) fun x' g2 o2 l2 b2 _ _=>?_
    exact .some ⟨rfl,x',l++[u],rfl,by rw [tk];exact hs.append (List.Sublist.refl _),by rw [c8K];exact o2,⟨Nat.le_trans kp.1 l2,fun q hq=>(b2 q hq).trans (kp.2 q hq)⟩⟩
   ·intro _
    exact .some ⟨rfl,x,l,rfl,by rw [tk];exact hs.trans (List.sublist_append_left _ _),ow,kp⟩
   ·rintro ⟨ex,ds1,g2⟩ ⟨rfl,x',l',hds,hs',ow',kp'⟩
    simp only at hds ow' kp'
    subst hds
    simp only [a0P,a0j,a0e,a0l,w1,bs]
    exact .some (.inl ⟨rfl,n - 1,by omega,i+1,_,_,_,l',rfl,by omega,hs',ow',kp'⟩)
  ·intro h0
   have h0:L.length≤i:=by
    have:¬ (i:Int)<(L.length:Int):=by simpa using h0
    omega
   rw [List.take_of_length_le h0] at hs
   exact .some (.inr ⟨by simp,rfl,x,_,l,rfl,hs,ow,kp⟩)
 ·rintro ⟨ex,ds,g⟩ ⟨rfl,x,rest,l,rfl,hs,ow,kp⟩
  simp only at ow kp
  simp only [a0p,a0j,a0e,bs,a0s]
  have hf:=a2B (n0:=h.length) (n:=3) ow (Nat.le_refl _) fun s _=>a3X _ _ _ s
  have hsc:scope h g x=some (frz h.length g 4 x,h):=a1o rfl (a1B hf fun s _=>a5x _ s) kp.1 kp.2
  rw [hsc]
  exact .some ⟨rfl,l,hf,hs⟩
structure TF where
 op:Int
 nm:Str
 tx:Str
 nu:Int
def tfr (t:TF):List D:=[.int .i64 t.op,.str t.nm,.str t.tx,.int .i64 t.nu,.nils]
theorem a6Y (n0:Nat) (h:Hp) (n:Nat) (t:TF):∀ d∈tfr t,frz n0 h n d=d:=by simp [-bind_some, tfr]
theorem b3a (n:Nat) (t:TF):∀ d∈tfr t,Ok n d:=by
 intro d hd
 simp [-bind_some, tfr] at hd
 rcases hd with rfl | rfl | rfl | rfl | rfl <;> constructor
def tzr:List D:=[.int .i64 0,.str [],.str [],.int .i64 0,.nils]
structure TS (h:Hp) (o:Nat) (g:Hp):Prop where
 st:St h o g
 z:g[h.length]?=some (.row a0k 5 [tzr])
theorem TS.same {h g g':Hp} {o:Nat} (t:TS h o g) (hc:CD g' o) (hs:Same o g g'):TS h o g':=⟨t.st.next hc hs,by rw [hs.2 _ (by have:=t.st.lt;omega)];exact t.z⟩
theorem TS.draw {h g:Hp} {o:Nat} (t:TS h o g) (n:Int) (h1:1≤n) (h2:n≤1000000000):∃ v g',R a2e [.ptr o 0 0,.int .i64 n] g=some (.int .i64 v,g')∧TS h o g'∧Same o g g'∧0≤v∧v<n:=by
 obtain ⟨v,g',e,c,s,v0,v1⟩:=a1D t.st.cd n h1 h2
 exact ⟨v,g',e,t.same c s,s,v0,v1⟩
theorem TS.lt {h g:Hp} {o:Nat} (t:TS h o g):h.length<g.length:=(c8T.1 t.z).1
theorem a8E {h g:Hp} {o:Nat} (t:TS h o g) {row row':List D} (hl:row.length=5) (hf:∀ g',g'.length=g.length→(∀ q,q≠h.length→g'[q]?=g[q]?)→frz h.length g' 4 (.agg row) = .agg row') (hok:∀ d∈row',Ok h.length d)
  (hta:a8a 5 row=some (.agg row)) {Q:D × Hp→Prop} (k:∀ h',CD h' o→Same o h h'→Q (.agg row',h')) :
  Wp ((a0o tab g a0k (.ptr h.length 0 0) (.agg row)).bind fun h'=>(a0c tab h' a0k (.ptr h.length 0 0)).bind fun d0=>scope h h' (a0m [d0])) Q:=by
 refine a8G (kk:=0) (off:=0) (v := .agg row) t.z (by rfl) (by exact hl) (by exact Nat.le_refl _) (by rfl) fun g2 p2 s2=>?_
 have hsp:spl tzr 0 (a0A (.agg row))=row:=by
  rw [a3g]
  have:∀ r:List D,r.length=5→spl tzr 0 r=r:=fun r hr=>by
   match r,hr with
   | [a,b,c,d,e],_=>rfl
  exact this row hl
 have p2:g2[h.length]?=some (.row a0k 5 [row]):=by rw [← hsp];exact p2
 have ld:a0c tab g2 a0k (.ptr h.length 0 0)=some (.agg row):=by
  rw [a8u,a1y p2]
  exact hta
 have S2:St h o g2:=⟨t.st.lt,t.st.cd.keep (s2.2 o (by have:=t.st.lt;omega)),t.st.gr.trans ⟨Nat.le_of_eq s2.1.symm,fun q hq _=>s2.2 q (by omega)⟩⟩
 obtain ⟨h',hs,hcd,hsm⟩:=S2.scope (hf g2 s2.1 fun q hq=>s2.2 q hq) (.agg _ hok)
 simp only [ld,bs,a0s,hs]
 exact .some (k h' hcd hsm)
def b3F (t1:Int) (h:Hp) (o:Nat) (p:D × Hp):Prop:=CD p.2 o∧Same o h p.2∧∃ (op nu:Int) (nm tx:Str) (ks:List TF) (kd:D),p.1 = .agg [.int .i64 op,.str nm,.str tx,.int .i64 nu,kd]∧SlOf 5 tfr ks kd∧ks.length≤3∧tx.length≤1000∧(∀ k∈ks,k.tx.length≤1000)∧(t1=0→kd = .nils)
theorem a2p {h g:Hp} {o:Nat} (t:TS h o g) (t1 op nu:Int) (nm tx:Str) (htx:tx.length≤1000) :
  Wp ((a0o tab g a0k (.ptr h.length 0 0) (.agg [.int .i64 op,.str nm,.str tx,.int .i64 nu,.nils])).bind fun h'=>(a0c tab h' a0k (.ptr h.length 0 0)).bind fun d0=>scope h h' (a0m [d0])) (b3F t1 h o) :=
 a8E t rfl (fun g' _ _=>by simp;rfl) (b3a _ ⟨op,nm,tx,nu⟩) rfl fun h' c s=>⟨c,s,op,nu,nm,tx,[],.nils,rfl,.nils _ _,by simp,htx,by simp,fun _=>rfl⟩
theorem b0y (ss:List Str) (v:Int) (h0:0≤v) (h1:v<ss.length):∃ s,s∈ss∧a0a tab a1d (.sl 1 true (ss.map sr)) (.int .i64 v)=some (.fptr [.str s]):=by
 obtain ⟨s,hs,hg⟩:=a2r ss v h0 h1
 refine ⟨s,hs,?_⟩
 rw [b6K,if_pos h0,c8Q,hg]
 rfl
theorem b5i {h:Hp} {o:Nat} (hc:CD h o) (t1:Int) (ht:t1=0∨t1=1) (rec:t1=1→∀ g,CD g o→Wp (R a2w [.ptr o 0 0,.int .i64 0] g) (b3F 0 g o)):Wp (R a2w [.ptr o 0 0,.int .i64 t1] h) (b3F t1 h o):=by
 have ho:=hc.lt
 have ld:∀ (s:Str) g,a0c tab g ty9 (.fptr [.str s])=some (.str s):=fun s g=>id rfl
 have T0:TS h o (a1h h a0k 5 [tzr]):=⟨(St.refl hc).app (by simp [-bind_some, a1h]) fun q hq=>a1R _ _ _ _ hq,a2j _ _ _ _⟩
 have hz:[[D.int .i64 0,.str [],.str [],.int .i64 0,.nils]]=[tzr]:=rfl
 obtain ⟨v,g0,e0,T0,_,v0,v1⟩:=T0.draw 15 (by omega) (by omega)
 rw [c2X]
 simp only [b8N,bs,hz,e0,a0Q,c8D]
 refine Wp.join (P:=fun (r:Out)=>r.1 = .nrm∧∃ v:Int,r.2.1=[.int .i64 v]∧TS h o r.2.2∧0≤v∧v<15∧(t1=0→v<10)) ?_ ?_ ?_
 ·intro _
  obtain ⟨w,g1,e1,T1,_,w0,w1⟩:=T0.draw 10 (by omega) (by omega)
  simp only [e1,bs]
  exact .some ⟨rfl,w,rfl,T1,w0,by omega,fun _=>w1⟩
 ·intro hd
  have hd:¬ t1=0:=by simpa using hd
  exact .some ⟨rfl,v,rfl,T0,v0,v1,fun hh=>absurd hh hd⟩
 rintro ⟨ex,ds,g⟩ ⟨rfl,v,hds,T,v0,v1,vt⟩
 simp only at hds T
 subst hds
 simp only [a0j,a0e,a0Q,bs,c8D]
 refine Wp.bind (P:=fun (r:Out)=>r.1 = .nrm∧r.2.2=g∧∃ b:Bool,r.2.1=[.bool b]∧(b=false→v≠0∧v≠1)) (Wp.dif (fun hb => .some ⟨rfl,rfl,_,rfl,fun hh=>by rw [hb] at hh;cases hh⟩) fun hb => .some ⟨rfl,rfl,_,rfl,fun hh=>⟨by simpa using hb,by simpa using hh⟩⟩) ?_
 rintro ⟨ex,ds,g1⟩ ⟨rfl,hg,b1,hds,nb1⟩
 simp only at hg hds
 subst hg hds
 simp only [a0j,a0e]
 refine Wp.dif ?_ ?_
 ·intro _
  have hp:a0J tab a1d 6 [0,1,2,3,4,5] [.str [103,101,116],.str [101,114,114,111,114],.str [119,97,114,110],.str [97,49],.str [50,48,48],.str [110,111,116,104,105,110,103]]=some (.sl 1 true (([[103,101,116],[101,114,114,111,114],[119,97,114,110],[97,49],[50,48,48],[110,111,116,104,105,110,103]]:List Str).map sr)):=id rfl
  obtain ⟨w,g2,e2,T2,_,w0,w1⟩:=T.draw 6 (by omega) (by omega)
  obtain ⟨s,hs,hi⟩:=b0y [[103,101,116],[101,114,114,111,114],[119,97,114,110],[97,49],[50,48,48],[110,111,116,104,105,110,103]] w w0 w1
  have hl:s.length≤1000:=(show ∀ s∈([[103,101,116],[101,114,114,111,114],[119,97,114,110],[97,49],[50,48,48],[110,111,116,104,105,110,103]]:List Str),s.length≤1000 by decide) s hs
  simp only [hp,e2,hi,ld,bs,a3S,c8D]
  exact a2p T2 t1 1 0 [] s hl
 intro hb1
 refine Wp.dif ?_ ?_
 ·intro _
  have hp:a0J tab a1d 5 [0,1,2,3,4] [.str [101],.str [101,114,114],.str [117],.str [50],.str [113]]=some (.sl 1 true (([[101],[101,114,114],[117],[50],[113]]:List Str).map sr)):=id rfl
  obtain ⟨w,g2,e2,T2,_,w0,w1⟩:=T.draw 5 (by omega) (by omega)
  obtain ⟨s,hs,hi⟩:=b0y [[101],[101,114,114],[117],[50],[113]] w w0 w1
  have hl:s.length≤1000:=(show ∀ s∈([[101],[101,114,114],[117],[50],[113]]:List Str),s.length≤1000 by decide) s hs
  simp only [hp,e2,hi,ld,bs,a3S,c8D]
  exact a2p T2 t1 2 0 [] s hl
 intro h2
 refine Wp.dif ?_ ?_
 ·intro _
  have hp:a0J tab a1d 5 [0,1,2,3,4] [.str [114],.str [71,69,84],.str [32],.str [84],.str [111,32,111]]=some (.sl 1 true (([[114],[71,69,84],[32],[84],[111,32,111]]:List Str).map sr)):=id rfl
  obtain ⟨w,g2,e2,T2,_,w0,w1⟩:=T.draw 5 (by omega) (by omega)
  obtain ⟨s,hs,hi⟩:=b0y [[114],[71,69,84],[32],[84],[111,32,111]] w w0 w1
  have hl:s.length≤1000:=(show ∀ s∈([[114],[71,69,84],[32],[84],[111,32,111]]:List Str),s.length≤1000 by decide) s hs
  simp only [hp,e2,hi,ld,bs,a3S,c8D]
  exact a2p T2 t1 3 0 [] s hl
 intro h3
 refine Wp.bind (P:=fun (r:Out)=>r.1 = .nrm∧r.2.2=g1∧∃ b:Bool,r.2.1=[.bool b]∧(b=false→v≠4∧v≠5)) (Wp.dif (fun hb => .some ⟨rfl,rfl,_,rfl,fun hh=>by rw [hb] at hh;cases hh⟩) fun hb => .some ⟨rfl,rfl,_,rfl,fun hh=>⟨by simpa using hb,by simpa using hh⟩⟩) ?_
 rintro ⟨ex,ds,g⟩ ⟨rfl,hg,b2,hds,nb2⟩
 simp only at hg hds
 subst hg hds
 simp only [a0j,a0e]
 refine Wp.dif ?_ ?_
 ·intro _
  obtain ⟨w,g2,e2,T2,_,w0,w1⟩:=T.draw 4 (by omega) (by omega)
  simp only [e2,bs,a0Q,c8D]
  refine Wp.dif ?_ ?_
  ·intro _
   have hp:a0J tab a1d 4 [0,1,2,3] [.str [64,104,111,115,116],.str [64,115,116,114,101,97,109],.str [64,116,114,97,99,101],.str [64,119,101,105,103,104,116]]=some (.sl 1 true (([[64,104,111,115,116],[64,115,116,114,101,97,109],[64,116,114,97,99,101],[64,119,101,105,103,104,116]]:List Str).map sr)):=id rfl
   have hq:a0J tab a1d 4 [0,1,2,3] [.str [49],.str [109,97,105,110],.str [116,49],.str [50]]=some (.sl 1 true (([[49],[109,97,105,110],[116,49],[50]]:List Str).map sr)):=id rfl
   obtain ⟨x,g3,e3,T3,_,x0,x1⟩:=T2.draw 4 (by omega) (by omega)
   obtain ⟨s,hs,hi⟩:=b0y [[64,104,111,115,116],[64,115,116,114,101,97,109],[64,116,114,97,99,101],[64,119,101,105,103,104,116]] x x0 x1
   obtain ⟨y,g4,e4,T4,_,y0,y1⟩:=T3.draw 4 (by omega) (by omega)
   obtain ⟨u,hu,hj⟩:=b0y [[49],[109,97,105,110],[116,49],[50]] y y0 y1
   have hl:u.length≤1000:=(show ∀ s∈([[49],[109,97,105,110],[116,49],[50]]:List Str),s.length≤1000 by decide) u hu
   simp only [hp,e3,hi,ld,hq,e4,hj,bs,a4d,a1i,c8D]
   exact a2p T4 t1 4 0 s u hl
  ·intro _
   obtain ⟨s,g3,e3,c3,s3,_⟩:=b6i T2.st.cd
   obtain ⟨u,g4,e4,c4,s4,hu⟩:=d33 c3
   simp only [e3,e4,bs,a4d,c8D]
   exact a2p ((T2.same c3 s3).same c4 s4) t1 4 0 s u (by omega)
 intro hb2
 refine Wp.dif ?_ ?_
 ·intro _
  obtain ⟨s,g3,e3,c3,s3,_⟩:=b6i T.st.cd
  simp only [e3,bs,b0f,c8D]
  exact a2p (T.same c3 s3) t1 8 0 s [] (by simp)
 intro h6
 refine Wp.bind (P:=fun (r:Out)=>r.1 = .nrm∧r.2.2=g∧∃ b:Bool,r.2.1=[.bool b]∧(b=false→v≠7∧v≠8)) (Wp.dif (fun hb => .some ⟨rfl,rfl,_,rfl,fun hh=>by rw [hb] at hh;cases hh⟩) fun hb => .some ⟨rfl,rfl,_,rfl,fun hh=>⟨by simpa using hb,by simpa using hh⟩⟩) ?_
 rintro ⟨ex,ds,g1⟩ ⟨rfl,hg,b3,hds,nb3⟩
 simp only at hg hds
 subst hg hds
 simp only [a0j,a0e]
 refine Wp.dif ?_ ?_
 ·intro _
  obtain ⟨w,g2,e2,T2,_,w0,w1⟩:=T.draw 3 (by omega) (by omega)
  obtain ⟨s,g3,e3,c3,s3,_⟩:=b6i T2.st.cd
  have T3:=T2.same c3 s3
  obtain ⟨x,g4,e4,T4,_,x0,x1⟩:=T3.draw 40 (by omega) (by omega)
  -- an object of its own
  have lt4:=T4.lt
  have T5:TS h o (a1h g4 a0k 5 [tzr]):=⟨T4.st.app (by simp [-bind_some, a1h]) fun q hq=>a1R _ _ _ _ (by have:=T4.st.le;omega),by rw [a1R _ _ _ _ lt4];exact T4.z⟩
  simp only [e2,e3,e4,bs,a0l,a0t,a7k,hz,c8D]
  refine a8G (kk:=0) (off:=0) (v := .agg [.int .i64 (IntKind.wrap .i64 (9+w)),.str s,.str [],.int .i64 (IntKind.wrap .i64 (x - 5)),.nils]) (a2j g4 a0k 5 [tzr]) (by rfl) (by rfl) (by exact Nat.le_refl _) (by rfl) fun g6 p6 s6=>?_
  have hm:g4.length≠h.length:=by omega
  have hmo:g4.length≠o:=by omega
  have chg:∀ {g g':Hp},TS h o g→Same g4.length g g'→TS h o g':=fun {g g'} t s=>⟨⟨ho,t.st.cd.keep (s.2 o (Ne.symm hmo)),t.st.gr.trans ⟨Nat.le_of_eq s.1.symm,fun q hq _=>s.2 q (by omega)⟩⟩,by rw [s.2 _ (Ne.symm hm)];exact t.z⟩
  have T6:=chg T5 s6
  have q6:∃ (op nu:Int) (nm:Str),g6[g4.length]?=some (.row a0k 5 [[.int .i64 op,.str nm,.str [],.int .i64 nu,.nils]]):=⟨_,_,_,p6⟩
  clear p6 T5
  obtain ⟨y,g7,e7,T7,s7,y0,y1⟩:=T6.draw 2 (by omega) (by omega)
  have q7:∃ (op nu:Int) (nm:Str),g7[g4.length]?=some (.row a0k 5 [[.int .i64 op,.str nm,.str [],.int .i64 nu,.nils]]):=by rw [s7.2 _ hmo];exact q6
  have set2:∀ {γ:Type} {g:Hp} (_:TS h o g) (_:∃ (op nu:Int) (nm:Str),g[g4.length]?=some (.row a0k 5 [[.int .i64 op,.str nm,.str [],.int .i64 nu,.nils]])) (s:Str) (n:Int) {F:Hp→Option γ} {Q:γ→Prop}
    (_:∀ g',TS h o g'→(∃ (op nu:Int) (nm:Str),g'[g4.length]?=some (.row a0k 5 [[.int .i64 op,.str nm,.str [],.int .i64 nu,.nils]]))→Wp (F g') Q),
    Wp ((a0o tab g ty9 (.ptr g4.length 0 (0+1)) (.str s)).bind fun h'=>(a0o tab h' ty3 (.ptr g4.length 0 (0+3)) (.int .i64 n)).bind F) Q:=fun {γ g} t q s n {F Q} k=>by
   obtain ⟨op,nu,nm,q⟩:=q
   refine c1L (kk:=0) (off:=0+1) (v := .str s) q (by rfl) (by rfl) (by simp) (by rfl) fun g8 p8 s8=>?_
   have p8:g8[g4.length]?=some (.row a0k 5 [[.int .i64 op,.str s,.str [],.int .i64 nu,.nils]]):=p8
   refine b7Y (kk:=0) (off:=0+3) (v := .int .i64 n) p8 (by rfl) (by rfl) (by simp) (by rfl) fun g9 p9 s9=>?_
   exact k g9 (chg (chg t s8) s9) ⟨op,n,s,p9⟩
  simp only [e7,bs,a0Q,c8D]
  refine Wp.join (P:=fun (r:Out)=>r.1 = .nrm∧TS h o r.2.2∧∃ (op nu:Int) (nm:Str),r.2.2[g4.length]?=some (.row a0k 5 [[.int .i64 op,.str nm,.str [],.int .i64 nu,.nils]])) ?_ ?_ ?_
  ·intro _
   obtain ⟨z,g8,e8,T8,s8,z0,z1⟩:=T7.draw 70 (by omega) (by omega)
   simp only [e8,bs,a0l,a7u,a7v,c8D]
   exact set2 T8 (by rw [s8.2 _ hmo];exact q7) _ _ fun g' t q => .some ⟨rfl,t,q⟩
  ·intro _
   exact .some ⟨rfl,T7,q7⟩
  rintro ⟨ex,ds,g8⟩ ⟨rfl,T8,q8⟩
  simp only at T8 q8
  simp only [a0j]
  obtain ⟨z,g9,e9,T9,s9,z0,z1⟩:=T8.draw 8 (by omega) (by omega)
  have q9:∃ (op nu:Int) (nm:Str),g9[g4.length]?=some (.row a0k 5 [[.int .i64 op,.str nm,.str [],.int .i64 nu,.nils]]):=by rw [s9.2 _ hmo];exact q8
  simp only [e9,bs,a0Q,c8D]
  refine Wp.join (P:=fun (r:Out)=>r.1 = .nrm∧TS h o r.2.2∧∃ (op nu:Int) (nm:Str),r.2.2[g4.length]?=some (.row a0k 5 [[.int .i64 op,.str nm,.str [],.int .i64 nu,.nils]])) ?_ ?_ ?_
  ·intro _
   obtain ⟨a,ga,ea,Ta,sa,a0,a1⟩:=T9.draw 3 (by omega) (by omega)
   have hp:a0J tab a3p 3 [0,1,2] [.int .i64 (-5),.int .i64 253402300799999,.int .i64 999999999999999999]=some (.sl 1 true (([-5,253402300799999,999999999999999999]:List Int).map inr)):=id rfl
   obtain ⟨n,hn,hg⟩:=a2r ([-5,253402300799999,999999999999999999]:List Int) a a0 a1
   have hi:a0a tab a3p (.sl 1 true (([-5,253402300799999,999999999999999999]:List Int).map inr)) (.int .i64 a)=some (.fptr [.int .i64 n]):=by
    rw [c5t,if_pos a0,c8Q,hg];rfl
   have l3:∀ g,a0c tab g ty3 (.fptr [.int .i64 n])=some (.int .i64 n):=fun g=>id rfl
   simp only [hp,ea,hi,l3,bs,a1i,a7u,a7v,c8D]
   exact set2 Ta (by rw [sa.2 _ hmo];exact q9) _ _ fun g' t q => .some ⟨rfl,t,q⟩
  ·intro _
   exact .some ⟨rfl,T9,q9⟩
  rintro ⟨ex,ds,ga⟩ ⟨rfl,Ta,op,nu,nm,qa⟩
  simp only at Ta qa
  have la:a0c tab ga a0k (.ptr g4.length 0 0)=some (.agg [.int .i64 op,.str nm,.str [],.int .i64 nu,.nils]):=by rw [a8u,a1y qa];rfl
  simp only [a0j,la,bs,c8D]
  exact a2p Ta t1 op nu nm [] (by simp)
 intro hb3
 refine Wp.dif ?_ ?_
 ·intro _
  simp only [b6d,bs,c8D]
  exact a2p T t1 0 0 [] [] (by simp)
 intro h9
 have n0:=nb1 hb1
 have n4:=nb2 hb2
 have n7:=nb3 hb3
 have n2:v≠2:=by simpa using h2
 have n3:v≠3:=by simpa using h3
 have n6:v≠6:=by simpa using h6
 have n9:v≠9:=by simpa using h9
 have t1:t1=1:=by
  rcases ht with ht | ht
  ·have:=vt ht;omega
  ·exact ht
 subst t1
 have w0:IntKind.wrap .i64 ((1:Int) - 1)=0:=rfl
 refine Wp.dif ?_ ?_
 ·intro _
  obtain ⟨⟨x,g2⟩,e2,c2,s2,op,nu,nm,tx,ks,kd,hx,hk,hkl,htx,hkt,hkd⟩:=rec rfl g1 T.st.cd
  simp only at c2 s2 hx
  subst hx
  rw [hkd rfl] at e2
  have T2:=T.same c2 s2
  have hp:a0J tab a0H 1 [0] [.agg [.int .i64 op,.str nm,.str tx,.int .i64 nu,.nils]]=some (.sl 5 true [tfr ⟨op,nm,tx,nu⟩]):=id rfl
  simp only [a0t,w0,bs,e2,hp,b0g 5 (.sl 5 true [tfr ⟨op,nm,tx,nu⟩]) rfl,c8D]
  have hs:SlOf 5 tfr [(⟨op,nm,tx,nu⟩:TF)] (.sl 5 true [tfr ⟨op,nm,tx,nu⟩]):=SlOf.mk 5 tfr [⟨op,nm,tx,nu⟩] true
  refine a8E T2 (row':=[.int .i64 5,.str [],.str [],.int .i64 0,.sl 5 true [tfr ⟨op,nm,tx,nu⟩]]) rfl (fun g' _ _=>?_) (fun d hd=>?_) rfl fun h' c s=>⟨c,s,5,0,[],[],[⟨op,nm,tx,nu⟩],_,rfl,hs,by simp,by simp,fun k hk=>by simp at hk;subst hk;exact htx,fun hh=>by cases hh⟩
  ·rw [b1M]
   simp only [c8L,List.map_nil,a4V,a6G,a3k hs fun t _=>a6Y _ _ _ t]
  ·simp only [c8Y,List.not_mem_nil,or_false] at hd
   rcases hd with rfl | rfl | rfl | rfl | rfl
   ·exact .int _ _
   ·exact .str _
   ·exact .str _
   ·exact .int _ _
   ·exact a1B hs fun t _=>b3a _ t
 intro _
 have ltT:=T.lt
 have T5:TS h o (a1h g1 a0k 5 [tzr]):=⟨T.st.app (by simp [-bind_some, a1h]) fun q hq=>a1R _ _ _ _ (by have:=T.st.le;omega),by rw [a1R _ _ _ _ ltT];exact T.z⟩
 have hm:g1.length≠h.length:=by omega
 have hmo:g1.length≠o:=by omega
 have chg:∀ {g g':Hp},TS h o g→Same g1.length g g'→TS h o g':=fun {g g'} t s=>⟨⟨ho,t.st.cd.keep (s.2 o (Ne.symm hmo)),t.st.gr.trans ⟨Nat.le_of_eq s.1.symm,fun q hq _=>s.2 q (by omega)⟩⟩,by rw [s.2 _ (Ne.symm hm)];exact t.z⟩
 simp only [a6w,show ¬ (2:Int)=0 by omega,if_false,bs,a0l,b3J,hz,c8D]
 refine a8G (kk:=0) (off:=0) (v := .agg [.int .i64 (IntKind.wrap .i64 (6+v.tmod 2)),.str [],.str [],.int .i64 0,.nils]) (a2j g1 a0k 5 [tzr]) (by rfl) (by rfl) (by exact Nat.le_refl _) (by rfl) fun g6 p6 s6=>?_
 generalize hop:IntKind.wrap .i64 (6+v.tmod 2)=op at p6
 have p6:g6[g1.length]?=some (.row a0k 5 [[.int .i64 op,.str [],.str [],.int .i64 0,.nils]]):=p6
 have T6:=chg T5 s6
 obtain ⟨y,g7,e7,T7,s7,y0,y1⟩:=T6.draw 2 (by omega) (by omega)
 have p7:g7[g1.length]?=some (.row a0k 5 [[.int .i64 op,.str [],.str [],.int .i64 0,.nils]]):=by rw [s7.2 _ hmo];exact p6
 have wy:IntKind.wrap .i64 (2+y)=((2+y).toNat:Int):=by rw [wrap_i64 (by omega) (by omega)];omega
 simp only [e7,bs,a0l,wy,c8D]
 refine Wp.loop (fun n ds g=>∃ (c:Nat) (a kd:D) (ks:List TF),ds=[.int .i64 (c:Int),a]∧n=c∧ks.length+c=(2+y).toNat∧TS h o g∧g[g1.length]?=some (.row a0k 5 [[.int .i64 op,.str [],.str [],.int .i64 0,kd]])∧Own g h.length a0k 5 (ks.map tfr) kd∧¬ kd.inOb g1.length∧¬ kd.inOb h.length∧∀ k∈ks,k.tx.length≤1000)
  (fun r=>r.1 = .ext 1∧∃ (kd:D) (rest:List D) (ks:List TF),ks.length≤3∧TS h o r.2.2∧r.2.2[g1.length]?=some (.row a0k 5 [[.int .i64 op,.str [],.str [],.int .i64 0,kd]])∧Own r.2.2 h.length a0k 5 (ks.map tfr) kd∧¬ kd.inOb h.length∧∀ k∈ks,k.tx.length≤1000) (2+y).toNat
  ⟨(2+y).toNat,_,.nils,[],rfl,rfl,by simp,T7,p7,Own.nils _ _ _ _,(fun hh=>by obtain ⟨_,_,hh⟩:=hh;cases hh),(fun hh=>by obtain ⟨_,_,hh⟩:=hh;cases hh),by simp⟩ ?_ ?_
 ·rintro n ds g ⟨c,a,kd,ks,rfl,hn,hks,Tg,pg,ow,nm1,nm2,hkt⟩
  simp only [a9d,a0e,a0h,bs,a1e,c8D]
  refine Wp.dif ?_ ?_
  ·intro h0
   have h0:0<c:=by
    have:(0:Int)<(c:Int):=by simpa using h0
    omega
   have wc:IntKind.wrap .i64 ((c:Int) - 1)=((c - 1:Nat):Int):=by rw [wrap_i64 (by omega) (by omega)];omega
   obtain ⟨⟨x,g2⟩,e2,c2,s2,opk,nu,nm,tx,ks',kd',hx,hk,hkl,htx,hkt',hkd⟩:=rec rfl g Tg.st.cd
   simp only at c2 s2 hx
   subst hx
   rw [hkd rfl] at e2
   have T2:=Tg.same c2 s2
   have lkd:a0c tab g a0H (.ptr g1.length 0 (0+4))=some kd:=by rw [b2d,a1y pg];rfl
   have p2:g2[g1.length]?=some (.row a0k 5 [[.int .i64 op,.str [],.str [],.int .i64 0,kd]]):=by rw [s2.2 _ hmo];exact pg
   have lkd2:a0c tab g2 a0H (.ptr g1.length 0 (0+4))=some kd:=by rw [b2d,a1y p2];rfl
   have ow2:=ow.same s2 (by omega)
   have hp:a0J tab a0H 1 [0] [.agg [.int .i64 opk,.str nm,.str tx,.int .i64 nu,.nils]]=some (.sl 5 true [tfr ⟨opk,nm,tx,nu⟩]):=id rfl
   simp only [a7w,lkd,bs,a0t,w0,e2,hp,c8D]
   refine b7E (n0:=h.length) T2.st.le ow2 (a0O _ _ _ _) (by rw [c8J];simp [-bind_some];omega) fun kd3 g3 o3 l3 b3 k3 in3=>?_
   have lm2:=(c8T.1 p2).1
   have lz2:=T2.lt
   have p3:g3[g1.length]?=some (.row a0k 5 [[.int .i64 op,.str [],.str [],.int .i64 0,kd]]):=by rw [k3 _ lm2 nm1];exact p2
   have T3:TS h o g3:=⟨T2.st.app l3 b3,by rw [k3 _ lz2 nm2];exact T2.z⟩
   have o1:=a2T (a5d o3)
   have nk1:¬ kd3.inOb g1.length:=fun hh=>by
    rcases in3 _ hh with h1 | h1
    ·exact nm1 h1
    ·omega
   have nk2:¬ kd3.inOb h.length:=fun hh=>by
    rcases in3 _ hh with h1 | h1
    ·exact nm2 h1
    ·omega
   simp only [lkd2,a1i,a7w,bs,c8D]
   refine b7I (kk:=0) (off:=0+4) (v:=kd3) p3 (by rfl) (by rw [o1.1];rfl) (by simp) o1.2 fun g8 p8 s8=>?_
   have p8:g8[g1.length]?=some (.row a0k 5 [[.int .i64 op,.str [],.str [],.int .i64 0,kd3]]):=by rw [o1.1] at p8;exact p8
   have o8:Own g8 h.length a0k 5 ((ks++[(⟨opk,nm,tx,nu⟩:TF)]).map tfr) kd3:=by
    rw [c8K]
    exact o3.keep fun q _ hq=>s8.2 q fun hh=>nk1 (hh▸hq)
   simp only [a0t,wc,bs]
   refine .some (.inl ⟨rfl,c - 1,by omega,c - 1,_,kd3,ks++[(⟨opk,nm,tx,nu⟩:TF)],rfl,rfl,by rw [c8I];simp [-bind_some];omega,chg T3 s8,p8,o8,nk1,nk2,fun k hk=>?_⟩)
   rcases c8Z.1 hk with hk | hk
   ·exact hkt k hk
   ·simp at hk;subst hk;exact htx
  ·intro _
   exact .some (.inr ⟨by simp,rfl,kd,[],ks,by omega,Tg,pg,ow,nm2,hkt⟩)
 ·rintro ⟨ex,ds,g⟩ ⟨rfl,kd,rest,ks,hks,Tg,pg,ow,nm2,hkt⟩
  simp only at Tg pg ow
  have la:a0c tab g a0k (.ptr g1.length 0 0)=some (.agg [.int .i64 op,.str [],.str [],.int .i64 0,kd]):=by rw [a8u,a1y pg];rfl
  simp only [a0p,a0j,la,bs,c8D]
  have hfz:∀ g',(∀ q,q≠h.length→g'[q]?=g[q]?)→frz h.length g' 3 kd=frz h.length g 3 kd:=fun g' hq=>by
   rcases ow with ⟨rfl,_⟩ | ⟨ob,hob,rfl,hg⟩
   ·rfl
   ·have hne:ob≠h.length:=fun hh=>nm2 ⟨_,_,by rw [hh]⟩
    rw [a6F hob hg,a6F hob (by rw [hq ob hne];exact hg)]
    congr 1
    rw [List.drop_zero,List.take_of_length_le (by simp)]
    refine List.map_congr_left fun r hr=>?_
    obtain ⟨t,_,rfl⟩:=c9a.1 hr
    rw [a2m (a6Y _ _ _ t),a2m (a6Y _ _ _ t)]
  have hs:=a2B (n0:=h.length) (n:=2) ow (Nat.le_refl _) fun t _=>a6Y _ _ _ t
  refine a8E Tg (row':=[.int .i64 op,.str [],.str [],.int .i64 0,frz h.length g 3 kd]) rfl (fun g' _ hq=>?_) (fun d hd=>?_) rfl fun h' c s=>⟨c,s,op,0,[],[],ks,_,rfl,hs,hks,by simp,hkt,fun hh=>by cases hh⟩
  ·rw [b1M]
   simp only [c8L,List.map_nil,a4V,a6G,hfz g' hq]
  ·simp only [c8Y,List.not_mem_nil,or_false] at hd
   rcases hd with rfl | rfl | rfl | rfl | rfl
   ·exact .int _ _
   ·exact .str _
   ·exact .str _
   ·exact .int _ _
   ·exact a1B hs fun t _=>b3a _ t
theorem b9f {h:Hp} {o:Nat} (hc:CD h o):Wp (R a2w [.ptr o 0 0,.int .i64 1] h) (b3F 1 h o) :=
 b5i hc 1 (.inr rfl) fun _ g cg=>b5i cg 0 (.inl rfl) fun hh=>by cases hh
theorem c0H (t:TF) (g:Hp):a0c tab g a0k (.fptr (tfr t))=some (.agg (tfr t)):=id rfl
theorem b5s {op nu:Int} {nm tx:Str} {ks:List TF} {kd:D} (hk:SlOf 5 tfr ks kd) (hkl:ks.length≤3) (htx:tx.length≤1000) (hkt:∀ k∈ks,k.tx.length≤1000) {e:Ev} (he:a8I e) (g:Hp):∃ b:Bool,R a3r [.agg [.int .i64 op,.str nm,.str tx,.int .i64 nu,kd],.agg (evr e)] g=some (.bool b,g) :=
 c0E tfr ks kd op nu nm tx e g he htx hk (by omega) fun k hkm=>⟨c0H k g,c0E (α:=TF) tfr [] .nils k.op k.nu k.nm k.tx e g he (hkt k hkm) (.nils _ _) (by simp) fun k hk=>by cases hk⟩
structure Scene (a b:List Ev) (key:Str) (w:Int):Prop where
 ea:∀ e∈a,a8I e
 eb:∀ e∈b,a8I e
 pa:PlD a
 la:a.length≤600
 lb:b.length≤600
 k:b3n key
 w0:0≤w
 w1:w<80
theorem c4l (zs:List Int) (d:D) (hd:a3C .u8 zs d) (hz:∀ z∈zs,0≤z∧z<256):∃ (a b:List Ev) (da db:D) (key:Str) (w:Int) (o:Nat) (g:Hp),R a4h [d] []=some (.tup [da,db,.str key,.int .i64 w,.ptr o 0 0],g)∧CD g o∧SlOf 10 evr a da∧SlOf 10 evr b db∧Scene a b key w:=by
 suffices Wp (R a4h [d] []) (fun p=>∃ (a b:List Ev) (da db:D) (key:Str) (w:Int) (o:Nat),p.1 = .tup [da,db,.str key,.int .i64 w,.ptr o 0 0]∧CD p.2 o∧SlOf 10 evr a da∧SlOf 10 evr b db∧Scene a b key w) by
  obtain ⟨⟨x,g⟩,h1,a,b,da,db,key,w,o,rfl,h2⟩:=this
  exact ⟨a,b,da,db,key,w,o,g,h1,h2⟩
 obtain ⟨g0,e0,c0,l0⟩:=d44 zs d 500 [] hd (by omega) (by omega) hz
 obtain ⟨dl,g1,e1,c1,s1,l,hl,hok,hpd,hll⟩:=c5F c0 6 (by omega) (by omega)
 obtain ⟨⟨t1,g2⟩,e2,c2,s2,op,nu,nm,tx,ks,kd,ht1,hk,hkl,htx,hkt,_⟩:=b9f c1
 simp only at c2 s2 ht1
 subst ht1
 obtain ⟨la,da,e3,hda,sa⟩:=c0D [.int .i64 op,.str nm,.str tx,.int .i64 nu,kd] l dl g2 hl (by omega) (fun g=>b5u _ _ _ _ _ _ _) fun e he g=>b5s hk hkl htx hkt (hok.1 e he) g
 obtain ⟨⟨t2,g4⟩,e4,c4,s4,op2,nu2,nm2,tx2,ks2,kd2,ht2,hk2,hkl2,htx2,hkt2,_⟩:=b9f c2
 simp only at c4 s4 ht2
 subst ht2
 obtain ⟨lb,db,e5,hdb,sb⟩:=c0D [.int .i64 op2,.str nm2,.str tx2,.int .i64 nu2,kd2] l dl g4 hl (by omega) (fun g=>b5u _ _ _ _ _ _ _) fun e he g=>b5s hk2 hkl2 htx2 hkt2 (hok.1 e he) g
 obtain ⟨v,g6,e6,c6,s6,v0,v1⟩:=a1D c4 3 (by omega) (by omega)
 rw [c2V]
 simp only [b8L,e0,e1,e2,e3,e4,e5,e6,bs,a0Q,c8D]
 refine Wp.bind (P:=fun (r:Out)=>r.1 = .nrm∧r.2.2=g6∧∃ (a b:List Ev) (da db:D),r.2.1=[da,db]∧SlOf 10 evr a da∧SlOf 10 evr b db∧a.Sublist l∧b.Sublist l) ?_ ?_
 ·refine Wp.dif ?_ ?_
  ·intro _
   exact .some ⟨rfl,rfl,l,l,dl,dl,rfl,hl,hl,.refl _,.refl _⟩
  ·intro _
   exact .some ⟨rfl,rfl,la,lb,da,db,rfl,hda,hdb,sa,sb⟩
 rintro ⟨ex,ds,g⟩ ⟨rfl,hg,a,b,da,db,hds,ha,hb,ua,ub⟩
 simp only at hg hds
 subst hg hds
 have hp:a0J tab a1d 5 [0,1,2,3,4] [.str [64,116,114,97,99,101],.str [117,115,101,114],.str [108,101,118,101,108],.str [64,104,111,115,116],.str [110,111,110,101]]=some (.sl 1 true (([[64,116,114,97,99,101],[117,115,101,114],[108,101,118,101,108],[64,104,111,115,116],[110,111,110,101]]:List Str).map sr)):=id rfl
 have ld:∀ (s:Str) g,a0c tab g ty9 (.fptr [.str s])=some (.str s):=fun s g=>id rfl
 obtain ⟨x,g7,e7,c7,s7,x0,x1⟩:=a1D c6 5 (by omega) (by omega)
 obtain ⟨s,hs,hi⟩:=b0y [[64,116,114,97,99,101],[117,115,101,114],[108,101,118,101,108],[64,104,111,115,116],[110,111,110,101]] x x0 x1
 obtain ⟨w,g8,e8,c8,s8,w0,w1⟩:=a1D c7 80 (by omega) (by omega)
 have hko:b3n s:=(show ∀ s∈([[64,116,114,97,99,101],[117,115,101,114],[108,101,118,101,108],[64,104,111,115,116],[110,111,110,101]]:List Str),b3n s by unfold b3n;decide) s hs
 simp only [a0j,a0e,a0h,hp,e7,hi,ld,e8,bs,a1i,c8D]
 exact .some ⟨a,b,da,db,s,w,_,rfl,c8,ha,hb,fun e he=>hok.1 e (ua.subset he),fun e he=>hok.1 e (ub.subset he),hpd.sublist ua,by have:=ua.length_le;omega,by have:=ub.length_le;omega,hko,w0,w1⟩
theorem a3W {e:Ev} (h:a8I e):JE e:=by
 obtain ⟨hi,h1,h2,h3,h4⟩:=h
 obtain ⟨t0,t9,_⟩:=hi.ev rfl
 exact ⟨by omega,by omega,t0,t9⟩
def RdP (h:Hp) (l:List (Ev × Ev)) (d:D):Prop:=SlOf 20 prE l d∨∃ ob,d = .msl 20 ob 0 l.length∧h[ob]?=some (.row a1s 20 (l.map prE))
theorem RdP.own {h:Hp} {n0:Nat} {l:List (Ev × Ev)} {d:D} (hd:Own h n0 a1s 20 (l.map prE) d):RdP h l d:=by
 rcases hd with ⟨rfl,hl⟩ | ⟨o,_,rfl,ho⟩
 ·exact .inl (.inl ⟨rfl,by simpa using hl⟩)
 ·exact .inr ⟨o,by rw [c8J],ho⟩
theorem b2I {h:Hp} {l:List (Ev × Ev)} {d:D} (hd:RdP h l d) (i:Nat) (p:Ev × Ev) (hp:l[i]?=some p):∃ q qa qb,a0a tab a0S d (.int .i64 (i:Int))=some q∧a0b tab a1s 0 q=some qa∧a0b tab a1s 1 q=some qb∧a0c tab h a0E qa=some (.agg (evr p.1))∧a0c tab h a0E qb=some (.agg (evr p.2)):=by
 have hi:=(c8T.1 hp).1
 rcases hd with hd | ⟨ob,rfl,ho⟩
 ·exact ⟨.fptr (prE p),.fptr (prE p),.fptr (evr p.2),by rw [b6M hd];simp [-bind_some, hp],id rfl,id rfl,id rfl,id rfl⟩
 ·have hr:(l.map prE)[i]?=some (prE p):=by rw [c8Q,hp];rfl
  have hh:(0:Int)≤(i:Int)∧(i:Int)<(l.length:Int):=by omega
  refine ⟨.ptr ob i 0,.ptr ob i (0+0),.ptr ob i (0+10),by rw [b6L];simp [-bind_some, hh],id rfl,id rfl,?_,?_⟩
  ·rw [b2e,a1y ho,hr];rfl
  ·rw [b2e,a1y ho,hr];rfl
theorem a9N (key:Str) (w:Int) (x y:Ev):mtE key w x y=mtE key w y x:=by
 unfold mtE
 cases (a3e x key).2 <;> cases (a3e y key).2 <;> simp only [Bool.true_and,Bool.and_true,Bool.false_and,Bool.and_false]
 have e:decide ((a3e x key).1=(a3e y key).1)=decide ((a3e y key).1=(a3e x key).1):=decide_eq_decide.2 ⟨Eq.symm,Eq.symm⟩
 rw [e,Bool.or_comm (a2f x y),Bool.and_assoc _ (decide (x.a5 - y.a5≤w)),Bool.and_comm (decide (x.a5 - y.a5≤w)),← Bool.and_assoc]
theorem prs_mem {key:Str} {w:Int} {L R:List Ev} {p:Ev × Ev}:p∈prs key w L R↔p.1∈L∧p.2∈R∧mtE key w p.1 p.2=true:=by
 unfold prs
 constructor
 ·intro h
  obtain ⟨x,hx,h⟩:=List.mem_flatMap.1 h
  obtain ⟨y,hy,rfl⟩:=c9a.1 h
  obtain ⟨h1,h2⟩:=List.mem_filter.1 hy
  exact ⟨hx,h1,h2⟩
 ·rintro ⟨h1,h2,h3⟩
  exact List.mem_flatMap.2 ⟨p.1,h1,c9a.2 ⟨p.2,List.mem_filter.2 ⟨h2,h3⟩,rfl⟩⟩
theorem a8p {α β γ:Type} (F:α→List β) (g:α→β→γ):∀ l:List α,(l.flatMap fun x=>(F x).map (g x)).length=(l.flatMap F).length
 | []=>rfl
 | x::l=>by simp only [List.flatMap_cons,c8I,c8J,a8p F g l]
theorem b4C (key:Str) (w:Int) (L R:List Ev):(prs key w L R).length=(prs key w R L).length:=by
 unfold prs
 rw [a8p,a8p,a9Z (mtE key w) R L]
 congr 1
 refine a2l fun y _=>a4O fun x _=>a9N key w x y
theorem b4B {key:Str} {w:Int} {x y:Ev} (h:mtE key w x y=true):a2f x y=true∨a2f y x=true:=by
 unfold mtE at h
 simp only [Bool.and_eq_true,Bool.or_eq_true] at h
 exact h.2
theorem b0R {a b:List Ev} {key:Str} {w:Int} (S:Scene a b key w) {da db:D} (ha:SlOf 10 evr a da) (hb:SlOf 10 evr b db) (g:Hp):∃ (P Q:List (Ev × Ev)) (dp dq:D) (c:Int),R1 a2v [da,db,.str key,.int .i64 w] g=some (.tup [dp,.int .i64 c],g)∧R1 a2v [db,da,.str key,.int .i64 w] g=some (.tup [dq,.int .i64 c],g)∧SlOf 20 prE P dp∧SlOf 20 prE Q dq∧P.length=Q.length∧P.length≤2000∧(∀ p∈P,(p.2,p.1)∈Q)∧∀ p∈P,a2f p.1 p.2=true∨a2f p.2 p.1=true:=by
 have sw:=b4C key w a b
 have la:=S.la
 have lb:=S.lb
 rcases b7J a b da db key w g (.of ha) (.of hb) (by omega) (by omega) (fun e he=>a3W (S.ea e he)) (fun e he=>a3W (S.eb e he)) S.k with ⟨h1,h2⟩ | ⟨h1,dp,h2,h3⟩
 ·rcases b7J b a db da key w g (.of hb) (.of ha) (by omega) (by omega) (fun e he=>a3W (S.eb e he)) (fun e he=>a3W (S.ea e he)) S.k with ⟨k1,k2⟩ | ⟨k1,dq,k2,k3⟩
  ·exact ⟨[],[],.nils,.nils,4,h2,k2,.nils _ _,.nils _ _,rfl,by simp,fun p hp=>(by cases hp),fun p hp=>(by cases hp)⟩
  ·omega
 ·rcases b7J b a db da key w g (.of hb) (.of ha) (by omega) (by omega) (fun e he=>a3W (S.eb e he)) (fun e he=>a3W (S.ea e he)) S.k with ⟨k1,k2⟩ | ⟨k1,dq,k2,k3⟩
  ·omega
  ·exact ⟨_,_,dp,dq,0,h2,k2,h3,k3,sw,h1,fun p hp=>by
     obtain ⟨m1,m2,m3⟩:=prs_mem.1 hp
     exact prs_mem.2 ⟨m2,m1,by rw [a9N];exact m3⟩,fun p hp=>b4B (prs_mem.1 hp).2.2⟩
theorem c3N {P Q:List (Ev × Ev)} {dp dq:D} (hp:SlOf 20 prE P dp) (hq:SlOf 20 prE Q dq) (ds:List D) (i:Nat) (hds:nth 1 ds = .int .i64 (i:Int)) (p:Ev × Ev) (hi:P[i]?=some p) (hQl:Q.length≤2000) (hm:(p.2,p.1)∈Q) (a:D) (g:Hp) {β:Type} {K:Out→Option β} {Z:β→Prop}
  (k:∀ x y,Wp (K (.ext 2,[.bool true,x,y],g)) Z):Wp ((a0z (a6t ds dp dq) [.bool false,.int .i64 0,a] g).bind K) Z:=by
 refine Wp.loop (fun n ds1 g'=>g'=g∧∃ (f:Bool) (j:Nat) (a:D),ds1=[.bool f,.int .i64 (j:Int),a]∧n+j=Q.length∧(∀ u,u<j→Q[u]?=some (p.2,p.1)→f=true))
  (fun r=>r.1 = .ext 2∧r.2.2=g∧∃ x y,r.2.1=[.bool true,x,y]) Q.length ⟨rfl,false,0,_,rfl,by omega,fun u hu=>by omega⟩ ?_ ?_
 ·rintro n ds1 g' ⟨rfl,f,j,a,rfl,hn,hf⟩
  simp only [a6t,a0e,a0h,bs,hds,a4w hq,a0r,c8D]
  refine Wp.dif ?_ ?_
  ·intro h0
   have h0:j<Q.length:=by
    have:(j:Int)<(Q.length:Int):=by simpa using h0
    omega
   have w1:=wi_ j (by omega)
   obtain ⟨q,hj⟩:=gx_ h0
   obtain ⟨x1,xa,xb,i1,i2,i3,i4,i5⟩:=b2I (h:=g') (.inl hp) i p hi
   obtain ⟨y1,ya,yb,j1,j2,j3,j4,j5⟩:=b2I (h:=g') (.inl hq) j q hj
   cases f with
   | true =>
    simp only [a0x,a0Y,a0B,a4W,reduceCtorEq,c8F,if_false,bs,a0n,if_true,a0l,w1,c8D]
    exact .some (.inl ⟨rfl,n - 1,by omega,rfl,true,j+1,_,rfl,by omega,fun _ _ _=>rfl⟩)
   | false =>
    have fin:∀ b:Bool,(q=(p.2,p.1)→b=true)→∀ u,u<j+1→Q[u]?=some (p.2,p.1)→b=true:=fun b hb u hu hQ=>by
     rcases Nat.lt_or_ge u j with h1 | h1
     ·exact absurd (hf u h1 hQ) (by simp)
     ·have:u=j:=by omega
      subst this
      rw [hj] at hQ
      injection hQ with hQ
      exact hb hQ
    simp only [a0x,a0B,if_true,bs,i1,i2,i4,j1,j3,j5,c0q,s61,c8D]
    cases h1:a3a p.1 q.2 with
    | false =>
     simp only [a0x,a0Y,a0B,a4W,reduceCtorEq,c8E,if_false,if_true,bs,a0n,a0l,w1,c8D]
     exact .some (.inl ⟨rfl,n - 1,by omega,rfl,false,j+1,_,rfl,by omega,fin false fun hh=>by subst hh;rw [a5S] at h1;cases h1⟩)
    | true =>
     simp only [a0x,a0B,if_true,bs,i1,i3,i5,j1,j2,j4,c0q,s61,a0n,c8E,if_false,a0l,w1,c8D]
     exact .some (.inl ⟨rfl,n - 1,by omega,rfl,_,j+1,_,rfl,by omega,fin _ fun hh=>by subst hh;exact a5S _⟩)
  ·intro h0
   have h0:Q.length≤j:=by
    have:¬ (j:Int)<(Q.length:Int):=by simpa using h0
    omega
   obtain ⟨u,hu⟩:=List.mem_iff_getElem?.1 hm
   have hul:=(c8T.1 hu).1
   have:=hf u (by omega) hu
   subst this
   exact .some (.inr ⟨by simp,rfl,rfl,_,_,rfl⟩)
 ·rintro ⟨ex,ds1,g'⟩ ⟨rfl,rfl,x,y,rfl⟩
  exact k x y
theorem b6T (zs:List Int) (d:D) (hd:a3C .u8 zs d) (hz:∀ z∈zs,0≤z∧z<256):∃ h',R1 b1G [d] []=some (.bool true,h'):=by
 suffices Wp (R1 b1G [d] []) (fun p=>p.1 = .bool true) by
  obtain ⟨⟨x,h'⟩,h1,rfl⟩:=this
  exact ⟨h',h1⟩
 obtain ⟨a,b,da,db,key,w,o,g,e0,c0,ha,hb,S⟩:=c4l zs d hd hz
 obtain ⟨P,Q,dp,dq,c,e1,e2,hp,hq,hPQ,hPl,hsw,hls⟩:=b0R S ha hb g
 rw [c2U]
 simp only [b8K,bs,b7h,c4g,a1f,c8N,a0d,c8E,if_false,b7k,e0,a0I,c8G,c8H,e1,e2,a4t,ne_eq,not_true,decide_false,a0x,if_true,a4w hp,a4w hq,hPQ,a0n,c8D]
 refine Wp.loop (fun n ds g'=>g'=g∧∃ (i:Nat) (a b c d e:D),ds=[.bool false,.int .i64 (i:Int),a,b,c,d,e]∧n+i=P.length) (fun r=>r.1 = .ext 0) P.length ⟨rfl,0,_,_,_,_,_,rfl,by omega⟩ ?_ ?_
 ·rintro n ds g' ⟨rfl,i,a,b,c,d,e,rfl,hn⟩
  simp only [a9b,a0e,a0h,bs,a4w hp,a0r,c8D]
  refine Wp.dif ?_ ?_
  ·intro h0
   have h0:i<P.length:=by
    have:(i:Int)<(P.length:Int):=by simpa using h0
    omega
   have w1:=wi_ i (by omega)
   obtain ⟨p,hi⟩:=gx_ h0
   have hpm:=c8R hi
   obtain ⟨x1,xa,xb,i1,i2,i3,i4,i5⟩:=b2I (h:=g') (.inl hp) i p hi
   refine c3N hp hq _ i rfl p hi (by omega) (hsw p hpm) _ g' fun x y=>?_
   simp only [a0p,a0j,a0e,a0h,bs,a1f,c8N,a0x,a0B,if_true,i1,i2,i3,i4,i5,c0r,s85,c8D]
   rcases hls p hpm with hl | hl
   ·simp only [hl,c8N,a0x,a0Y,a0B,a4W,reduceCtorEq,c8E,if_false,if_true,bs,a0n,a0d,a0l,w1,c8D]
    exact .some (.inl ⟨rfl,n - 1,by omega,rfl,i+1,_,_,_,_,_,rfl,by omega⟩)
   ·cases hl2:a2f p.1 p.2 with
    | true =>
     simp only [c8N,a0x,a0Y,a0B,a4W,reduceCtorEq,c8E,if_false,if_true,bs,a0n,a0d,a0l,w1,c8D]
     exact .some (.inl ⟨rfl,n - 1,by omega,rfl,i+1,_,_,_,_,_,rfl,by omega⟩)
    | false =>
     simp only [c8O,a0x,a0B,if_true,bs,i1,i2,i3,i4,i5,c0r,s85,hl,a1f,c8N,a0n,c8E,if_false,a0d,a0l,w1,c8D]
     exact .some (.inl ⟨rfl,n - 1,by omega,rfl,i+1,_,_,_,_,_,rfl,by omega⟩)
  ·intro _
   exact .some (.inr ⟨by simp,rfl⟩)
 ·rintro ⟨ex,ds,g'⟩ rfl
  simp only [a0p,a0j,bs,a0s]
  exact .some rfl
end Go.Proofs.YtkpnnfhodlanjaaGreatDoor
