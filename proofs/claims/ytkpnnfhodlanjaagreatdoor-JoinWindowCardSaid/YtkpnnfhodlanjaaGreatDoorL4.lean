/- Laws, on plain data, about functions that the statement reaches. -/
import Derived.Test.YtkpnnfhodlanjaaGreatDoorL3
set_option linter.unusedSimpArgs false
set_option linter.unusedVariables false
set_option linter.unnecessarySimpa false
set_option maxRecDepth 100000
namespace Go.Proofs.YtkpnnfhodlanjaaGreatDoor
open Go.Eng Go.Pi
open Option (bind_some)
theorem b2L (n:Int) (h:Hp) (h0:0≤n) (h9:n≤1000000000000000000):∃ s:Str,R a4h [.int .i64 n] h=some (.str s,h):=by
 suffices Wp (R a4h [.int .i64 n] h) (fun p=>p.2=h∧∃ s:Str,p.1 = .str s) by
  obtain ⟨⟨x,h'⟩,h1,rfl,s,rfl⟩:=this
  exact ⟨s,h1⟩
 have d0:decide (n<0)=false:=decide_eq_false (by omega)
 have w1:IntKind.wrap .u64 n=n:=a1x h0 (by omega)
 rw [b9r]
 simp only [b5S,bs,c8E,a9l,w1,a0s,d0,a0d,c8F,if_false,a0j,a0e]
 refine Wp.loop (fun k ds g=>∃ (u:Int) (x a:D) (w:List Int),ds=[.int .u64 u,x,a]∧0≤u∧u≤1000000000000000000∧u<(10:Int) ^ k∧w.length+k=19∧RdB g w x∧Keep h g)
  (fun r=>r.1 = .ext 0∧∃ (u x a:D) (w:List Int),r.2.1=[u,x,a]∧RdB r.2.2 w x∧Keep h r.2.2) 19 ⟨n,_,_,[],rfl,h0,h9,by omega,rfl,.inl (.nils _ _),.refl _⟩ ?_ ?_
 ·rintro k ds g ⟨u,x,a,w,rfl,u0,u9,hu,hk,hx,kp⟩
  have r1:Int.tmod u 10=u % 10:=Int.tmod_eq_emod_of_nonneg u0
  have q1:Int.tdiv u 10=u / 10:=Int.tdiv_eq_ediv_of_nonneg u0
  have w2:IntKind.wrap .u64 (48+u % 10)=48+u % 10:=a1x (by omega) (by omega)
  have w3:IntKind.wrap .u8 (48+u % 10)=48+u % 10:=by rw [a4B];omega
  have w4:IntKind.wrap .u64 (u / 10)=u / 10:=a1x (by omega) (by omega)
  obtain ⟨x',g',e1,hx',kp'⟩:=b3F (48+u % 10) hx (by omega)
  simp only [a5S,a0e,a0h,bs,a6s,show ¬ (10:Int)=0 by omega,if_false,r1,a0m,w2,a4u,w3,b5g,e1,a1C,q1,w4,a0P,c8E]
  refine Wp.dif ?_ ?_
  ·intro _
   exact .some (.inr ⟨by simp,rfl,_,_,_,_,rfl,hx',kp.trans kp'⟩)
  ·intro hz
   have hz:¬ u / 10=0:=by simpa using hz
   cases k with
   | zero=>simp at hu;omega
   | succ k =>
    rw [Int.pow_succ] at hu
    generalize hP:(10:Int) ^ k=P at hu
    refine .some (.inl ⟨rfl,k,Nat.lt_succ_self _,u / 10,_,_,(48+u % 10)::w,rfl,by omega,by omega,?_,by rw [c8V];omega,hx',kp.trans kp'⟩)
    rw [hP];omega
 ·rintro ⟨ex,ds,g⟩ ⟨rfl,u,x,a,w,rfl,hx,kp⟩
  simp only at hx kp
  have ts:a3r g x=some (.str (bys w)):=by simp only [a3r,a6P hx,a4I]
  have hsc:scope h g (.str (bys w))=some (.str (bys w),h):=a1n (by simp) (.str _) kp.1 kp.2
  simp only [a0p,a0j,a0e,a0h,bs,a0s,d0,a0d,c8F,if_false,ts,a0q,hsc,c8E]
  exact .some ⟨rfl,_,rfl⟩
theorem c4c (c:Int) (h:Hp):∃ b:Bool,R b1r [.int .u8 c] h=some (.bool b,h):=by
 rw [c2q]
 simp only [b8k,a0S,a0X,bs]
 cases h1:decide ((48:Int)≤c) <;> cases h2:decide (c≤(57:Int)) <;>
  simp only [h1,h2,a0y,a0Y,reduceCtorEq,c8F,if_false,if_true,bs,a0n,a0X,a0q] <;> exact ⟨_,rfl⟩
theorem c4b (s:Str) (h:Hp):∃ (v:Int) (b:Bool),R a9w [.str s] h=some (.tup [.int .i64 v,.bool b],h):=by
 suffices Wp (R a9w [.str s] h) (fun p=>p.2=h∧∃ (v:Int) (b:Bool),p.1 = .tup [.int .i64 v,.bool b]) by
  obtain ⟨⟨x,h'⟩,h1,rfl,v,b,rfl⟩:=this
  exact ⟨v,b,h1⟩
 rw [c2p]
 cases s with
 | nil =>
  have d0:decide ((0:Int)<(([]:Str).length:Int))=false:=rfl
  have d1:decide ((([]:Str).length:Int)<1)=true:=rfl
  simp only [b5T,bs,b2f,a1e,d0,a0y,a0Y,reduceCtorEq,c8F,c8G,if_false,if_true,a0n,a0d,a0j,a0e,a0s,d1,a0F,c8E]
  exact .some ⟨rfl,_,_,rfl⟩
 | cons c r =>
  have d0:decide ((0:Int)<((c::r:Str).length:Int))=true:=decide_eq_true (by rw [c8V];omega)
  have hi:a2K tab ty9 (.str (c::r)) (.int .i64 0)=some (.int .u8 c.toNat):=c4q (c::r) 0 c rfl
  have hd:a0E tab ty9 true false false [.str (c::r),.int .i64 1]=some (.str r):=by
   have h2:tab ty9=some ti9:=id rfl
   have h3:ti9.td = .str:=id rfl
   have h4:(1:Int)≤((c::r:Str).length:Int):=by rw [c8V];omega
   simp only [a0E,a1W,bs,a1A,h2,h3]
   simp [-bind_some]
   omega
  simp only [b5T,bs,b2f,a1e,d0,a0y,if_true,hi,a0P,a0n,c8E]
  refine Wp.join (P:=fun (r:Out)=>r.1 = .nrm∧r.2.2=h∧∃ d:Str,r.2.1=[.str d]) ?_ ?_ ?_
  ·intro _
   simp only [hd,bs]
   exact .some ⟨rfl,rfl,r,rfl⟩
  ·intro _
   exact .some ⟨rfl,rfl,_,rfl⟩
  ·rintro ⟨ex,ds,g⟩ ⟨rfl,hg,d,hds⟩
   simp only at hds hg
   subst hds hg
   have hc:∀ {γ:Type} (F:D→Option γ),((gd (.bool (decide ((d.length:Int)<1))) false (some (.str d))).bind fun t22=>(gd (.bool (decide ((d.length:Int)<1))) false (a0B tab ty9 t22)).bind fun t23=>(gd (.bool (decide ((d.length:Int)<1))) false (a0f tab .gtr ty3 t23 (.int .i64 18))).bind fun t24=>(a0K (.bool (decide ((d.length:Int)<1))) (.bool true) t24).bind F)=F (.bool (decide ((d.length:Int)<1)||decide ((18:Int)<(d.length:Int)))):=fun F=>by
    cases decide ((d.length:Int)<1) <;> simp [-bind_some, b2f]
   simp only [a0j,a0e,b2f,a0s,bs,hc,c8E]
   refine Wp.dif ?_ ?_
   ·intro _
    simp only [a0F]
    exact .some ⟨rfl,_,_,rfl⟩
   ·intro hl
    have hl:d.length≤18:=by
     have h2:¬ ((18:Int)<(d.length:Int)):=by
      intro hh
      have:decide ((18:Int)<(d.length:Int))=true:=decide_eq_true hh
      rw [this] at hl
      simp at hl
     omega
    refine Wp.loop (fun k ds g'=>g'=g∧∃ (v:Int) (i:Nat) (a b:D),ds=[.int .i64 0,.bool false,.int .i64 v,.int .i64 (i:Int),a,b]∧k+i=d.length)
     (fun r=>r.2.2=g∧((r.1 = .ext 0∧∃ (v:Int) (rest:List D),r.2.1 = .int .i64 0 :: .bool false :: .int .i64 v::rest)∨(r.1 = .ret∧∃ rest,r.2.1 = .int .i64 0 :: .bool false::rest))) d.length ⟨rfl,0,0,_,_,rfl,by omega⟩ ?_ ?_
    ·rintro k ds g' ⟨rfl,v,i,a,b,rfl,hk⟩
     simp only [a8I,a0e,a0h,bs,b2f,a0s,c8E]
     refine Wp.dif ?_ ?_
     ·intro h0
      have h0:i<d.length:=by
       have:(i:Int)<(d.length:Int):=by simpa using h0
       omega
      have w1:=wi_ i (by omega)
      obtain ⟨u,hu⟩:=gx_ h0
      obtain ⟨b1,eb⟩:=c4c (u.toNat:Int) g'
      simp only [c4q d i u hu,bs,eb,a1f,c8E]
      refine Wp.dif ?_ ?_
      ·intro _
       exact .some (.inr ⟨by simp,rfl,.inr ⟨rfl,_,rfl⟩⟩)
      ·intro _
       simp only [a2h,a0t,bs,b6j,a0m,w1,c8E]
       exact .some (.inl ⟨rfl,k - 1,by omega,rfl,_,i+1,_,_,rfl,by omega⟩)
     ·intro _
      exact .some (.inr ⟨by simp,rfl,.inl ⟨rfl,_,_,rfl⟩⟩)
    ·rintro ⟨ex,ds,g'⟩ ⟨rfl,⟨rfl,v,rest,rfl⟩ | ⟨rfl,rest,rfl⟩⟩
     ·simp only [a0p,a0j,a0e,a0h,b2f,a0s,bs,c8E]
      refine Wp.join (P:=fun (r:Out)=>r.1 = .nrm∧r.2.2=g'∧∃ v:Int,r.2.1=[.int .i64 v]) ?_ ?_ ?_
      ·intro _
       simp only [b6o,bs]
       exact .some ⟨rfl,rfl,_,rfl⟩
      ·intro _
       exact .some ⟨rfl,rfl,_,rfl⟩
      ·rintro ⟨ex,ds,g2⟩ ⟨rfl,hg,v,hds⟩
       simp only at hds hg
       subst hds hg
       simp only [a0j,a0e,bs,a0F]
       exact .some ⟨rfl,_,_,rfl⟩
     ·simp only [a0U,a1o,a1j,a0e,a0h,bs,a0F]
      exact .some ⟨rfl,_,_,rfl⟩
theorem b5L (e:Ev) (nm:Str) (h:Hp) (he:a8F e):∃ (s:Str) (b:Bool),R a5A [.agg (evr e),.str nm] h=some (.tup [.str s,.bool b],h):=by
 obtain ⟨hi,h1,h2,h3,h4⟩:=he
 obtain ⟨t0,t9,v0,v9,_⟩:=hi.ev rfl
 by_cases hn:b3l nm
 ·exact ⟨_,_,c3X e nm h (by omega) (by omega) hn⟩
 ·have f1:a0b tab a0D 1 (.fptr (evr e))=some (.fptr (evr e).tail):=id rfl
  have f5:a0b tab a0D 5 (.fptr (evr e))=some (.fptr ((evr e).drop 5)):=id rfl
  have f6:a0b tab a0D 6 (.fptr (evr e))=some (.fptr ((evr e).drop 6)):=id rfl
  have l1:a0c tab h ty3 (.fptr (evr e).tail)=some (.int .i64 e.a1):=id rfl
  have l5:a0c tab h ty3 (.fptr ((evr e).drop 5))=some (.int .i64 e.a5):=id rfl
  have l6:a0c tab h ty3 (.fptr ((evr e).drop 6))=some (.int .i64 e.a6):=id rfl
  have v0:1≤e.a6:=v0
  have v9:e.a6≤5040:=v9
  have t0:0≤e.a5:=t0
  have t9:e.a5≤253402300799999:=t9
  obtain ⟨s1,d1⟩:=b2L e.a1 h (by omega) (by omega)
  obtain ⟨s5,d5⟩:=b2L e.a5 h (by omega) (by omega)
  obtain ⟨s6,d6⟩:=b2L e.a6 h (by omega) (by omega)
  have hcases:nm=[64,102,105,108,101]∨nm=[64,116,105,109,101]∨nm=[64,119,101,105,103,104,116]:=by
   unfold b3l at hn
   by_cases c1:nm=[64,102,105,108,101]
   ·exact .inl c1
   ·by_cases c2:nm=[64,116,105,109,101]
    ·exact .inr (.inl c2)
    ·by_cases c3:nm=[64,119,101,105,103,104,116]
     ·exact .inr (.inr c3)
     ·exact absurd ⟨c1,c2,c3⟩ hn
  rw [b9q]
  rcases hcases with rfl | rfl | rfl
  ·refine ⟨s1,true,?_⟩
   have n1:(([64,102,105,108,101]:Str)==[64,104,111,115,116])=false:=rfl
   have n2:(([64,102,105,108,101]:Str)==[64,102,105,108,101])=true:=rfl
   simp only [b0D,a1m,bs,a1L,n1,n2,a0d,c8F,if_false,if_true,f1,l1,d1,a0F]
  ·refine ⟨s5,true,?_⟩
   have n1:(([64,116,105,109,101]:Str)==[64,104,111,115,116])=false:=rfl
   have n2:(([64,116,105,109,101]:Str)==[64,102,105,108,101])=false:=rfl
   have n3:(([64,116,105,109,101]:Str)==[64,116,105,109,101])=true:=rfl
   simp only [b0D,a1m,bs,a1L,n1,n2,n3,a0d,c8F,if_false,if_true,f5,l5,d5,a0F]
  ·refine ⟨s6,true,?_⟩
   have n1:(([64,119,101,105,103,104,116]:Str)==[64,104,111,115,116])=false:=rfl
   have n2:(([64,119,101,105,103,104,116]:Str)==[64,102,105,108,101])=false:=rfl
   have n3:(([64,119,101,105,103,104,116]:Str)==[64,116,105,109,101])=false:=rfl
   have n4:(([64,119,101,105,103,104,116]:Str)==[64,119,101,105,103,104,116])=true:=rfl
   simp only [b0D,a1m,bs,a1L,n1,n2,n3,n4,a0d,c8F,if_false,if_true,f6,l6,d6,a0F]
theorem c0A (e:Ev) (nm:Str) (h:Hp) (he:a8F e):∃ (v:Int) (b:Bool),R b1p [.agg (evr e),.str nm] h=some (.tup [.int .i64 v,.bool b],h):=by
 obtain ⟨s,b,e1⟩:=b5L e nm h he
 obtain ⟨v,c,e2⟩:=c4b s h
 have hL:a0c tab h a0D (.fptr (evr e))=some (.agg (evr e)):=id rfl
 have e3:R b1q [.str s] h=some (.tup [.int .i64 v,.bool c],h):=by
  rw [c2n]
  simp only [b8i,e2,bs,a0G,c8H,c8I,a0F]
 rw [c2l]
 simp only [b8g,a1m,bs,hL,e1,a0G,c8H,c8I,a1f]
 cases b with
 | true =>
  simp only [c8O,a0d,c8F,if_false,e3,bs,a0G,c8H,c8I,a0F]
  exact ⟨_,_,rfl⟩
 | false =>
  simp only [c8P,a0d,if_true,a0F]
  exact ⟨_,_,rfl⟩
theorem a7j:∀ (ls:List Lin) (a b:Int),chain a ls b→∀ l∈ls,l.txt.length≤35
 | [],_,_,_,l,hl=>by cases hl
 | x::r,a,b,h,l,hl=>by
  rcases c8Z.1 hl with rfl | hl
  ·have h1:=h.2.2.1
   have h2:=h.2.2.2.1
   omega
  ·exact a7j r _ _ h.2.2.2.2 l hl
theorem b9z {e:Ev} (he:a8F e) (h:Hp):∃ s:Str,R a5z [.agg (evr e)] h=some (.str s,h)∧s.length≤1000:=by
 have hc:=a7j _ _ _ he.1.ch
 have n3:e.ls.length≤3:=he.1.n3
 suffices Wp (R a5z [.agg (evr e)] h) (fun p=>p.2=h∧∃ s:Str,p.1 = .str s∧s.length≤1000) by
  obtain ⟨⟨x,h'⟩,h1,rfl,s,rfl,h2⟩:=this
  exact ⟨s,h1,h2⟩
 have q4:a0b tab a0D 4 (.fptr (evr e))=some (.fptr [e.ld,.int .i64 e.a5,.int .i64 e.a6,.str e.s7,.str e.s8,e.fd]):=id rfl
 rw [c2j]
 simp only [b8e,a1m,bs,c8E]
 refine Wp.loop (fun k ds g=>g=h∧∃ (s:Str) (i:Nat) (a b:D),ds=[.str s,.int .i64 (i:Int),a,b]∧k+i=e.ls.length∧s.length≤100*i)
  (fun x=>x.2.2=h∧x.1 = .ext 0∧∃ (s:Str) (rest:List D),x.2.1 = .str s::rest∧s.length≤1000) e.ls.length ⟨rfl,[],0,_,_,rfl,by omega,by simp⟩ ?_ ?_
 ·rintro k ds g ⟨rfl,s,i,a,b,rfl,hk,hs⟩
  simp only [a8G,a0e,a0h,bs,c8E,q4,c5t,a9K e.hld,a0s]
  refine Wp.dif ?_ ?_
  ·intro h0
   have h0:i<e.ls.length:=dl_ h0
   obtain ⟨x,hx⟩:=gx_ h0
   have hxl:=hc x (c8S hx)
   have hw:=wi_ i (by omega)
   have hi:a0a tab a3p e.ld (.int .i64 (i:Int))=some (.fptr (a3T x)):=by rw [b6P e.hld];simp [-bind_some, hx]
   have hf:a0b tab a7a 2 (.fptr (a3T x))=some (.fptr [.str x.txt]):=id rfl
   simp only [a1e,bs]
   refine Wp.join (P:=fun (r:Out)=>r.1 = .nrm∧r.2.2=g∧∃ s:Str,r.2.1=[.str s]∧s.length≤100*i+1) ?_ ?_ ?_
   ·intro _
    rw [a3G _ _ _ _ (by simp;omega)]
    exact .some ⟨rfl,rfl,_,rfl,by simp;omega⟩
   ·intro _
    exact .some ⟨rfl,rfl,_,rfl,by omega⟩
   ·rintro ⟨ex,ds1,g1⟩ ⟨rfl,hg,s',hds,hs'⟩
    simp only at hg hds
    subst hg hds
    simp only [a0j,a0e,q4,bs,c5t,hi,hf,ld9]
    rw [a3G _ _ _ _ (by omega)]
    simp only [bs,a0m,hw]
    exact .some (.inl ⟨rfl,k - 1,by omega,rfl,_,i+1,_,_,rfl,by omega,by rw [c8J];omega⟩)
  ·intro _
   exact .some (.inr ⟨by simp,rfl,rfl,s,_,rfl,by omega⟩)
 ·rintro ⟨ex,ds,g⟩ ⟨rfl,rfl,s,rest,rfl,hs⟩
  simp only [a0p,a0j,a0e,bs,a0q]
  exact .some ⟨rfl,s,rfl,hs⟩
theorem c0G {α:Type} (kr:α→List D) (ks:List α) (kd:D) (op nu:Int) (nm tx:Str) (e:Ev) (h:Hp) (he:a8F e) (htx:tx.length≤1000) (hk:SlOf 5 kr ks kd) (hkl:ks.length≤1000)
  (hr:∀ k∈ks,a0c tab h a0k (.fptr (kr k))=some (.agg (kr k))∧∃ b:Bool,R a3s [.agg (kr k),.agg (evr e)] h=some (.bool b,h)) :
  ∃ b:Bool,R a3s [.agg [.int .i64 op,.str nm,.str tx,.int .i64 nu,kd],.agg (evr e)] h=some (.bool b,h):=by
 suffices Wp (R a3s [.agg [.int .i64 op,.str nm,.str tx,.int .i64 nu,kd],.agg (evr e)] h) (fun p=>p.2=h∧∃ b:Bool,p.1 = .bool b) by
  obtain ⟨⟨x,h'⟩,h1,rfl,b,rfl⟩:=this
  exact ⟨b,h1⟩
 have hL:a0c tab h a0D (.fptr (evr e))=some (.agg (evr e)):=id rfl
 obtain ⟨tx0,et,lt⟩:=b9z he h
 obtain ⟨ws,wd,ew,hw,lw⟩:=c4l tx0 h (by omega)
 obtain ⟨i1,b1,x1,_⟩:=c0H ws wd tx h hw (by omega)
 obtain ⟨b2,x2⟩:=c4m ws wd tx h hw (by omega)
 obtain ⟨b3,x3⟩:=c4n tx0 tx h (by omega) (by omega)
 obtain ⟨v4,b4,x4⟩:=b5L e nm h he
 obtain ⟨v5,b5,x5⟩:=c0A e nm h he
 have lkd:∀ g,a0c tab g a0H (.fptr [kd])=some kd:=fun g=>c0b _ _ _
 have l3:∀ (n:Int) (cs:List D) g,a0c tab g ty3 (.fptr (.int .i64 n::cs))=some (.int .i64 n):=fun n cs g=>id rfl
 have l9:∀ (s:Str) (cs:List D) g,a0c tab g ty9 (.fptr (.str s::cs))=some (.str s):=fun n cs g=>id rfl
 have f0:a0b tab a0k 0 (.fptr [.int .i64 op,.str nm,.str tx,.int .i64 nu,kd])=some (.fptr [.int .i64 op,.str nm,.str tx,.int .i64 nu,kd]):=id rfl
 have f1:a0b tab a0k 1 (.fptr [.int .i64 op,.str nm,.str tx,.int .i64 nu,kd])=some (.fptr [.str nm,.str tx,.int .i64 nu,kd]):=id rfl
 have f2:a0b tab a0k 2 (.fptr [.int .i64 op,.str nm,.str tx,.int .i64 nu,kd])=some (.fptr [.str tx,.int .i64 nu,kd]):=id rfl
 have f3:a0b tab a0k 3 (.fptr [.int .i64 op,.str nm,.str tx,.int .i64 nu,kd])=some (.fptr [.int .i64 nu,kd]):=id rfl
 have f4:a0b tab a0k 4 (.fptr [.int .i64 op,.str nm,.str tx,.int .i64 nu,kd])=some (.fptr [kd]):=id rfl
 rw [c2Z]
 simp only [b8T,a1m,bs,f0,l3,a0P,c8E]
 refine Wp.dif ?_ ?_
 ·intro _
  simp only [hL,bs,et,ew,f2,l9,x1,a0G,c8H,c8I,a1k,a0q,c8E]
  exact .some ⟨rfl,_,rfl⟩
 intro _
 refine Wp.dif ?_ ?_
 ·intro _
  simp only [hL,bs,et,ew,f2,l9,x2,a1k,a0q,c8E]
  exact .some ⟨rfl,_,rfl⟩
 intro _
 refine Wp.dif ?_ ?_
 ·intro _
  simp only [hL,bs,et,f2,l9,x3,a1k,a0q,c8E]
  exact .some ⟨rfl,_,rfl⟩
 intro _
 refine Wp.dif ?_ ?_
 ·intro _
  simp only [hL,bs,f1,l9,x4,a0G,c8H,c8I,c8E]
  cases b4 <;> simp only [a0y,a0Y,reduceCtorEq,c8F,if_false,if_true,bs,f2,l9,a1L,a0n,a0q,c8E] <;> exact .some ⟨rfl,_,rfl⟩
 intro _
 refine Wp.dif ?_ ?_
 ·intro _
  simp only [hL,bs,f1,l9,x4,a0G,c8H,c8I,a0q,c8E]
  exact .some ⟨rfl,_,rfl⟩
 intro _
 refine Wp.bind (P:=fun (r:Out)=>r.1 = .nrm∧r.2.2=h∧∃ b:Bool,r.2.1=[.bool b]) ?_ ?_
 ·refine Wp.dif (fun _ => .some ⟨rfl,rfl,_,rfl⟩) fun _=>?_
  refine Wp.bind (P:=fun (r:Out)=>r.1 = .nrm∧r.2.2=h∧∃ b:Bool,r.2.1=[.bool b]) ?_ ?_
  ·exact Wp.dif (fun _ => .some ⟨rfl,rfl,_,rfl⟩) fun _ => .some ⟨rfl,rfl,_,rfl⟩
  ·rintro ⟨ex,ds,g⟩ ⟨rfl,hg,b,hds⟩
   simp only at hg hds
   subst hg hds
   exact .some ⟨rfl,rfl,b,rfl⟩
 rintro ⟨ex,ds,g⟩ ⟨rfl,hg,b,hds⟩
 simp only at hg hds
 subst hg hds
 simp only [a0j,a0e]
 refine Wp.dif ?_ ?_
 ·intro _
  simp only [hL,bs,f1,l9,x5,a0G,c8H,c8I,c8E]
  cases b5 with
  | false =>
   simp only [a0y,a0Y,reduceCtorEq,c8F,if_false,if_true,bs,a0n,a0q,c8E]
   exact .some ⟨rfl,_,rfl⟩
  | true =>
   cases c1:decide (op=9) <;> cases c2:decide (v5<nu) <;> cases c3:decide (op=10) <;> cases c4:decide (nu<v5) <;> cases c5:decide (op=11) <;>
    simp only [c1,c2,c3,c4,c5,a0y,a0Y,reduceCtorEq,c8F,c8G,if_false,if_true,bs,f0,f3,l3,a0P,a0s,a1e,a0n,a0q,c8E] <;> exact .some ⟨rfl,_,rfl⟩
 intro _
 refine Wp.dif ?_ ?_
 ·intro _
  simp only [bs,f4,lkd,a6J hk,a0P,c8E]
  by_cases h1:ks.length=1
  ·have d1:decide ((ks.length:Int)=1)=true:=decide_eq_true (by omega)
   obtain ⟨k,hk0⟩:∃ k,ks[0]?=some k:=⟨_,c8T (by omega)⟩
   obtain ⟨k1,bk,k2⟩:=hr k (c8S hk0)
   have hi:a0a tab a0H kd (.int .i64 0)=some (.fptr (kr k)):=by rw [b1W hk];simp [-bind_some, hk0]
   simp only [d1,a0y,a0I,if_true,bs,f4,lkd,hi,k1,hL,k2,a1f,a0n,a0q,c8E]
   exact .some ⟨rfl,_,rfl⟩
  ·have d1:decide ((ks.length:Int)=1)=false:=decide_eq_false (by omega)
   simp only [d1,a0y,a0I,a0Y,reduceCtorEq,c8F,if_false,bs,a0n,a0q,c8E]
   exact .some ⟨rfl,_,rfl⟩
 intro _
 have ixk:∀ (i:Nat) k,ks[i]?=some k→a0a tab a0H kd (.int .i64 (i:Int))=some (.fptr (kr k)):=fun i k hi=>by rw [b1W hk];simp [-bind_some, hi]
 refine Wp.bind (P:=fun (r:Out)=>r.2.2=g∧((r.1 = .nrm)∨(r.1 = .ret∧∃ b:Bool,nth 0 r.2.1 = .bool b))) ?_ ?_
 ·refine Wp.dif ?_ ?_
  ·intro _
   refine Wp.loop (fun n ds g'=>g'=g∧∃ (i:Nat) (a b:D),ds=[.bool false,.int .i64 (i:Int),a,b]∧n+i=ks.length)
    (fun r=>r.2.2=g∧∃ (b:Bool) (x y z:D),r.2.1=[.bool b,x,y,z]∧(r.1 = .ext 1∨r.1 = .ret)) ks.length ⟨rfl,0,_,_,rfl,by omega⟩ ?_ ?_
   ·rintro n ds g' ⟨rfl,i,a,b,rfl,hn⟩
    simp only [a9c,a0e,a0h,bs,f4,lkd,a6J hk,a0s,c8E]
    refine Wp.dif ?_ ?_
    ·intro h0
     have h0:i<ks.length:=by
      have:(i:Int)<(ks.length:Int):=by simpa using h0
      omega
     have w1:=wi_ i (by omega)
     obtain ⟨k,hk0⟩:=gx_ h0
     obtain ⟨k1,bk,k2⟩:=hr k (c8S hk0)
     simp only [ixk i k hk0,bs,k1,hL,k2,a1f,c8E]
     refine Wp.dif ?_ ?_
     ·intro _
      exact .some (.inr ⟨by simp,rfl,_,_,_,_,rfl,.inr rfl⟩)
     ·intro _
      simp only [a0m,w1,bs]
      exact .some (.inl ⟨rfl,n - 1,by omega,rfl,i+1,_,_,rfl,by omega⟩)
    ·intro _
     exact .some (.inr ⟨by simp,rfl,_,_,_,_,rfl,.inl rfl⟩)
   ·rintro ⟨ex,ds,g'⟩ ⟨rfl,b,x,y,z,rfl,rfl | rfl⟩
    ·simp only [a0p,a0e,a0h,bs]
     exact .some ⟨rfl,.inl rfl⟩
    ·simp only [a0U,a0e,a0h,bs]
     exact .some ⟨rfl,.inr ⟨rfl,b,rfl⟩⟩
  ·intro _
   refine Wp.dif ?_ ?_
   ·intro _
    refine Wp.loop (fun n ds g'=>g'=g∧∃ (i:Nat) (a b:D),ds=[.bool false,.int .i64 (i:Int),a,b]∧n+i=ks.length)
     (fun r=>r.2.2=g∧∃ (b:Bool) (x y z:D),r.2.1=[.bool b,x,y,z]∧(r.1 = .ext 3∨r.1 = .ret)) ks.length ⟨rfl,0,_,_,rfl,by omega⟩ ?_ ?_
    ·rintro n ds g' ⟨rfl,i,a,b,rfl,hn⟩
     simp only [a9d,a0e,a0h,bs,f4,lkd,a6J hk,a0s,c8E]
     refine Wp.dif ?_ ?_
     ·intro h0
      have h0:i<ks.length:=by
       have:(i:Int)<(ks.length:Int):=by simpa using h0
       omega
      have w1:=wi_ i (by omega)
      obtain ⟨k,hk0⟩:=gx_ h0
      obtain ⟨k1,bk,k2⟩:=hr k (c8S hk0)
      simp only [ixk i k hk0,bs,k1,hL,k2,c8E]
      refine Wp.dif ?_ ?_
      ·intro _
       exact .some (.inr ⟨by simp,rfl,_,_,_,_,rfl,.inr rfl⟩)
      ·intro _
       simp only [a0m,w1,bs]
       exact .some (.inl ⟨rfl,n - 1,by omega,rfl,i+1,_,_,rfl,by omega⟩)
     ·intro _
      exact .some (.inr ⟨by simp,rfl,_,_,_,_,rfl,.inl rfl⟩)
    ·rintro ⟨ex,ds,g'⟩ ⟨rfl,b,x,y,z,rfl,rfl | rfl⟩
     ·simp only [a0p,a0j,a0e,a0h,bs]
      exact .some ⟨rfl,.inr ⟨rfl,_,rfl⟩⟩
     ·simp only [a0U,a1o,a0e,a0h,bs]
      exact .some ⟨rfl,.inr ⟨rfl,b,rfl⟩⟩
   ·intro _
    exact .some ⟨rfl,.inl rfl⟩
 ·rintro ⟨ex,ds,g'⟩ ⟨rfl,rfl | ⟨rfl,b,hb⟩⟩
  ·simp only [a0O,a0j,a0q]
   exact .some ⟨rfl,_,rfl⟩
  ·simp only at hb
   simp only [a0U,a1o,a1j,hb,a0q]
   exact .some ⟨rfl,_,rfl⟩
theorem c0F (row:List D) (L:List Ev) (dL:D) (h:Hp) (hL:SlOf 10 evr L dL) (hl:L.length≤1000) (hrow:∀ g,a0c tab g a0k (.fptr row)=some (.agg row)) (hh:∀ e∈L,∀ g,∃ b:Bool,R a3s [.agg row,.agg (evr e)] g=some (.bool b,g)) :
  ∃ (l:List Ev) (d:D),R a7z [.agg row,dL] h=some (d,h)∧SlOf 10 evr l d∧l.Sublist L:=by
 suffices Wp (R a7z [.agg row,dL] h) (fun p=>p.2=h∧∃ l:List Ev,SlOf 10 evr l p.1∧l.Sublist L) by
  obtain ⟨⟨x,h'⟩,h1,rfl,l,h2⟩:=this
  exact ⟨l,x,h1,h2⟩
 have hLe:∀ (e:Ev) g,a0c tab g a0D (.fptr (evr e))=some (.agg (evr e)):=fun e g=>id rfl
 have hS:∀ e:Ev,a0J tab a2p 1 [0] [.agg (evr e)]=some (.sl 10 true [evr e]):=fun e=>id rfl
 rw [c2X]
 simp only [b8R,a1m,bs,c8E]
 refine Wp.loop (fun n ds g=>∃ (i:Nat) (x a b:D) (l:List Ev),ds=[x,.int .i64 (i:Int),a,b]∧n+i=L.length∧l.Sublist (L.take i)∧Own g h.length a0D 10 (l.map evr) x∧Keep h g)
  (fun r=>r.1 = .ext 0∧∃ (x:D) (rest:List D) (l:List Ev),r.2.1=x::rest∧l.Sublist L∧Own r.2.2 h.length a0D 10 (l.map evr) x∧Keep h r.2.2) L.length ⟨0,_,_,_,[],rfl,by omega,by simp,Own.nils _ _ _ _,.refl _⟩ ?_ ?_
 ·rintro n ds g ⟨i,x,a,b,l,rfl,hn,hs,ow,kp⟩
  simp only [a9a,a0e,a0h,bs,b2g hL,a0s,c8E]
  refine Wp.dif ?_ ?_
  ·intro h0
   have h0:i<L.length:=by
    have:(i:Int)<(L.length:Int):=by simpa using h0
    omega
   have w1:=wi_ i (by omega)
   obtain ⟨u,hu⟩:=gx_ h0
   obtain ⟨bu,eu⟩:=hh u (c8S hu) g
   have tk:L.take (i+1)=L.take i++[u]:=by rw [c8Q,hu];rfl
   have hll:=hs.length_le
   rw [c8Y] at hll
   simp only [hrow,b4l hL,Int.natCast_nonneg,if_true,c8N,hu,Option.map_some,bs,hLe,eu,c8E]
   refine Wp.join (P:=fun (r:Out)=>r.1 = .nrm∧∃ (x:D) (l:List Ev),r.2.1=[x]∧l.Sublist (L.take (i+1))∧Own r.2.2 h.length a0D 10 (l.map evr) x∧Keep h r.2.2) ?_ ?_ ?_
   ·intro _
    simp only [hS,bs]
    refine b4U (n0:=h.length) kp.1 ow (a0N _ _ _ _) (by rw [c8K];simp [-bind_some];omega) fun x' g2 o2 l2 b2 _ _=>?_
    exact .some ⟨rfl,x',l++[u],rfl,by rw [tk];exact hs.append (List.Sublist.refl _),by rw [c8L];exact o2,⟨Nat.le_trans kp.1 l2,fun q hq=>(b2 q hq).trans (kp.2 q hq)⟩⟩
   ·intro _
    exact .some ⟨rfl,x,l,rfl,by rw [tk];exact hs.trans (List.sublist_append_left _ _),ow,kp⟩
   ·rintro ⟨ex,ds1,g2⟩ ⟨rfl,x',l',hds,hs',ow',kp'⟩
    simp only at hds ow' kp'
    subst hds
    simp only [a0O,a0j,a0e,a0m,w1,bs]
    exact .some (.inl ⟨rfl,n - 1,by omega,i+1,_,_,_,l',rfl,by omega,hs',ow',kp'⟩)
  ·intro h0
   have h0:L.length≤i:=by
    have:¬ (i:Int)<(L.length:Int):=by simpa using h0
    omega
   rw [List.take_of_length_le h0] at hs
   exact .some (.inr ⟨by simp,rfl,x,_,l,rfl,hs,ow,kp⟩)
 ·rintro ⟨ex,ds,g⟩ ⟨rfl,x,rest,l,rfl,hs,ow,kp⟩
  simp only at ow kp
  simp only [a0p,a0j,a0e,bs,a0q]
  have hf:=a2A (n0:=h.length) (n:=3) ow (Nat.le_refl _) fun s _=>a3Y _ _ _ s
  have hsc:scope h g x=some (frz h.length g 4 x,h):=a1n rfl (a1B hf fun s _=>a5w _ s) kp.1 kp.2
  rw [hsc]
  exact .some ⟨rfl,l,hf,hs⟩
structure TF where
 op:Int
 nm:Str
 tx:Str
 nu:Int
def tfr (t:TF):List D:=[.int .i64 t.op,.str t.nm,.str t.tx,.int .i64 t.nu,.nils]
theorem a6U (n0:Nat) (h:Hp) (n:Nat) (t:TF):∀ d∈tfr t,frz n0 h n d=d:=by simp [-bind_some, tfr]
theorem b2X (n:Nat) (t:TF):∀ d∈tfr t,Ok n d:=by
 intro d hd
 simp [-bind_some, tfr] at hd
 rcases hd with rfl | rfl | rfl | rfl | rfl <;> constructor
def tzr:List D:=[.int .i64 0,.str [],.str [],.int .i64 0,.nils]
structure TS (h:Hp) (o:Nat) (g:Hp):Prop where
 st:St h o g
 z:g[h.length]?=some (.row a0k 5 [tzr])
theorem TS.same {h g g':Hp} {o:Nat} (t:TS h o g) (hc:CD g' o) (hs:Same o g g'):TS h o g':=⟨t.st.next hc hs,by rw [hs.2 _ (by have:=t.st.lt;omega)];exact t.z⟩
theorem TS.draw {h g:Hp} {o:Nat} (t:TS h o g) (n:Int) (h1:1≤n) (h2:n≤1000000000):∃ v g',R a2e [.ptr o 0 0,.int .i64 n] g=some (.int .i64 v,g')∧TS h o g'∧Same o g g'∧0≤v∧v<n:=by
 obtain ⟨v,g',e,c,s,v0,v1⟩:=a1D t.st.cd n h1 h2
 exact ⟨v,g',e,t.same c s,s,v0,v1⟩
theorem TS.lt {h g:Hp} {o:Nat} (t:TS h o g):h.length<g.length:=(c8U.1 t.z).1
theorem a8B {h g:Hp} {o:Nat} (t:TS h o g) {row row':List D} (hl:row.length=5) (hf:∀ g',g'.length=g.length→(∀ q,q≠h.length→g'[q]?=g[q]?)→frz h.length g' 4 (.agg row) = .agg row') (hok:∀ d∈row',Ok h.length d)
  (hta:a7X 5 row=some (.agg row)) {Q:D × Hp→Prop} (k:∀ h',CD h' o→Same o h h'→Q (.agg row',h')) :
  Wp ((a0o tab g a0k (.ptr h.length 0 0) (.agg row)).bind fun h'=>(a0c tab h' a0k (.ptr h.length 0 0)).bind fun d0=>scope h h' (a0l [d0])) Q:=by
 refine a8D (kk:=0) (off:=0) (v := .agg row) t.z (by rfl) (by exact hl) (by exact Nat.le_refl _) (by rfl) fun g2 p2 s2=>?_
 have hsp:spl tzr 0 (a0A (.agg row))=row:=by
  rw [a3h]
  have:∀ r:List D,r.length=5→spl tzr 0 r=r:=fun r hr=>by
   match r,hr with
   | [a,b,c,d,e],_=>rfl
  exact this row hl
 have p2:g2[h.length]?=some (.row a0k 5 [row]):=by rw [← hsp];exact p2
 have ld:a0c tab g2 a0k (.ptr h.length 0 0)=some (.agg row):=by
  rw [a8q,a1y p2]
  exact hta
 have S2:St h o g2:=⟨t.st.lt,t.st.cd.keep (s2.2 o (by have:=t.st.lt;omega)),t.st.gr.trans ⟨Nat.le_of_eq s2.1.symm,fun q hq _=>s2.2 q (by omega)⟩⟩
 obtain ⟨h',hs,hcd,hsm⟩:=S2.scope (hf g2 s2.1 fun q hq=>s2.2 q hq) (.agg _ hok)
 simp only [ld,bs,a0q,hs]
 exact .some (k h' hcd hsm)
def b3D (t1:Int) (h:Hp) (o:Nat) (p:D × Hp):Prop:=CD p.2 o∧Same o h p.2∧∃ (op nu:Int) (nm tx:Str) (ks:List TF) (kd:D),p.1 = .agg [.int .i64 op,.str nm,.str tx,.int .i64 nu,kd]∧SlOf 5 tfr ks kd∧ks.length≤3∧tx.length≤1000∧(∀ k∈ks,k.tx.length≤1000)∧(t1=0→kd = .nils)
theorem a2o {h g:Hp} {o:Nat} (t:TS h o g) (t1 op nu:Int) (nm tx:Str) (htx:tx.length≤1000) :
  Wp ((a0o tab g a0k (.ptr h.length 0 0) (.agg [.int .i64 op,.str nm,.str tx,.int .i64 nu,.nils])).bind fun h'=>(a0c tab h' a0k (.ptr h.length 0 0)).bind fun d0=>scope h h' (a0l [d0])) (b3D t1 h o) :=
 a8B t rfl (fun g' _ _=>by simp;rfl) (b2X _ ⟨op,nm,tx,nu⟩) rfl fun h' c s=>⟨c,s,op,nu,nm,tx,[],.nils,rfl,.nils _ _,by simp,htx,by simp,fun _=>rfl⟩
theorem b0v (ss:List Str) (v:Int) (h0:0≤v) (h1:v<ss.length):∃ s,s∈ss∧a0a tab a1d (.sl 1 true (ss.map sr)) (.int .i64 v)=some (.fptr [.str s]):=by
 obtain ⟨s,hs,hg⟩:=a2q ss v h0 h1
 refine ⟨s,hs,?_⟩
 rw [b6N,if_pos h0,c8R,hg]
 rfl
theorem b5i {h:Hp} {o:Nat} (hc:CD h o) (t1:Int) (ht:t1=0∨t1=1) (rec:t1=1→∀ g,CD g o→Wp (R a2u [.ptr o 0 0,.int .i64 0] g) (b3D 0 g o)):Wp (R a2u [.ptr o 0 0,.int .i64 t1] h) (b3D t1 h o):=by
 have ho:=hc.lt
 have ld:∀ (s:Str) g,a0c tab g ty9 (.fptr [.str s])=some (.str s):=fun s g=>id rfl
 have T0:TS h o (a1h h a0k 5 [tzr]):=⟨(St.refl hc).app (by simp [-bind_some, a1h]) fun q hq=>a1R _ _ _ _ hq,a2i _ _ _ _⟩
 have hz:[[D.int .i64 0,.str [],.str [],.int .i64 0,.nils]]=[tzr]:=rfl
 obtain ⟨v,g0,e0,T0,_,v0,v1⟩:=T0.draw 15 (by omega) (by omega)
 rw [c2Y]
 simp only [b8S,bs,hz,e0,a0P,c8E]
 refine Wp.join (P:=fun (r:Out)=>r.1 = .nrm∧∃ v:Int,r.2.1=[.int .i64 v]∧TS h o r.2.2∧0≤v∧v<15∧(t1=0→v<10)) ?_ ?_ ?_
 ·intro _
  obtain ⟨w,g1,e1,T1,_,w0,w1⟩:=T0.draw 10 (by omega) (by omega)
  simp only [e1,bs]
  exact .some ⟨rfl,w,rfl,T1,w0,by omega,fun _=>w1⟩
 ·intro hd
  have hd:¬ t1=0:=by simpa using hd
  exact .some ⟨rfl,v,rfl,T0,v0,v1,fun hh=>absurd hh hd⟩
 rintro ⟨ex,ds,g⟩ ⟨rfl,v,hds,T,v0,v1,vt⟩
 simp only at hds T
 subst hds
 simp only [a0j,a0e,a0P,bs,c8E]
 refine Wp.bind (P:=fun (r:Out)=>r.1 = .nrm∧r.2.2=g∧∃ b:Bool,r.2.1=[.bool b]∧(b=false→v≠0∧v≠1)) (Wp.dif (fun hb => .some ⟨rfl,rfl,_,rfl,fun hh=>by rw [hb] at hh;cases hh⟩) fun hb => .some ⟨rfl,rfl,_,rfl,fun hh=>⟨by simpa using hb,by simpa using hh⟩⟩) ?_
 rintro ⟨ex,ds,g1⟩ ⟨rfl,hg,b1,hds,nb1⟩
 simp only at hg hds
 subst hg hds
 simp only [a0j,a0e]
 refine Wp.dif ?_ ?_
 ·intro _
  have hp:a0J tab a1d 6 [0,1,2,3,4,5] [.str [103,101,116],.str [101,114,114,111,114],.str [119,97,114,110],.str [97,49],.str [50,48,48],.str [110,111,116,104,105,110,103]]=some (.sl 1 true (([[103,101,116],[101,114,114,111,114],[119,97,114,110],[97,49],[50,48,48],[110,111,116,104,105,110,103]]:List Str).map sr)):=id rfl
  obtain ⟨w,g2,e2,T2,_,w0,w1⟩:=T.draw 6 (by omega) (by omega)
  obtain ⟨s,hs,hi⟩:=b0v [[103,101,116],[101,114,114,111,114],[119,97,114,110],[97,49],[50,48,48],[110,111,116,104,105,110,103]] w w0 w1
  have hl:s.length≤1000:=(show ∀ s∈([[103,101,116],[101,114,114,111,114],[119,97,114,110],[97,49],[50,48,48],[110,111,116,104,105,110,103]]:List Str),s.length≤1000 by decide) s hs
  simp only [hp,e2,hi,ld,bs,a3U,c8E]
  exact a2o T2 t1 1 0 [] s hl
 intro hb1
 refine Wp.dif ?_ ?_
 ·intro _
  have hp:a0J tab a1d 5 [0,1,2,3,4] [.str [101],.str [101,114,114],.str [117],.str [50],.str [113]]=some (.sl 1 true (([[101],[101,114,114],[117],[50],[113]]:List Str).map sr)):=id rfl
  obtain ⟨w,g2,e2,T2,_,w0,w1⟩:=T.draw 5 (by omega) (by omega)
  obtain ⟨s,hs,hi⟩:=b0v [[101],[101,114,114],[117],[50],[113]] w w0 w1
  have hl:s.length≤1000:=(show ∀ s∈([[101],[101,114,114],[117],[50],[113]]:List Str),s.length≤1000 by decide) s hs
  simp only [hp,e2,hi,ld,bs,a3U,c8E]
  exact a2o T2 t1 2 0 [] s hl
 intro h2
 refine Wp.dif ?_ ?_
 ·intro _
  have hp:a0J tab a1d 5 [0,1,2,3,4] [.str [114],.str [71,69,84],.str [32],.str [84],.str [111,32,111]]=some (.sl 1 true (([[114],[71,69,84],[32],[84],[111,32,111]]:List Str).map sr)):=id rfl
  obtain ⟨w,g2,e2,T2,_,w0,w1⟩:=T.draw 5 (by omega) (by omega)
  obtain ⟨s,hs,hi⟩:=b0v [[114],[71,69,84],[32],[84],[111,32,111]] w w0 w1
  have hl:s.length≤1000:=(show ∀ s∈([[114],[71,69,84],[32],[84],[111,32,111]]:List Str),s.length≤1000 by decide) s hs
  simp only [hp,e2,hi,ld,bs,a3U,c8E]
  exact a2o T2 t1 3 0 [] s hl
 intro h3
 refine Wp.bind (P:=fun (r:Out)=>r.1 = .nrm∧r.2.2=g1∧∃ b:Bool,r.2.1=[.bool b]∧(b=false→v≠4∧v≠5)) (Wp.dif (fun hb => .some ⟨rfl,rfl,_,rfl,fun hh=>by rw [hb] at hh;cases hh⟩) fun hb => .some ⟨rfl,rfl,_,rfl,fun hh=>⟨by simpa using hb,by simpa using hh⟩⟩) ?_
 rintro ⟨ex,ds,g⟩ ⟨rfl,hg,b2,hds,nb2⟩
 simp only at hg hds
 subst hg hds
 simp only [a0j,a0e]
 refine Wp.dif ?_ ?_
 ·intro _
  obtain ⟨w,g2,e2,T2,_,w0,w1⟩:=T.draw 4 (by omega) (by omega)
  simp only [e2,bs,a0P,c8E]
  refine Wp.dif ?_ ?_
  ·intro _
   have hp:a0J tab a1d 4 [0,1,2,3] [.str [64,104,111,115,116],.str [64,115,116,114,101,97,109],.str [64,116,114,97,99,101],.str [64,119,101,105,103,104,116]]=some (.sl 1 true (([[64,104,111,115,116],[64,115,116,114,101,97,109],[64,116,114,97,99,101],[64,119,101,105,103,104,116]]:List Str).map sr)):=id rfl
   have hq:a0J tab a1d 4 [0,1,2,3] [.str [49],.str [109,97,105,110],.str [116,49],.str [50]]=some (.sl 1 true (([[49],[109,97,105,110],[116,49],[50]]:List Str).map sr)):=id rfl
   obtain ⟨x,g3,e3,T3,_,x0,x1⟩:=T2.draw 4 (by omega) (by omega)
   obtain ⟨s,hs,hi⟩:=b0v [[64,104,111,115,116],[64,115,116,114,101,97,109],[64,116,114,97,99,101],[64,119,101,105,103,104,116]] x x0 x1
   obtain ⟨y,g4,e4,T4,_,y0,y1⟩:=T3.draw 4 (by omega) (by omega)
   obtain ⟨u,hu,hj⟩:=b0v [[49],[109,97,105,110],[116,49],[50]] y y0 y1
   have hl:u.length≤1000:=(show ∀ s∈([[49],[109,97,105,110],[116,49],[50]]:List Str),s.length≤1000 by decide) u hu
   simp only [hp,e3,hi,ld,hq,e4,hj,bs,a4e,a1k,c8E]
   exact a2o T4 t1 4 0 s u hl
  ·intro _
   obtain ⟨s,g3,e3,c3,s3,_⟩:=b6k T2.st.cd
   obtain ⟨u,g4,e4,c4,s4,hu⟩:=d33 c3
   simp only [e3,e4,bs,a4e,c8E]
   exact a2o ((T2.same c3 s3).same c4 s4) t1 4 0 s u (by omega)
 intro hb2
 refine Wp.dif ?_ ?_
 ·intro _
  obtain ⟨s,g3,e3,c3,s3,_⟩:=b6k T.st.cd
  simp only [e3,bs,b0c,c8E]
  exact a2o (T.same c3 s3) t1 8 0 s [] (by simp)
 intro h6
 refine Wp.bind (P:=fun (r:Out)=>r.1 = .nrm∧r.2.2=g∧∃ b:Bool,r.2.1=[.bool b]∧(b=false→v≠7∧v≠8)) (Wp.dif (fun hb => .some ⟨rfl,rfl,_,rfl,fun hh=>by rw [hb] at hh;cases hh⟩) fun hb => .some ⟨rfl,rfl,_,rfl,fun hh=>⟨by simpa using hb,by simpa using hh⟩⟩) ?_
 rintro ⟨ex,ds,g1⟩ ⟨rfl,hg,b3,hds,nb3⟩
 simp only at hg hds
 subst hg hds
 simp only [a0j,a0e]
 refine Wp.dif ?_ ?_
 ·intro _
  obtain ⟨w,g2,e2,T2,_,w0,w1⟩:=T.draw 3 (by omega) (by omega)
  obtain ⟨s,g3,e3,c3,s3,_⟩:=b6k T2.st.cd
  have T3:=T2.same c3 s3
  obtain ⟨x,g4,e4,T4,_,x0,x1⟩:=T3.draw 40 (by omega) (by omega)
  -- an object of its own
  have lt4:=T4.lt
  have T5:TS h o (a1h g4 a0k 5 [tzr]):=⟨T4.st.app (by simp [-bind_some, a1h]) fun q hq=>a1R _ _ _ _ (by have:=T4.st.le;omega),by rw [a1R _ _ _ _ lt4];exact T4.z⟩
  simp only [e2,e3,e4,bs,a0m,a0t,a7g,hz,c8E]
  refine a8D (kk:=0) (off:=0) (v := .agg [.int .i64 (IntKind.wrap .i64 (9+w)),.str s,.str [],.int .i64 (IntKind.wrap .i64 (x - 5)),.nils]) (a2i g4 a0k 5 [tzr]) (by rfl) (by rfl) (by exact Nat.le_refl _) (by rfl) fun g6 p6 s6=>?_
  have hm:g4.length≠h.length:=by omega
  have hmo:g4.length≠o:=by omega
  have chg:∀ {g g':Hp},TS h o g→Same g4.length g g'→TS h o g':=fun {g g'} t s=>⟨⟨ho,t.st.cd.keep (s.2 o (Ne.symm hmo)),t.st.gr.trans ⟨Nat.le_of_eq s.1.symm,fun q hq _=>s.2 q (by omega)⟩⟩,by rw [s.2 _ (Ne.symm hm)];exact t.z⟩
  have T6:=chg T5 s6
  have q6:∃ (op nu:Int) (nm:Str),g6[g4.length]?=some (.row a0k 5 [[.int .i64 op,.str nm,.str [],.int .i64 nu,.nils]]):=⟨_,_,_,p6⟩
  clear p6 T5
  obtain ⟨y,g7,e7,T7,s7,y0,y1⟩:=T6.draw 2 (by omega) (by omega)
  have q7:∃ (op nu:Int) (nm:Str),g7[g4.length]?=some (.row a0k 5 [[.int .i64 op,.str nm,.str [],.int .i64 nu,.nils]]):=by rw [s7.2 _ hmo];exact q6
  have set2:∀ {γ:Type} {g:Hp} (_:TS h o g) (_:∃ (op nu:Int) (nm:Str),g[g4.length]?=some (.row a0k 5 [[.int .i64 op,.str nm,.str [],.int .i64 nu,.nils]])) (s:Str) (n:Int) {F:Hp→Option γ} {Q:γ→Prop}
    (_:∀ g',TS h o g'→(∃ (op nu:Int) (nm:Str),g'[g4.length]?=some (.row a0k 5 [[.int .i64 op,.str nm,.str [],.int .i64 nu,.nils]]))→Wp (F g') Q),
    Wp ((a0o tab g ty9 (.ptr g4.length 0 (0+1)) (.str s)).bind fun h'=>(a0o tab h' ty3 (.ptr g4.length 0 (0+3)) (.int .i64 n)).bind F) Q:=fun {γ g} t q s n {F Q} k=>by
   obtain ⟨op,nu,nm,q⟩:=q
   refine c1M (kk:=0) (off:=0+1) (v := .str s) q (by rfl) (by rfl) (by simp) (by rfl) fun g8 p8 s8=>?_
   have p8:g8[g4.length]?=some (.row a0k 5 [[.int .i64 op,.str s,.str [],.int .i64 nu,.nils]]):=p8
   refine b8c (kk:=0) (off:=0+3) (v := .int .i64 n) p8 (by rfl) (by rfl) (by simp) (by rfl) fun g9 p9 s9=>?_
   exact k g9 (chg (chg t s8) s9) ⟨op,n,s,p9⟩
  simp only [e7,bs,a0P,c8E]
  refine Wp.join (P:=fun (r:Out)=>r.1 = .nrm∧TS h o r.2.2∧∃ (op nu:Int) (nm:Str),r.2.2[g4.length]?=some (.row a0k 5 [[.int .i64 op,.str nm,.str [],.int .i64 nu,.nils]])) ?_ ?_ ?_
  ·intro _
   obtain ⟨z,g8,e8,T8,s8,z0,z1⟩:=T7.draw 70 (by omega) (by omega)
   simp only [e8,bs,a0m,a7q,a7r,c8E]
   exact set2 T8 (by rw [s8.2 _ hmo];exact q7) _ _ fun g' t q => .some ⟨rfl,t,q⟩
  ·intro _
   exact .some ⟨rfl,T7,q7⟩
  rintro ⟨ex,ds,g8⟩ ⟨rfl,T8,q8⟩
  simp only at T8 q8
  simp only [a0j]
  obtain ⟨z,g9,e9,T9,s9,z0,z1⟩:=T8.draw 8 (by omega) (by omega)
  have q9:∃ (op nu:Int) (nm:Str),g9[g4.length]?=some (.row a0k 5 [[.int .i64 op,.str nm,.str [],.int .i64 nu,.nils]]):=by rw [s9.2 _ hmo];exact q8
  simp only [e9,bs,a0P,c8E]
  refine Wp.join (P:=fun (r:Out)=>r.1 = .nrm∧TS h o r.2.2∧∃ (op nu:Int) (nm:Str),r.2.2[g4.length]?=some (.row a0k 5 [[.int .i64 op,.str nm,.str [],.int .i64 nu,.nils]])) ?_ ?_ ?_
  ·intro _
   obtain ⟨a,ga,ea,Ta,sa,a0,a1⟩:=T9.draw 3 (by omega) (by omega)
   have hp:a0J tab a3q 3 [0,1,2] [.int .i64 (-5),.int .i64 253402300799999,.int .i64 999999999999999999]=some (.sl 1 true (([-5,253402300799999,999999999999999999]:List Int).map inr)):=id rfl
   obtain ⟨n,hn,hg⟩:=a2q ([-5,253402300799999,999999999999999999]:List Int) a a0 a1
   have hi:a0a tab a3q (.sl 1 true (([-5,253402300799999,999999999999999999]:List Int).map inr)) (.int .i64 a)=some (.fptr [.int .i64 n]):=by
    rw [c5s,if_pos a0,c8R,hg];rfl
   have l3:∀ g,a0c tab g ty3 (.fptr [.int .i64 n])=some (.int .i64 n):=fun g=>id rfl
   simp only [hp,ea,hi,l3,bs,a1k,a7q,a7r,c8E]
   exact set2 Ta (by rw [sa.2 _ hmo];exact q9) _ _ fun g' t q => .some ⟨rfl,t,q⟩
  ·intro _
   exact .some ⟨rfl,T9,q9⟩
  rintro ⟨ex,ds,ga⟩ ⟨rfl,Ta,op,nu,nm,qa⟩
  simp only at Ta qa
  have la:a0c tab ga a0k (.ptr g4.length 0 0)=some (.agg [.int .i64 op,.str nm,.str [],.int .i64 nu,.nils]):=by rw [a8q,a1y qa];rfl
  simp only [a0j,la,bs,c8E]
  exact a2o Ta t1 op nu nm [] (by simp)
 intro hb3
 refine Wp.dif ?_ ?_
 ·intro _
  simp only [b6f,bs,c8E]
  exact a2o T t1 0 0 [] [] (by simp)
 intro h9
 have n0:=nb1 hb1
 have n4:=nb2 hb2
 have n7:=nb3 hb3
 have n2:v≠2:=by simpa using h2
 have n3:v≠3:=by simpa using h3
 have n6:v≠6:=by simpa using h6
 have n9:v≠9:=by simpa using h9
 have t1:t1=1:=by
  rcases ht with ht | ht
  ·have:=vt ht;omega
  ·exact ht
 subst t1
 have w0:IntKind.wrap .i64 ((1:Int) - 1)=0:=rfl
 refine Wp.dif ?_ ?_
 ·intro _
  obtain ⟨⟨x,g2⟩,e2,c2,s2,op,nu,nm,tx,ks,kd,hx,hk,hkl,htx,hkt,hkd⟩:=rec rfl g1 T.st.cd
  simp only at c2 s2 hx
  subst hx
  rw [hkd rfl] at e2
  have T2:=T.same c2 s2
  have hp:a0J tab a0H 1 [0] [.agg [.int .i64 op,.str nm,.str tx,.int .i64 nu,.nils]]=some (.sl 5 true [tfr ⟨op,nm,tx,nu⟩]):=id rfl
  simp only [a0t,w0,bs,e2,hp,b0d 5 (.sl 5 true [tfr ⟨op,nm,tx,nu⟩]) rfl,c8E]
  have hs:SlOf 5 tfr [(⟨op,nm,tx,nu⟩:TF)] (.sl 5 true [tfr ⟨op,nm,tx,nu⟩]):=SlOf.mk 5 tfr [⟨op,nm,tx,nu⟩] true
  refine a8B T2 (row':=[.int .i64 5,.str [],.str [],.int .i64 0,.sl 5 true [tfr ⟨op,nm,tx,nu⟩]]) rfl (fun g' _ _=>?_) (fun d hd=>?_) rfl fun h' c s=>⟨c,s,5,0,[],[],[⟨op,nm,tx,nu⟩],_,rfl,hs,by simp,by simp,fun k hk=>by simp at hk;subst hk;exact htx,fun hh=>by cases hh⟩
  ·rw [b1J]
   simp only [c8M,List.map_nil,a4V,a6C,a3l hs fun t _=>a6U _ _ _ t]
  ·simp only [c8Z,List.not_mem_nil,or_false] at hd
   rcases hd with rfl | rfl | rfl | rfl | rfl
   ·exact .int _ _
   ·exact .str _
   ·exact .str _
   ·exact .int _ _
   ·exact a1B hs fun t _=>b2X _ t
 intro _
 have ltT:=T.lt
 have T5:TS h o (a1h g1 a0k 5 [tzr]):=⟨T.st.app (by simp [-bind_some, a1h]) fun q hq=>a1R _ _ _ _ (by have:=T.st.le;omega),by rw [a1R _ _ _ _ ltT];exact T.z⟩
 have hm:g1.length≠h.length:=by omega
 have hmo:g1.length≠o:=by omega
 have chg:∀ {g g':Hp},TS h o g→Same g1.length g g'→TS h o g':=fun {g g'} t s=>⟨⟨ho,t.st.cd.keep (s.2 o (Ne.symm hmo)),t.st.gr.trans ⟨Nat.le_of_eq s.1.symm,fun q hq _=>s.2 q (by omega)⟩⟩,by rw [s.2 _ (Ne.symm hm)];exact t.z⟩
 simp only [a6s,show ¬ (2:Int)=0 by omega,if_false,bs,a0m,b3H,hz,c8E]
 refine a8D (kk:=0) (off:=0) (v := .agg [.int .i64 (IntKind.wrap .i64 (6+v.tmod 2)),.str [],.str [],.int .i64 0,.nils]) (a2i g1 a0k 5 [tzr]) (by rfl) (by rfl) (by exact Nat.le_refl _) (by rfl) fun g6 p6 s6=>?_
 generalize hop:IntKind.wrap .i64 (6+v.tmod 2)=op at p6
 have p6:g6[g1.length]?=some (.row a0k 5 [[.int .i64 op,.str [],.str [],.int .i64 0,.nils]]):=p6
 have T6:=chg T5 s6
 obtain ⟨y,g7,e7,T7,s7,y0,y1⟩:=T6.draw 2 (by omega) (by omega)
 have p7:g7[g1.length]?=some (.row a0k 5 [[.int .i64 op,.str [],.str [],.int .i64 0,.nils]]):=by rw [s7.2 _ hmo];exact p6
 have wy:IntKind.wrap .i64 (2+y)=((2+y).toNat:Int):=by rw [wrap_i64 (by omega) (by omega)];omega
 simp only [e7,bs,a0m,wy,c8E]
 refine Wp.loop (fun n ds g=>∃ (c:Nat) (a kd:D) (ks:List TF),ds=[.int .i64 (c:Int),a]∧n=c∧ks.length+c=(2+y).toNat∧TS h o g∧g[g1.length]?=some (.row a0k 5 [[.int .i64 op,.str [],.str [],.int .i64 0,kd]])∧Own g h.length a0k 5 (ks.map tfr) kd∧¬ kd.inOb g1.length∧¬ kd.inOb h.length∧∀ k∈ks,k.tx.length≤1000)
  (fun r=>r.1 = .ext 1∧∃ (kd:D) (rest:List D) (ks:List TF),ks.length≤3∧TS h o r.2.2∧r.2.2[g1.length]?=some (.row a0k 5 [[.int .i64 op,.str [],.str [],.int .i64 0,kd]])∧Own r.2.2 h.length a0k 5 (ks.map tfr) kd∧¬ kd.inOb h.length∧∀ k∈ks,k.tx.length≤1000) (2+y).toNat
  ⟨(2+y).toNat,_,.nils,[],rfl,rfl,by simp,T7,p7,Own.nils _ _ _ _,(fun hh=>by obtain ⟨_,_,hh⟩:=hh;cases hh),(fun hh=>by obtain ⟨_,_,hh⟩:=hh;cases hh),by simp⟩ ?_ ?_
 ·rintro n ds g ⟨c,a,kd,ks,rfl,hn,hks,Tg,pg,ow,nm1,nm2,hkt⟩
  simp only [a9b,a0e,a0h,bs,a1e,c8E]
  refine Wp.dif ?_ ?_
  ·intro h0
   have h0:0<c:=by
    have:(0:Int)<(c:Int):=by simpa using h0
    omega
   have wc:IntKind.wrap .i64 ((c:Int) - 1)=((c - 1:Nat):Int):=by rw [wrap_i64 (by omega) (by omega)];omega
   obtain ⟨⟨x,g2⟩,e2,c2,s2,opk,nu,nm,tx,ks',kd',hx,hk,hkl,htx,hkt',hkd⟩:=rec rfl g Tg.st.cd
   simp only at c2 s2 hx
   subst hx
   rw [hkd rfl] at e2
   have T2:=Tg.same c2 s2
   have lkd:a0c tab g a0H (.ptr g1.length 0 (0+4))=some kd:=by rw [b2b,a1y pg];rfl
   have p2:g2[g1.length]?=some (.row a0k 5 [[.int .i64 op,.str [],.str [],.int .i64 0,kd]]):=by rw [s2.2 _ hmo];exact pg
   have lkd2:a0c tab g2 a0H (.ptr g1.length 0 (0+4))=some kd:=by rw [b2b,a1y p2];rfl
   have ow2:=ow.same s2 (by omega)
   have hp:a0J tab a0H 1 [0] [.agg [.int .i64 opk,.str nm,.str tx,.int .i64 nu,.nils]]=some (.sl 5 true [tfr ⟨opk,nm,tx,nu⟩]):=id rfl
   simp only [a7s,lkd,bs,a0t,w0,e2,hp,c8E]
   refine b7I (n0:=h.length) T2.st.le ow2 (a0N _ _ _ _) (by rw [c8K];simp [-bind_some];omega) fun kd3 g3 o3 l3 b3 k3 in3=>?_
   have lm2:=(c8U.1 p2).1
   have lz2:=T2.lt
   have p3:g3[g1.length]?=some (.row a0k 5 [[.int .i64 op,.str [],.str [],.int .i64 0,kd]]):=by rw [k3 _ lm2 nm1];exact p2
   have T3:TS h o g3:=⟨T2.st.app l3 b3,by rw [k3 _ lz2 nm2];exact T2.z⟩
   have o1:=a2W (a5c o3)
   have nk1:¬ kd3.inOb g1.length:=fun hh=>by
    rcases in3 _ hh with h1 | h1
    ·exact nm1 h1
    ·omega
   have nk2:¬ kd3.inOb h.length:=fun hh=>by
    rcases in3 _ hh with h1 | h1
    ·exact nm2 h1
    ·omega
   simp only [lkd2,a1k,a7s,bs,c8E]
   refine b7M (kk:=0) (off:=0+4) (v:=kd3) p3 (by rfl) (by rw [o1.1];rfl) (by simp) o1.2 fun g8 p8 s8=>?_
   have p8:g8[g1.length]?=some (.row a0k 5 [[.int .i64 op,.str [],.str [],.int .i64 0,kd3]]):=by rw [o1.1] at p8;exact p8
   have o8:Own g8 h.length a0k 5 ((ks++[(⟨opk,nm,tx,nu⟩:TF)]).map tfr) kd3:=by
    rw [c8L]
    exact o3.keep fun q _ hq=>s8.2 q fun hh=>nk1 (hh▸hq)
   simp only [a0t,wc,bs]
   refine .some (.inl ⟨rfl,c - 1,by omega,c - 1,_,kd3,ks++[(⟨opk,nm,tx,nu⟩:TF)],rfl,rfl,by rw [c8J];simp [-bind_some];omega,chg T3 s8,p8,o8,nk1,nk2,fun k hk=>?_⟩)
   rcases c9a.1 hk with hk | hk
   ·exact hkt k hk
   ·simp at hk;subst hk;exact htx
  ·intro _
   exact .some (.inr ⟨by simp,rfl,kd,[],ks,by omega,Tg,pg,ow,nm2,hkt⟩)
 ·rintro ⟨ex,ds,g⟩ ⟨rfl,kd,rest,ks,hks,Tg,pg,ow,nm2,hkt⟩
  simp only at Tg pg ow
  have la:a0c tab g a0k (.ptr g1.length 0 0)=some (.agg [.int .i64 op,.str [],.str [],.int .i64 0,kd]):=by rw [a8q,a1y pg];rfl
  simp only [a0p,a0j,la,bs,c8E]
  have hfz:∀ g',(∀ q,q≠h.length→g'[q]?=g[q]?)→frz h.length g' 3 kd=frz h.length g 3 kd:=fun g' hq=>by
   rcases ow with ⟨rfl,_⟩ | ⟨ob,hob,rfl,hg⟩
   ·rfl
   ·have hne:ob≠h.length:=fun hh=>nm2 ⟨_,_,by rw [hh]⟩
    rw [a6B hob hg,a6B hob (by rw [hq ob hne];exact hg)]
    congr 1
    rw [List.drop_zero,List.take_of_length_le (by simp)]
    refine List.map_congr_left fun r hr=>?_
    obtain ⟨t,_,rfl⟩:=c9b.1 hr
    rw [a2l (a6U _ _ _ t),a2l (a6U _ _ _ t)]
  have hs:=a2A (n0:=h.length) (n:=2) ow (Nat.le_refl _) fun t _=>a6U _ _ _ t
  refine a8B Tg (row':=[.int .i64 op,.str [],.str [],.int .i64 0,frz h.length g 3 kd]) rfl (fun g' _ hq=>?_) (fun d hd=>?_) rfl fun h' c s=>⟨c,s,op,0,[],[],ks,_,rfl,hs,hks,by simp,hkt,fun hh=>by cases hh⟩
  ·rw [b1J]
   simp only [c8M,List.map_nil,a4V,a6C,hfz g' hq]
  ·simp only [c8Z,List.not_mem_nil,or_false] at hd
   rcases hd with rfl | rfl | rfl | rfl | rfl
   ·exact .int _ _
   ·exact .str _
   ·exact .str _
   ·exact .int _ _
   ·exact a1B hs fun t _=>b2X _ t
theorem b9k {h:Hp} {o:Nat} (hc:CD h o):Wp (R a2u [.ptr o 0 0,.int .i64 1] h) (b3D 1 h o) :=
 b5i hc 1 (.inr rfl) fun _ g cg=>b5i cg 0 (.inl rfl) fun hh=>by cases hh
theorem c0J (t:TF) (g:Hp):a0c tab g a0k (.fptr (tfr t))=some (.agg (tfr t)):=id rfl
theorem b5s {op nu:Int} {nm tx:Str} {ks:List TF} {kd:D} (hk:SlOf 5 tfr ks kd) (hkl:ks.length≤3) (htx:tx.length≤1000) (hkt:∀ k∈ks,k.tx.length≤1000) {e:Ev} (he:a8F e) (g:Hp):∃ b:Bool,R a3s [.agg [.int .i64 op,.str nm,.str tx,.int .i64 nu,kd],.agg (evr e)] g=some (.bool b,g) :=
 c0G tfr ks kd op nu nm tx e g he htx hk (by omega) fun k hkm=>⟨c0J k g,c0G (α:=TF) tfr [] .nils k.op k.nu k.nm k.tx e g he (hkt k hkm) (.nils _ _) (by simp) fun k hk=>by cases hk⟩
structure Scene (a b:List Ev) (key:Str) (w:Int):Prop where
 ea:∀ e∈a,a8F e
 eb:∀ e∈b,a8F e
 pa:PlD a
 la:a.length≤600
 lb:b.length≤600
 k:b3l key
 w0:0≤w
 w1:w<80
theorem c4j (zs:List Int) (d:D) (hd:a3D .u8 zs d) (hz:∀ z∈zs,0≤z∧z<256):∃ (a b:List Ev) (da db:D) (key:Str) (w:Int) (o:Nat) (g:Hp),R a4i [d] []=some (.tup [da,db,.str key,.int .i64 w,.ptr o 0 0],g)∧CD g o∧SlOf 10 evr a da∧SlOf 10 evr b db∧Scene a b key w:=by
 suffices Wp (R a4i [d] []) (fun p=>∃ (a b:List Ev) (da db:D) (key:Str) (w:Int) (o:Nat),p.1 = .tup [da,db,.str key,.int .i64 w,.ptr o 0 0]∧CD p.2 o∧SlOf 10 evr a da∧SlOf 10 evr b db∧Scene a b key w) by
  obtain ⟨⟨x,g⟩,h1,a,b,da,db,key,w,o,rfl,h2⟩:=this
  exact ⟨a,b,da,db,key,w,o,g,h1,h2⟩
 obtain ⟨g0,e0,c0,l0⟩:=d44 zs d 500 [] hd (by omega) (by omega) hz
 obtain ⟨dl,g1,e1,c1,s1,l,hl,hok,hpd,hll⟩:=c5E c0 6 (by omega) (by omega)
 obtain ⟨⟨t1,g2⟩,e2,c2,s2,op,nu,nm,tx,ks,kd,ht1,hk,hkl,htx,hkt,_⟩:=b9k c1
 simp only at c2 s2 ht1
 subst ht1
 obtain ⟨la,da,e3,hda,sa⟩:=c0F [.int .i64 op,.str nm,.str tx,.int .i64 nu,kd] l dl g2 hl (by omega) (fun g=>b5u _ _ _ _ _ _ _) fun e he g=>b5s hk hkl htx hkt (hok.1 e he) g
 obtain ⟨⟨t2,g4⟩,e4,c4,s4,op2,nu2,nm2,tx2,ks2,kd2,ht2,hk2,hkl2,htx2,hkt2,_⟩:=b9k c2
 simp only at c4 s4 ht2
 subst ht2
 obtain ⟨lb,db,e5,hdb,sb⟩:=c0F [.int .i64 op2,.str nm2,.str tx2,.int .i64 nu2,kd2] l dl g4 hl (by omega) (fun g=>b5u _ _ _ _ _ _ _) fun e he g=>b5s hk2 hkl2 htx2 hkt2 (hok.1 e he) g
 obtain ⟨v,g6,e6,c6,s6,v0,v1⟩:=a1D c4 3 (by omega) (by omega)
 rw [c2V]
 simp only [b8P,e0,e1,e2,e3,e4,e5,e6,bs,a0P,c8E]
 refine Wp.bind (P:=fun (r:Out)=>r.1 = .nrm∧r.2.2=g6∧∃ (a b:List Ev) (da db:D),r.2.1=[da,db]∧SlOf 10 evr a da∧SlOf 10 evr b db∧a.Sublist l∧b.Sublist l) ?_ ?_
 ·refine Wp.dif ?_ ?_
  ·intro _
   exact .some ⟨rfl,rfl,l,l,dl,dl,rfl,hl,hl,.refl _,.refl _⟩
  ·intro _
   exact .some ⟨rfl,rfl,la,lb,da,db,rfl,hda,hdb,sa,sb⟩
 rintro ⟨ex,ds,g⟩ ⟨rfl,hg,a,b,da,db,hds,ha,hb,ua,ub⟩
 simp only at hg hds
 subst hg hds
 have hp:a0J tab a1d 5 [0,1,2,3,4] [.str [64,116,114,97,99,101],.str [117,115,101,114],.str [108,101,118,101,108],.str [64,104,111,115,116],.str [110,111,110,101]]=some (.sl 1 true (([[64,116,114,97,99,101],[117,115,101,114],[108,101,118,101,108],[64,104,111,115,116],[110,111,110,101]]:List Str).map sr)):=id rfl
 have ld:∀ (s:Str) g,a0c tab g ty9 (.fptr [.str s])=some (.str s):=fun s g=>id rfl
 obtain ⟨x,g7,e7,c7,s7,x0,x1⟩:=a1D c6 5 (by omega) (by omega)
 obtain ⟨s,hs,hi⟩:=b0v [[64,116,114,97,99,101],[117,115,101,114],[108,101,118,101,108],[64,104,111,115,116],[110,111,110,101]] x x0 x1
 obtain ⟨w,g8,e8,c8,s8,w0,w1⟩:=a1D c7 80 (by omega) (by omega)
 have hko:b3l s:=(show ∀ s∈([[64,116,114,97,99,101],[117,115,101,114],[108,101,118,101,108],[64,104,111,115,116],[110,111,110,101]]:List Str),b3l s by unfold b3l;decide) s hs
 simp only [a0j,a0e,a0h,hp,e7,hi,ld,e8,bs,a1k,c8E]
 exact .some ⟨a,b,da,db,s,w,_,rfl,c8,ha,hb,fun e he=>hok.1 e (ua.subset he),fun e he=>hok.1 e (ub.subset he),hpd.sublist ua,by have:=ua.length_le;omega,by have:=ub.length_le;omega,hko,w0,w1⟩
theorem a2Q {e:Ev} (h:a8F e):JE e:=by
 obtain ⟨hi,h1,h2,h3,h4⟩:=h
 obtain ⟨t0,t9,_⟩:=hi.ev rfl
 exact ⟨by omega,by omega,t0,t9⟩
def RdP (h:Hp) (l:List (Ev × Ev)) (d:D):Prop:=SlOf 20 prE l d∨∃ ob,d = .msl 20 ob 0 l.length∧h[ob]?=some (.row a1i 20 (l.map prE))
theorem RdP.own {h:Hp} {n0:Nat} {l:List (Ev × Ev)} {d:D} (hd:Own h n0 a1i 20 (l.map prE) d):RdP h l d:=by
 rcases hd with ⟨rfl,hl⟩ | ⟨o,_,rfl,ho⟩
 ·exact .inl (.inl ⟨rfl,by simpa using hl⟩)
 ·exact .inr ⟨o,by rw [c8K],ho⟩
theorem a8w {h:Hp} {l:List (Ev × Ev)} {d:D} (hd:RdP h l d):a0B tab a0Q d=some (.int .i64 l.length):=by
 rcases hd with hd | ⟨ob,rfl,_⟩
 ·exact a9J hd
 ·exact b4q _ _ _ _
theorem b5D {h:Hp} {l:List (Ev × Ev)} {d:D} (hd:RdP h l d) (i:Nat) (p:Ev × Ev) (hp:l[i]?=some p):∃ q qa qb,a0a tab a0Q d (.int .i64 (i:Int))=some q∧a0b tab a1i 0 q=some qa∧a0b tab a1i 1 q=some qb∧a0c tab h a0D qa=some (.agg (evr p.1))∧a0c tab h a0D qb=some (.agg (evr p.2)):=by
 have hi:=(c8U.1 hp).1
 rcases hd with hd | ⟨ob,rfl,ho⟩
 ·exact ⟨.fptr (prE p),.fptr (prE p),.fptr (evr p.2),by rw [b1V hd];simp [-bind_some, hp],id rfl,id rfl,id rfl,id rfl⟩
 ·have hr:(l.map prE)[i]?=some (prE p):=by rw [c8R,hp];rfl
  have hh:(0:Int)≤(i:Int)∧(i:Int)<(l.length:Int):=by omega
  refine ⟨.ptr ob i 0,.ptr ob i (0+0),.ptr ob i (0+10),by rw [b6O];simp [-bind_some, hh],id rfl,id rfl,?_,?_⟩
  ·rw [b2c,a1y ho,hr];rfl
  ·rw [b2c,a1y ho,hr];rfl
def smP (p q:Ev × Ev):Bool:=a2D p.1 q.1&&a2D p.2 q.2
theorem b4J (p:Ev × Ev):smP p p=true:=by simp [-bind_some, smP,b0z]
theorem c4k (A B:List (Ev × Ev)) (dA dB:D) (h:Hp) (hA:RdP h A dA) (hB:RdP h B dB) (hl:A.length≤1000000):∃ b:Bool,R a4j [dA,dB] h=some (.bool b,h)∧(b=true↔A.length=B.length∧∀ (i:Nat) x y,A[i]?=some x→B[i]?=some y→smP x y=true):=by
 suffices Wp (R a4j [dA,dB] h) (fun p=>p.2=h∧∃ b:Bool,p.1 = .bool b∧(b=true↔A.length=B.length∧∀ (i:Nat) x y,A[i]?=some x→B[i]?=some y→smP x y=true)) by
  obtain ⟨⟨x,h'⟩,h1,rfl,b,rfl,h2⟩:=this
  exact ⟨b,h1,h2⟩
 rw [c2W]
 simp only [b8Q,bs,a8w hA,a8w hB,a2E,c8E]
 refine Wp.dif ?_ ?_
 ·intro hne
  have hne:¬ A.length=B.length:=by
   intro hh
   rw [hh] at hne
   simp at hne
  simp only [a0q]
  exact .some ⟨rfl,false,rfl,by simp [-bind_some, hne]⟩
 intro heq
 have heq:A.length=B.length:=by
  have:(A.length:Int)=(B.length:Int):=by simpa using heq
  omega
 refine Wp.loop (fun n ds g=>g=h∧∃ (i:Nat) (a b:D),ds=[.bool false,.int .i64 (i:Int),a,b]∧n+i=A.length∧∀ (j:Nat) x y,j<i→A[j]?=some x→B[j]?=some y→smP x y=true)
  (fun r=>r.2.2=h∧((r.1 = .ext 0∧∀ (i:Nat) x y,A[i]?=some x→B[i]?=some y→smP x y=true)∨(r.1 = .ret∧(∃ rest,r.2.1 = .bool false::rest)∧∃ (i:Nat) (x y:Ev × Ev),A[i]?=some x∧B[i]?=some y∧smP x y=false))) A.length ⟨rfl,0,_,_,rfl,by omega,fun j x y hj=>by omega⟩ ?_ ?_
 ·rintro n ds g ⟨rfl,i,a,b,rfl,hn,hall⟩
  simp only [a8Z,a0e,a0h,bs,a8w hA,a0s,c8E]
  refine Wp.dif ?_ ?_
  ·intro h0
   have h0:i<A.length:=by
    have:(i:Int)<(A.length:Int):=by simpa using h0
    omega
   have w1:=wi_ i (by omega)
   obtain ⟨x,hx⟩:=gx_ h0
   obtain ⟨y,hy⟩:∃ y,B[i]?=some y:=⟨_,c8T (by omega)⟩
   obtain ⟨q,qa,qb,i1,i2,i3,i4,i5⟩:=b5D hA i x hx
   obtain ⟨r,ra,rb,j1,j2,j3,j4,j5⟩:=b5D hB i y hy
   have bad:smP x y=false→∃ (i:Nat) (x y:Ev × Ev),A[i]?=some x∧B[i]?=some y∧smP x y=false:=fun hh=>⟨i,x,y,hx,hy,hh⟩
   have good:smP x y=true→∀ (j:Nat) u v,j<i+1→A[j]?=some u→B[j]?=some v→smP u v=true:=fun hh j u v hj hu hv=>by
    rcases Nat.lt_or_ge j i with h1 | h1
    ·exact hall j u v h1 hu hv
    ·have:j=i:=by omega
     subst this
     rw [hx] at hu
     rw [hy] at hv
     injection hu with hu
     injection hv with hv
     subst hu hv
     exact hh
   simp only [i1,i2,i4,j1,j2,j4,bs,s61,a1f,c8E]
   cases h1:a2D x.1 y.1 with
   | false =>
    simp only [c8P,a0y,a0I,a0Y,reduceCtorEq,c8G,if_false,if_true,bs,a0n,a0d,c8E]
    exact .some (.inr ⟨by simp,rfl,.inr ⟨rfl,⟨_,rfl⟩,bad (by unfold smP;rw [h1];rfl)⟩⟩)
   | true =>
    simp only [c8O,a0y,a0I,if_true,bs,i1,i3,i5,j1,j3,j5,s61,a1f,a0n,c8F,if_false,c8E]
    cases h2:a2D x.2 y.2 with
    | false =>
     simp only [c8P,a0d,if_true]
     exact .some (.inr ⟨by simp,rfl,.inr ⟨rfl,⟨_,rfl⟩,bad (by unfold smP;rw [h1,h2];rfl)⟩⟩)
    | true =>
     simp only [c8O,a0d,c8F,if_false,a0m,w1,bs]
     exact .some (.inl ⟨rfl,n - 1,by omega,rfl,i+1,_,_,rfl,by omega,good (by unfold smP;rw [h1,h2];rfl)⟩)
  ·intro h0
   have h0:A.length≤i:=by
    have:¬ (i:Int)<(A.length:Int):=by simpa using h0
    omega
   refine .some (.inr ⟨by simp,rfl,.inl ⟨rfl,fun j x y hx hy=>hall j x y ?_ hx hy⟩⟩)
   have:=(c8U.1 hx).1
   omega
 ·rintro ⟨ex,ds,g⟩ ⟨rfl,⟨rfl,hall⟩ | ⟨rfl,⟨rest,rfl⟩,i,x,y,hx,hy,hb⟩⟩
  ·simp only [a0p,a0j,bs,a0q]
   exact .some ⟨rfl,true,rfl,by simp [-bind_some, heq];exact fun i a b c d=>hall i (a,b) (c,d)⟩
  ·simp only [a0U,a1o,a1j,a0e,bs,a0q]
   exact .some ⟨rfl,false,rfl,by simp [-bind_some, heq];exact ⟨i,x.1,x.2,hx,y.1,y.2,hy,hb⟩⟩
theorem prs_mem {key:Str} {w:Int} {L R:List Ev} {p:Ev × Ev}:p∈prs key w L R↔p.1∈L∧p.2∈R∧mtE key w p.1 p.2=true:=by
 unfold prs
 constructor
 ·intro h
  obtain ⟨x,hx,h⟩:=List.mem_flatMap.1 h
  obtain ⟨y,hy,rfl⟩:=c9b.1 h
  obtain ⟨h1,h2⟩:=List.mem_filter.1 hy
  exact ⟨hx,h1,h2⟩
 ·rintro ⟨h1,h2,h3⟩
  exact List.mem_flatMap.2 ⟨p.1,h1,c9b.2 ⟨p.2,List.mem_filter.2 ⟨h2,h3⟩,rfl⟩⟩
theorem c8w {n:Int} (h:(decide (IntKind.u16.min≤n)&&decide (n≤IntKind.u16.max))=true):0≤n∧n<65536:=by
 have h1:IntKind.u16.min=0:=rfl
 have h2:IntKind.u16.max=65535:=rfl
 rw [h1,h2] at h
 simp at h
 omega
def a7K (w:Int) (p:Ev × Ev):Bool:=decide (p.1.a5 - p.2.a5≤w)&&decide (p.2.a5 - p.1.a5≤w)
theorem b4B {key:Str} {w w':Int} (hw:w≤w') (L R:List Ev):(prs key w' L R).filter (a7K w)=prs key w L R:=by
 unfold prs
 rw [List.filter_flatMap]
 refine a2k fun x _=>?_
 rw [List.filter_map,List.filter_filter]
 congr 1
 refine a4O fun y _=>?_
 unfold a7K mtE
 simp only [Function.comp]
 by_cases h1:x.a5 - y.a5≤w
 ·by_cases h2:y.a5 - x.a5≤w
  ·have h3:x.a5 - y.a5≤w':=by omega
   have h4:y.a5 - x.a5≤w':=by omega
   simp [-bind_some, h1,h2,h3,h4]
  ·simp [-bind_some, h1,h2]
 ·simp [-bind_some, h1]
theorem b6V (zs:List Int) (d:D) (m:Int) (hd:a3D .u8 zs d) (hz:∀ z∈zs,0≤z∧z<256) (hm:0≤m∧m<65536):∃ h',R1 b1D [d,.int .u16 m] []=some (.bool true,h'):=by
 suffices Wp (R1 b1D [d,.int .u16 m] []) (fun p=>p.1 = .bool true) by
  obtain ⟨⟨x,h'⟩,h1,rfl⟩:=this
  exact ⟨h',h1⟩
 obtain ⟨a,b,da,db,key,w,o,g,e0,c0,ha,hb,S⟩:=c4j zs d hd hz
 have w0:=S.w0
 have w1:=S.w1
 have la:=S.la
 have lb:=S.lb
 have cv:IntKind.wrap .i64 m=m:=wrap_i64 (by omega) (by omega)
 have wm:IntKind.wrap .i64 (w+m)=w+m:=wrap_i64 (by omega) (by omega)
 have ends:∀ g':Hp,scope [] g' (.bool true)=some (.bool true,[]):=fun g'=>a1n (by simp) (.bool _) (Nat.zero_le _) fun q hq=>by simp at hq
 have hn:=b4B (key:=key) (show w≤w+m by omega) a b
 have hle:(prs key w a b).length≤(prs key (w+m) a b).length:=by rw [← hn];exact List.length_filter_le _ _
 rw [c2U]
 simp only [b8O,bs,b7j,c4e,a1f,c8O,a0d,c8F,if_false,b7n,e0,a0G,c8H,c8I,b3Q,cv,a0m,wm,c8E]
 rcases b7N a b da db key w g (.of ha) (.of hb) (by omega) (by omega) (fun e he=>a2Q (S.ea e he)) (fun e he=>a2Q (S.eb e he)) S.k with ⟨h1,h2⟩ | ⟨h1,dp,h2,hp⟩
 ·rcases b7N a b da db key (w+m) g (.of ha) (.of hb) (by omega) (by omega) (fun e he=>a2Q (S.ea e he)) (fun e he=>a2Q (S.eb e he)) S.k with ⟨k1,k2⟩ | ⟨k1,dq,k2,hq⟩
  ·have d4:decide (¬ (4:Int)=0)=true:=rfl
   have d5:decide ((4:Int)=0)=false:=rfl
   simp only [h2,k2,bs,a0G,c8H,c8I,a2E,ne_eq,d4,a0y,a0Y,reduceCtorEq,c8G,c8F,if_false,if_true,a0n,a0d,a0P,d5,decide_true,a0q,ends,c8E]
   exact .some rfl
  ·omega
 ·rcases b7N a b da db key (w+m) g (.of ha) (.of hb) (by omega) (by omega) (fun e he=>a2Q (S.ea e he)) (fun e he=>a2Q (S.eb e he)) S.k with ⟨k1,k2⟩ | ⟨k1,dq,k2,hq⟩
  ·have d4:decide (¬ (4:Int)=0)=true:=rfl
   have d5:decide (¬ (0:Int)=0)=false:=rfl
   simp only [h2,k2,bs,a0G,c8H,c8I,a2E,ne_eq,d4,d5,a0y,a0Y,reduceCtorEq,c8G,c8F,if_false,if_true,a0n,a0d,a0P,decide_true,a0q,ends,c8E]
   exact .some rfl
  ·have d5:decide (¬ (0:Int)=0)=false:=rfl
   simp only [h2,k2,bs,a0G,c8H,c8I,a2E,ne_eq,d5,a0y,a0Y,reduceCtorEq,c8G,c8F,if_false,if_true,a0n,a0d,c8E]
   have je:∀ p∈prs key (w+m) a b,JE p.1∧JE p.2:=fun p hp=>by
    obtain ⟨m1,m2,_⟩:=prs_mem.1 hp
    exact ⟨a2Q (S.ea _ m1),a2Q (S.eb _ m2)⟩
   generalize prs key (w+m) a b=Q at hq hn k1 je
   have hL:∀ (p:Ev × Ev) g,a0c tab g a1i (.fptr (prE p))=some (.agg (prE p)):=fun p g=>id rfl
   have hS:∀ p:Ev × Ev,a0J tab a0Q 1 [0] [.agg (prE p)]=some (.sl 20 true [prE p]):=fun p=>id rfl
   refine Wp.loop (fun n ds g'=>∃ (i:Nat) (x a b:D),ds=[x,.int .i64 (i:Int),a,b]∧n+i=Q.length∧Own g' 0 a1i 20 (((Q.take i).filter (a7K w)).map prE) x)
    (fun r=>r.1 = .ext 0∧∃ x rest,r.2.1=x::rest∧Own r.2.2 0 a1i 20 ((Q.filter (a7K w)).map prE) x) Q.length ⟨0,_,_,_,rfl,by omega,.inl ⟨rfl,rfl⟩⟩ ?_ ?_
   ·rintro n ds g' ⟨i,x,a1,b1,rfl,hn',ow⟩
    simp only [a8Y,a0e,a0h,bs,a9J hq,a0s,c8E]
    refine Wp.dif ?_ ?_
    ·intro h0
     have h0:i<Q.length:=by
      have:(i:Int)<(Q.length:Int):=by simpa using h0
      omega
     have w9:=wi_ i (by omega)
     obtain ⟨p,hi⟩:=gx_ h0
     obtain ⟨j1,j2⟩:=je p (c8S hi)
     have tk:Q.take (i+1)=Q.take i++[p]:=by rw [c8Q,hi];rfl
     have f1:a0b tab a1i 0 (.fptr (prE p))=some (.fptr (prE p)):=id rfl
     have f2:a0b tab a1i 1 (.fptr (prE p))=some (.fptr (evr p.2)):=id rfl
     have l1:a0c tab g' a0D (.fptr (prE p))=some (.agg (evr p.1)):=id rfl
     have l2:a0c tab g' a0D (.fptr (evr p.2))=some (.agg (evr p.2)):=id rfl
     simp only [b1V hq,Int.natCast_nonneg,if_true,c8N,hi,Option.map_some,bs,f1,f2,l1,l2,b7k,b7s p.1 p.2 w g' ⟨j1.2.2.1,j1.2.2.2⟩ ⟨j2.2.2.1,j2.2.2.2⟩,c8E]
     refine Wp.join (P:=fun (r:Out)=>r.1 = .nrm∧∃ x,r.2.1=[x]∧Own r.2.2 0 a1i 20 (((Q.take (i+1)).filter (a7K w)).map prE) x) ?_ ?_ ?_
     ·intro hb
      have hf:a7K w p=true:=hb
      have hfl:=List.length_filter_le (a7K w) (Q.take i)
      rw [c8Y] at hfl
      simp only [hL,hS,bs]
      refine b3h (n0:=0) (ys:=[prE p]) (Nat.zero_le _) ow (a0N _ _ _ _) (by rw [c8K];simp [-bind_some];omega) fun x9 g3 o3 l3 b3 _ _=>?_
      refine .some ⟨rfl,x9,rfl,?_⟩
      rw [tk,List.filter_append,c8L]
      simp only [List.filter_cons,hf,if_true,List.filter_nil]
      exact o3
     ·intro hb
      have hf:a7K w p=false:=hb
      refine .some ⟨rfl,x,rfl,?_⟩
      rw [tk,List.filter_append]
      simp only [List.filter_cons,hf,c8F,if_false,List.filter_nil,List.append_nil]
      exact ow
     ·rintro ⟨ex,ds1,g3⟩ ⟨rfl,x',hds,o3⟩
      simp only at hds o3
      subst hds
      simp only [a0O,a0j,a0e,a0m,w9,bs]
      exact .some (.inl ⟨rfl,n - 1,by omega,i+1,_,_,_,rfl,by omega,o3⟩)
    ·intro h0
     have h0:Q.length≤i:=by
      have:¬ (i:Int)<(Q.length:Int):=by simpa using h0
      omega
     rw [List.take_of_length_le h0] at ow
     exact .some (.inr ⟨by simp,rfl,_,_,rfl,ow⟩)
   ·rintro ⟨ex,ds,g'⟩ ⟨rfl,x,rest,rfl,ow⟩
    simp only at ow
    rw [hn] at ow
    obtain ⟨bb,eb,hbb⟩:=c4k (prs key w a b) (prs key w a b) x dp g' (RdP.own ow) (.inl hp) (by omega)
    have hb1:bb=true:=hbb.2 ⟨rfl,fun i x y hx hy=>by rw [hx] at hy;injection hy with hy;subst hy;exact b4J x⟩
    subst hb1
    simp only [a0p,a0j,a0e,bs,b7o,eb,a0q,ends]
    exact .some rfl
end Go.Proofs.YtkpnnfhodlanjaaGreatDoor
