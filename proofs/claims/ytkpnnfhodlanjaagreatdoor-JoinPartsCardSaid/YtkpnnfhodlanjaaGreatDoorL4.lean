/- Laws, on plain data, about functions that the statement reaches. -/
import Derived.Test.YtkpnnfhodlanjaaGreatDoorL3
set_option linter.unusedSimpArgs false
set_option linter.unusedVariables false
set_option linter.unnecessarySimpa false
set_option maxRecDepth 100000
namespace Go.Proofs.YtkpnnfhodlanjaaGreatDoor
open Go.Eng Go.Pi
open Option (bind_some)
theorem c4w (s t:Str) (h:Hp) (hs:s.length≤100000) (ht:t.length≤100000):∃ b:Bool,R a9L [.str s,.str t] h=some (.bool b,h):=by
 suffices Wp (R a9L [.str s,.str t] h) (fun p=>p.2=h∧∃ b:Bool,p.1 = .bool b) by
  obtain ⟨⟨x,h'⟩,h1,rfl,b,rfl⟩:=this
  exact ⟨b,h1⟩
 rw [c3j]
 simp only [b9a,bs,c8N]
 refine Wp.loop (fun n ds g=>g=h∧∃ (i:Nat) (x y:D),ds=[.bool false,.int .i64 (i:Int),x,y]∧n+i=s.length+1)
  (fun r=>r.2.2=h∧((r.1 = .ext 0)∨(r.1 = .ret∧∃ rest,r.2.1 = .bool true::rest))) (s.length+1) ⟨rfl,0,_,_,rfl,by omega⟩ ?_ ?_
 ·rintro n ds g ⟨rfl,i,x,y,rfl,hn⟩
  have w1:IntKind.wrap .i64 ((i:Int)+(t.length:Int))=((i+t.length:Nat):Int):=by rw [wrap_i64 (by omega) (by omega)];omega
  have w2:=wi_ i (by omega)
  simp only [a9l,a0e,a0g,bs,b2p,a0k,w1,a0Y,c8N]
  refine Wp.dif ?_ ?_
  ·intro h0
   have h0:i+t.length≤s.length:=by
    have:((i+t.length:Nat):Int)≤(s.length:Int):=by simpa using h0
    omega
   have hsl:a0E tab ty9 true true false [.str s,.int .i64 (i:Int),.int .i64 ((i+t.length:Nat):Int)]=some (.str ((s.take (i+t.length)).drop i)):=by
    have h2:tab ty9=some ti9:=id rfl
    have h3:ti9.td = .str:=id rfl
    have h4:(0:Int)≤(i:Int)∧(i:Int)≤((i+t.length:Nat):Int)∧((i+t.length:Nat):Int)≤(s.length:Int):=by omega
    simp only [a0E,a1S,bs,a1t,h2,h3]
    simp only [Option.getD_some,h4,and_self,if_true,c8W]
    try simp [-bind_some]
   simp only [hsl,bs,a1L]
   refine Wp.dif ?_ ?_
   ·intro _
    exact .some (.inr ⟨by simp,rfl,.inr ⟨rfl,_,rfl⟩⟩)
   ·intro _
    simp only [w2,bs]
    exact .some (.inl ⟨rfl,n - 1,by omega,rfl,i+1,_,_,rfl,by omega⟩)
  ·intro _
   exact .some (.inr ⟨by simp,rfl,.inl rfl⟩)
 ·rintro ⟨ex,ds,g⟩ ⟨rfl,rfl | ⟨rfl,rest,rfl⟩⟩
  ·simp only [a0o,a0j,bs,a0s]
   exact .some ⟨rfl,_,rfl⟩
  ·simp only [a0U,a1n,a1i,a0e,bs,a0s]
   exact .some ⟨rfl,_,rfl⟩
theorem b3M {g:Hp} {w:List Int} {x:D} (v:Int) (hx:RdB g w x) (hw:w.length≤1000):∃ x' g',a0D tab g a3h a3h (.sl 1 true [[.int .u8 v]]) x=some (x',g')∧RdB g' (v::w) x'∧Keep g g':=by
 have hr:=a6U hx
 have t1:tab a3h=some ti22:=id rfl
 have t2:ti22.td = .sl ty5:=id rfl
 have t3:tab ty5=some ti5:=id rfl
 have t4:ti5.sz=1:=id rfl
 have t5:Nat.blt 0 ti5.sz=true:=id rfl
 have hs:b5p g ti22 ti5 x=some (w.map byr):=by simp [-bind_some, b5p,t2,t4,hr]
 unfold a0D
 simp only [t1,t2,t3,t5,hs]
 cases w with
 | nil=>exact ⟨_,_,rfl,.inl (SlOf.mk 1 byr [v] true),.refl _⟩
 | cons a w =>
  have hl:lim (List.length [[D.int .u8 v]]+((a::w).map byr).length) ti5.by_=true:=by
   refine a2B ?_ ?_
   ·have:ti5.by_=1:=id rfl
    rw [this]
    simp at hw ⊢;omega
   ·simp at hw ⊢;omega
  simp only [c8V] at hl ⊢
  rw [if_pos ⟨t4.symm,hl⟩]
  refine ⟨_,_,rfl,.inr ⟨g.length,?_,?_⟩,?_⟩
  ·rw [t4];simp [-bind_some];omega
  ·rw [t4];exact a2j _ _ _ _
  ·exact ⟨by simp [-bind_some, a1h],fun q hq=>a1T _ _ _ _ hq⟩
theorem b2U (n:Int) (h:Hp) (h0:0≤n) (h9:n≤1000000000000000000):∃ s:Str,R a4m [.int .i64 n] h=some (.str s,h):=by
 suffices Wp (R a4m [.int .i64 n] h) (fun p=>p.2=h∧∃ s:Str,p.1 = .str s) by
  obtain ⟨⟨x,h'⟩,h1,rfl,s,rfl⟩:=this
  exact ⟨s,h1⟩
 have d0:decide (n<0)=false:=decide_eq_false (by omega)
 have w1:IntKind.wrap .u64 n=n:=a1y h0 (by omega)
 rw [b9u]
 simp only [b5W,bs,c8N,a9q,w1,a0q,d0,a0d,c8O,if_false,a0j,a0e]
 refine Wp.loop (fun k ds g=>∃ (u:Int) (x a:D) (w:List Int),ds=[.int .u64 u,x,a]∧0≤u∧u≤1000000000000000000∧u<(10:Int) ^ k∧w.length+k=19∧RdB g w x∧Keep h g)
  (fun r=>r.1 = .ext 0∧∃ (u x a:D) (w:List Int),r.2.1=[u,x,a]∧RdB r.2.2 w x∧Keep h r.2.2) 19 ⟨n,_,_,[],rfl,h0,h9,by omega,rfl,.inl (.nils _ _),.refl _⟩ ?_ ?_
 ·rintro k ds g ⟨u,x,a,w,rfl,u0,u9,hu,hk,hx,kp⟩
  have r1:Int.tmod u 10=u % 10:=Int.tmod_eq_emod_of_nonneg u0
  have q1:Int.tdiv u 10=u / 10:=Int.tdiv_eq_ediv_of_nonneg u0
  have w2:IntKind.wrap .u64 (48+u % 10)=48+u % 10:=a1y (by omega) (by omega)
  have w3:IntKind.wrap .u8 (48+u % 10)=48+u % 10:=by rw [a4F];omega
  have w4:IntKind.wrap .u64 (u / 10)=u / 10:=a1y (by omega) (by omega)
  obtain ⟨x',g',e1,hx',kp'⟩:=b3M (48+u % 10) hx (by omega)
  simp only [a5V,a0e,a0g,bs,a6x,show ¬ (10:Int)=0 by omega,if_false,r1,a0k,w2,a4y,w3,b5k,e1,a1D,q1,w4,a0Q,c8N]
  refine Wp.dif ?_ ?_
  ·intro _
   exact .some (.inr ⟨by simp,rfl,_,_,_,_,rfl,hx',kp.trans kp'⟩)
  ·intro hz
   have hz:¬ u / 10=0:=by simpa using hz
   cases k with
   | zero=>simp at hu;omega
   | succ k =>
    rw [Int.pow_succ] at hu
    generalize hP:(10:Int) ^ k=P at hu
    refine .some (.inl ⟨rfl,k,Nat.lt_succ_self _,u / 10,_,_,(48+u % 10)::w,rfl,by omega,by omega,?_,by rw [c9e];omega,hx',kp.trans kp'⟩)
    rw [hP];omega
 ·rintro ⟨ex,ds,g⟩ ⟨rfl,u,x,a,w,rfl,hx,kp⟩
  simp only at hx kp
  have ts:a3u g x=some (.str (bys w)):=by simp only [a3u,a6U hx,a4M]
  have hsc:scope h g (.str (bys w))=some (.str (bys w),h):=a1m (by simp) (.str _) kp.1 kp.2
  simp only [a0o,a0j,a0e,a0g,bs,a0q,d0,a0d,c8O,if_false,ts,a0s,hsc,c8N]
  exact .some ⟨rfl,_,rfl⟩
theorem c4l (c:Int) (h:Hp):∃ b:Bool,R b1C [.int .u8 c] h=some (.bool b,h):=by
 rw [c2w]
 simp only [b8n,a0S,a0Y,bs]
 cases h1:decide ((48:Int)≤c) <;> cases h2:decide (c≤(57:Int)) <;>
  simp only [h1,h2,a0x,a1a,reduceCtorEq,c8O,if_false,if_true,bs,a0n,a0Y,a0s] <;> exact ⟨_,rfl⟩
theorem c4k (s:Str) (h:Hp):∃ (v:Int) (b:Bool),R a9C [.str s] h=some (.tup [.int .i64 v,.bool b],h):=by
 suffices Wp (R a9C [.str s] h) (fun p=>p.2=h∧∃ (v:Int) (b:Bool),p.1 = .tup [.int .i64 v,.bool b]) by
  obtain ⟨⟨x,h'⟩,h1,rfl,v,b,rfl⟩:=this
  exact ⟨v,b,h1⟩
 rw [c2v]
 cases s with
 | nil =>
  have d0:decide ((0:Int)<(([]:Str).length:Int))=false:=rfl
  have d1:decide ((([]:Str).length:Int)<1)=true:=rfl
  simp only [b5X,bs,b2p,a1e,d0,a0x,a1a,reduceCtorEq,c8O,c8P,if_false,if_true,a0n,a0d,a0j,a0e,a0q,d1,a0G,c8N]
  exact .some ⟨rfl,_,_,rfl⟩
 | cons c r =>
  have d0:decide ((0:Int)<((c::r:Str).length:Int))=true:=decide_eq_true (by rw [c9e];omega)
  have hi:a2N tab ty9 (.str (c::r)) (.int .i64 0)=some (.int .u8 c.toNat):=c4z (c::r) 0 c rfl
  have hd:a0E tab ty9 true false false [.str (c::r),.int .i64 1]=some (.str r):=by
   have h2:tab ty9=some ti9:=id rfl
   have h3:ti9.td = .str:=id rfl
   have h4:(1:Int)≤((c::r:Str).length:Int):=by rw [c9e];omega
   simp only [a0E,a1S,bs,a1t,h2,h3]
   simp [-bind_some]
   omega
  simp only [b5X,bs,b2p,a1e,d0,a0x,if_true,hi,a0Q,a0n,c8N]
  refine Wp.join (P:=fun (r:Out)=>r.1 = .nrm∧r.2.2=h∧∃ d:Str,r.2.1=[.str d]) ?_ ?_ ?_
  ·intro _
   simp only [hd,bs]
   exact .some ⟨rfl,rfl,r,rfl⟩
  ·intro _
   exact .some ⟨rfl,rfl,_,rfl⟩
  ·rintro ⟨ex,ds,g⟩ ⟨rfl,hg,d,hds⟩
   simp only at hds hg
   subst hds hg
   have hc:∀ {γ:Type} (F:D→Option γ),((gd (.bool (decide ((d.length:Int)<1))) false (some (.str d))).bind fun t22=>(gd (.bool (decide ((d.length:Int)<1))) false (a0B tab ty9 t22)).bind fun t23=>(gd (.bool (decide ((d.length:Int)<1))) false (a0f tab .gtr ty3 t23 (.int .i64 18))).bind fun t24=>(a0K (.bool (decide ((d.length:Int)<1))) (.bool true) t24).bind F)=F (.bool (decide ((d.length:Int)<1)||decide ((18:Int)<(d.length:Int)))):=fun F=>by
    cases decide ((d.length:Int)<1) <;> simp [-bind_some, b2p]
   simp only [a0j,a0e,b2p,a0q,bs,hc,c8N]
   refine Wp.dif ?_ ?_
   ·intro _
    simp only [a0G]
    exact .some ⟨rfl,_,_,rfl⟩
   ·intro hl
    have hl:d.length≤18:=by
     have h2:¬ ((18:Int)<(d.length:Int)):=by
      intro hh
      have:decide ((18:Int)<(d.length:Int))=true:=decide_eq_true hh
      rw [this] at hl
      simp at hl
     omega
    refine Wp.loop (fun k ds g'=>g'=g∧∃ (v:Int) (i:Nat) (a b:D),ds=[.int .i64 0,.bool false,.int .i64 v,.int .i64 (i:Int),a,b]∧k+i=d.length)
     (fun r=>r.2.2=g∧((r.1 = .ext 0∧∃ (v:Int) (rest:List D),r.2.1 = .int .i64 0 :: .bool false :: .int .i64 v::rest)∨(r.1 = .ret∧∃ rest,r.2.1 = .int .i64 0 :: .bool false::rest))) d.length ⟨rfl,0,0,_,_,rfl,by omega⟩ ?_ ?_
    ·rintro k ds g' ⟨rfl,v,i,a,b,rfl,hk⟩
     simp only [a8O,a0e,a0g,bs,b2p,a0q,c8N]
     refine Wp.dif ?_ ?_
     ·intro h0
      have h0:i<d.length:=by
       have:(i:Int)<(d.length:Int):=by simpa using h0
       omega
      have w1:=wi_ i (by omega)
      obtain ⟨u,hu⟩:=gx_ h0
      obtain ⟨b1,eb⟩:=c4l (u.toNat:Int) g'
      simp only [c4z d i u hu,bs,eb,a1f,c8N]
      refine Wp.dif ?_ ?_
      ·intro _
       exact .some (.inr ⟨by simp,rfl,.inr ⟨rfl,_,rfl⟩⟩)
      ·intro _
       simp only [a2i,a0t,bs,b6n,a0k,w1,c8N]
       exact .some (.inl ⟨rfl,k - 1,by omega,rfl,_,i+1,_,_,rfl,by omega⟩)
     ·intro _
      exact .some (.inr ⟨by simp,rfl,.inl ⟨rfl,_,_,rfl⟩⟩)
    ·rintro ⟨ex,ds,g'⟩ ⟨rfl,⟨rfl,v,rest,rfl⟩ | ⟨rfl,rest,rfl⟩⟩
     ·simp only [a0o,a0j,a0e,a0g,b2p,a0q,bs,c8N]
      refine Wp.join (P:=fun (r:Out)=>r.1 = .nrm∧r.2.2=g'∧∃ v:Int,r.2.1=[.int .i64 v]) ?_ ?_ ?_
      ·intro _
       simp only [b6s,bs]
       exact .some ⟨rfl,rfl,_,rfl⟩
      ·intro _
       exact .some ⟨rfl,rfl,_,rfl⟩
      ·rintro ⟨ex,ds,g2⟩ ⟨rfl,hg,v,hds⟩
       simp only at hds hg
       subst hds hg
       simp only [a0j,a0e,bs,a0G]
       exact .some ⟨rfl,_,_,rfl⟩
     ·simp only [a0U,a1n,a1i,a0e,a0g,bs,a0G]
      exact .some ⟨rfl,_,_,rfl⟩
theorem b5Q (e:Ev) (nm:Str) (h:Hp) (he:a8L e):∃ (s:Str) (b:Bool),R a5D [.agg (evr e),.str nm] h=some (.tup [.str s,.bool b],h):=by
 obtain ⟨hi,h1,h2,h3,h4⟩:=he
 obtain ⟨t0,t9,v0,v9,_⟩:=hi.ev rfl
 by_cases hn:b3t nm
 ·exact ⟨_,_,c4g e nm h (by omega) (by omega) hn⟩
 ·have f1:a0b tab a0C 1 (.fptr (evr e))=some (.fptr (evr e).tail):=id rfl
  have f5:a0b tab a0C 5 (.fptr (evr e))=some (.fptr ((evr e).drop 5)):=id rfl
  have f6:a0b tab a0C 6 (.fptr (evr e))=some (.fptr ((evr e).drop 6)):=id rfl
  have l1:a0c tab h ty3 (.fptr (evr e).tail)=some (.int .i64 e.a1):=id rfl
  have l5:a0c tab h ty3 (.fptr ((evr e).drop 5))=some (.int .i64 e.a5):=id rfl
  have l6:a0c tab h ty3 (.fptr ((evr e).drop 6))=some (.int .i64 e.a6):=id rfl
  have v0:1≤e.a6:=v0
  have v9:e.a6≤5040:=v9
  have t0:0≤e.a5:=t0
  have t9:e.a5≤253402300799999:=t9
  obtain ⟨s1,d1⟩:=b2U e.a1 h (by omega) (by omega)
  obtain ⟨s5,d5⟩:=b2U e.a5 h (by omega) (by omega)
  obtain ⟨s6,d6⟩:=b2U e.a6 h (by omega) (by omega)
  have hcases:nm=[64,102,105,108,101]∨nm=[64,116,105,109,101]∨nm=[64,119,101,105,103,104,116]:=by
   unfold b3t at hn
   by_cases c1:nm=[64,102,105,108,101]
   ·exact .inl c1
   ·by_cases c2:nm=[64,116,105,109,101]
    ·exact .inr (.inl c2)
    ·by_cases c3:nm=[64,119,101,105,103,104,116]
     ·exact .inr (.inr c3)
     ·exact absurd ⟨c1,c2,c3⟩ hn
  rw [b9t]
  rcases hcases with rfl | rfl | rfl
  ·refine ⟨s1,true,?_⟩
   have n1:(([64,102,105,108,101]:Str)==[64,104,111,115,116])=false:=rfl
   have n2:(([64,102,105,108,101]:Str)==[64,102,105,108,101])=true:=rfl
   simp only [b0N,a1l,bs,a1L,n1,n2,a0d,c8O,if_false,if_true,f1,l1,d1,a0G]
  ·refine ⟨s5,true,?_⟩
   have n1:(([64,116,105,109,101]:Str)==[64,104,111,115,116])=false:=rfl
   have n2:(([64,116,105,109,101]:Str)==[64,102,105,108,101])=false:=rfl
   have n3:(([64,116,105,109,101]:Str)==[64,116,105,109,101])=true:=rfl
   simp only [b0N,a1l,bs,a1L,n1,n2,n3,a0d,c8O,if_false,if_true,f5,l5,d5,a0G]
  ·refine ⟨s6,true,?_⟩
   have n1:(([64,119,101,105,103,104,116]:Str)==[64,104,111,115,116])=false:=rfl
   have n2:(([64,119,101,105,103,104,116]:Str)==[64,102,105,108,101])=false:=rfl
   have n3:(([64,119,101,105,103,104,116]:Str)==[64,116,105,109,101])=false:=rfl
   have n4:(([64,119,101,105,103,104,116]:Str)==[64,119,101,105,103,104,116])=true:=rfl
   simp only [b0N,a1l,bs,a1L,n1,n2,n3,n4,a0d,c8O,if_false,if_true,f6,l6,d6,a0G]
theorem c0E (e:Ev) (nm:Str) (h:Hp) (he:a8L e):∃ (v:Int) (b:Bool),R b1A [.agg (evr e),.str nm] h=some (.tup [.int .i64 v,.bool b],h):=by
 obtain ⟨s,b,e1⟩:=b5Q e nm h he
 obtain ⟨v,c,e2⟩:=c4k s h
 have hL:a0c tab h a0C (.fptr (evr e))=some (.agg (evr e)):=id rfl
 have e3:R b1B [.str s] h=some (.tup [.int .i64 v,.bool c],h):=by
  rw [c2t]
  simp only [b8l,e2,bs,a0H,c8Q,c8R,a0G]
 rw [c2r]
 simp only [b8j,a1l,bs,hL,e1,a0H,c8Q,c8R,a1f]
 cases b with
 | true =>
  simp only [c8X,a0d,c8O,if_false,e3,bs,a0H,c8Q,c8R,a0G]
  exact ⟨_,_,rfl⟩
 | false =>
  simp only [c8Y,a0d,if_true,a0G]
  exact ⟨_,_,rfl⟩
theorem a7o:∀ (ls:List Lin) (a b:Int),chain a ls b→∀ l∈ls,l.txt.length≤35
 | [],_,_,_,l,hl=>by cases hl
 | x::r,a,b,h,l,hl=>by
  rcases c9i.1 hl with rfl | hl
  ·have h1:=h.2.2.1
   have h2:=h.2.2.2.1
   omega
  ·exact a7o r _ _ h.2.2.2.2 l hl
theorem b9C {e:Ev} (he:a8L e) (h:Hp):∃ s:Str,R a5C [.agg (evr e)] h=some (.str s,h)∧s.length≤1000:=by
 have hc:=a7o _ _ _ he.1.ch
 have n3:e.ls.length≤3:=he.1.n3
 suffices Wp (R a5C [.agg (evr e)] h) (fun p=>p.2=h∧∃ s:Str,p.1 = .str s∧s.length≤1000) by
  obtain ⟨⟨x,h'⟩,h1,rfl,s,rfl,h2⟩:=this
  exact ⟨s,h1,h2⟩
 have q4:a0b tab a0C 4 (.fptr (evr e))=some (.fptr [e.ld,.int .i64 e.a5,.int .i64 e.a6,.str e.s7,.str e.s8,e.fd]):=id rfl
 rw [c2p]
 simp only [b8h,a1l,bs,c8N]
 refine Wp.loop (fun k ds g=>g=h∧∃ (s:Str) (i:Nat) (a b:D),ds=[.str s,.int .i64 (i:Int),a,b]∧k+i=e.ls.length∧s.length≤100*i)
  (fun x=>x.2.2=h∧x.1 = .ext 0∧∃ (s:Str) (rest:List D),x.2.1 = .str s::rest∧s.length≤1000) e.ls.length ⟨rfl,[],0,_,_,rfl,by omega,by simp⟩ ?_ ?_
 ·rintro k ds g ⟨rfl,s,i,a,b,rfl,hk,hs⟩
  simp only [a8M,a0e,a0g,bs,c8N,q4,c5C,a9P e.hld,a0q]
  refine Wp.dif ?_ ?_
  ·intro h0
   have h0:i<e.ls.length:=dl_ h0
   obtain ⟨x,hx⟩:=gx_ h0
   have hxl:=hc x (c9b hx)
   have hw:=wi_ i (by omega)
   have hi:a0a tab a3s e.ld (.int .i64 (i:Int))=some (.fptr (a3Y x)):=by rw [b6U e.hld];simp [-bind_some, hx]
   have hf:a0b tab a7f 2 (.fptr (a3Y x))=some (.fptr [.str x.txt]):=id rfl
   simp only [a1e,bs]
   refine Wp.join (P:=fun (r:Out)=>r.1 = .nrm∧r.2.2=g∧∃ s:Str,r.2.1=[.str s]∧s.length≤100*i+1) ?_ ?_ ?_
   ·intro _
    rw [a3J _ _ _ _ (by simp;omega)]
    exact .some ⟨rfl,rfl,_,rfl,by simp;omega⟩
   ·intro _
    exact .some ⟨rfl,rfl,_,rfl,by omega⟩
   ·rintro ⟨ex,ds1,g1⟩ ⟨rfl,hg,s',hds,hs'⟩
    simp only at hg hds
    subst hg hds
    simp only [a0j,a0e,q4,bs,c5C,hi,hf,ld9]
    rw [a3J _ _ _ _ (by omega)]
    simp only [bs,a0k,hw]
    exact .some (.inl ⟨rfl,k - 1,by omega,rfl,_,i+1,_,_,rfl,by omega,by rw [c8S];omega⟩)
  ·intro _
   exact .some (.inr ⟨by simp,rfl,rfl,s,_,rfl,by omega⟩)
 ·rintro ⟨ex,ds,g⟩ ⟨rfl,rfl,s,rest,rfl,hs⟩
  simp only [a0o,a0j,a0e,bs,a0s]
  exact .some ⟨rfl,s,rfl,hs⟩
theorem c0L {α:Type} (kr:α→List D) (ks:List α) (kd:D) (op nu:Int) (nm tx:Str) (e:Ev) (h:Hp) (he:a8L e) (htx:tx.length≤1000) (hk:SlOf 5 kr ks kd) (hkl:ks.length≤1000)
  (hr:∀ k∈ks,a0c tab h a0l (.fptr (kr k))=some (.agg (kr k))∧∃ b:Bool,R a3v [.agg (kr k),.agg (evr e)] h=some (.bool b,h)) :
  ∃ b:Bool,R a3v [.agg [.int .i64 op,.str nm,.str tx,.int .i64 nu,kd],.agg (evr e)] h=some (.bool b,h):=by
 suffices Wp (R a3v [.agg [.int .i64 op,.str nm,.str tx,.int .i64 nu,kd],.agg (evr e)] h) (fun p=>p.2=h∧∃ b:Bool,p.1 = .bool b) by
  obtain ⟨⟨x,h'⟩,h1,rfl,b,rfl⟩:=this
  exact ⟨b,h1⟩
 have hL:a0c tab h a0C (.fptr (evr e))=some (.agg (evr e)):=id rfl
 obtain ⟨tx0,et,lt⟩:=b9C he h
 obtain ⟨ws,wd,ew,hw,lw⟩:=c4u tx0 h (by omega)
 obtain ⟨i1,b1,x1,_⟩:=c0M ws wd tx h hw (by omega)
 obtain ⟨b2,x2⟩:=c4v ws wd tx h hw (by omega)
 obtain ⟨b3,x3⟩:=c4w tx0 tx h (by omega) (by omega)
 obtain ⟨v4,b4,x4⟩:=b5Q e nm h he
 obtain ⟨v5,b5,x5⟩:=c0E e nm h he
 have lkd:∀ g,a0c tab g a0I (.fptr [kd])=some kd:=fun g=>c0f _ _ _
 have l3:∀ (n:Int) (cs:List D) g,a0c tab g ty3 (.fptr (.int .i64 n::cs))=some (.int .i64 n):=fun n cs g=>id rfl
 have l9:∀ (s:Str) (cs:List D) g,a0c tab g ty9 (.fptr (.str s::cs))=some (.str s):=fun n cs g=>id rfl
 have f0:a0b tab a0l 0 (.fptr [.int .i64 op,.str nm,.str tx,.int .i64 nu,kd])=some (.fptr [.int .i64 op,.str nm,.str tx,.int .i64 nu,kd]):=id rfl
 have f1:a0b tab a0l 1 (.fptr [.int .i64 op,.str nm,.str tx,.int .i64 nu,kd])=some (.fptr [.str nm,.str tx,.int .i64 nu,kd]):=id rfl
 have f2:a0b tab a0l 2 (.fptr [.int .i64 op,.str nm,.str tx,.int .i64 nu,kd])=some (.fptr [.str tx,.int .i64 nu,kd]):=id rfl
 have f3:a0b tab a0l 3 (.fptr [.int .i64 op,.str nm,.str tx,.int .i64 nu,kd])=some (.fptr [.int .i64 nu,kd]):=id rfl
 have f4:a0b tab a0l 4 (.fptr [.int .i64 op,.str nm,.str tx,.int .i64 nu,kd])=some (.fptr [kd]):=id rfl
 rw [c3f]
 simp only [b8W,a1l,bs,f0,l3,a0Q,c8N]
 refine Wp.dif ?_ ?_
 ·intro _
  simp only [hL,bs,et,ew,f2,l9,x1,a0H,c8Q,c8R,a1j,a0s,c8N]
  exact .some ⟨rfl,_,rfl⟩
 intro _
 refine Wp.dif ?_ ?_
 ·intro _
  simp only [hL,bs,et,ew,f2,l9,x2,a1j,a0s,c8N]
  exact .some ⟨rfl,_,rfl⟩
 intro _
 refine Wp.dif ?_ ?_
 ·intro _
  simp only [hL,bs,et,f2,l9,x3,a1j,a0s,c8N]
  exact .some ⟨rfl,_,rfl⟩
 intro _
 refine Wp.dif ?_ ?_
 ·intro _
  simp only [hL,bs,f1,l9,x4,a0H,c8Q,c8R,c8N]
  cases b4 <;> simp only [a0x,a1a,reduceCtorEq,c8O,if_false,if_true,bs,f2,l9,a1L,a0n,a0s,c8N] <;> exact .some ⟨rfl,_,rfl⟩
 intro _
 refine Wp.dif ?_ ?_
 ·intro _
  simp only [hL,bs,f1,l9,x4,a0H,c8Q,c8R,a0s,c8N]
  exact .some ⟨rfl,_,rfl⟩
 intro _
 refine Wp.bind (P:=fun (r:Out)=>r.1 = .nrm∧r.2.2=h∧∃ b:Bool,r.2.1=[.bool b]) ?_ ?_
 ·refine Wp.dif (fun _ => .some ⟨rfl,rfl,_,rfl⟩) fun _=>?_
  refine Wp.bind (P:=fun (r:Out)=>r.1 = .nrm∧r.2.2=h∧∃ b:Bool,r.2.1=[.bool b]) ?_ ?_
  ·exact Wp.dif (fun _ => .some ⟨rfl,rfl,_,rfl⟩) fun _ => .some ⟨rfl,rfl,_,rfl⟩
  ·rintro ⟨ex,ds,g⟩ ⟨rfl,hg,b,hds⟩
   simp only at hg hds
   subst hg hds
   exact .some ⟨rfl,rfl,b,rfl⟩
 rintro ⟨ex,ds,g⟩ ⟨rfl,hg,b,hds⟩
 simp only at hg hds
 subst hg hds
 simp only [a0j,a0e]
 refine Wp.dif ?_ ?_
 ·intro _
  simp only [hL,bs,f1,l9,x5,a0H,c8Q,c8R,c8N]
  cases b5 with
  | false =>
   simp only [a0x,a1a,reduceCtorEq,c8O,if_false,if_true,bs,a0n,a0s,c8N]
   exact .some ⟨rfl,_,rfl⟩
  | true =>
   cases c1:decide (op=9) <;> cases c2:decide (v5<nu) <;> cases c3:decide (op=10) <;> cases c4:decide (nu<v5) <;> cases c5:decide (op=11) <;>
    simp only [c1,c2,c3,c4,c5,a0x,a1a,reduceCtorEq,c8O,c8P,if_false,if_true,bs,f0,f3,l3,a0Q,a0q,a1e,a0n,a0s,c8N] <;> exact .some ⟨rfl,_,rfl⟩
 intro _
 refine Wp.dif ?_ ?_
 ·intro _
  simp only [bs,f4,lkd,a6O hk,a0Q,c8N]
  by_cases h1:ks.length=1
  ·have d1:decide ((ks.length:Int)=1)=true:=decide_eq_true (by omega)
   obtain ⟨k,hk0⟩:∃ k,ks[0]?=some k:=⟨_,c9c (by omega)⟩
   obtain ⟨k1,bk,k2⟩:=hr k (c9b hk0)
   have hi:a0a tab a0I kd (.int .i64 0)=some (.fptr (kr k)):=by rw [b2g hk];simp [-bind_some, hk0]
   simp only [d1,a0x,a0F,if_true,bs,f4,lkd,hi,k1,hL,k2,a1f,a0n,a0s,c8N]
   exact .some ⟨rfl,_,rfl⟩
  ·have d1:decide ((ks.length:Int)=1)=false:=decide_eq_false (by omega)
   simp only [d1,a0x,a0F,a1a,reduceCtorEq,c8O,if_false,bs,a0n,a0s,c8N]
   exact .some ⟨rfl,_,rfl⟩
 intro _
 have ixk:∀ (i:Nat) k,ks[i]?=some k→a0a tab a0I kd (.int .i64 (i:Int))=some (.fptr (kr k)):=fun i k hi=>by rw [b2g hk];simp [-bind_some, hi]
 refine Wp.bind (P:=fun (r:Out)=>r.2.2=g∧((r.1 = .nrm)∨(r.1 = .ret∧∃ b:Bool,nth 0 r.2.1 = .bool b))) ?_ ?_
 ·refine Wp.dif ?_ ?_
  ·intro _
   refine Wp.loop (fun n ds g'=>g'=g∧∃ (i:Nat) (a b:D),ds=[.bool false,.int .i64 (i:Int),a,b]∧n+i=ks.length)
    (fun r=>r.2.2=g∧∃ (b:Bool) (x y z:D),r.2.1=[.bool b,x,y,z]∧(r.1 = .ext 1∨r.1 = .ret)) ks.length ⟨rfl,0,_,_,rfl,by omega⟩ ?_ ?_
   ·rintro n ds g' ⟨rfl,i,a,b,rfl,hn⟩
    simp only [a9h,a0e,a0g,bs,f4,lkd,a6O hk,a0q,c8N]
    refine Wp.dif ?_ ?_
    ·intro h0
     have h0:i<ks.length:=by
      have:(i:Int)<(ks.length:Int):=by simpa using h0
      omega
     have w1:=wi_ i (by omega)
     obtain ⟨k,hk0⟩:=gx_ h0
     obtain ⟨k1,bk,k2⟩:=hr k (c9b hk0)
     simp only [ixk i k hk0,bs,k1,hL,k2,a1f,c8N]
     refine Wp.dif ?_ ?_
     ·intro _
      exact .some (.inr ⟨by simp,rfl,_,_,_,_,rfl,.inr rfl⟩)
     ·intro _
      simp only [a0k,w1,bs]
      exact .some (.inl ⟨rfl,n - 1,by omega,rfl,i+1,_,_,rfl,by omega⟩)
    ·intro _
     exact .some (.inr ⟨by simp,rfl,_,_,_,_,rfl,.inl rfl⟩)
   ·rintro ⟨ex,ds,g'⟩ ⟨rfl,b,x,y,z,rfl,rfl | rfl⟩
    ·simp only [a0o,a0e,a0g,bs]
     exact .some ⟨rfl,.inl rfl⟩
    ·simp only [a0U,a0e,a0g,bs]
     exact .some ⟨rfl,.inr ⟨rfl,b,rfl⟩⟩
  ·intro _
   refine Wp.dif ?_ ?_
   ·intro _
    refine Wp.loop (fun n ds g'=>g'=g∧∃ (i:Nat) (a b:D),ds=[.bool false,.int .i64 (i:Int),a,b]∧n+i=ks.length)
     (fun r=>r.2.2=g∧∃ (b:Bool) (x y z:D),r.2.1=[.bool b,x,y,z]∧(r.1 = .ext 3∨r.1 = .ret)) ks.length ⟨rfl,0,_,_,rfl,by omega⟩ ?_ ?_
    ·rintro n ds g' ⟨rfl,i,a,b,rfl,hn⟩
     simp only [a9i,a0e,a0g,bs,f4,lkd,a6O hk,a0q,c8N]
     refine Wp.dif ?_ ?_
     ·intro h0
      have h0:i<ks.length:=by
       have:(i:Int)<(ks.length:Int):=by simpa using h0
       omega
      have w1:=wi_ i (by omega)
      obtain ⟨k,hk0⟩:=gx_ h0
      obtain ⟨k1,bk,k2⟩:=hr k (c9b hk0)
      simp only [ixk i k hk0,bs,k1,hL,k2,c8N]
      refine Wp.dif ?_ ?_
      ·intro _
       exact .some (.inr ⟨by simp,rfl,_,_,_,_,rfl,.inr rfl⟩)
      ·intro _
       simp only [a0k,w1,bs]
       exact .some (.inl ⟨rfl,n - 1,by omega,rfl,i+1,_,_,rfl,by omega⟩)
     ·intro _
      exact .some (.inr ⟨by simp,rfl,_,_,_,_,rfl,.inl rfl⟩)
    ·rintro ⟨ex,ds,g'⟩ ⟨rfl,b,x,y,z,rfl,rfl | rfl⟩
     ·simp only [a0o,a0j,a0e,a0g,bs]
      exact .some ⟨rfl,.inr ⟨rfl,_,rfl⟩⟩
     ·simp only [a0U,a1n,a0e,a0g,bs]
      exact .some ⟨rfl,.inr ⟨rfl,b,rfl⟩⟩
   ·intro _
    exact .some ⟨rfl,.inl rfl⟩
 ·rintro ⟨ex,ds,g'⟩ ⟨rfl,rfl | ⟨rfl,b,hb⟩⟩
  ·simp only [a0L,a0j,a0s]
   exact .some ⟨rfl,_,rfl⟩
  ·simp only at hb
   simp only [a0U,a1n,a1i,hb,a0s]
   exact .some ⟨rfl,_,rfl⟩
theorem c0K (row:List D) (L:List Ev) (dL:D) (h:Hp) (hL:SlOf 10 evr L dL) (hl:L.length≤1000) (hrow:∀ g,a0c tab g a0l (.fptr row)=some (.agg row)) (hh:∀ e∈L,∀ g,∃ b:Bool,R a3v [.agg row,.agg (evr e)] g=some (.bool b,g)) :
  ∃ (l:List Ev) (d:D),R a7F [.agg row,dL] h=some (d,h)∧SlOf 10 evr l d∧l.Sublist L:=by
 suffices Wp (R a7F [.agg row,dL] h) (fun p=>p.2=h∧∃ l:List Ev,SlOf 10 evr l p.1∧l.Sublist L) by
  obtain ⟨⟨x,h'⟩,h1,rfl,l,h2⟩:=this
  exact ⟨l,x,h1,h2⟩
 have hLe:∀ (e:Ev) g,a0c tab g a0C (.fptr (evr e))=some (.agg (evr e)):=fun e g=>id rfl
 have hS:∀ e:Ev,a0J tab a2o 1 [0] [.agg (evr e)]=some (.sl 10 true [evr e]):=fun e=>id rfl
 rw [c3d]
 simp only [b8U,a1l,bs,c8N]
 refine Wp.loop (fun n ds g=>∃ (i:Nat) (x a b:D) (l:List Ev),ds=[x,.int .i64 (i:Int),a,b]∧n+i=L.length∧l.Sublist (L.take i)∧Own g h.length a0C 10 (l.map evr) x∧Keep h g)
  (fun r=>r.1 = .ext 0∧∃ (x:D) (rest:List D) (l:List Ev),r.2.1=x::rest∧l.Sublist L∧Own r.2.2 h.length a0C 10 (l.map evr) x∧Keep h r.2.2) L.length ⟨0,_,_,_,[],rfl,by omega,by simp,Own.nils _ _ _ _,.refl _⟩ ?_ ?_
 ·rintro n ds g ⟨i,x,a,b,l,rfl,hn,hs,ow,kp⟩
  simp only [a9f,a0e,a0g,bs,a9Q hL,a0q,c8N]
  refine Wp.dif ?_ ?_
  ·intro h0
   have h0:i<L.length:=by
    have:(i:Int)<(L.length:Int):=by simpa using h0
    omega
   have w1:=wi_ i (by omega)
   obtain ⟨u,hu⟩:=gx_ h0
   obtain ⟨bu,eu⟩:=hh u (c9b hu) g
   have tk:L.take (i+1)=L.take i++[u]:=by rw [c8Z,hu];rfl
   have hll:=hs.length_le
   rw [c9h] at hll
   simp only [hrow,b0A hL,Int.natCast_nonneg,if_true,c8W,hu,Option.map_some,bs,hLe,eu,c8N]
   refine Wp.join (P:=fun (r:Out)=>r.1 = .nrm∧∃ (x:D) (l:List Ev),r.2.1=[x]∧l.Sublist (L.take (i+1))∧Own r.2.2 h.length a0C 10 (l.map evr) x∧Keep h r.2.2) ?_ ?_ ?_
   ·intro _
    simp only [hS,bs]
    refine b0K (n0:=h.length) kp.1 ow (a0O _ _ _ _) (by rw [c8T];simp [-bind_some];omega) fun x' g2 o2 l2 b2 _ _=>?_
    exact .some ⟨rfl,x',l++[u],rfl,by rw [tk];exact hs.append (List.Sublist.refl _),by rw [c8U];exact o2,⟨Nat.le_trans kp.1 l2,fun q hq=>(b2 q hq).trans (kp.2 q hq)⟩⟩
   ·intro _
    exact .some ⟨rfl,x,l,rfl,by rw [tk];exact hs.trans (List.sublist_append_left _ _),ow,kp⟩
   ·rintro ⟨ex,ds1,g2⟩ ⟨rfl,x',l',hds,hs',ow',kp'⟩
    simp only at hds ow' kp'
    subst hds
    simp only [a0L,a0j,a0e,a0k,w1,bs]
    exact .some (.inl ⟨rfl,n - 1,by omega,i+1,_,_,_,l',rfl,by omega,hs',ow',kp'⟩)
  ·intro h0
   have h0:L.length≤i:=by
    have:¬ (i:Int)<(L.length:Int):=by simpa using h0
    omega
   rw [List.take_of_length_le h0] at hs
   exact .some (.inr ⟨by simp,rfl,x,_,l,rfl,hs,ow,kp⟩)
 ·rintro ⟨ex,ds,g⟩ ⟨rfl,x,rest,l,rfl,hs,ow,kp⟩
  simp only at ow kp
  simp only [a0o,a0j,a0e,bs,a0s]
  have hf:=a2D (n0:=h.length) (n:=3) ow (Nat.le_refl _) fun s _=>a4d _ _ _ s
  have hsc:scope h g x=some (frz h.length g 4 x,h):=a1m rfl (a1C hf fun s _=>a5z _ s) kp.1 kp.2
  rw [hsc]
  exact .some ⟨rfl,l,hf,hs⟩
structure TF where
 op:Int
 nm:Str
 tx:Str
 nu:Int
def tfr (t:TF):List D:=[.int .i64 t.op,.str t.nm,.str t.tx,.int .i64 t.nu,.nils]
theorem a6Z (n0:Nat) (h:Hp) (n:Nat) (t:TF):∀ d∈tfr t,frz n0 h n d=d:=by simp [-bind_some, tfr]
theorem b3h (n:Nat) (t:TF):∀ d∈tfr t,Ok n d:=by
 intro d hd
 simp [-bind_some, tfr] at hd
 rcases hd with rfl | rfl | rfl | rfl | rfl <;> constructor
def tzr:List D:=[.int .i64 0,.str [],.str [],.int .i64 0,.nils]
structure TS (h:Hp) (o:Nat) (g:Hp):Prop where
 st:St h o g
 z:g[h.length]?=some (.row a0l 5 [tzr])
theorem TS.same {h g g':Hp} {o:Nat} (t:TS h o g) (hc:CD g' o) (hs:Same o g g'):TS h o g':=⟨t.st.next hc hs,by rw [hs.2 _ (by have:=t.st.lt;omega)];exact t.z⟩
theorem TS.draw {h g:Hp} {o:Nat} (t:TS h o g) (n:Int) (h1:1≤n) (h2:n≤1000000000):∃ v g',R a2f [.ptr o 0 0,.int .i64 n] g=some (.int .i64 v,g')∧TS h o g'∧Same o g g'∧0≤v∧v<n:=by
 obtain ⟨v,g',e,c,s,v0,v1⟩:=a1z t.st.cd n h1 h2
 exact ⟨v,g',e,t.same c s,s,v0,v1⟩
theorem TS.lt {h g:Hp} {o:Nat} (t:TS h o g):h.length<g.length:=(c9d.1 t.z).1
theorem a8H {h g:Hp} {o:Nat} (t:TS h o g) {row row':List D} (hl:row.length=5) (hf:∀ g',g'.length=g.length→(∀ q,q≠h.length→g'[q]?=g[q]?)→frz h.length g' 4 (.agg row) = .agg row') (hok:∀ d∈row',Ok h.length d)
  (hta:a8d 5 row=some (.agg row)) {Q:D × Hp→Prop} (k:∀ h',CD h' o→Same o h h'→Q (.agg row',h')) :
  Wp ((a0p tab g a0l (.ptr h.length 0 0) (.agg row)).bind fun h'=>(a0c tab h' a0l (.ptr h.length 0 0)).bind fun d0=>scope h h' (a0m [d0])) Q:=by
 refine a8J (kk:=0) (off:=0) (v := .agg row) t.z (by rfl) (by exact hl) (by exact Nat.le_refl _) (by rfl) fun g2 p2 s2=>?_
 have hsp:spl tzr 0 (a0A (.agg row))=row:=by
  rw [a3j]
  have:∀ r:List D,r.length=5→spl tzr 0 r=r:=fun r hr=>by
   match r,hr with
   | [a,b,c,d,e],_=>rfl
  exact this row hl
 have p2:g2[h.length]?=some (.row a0l 5 [row]):=by rw [← hsp];exact p2
 have ld:a0c tab g2 a0l (.ptr h.length 0 0)=some (.agg row):=by
  rw [a8w,a1A p2]
  exact hta
 have S2:St h o g2:=⟨t.st.lt,t.st.cd.keep (s2.2 o (by have:=t.st.lt;omega)),t.st.gr.trans ⟨Nat.le_of_eq s2.1.symm,fun q hq _=>s2.2 q (by omega)⟩⟩
 obtain ⟨h',hs,hcd,hsm⟩:=S2.scope (hf g2 s2.1 fun q hq=>s2.2 q hq) (.agg _ hok)
 simp only [ld,bs,a0s,hs]
 exact .some (k h' hcd hsm)
def b3K (t1:Int) (h:Hp) (o:Nat) (p:D × Hp):Prop:=CD p.2 o∧Same o h p.2∧∃ (op nu:Int) (nm tx:Str) (ks:List TF) (kd:D),p.1 = .agg [.int .i64 op,.str nm,.str tx,.int .i64 nu,kd]∧SlOf 5 tfr ks kd∧ks.length≤3∧tx.length≤1000∧(∀ k∈ks,k.tx.length≤1000)∧(t1=0→kd = .nils)
theorem a2q {h g:Hp} {o:Nat} (t:TS h o g) (t1 op nu:Int) (nm tx:Str) (htx:tx.length≤1000) :
  Wp ((a0p tab g a0l (.ptr h.length 0 0) (.agg [.int .i64 op,.str nm,.str tx,.int .i64 nu,.nils])).bind fun h'=>(a0c tab h' a0l (.ptr h.length 0 0)).bind fun d0=>scope h h' (a0m [d0])) (b3K t1 h o) :=
 a8H t rfl (fun g' _ _=>by simp;rfl) (b3h _ ⟨op,nm,tx,nu⟩) rfl fun h' c s=>⟨c,s,op,nu,nm,tx,[],.nils,rfl,.nils _ _,by simp,htx,by simp,fun _=>rfl⟩
theorem b0D (ss:List Str) (v:Int) (h0:0≤v) (h1:v<ss.length):∃ s,s∈ss∧a0a tab a1d (.sl 1 true (ss.map sr)) (.int .i64 v)=some (.fptr [.str s]):=by
 obtain ⟨s,hs,hg⟩:=a2r ss v h0 h1
 refine ⟨s,hs,?_⟩
 rw [b6R,if_pos h0,c9a,hg]
 rfl
theorem b5m {h:Hp} {o:Nat} (hc:CD h o) (t1:Int) (ht:t1=0∨t1=1) (rec:t1=1→∀ g,CD g o→Wp (R a2x [.ptr o 0 0,.int .i64 0] g) (b3K 0 g o)):Wp (R a2x [.ptr o 0 0,.int .i64 t1] h) (b3K t1 h o):=by
 have ho:=hc.lt
 have ld:∀ (s:Str) g,a0c tab g ty9 (.fptr [.str s])=some (.str s):=fun s g=>id rfl
 have T0:TS h o (a1h h a0l 5 [tzr]):=⟨(St.refl hc).app (by simp [-bind_some, a1h]) fun q hq=>a1T _ _ _ _ hq,a2j _ _ _ _⟩
 have hz:[[D.int .i64 0,.str [],.str [],.int .i64 0,.nils]]=[tzr]:=rfl
 obtain ⟨v,g0,e0,T0,_,v0,v1⟩:=T0.draw 15 (by omega) (by omega)
 rw [c3e]
 simp only [b8V,bs,hz,e0,a0Q,c8N]
 refine Wp.join (P:=fun (r:Out)=>r.1 = .nrm∧∃ v:Int,r.2.1=[.int .i64 v]∧TS h o r.2.2∧0≤v∧v<15∧(t1=0→v<10)) ?_ ?_ ?_
 ·intro _
  obtain ⟨w,g1,e1,T1,_,w0,w1⟩:=T0.draw 10 (by omega) (by omega)
  simp only [e1,bs]
  exact .some ⟨rfl,w,rfl,T1,w0,by omega,fun _=>w1⟩
 ·intro hd
  have hd:¬ t1=0:=by simpa using hd
  exact .some ⟨rfl,v,rfl,T0,v0,v1,fun hh=>absurd hh hd⟩
 rintro ⟨ex,ds,g⟩ ⟨rfl,v,hds,T,v0,v1,vt⟩
 simp only at hds T
 subst hds
 simp only [a0j,a0e,a0Q,bs,c8N]
 refine Wp.bind (P:=fun (r:Out)=>r.1 = .nrm∧r.2.2=g∧∃ b:Bool,r.2.1=[.bool b]∧(b=false→v≠0∧v≠1)) (Wp.dif (fun hb => .some ⟨rfl,rfl,_,rfl,fun hh=>by rw [hb] at hh;cases hh⟩) fun hb => .some ⟨rfl,rfl,_,rfl,fun hh=>⟨by simpa using hb,by simpa using hh⟩⟩) ?_
 rintro ⟨ex,ds,g1⟩ ⟨rfl,hg,b1,hds,nb1⟩
 simp only at hg hds
 subst hg hds
 simp only [a0j,a0e]
 refine Wp.dif ?_ ?_
 ·intro _
  have hp:a0J tab a1d 6 [0,1,2,3,4,5] [.str [103,101,116],.str [101,114,114,111,114],.str [119,97,114,110],.str [97,49],.str [50,48,48],.str [110,111,116,104,105,110,103]]=some (.sl 1 true (([[103,101,116],[101,114,114,111,114],[119,97,114,110],[97,49],[50,48,48],[110,111,116,104,105,110,103]]:List Str).map sr)):=id rfl
  obtain ⟨w,g2,e2,T2,_,w0,w1⟩:=T.draw 6 (by omega) (by omega)
  obtain ⟨s,hs,hi⟩:=b0D [[103,101,116],[101,114,114,111,114],[119,97,114,110],[97,49],[50,48,48],[110,111,116,104,105,110,103]] w w0 w1
  have hl:s.length≤1000:=(show ∀ s∈([[103,101,116],[101,114,114,111,114],[119,97,114,110],[97,49],[50,48,48],[110,111,116,104,105,110,103]]:List Str),s.length≤1000 by decide) s hs
  simp only [hp,e2,hi,ld,bs,a3Z,c8N]
  exact a2q T2 t1 1 0 [] s hl
 intro hb1
 refine Wp.dif ?_ ?_
 ·intro _
  have hp:a0J tab a1d 5 [0,1,2,3,4] [.str [101],.str [101,114,114],.str [117],.str [50],.str [113]]=some (.sl 1 true (([[101],[101,114,114],[117],[50],[113]]:List Str).map sr)):=id rfl
  obtain ⟨w,g2,e2,T2,_,w0,w1⟩:=T.draw 5 (by omega) (by omega)
  obtain ⟨s,hs,hi⟩:=b0D [[101],[101,114,114],[117],[50],[113]] w w0 w1
  have hl:s.length≤1000:=(show ∀ s∈([[101],[101,114,114],[117],[50],[113]]:List Str),s.length≤1000 by decide) s hs
  simp only [hp,e2,hi,ld,bs,a3Z,c8N]
  exact a2q T2 t1 2 0 [] s hl
 intro h2
 refine Wp.dif ?_ ?_
 ·intro _
  have hp:a0J tab a1d 5 [0,1,2,3,4] [.str [114],.str [71,69,84],.str [32],.str [84],.str [111,32,111]]=some (.sl 1 true (([[114],[71,69,84],[32],[84],[111,32,111]]:List Str).map sr)):=id rfl
  obtain ⟨w,g2,e2,T2,_,w0,w1⟩:=T.draw 5 (by omega) (by omega)
  obtain ⟨s,hs,hi⟩:=b0D [[114],[71,69,84],[32],[84],[111,32,111]] w w0 w1
  have hl:s.length≤1000:=(show ∀ s∈([[114],[71,69,84],[32],[84],[111,32,111]]:List Str),s.length≤1000 by decide) s hs
  simp only [hp,e2,hi,ld,bs,a3Z,c8N]
  exact a2q T2 t1 3 0 [] s hl
 intro h3
 refine Wp.bind (P:=fun (r:Out)=>r.1 = .nrm∧r.2.2=g1∧∃ b:Bool,r.2.1=[.bool b]∧(b=false→v≠4∧v≠5)) (Wp.dif (fun hb => .some ⟨rfl,rfl,_,rfl,fun hh=>by rw [hb] at hh;cases hh⟩) fun hb => .some ⟨rfl,rfl,_,rfl,fun hh=>⟨by simpa using hb,by simpa using hh⟩⟩) ?_
 rintro ⟨ex,ds,g⟩ ⟨rfl,hg,b2,hds,nb2⟩
 simp only at hg hds
 subst hg hds
 simp only [a0j,a0e]
 refine Wp.dif ?_ ?_
 ·intro _
  obtain ⟨w,g2,e2,T2,_,w0,w1⟩:=T.draw 4 (by omega) (by omega)
  simp only [e2,bs,a0Q,c8N]
  refine Wp.dif ?_ ?_
  ·intro _
   have hp:a0J tab a1d 4 [0,1,2,3] [.str [64,104,111,115,116],.str [64,115,116,114,101,97,109],.str [64,116,114,97,99,101],.str [64,119,101,105,103,104,116]]=some (.sl 1 true (([[64,104,111,115,116],[64,115,116,114,101,97,109],[64,116,114,97,99,101],[64,119,101,105,103,104,116]]:List Str).map sr)):=id rfl
   have hq:a0J tab a1d 4 [0,1,2,3] [.str [49],.str [109,97,105,110],.str [116,49],.str [50]]=some (.sl 1 true (([[49],[109,97,105,110],[116,49],[50]]:List Str).map sr)):=id rfl
   obtain ⟨x,g3,e3,T3,_,x0,x1⟩:=T2.draw 4 (by omega) (by omega)
   obtain ⟨s,hs,hi⟩:=b0D [[64,104,111,115,116],[64,115,116,114,101,97,109],[64,116,114,97,99,101],[64,119,101,105,103,104,116]] x x0 x1
   obtain ⟨y,g4,e4,T4,_,y0,y1⟩:=T3.draw 4 (by omega) (by omega)
   obtain ⟨u,hu,hj⟩:=b0D [[49],[109,97,105,110],[116,49],[50]] y y0 y1
   have hl:u.length≤1000:=(show ∀ s∈([[49],[109,97,105,110],[116,49],[50]]:List Str),s.length≤1000 by decide) u hu
   simp only [hp,e3,hi,ld,hq,e4,hj,bs,a4j,a1j,c8N]
   exact a2q T4 t1 4 0 s u hl
  ·intro _
   obtain ⟨s,g3,e3,c3,s3,_⟩:=b6o T2.st.cd
   obtain ⟨u,g4,e4,c4,s4,hu⟩:=d33 c3
   simp only [e3,e4,bs,a4j,c8N]
   exact a2q ((T2.same c3 s3).same c4 s4) t1 4 0 s u (by omega)
 intro hb2
 refine Wp.dif ?_ ?_
 ·intro _
  obtain ⟨s,g3,e3,c3,s3,_⟩:=b6o T.st.cd
  simp only [e3,bs,b0j,c8N]
  exact a2q (T.same c3 s3) t1 8 0 s [] (by simp)
 intro h6
 refine Wp.bind (P:=fun (r:Out)=>r.1 = .nrm∧r.2.2=g∧∃ b:Bool,r.2.1=[.bool b]∧(b=false→v≠7∧v≠8)) (Wp.dif (fun hb => .some ⟨rfl,rfl,_,rfl,fun hh=>by rw [hb] at hh;cases hh⟩) fun hb => .some ⟨rfl,rfl,_,rfl,fun hh=>⟨by simpa using hb,by simpa using hh⟩⟩) ?_
 rintro ⟨ex,ds,g1⟩ ⟨rfl,hg,b3,hds,nb3⟩
 simp only at hg hds
 subst hg hds
 simp only [a0j,a0e]
 refine Wp.dif ?_ ?_
 ·intro _
  obtain ⟨w,g2,e2,T2,_,w0,w1⟩:=T.draw 3 (by omega) (by omega)
  obtain ⟨s,g3,e3,c3,s3,_⟩:=b6o T2.st.cd
  have T3:=T2.same c3 s3
  obtain ⟨x,g4,e4,T4,_,x0,x1⟩:=T3.draw 40 (by omega) (by omega)
  -- an object of its own
  have lt4:=T4.lt
  have T5:TS h o (a1h g4 a0l 5 [tzr]):=⟨T4.st.app (by simp [-bind_some, a1h]) fun q hq=>a1T _ _ _ _ (by have:=T4.st.le;omega),by rw [a1T _ _ _ _ lt4];exact T4.z⟩
  simp only [e2,e3,e4,bs,a0k,a0t,a7l,hz,c8N]
  refine a8J (kk:=0) (off:=0) (v := .agg [.int .i64 (IntKind.wrap .i64 (9+w)),.str s,.str [],.int .i64 (IntKind.wrap .i64 (x - 5)),.nils]) (a2j g4 a0l 5 [tzr]) (by rfl) (by rfl) (by exact Nat.le_refl _) (by rfl) fun g6 p6 s6=>?_
  have hm:g4.length≠h.length:=by omega
  have hmo:g4.length≠o:=by omega
  have chg:∀ {g g':Hp},TS h o g→Same g4.length g g'→TS h o g':=fun {g g'} t s=>⟨⟨ho,t.st.cd.keep (s.2 o (Ne.symm hmo)),t.st.gr.trans ⟨Nat.le_of_eq s.1.symm,fun q hq _=>s.2 q (by omega)⟩⟩,by rw [s.2 _ (Ne.symm hm)];exact t.z⟩
  have T6:=chg T5 s6
  have q6:∃ (op nu:Int) (nm:Str),g6[g4.length]?=some (.row a0l 5 [[.int .i64 op,.str nm,.str [],.int .i64 nu,.nils]]):=⟨_,_,_,p6⟩
  clear p6 T5
  obtain ⟨y,g7,e7,T7,s7,y0,y1⟩:=T6.draw 2 (by omega) (by omega)
  have q7:∃ (op nu:Int) (nm:Str),g7[g4.length]?=some (.row a0l 5 [[.int .i64 op,.str nm,.str [],.int .i64 nu,.nils]]):=by rw [s7.2 _ hmo];exact q6
  have set2:∀ {γ:Type} {g:Hp} (_:TS h o g) (_:∃ (op nu:Int) (nm:Str),g[g4.length]?=some (.row a0l 5 [[.int .i64 op,.str nm,.str [],.int .i64 nu,.nils]])) (s:Str) (n:Int) {F:Hp→Option γ} {Q:γ→Prop}
    (_:∀ g',TS h o g'→(∃ (op nu:Int) (nm:Str),g'[g4.length]?=some (.row a0l 5 [[.int .i64 op,.str nm,.str [],.int .i64 nu,.nils]]))→Wp (F g') Q),
    Wp ((a0p tab g ty9 (.ptr g4.length 0 (0+1)) (.str s)).bind fun h'=>(a0p tab h' ty3 (.ptr g4.length 0 (0+3)) (.int .i64 n)).bind F) Q:=fun {γ g} t q s n {F Q} k=>by
   obtain ⟨op,nu,nm,q⟩:=q
   refine c1S (kk:=0) (off:=0+1) (v := .str s) q (by rfl) (by rfl) (by simp) (by rfl) fun g8 p8 s8=>?_
   have p8:g8[g4.length]?=some (.row a0l 5 [[.int .i64 op,.str s,.str [],.int .i64 nu,.nils]]):=p8
   refine b8f (kk:=0) (off:=0+3) (v := .int .i64 n) p8 (by rfl) (by rfl) (by simp) (by rfl) fun g9 p9 s9=>?_
   exact k g9 (chg (chg t s8) s9) ⟨op,n,s,p9⟩
  simp only [e7,bs,a0Q,c8N]
  refine Wp.join (P:=fun (r:Out)=>r.1 = .nrm∧TS h o r.2.2∧∃ (op nu:Int) (nm:Str),r.2.2[g4.length]?=some (.row a0l 5 [[.int .i64 op,.str nm,.str [],.int .i64 nu,.nils]])) ?_ ?_ ?_
  ·intro _
   obtain ⟨z,g8,e8,T8,s8,z0,z1⟩:=T7.draw 70 (by omega) (by omega)
   simp only [e8,bs,a0k,a7v,a7w,c8N]
   exact set2 T8 (by rw [s8.2 _ hmo];exact q7) _ _ fun g' t q => .some ⟨rfl,t,q⟩
  ·intro _
   exact .some ⟨rfl,T7,q7⟩
  rintro ⟨ex,ds,g8⟩ ⟨rfl,T8,q8⟩
  simp only at T8 q8
  simp only [a0j]
  obtain ⟨z,g9,e9,T9,s9,z0,z1⟩:=T8.draw 8 (by omega) (by omega)
  have q9:∃ (op nu:Int) (nm:Str),g9[g4.length]?=some (.row a0l 5 [[.int .i64 op,.str nm,.str [],.int .i64 nu,.nils]]):=by rw [s9.2 _ hmo];exact q8
  simp only [e9,bs,a0Q,c8N]
  refine Wp.join (P:=fun (r:Out)=>r.1 = .nrm∧TS h o r.2.2∧∃ (op nu:Int) (nm:Str),r.2.2[g4.length]?=some (.row a0l 5 [[.int .i64 op,.str nm,.str [],.int .i64 nu,.nils]])) ?_ ?_ ?_
  ·intro _
   obtain ⟨a,ga,ea,Ta,sa,a0,a1⟩:=T9.draw 3 (by omega) (by omega)
   have hp:a0J tab a3t 3 [0,1,2] [.int .i64 (-5),.int .i64 253402300799999,.int .i64 999999999999999999]=some (.sl 1 true (([-5,253402300799999,999999999999999999]:List Int).map inr)):=id rfl
   obtain ⟨n,hn,hg⟩:=a2r ([-5,253402300799999,999999999999999999]:List Int) a a0 a1
   have hi:a0a tab a3t (.sl 1 true (([-5,253402300799999,999999999999999999]:List Int).map inr)) (.int .i64 a)=some (.fptr [.int .i64 n]):=by
    rw [c5B,if_pos a0,c9a,hg];rfl
   have l3:∀ g,a0c tab g ty3 (.fptr [.int .i64 n])=some (.int .i64 n):=fun g=>id rfl
   simp only [hp,ea,hi,l3,bs,a1j,a7v,a7w,c8N]
   exact set2 Ta (by rw [sa.2 _ hmo];exact q9) _ _ fun g' t q => .some ⟨rfl,t,q⟩
  ·intro _
   exact .some ⟨rfl,T9,q9⟩
  rintro ⟨ex,ds,ga⟩ ⟨rfl,Ta,op,nu,nm,qa⟩
  simp only at Ta qa
  have la:a0c tab ga a0l (.ptr g4.length 0 0)=some (.agg [.int .i64 op,.str nm,.str [],.int .i64 nu,.nils]):=by rw [a8w,a1A qa];rfl
  simp only [a0j,la,bs,c8N]
  exact a2q Ta t1 op nu nm [] (by simp)
 intro hb3
 refine Wp.dif ?_ ?_
 ·intro _
  simp only [b6j,bs,c8N]
  exact a2q T t1 0 0 [] [] (by simp)
 intro h9
 have n0:=nb1 hb1
 have n4:=nb2 hb2
 have n7:=nb3 hb3
 have n2:v≠2:=by simpa using h2
 have n3:v≠3:=by simpa using h3
 have n6:v≠6:=by simpa using h6
 have n9:v≠9:=by simpa using h9
 have t1:t1=1:=by
  rcases ht with ht | ht
  ·have:=vt ht;omega
  ·exact ht
 subst t1
 have w0:IntKind.wrap .i64 ((1:Int) - 1)=0:=rfl
 refine Wp.dif ?_ ?_
 ·intro _
  obtain ⟨⟨x,g2⟩,e2,c2,s2,op,nu,nm,tx,ks,kd,hx,hk,hkl,htx,hkt,hkd⟩:=rec rfl g1 T.st.cd
  simp only at c2 s2 hx
  subst hx
  rw [hkd rfl] at e2
  have T2:=T.same c2 s2
  have hp:a0J tab a0I 1 [0] [.agg [.int .i64 op,.str nm,.str tx,.int .i64 nu,.nils]]=some (.sl 5 true [tfr ⟨op,nm,tx,nu⟩]):=id rfl
  simp only [a0t,w0,bs,e2,hp,b0k 5 (.sl 5 true [tfr ⟨op,nm,tx,nu⟩]) rfl,c8N]
  have hs:SlOf 5 tfr [(⟨op,nm,tx,nu⟩:TF)] (.sl 5 true [tfr ⟨op,nm,tx,nu⟩]):=SlOf.mk 5 tfr [⟨op,nm,tx,nu⟩] true
  refine a8H T2 (row':=[.int .i64 5,.str [],.str [],.int .i64 0,.sl 5 true [tfr ⟨op,nm,tx,nu⟩]]) rfl (fun g' _ _=>?_) (fun d hd=>?_) rfl fun h' c s=>⟨c,s,5,0,[],[],[⟨op,nm,tx,nu⟩],_,rfl,hs,by simp,by simp,fun k hk=>by simp at hk;subst hk;exact htx,fun hh=>by cases hh⟩
  ·rw [b1U]
   simp only [c8V,List.map_nil,a4Y,a6H,a3o hs fun t _=>a6Z _ _ _ t]
  ·simp only [c9i,List.not_mem_nil,or_false] at hd
   rcases hd with rfl | rfl | rfl | rfl | rfl
   ·exact .int _ _
   ·exact .str _
   ·exact .str _
   ·exact .int _ _
   ·exact a1C hs fun t _=>b3h _ t
 intro _
 have ltT:=T.lt
 have T5:TS h o (a1h g1 a0l 5 [tzr]):=⟨T.st.app (by simp [-bind_some, a1h]) fun q hq=>a1T _ _ _ _ (by have:=T.st.le;omega),by rw [a1T _ _ _ _ ltT];exact T.z⟩
 have hm:g1.length≠h.length:=by omega
 have hmo:g1.length≠o:=by omega
 have chg:∀ {g g':Hp},TS h o g→Same g1.length g g'→TS h o g':=fun {g g'} t s=>⟨⟨ho,t.st.cd.keep (s.2 o (Ne.symm hmo)),t.st.gr.trans ⟨Nat.le_of_eq s.1.symm,fun q hq _=>s.2 q (by omega)⟩⟩,by rw [s.2 _ (Ne.symm hm)];exact t.z⟩
 simp only [a6x,show ¬ (2:Int)=0 by omega,if_false,bs,a0k,b3O,hz,c8N]
 refine a8J (kk:=0) (off:=0) (v := .agg [.int .i64 (IntKind.wrap .i64 (6+v.tmod 2)),.str [],.str [],.int .i64 0,.nils]) (a2j g1 a0l 5 [tzr]) (by rfl) (by rfl) (by exact Nat.le_refl _) (by rfl) fun g6 p6 s6=>?_
 generalize hop:IntKind.wrap .i64 (6+v.tmod 2)=op at p6
 have p6:g6[g1.length]?=some (.row a0l 5 [[.int .i64 op,.str [],.str [],.int .i64 0,.nils]]):=p6
 have T6:=chg T5 s6
 obtain ⟨y,g7,e7,T7,s7,y0,y1⟩:=T6.draw 2 (by omega) (by omega)
 have p7:g7[g1.length]?=some (.row a0l 5 [[.int .i64 op,.str [],.str [],.int .i64 0,.nils]]):=by rw [s7.2 _ hmo];exact p6
 have wy:IntKind.wrap .i64 (2+y)=((2+y).toNat:Int):=by rw [wrap_i64 (by omega) (by omega)];omega
 simp only [e7,bs,a0k,wy,c8N]
 refine Wp.loop (fun n ds g=>∃ (c:Nat) (a kd:D) (ks:List TF),ds=[.int .i64 (c:Int),a]∧n=c∧ks.length+c=(2+y).toNat∧TS h o g∧g[g1.length]?=some (.row a0l 5 [[.int .i64 op,.str [],.str [],.int .i64 0,kd]])∧Own g h.length a0l 5 (ks.map tfr) kd∧¬ kd.inOb g1.length∧¬ kd.inOb h.length∧∀ k∈ks,k.tx.length≤1000)
  (fun r=>r.1 = .ext 1∧∃ (kd:D) (rest:List D) (ks:List TF),ks.length≤3∧TS h o r.2.2∧r.2.2[g1.length]?=some (.row a0l 5 [[.int .i64 op,.str [],.str [],.int .i64 0,kd]])∧Own r.2.2 h.length a0l 5 (ks.map tfr) kd∧¬ kd.inOb h.length∧∀ k∈ks,k.tx.length≤1000) (2+y).toNat
  ⟨(2+y).toNat,_,.nils,[],rfl,rfl,by simp,T7,p7,Own.nils _ _ _ _,(fun hh=>by obtain ⟨_,_,hh⟩:=hh;cases hh),(fun hh=>by obtain ⟨_,_,hh⟩:=hh;cases hh),by simp⟩ ?_ ?_
 ·rintro n ds g ⟨c,a,kd,ks,rfl,hn,hks,Tg,pg,ow,nm1,nm2,hkt⟩
  simp only [a9g,a0e,a0g,bs,a1e,c8N]
  refine Wp.dif ?_ ?_
  ·intro h0
   have h0:0<c:=by
    have:(0:Int)<(c:Int):=by simpa using h0
    omega
   have wc:IntKind.wrap .i64 ((c:Int) - 1)=((c - 1:Nat):Int):=by rw [wrap_i64 (by omega) (by omega)];omega
   obtain ⟨⟨x,g2⟩,e2,c2,s2,opk,nu,nm,tx,ks',kd',hx,hk,hkl,htx,hkt',hkd⟩:=rec rfl g Tg.st.cd
   simp only at c2 s2 hx
   subst hx
   rw [hkd rfl] at e2
   have T2:=Tg.same c2 s2
   have lkd:a0c tab g a0I (.ptr g1.length 0 (0+4))=some kd:=by rw [b2l,a1A pg];rfl
   have p2:g2[g1.length]?=some (.row a0l 5 [[.int .i64 op,.str [],.str [],.int .i64 0,kd]]):=by rw [s2.2 _ hmo];exact pg
   have lkd2:a0c tab g2 a0I (.ptr g1.length 0 (0+4))=some kd:=by rw [b2l,a1A p2];rfl
   have ow2:=ow.same s2 (by omega)
   have hp:a0J tab a0I 1 [0] [.agg [.int .i64 opk,.str nm,.str tx,.int .i64 nu,.nils]]=some (.sl 5 true [tfr ⟨opk,nm,tx,nu⟩]):=id rfl
   simp only [a7x,lkd,bs,a0t,w0,e2,hp,c8N]
   refine b7M (n0:=h.length) T2.st.le ow2 (a0O _ _ _ _) (by rw [c8T];simp [-bind_some];omega) fun kd3 g3 o3 l3 b3 k3 in3=>?_
   have lm2:=(c9d.1 p2).1
   have lz2:=T2.lt
   have p3:g3[g1.length]?=some (.row a0l 5 [[.int .i64 op,.str [],.str [],.int .i64 0,kd]]):=by rw [k3 _ lm2 nm1];exact p2
   have T3:TS h o g3:=⟨T2.st.app l3 b3,by rw [k3 _ lz2 nm2];exact T2.z⟩
   have o1:=a2X (a5f o3)
   have nk1:¬ kd3.inOb g1.length:=fun hh=>by
    rcases in3 _ hh with h1 | h1
    ·exact nm1 h1
    ·omega
   have nk2:¬ kd3.inOb h.length:=fun hh=>by
    rcases in3 _ hh with h1 | h1
    ·exact nm2 h1
    ·omega
   simp only [lkd2,a1j,a7x,bs,c8N]
   refine b7Q (kk:=0) (off:=0+4) (v:=kd3) p3 (by rfl) (by rw [o1.1];rfl) (by simp) o1.2 fun g8 p8 s8=>?_
   have p8:g8[g1.length]?=some (.row a0l 5 [[.int .i64 op,.str [],.str [],.int .i64 0,kd3]]):=by rw [o1.1] at p8;exact p8
   have o8:Own g8 h.length a0l 5 ((ks++[(⟨opk,nm,tx,nu⟩:TF)]).map tfr) kd3:=by
    rw [c8U]
    exact o3.keep fun q _ hq=>s8.2 q fun hh=>nk1 (hh▸hq)
   simp only [a0t,wc,bs]
   refine .some (.inl ⟨rfl,c - 1,by omega,c - 1,_,kd3,ks++[(⟨opk,nm,tx,nu⟩:TF)],rfl,rfl,by rw [c8S];simp [-bind_some];omega,chg T3 s8,p8,o8,nk1,nk2,fun k hk=>?_⟩)
   rcases c9j.1 hk with hk | hk
   ·exact hkt k hk
   ·simp at hk;subst hk;exact htx
  ·intro _
   exact .some (.inr ⟨by simp,rfl,kd,[],ks,by omega,Tg,pg,ow,nm2,hkt⟩)
 ·rintro ⟨ex,ds,g⟩ ⟨rfl,kd,rest,ks,hks,Tg,pg,ow,nm2,hkt⟩
  simp only at Tg pg ow
  have la:a0c tab g a0l (.ptr g1.length 0 0)=some (.agg [.int .i64 op,.str [],.str [],.int .i64 0,kd]):=by rw [a8w,a1A pg];rfl
  simp only [a0o,a0j,la,bs,c8N]
  have hfz:∀ g',(∀ q,q≠h.length→g'[q]?=g[q]?)→frz h.length g' 3 kd=frz h.length g 3 kd:=fun g' hq=>by
   rcases ow with ⟨rfl,_⟩ | ⟨ob,hob,rfl,hg⟩
   ·rfl
   ·have hne:ob≠h.length:=fun hh=>nm2 ⟨_,_,by rw [hh]⟩
    rw [a6G hob hg,a6G hob (by rw [hq ob hne];exact hg)]
    congr 1
    rw [List.drop_zero,List.take_of_length_le (by simp)]
    refine List.map_congr_left fun r hr=>?_
    obtain ⟨t,_,rfl⟩:=c9k.1 hr
    rw [a2l (a6Z _ _ _ t),a2l (a6Z _ _ _ t)]
  have hs:=a2D (n0:=h.length) (n:=2) ow (Nat.le_refl _) fun t _=>a6Z _ _ _ t
  refine a8H Tg (row':=[.int .i64 op,.str [],.str [],.int .i64 0,frz h.length g 3 kd]) rfl (fun g' _ hq=>?_) (fun d hd=>?_) rfl fun h' c s=>⟨c,s,op,0,[],[],ks,_,rfl,hs,hks,by simp,hkt,fun hh=>by cases hh⟩
  ·rw [b1U]
   simp only [c8V,List.map_nil,a4Y,a6H,hfz g' hq]
  ·simp only [c9i,List.not_mem_nil,or_false] at hd
   rcases hd with rfl | rfl | rfl | rfl | rfl
   ·exact .int _ _
   ·exact .str _
   ·exact .str _
   ·exact .int _ _
   ·exact a1C hs fun t _=>b3h _ t
theorem b9n {h:Hp} {o:Nat} (hc:CD h o):Wp (R a2x [.ptr o 0 0,.int .i64 1] h) (b3K 1 h o) :=
 b5m hc 1 (.inr rfl) fun _ g cg=>b5m cg 0 (.inl rfl) fun hh=>by cases hh
theorem c0O (t:TF) (g:Hp):a0c tab g a0l (.fptr (tfr t))=some (.agg (tfr t)):=id rfl
theorem b5w {op nu:Int} {nm tx:Str} {ks:List TF} {kd:D} (hk:SlOf 5 tfr ks kd) (hkl:ks.length≤3) (htx:tx.length≤1000) (hkt:∀ k∈ks,k.tx.length≤1000) {e:Ev} (he:a8L e) (g:Hp):∃ b:Bool,R a3v [.agg [.int .i64 op,.str nm,.str tx,.int .i64 nu,kd],.agg (evr e)] g=some (.bool b,g) :=
 c0L tfr ks kd op nu nm tx e g he htx hk (by omega) fun k hkm=>⟨c0O k g,c0L (α:=TF) tfr [] .nils k.op k.nu k.nm k.tx e g he (hkt k hkm) (.nils _ _) (by simp) fun k hk=>by cases hk⟩
structure Scene (a b:List Ev) (key:Str) (w:Int):Prop where
 ea:∀ e∈a,a8L e
 eb:∀ e∈b,a8L e
 pa:PlD a
 la:a.length≤600
 lb:b.length≤600
 k:b3t key
 w0:0≤w
 w1:w<80
theorem c4s (zs:List Int) (d:D) (hd:a3G .u8 zs d) (hz:∀ z∈zs,0≤z∧z<256):∃ (a b:List Ev) (da db:D) (key:Str) (w:Int) (o:Nat) (g:Hp),R a4n [d] []=some (.tup [da,db,.str key,.int .i64 w,.ptr o 0 0],g)∧CD g o∧SlOf 10 evr a da∧SlOf 10 evr b db∧Scene a b key w:=by
 suffices Wp (R a4n [d] []) (fun p=>∃ (a b:List Ev) (da db:D) (key:Str) (w:Int) (o:Nat),p.1 = .tup [da,db,.str key,.int .i64 w,.ptr o 0 0]∧CD p.2 o∧SlOf 10 evr a da∧SlOf 10 evr b db∧Scene a b key w) by
  obtain ⟨⟨x,g⟩,h1,a,b,da,db,key,w,o,rfl,h2⟩:=this
  exact ⟨a,b,da,db,key,w,o,g,h1,h2⟩
 obtain ⟨g0,e0,c0,l0⟩:=d44 zs d 500 [] hd (by omega) (by omega) hz
 obtain ⟨dl,g1,e1,c1,s1,l,hl,hok,hpd,hll⟩:=c5P c0 6 (by omega) (by omega)
 obtain ⟨⟨t1,g2⟩,e2,c2,s2,op,nu,nm,tx,ks,kd,ht1,hk,hkl,htx,hkt,_⟩:=b9n c1
 simp only at c2 s2 ht1
 subst ht1
 obtain ⟨la,da,e3,hda,sa⟩:=c0K [.int .i64 op,.str nm,.str tx,.int .i64 nu,kd] l dl g2 hl (by omega) (fun g=>b5y _ _ _ _ _ _ _) fun e he g=>b5w hk hkl htx hkt (hok.1 e he) g
 obtain ⟨⟨t2,g4⟩,e4,c4,s4,op2,nu2,nm2,tx2,ks2,kd2,ht2,hk2,hkl2,htx2,hkt2,_⟩:=b9n c2
 simp only at c4 s4 ht2
 subst ht2
 obtain ⟨lb,db,e5,hdb,sb⟩:=c0K [.int .i64 op2,.str nm2,.str tx2,.int .i64 nu2,kd2] l dl g4 hl (by omega) (fun g=>b5y _ _ _ _ _ _ _) fun e he g=>b5w hk2 hkl2 htx2 hkt2 (hok.1 e he) g
 obtain ⟨v,g6,e6,c6,s6,v0,v1⟩:=a1z c4 3 (by omega) (by omega)
 rw [c3b]
 simp only [b8S,e0,e1,e2,e3,e4,e5,e6,bs,a0Q,c8N]
 refine Wp.bind (P:=fun (r:Out)=>r.1 = .nrm∧r.2.2=g6∧∃ (a b:List Ev) (da db:D),r.2.1=[da,db]∧SlOf 10 evr a da∧SlOf 10 evr b db∧a.Sublist l∧b.Sublist l) ?_ ?_
 ·refine Wp.dif ?_ ?_
  ·intro _
   exact .some ⟨rfl,rfl,l,l,dl,dl,rfl,hl,hl,.refl _,.refl _⟩
  ·intro _
   exact .some ⟨rfl,rfl,la,lb,da,db,rfl,hda,hdb,sa,sb⟩
 rintro ⟨ex,ds,g⟩ ⟨rfl,hg,a,b,da,db,hds,ha,hb,ua,ub⟩
 simp only at hg hds
 subst hg hds
 have hp:a0J tab a1d 5 [0,1,2,3,4] [.str [64,116,114,97,99,101],.str [117,115,101,114],.str [108,101,118,101,108],.str [64,104,111,115,116],.str [110,111,110,101]]=some (.sl 1 true (([[64,116,114,97,99,101],[117,115,101,114],[108,101,118,101,108],[64,104,111,115,116],[110,111,110,101]]:List Str).map sr)):=id rfl
 have ld:∀ (s:Str) g,a0c tab g ty9 (.fptr [.str s])=some (.str s):=fun s g=>id rfl
 obtain ⟨x,g7,e7,c7,s7,x0,x1⟩:=a1z c6 5 (by omega) (by omega)
 obtain ⟨s,hs,hi⟩:=b0D [[64,116,114,97,99,101],[117,115,101,114],[108,101,118,101,108],[64,104,111,115,116],[110,111,110,101]] x x0 x1
 obtain ⟨w,g8,e8,c8,s8,w0,w1⟩:=a1z c7 80 (by omega) (by omega)
 have hko:b3t s:=(show ∀ s∈([[64,116,114,97,99,101],[117,115,101,114],[108,101,118,101,108],[64,104,111,115,116],[110,111,110,101]]:List Str),b3t s by unfold b3t;decide) s hs
 simp only [a0j,a0e,a0g,hp,e7,hi,ld,e8,bs,a1j,c8N]
 exact .some ⟨a,b,da,db,s,w,_,rfl,c8,ha,hb,fun e he=>hok.1 e (ua.subset he),fun e he=>hok.1 e (ub.subset he),hpd.sublist ua,by have:=ua.length_le;omega,by have:=ub.length_le;omega,hko,w0,w1⟩
theorem b1u {e:Ev} (h:a8L e):JE e:=by
 obtain ⟨hi,h1,h2,h3,h4⟩:=h
 obtain ⟨t0,t9,_⟩:=hi.ev rfl
 exact ⟨by omega,by omega,t0,t9⟩
def RdP (h:Hp) (l:List (Ev × Ev)) (d:D):Prop:=SlOf 20 prE l d∨∃ ob,d = .msl 20 ob 0 l.length∧h[ob]?=some (.row a1q 20 (l.map prE))
theorem RdP.own {h:Hp} {n0:Nat} {l:List (Ev × Ev)} {d:D} (hd:Own h n0 a1q 20 (l.map prE) d):RdP h l d:=by
 rcases hd with ⟨rfl,hl⟩ | ⟨o,_,rfl,ho⟩
 ·exact .inl (.inl ⟨rfl,by simpa using hl⟩)
 ·exact .inr ⟨o,by rw [c8T],ho⟩
theorem a8C {h:Hp} {l:List (Ev × Ev)} {d:D} (hd:RdP h l d):a0B tab a0P d=some (.int .i64 l.length):=by
 rcases hd with hd | ⟨ob,rfl,_⟩
 ·exact a2p hd
 ·exact b4v _ _ _ _
theorem b5I {h:Hp} {l:List (Ev × Ev)} {d:D} (hd:RdP h l d) (i:Nat) (p:Ev × Ev) (hp:l[i]?=some p):∃ q qa qb,a0a tab a0P d (.int .i64 (i:Int))=some q∧a0b tab a1q 0 q=some qa∧a0b tab a1q 1 q=some qb∧a0c tab h a0C qa=some (.agg (evr p.1))∧a0c tab h a0C qb=some (.agg (evr p.2)):=by
 have hi:=(c9d.1 hp).1
 rcases hd with hd | ⟨ob,rfl,ho⟩
 ·exact ⟨.fptr (prE p),.fptr (prE p),.fptr (evr p.2),by rw [b6T hd];simp [-bind_some, hp],id rfl,id rfl,id rfl,id rfl⟩
 ·have hr:(l.map prE)[i]?=some (prE p):=by rw [c9a,hp];rfl
  have hh:(0:Int)≤(i:Int)∧(i:Int)<(l.length:Int):=by omega
  refine ⟨.ptr ob i 0,.ptr ob i (0+0),.ptr ob i (0+10),by rw [b6S];simp [-bind_some, hh],id rfl,id rfl,?_,?_⟩
  ·rw [b2m,a1A ho,hr];rfl
  ·rw [b2m,a1A ho,hr];rfl
def smP (p q:Ev × Ev):Bool:=a2k p.1 q.1&&a2k p.2 q.2
theorem b4O (p:Ev × Ev):smP p p=true:=by simp [-bind_some, smP,b0I]
theorem c4t (A B:List (Ev × Ev)) (dA dB:D) (h:Hp) (hA:RdP h A dA) (hB:RdP h B dB) (hl:A.length≤1000000):∃ b:Bool,R a3P [dA,dB] h=some (.bool b,h)∧(b=true↔A.length=B.length∧∀ (i:Nat) x y,A[i]?=some x→B[i]?=some y→smP x y=true):=by
 suffices Wp (R a3P [dA,dB] h) (fun p=>p.2=h∧∃ b:Bool,p.1 = .bool b∧(b=true↔A.length=B.length∧∀ (i:Nat) x y,A[i]?=some x→B[i]?=some y→smP x y=true)) by
  obtain ⟨⟨x,h'⟩,h1,rfl,b,rfl,h2⟩:=this
  exact ⟨b,h1,h2⟩
 rw [c3c]
 simp only [b8T,bs,a8C hA,a8C hB,a3k,c8N]
 refine Wp.dif ?_ ?_
 ·intro hne
  have hne:¬ A.length=B.length:=by
   intro hh
   rw [hh] at hne
   simp at hne
  simp only [a0s]
  exact .some ⟨rfl,false,rfl,by simp [-bind_some, hne]⟩
 intro heq
 have heq:A.length=B.length:=by
  have:(A.length:Int)=(B.length:Int):=by simpa using heq
  omega
 refine Wp.loop (fun n ds g=>g=h∧∃ (i:Nat) (a b:D),ds=[.bool false,.int .i64 (i:Int),a,b]∧n+i=A.length∧∀ (j:Nat) x y,j<i→A[j]?=some x→B[j]?=some y→smP x y=true)
  (fun r=>r.2.2=h∧((r.1 = .ext 0∧∀ (i:Nat) x y,A[i]?=some x→B[i]?=some y→smP x y=true)∨(r.1 = .ret∧(∃ rest,r.2.1 = .bool false::rest)∧∃ (i:Nat) (x y:Ev × Ev),A[i]?=some x∧B[i]?=some y∧smP x y=false))) A.length ⟨rfl,0,_,_,rfl,by omega,fun j x y hj=>by omega⟩ ?_ ?_
 ·rintro n ds g ⟨rfl,i,a,b,rfl,hn,hall⟩
  simp only [a9e,a0e,a0g,bs,a8C hA,a0q,c8N]
  refine Wp.dif ?_ ?_
  ·intro h0
   have h0:i<A.length:=by
    have:(i:Int)<(A.length:Int):=by simpa using h0
    omega
   have w1:=wi_ i (by omega)
   obtain ⟨x,hx⟩:=gx_ h0
   obtain ⟨y,hy⟩:∃ y,B[i]?=some y:=⟨_,c9c (by omega)⟩
   obtain ⟨q,qa,qb,i1,i2,i3,i4,i5⟩:=b5I hA i x hx
   obtain ⟨r,ra,rb,j1,j2,j3,j4,j5⟩:=b5I hB i y hy
   have bad:smP x y=false→∃ (i:Nat) (x y:Ev × Ev),A[i]?=some x∧B[i]?=some y∧smP x y=false:=fun hh=>⟨i,x,y,hx,hy,hh⟩
   have good:smP x y=true→∀ (j:Nat) u v,j<i+1→A[j]?=some u→B[j]?=some v→smP u v=true:=fun hh j u v hj hu hv=>by
    rcases Nat.lt_or_ge j i with h1 | h1
    ·exact hall j u v h1 hu hv
    ·have:j=i:=by omega
     subst this
     rw [hx] at hu
     rw [hy] at hv
     injection hu with hu
     injection hv with hv
     subst hu hv
     exact hh
   simp only [i1,i2,i4,j1,j2,j4,bs,s61,a1f,c8N]
   cases h1:a2k x.1 y.1 with
   | false =>
    simp only [c8Y,a0x,a0F,a1a,reduceCtorEq,c8P,if_false,if_true,bs,a0n,a0d,c8N]
    exact .some (.inr ⟨by simp,rfl,.inr ⟨rfl,⟨_,rfl⟩,bad (by unfold smP;rw [h1];rfl)⟩⟩)
   | true =>
    simp only [c8X,a0x,a0F,if_true,bs,i1,i3,i5,j1,j3,j5,s61,a1f,a0n,c8O,if_false,c8N]
    cases h2:a2k x.2 y.2 with
    | false =>
     simp only [c8Y,a0d,if_true]
     exact .some (.inr ⟨by simp,rfl,.inr ⟨rfl,⟨_,rfl⟩,bad (by unfold smP;rw [h1,h2];rfl)⟩⟩)
    | true =>
     simp only [c8X,a0d,c8O,if_false,a0k,w1,bs]
     exact .some (.inl ⟨rfl,n - 1,by omega,rfl,i+1,_,_,rfl,by omega,good (by unfold smP;rw [h1,h2];rfl)⟩)
  ·intro h0
   have h0:A.length≤i:=by
    have:¬ (i:Int)<(A.length:Int):=by simpa using h0
    omega
   refine .some (.inr ⟨by simp,rfl,.inl ⟨rfl,fun j x y hx hy=>hall j x y ?_ hx hy⟩⟩)
   have:=(c9d.1 hx).1
   omega
 ·rintro ⟨ex,ds,g⟩ ⟨rfl,⟨rfl,hall⟩ | ⟨rfl,⟨rest,rfl⟩,i,x,y,hx,hy,hb⟩⟩
  ·simp only [a0o,a0j,bs,a0s]
   exact .some ⟨rfl,true,rfl,by simp [-bind_some, heq];exact fun i a b c d=>hall i (a,b) (c,d)⟩
  ·simp only [a0U,a1n,a1i,a0e,bs,a0s]
   exact .some ⟨rfl,false,rfl,by simp [-bind_some, heq];exact ⟨i,x.1,x.2,hx,y.1,y.2,hy,hb⟩⟩
theorem a3e {α:Type} (b:Bool) (e:α) (c:Bool):∀ (l:List α) (s:List Bool),l.length=s.length→a2J b (l++[e]) (s++[c])=a2J b l s++if c=b then [e] else []
 | [],[],_=>by simp [-bind_some, a2J]
 | [],_::_,h=>by simp at h
 | _::_,[],h=>by simp at h
 | x::l,d::s,h=>by
  have ih:=a3e b e c l s (by simpa using h)
  simp only [List.cons_append,a2J,ih]
  split <;> simp [-bind_some]
theorem a3U {α:Type} (b:Bool):∀ (l:List α) (s:List Bool),(a2J b l s).length≤l.length
 | [],_=>by simp [-bind_some, a2J]
 | x::l,[]=>by simp [-bind_some, a2J]
 | x::l,c::s=>by
  have ih:=a3U b l s
  simp only [a2J]
  split <;> simp [-bind_some] <;> omega
theorem b0b {l:List (Ev × Ev)} {d:D} (hd:SlOf 20 prE l d) {i:Nat} {p:Ev × Ev} (hp:l[i]?=some p):∃ d',a0E tab a0P true true false [d,.int .i64 (i:Int),.int .i64 ((i+1:Nat):Int)]=some d'∧SlOf 20 prE [p] d':=by
 have hi:=(c9d.1 hp).1
 have hg:(l.take (i+1)).drop i=[p]:=by
  rw [c8Z,hp]
  have:(l.take i).length=i:=by rw [c9h];omega
  rw [List.drop_append,this]
  simp [-bind_some]
 have h2:tab a0P=some ti1271:=id rfl
 have h3:ti1271.td = .sl a1q:=id rfl
 have h4:tab a1q=some ti1286:=id rfl
 have h5:ti1286.sz=20:=id rfl
 rcases hd with ⟨rfl,rfl⟩ | ⟨b,rfl⟩
 ·simp at hi
 ·have c1:(0:Int)≤(i:Int)∧(i:Int)≤((i+1:Nat):Int):=by omega
  have c2:((i+1:Nat):Int)≤((l.map prE).length:Int):=by rw [c8T];omega
  have e1:((l.map prE).take (i+1)).drop i=[prE p]:=by rw [← List.map_take,← List.map_drop,hg];rfl
  simp only [a0E,a1S,bs,a1t,h2,h3,h4,h5,Option.getD_some,true_and]
  rw [if_pos ⟨c1.1,c1.2⟩,if_pos c2,c8W,c8W,e1]
  exact ⟨_,rfl,SlOf.mk 20 prE [p] _⟩
theorem b4G {l:List Ev} (h:PlD l):l.Pairwise fun x y=>a2k y x=false:=h.imp fun {a b} hab=>by
 cases hh:a2k b a with
 | false=>rfl
 | true =>
  unfold a2k at hh
  simp only [Bool.and_eq_true,decide_eq_true_eq] at hh
  exact absurd ⟨hh.1.symm,hh.2.1.symm,hh.2.2.1.symm⟩ hab
theorem a7P {γ:Type} {same:γ→γ→Bool} {x:γ} {p q r:List γ} (h:mg same (x::p) q r=true) (hq:∀ a q',q=a::q'→same a x=false):∃ c r',r=c::r'∧same c x=true∧mg same p q r'=true:=by
 cases q with
 | nil =>
  cases r with
  | nil=>simp [-bind_some, mg] at h
  | cons c r =>
   cases hc:same c x with
   | false=>simp [-bind_some, mg,hc] at h
   | true=>exact ⟨c,r,rfl,hc,by simpa [-bind_some, mg,hc] using h⟩
 | cons a q =>
  have ha:=hq a q rfl
  cases r with
  | nil=>simp [-bind_some, mg,ha] at h
  | cons c r =>
   cases hc:same c x with
   | false=>simp [-bind_some, mg,ha,hc] at h
   | true=>exact ⟨c,r,rfl,hc,by simpa [-bind_some, mg,ha,hc] using h⟩
theorem a9y {α:Type} {l:List α} {j:Nat} {c:α} {r:List α} (h:l.drop j=c::r):l[j]?=some c∧l.drop (j+1)=r:=by
 have h1:(l.drop j)[0]?=some c:=by rw [h];rfl
 rw [List.getElem?_drop,Nat.add_zero] at h1
 refine ⟨h1,?_⟩
 have h2:=congrArg (List.drop 1) h
 rw [List.drop_drop] at h2
 simpa using h2
theorem c3U {a:List Ev} {da:D} (ha:SlOf 10 evr a da) (hal:a.length≤600) {o:Nat} (g0:Hp) (hc:CD g0 o) {β:Type} {K:Out→Option β} {Z:β→Prop}
  (k:∀ x y rest s g,s.length=a.length→Own g g0.length a0C 10 ((a2J true a s).map evr) x→Own g g0.length a0C 10 ((a2J false a s).map evr) y→Wp (K (.ext 0,x::y::rest,g)) Z) :
  Wp ((a0z (a6t da (.ptr o 0 0)) [.nils,.nils,.int .i64 0,.any,.any] g0).bind K) Z:=by
 have ho:=hc.lt
 have hLe:∀ (e:Ev) g,a0c tab g a0C (.fptr (evr e))=some (.agg (evr e)):=fun e g=>id rfl
 have hS:∀ e:Ev,a0J tab a2o 1 [0] [.agg (evr e)]=some (.sl 10 true [evr e]):=fun e=>id rfl
 refine Wp.loop (fun n ds g=>∃ (i:Nat) (x y u v:D) (s:List Bool),ds=[x,y,.int .i64 (i:Int),u,v]∧n+i=a.length∧s.length=i∧CD g o∧g0.length≤g.length∧Own g g0.length a0C 10 ((a2J true (a.take i) s).map evr) x∧Own g g0.length a0C 10 ((a2J false (a.take i) s).map evr) y∧Apart x y)
  (fun r=>r.1 = .ext 0∧∃ (x y:D) (rest:List D) (s:List Bool),r.2.1=x::y::rest∧s.length=a.length∧Own r.2.2 g0.length a0C 10 ((a2J true a s).map evr) x∧Own r.2.2 g0.length a0C 10 ((a2J false a s).map evr) y) a.length
  ⟨0,_,_,_,_,[],rfl,by omega,rfl,hc,Nat.le_refl _,Own.nils _ _ _ _,Own.nils _ _ _ _,fun q hq=>by obtain ⟨_,_,hq⟩:=hq;cases hq⟩ ?_ ?_
 ·rintro n ds g ⟨i,x,y,u,v,s,rfl,hn,hs,c,hlen,ox,oy,ap⟩
  simp only [a6t,a0e,a0g,bs,a9Q ha,a0q,c8N]
  refine Wp.dif ?_ ?_
  ·intro h0
   have h0:i<a.length:=by
    have:(i:Int)<(a.length:Int):=by simpa using h0
    omega
   have w1:=wi_ i (by omega)
   obtain ⟨e,he⟩:=gx_ h0
   have tk:a.take (i+1)=a.take i++[e]:=by rw [c8Z,he];rfl
   have tl:(a.take i).length=s.length:=by rw [c9h];omega
   obtain ⟨t,g1,e1,c1,s1,t0,t1⟩:=a1z c 2 (by omega) (by omega)
   have ox1:=ox.same s1 (by omega)
   have oy1:=oy.same s1 (by omega)
   have len1:g0.length≤g1.length:=by have:=s1.1;omega
   have lx:=a3U true (a.take i) s
   have ly:=a3U false (a.take i) s
   rw [c9h] at lx ly
   simp only [c4f,e1,bs,a0Q,c8N]
   refine Wp.join (P:=fun (r:Out)=>r.1 = .nrm∧∃ (x y:D) (cc:Bool),r.2.1=[x,y]∧CD r.2.2 o∧g0.length≤r.2.2.length∧Own r.2.2 g0.length a0C 10 ((a2J true (a.take (i+1)) (s++[cc])).map evr) x∧Own r.2.2 g0.length a0C 10 ((a2J false (a.take (i+1)) (s++[cc])).map evr) y∧Apart x y) ?_ ?_ ?_
   ·intro _
    simp only [b0A ha,Int.natCast_nonneg,if_true,c8W,he,Option.map_some,bs,hLe,hS,c8N]
    refine b0K (n0:=g0.length) (ys:=[evr e]) len1 ox1 (a0O _ _ _ _) (by rw [c8T];simp [-bind_some];omega) fun x' g2 o2 l2 b2 k2 in2=>?_
    refine .some ⟨rfl,x',y,true,rfl,c1.keep (b2 o (by omega)),by show g0.length≤g2.length;omega,?_,?_,a1Q oy1 ap in2⟩
    ·rw [tk,a3e _ _ _ _ _ tl,if_pos rfl,c8U];exact o2
    ·rw [tk,a3e _ _ _ _ _ tl,if_neg (by simp),List.append_nil];exact a0V oy1 ap k2
   ·intro _
    simp only [b0A ha,Int.natCast_nonneg,if_true,c8W,he,Option.map_some,bs,hLe,hS,c8N]
    refine b0K (n0:=g0.length) (ys:=[evr e]) len1 oy1 (a0O _ _ _ _) (by rw [c8T];simp [-bind_some];omega) fun y' g2 o2 l2 b2 k2 in2=>?_
    refine .some ⟨rfl,x,y',false,rfl,c1.keep (b2 o (by omega)),by show g0.length≤g2.length;omega,?_,?_,(a1Q ox1 ap.symm in2).symm⟩
    ·rw [tk,a3e _ _ _ _ _ tl,if_neg (by simp),List.append_nil];exact a0V ox1 ap.symm k2
    ·rw [tk,a3e _ _ _ _ _ tl,if_pos rfl,c8U];exact o2
   ·rintro ⟨ex,ds1,g2⟩ ⟨rfl,x',y',cc,hds,c2,len2,ox2,oy2,ap2⟩
    simp only at hds c2 len2 ox2 oy2
    subst hds
    simp only [a0L,a0j,a0e,a0g,a0k,w1,bs]
    exact .some (.inl ⟨rfl,n - 1,by omega,i+1,x',y',_,_,s++[cc],rfl,by omega,by simp [-bind_some, hs],c2,len2,ox2,oy2,ap2⟩)
  ·intro h0
   have h0:a.length≤i:=by
    have:¬ (i:Int)<(a.length:Int):=by simpa using h0
    omega
   rw [List.take_of_length_le h0] at ox oy
   exact .some (.inr ⟨by simp,rfl,x,y,_,s,rfl,by omega,ox,oy⟩)
 ·rintro ⟨ex,ds,g⟩ ⟨rfl,x,y,rest,s,rfl,hs,ox,oy⟩
  exact k x y rest s g hs ox oy
theorem c0e {P Q T:List (Ev × Ev)} {dp dq dt:D} (hp:SlOf 20 prE P dp) (hq:SlOf 20 prE Q dq) (ht:SlOf 20 prE T dt) (hPl:P.length≤2000) (hQl:Q.length≤2000) (hTl:T.length≤2000) (hm:mg smP P Q T=true) (u v w:D) (g:Hp) {β:Type} {K:Out→Option β} {Z:β→Prop}
  (k:∀ ds,Wp (K (.ext 2,ds,g)) Z):Wp ((a0z (a6u dp dq dt) [.bool false,.int .i64 0,.int .i64 0,.int .i64 0,u,v,w] g).bind K) Z:=by
 have one:∀ (x y:Ev × Ev) (dx dy:D),SlOf 20 prE [x] dx→SlOf 20 prE [y] dy→R1 a3P [dx,dy] g=some (.bool (smP x y),g):=fun x y dx dy hx hy=>by
  obtain ⟨b,e,hb⟩:=c4t [x] [y] dx dy g (.inl hx) (.inl hy) (by simp)
  rw [b7s,e]
  have:b=smP x y:=by
   cases h1:smP x y with
   | true=>exact hb.2 ⟨rfl,fun i u v hu hv=>by
     cases i with
     | zero=>simp at hu hv;subst hu hv;exact h1
     | succ i=>simp at hu⟩
   | false =>
    cases b with
    | false=>rfl
    | true=>have:=(hb.1 rfl).2 0 x y rfl rfl;rw [h1] at this;cases this
  rw [this]
 refine Wp.loop (fun m ds g'=>g'=g∧∃ (i j n:Nat) (u v w:D),ds=[.bool false,.int .i64 (i:Int),.int .i64 (j:Int),.int .i64 (n:Int),u,v,w]∧m+n=P.length∧i≤Q.length∧j≤T.length∧mg smP (P.drop n) (Q.drop i) (T.drop j)=true)
  (fun r=>r.1 = .ext 2∧r.2.2=g) P.length ⟨rfl,0,0,0,_,_,_,rfl,by omega,by omega,by omega,hm⟩ ?_ ?_
 ·rintro m ds g' ⟨rfl,i,j,n,u,v,w,rfl,hmn,hi,hj,hmg⟩
  simp only [a6u,a0e,a0g,bs,a2p hp,a2p hq,a0q,c8N]
  refine Wp.dif ?_ ?_
  ·intro h0
   have h0:n<P.length:=by
    have:(n:Int)<(P.length:Int):=by simpa using h0
    omega
   have w1:=wi_ n (by omega)
   have w2:=wi_ i (by omega)
   have w3:=wi_ j (by omega)
   obtain ⟨p,hpn⟩:=gx_ h0
   obtain ⟨d1,s1,h1⟩:=b0b hp hpn
   have dropc:∀ {l:List (Ev × Ev)} {i:Nat} {x:Ev × Ev},l[i]?=some x→l.drop i=x::l.drop (i+1):=fun {l i x} hx=>by
    have hl:=(c9d.1 hx).1
    rw [List.drop_eq_getElem_cons hl]
    congr 1
    rw [c9c hl] at hx
    injection hx
   rw [dropc hpn] at hmg
   by_cases hiQ:i<Q.length
   ·obtain ⟨q,hqi⟩:=gx_ hiQ
    obtain ⟨d2,s2,h2⟩:=b0b hq hqi
    have di:decide ((i:Int)<(Q.length:Int))=true:=decide_eq_true (by omega)
    rw [dropc hqi] at hmg
    simp only [di,a0x,a0F,if_true,bs,a0k,w2,s2,w1,s1,one q p d2 d1 h2 h1,a0n,c8N]
    cases hb:smP q p with
    | true =>
     simp only [mg,hb,if_true] at hmg
     simp only [a0d,if_true,bs,a0L,a0j,a0e,a0g,a0k,w1,c8N]
     exact .some (.inl ⟨rfl,m - 1,by omega,rfl,i+1,j,n+1,_,_,_,rfl,by omega,by omega,hj,hmg⟩)
    | false =>
     rw [← dropc hqi] at hmg
     have hno:∀ a q',Q.drop i=a::q'→smP a p=false:=fun a q' hh=>by
      rw [dropc hqi] at hh
      injection hh with hh
      rw [← hh];exact hb
     simp only [a0d,c8O,if_false,bs,c8N]
     obtain ⟨r,r',hr1,hb3,hmg2⟩:=a7P hmg hno
     obtain ⟨hrj,hr2⟩:=a9y hr1
     subst hr2
     have hjl:=(c9d.1 hrj).1
     obtain ⟨d3,s3,h3⟩:=b0b ht hrj
     have dj:decide ((j:Int)<(T.length:Int))=true:=decide_eq_true (by omega)
     simp only [a2p ht,a0q,dj,a0x,a0F,if_true,bs,a0k,w3,s3,w1,s1,one r p d3 d1 h3 h1,hb3,a0n,a0d,a0L,a0j,a0e,a0g,c8N]
     exact .some (.inl ⟨rfl,m - 1,by omega,rfl,i,j+1,n+1,_,_,_,rfl,by omega,hi,by omega,hmg2⟩)
   ·have di:decide ((i:Int)<(Q.length:Int))=false:=decide_eq_false (by omega)
    have hno:∀ a q',Q.drop i=a::q'→smP a p=false:=fun a q' hh=>by
     rw [List.drop_eq_nil_of_le (show Q.length≤i by omega)] at hh
     cases hh
    simp only [di,a0x,a1a,a0F,reduceCtorEq,c8O,if_false,bs,a0n,a0d,c8N]
    obtain ⟨r,r',hr1,hb3,hmg2⟩:=a7P hmg hno
    obtain ⟨hrj,hr2⟩:=a9y hr1
    subst hr2
    have hjl:=(c9d.1 hrj).1
    obtain ⟨d3,s3,h3⟩:=b0b ht hrj
    have dj:decide ((j:Int)<(T.length:Int))=true:=decide_eq_true (by omega)
    simp only [a2p ht,a0q,dj,a0x,a0F,if_true,bs,a0k,w3,s3,w1,s1,one r p d3 d1 h3 h1,hb3,a0n,a0d,a0L,a0j,a0e,a0g,c8N]
    exact .some (.inl ⟨rfl,m - 1,by omega,rfl,i,j+1,n+1,_,_,_,rfl,by omega,hi,by omega,hmg2⟩)
  ·intro _
   exact .some (.inr ⟨by simp,rfl,rfl⟩)
 ·rintro ⟨ex,ds,g'⟩ ⟨rfl,rfl⟩
  exact k ds
theorem b0E {key:Str} {w:Int} (b:Bool) (l:List Ev) (s:List Bool) (hs:l.length=s.length) (R:List Ev):(prs key w (a2J true l s) R).length+(prs key w (a2J false l s) R).length=(prs key w l R).length:=b2X _ l s hs
theorem b7a (zs:List Int) (d:D) (hd:a3G .u8 zs d) (hz:∀ z∈zs,0≤z∧z<256):∃ h',R1 b1O [d] []=some (.bool true,h'):=by
 suffices Wp (R1 b1O [d] []) (fun p=>p.1 = .bool true) by
  obtain ⟨⟨x,h'⟩,h1,rfl⟩:=this
  exact ⟨h',h1⟩
 obtain ⟨a,b,da,db,key,w,o,g,e0,c0,ha,hb,S⟩:=c4s zs d hd hz
 have la:=S.la
 have lb:=S.lb
 have ends:∀ g':Hp,scope [] g' (.bool true)=some (.bool true,[]):=fun g'=>a1m (by simp) (.bool _) (Nat.zero_le _) fun q hq=>by simp at hq
 rw [c3a]
 simp only [b8R,bs,b7o,c4n,a1f,c8X,a0d,c8O,if_false,b7r,e0,a0H,c8Q,c8R,c8N]
 refine c3U ha la g c0 ?_
 intro x y rest s g1 hs ox oy
 have jea:∀ e∈a,JE e:=fun e he=>b1u (S.ea e he)
 have jeb:∀ e∈b,JE e:=fun e he=>b1u (S.eb e he)
 have lx:=a3U true a s
 have ly:=a3U false a s
 have hlen:=b0E (key:=key) (w:=w) true a s hs.symm b
 have hmg:mg smP (prs key w a b) (prs key w (a2J true a s) b) (prs key w (a2J false a s) b)=true :=
  b5D (same:=smP) b4O a2k (fun p q h=>by unfold smP at h;simp only [Bool.and_eq_true] at h;exact h.1) (fun x=>b.filter (mtE key w x)) a s hs.symm (b4G S.pa)
 simp only [a0o,a0j,a0e,a0g,bs,c8N]
 rcases b3q a b da db key w g1 (.of ha) (.of hb) (by omega) (by omega) jea jeb S.k with ⟨h1,h2⟩ | ⟨h1,dp,h2,hp⟩
 ·have ex:∃ dx ex,R1 a2w [x,db,.str key,.int .i64 w] g1=some (.tup [dx,.int .i64 ex],g1):=by
    rcases b3q (a2J true a s) b x db key w g1 (.own ox) (.of hb) (by omega) (by omega) (fun e he=>jea e (a2K he)) jeb S.k with ⟨_,k2⟩ | ⟨_,dq,k2,_⟩
    ·exact ⟨_,_,k2⟩
    ·exact ⟨_,_,k2⟩
  have ey:∃ dx ex,R1 a2w [y,db,.str key,.int .i64 w] g1=some (.tup [dx,.int .i64 ex],g1):=by
   rcases b3q (a2J false a s) b y db key w g1 (.own oy) (.of hb) (by omega) (by omega) (fun e he=>jea e (a2K he)) jeb S.k with ⟨_,k2⟩ | ⟨_,dq,k2,_⟩
   ·exact ⟨_,_,k2⟩
   ·exact ⟨_,_,k2⟩
  obtain ⟨d1,c1,e1⟩:=ex
  obtain ⟨d2,c2,e2⟩:=ey
  have d4:decide (¬ (4:Int)=0)=true:=rfl
  simp only [h2,e1,e2,bs,a0H,c8Q,c8R,a3k,ne_eq,d4,a0d,if_true,a0Q,decide_true,a0s,ends,c8N]
  exact .some rfl
 ·rcases b3q (a2J true a s) b x db key w g1 (.own ox) (.of hb) (by omega) (by omega) (fun e he=>jea e (a2K he)) jeb S.k with ⟨k1,k2⟩ | ⟨k1,dq,k2,hq⟩
  ·omega
  ·rcases b3q (a2J false a s) b y db key w g1 (.own oy) (.of hb) (by omega) (by omega) (fun e he=>jea e (a2K he)) jeb S.k with ⟨m1,m2⟩ | ⟨m1,dt,m2,ht⟩
   ·omega
   ·have d5:decide (¬ (0:Int)=0)=false:=rfl
    have wl:IntKind.wrap .i64 (((prs key w (a2J true a s) b).length:Int)+((prs key w (a2J false a s) b).length:Int))=((prs key w a b).length:Int):=by rw [wrap_i64 (by omega) (by omega)];omega
    have d6:decide (¬ ((prs key w a b).length:Int)=((prs key w a b).length:Int))=false:=by simp
    simp only [h2,k2,m2,bs,a0H,c8Q,c8R,a3k,ne_eq,d5,not_true_eq_false,decide_false,a0x,a1a,reduceCtorEq,c8P,c8O,if_false,if_true,a0n,a0d,a2p hp,a2p hq,a2p ht,a0k,wl,d6,c8N]
    refine c0e hp hq ht h1 k1 m1 hmg _ _ _ g1 fun ds=>?_
    simp only [a0o,a0j,bs,a0s,ends]
    exact .some rfl
end Go.Proofs.YtkpnnfhodlanjaaGreatDoor
