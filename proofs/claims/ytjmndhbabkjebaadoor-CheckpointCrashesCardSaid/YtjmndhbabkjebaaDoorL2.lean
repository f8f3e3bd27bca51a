/- Laws, on plain data, about functions that the statement reaches. -/
import Derived.Test.YtjmndhbabkjebaaDoorL1
set_option linter.unusedSimpArgs false
set_option linter.unusedVariables false
set_option linter.unnecessarySimpa false
set_option maxRecDepth 100000
namespace Go.Proofs.YtjmndhbabkjebaaDoor
open Go.Eng Go.Pi
open Option (bind_some)
theorem Bw.trans {n0:Nat} {h h1 h2:Hp} {d d1 d2:D} {l1 l2:List Int} (a:Bw n0 h d h1 l1 d1) (b:Bw n0 h1 d1 h2 l2 d2):Bw n0 h d h2 l2 d2 :=
 ⟨b.ow,Nat.le_trans a.len b.len,fun q hq hd=>(b.old q (Nat.lt_of_lt_of_le hq a.len) fun hx=>by rcases a.new q hx with h1 | h1;exact hd h1;omega).trans (a.old q hq hd),
  fun q hq=>by rcases b.new q hq with h1 | h1;exact a.new q h1;exact .inr (Nat.le_trans a.len h1)⟩
theorem Bw.refl {n0:Nat} {h:Hp} {d:D} {l:List Int} (ow:Own h n0 ty5 1 (l.map byr) d):Bw n0 h d h l d:=⟨ow,Nat.le_refl _,fun _ _ _=>rfl,fun _ hq => .inl hq⟩
theorem Bw.low {n0:Nat} {h h':Hp} {d d':D} {l l0:List Int} (b:Bw n0 h d h' l d') (ow:Own h n0 ty5 1 (l0.map byr) d) (hn:n0≤h.length):∀ q,q<n0→h'[q]?=h[q]?:=fun q hq=>b.old q (by omega) fun hx=>by have:=(ow.lt hx).1;omega
theorem b6w {n0:Nat} {h:Hp} {d y:D} {l m:List Int} (hn:n0≤h.length) (ow:Own h n0 ty5 1 (l.map byr) d) (hy:a1h h 1 y=some (m.map byr)) (hl:l.length+m.length≤1000000000):∃ d' h',a0A tab h a0G a0G d y=some (d',h')∧Bw n0 h d h' (l++m) d':=by
 have key:=@b7S h n0 hn (l.map byr) d y ow _ hy (by simp;omega) _ (fun r=>some r) (fun r=>Bw n0 h d r.2 (l++m) r.1) (fun x' h' a b _ c e => .some ⟨by rw [d0I];exact a,b,c,e⟩)
 obtain ⟨⟨x',g⟩,e1,B⟩:=key
 refine ⟨x',g,?_,B⟩
 cases hq:a0A tab h a0G a0G d y with
 | none=>rw [hq] at e1;cases e1
 | some r=>rw [hq] at e1;exact e1
theorem c4K (h:Hp) (x:D) (s:Str):a0A tab h a0G ty9 x (.str s)=a0A tab h a0G a0G x (.sl 1 true (a0M s)):=id rfl
theorem c4J {n0:Nat} {h:Hp} {d:D} {l:List Int} (hn:n0≤h.length) (ow:Own h n0 ty5 1 (l.map byr) d) (s:Str) (hl:l.length+s.length≤1000000000):∃ d' h',a0A tab h a0G ty9 d (.str s)=some (d',h')∧Bw n0 h d h' (l++sby s) d':=by
 rw [c4K,b7J]
 exact b6w hn ow (a1e _ _ _ _) (by rw [a5E];exact hl)
def pI (n:Int):List Int:=a4o 8 (IntKind.wrap .u64 n)
def pN (n:Nat):List Int:=a4o 4 (IntKind.wrap .u64 n)
def pS (s:Str):List Int:=pN s.length++sby s
theorem a1X (n:Int):(pI n).length=8:=a1Z _ _
theorem a2L (n:Nat):(pN n).length=4:=a1Z _ _
theorem a3b (s:Str):(pS s).length=4+s.length:=by simp [-bind_some, pS,a2L,a5E]
theorem b8d {n0:Nat} {h0 h:Hp} {d0 d y:D} {l m:List Int} (B:Bw n0 h0 d0 h l d) (hn:n0≤h.length) (hy:a1h h 1 y=some (m.map byr)) (hl:l.length+m.length≤1000000000) {β:Type} {f:D × Hp→Option β} {Q:β→Prop}
  (k:∀ d' h',Bw n0 h0 d0 h' (l++m) d'→n0≤h'.length→Wp (f (d',h')) Q):Wp ((a0A tab h a0G a0G d y).bind f) Q:=by
 obtain ⟨d',h',e,B1⟩:=b6w hn B.ow hy hl
 exact Wp.step e (k d' h' (B.trans B1) (Nat.le_trans hn B1.len))
def lnB (l:Lin):List Int:=pI l.off++pI l.len++pS l.txt
def fdB (f:Str × Str):List Int:=pS f.1++pS f.2
def a4B (i:It):List Int:=pS i.r++pI i.e.a0++pI i.e.a1++pI i.e.a2++pI i.e.a3++pN i.e.ls.length
def a6t (i:It):List Int:=a4B i++(i.e.ls.map lnB).flatten++pI i.e.a5++pI i.e.a6++pS i.e.s7++pS i.e.s8++pN i.e.fs.length
def a1r (i:It):List Int:=a6t i++(i.e.fs.map fdB).flatten
theorem lF0 (l:Lin):a0a tab a1z 0 (.fptr (a1t l))=some (.fptr (a1t l)):=id rfl
theorem lF1 (l:Lin):a0a tab a1z 1 (.fptr (a1t l))=some (.fptr [.int .i64 l.len,.str l.txt]):=id rfl
theorem lF2 (l:Lin):a0a tab a1z 2 (.fptr (a1t l))=some (.fptr [.str l.txt]):=id rfl
theorem lL0 (l:Lin) (g:Hp):a0d tab g ty3 (.fptr (a1t l))=some (.int .i64 l.off):=id rfl
theorem fF0 (p:Str × Str):a0a tab a0t 0 (.fptr (fld p))=some (.fptr (fld p)):=id rfl
theorem fF1 (p:Str × Str):a0a tab a0t 1 (.fptr (fld p))=some (.fptr [.str p.2]):=id rfl
theorem fL0 (p:Str × Str) (g:Hp):a0d tab g ty9 (.fptr (fld p))=some (.str p.1):=id rfl
theorem a1w {α:Type} (f:α→List Int) {l:List α} {n:Nat} {x:α} (h:l[n]?=some x):((l.take (n+1)).map f).flatten=((l.take n).map f).flatten++f x:=by
 rw [d0N,h];simp [-bind_some]
theorem a8i {α:Type} (f:α→List Int) (l:List α) (n:Nat):((l.take n).map f).flatten.length≤(l.map f).flatten.length:=by
 conv=>rhs;rw [← List.take_append_drop n l,d0I,List.flatten_append,d0G]
 omega
def RdB (h:Hp) (l:List Int) (d:D):Prop:=SlOf 1 byr l d∨∃ ob,d = .msl 1 ob 0 l.length∧h[ob]?=some (Ob.row ty5 1 (l.map byr))
theorem RdB.own {h:Hp} {n0:Nat} {l:List Int} {d:D} (ow:Own h n0 ty5 1 (l.map byr) d):RdB h l d:=by
 rcases ow with ⟨rfl,hl⟩ | ⟨o,_,rfl,hg⟩
 ·exact .inl (.inl ⟨rfl,by simpa using hl⟩)
 ·exact .inr ⟨o,by simp,hg⟩
theorem b0D {h:Hp} {l:List Int} {d:D} (hd:RdB h l d):a0y tab a0G d=some (.int .i64 l.length):=by
 rcases hd with hd | ⟨ob,rfl,_⟩
 ·exact a1H hd
 ·exact b1U _ _ _ _
theorem b8H {h:Hp} {l:List Int} {d:D} (hd:RdB h l d) (i:Nat) (z:Int) (hz:l[i]?=some z):∃ q,a0b tab a0G d (.int .i64 i)=some q∧a0d tab h ty5 q=some (.int .u8 z):=by
 rcases hd with hd | ⟨ob,rfl,ho⟩
 ·exact ⟨.fptr (byr z),by rw [b9Z hd];simp [-bind_some, hz],b3D z h⟩
 ·have hlt:=(d0R.1 hz).1
  refine ⟨.ptr ob (0+i) 0,by rw [b7q];simp [-bind_some, hlt],?_⟩
  rw [c7Y,a0I ho,d0O]
  simp [-bind_some, hz,byr]
theorem a6l {h:Hp} {l:List Int} {d:D} (hd:RdB h l d):a1h h 1 d=some (l.map byr):=by
 rcases hd with hd | ⟨ob,rfl,ho⟩
 ·rcases hd with ⟨rfl,rfl⟩ | ⟨b,rfl⟩
  ·rfl
  ·exact a1e _ _ _ _
 ·simp only [a1h,if_true,ho,List.drop_zero]
  rw [List.take_of_length_le (by simp)]
theorem RdB.keep {h h':Hp} {l:List Int} {d:D} (hd:RdB h l d) (hk:∀ (q T z:Nat) (rows:List (List D)),h[q]?=some (Ob.row T z rows)→h'[q]?=h[q]?):RdB h' l d:=by
 rcases hd with hd | ⟨ob,rfl,ho⟩
 ·exact .inl hd
 ·exact .inr ⟨ob,rfl,by rw [hk _ _ _ _ ho];exact ho⟩
def a2T (l:List Int):Int:=l.foldl (fun c z=>(c*31+z) % 4294967291) 1
theorem a8M {l:List Int} {n:Nat} {z:Int} (h:l[n]?=some z):a2T (l.take (n+1))=(a2T (l.take n)*31+z) % 4294967291:=by
 unfold a2T
 rw [d0N,h]
 simp [-bind_some]
theorem a3m:∀ (l:List Int),0≤a2T l∧a2T l<4294967291:=by
 intro l
 unfold a2T
 generalize hc:(1:Int)=c
 have h0:0≤c∧c<4294967291:=by omega
 clear hc
 induction l generalizing c with
 | nil=>exact h0
 | cons z r ih =>
  simp only [List.foldl_cons]
  exact ih _ (by omega)
theorem b6G (i:It):∀ z∈a1r i,U8 z:=by
 have hI:∀ n,∀ z∈pI n,U8 z:=fun n=>a3V _ _
 have hN:∀ n,∀ z∈pN n,U8 z:=fun n=>a3V _ _
 have hS:∀ s,∀ z∈pS s,U8 z:=fun s z hz=>by
  rcases d0X.1 hz with h | h
  ·exact hN _ z h
  ·exact c3Y _ z h
 intro z hz
 simp only [a1r,a6t,a4B,d0X,List.mem_flatten,d0Y] at hz
 rcases hz with ((((((((((((h | h) | h) | h) | h) | h) | ⟨_,⟨l,_,rfl⟩,h⟩) | h) | h) | h) | h) | h)) | ⟨_,⟨l,_,rfl⟩,h⟩
 ·exact hS _ z h
 ·exact hI _ z h
 ·exact hI _ z h
 ·exact hI _ z h
 ·exact hI _ z h
 ·exact hN _ z h
 ·simp only [lnB,d0X] at h
  rcases h with (h | h) | h
  ·exact hI _ z h
  ·exact hI _ z h
  ·exact hS _ z h
 ·exact hI _ z h
 ·exact hI _ z h
 ·exact hS _ z h
 ·exact hS _ z h
 ·exact hN _ z h
 ·simp only [fdB,d0X] at h
  rcases h with h | h
  ·exact hS _ z h
  ·exact hS _ z h
def a6C (i:It):List Int:=a4o 4 (IntKind.wrap .u64 (((a1r i).length:Int)+4))++a1r i
def a3d (i:It):List Int:=a6C i++a4o 4 (a2T (a6C i))
theorem b4c (i:It):∀ z∈a6C i,U8 z:=fun z hz=>by
 rcases d0X.1 hz with h | h
 ·exact a3V _ _ z h
 ·exact b6G i z h
theorem b9H (i:It):∀ z∈a3d i,U8 z:=fun z hz=>by
 rcases d0X.1 hz with h | h
 ·exact b4c i z h
 ·exact a3V _ _ z h
theorem a4X (i:It):(a3d i).length=(a1r i).length+8:=by
 simp only [a3d,a6C,d0G,a1Z];omega
theorem a4j {α:Type} (f:α→List Int) (m:Nat):∀ (l:List α),(∀ a∈l,(f a).length≤m)→(l.map f).flatten.length≤l.length*m
 | [],_=>by simp
 | a::l,h=>by
  have h1:=h a (by simp)
  have h2:=a4j f m l fun b hb=>h b (by simp [-bind_some, hb])
  simp only [d0J,List.flatten_cons,d0G,d0S,Nat.succ_mul]
  omega
theorem c3F (w x b k:Nat) (hb:b<2 ^ k) (hx:x*2 ^ k+b<2 ^ w):(BitVec.ofInt w ((x*2 ^ k:Nat):Int) ||| BitVec.ofInt w (b:Int)).toNat=x*2 ^ k+b:=by
 rw [BitVec.ofInt_natCast,BitVec.ofInt_natCast,BitVec.toNat_or,BitVec.toNat_ofNat,BitVec.toNat_ofNat,Nat.mod_eq_of_lt (by omega),Nat.mod_eq_of_lt (by omega)]
 rw [← Nat.shiftLeft_eq,← Nat.shiftLeft_add_eq_or_of_lt hb,Nat.shiftLeft_eq]
theorem a9Q (x:BitVec IntKind.u64.bits):IntKind.wrap .u64 (x.toNat:Int)=x.toNat:=by
 have:=x.isLt
 have h2:(2:Nat) ^ IntKind.u64.bits=18446744073709551616:=by decide
 exact a2l (by omega) (by omega)
theorem b8E {x b:Int} (k:Nat) (h0:0≤x) (hb0:0≤b) (hb:b<2 ^ k) (hx:x*2 ^ k+b<18446744073709551616):IntKind.wrap .u64 (BitVec.ofInt IntKind.u64.bits (x*2 ^ k) ||| BitVec.ofInt IntKind.u64.bits b).toNat=x*2 ^ k+b:=by
 obtain ⟨X,rfl⟩:=Int.eq_ofNat_of_zero_le h0
 obtain ⟨B,rfl⟩:=Int.eq_ofNat_of_zero_le hb0
 have e:((X:Int)*2 ^ k)=((X*2 ^ k:Nat):Int):=by push_cast;rfl
 have hB:B<2 ^ k:=by exact_mod_cast hb
 have hX:X*2 ^ k+B<2 ^ IntKind.u64.bits:=by
  have h2:(2:Nat) ^ IntKind.u64.bits=18446744073709551616:=by decide
  rw [h2]
  rw [e] at hx
  generalize X*2 ^ k=Y at hx
  omega
 have:=c3F IntKind.u64.bits X B k hB hX
 rw [e,a9Q,this]
 push_cast;rfl
theorem a8t {l:List Int} {n:Nat} {z:Int} (h:l[n]?=some z):num (l.take (n+1))=num (l.take n)*256+z:=by
 unfold num
 rw [d0N,h]
 simp [-bind_some]
theorem a5z {l:List Int} {d:D} (hd:SlOf 1 byr l d) (a b:Nat) (hab:a≤b) (hb:b≤l.length):∃ d',a0w tab a0G true true false [d,.int .i64 a,.int .i64 b]=some d'∧SlOf 1 byr ((l.take b).drop a) d':=by
 have t1:tab a0G=some ti22:=id rfl
 have t2:ti22.td = .sl ty5:=id rfl
 have t3:tab ty5=some ti5:=id rfl
 have t4:ti5.sz=1:=id rfl
 simp only [a0w,a2G,bs,a1J,t1,t2,t3]
 rcases hd with ⟨rfl,rfl⟩ | ⟨f,rfl⟩
 ·have:b=0:=by simpa using hb
  subst this
  have:a=0:=by omega
  subst this
  exact ⟨_,rfl,.inl ⟨rfl,rfl⟩⟩
 ·have h1:(a:Int)≤b:=by omega
  have h2:(b:Int)≤l.length:=by omega
  simp [-bind_some, t4,h1,h2,hb,hab]
  exact .inr ⟨_,by rw [List.map_drop,List.map_take]⟩
theorem a9z (q:Nat):¬ D.inOb .nils q:=fun hh=>by obtain ⟨z,n,hh⟩:=hh;cases hh
theorem a1o {h:Hp} {n0 e z:Nat} {rows:List (List D)} {d:D} (ow:Own h n0 e z rows d) {q:Nat} (hq:d.inOb q):h[q]?=some (.row e z rows):=by
 obtain ⟨z',n,rfl⟩:=hq
 rcases ow with ⟨hd,_⟩ | ⟨o,ho,hd,hg⟩
 ·cases hd
 ·injection hd with _ h2
  subst h2
  exact hg
theorem b5G {h:Hp} {n n' e e' z z':Nat} {rows rows':List (List D)} {d d':D} (a:Own h n e z rows d) (b:Own h n' e' z' rows' d') (hne:e≠e') {q:Nat} (hq:d.inOb q):¬ d'.inOb q:=fun hx=>by
 have h1:=a1o a hq
 have h2:=a1o b hx
 rw [h1] at h2
 injection h2 with h2
 injection h2 with h3
 exact hne h3
theorem c6x (v:Int) (n0:Nat):∀ (k:Nat),k≤8→∀ (h:Hp) (l:List Int) (d a:D),n0≤h.length→Own h n0 ty5 1 (l.map byr) d→l.length+k≤1000000000→∃ d' h' b,a0K (a5Z (.int .u64 v)) [d,.int .i64 (8*((k:Int) - 1)),a] h=some (.ext 0,[d',b,.bool false],h')∧Bw n0 h d h' (l++a4o k v) d':=by
 intro k
 induction k with
 | zero =>
  intro _ h l d a hn ow hr
  rw [a1S]
  refine ⟨d,h,_,by simp [-bind_some, a5Z];rfl,?_⟩
  simpa [-bind_some, a4o] using Bw.refl ow
 | succ k ih =>
  intro hk h l d a hn ow hr
  have hg:(0:Int)≤8*(((k+1:Nat):Int) - 1):=by omega
  have hw1:8*(((k+1:Nat):Int) - 1)=8*(k:Int):=by omega
  have hw2:IntKind.wrap .i64 (8*(k:Int) - 8)=8*((k:Int) - 1):=by rw [wrap_i64 (by omega) (by omega)];omega
  have h8:¬ (8*(k:Int))<0:=by omega
  have hmn:min (8*(k:Int)).toNat IntKind.u64.bits=8*k:=by
   have:IntKind.u64.bits=64:=rfl
   rw [this];omega
  obtain ⟨x',g,e1,B1⟩:=b6w (y := .sl 1 true [byr (IntKind.wrap .u8 (v.fdiv (2 ^ (8*k))))]) (m:=[IntKind.wrap .u8 (v.fdiv (2 ^ (8*k)))]) hn ow (a1e _ _ _ _) (by simp;omega)
  obtain ⟨d',h',b,e2,B2⟩:=ih (by omega) g _ x' (.bool true) (Nat.le_trans hn B1.len) B1.ow (by simp;omega)
  refine ⟨d',h',b,?_,?_⟩
  ·rw [a1S]
   rw [hw1] at hg ⊢
   simp only [a5Z,a0f,a0j,bs,a4g,decide_eq_true hg,a0c,if_true,a4h,h8,if_false,hmn,b6R,b8f,show ∀ z,([[D.int .u8 z]]:List (List D))=[byr z] from fun _=>rfl,e1,a0z,hw2]
   exact e2
  ·have:=B1.trans B2
   simpa [-bind_some, a4o] using this
theorem b5Y (v:Int) (k:Nat) (hk:k≤8) (n0:Nat) (h:Hp) (l:List Int) (d:D) (hn:n0≤h.length) (ow:Own h n0 ty5 1 (l.map byr) d) (hr:l.length≤999999000):∃ d' h',R a3E [d,.int .u64 v,.int .i64 k] h=some (d',h')∧Bw n0 h d h' (l++a4o k v) d':=by
 obtain ⟨d',h',b,e1,B⟩:=c6x v n0 k hk h l d .any hn ow (by omega)
 refine ⟨d',h',?_,B⟩
 rw [c5y]
 have hw:IntKind.wrap .i64 ((k:Int) - 1)=(k:Int) - 1:=by rw [wrap_i64 (by omega) (by omega)]
 have hw2:IntKind.wrap .i64 (8*((k:Int) - 1))=8*((k:Int) - 1):=by rw [wrap_i64 (by omega) (by omega)]
 simp only [c1K,bs,a0z,hw,a2o,hw2,d0B,e1,a0p,a0n,a0f,a0h]
theorem c3U (l:List Int) (d:D) (h:Hp) (hd:RdB h l d) (hl:l.length≤9223372036854775806) (hu:∀ z∈l,U8 z):R b1F [d] h=some (.int .u64 (a2T l),h):=by
 apply Wp.val
 rw [c5z]
 simp only [c1L,bs,d0B,b0D hd]
 refine Wp.loop (fun k ds g=>g=h∧∃ x y,∃ n:Nat,ds=[.int .u64 (a2T (l.take n)),x,.int .i64 n,y]∧k+n=l.length) (fun r=>r.1 = .ext 0∧r.2.2=h∧∃ a b c,r.2.1=[.int .u64 (a2T l),a,b,c]) l.length ⟨rfl,_,_,0,rfl,rfl⟩ ?_ ?_
 ·rintro k ds g ⟨rfl,x,y,n,rfl,hk⟩
  simp only [b0R,a0f,a0j,bs,d0B,a0o]
  refine Wp.dif ?_ ?_
  ·intro h0
   have h0:n<l.length:=dl_ h0
   obtain ⟨z,hz⟩:=gx_ h0
   have hzu:=hu z (d0P hz)
   obtain ⟨q,q1,q2⟩:=b8H hd n z hz
   have hr:=a3m (l.take n)
   have hw:=wi_ n (by omega)
   unfold U8 at hzu
   have w1:IntKind.wrap .u64 (a2T (l.take n)*31)=a2T (l.take n)*31:=a2l (by omega) (by omega)
   have w2:IntKind.wrap .u64 z=z:=a2l (by omega) (by omega)
   have w3:IntKind.wrap .u64 (a2T (l.take n)*31+z)=a2T (l.take n)*31+z:=a2l (by omega) (by omega)
   have w4:(a2T (l.take n)*31+z).tmod 4294967291=a2T (l.take (n+1)):=by
    rw [a8M hz,Int.tmod_eq_emod_of_nonneg (by omega)]
   simp only [a2o,w1,q1,q2,a7X,w2,a0r,w3,bs,a3w,show ¬ ((4294967291:Int)=0) by omega,if_false,w4,hw]
   exact .some (.inl ⟨rfl,k - 1,by omega,rfl,_,_,n+1,rfl,by omega⟩)
  ·intro h0
   have h0:n=l.length:=by
    have:¬ (n:Int)<l.length:=by simpa using h0
    omega
   subst h0
   rw [d0Z]
   exact .some (.inr ⟨by simp,rfl,rfl,_,_,_,rfl⟩)
 ·rintro ⟨ex,ds,g⟩ ⟨rfl,q2,a,b,c,rfl⟩
  simp only at q2
  subst q2
  simp only [a0p,a0n,bs,a0f,a0h]
  exact .some rfl
structure WrS (n0 oi ow:Nat) (h0:Hp) (it:List D) (g:Hp) (l:List Int):Prop where
 hi:g[oi]?=some (.row a0P 11 [it])
 hw:∃ d,g[ow]?=some (.row a1T 1 [[d]])∧Own g n0 ty5 1 (l.map byr) d
 lo:∀ q,q<n0→g[q]?=h0[q]?
 ln:n0≤g.length
theorem ldw {g:Hp} {ow:Nat} {d:D} (h:g[ow]?=some (.row a1T 1 [[d]])):a0d tab g a0G (.ptr ow 0 (0+0))=some d:=by rw [c0i,a0I h];rfl
theorem WrS.put {n0 oi ow:Nat} {h0:Hp} {it:List D} {g g':Hp} {l l':List Int} {d d':D} (s:WrS n0 oi ow h0 it g l) (hn:n0≤ow) (hw:g[ow]?=some (.row a1T 1 [[d]])) (hb:Own g n0 ty5 1 (l.map byr) d) (B:Bw n0 g d g' l' d') {β:Type} {f:Hp→Option β} {Q:β→Prop}
  (k:∀ g2,WrS n0 oi ow h0 it g2 l'→Wp (f g2) Q):Wp ((a0q tab g' a0G (.ptr ow 0 (0+0)) d').bind f) Q:=by
 have hnd:∀ {q T z:Nat} {rows:List (List D)},g[q]?=some (.row T z rows)→T≠ty5→¬ d.inOb q:=fun hq hT hx=>by
  have:=a1o hb hx
  rw [hq] at this
  injection this with this
  injection this with h1
  exact hT h1
 have keep:∀ {q T z:Nat} {rows:List (List D)},g[q]?=some (.row T z rows)→T≠ty5→g'[q]?=some (.row T z rows):=fun hq hT=>by
  rw [B.old _ (d0R.1 hq).1 (hnd hq hT)];exact hq
 have hw':=keep hw (by decide)
 have hi':=keep s.hi (by decide)
 refine c0Z hw' (by rfl) (by rcases B.ow with ⟨rfl,_⟩ | ⟨o,_,rfl,_⟩ <;> rfl) (by simp) (by rcases B.ow with ⟨rfl,_⟩ | ⟨o,_,rfl,_⟩ <;> rfl) fun g2 h2 s2=>?_
 have hne:oi≠ow:=fun hh=>by
  subst hh
  rw [s.hi] at hw
  injection hw with hw
  injection hw with h1
  exact absurd h1 (by decide)
 have hc:a0u d'=[d']:=by rcases B.ow with ⟨rfl,_⟩ | ⟨o,_,rfl,_⟩ <;> rfl
 have h2:g2[ow]?=some (.row a1T 1 [[d']]):=by rw [h2,hc];rfl
 refine k g2 ⟨by rw [s2.2 oi hne];exact hi',⟨d',h2,B.ow.keep fun q _ hx=>s2.2 q fun hh=>?_⟩,fun q hq=>?_,?_⟩
 ·subst hh
  have:=a1o B.ow hx
  rw [hw'] at this
  injection this with this
  injection this with h1
  exact absurd h1 (by decide)
 ·rw [s2.2 q (by omega),B.old q (by have:=s.ln;omega) (fun hx=>by have:=(hb.lt hx).1;omega)]
  exact s.lo q hq
 ·have:=s2.1;have:=B.len;have:=s.ln;omega
theorem b6o {n0 oi ow:Nat} {h0:Hp} {it:List D} {g:Hp} {l:List Int} (s:WrS n0 oi ow h0 it g l) (hn:n0≤ow) (hl:l.length≤999999000) (t:D) (n:Int) (ht:a0e tab t=some t) (hld:a0d tab g ty3 t=some (.int .i64 n)) {β:Type} {f:D × Hp→Option β} {Q:β→Prop}
  (k:∀ g2,WrS n0 oi ow h0 it g2 (l++pI n)→Wp (f (a0i [],g2)) Q):Wp ((R b4G [.ptr ow 0 0,t] g).bind f) Q:=by
 obtain ⟨d,hw,hb⟩:=s.hw
 obtain ⟨d',g1,e1,B⟩:=b5Y (IntKind.wrap .u64 n) 8 (by omega) n0 g l d s.ln hb hl
 have e1:R a3E [d,.int .u64 (IntKind.wrap .u64 n),.int .i64 8] g=some (d',g1):=e1
 rw [c5C]
 simp only [c1O,bs,a0k,a5b,ldw hw,ht,hld,a6d,e1,d0B]
 refine s.put hn hw hb B fun g2 s2=>?_
 try simp only [bs]
 exact k g2 s2
theorem c4g {n0 oi ow:Nat} {h0:Hp} {it:List D} {g:Hp} {l:List Int} (s:WrS n0 oi ow h0 it g l) (hn:n0≤ow) (hl:l.length≤999999000) (n:Nat) {β:Type} {f:D × Hp→Option β} {Q:β→Prop}
  (k:∀ g2,WrS n0 oi ow h0 it g2 (l++pN n)→Wp (f (.int .i64 n,g2)) Q):Wp ((R b4F [.ptr ow 0 0,.int .i64 n] g).bind f) Q:=by
 obtain ⟨d,hw,hb⟩:=s.hw
 obtain ⟨d',g1,e1,B⟩:=b5Y (IntKind.wrap .u64 n) 4 (by omega) n0 g l d s.ln hb hl
 have e1:R a3E [d,.int .u64 (IntKind.wrap .u64 n),.int .i64 4] g=some (d',g1):=e1
 rw [c5B]
 simp only [c1N,bs,a0k,a5b,ldw hw,a6d,e1,d0B]
 refine s.put hn hw hb B fun g2 s2=>?_
 simp only [bs,a0h]
 exact k g2 s2
theorem b3n {n0 oi ow:Nat} {h0:Hp} {it:List D} {g:Hp} {l:List Int} (s:WrS n0 oi ow h0 it g l) (hn:n0≤ow) (u:Str) (hl:l.length+u.length≤999998000) (t:D) (ht:a0e tab t=some t) (hld:∀ g':Hp,g'[oi]?=some (.row a0P 11 [it])→a0d tab g' ty9 t=some (.str u)) {β:Type} {f:D × Hp→Option β} {Q:β→Prop}
  (k:∀ g2,WrS n0 oi ow h0 it g2 (l++pS u)→Wp (f (a0i [],g2)) Q):Wp ((R b4H [.ptr ow 0 0,t] g).bind f) Q:=by
 obtain ⟨d,hw,hb⟩:=s.hw
 obtain ⟨d1,g1,e1,B1⟩:=b5Y (IntKind.wrap .u64 u.length) 4 (by omega) n0 g l d s.ln hb (by omega)
 have e1:R a3E [d,.int .u64 (IntKind.wrap .u64 u.length),.int .i64 4] g=some (d1,g1):=e1
 obtain ⟨d2,g2,e2,B2⟩:=c4J (Nat.le_trans s.ln B1.len) B1.ow u (by simp only [d0G,a1Z];omega)
 have hi1:g1[oi]?=some (.row a0P 11 [it]):=by
  rw [B1.old oi (d0R.1 s.hi).1 (fun hx=>by
   have:=a1o hb hx
   rw [s.hi] at this
   injection this with this
   injection this with h1
   exact absurd h1 (by decide))]
  exact s.hi
 have B:=B1.trans B2
 have hpS:l++a4o 4 (IntKind.wrap .u64 u.length)++sby u=l++pS u:=by simp [-bind_some, pS,pN]
 rw [hpS] at B
 rw [c5D]
 simp only [c1P,bs,a0k,a5b,ldw hw,ht,hld g s.hi,a8o,a6d,e1,hld g1 hi1,e2,d0B]
 refine s.put hn hw hb B fun g2 s2=>?_
 simp only [bs,a2j]
 exact k g2 s2
theorem nmN (d:D):a0e tab (.fn (.method "logtide/event.number") [.iface a4b d] [])=some (.fn (.method "logtide/event.number") [.iface a4b d] []):=by kernel_rfl
theorem nmT (d:D):a0e tab (.fn (.method "logtide/event.text") [.iface a4b d] [])=some (.fn (.method "logtide/event.text") [.iface a4b d] []):=by kernel_rfl
theorem nmC (d:D):a0e tab (.fn (.method "logtide/event.count") [.iface a4b d] [])=some (.fn (.method "logtide/event.count") [.iface a4b d] []):=by kernel_rfl
theorem a2m (cs:List D):a0e tab (.fptr cs)=some (.fptr cs):=id rfl
theorem itA {g:Hp} {oi:Nat} {i:It} (h:g[oi]?=some (.row a0P 11 [itr i])):a0d tab g ty9 (.ptr oi 0 (0+0))=some (.str i.r)∧a0d tab g ty3 (.ptr oi 0 (0+1+0))=some (.int .i64 i.e.a0)∧a0d tab g ty3 (.ptr oi 0 (0+1+1))=some (.int .i64 i.e.a1) ∧
  a0d tab g ty3 (.ptr oi 0 (0+1+2))=some (.int .i64 i.e.a2)∧a0d tab g ty3 (.ptr oi 0 (0+1+3))=some (.int .i64 i.e.a3)∧a0d tab g a1P (.ptr oi 0 (0+1+4))=some i.e.ld∧a0d tab g ty3 (.ptr oi 0 (0+1+5))=some (.int .i64 i.e.a5) ∧
  a0d tab g ty3 (.ptr oi 0 (0+1+6))=some (.int .i64 i.e.a6)∧a0d tab g ty9 (.ptr oi 0 (0+1+7))=some (.str i.e.s7)∧a0d tab g ty9 (.ptr oi 0 (0+1+8))=some (.str i.e.s8)∧a0d tab g a1m (.ptr oi 0 (0+1+9))=some i.e.fd:=by
 refine ⟨?_,?_,?_,?_,?_,?_,?_,?_,?_,?_,?_⟩
 ·rw [b2L,a0I h];rfl
 ·rw [a6h,a0I h];rfl
 ·rw [a6h,a0I h];rfl
 ·rw [a6h,a0I h];rfl
 ·rw [a6h,a0I h];rfl
 ·rw [b5h,a0I h];rfl
 ·rw [a6h,a0I h];rfl
 ·rw [a6h,a0I h];rfl
 ·rw [b2L,a0I h];rfl
 ·rw [b2L,a0I h];rfl
 ·rw [c3l,a0I h];rfl
def pl4 (oi:Nat):List (List D):=[[.ptr oi 0 (0+1+0)],[.ptr oi 0 (0+1+1)],[.ptr oi 0 (0+1+2)],[.ptr oi 0 (0+1+3)]]
def a8j (i:It):List Int:=[i.e.a0,i.e.a1,i.e.a2,i.e.a3]
theorem b9O {g:Hp} {oi:Nat} {i:It} (h:g[oi]?=some (.row a0P 11 [itr i])) (n:Nat) (hn:n<4):∃ t a,a0b tab a5r (.sl 1 true (pl4 oi)) (.int .i64 n)=some (.fptr [t])∧a0e tab t=some t∧a0d tab g ty3 t=some (.int .i64 a)∧(a8j i)[n]?=some a:=by
 obtain ⟨_,h0,h1,h2,h3,_⟩:=itA h
 have:n=0∨n=1∨n=2∨n=3:=by omega
 rcases this with rfl | rfl | rfl | rfl
 ·exact ⟨_,_,by rw [a9q];rfl,a0k _ _ _ _,h0,rfl⟩
 ·exact ⟨_,_,by rw [a9q];rfl,a0k _ _ _ _,h1,rfl⟩
 ·exact ⟨_,_,by rw [a9q];rfl,a0k _ _ _ _,h2,rfl⟩
 ·exact ⟨_,_,by rw [a9q];rfl,a0k _ _ _ _,h3,rfl⟩
theorem c7C (i:It) {n0 oi ow:Nat} {h0 g:Hp} {l:List Int} (s:WrS n0 oi ow h0 (itr i) g l) (hn:n0≤ow) (hl:l.length+(a1r i).length≤900000000) {β:Type} {f:D × Hp→Option β} {Q:β→Prop}
  (k:∀ g2,WrS n0 oi ow h0 (itr i) g2 (l++a1r i)→Wp (f (a0i [],g2)) Q):Wp ((R a9g [.iface a4b (.ptr ow 0 0),.ptr oi 0 0] g).bind f) Q:=by
 have hbb:=hl
 simp only [a1r,a6t,a4B,d0G,a1X,a2L,a3b] at hbb
 have hll:=i.e.hll
 have hlf:=i.e.hl
 rw [c2M]
 simp only [b9i,bs,d0B,a0k,b4n,a3L,nmT,nmN,nmC,a3f,a2f,a3z,b4i,b0f,a4D,a4E]
 refine b3n s hn i.r (by omega) _ (a0k _ _ _ _) (fun g' h=>(itA h).1) fun g1 s1=>?_
 simp only [bs,b1g (.ptr oi 0 (0+1+0)) (.ptr oi 0 (0+1+1)) (.ptr oi 0 (0+1+2)) (.ptr oi 0 (0+1+3)) rfl rfl rfl rfl,show ([[.ptr oi 0 (0+1+0)],[.ptr oi 0 (0+1+1)],[.ptr oi 0 (0+1+2)],[.ptr oi 0 (0+1+3)]]:List (List D))=pl4 oi from rfl,b5i,show (pl4 oi).length=4 from rfl]
 refine Wp.loop (fun kk ds g'=>∃ a b,∃ n:Nat,ds=[a,.int .i64 n,b]∧kk+n=4∧WrS n0 oi ow h0 (itr i) g' (l++pS i.r++(((a8j i).take n).map pI).flatten))
  (fun r=>r.1 = .ext 0∧(∃ a b c,r.2.1=[a,b,c])∧WrS n0 oi ow h0 (itr i) r.2.2 (l++pS i.r++((a8j i).map pI).flatten)) 4 ⟨_,_,0,rfl,rfl,by simpa using s1⟩ ?_ ?_
 ·rintro kk ds g' ⟨a,b,n,rfl,hk,s'⟩
  simp only [a7O,a0f,a0j,bs,d0B,a0o]
  refine Wp.dif ?_ ?_
  ·intro h1
   have h1:n<4:=by
    have:(n:Int)<((4:Nat):Int):=by simpa using h1
    omega
   obtain ⟨t,v,q1,q2,q3,q4⟩:=b9O s'.hi n h1
   have hw:=wi_ n (by omega)
   have hle:=a8i pI (a8j i) n
   have hl32:((a8j i).map pI).flatten.length=32:=by simp only [a8j,d0J,List.map_nil,List.flatten_cons,List.flatten_nil,d0G,a1X,d0T]
   simp only [q1,a9u,bs,a2f]
   refine b6o s' hn (by simp only [d0G,a3b];omega) t v q2 q3 fun g2 s2=>?_
   simp only [bs,a0r,hw]
   refine .some (.inl ⟨rfl,kk - 1,by omega,_,_,n+1,rfl,by omega,?_⟩)
   rw [a1w pI q4]
   simpa using s2
  ·intro h1
   have h1:n=4:=by
    have:¬ (n:Int)<((4:Nat):Int):=by simpa using h1
    omega
   subst h1
   exact .some (.inr ⟨by simp,rfl,⟨_,_,_,rfl⟩,s'⟩)
 rintro ⟨ex,ds,g2⟩ ⟨rfl,⟨a,b,c,rfl⟩,s2⟩
 have s2:WrS n0 oi ow h0 (itr i) g2 (l++pS i.r++((a8j i).map pI).flatten):=s2
 have h4:((a8j i).map pI).flatten=pI i.e.a0++pI i.e.a1++pI i.e.a2++pI i.e.a3:=by simp [-bind_some, a8j]
 rw [h4] at s2
 simp only [a0p,a0n,bs,d0B,a0k,a3x,(itA s2.hi).2.2.2.2.2.1,a4x i.e.hld,nmC,a3z]
 refine c4g s2 hn (by simp only [d0G,a1X,a3b];omega) i.e.ls.length fun g3 s3=>?_
 have hA:l++pS i.r++(pI i.e.a0++pI i.e.a1++pI i.e.a2++pI i.e.a3)++pN i.e.ls.length=l++a4B i:=by simp [-bind_some, a4B]
 rw [hA] at s3
 have hAl:(a4B i).length=4+i.r.length+36:=by simp only [a4B,d0G,a3b,a1X,a2L]
 simp only [bs]
 refine Wp.loop (fun kk ds g'=>∃ a b c d,∃ n:Nat,ds=[a,b,.int .i64 n,c,d]∧kk+n=i.e.ls.length∧WrS n0 oi ow h0 (itr i) g' (l++a4B i++((i.e.ls.take n).map lnB).flatten))
  (fun r=>r.1 = .ext 2∧(∃ a b c d e,r.2.1=[a,b,c,d,e])∧WrS n0 oi ow h0 (itr i) r.2.2 (l++a4B i++(i.e.ls.map lnB).flatten)) i.e.ls.length ⟨_,_,_,_,0,rfl,rfl,by simpa using s3⟩ ?_ ?_
 ·rintro kk ds g' ⟨a,b,c,d,n,rfl,hk,s'⟩
  simp only [a5X,a0f,a0j,bs,d0B,a0o]
  refine Wp.dif ?_ ?_
  ·intro h1
   have h1:n<i.e.ls.length:=dl_ h1
   obtain ⟨x,hx⟩:=gx_ h1
   have hw:=wi_ n (by omega)
   have hix:a0b tab a1P i.e.ld (.int .i64 (n:Int))=some (.fptr (a1t x)):=by rw [a9r i.e.hld];simp [-bind_some, hx]
   have hle:=a8i lnB i.e.ls (n+1)
   rw [a1w lnB hx,d0G] at hle
   have hln:(lnB x).length=20+x.txt.length:=by simp only [lnB,d0G,a1X,a3b];omega
   have hne:¬ (n:Int)=(i.e.ls.length:Int):=by omega
   simp only [a0k,a3x,bs,(itA s'.hi).2.2.2.2.2.1,a4x i.e.hld,a0L,hne,decide_false,a0c,d0C,if_false,a0n,hix,a2m,lF0,lF1,lF2,nmN,nmT,a2f,a3f]
   refine b6o s' hn (by simp only [d0G];omega) _ x.off (a2m _) (lL0 x g') fun g4 s4=>?_
   simp only [bs]
   refine b6o s4 hn (by simp only [d0G,a1X];omega) _ x.len (a2m _) (ld3 _ _ _) fun g5 s5=>?_
   simp only [bs]
   refine b3n s5 hn x.txt (by simp only [d0G,a1X];omega) _ (a2m _) (fun g' _=>ld9 _ _ _) fun g6 s6=>?_
   simp only [bs,a0r,hw]
   refine .some (.inl ⟨rfl,kk - 1,by omega,_,_,_,_,n+1,rfl,by omega,?_⟩)
   rw [a1w lnB hx]
   simpa [-bind_some, lnB] using s6
  ·intro h1
   have h1:n=i.e.ls.length:=by
    have:¬ (n:Int)<i.e.ls.length:=by simpa using h1
    omega
   subst h1
   rw [d0Z] at s'
   exact .some (.inr ⟨by simp,rfl,⟨_,_,_,_,_,rfl⟩,s'⟩)
 rintro ⟨ex,ds,g4⟩ ⟨rfl,⟨a,b,c,d,e,rfl⟩,s4⟩
 have s4:WrS n0 oi ow h0 (itr i) g4 (l++a4B i++(i.e.ls.map lnB).flatten):=s4
 simp only [a0p,a0n,bs,d0B,a0k,b4j,b4k,b4l,b4m,a6D,nmN,nmT,nmC,a2f,a3f,a3z]
 refine b6o s4 hn (by simp only [d0G];omega) _ i.e.a5 (a0k _ _ _ _) (itA s4.hi).2.2.2.2.2.2.1 fun g5 s5=>?_
 simp only [bs]
 refine b6o s5 hn (by simp only [d0G,a1X];omega) _ i.e.a6 (a0k _ _ _ _) (itA s5.hi).2.2.2.2.2.2.2.1 fun g6 s6=>?_
 simp only [bs]
 refine b3n s6 hn i.e.s7 (by simp only [d0G,a1X];omega) _ (a0k _ _ _ _) (fun g' h=>(itA h).2.2.2.2.2.2.2.2.1) fun g7 s7'=>?_
 simp only [bs]
 refine b3n s7' hn i.e.s8 (by simp only [d0G,a1X,a3b];omega) _ (a0k _ _ _ _) (fun g' h=>(itA h).2.2.2.2.2.2.2.2.2.1) fun g8 s8'=>?_
 simp only [bs,(itA s8'.hi).2.2.2.2.2.2.2.2.2.2,a3a i.e.hfd]
 refine c4g s8' hn (by simp only [d0G,a1X,a3b];omega) i.e.fs.length fun g9 s9=>?_
 have hB:l++a4B i++(i.e.ls.map lnB).flatten++pI i.e.a5++pI i.e.a6++pS i.e.s7++pS i.e.s8++pN i.e.fs.length=l++a6t i:=by simp [-bind_some, a6t]
 rw [hB] at s9
 have hBl:(a6t i).length=(a4B i).length+(i.e.ls.map lnB).flatten.length+16+(4+i.e.s7.length)+(4+i.e.s8.length)+4:=by simp only [a6t,d0G,a1X,a3b,a2L]
 simp only [bs]
 refine Wp.loop (fun kk ds g'=>∃ a b c,∃ n:Nat,ds=[a,.int .i64 n,b,c]∧kk+n=i.e.fs.length∧WrS n0 oi ow h0 (itr i) g' (l++a6t i++((i.e.fs.take n).map fdB).flatten))
  (fun r=>r.1 = .ext 4∧(∃ a b c d,r.2.1=[a,b,c,d])∧WrS n0 oi ow h0 (itr i) r.2.2 (l++a1r i)) i.e.fs.length ⟨_,_,_,0,rfl,rfl,by simpa using s9⟩ ?_ ?_
 ·rintro kk ds g' ⟨a,b,c,n,rfl,hk,s'⟩
  simp only [a5Y,a0f,a0j,bs,d0B,a0o]
  refine Wp.dif ?_ ?_
  ·intro h1
   have h1:n<i.e.fs.length:=dl_ h1
   obtain ⟨x,hx⟩:=gx_ h1
   have hw:=wi_ n (by omega)
   have hix:a0b tab a1m i.e.fd (.int .i64 (n:Int))=some (.fptr (fld x)):=by rw [b5c i.e.hfd];simp [-bind_some, hx]
   have hle:=a8i fdB i.e.fs (n+1)
   rw [a1w fdB hx,d0G] at hle
   have hln:(fdB x).length=8+x.1.length+x.2.length:=by simp only [fdB,d0G,a3b];omega
   have hne:¬ (n:Int)=(i.e.fs.length:Int):=by omega
   simp only [a0k,a6D,bs,(itA s'.hi).2.2.2.2.2.2.2.2.2.2,a3a i.e.hfd,a0L,hne,decide_false,a0c,d0C,if_false,a0n,hix,a2m,fF0,nmN,nmT,a2f,a3f]
   refine b3n s' hn x.1 (by simp only [d0G];omega) _ (a2m _) (fun g' _=>fL0 x g') fun g4 s4=>?_
   simp only [bs,(itA s4.hi).2.2.2.2.2.2.2.2.2.2,hix,fF1]
   refine b3n s4 hn x.2 (by simp only [d0G,a3b];omega) _ (a2m _) (fun g' _=>ld9 _ _ _) fun g6 s6=>?_
   simp only [bs,a0r,hw]
   refine .some (.inl ⟨rfl,kk - 1,by omega,_,_,_,n+1,rfl,by omega,?_⟩)
   rw [a1w fdB hx]
   simpa [-bind_some, fdB] using s6
  ·intro h1
   have h1:n=i.e.fs.length:=by
    have:¬ (n:Int)<i.e.fs.length:=by simpa using h1
    omega
   subst h1
   rw [d0Z] at s'
   exact .some (.inr ⟨by simp,rfl,⟨_,_,_,_,rfl⟩,by simpa [-bind_some, a1r] using s'⟩)
 rintro ⟨ex,ds,gz⟩ ⟨rfl,⟨a,b,c,d,rfl⟩,sz⟩
 simp only [a0p,a2q,bs,d0B]
 exact k gz sz
theorem c3y (g:Hp):b2v tab g a0G (.int .i64 4) (.int .i64 4)=some (.msl 1 g.length 0 4,a0J g ty5 1 ([0,0,0,0].map byr)):=by
 have h1:tab a0G=some ti22:=id rfl
 have h2:ti22.td = .sl ty5:=id rfl
 have h3:tab ty5=some ti5:=id rfl
 have h4:ti5.sz=1:=id rfl
 have h5:ti5.zero=byr 0:=id rfl
 have h6:lim 4 ti5.by_=true:=a3Q (by have:ti5.by_=1:=rfl;rw [this];omega) (by omega)
 have h7:(4:Int).toNat=4:=rfl
 simp only [b2v,h1,h2,h3,h4,h5,h7,h6,show (0:Int)≤4∧(4:Int)≤4∧true=true∧0<1 from ⟨by omega,by omega,rfl,by omega⟩,if_true]
 rfl
theorem c8j {g:Hp} {o:Nat} {p m r:List Int} {y:D} (ho:g[o]?=some (.row ty5 1 ((p++r).map byr))) (hy:a1h g 1 y=some (m.map byr)) (hl:m.length=p.length):∃ g',a6y tab g a0G a0G (.msl 1 o 0 (p++r).length) y=some (.int .i64 m.length,g')∧g'[o]?=some (.row ty5 1 ((m++r).map byr))∧Same o g g':=by
 have h1:tab a0G=some ti22:=id rfl
 have h2:ti22.td = .sl ty5:=id rfl
 have h3:tab ty5=some ti5:=id rfl
 have h4:ti5.sz=1:=id rfl
 have hs:b0a g ti22 ti5 y=some (m.map byr):=by simp only [b0a,h2,h4,hy]
 have hn:b2e ti22=true:=rfl
 have hb:Nat.blt 0 1=true:=rfl
 have holt:=(d0R.1 ho).1
 have hmin:min (m.map byr).length (p++r).length=m.length:=by simp;omega
 refine ⟨g.set o (.row ty5 1 (((p++r).map byr).take 0++(m.map byr).take (p++r).length++((p++r).map byr).drop (0+m.length))),?a1,?a2,?a3⟩
 case a1=>simp only [a6y,h1,h2,hn,h3,h4,hb,hs,ho,and_self,if_true,hmin]
 case a2 =>
  rw [List.getElem?_set_self holt]
  have e1:(m.map byr).take (p++r).length=m.map byr:=List.take_of_length_le (by simp;omega)
  rw [e1,List.take_zero,List.nil_append,Nat.zero_add,hl,d0I,List.drop_left' (by simp),d0I]
 case a3=>exact ⟨by simp,fun q hq=>d1b (Ne.symm hq)⟩
theorem c7b (i:It) (c:Int) (h:Hp) (hc:∀ g,R a4w [.agg (itr i)] g=some (.int .i64 c,g)) (hb:(a1r i).length≤800000000):∃ d',R b1E [.agg (itr i)] h=some (.tup [d',.int .i64 c],h)∧SlOf 1 byr (if c=0 then a3d i else []) d':=by
 suffices Wp (R b1E [.agg (itr i)] h) (fun p=>p.2=h∧∃ d',p.1 = .tup [d',.int .i64 c]∧SlOf 1 byr (if c=0 then a3d i else []) d') by
  obtain ⟨⟨x,h'⟩,h1,rfl,d',rfl,h2⟩:=this
  exact ⟨d',h1,h2⟩
 have hi0:(a0J h a0P 11 [itr i])[h.length]?=some (.row a0P 11 [itr i]):=a1I _ _ _ _
 have ld0:a0d tab (a0J h a0P 11 [itr i]) a0P (.ptr h.length 0 0)=some (.agg (itr i)):=by rw [b2K,a0I hi0];rfl
 have hl0:(a0J h a0P 11 [itr i]).length=h.length+1:=by simp [-bind_some, a0J]
 rw [c5w]
 simp only [c1I,a5t a0P 11 h (itr i) rfl (by omega),bs,d0B,ld0,hc,a0x]
 refine Wp.dif ?_ ?_
 ·intro h0
  have h0:¬ c=0:=by simpa using h0
  simp only [bs,a2g]
  rw [a1y (d' := .tup [.nils,.int .i64 c]) (by simp) (.tup _ fun d hd=>by simp at hd;rcases hd with rfl | rfl <;> constructor) (by omega) fun q hq=>a1c _ _ _ _ hq]
  exact .some ⟨rfl,_,rfl,by rw [if_neg h0];exact .nils _ _⟩
 ·intro h0
  have h0:c=0:=by simpa using h0
  subst h0
  generalize hg0:a0J h a0P 11 [itr i]=g0 at *
  have hl1:(a0J g0 ty5 1 ([0,0,0,0].map byr)).length=h.length+2:=by simp [-bind_some, a0J,hl0]
  have hb1:(a0J g0 ty5 1 ([0,0,0,0].map byr))[h.length+1]?=some (.row ty5 1 ([0,0,0,0].map byr)):=by rw [← hl0];exact a1I _ _ _ _
  have hi1:(a0J g0 ty5 1 ([0,0,0,0].map byr))[h.length]?=some (.row a0P 11 [itr i]):=by rw [a1c _ _ _ _ (by omega)];exact hi0
  have hq1:∀ q,q<h.length→(a0J g0 ty5 1 ([0,0,0,0].map byr))[q]?=h[q]?:=fun q hq=>by rw [a1c _ _ _ _ (by omega),← hg0,a1c _ _ _ _ hq]
  simp only [c3y,bs,hl0]
  generalize a0J g0 ty5 1 ([0,0,0,0].map byr)=g1 at *
  simp only [b6A (.msl 1 (h.length+1) 0 4) rfl,bs,a5t a1T 1 g1 [.msl 1 (h.length+1) 0 4] rfl (by omega),hl1]
  have hw2:(a0J g1 a1T 1 [[.msl 1 (h.length+1) 0 4]])[h.length+2]?=some (.row a1T 1 [[.msl 1 (h.length+1) 0 4]]):=by rw [← hl1];exact a1I _ _ _ _
  have S0:WrS h.length h.length (h.length+2) h (itr i) (a0J g1 a1T 1 [[.msl 1 (h.length+1) 0 4]]) [0,0,0,0] :=
   ⟨by rw [a1c _ _ _ _ (by omega)];exact hi1,⟨_,hw2,.inr ⟨h.length+1,by omega,rfl,by rw [a1c _ _ _ _ (by omega)];exact hb1⟩⟩,fun q hq=>by rw [a1c _ _ _ _ (by omega)];exact hq1 q hq,by simp [-bind_some, a0J];omega⟩
  refine c7C i S0 (by omega) (by simp;omega) fun g2 S=>?_
  obtain ⟨d,hw,ho⟩:=S.hw
  have ldd:=ldw hw
  have hlen:([0,0,0,0]++a1r i:List Int).length=(a1r i).length+4:=by simp
  obtain ⟨P,hP⟩:∃ P,P=a4o 4 (IntKind.wrap .u64 (((a1r i).length:Int)+4)):=⟨_,rfl⟩
  have hPl:P.length=([0,0,0,0]:List Int).length:=by rw [hP,a1Z];rfl
  have hH:P++a1r i=a6C i:=by rw [hP];rfl
  have rb:=RdB.own ho
  have hli:(([0,0,0,0]++a1r i:List Int).length:Int)=((a1r i).length:Int)+4:=by rw [hlen];omega
  obtain ⟨dp,g3,e3,B3⟩:=b5Y (IntKind.wrap .u64 (((a1r i).length:Int)+4)) 4 (by omega) g2.length g2 [] .nils (Nat.le_refl _) (Own.nils _ _ _ _) (by simp)
  rw [List.nil_append,← hP] at B3
  have e3:R a3E [.nils,.int .u64 (IntKind.wrap .u64 (((a1r i).length:Int)+4)),.int .i64 4] g2=some (dp,g3):=e3
  simp only [bs,a0k,a5b,ldd,b0D rb,hli,a6d]
  refine Wp.step e3 ?_
  have old3:∀ q,q<g2.length→g3[q]?=g2[q]?:=fun q hq=>B3.old q hq (a9z q)
  have hw3:g3[h.length+2]?=some (.row a1T 1 [[d]]):=by rw [old3 _ (d0R.1 hw).1];exact hw
  have ldd3:=ldw hw3
  have ho3:Own g3 h.length ty5 1 (([0,0,0,0]++a1r i:List Int).map byr) d:=ho.keep fun q _ hx=>old3 q (ho.lt hx).2
  obtain ⟨o,hon,hdo,hob⟩:=b2i ho3 (i:=0) (by simp)
  rw [d0H] at hdo
  obtain ⟨g4,e4,ho4,s4⟩:=c8j hob (a6l (RdB.own B3.ow)) hPl
  rw [← hdo] at e4
  have hne:h.length+2≠o:=fun hh=>by
   rw [hh,hob] at hw3
   injection hw3 with hw3
   injection hw3 with h1
   exact absurd h1 (by decide)
  have hw4:g4[h.length+2]?=some (.row a1T 1 [[d]]):=by rw [s4.2 _ hne];exact hw3
  have ldd4:=ldw hw4
  have ho4':g4[o]?=some (.row ty5 1 ((a6C i).map byr)):=by rw [← hH];exact ho4
  have hHl:(a6C i).length=4+(a1r i).length:=by simp only [a6C,d0G,a1Z]
  have own4:Own g4 h.length ty5 1 ((a6C i).map byr) d := .inr ⟨o,hon,by rw [hdo,hlen,d0H,hHl,Nat.add_comm],ho4'⟩
  have hn4:h.length≤g4.length:=by have:=s4.1;have:=B3.len;have:=S.ln;omega
  have e5:=c3U (a6C i) _ g4 (RdB.own own4) (by omega) (b4c i)
  obtain ⟨d5,g5,e6,B5⟩:=b5Y (a2T (a6C i)) 4 (by omega) h.length g4 (a6C i) _ hn4 own4 (by omega)
  have e6:R a3E [d,.int .u64 (a2T (a6C i)),.int .i64 4] g4=some (d5,g5):=e6
  simp only [bs,e4,ldd3,ldd4,e5,e6,a2j,a2g]
  have hE:a6C i++a4o 4 (a2T (a6C i))=a3d i:=rfl
  rw [hE] at B5
  have hsl:=a3h (n0:=h.length) (n:=2) B5.ow (Nat.le_refl _) (fun a _=>a7T _ g5 2 a)
  have hlow:∀ q,q<h.length→g5[q]?=h[q]?:=fun q hq=>by
   rw [B5.old q (by omega) (fun hx=>by have:=(own4.lt hx).1;omega),s4.2 q (by omega),old3 q (by have:=S.ln;omega)]
   exact S.lo q hq
  rw [a1y (d' := .tup [frz h.length g5 3 d5,.int .i64 0]) (by simp) (by
   refine .tup _ fun d hd=>?_
   simp at hd
   rcases hd with rfl | rfl
   ·exact a1Q hsl fun a _=>a8K _ a
   ·constructor) (Nat.le_trans hn4 B5.len) hlow]
  exact .some ⟨rfl,_,rfl,by simpa using hsl⟩
def bys (l:List Int):Str:=l.map fun z=>UInt8.ofNat z.toNat
theorem b9q (s:Str):bys (sby s)=s:=by
 unfold bys sby
 rw [List.map_map]
 conv=>rhs;rw [← List.map_id s]
 apply List.map_congr_left
 intro c _
 simp [-bind_some]
theorem a6x:∀ (l:List Int),a4u (l.map byr)=some (bys l)
 | []=>rfl
 | z::l=>by
  simp only [d0J,byr,a4u]
  rw [a6x l]
  rfl
theorem b2p {h:Hp} {l:List Int} {d:D} (hd:SlOf 1 byr l d):a7n h d=some (.str (bys l)):=by
 simp only [a7n,a6l (h:=h) (.inl hd),a6x]
theorem a2K:∀ (n:Nat) (l:List Int),l.length=n→(∀ z∈l,U8 z)→0≤num l∧num l<256 ^ n
 | 0,l,h,_=>by
  have:l=[]:=List.length_eq_zero_iff.1 h
  subst this
  simp [-bind_some, num]
 | n+1,l,h,hu=>by
  have hz:l[n]?=some l[n]:=d0Q (by omega)
  have h1:=a8t hz
  rw [List.take_of_length_le (by omega)] at h1
  have h2:=a2K n (l.take n) (by simp;omega) fun z hz=>hu z (List.mem_of_mem_take hz)
  have h3:=hu l[n] (List.getElem_mem _)
  unfold U8 at h3
  rw [h1,Int.pow_succ]
  omega
theorem b7H (l:List Int) (d:D) (h:Hp) (hd:SlOf 1 byr l d) (hl:l.length≤8) (hu:∀ z∈l,U8 z):R a5L [d] h=some (.int .u64 (num l),h):=by
 apply Wp.val
 rw [c5A]
 simp only [c1M,bs,d0B,a1H hd]
 refine Wp.loop (fun k ds g=>g=h∧∃ x y,∃ n:Nat,ds=[.int .u64 (num (l.take n)),x,.int .i64 n,y]∧k+n=l.length) (fun r=>r.1 = .ext 0∧r.2.2=h∧∃ a b c,r.2.1=[.int .u64 (num l),a,b,c]) l.length ⟨rfl,_,_,0,rfl,rfl⟩ ?_ ?_
 ·rintro k ds g ⟨rfl,x,y,n,rfl,hk⟩
  simp only [b0S,a0f,a0j,bs,d0B,a0o]
  refine Wp.dif ?_ ?_
  ·intro h0
   have h0:n<l.length:=dl_ h0
   obtain ⟨z,hz⟩:=gx_ h0
   have hzu:=hu z (d0P hz)
   have hw:=wi_ n (by omega)
   unfold U8 at hzu
   obtain ⟨hn0,hn1⟩:=a2K n (l.take n) (by simp;omega) fun z hz=>hu z (List.mem_of_mem_take hz)
   have hb:num (l.take n)<72057594037927936:=by
    have:n=0∨n=1∨n=2∨n=3∨n=4∨n=5∨n=6∨n=7:=by omega
    rcases this with rfl | rfl | rfl | rfl | rfl | rfl | rfl | rfl <;> omega
   have m3:min ((8:Int).toNat) IntKind.u64.bits=8:=by decide
   have p3:(2:Int) ^ 8=256:=by decide
   have w1:IntKind.wrap .u64 (num (l.take n)*2 ^ 8)=num (l.take n)*2 ^ 8:=by rw [p3];exact a2l (by omega) (by omega)
   have w2:IntKind.wrap .u64 z=z:=a2l (by omega) (by omega)
   have w3:=b8E (x:=num (l.take n)) (b:=z) 8 hn0 (by omega) (by rw [p3];omega) (by rw [p3];omega)
   have hii:a0b tab a0G d (.int .i64 (n:Int))=some (.fptr (byr z)):=by rw [b9Z hd];simp [-bind_some, hz]
   rw [p3,← a8t hz] at w3
   rw [p3] at w1
   simp only [hii,b3D,bs,b1n,show ¬ (8:Int)<0 by omega,if_false,m3,p3,w1,a7X,w2,b3O,w3,a0r,hw]
   exact .some (.inl ⟨rfl,k - 1,by omega,rfl,_,_,n+1,rfl,by omega⟩)
  ·intro h0
   have h0:n=l.length:=by
    have:¬ (n:Int)<l.length:=by simpa using h0
    omega
   subst h0
   rw [d0Z]
   exact .some (.inr ⟨by simp,rfl,rfl,_,_,_,rfl⟩)
 ·rintro ⟨ex,ds,g⟩ ⟨rfl,q2,a,b,c,rfl⟩
  simp only at q2
  subst q2
  simp only [a0p,a0n,bs,a0f,a0h]
  exact .some rfl
abbrev Cur:=List Int × Bool
def a0V (s:Cur) (n:Int):List Int × Cur:=if s.2=true∨n<0∨(s.1.length:Int)<n then ([],(s.1,true)) else (s.1.take n.toNat,(s.1.drop n.toNat,false))
def a1d (s:Cur):Int × Cur:=(IntKind.wrap .i64 (num (a0V s 8).1),(a0V s 8).2)
def a2b (s:Cur):Int × Cur:=(IntKind.wrap .i64 (num (a0V s 4).1),(a0V s 4).2)
def a0U (s:Cur):Option Str × Cur:=if (a0V (a2b s).2 (a2b s).1).2.2=true then (none,(a0V (a2b s).2 (a2b s).1).2) else (some (bys (a0V (a2b s).2 (a2b s).1).1),(a0V (a2b s).2 (a2b s).1).2)
def a0C (s:Cur):Int × Cur:=if (a2b s).2.2=true∨((a2b s).2.1.length:Int).tdiv 8<(a2b s).1 then (0,((a2b s).2.1,true)) else a2b s
def CuO (g:Hp) (oc:Nat) (s:Cur):Prop:=∃ d,g[oc]?=some (.row a1q 2 [[d,.bool s.2]])∧SlOf 1 byr s.1 d∧(∀ z∈s.1,U8 z)∧s.1.length≤1000000000
theorem b6Q {g:Hp} {oc:Nat} {d:D} {b:Bool} (h:g[oc]?=some (.row a1q 2 [[d,.bool b]])):a0d tab g a0G (.ptr oc 0 (0+0))=some d∧a0d tab g ty4 (.ptr oc 0 (0+1))=some (.bool b):=⟨by rw [c0i,a0I h];rfl,by rw [c7X,a0I h];rfl⟩
theorem a6n {s:Cur} (hu:∀ z∈s.1,U8 z) (n:Int):(∀ z∈(a0V s n).1,U8 z)∧(∀ z∈(a0V s n).2.1,U8 z)∧(a0V s n).2.1.length≤s.1.length:=by
 unfold a0V
 split
 ·exact ⟨by simp,hu,Nat.le_refl _⟩
 ·exact ⟨fun z hz=>hu z (List.mem_of_mem_take hz),fun z hz=>hu z (List.mem_of_mem_drop hz),by simp⟩
theorem a5q (s:Cur) (n:Nat):(a0V s n).1.length≤n:=by
 unfold a0V
 split
 ·simp [-bind_some]
 ·simp [-bind_some];omega
theorem b9s {g:Hp} {oc:Nat} {s:Cur} (hc:CuO g oc s) (n:Int):∃ d g',R a5f [.ptr oc 0 0,.int .i64 n] g=some (d,g')∧SlOf 1 byr (a0V s n).1 d∧CuO g' oc (a0V s n).2∧Same oc g g':=by
 suffices Wp (R a5f [.ptr oc 0 0,.int .i64 n] g) (fun p=>SlOf 1 byr (a0V s n).1 p.1∧CuO p.2 oc (a0V s n).2∧Same oc g p.2) by
  obtain ⟨⟨x,h'⟩,h1,h2⟩:=this
  exact ⟨x,h',h1,h2⟩
 obtain ⟨d,ho,hd,hu,hl⟩:=hc
 obtain ⟨l1,l2⟩:=b6Q ho
 obtain ⟨b,bad⟩:=s
 simp only at ho hd hu hl l2
 rw [c5H]
 have bad1:∀ {β:Type} (F:Hp→Option β) (Q:β→Prop),(∀ g',SlOf 1 byr ([]:List Int) .nils→CuO g' oc (b,true)→Same oc g g'→Wp (F g') Q)→Wp ((a0q tab g ty4 (.ptr oc 0 (0+1)) (.bool true)).bind F) Q:=fun F Q k=>by
  refine c7F ho (by rfl) (by rfl) (by simp) (by rfl) fun g' h' s'=>?_
  exact k g' (.nils _ _) ⟨d,h',hd,hu,hl⟩ s'
 simp only [c1T,bs,a0k,a2e,a5c,l1,l2,a1H hd,a0s,d0B]
 by_cases hb:bad=true
 ·subst hb
  have ht:a0V (b,true) n=([],(b,true)):=by simp [-bind_some, a0V]
  rw [ht]
  simp only [reduceCtorEq,d0D,if_false,bs,a0g,if_true,a0c,a0s]
  refine bad1 _ _ fun g' h1 h2 h3=>?_
  simp only [bs,a0h]
  exact .some ⟨h1,h2,h3⟩
 ·have hb:bad=false:=by simpa using hb
  subst hb
  by_cases hn:n<0
  ·have ht:a0V (b,false) n=([],(b,true)):=by simp [-bind_some, a0V,hn]
   rw [ht]
   simp only [a0s,a0k,a2e,l1,a1H hd,d0B,if_true,bs,a0o,hn,decide_true,reduceCtorEq,d0D,d0C,if_false,a0g,a0c]
   refine bad1 _ _ fun g' h1 h2 h3=>?_
   simp only [bs,a0h]
   exact .some ⟨h1,h2,h3⟩
  ·by_cases hgt:n>(b.length:Int)
   ·have ht:a0V (b,false) n=([],(b,true)):=by simp [-bind_some, a0V,hn,hgt]
    rw [ht]
    simp only [a0s,a0k,a2e,l1,a1H hd,d0B,if_true,bs,a0o,hn,decide_false,a0v,hgt,decide_true,reduceCtorEq,d0D,d0C,if_false,a0g,a0c]
    refine bad1 _ _ fun g' h1 h2 h3=>?_
    simp only [bs,a0h]
    exact .some ⟨h1,h2,h3⟩
   ·have ht:a0V (b,false) n=(b.take n.toNat,(b.drop n.toNat,false)):=by
      unfold a0V
      rw [if_neg (by simp only [d0C,false_or];omega)]
    rw [ht]
    obtain ⟨d1,e1,s1⟩:=b0H hd (k := .i64) (n:=n) (by omega) (by omega)
    obtain ⟨d2,e2,s2⟩:=c0D hd (k := .i64) (n:=n) (by omega) (by omega)
    simp only [a0s,a0k,a2e,l1,a1H hd,d0B,if_true,bs,a0o,hn,decide_false,a0v,hgt,reduceCtorEq,d0D,d0C,if_false,a0g,a0c,e1,e2]
    have hcl:a0u d2=[d2]:=(a0E (a2k s2)).1
    refine c0Z ho (kk:=0) (row:=[d,.bool false]) (by rfl) (by rw [hcl];rfl) (by simp) (a0E (a2k s2)).2 fun g' h' s'=>?_
    rw [hcl] at h'
    simp only [bs,a0h]
    exact .some ⟨s1,⟨d2,h',s2,fun z hz=>hu z (List.mem_of_mem_drop hz),by simp;omega⟩,s'⟩
theorem b6d (row:List D) (off:Nat) (v:D) (hv:v.one=true) (ho:off<row.length):spl row off (a0u v)=row.set off v:=by
 rw [(a0E hv).1]
 simp only [spl,List.length_singleton]
 rw [List.set_eq_take_append_cons_drop,if_pos ho]
 simp [-bind_some]
structure Cell (g:Hp) (oc o k off:Nat) (T z:Nat) (rows:List (List D)) (row:List D):Prop where
 ho:g[o]?=some (.row T z rows)
 hr:rows[k]?=some row
 lt:off<row.length
 ne:o≠oc
def Wrt (g g':Hp) (oc o:Nat):Prop:=g'.length=g.length∧∀ q,q≠oc→q≠o→g'[q]?=g[q]?
theorem b9r {g:Hp} {oc:Nat} {s:Cur} (hc:CuO g oc s) {o k off T z:Nat} {rows:List (List D)} {row:List D} (C:Cell g oc o k off T z rows row) {β:Type} {f:D × Hp→Option β} {Q:β→Prop}
  (K:∀ g',CuO g' oc (a1d s).2→g'[o]?=some (.row T z (rows.set k (row.set off (.int .i64 (a1d s).1))))→Wrt g g' oc o→Wp (f (a0i [],g')) Q):Wp ((R b1H [.ptr oc 0 0,.ptr o k off] g).bind f) Q:=by
 obtain ⟨d,g1,e1,h1,h2,h3⟩:=b9s hc 8
 have hu:=hc.choose_spec.2.2.1
 have e2:=b7H _ d g1 h1 (a5q s 8) (a6n hu 8).1
 have ho1:g1[o]?=some (.row T z rows):=by rw [h3.2 o C.ne];exact C.ho
 rw [c5F]
 simp only [c1R,bs,e1,e2,a4U,a0k,d0B]
 refine c1a ho1 C.hr (by rfl) (by have:=C.lt;omega) (by rfl) fun g2 p2 s2=>?_
 try simp only [bs]
 rw [b6d _ _ _ rfl C.lt] at p2
 refine K g2 ?_ p2 ⟨by rw [s2.1,h3.1],fun q q1 q2=>by rw [s2.2 q q2,h3.2 q q1]⟩
 obtain ⟨dd,x1,x2⟩:=h2
 exact ⟨dd,by rw [s2.2 oc (Ne.symm C.ne)];exact x1,x2⟩
theorem c2x {g:Hp} {oc:Nat} {s:Cur} (hc:CuO g oc s):∃ d g1,R a5f [.ptr oc 0 0,.int .i64 4] g=some (d,g1)∧R a5L [d] g1=some (.int .u64 (num (a0V s 4).1),g1)∧CuO g1 oc (a2b s).2∧Same oc g g1:=by
 obtain ⟨d,g1,e1,h1,h2,h3⟩:=b9s hc 4
 have hu:=hc.choose_spec.2.2.1
 exact ⟨d,g1,e1,b7H _ d g1 h1 (Nat.le_trans (a5q s 4) (by omega)) (a6n hu 4).1,h2,h3⟩
theorem b6H {g:Hp} {oc:Nat} {s:Cur} (hc:CuO g oc s) {o k off T z:Nat} {rows:List (List D)} {row:List D} (C:Cell g oc o k off T z rows row) {u:Str} (hold:row[off]?=some (.str u)) {β:Type} {f:D × Hp→Option β} {Q:β→Prop}
  (K:∀ g',CuO g' oc (a0U s).2→g'[o]?=some (.row T z (rows.set k (row.set off (.str ((a0U s).1.getD u)))))→Wrt g g' oc o→Wp (f (a0i [],g')) Q):Wp ((R b1I [.ptr oc 0 0,.ptr o k off] g).bind f) Q:=by
 obtain ⟨d,g1,e1,e2,h2,h3⟩:=c2x hc
 obtain ⟨d3,g3,e3,q1,q2,q3⟩:=b9s h2 (a2b s).1
 have e3:R a5f [.ptr oc 0 0,.int .i64 (IntKind.wrap .i64 (num (a0V s 4).1))] g1=some (d3,g3):=e3
 have st13:Same oc g g3:=h3.trans q3
 have ho3:g3[o]?=some (.row T z rows):=by rw [st13.2 o C.ne];exact C.ho
 obtain ⟨dd,x1,x2⟩:=q2
 have l2:=(b6Q x1).2
 rw [c5G]
 simp only [c1S,bs,e1,e2,a4U,e3,a0k,a5c,l2,a1D,d0B]
 cases hbad:(a0V (a2b s).2 (a2b s).1).2.2 with
 | true =>
  have ht:a0U s=(none,(a0V (a2b s).2 (a2b s).1).2):=by unfold a0U;rw [if_pos hbad]
  rw [ht] at K
  simp only [hbad,d0L,a0c,d0C,if_false,bs,a2q]
  refine K g3 ⟨dd,x1,x2⟩ ?_ ⟨st13.1,fun q a _=>st13.2 q a⟩
  rw [ho3]
  have hrs:row.set off (.str u)=row:=by
   have hlt:=C.lt
   have:row[off] = .str u:=(d0R.1 hold).2
   rw [← this,List.set_getElem_self]
  have hrr:rows.set k row=rows:=by
   obtain ⟨hk1,hk2⟩:=d0R.1 C.hr
   rw [← hk2,List.set_getElem_self]
  simp only [Option.getD_none,hrs,hrr]
 | false =>
  have ht:a0U s=(some (bys (a0V (a2b s).2 (a2b s).1).1),(a0V (a2b s).2 (a2b s).1).2):=by unfold a0U;rw [if_neg (by rw [hbad];simp [-bind_some])]
  rw [ht] at K
  simp only [hbad,d0M,a0c,if_true,b2p q1,bs,d0B]
  refine c8h ho3 C.hr (by rfl) (by have:=C.lt;omega) (by rfl) fun g2 p2 s2=>?_
  rw [b6d _ _ _ rfl C.lt] at p2
  simp only [bs,a2q]
  exact K g2 ⟨dd,by rw [s2.2 oc (Ne.symm C.ne)];exact x1,x2⟩ p2 ⟨by rw [s2.1,st13.1],fun q a b=>by rw [s2.2 q b,st13.2 q a]⟩
theorem c4N {g:Hp} {oc:Nat} {s:Cur} (hc:CuO g oc s) (m:D) {β:Type} {f:D × Hp→Option β} {Q:β→Prop}
  (K:∀ g',CuO g' oc (a0C s).2→Same oc g g'→Wp (f (.int .i64 (a0C s).1,g')) Q):Wp ((R b1G [.ptr oc 0 0,m] g).bind f) Q:=by
 obtain ⟨d,g1,e1,e2,h2,h3⟩:=c2x hc
 obtain ⟨dd,x1,x2,x3,x4⟩:=h2
 obtain ⟨l1,l2⟩:=b6Q x1
 rw [c5E]
 have hn:(a2b s).1=IntKind.wrap .i64 (num (a0V s 4).1):=rfl
 have wq:IntKind.wrap .i64 (((a2b s).2.1.length:Int).tdiv 8)=((a2b s).2.1.length:Int).tdiv 8:=by
  rw [Int.tdiv_eq_ediv_of_nonneg (by omega)]
  exact wrap_i64 (by omega) (by omega)
 have bad1:∀ {γ:Type} (F:Hp→Option γ) (Q:γ→Prop),(∀ g',CuO g' oc ((a2b s).2.1,true)→Same oc g g'→Wp (F g') Q)→Wp ((a0q tab g1 ty4 (.ptr oc 0 (0+1)) (.bool true)).bind F) Q:=fun F Q k=>by
  refine c7F x1 (by rfl) (by rfl) (by simp) (by rfl) fun g' h' s'=>?_
  exact k g' ⟨dd,h',x2,x3,x4⟩ (h3.trans s')
 simp only [c1Q,bs,e1,e2,a4U,← hn,a0k,a2e,a5c,l1,l2,a0s,a1H x2,d0B]
 cases hb:(a2b s).2.2 with
 | true =>
  have ht:a0C s=(0,((a2b s).2.1,true)):=by unfold a0C;rw [if_pos (.inl hb)]
  rw [ht] at K
  simp only [a0s,a0k,a2e,l1,a1H x2,reduceCtorEq,d0D,if_false,bs,a0g,if_true,a0c,d0B]
  refine bad1 _ _ fun g' h1 h2=>?_
  simp only [bs,a0h]
  exact K g' h1 h2
 | false =>
  by_cases hgt:(a2b s).1>((a2b s).2.1.length:Int).tdiv 8
  ·have ht:a0C s=(0,((a2b s).2.1,true)):=by unfold a0C;rw [if_pos (.inr hgt)]
   rw [ht] at K
   simp only [a0s,a0k,a2e,l1,a1H x2,if_true,bs,b1m,show ¬ ((8:Int)=0) by omega,if_false,wq,a0v,hgt,decide_true,reduceCtorEq,d0D,d0C,a0g,a0c,d0B]
   refine bad1 _ _ fun g' h1 h2=>?_
   simp only [bs,a0h]
   exact K g' h1 h2
  ·have ht:a0C s=a2b s:=by unfold a0C;rw [if_neg (by rw [hb];simp only [d0C,false_or];exact hgt)]
   rw [ht] at K
   simp only [a0s,a0k,a2e,l1,a1H x2,if_true,bs,b1m,show ¬ ((8:Int)=0) by omega,if_false,wq,a0v,hgt,decide_false,reduceCtorEq,d0D,d0C,a0g,a0c,d0B,a0h]
   exact K g1 ⟨dd,x1,x2,x3,x4⟩ h3
def a9T (s:Cur):Lin × Cur:=(⟨(a1d s).1,(a1d (a1d s).2).1,(a0U (a1d (a1d s).2).2).1.getD []⟩,(a0U (a1d (a1d s).2).2).2)
def a4m:Nat→Cur→List Lin × Cur
 | 0,s=>([],s)
 | n+1,s=>((a9T s).1::(a4m n (a9T s).2).1,(a4m n (a9T s).2).2)
def fdS (s:Cur):(Str × Str) × Cur:=(((a0U s).1.getD [],(a0U (a0U s).2).1.getD []),(a0U (a0U s).2).2)
def a4s:Nat→Cur→List (Str × Str) × Cur
 | 0,s=>([],s)
 | n+1,s=>((fdS s).1::(a4s n (fdS s).2).1,(a4s n (fdS s).2).2)
theorem c4z (d:D):a0e tab (.fn (.method "logtide/event.number") [.iface a3u d] [])=some (.fn (.method "logtide/event.number") [.iface a3u d] []):=by kernel_rfl
theorem c4A (d:D):a0e tab (.fn (.method "logtide/event.text") [.iface a3u d] [])=some (.fn (.method "logtide/event.text") [.iface a3u d] []):=by kernel_rfl
theorem c6J (d:D):a0e tab (.fn (.method "logtide/event.count") [.iface a3u d] [])=some (.fn (.method "logtide/event.count") [.iface a3u d] []):=by kernel_rfl
structure ViS (n0 oi oc:Nat) (h0 g:Hp) (row:List D) (s:Cur):Prop where
 hi:g[oi]?=some (.row a0P 11 [row])
 hc:CuO g oc s
 lo:∀ q,q<n0→g[q]?=h0[q]?
 ni:n0≤oi
 nc:n0≤oc
theorem ViS.ne {n0 oi oc:Nat} {h0 g:Hp} {row:List D} {s:Cur} (v:ViS n0 oi oc h0 g row s):oi≠oc:=fun hh=>by
 obtain ⟨d,h1,_⟩:=v.hc
 rw [← hh,v.hi] at h1
 injection h1 with h1
 injection h1 with h2
 exact absurd h2 (by decide)
theorem ViS.ln {n0 oi oc:Nat} {h0 g:Hp} {row:List D} {s:Cur} (v:ViS n0 oi oc h0 g row s):n0≤g.length:=by
 have:=(d0R.1 v.hi).1
 have:=v.ni
 omega
theorem a1E {g:Hp} {n e z o T z':Nat} {rows:List (List D)} {rr:List (List D)} {d:D} (ow:Own g n e z rows d) (ho:g[o]?=some (.row T z' rr)) (hne:e≠T) {q:Nat} (hq:d.inOb q):q≠o:=fun hh=>by
 have:=a1o ow hq
 rw [hh,ho] at this
 injection this with this
 injection this with h2
 exact hne h2.symm
theorem Own.wrt {g g':Hp} {oc o n e z:Nat} {rows:List (List D)} {d:D} (ow:Own g n e z rows d) (hw:Wrt g g' oc o) {T1 z1 T2 z2:Nat} {r1 r2:List (List D)} (h1:g[oc]?=some (.row T1 z1 r1)) (h2:g[o]?=some (.row T2 z2 r2)) (e1:e≠T1) (e2:e≠T2):Own g' n e z rows d :=
 ow.keep fun q _ hx=>hw.2 q (a1E ow h1 e1 hx) (a1E ow h2 e2 hx)
theorem c1n {n0 oi oc:Nat} {h0 g:Hp} {row:List D} {s:Cur} (v:ViS n0 oi oc h0 g row s) (off:Nat) (hoff:off<row.length) {β:Type} {f:D × Hp→Option β} {Q:β→Prop}
  (K:∀ g',ViS n0 oi oc h0 g' (row.set off (.int .i64 (a1d s).1)) (a1d s).2→Wrt g g' oc oi→Wp (f (a0i [],g')) Q):Wp ((R b1H [.ptr oc 0 0,.ptr oi 0 off] g).bind f) Q :=
 b9r v.hc ⟨v.hi,rfl,hoff,v.ne⟩ fun g' h1 h2 h3=>K g' ⟨h2,h1,fun q hq=>by rw [h3.2 q (by have:=v.nc;omega) (by have:=v.ni;omega)];exact v.lo q hq,v.ni,v.nc⟩ h3
theorem c0R {n0 oi oc:Nat} {h0 g:Hp} {row:List D} {s:Cur} (v:ViS n0 oi oc h0 g row s) (off:Nat) {u:Str} (hu:row[off]?=some (.str u)) {β:Type} {f:D × Hp→Option β} {Q:β→Prop}
  (K:∀ g',ViS n0 oi oc h0 g' (row.set off (.str ((a0U s).1.getD u))) (a0U s).2→Wrt g g' oc oi→Wp (f (a0i [],g')) Q):Wp ((R b1I [.ptr oc 0 0,.ptr oi 0 off] g).bind f) Q :=
 b6H v.hc ⟨v.hi,rfl,(d0R.1 hu).1,v.ne⟩ hu fun g' h1 h2 h3=>K g' ⟨h2,h1,fun q hq=>by rw [h3.2 q (by have:=v.nc;omega) (by have:=v.ni;omega)];exact v.lo q hq,v.ni,v.nc⟩ h3
theorem b8Y {n0 oi oc:Nat} {h0 g:Hp} {row:List D} {s:Cur} (v:ViS n0 oi oc h0 g row s) (m:D) {β:Type} {f:D × Hp→Option β} {Q:β→Prop}
  (K:∀ g',ViS n0 oi oc h0 g' row (a0C s).2→Wrt g g' oc oi→Wp (f (.int .i64 (a0C s).1,g')) Q):Wp ((R b1G [.ptr oc 0 0,m] g).bind f) Q :=
 c4N v.hc m fun g' h1 h2=>K g' ⟨by rw [h2.2 oi v.ne];exact v.hi,h1,fun q hq=>by rw [h2.2 q (by have:=v.nc;omega)];exact v.lo q hq,v.ni,v.nc⟩ ⟨h2.1,fun q a _=>h2.2 q a⟩
theorem a5I {g:Hp} {oc:Nat} {s:Cur} (hc:CuO g oc s):0≤(a0C s).1∧(a0C s).1≤1000000000:=by
 obtain ⟨d,h1,h2,h3,h4⟩:=hc
 have h5:=a6n h3 4
 have hl:(a0V s 4).1.length≤4:=a5q s 4
 obtain ⟨r0,r1⟩:=a2K _ _ rfl h5.1
 have r2:num (a0V s 4).1<4294967296:=by
  have hc:(a0V s 4).1.length=0∨(a0V s 4).1.length=1∨(a0V s 4).1.length=2∨(a0V s 4).1.length=3∨(a0V s 4).1.length=4:=by omega
  rcases hc with h | h | h | h | h <;> rw [h] at r1 <;> omega
 have hn:(a2b s).1=num (a0V s 4).1:=wrap_i64 (by omega) (by omega)
 unfold a0C
 split
 ·exact ⟨by simp,by simp⟩
 ·rename_i hh
  have h6:((a2b s).2.1.length:Int)≤1000000000:=by
   have:(a2b s).2.1.length≤s.1.length:=h5.2.2
   omega
  rw [Int.tdiv_eq_ediv_of_nonneg (by omega)] at hh
  have h7:¬ ((a2b s).2.1.length:Int) / 8<(a2b s).1:=fun hx=>hh (.inr hx)
  rw [hn] at h7
  rw [hn]
  omega
def itc (r:Str) (a0 a1 a2 a3:Int) (ld:D) (a5 a6:Int) (s7 s8:Str) (fd:D):List D:=[.str r,.int .i64 a0,.int .i64 a1,.int .i64 a2,.int .i64 a3,ld,.int .i64 a5,.int .i64 a6,.str s7,.str s8,fd]
theorem b9X {g:Hp} {oi:Nat} {r:Str} {a0 a1 a2 a3:Int} {ld:D} {a5 a6:Int} {t7 t8:Str} {fd:D} (h:g[oi]?=some (.row a0P 11 [itc r a0 a1 a2 a3 ld a5 a6 t7 t8 fd])):a0d tab g a1P (.ptr oi 0 (0+1+4))=some ld∧a0d tab g a1m (.ptr oi 0 (0+1+9))=some fd:=⟨by rw [b5h,a0I h];rfl,by rw [c3l,a0I h];rfl⟩
def a5H:List D:=[.int .i64 0,.int .i64 0,.str []]
theorem c4c {n0 oi oc:Nat} {h0:Hp} {r:Str} {a0 a1 a2 a3:Int} {a5 a6:Int} {t7 t8:Str} {fd:D} {g:Hp} {s:Cur} (N:Nat) (hN:N≤1000000000) {pp:D × Hp} (hpp:pp.1 = .int .i64 N) (v:ViS n0 oi oc h0 g (itc r a0 a1 a2 a3 .nils a5 a6 t7 t8 fd) s) (hfd:fd = .nils) (x1 x2 x3 x4:D) {β:Type} {K:Out→Option β} {Q:β→Prop}
  (k:∀ g' ld b1 b2 b3 b4 b5,ViS n0 oi oc h0 g' (itc r a0 a1 a2 a3 ld a5 a6 t7 t8 fd) (a4m N s).2→Own g' n0 a1z 3 ((a4m N s).1.map a1t) ld→Wp (K (.ext 2,[b1,b2,b3,b4,b5],g')) Q):Wp ((a0K (a5X (.iface a3u (.ptr oc 0 0)) (.ptr oi 0 (0+1)) pp) [x1,x2,.int .i64 0,x3,x4] g).bind K) Q:=by
 refine Wp.loop (fun kk ds g'=>∃ b1 b2 b4 b5 ld,∃ n:Nat,∃ L:List Lin,∃ s':Cur,ds=[b1,b2,.int .i64 n,b4,b5]∧kk+n=N∧ViS n0 oi oc h0 g' (itc r a0 a1 a2 a3 ld a5 a6 t7 t8 fd) s'∧Own g' n0 a1z 3 (L.map a1t) ld∧L.length=n∧L++(a4m (N - n) s').1=(a4m N s).1∧(a4m (N - n) s').2=(a4m N s).2)
  (fun r2=>r2.1 = .ext 2∧∃ b1 b2 b3 b4 b5 ld,r2.2.1=[b1,b2,b3,b4,b5]∧ViS n0 oi oc h0 r2.2.2 (itc r a0 a1 a2 a3 ld a5 a6 t7 t8 fd) (a4m N s).2∧Own r2.2.2 n0 a1z 3 ((a4m N s).1.map a1t) ld) N ⟨_,_,_,_,.nils,0,[],s,rfl,rfl,v,Own.nils _ _ _ _,rfl,by simp,by simp⟩ ?_ ?_
 ·rintro kk ds g' ⟨b1,b2,b4,b5,ld,n,L,s',rfl,hk,v',ow,hL,e1,e2⟩
  simp only [a5X,a0f,a0j,bs,d0B,hpp,a0o]
  refine Wp.dif ?_ ?_
  ·intro h1
   have h1:n<N:=by
    have:(n:Int)<(N:Int):=by simpa using h1
    omega
   have hw:=wi_ n (by omega)
   have hll:((L.map a1t).length:Int)=n:=by simp [-bind_some, hL]
   have hbz:a0H tab a1P 1 [0] [.agg a5H]=some (.sl 3 true [a5H]):=id rfl
   have hzl:a0D tab a1z [] []=some (.agg a5H):=id rfl
   simp only [a0k,a3x,(b9X v'.hi).1,b8z ow,hll,bs,a0L,decide_true,a0c,if_true,hzl,hbz,d0B]
   refine b7T (ys:=[a5H]) v'.ln ow (a1e _ _ _ _) (by simp;omega) fun ld2 g2 ow2 len2 bel2 old2 _=>?_
   obtain ⟨dc,c1,c2,c3,c4⟩:=v'.hc
   have hi2:g2[oi]?=some (.row a0P 11 [itc r a0 a1 a2 a3 ld a5 a6 t7 t8 fd]):=by rw [old2 oi (d0R.1 v'.hi).1 (fun hx=>a1E ow v'.hi (by decide) hx rfl)];exact v'.hi
   have hc2:g2[oc]?=some (.row a1q 2 [[dc,.bool s'.2]]):=by rw [old2 oc (d0R.1 c1).1 (fun hx=>a1E ow c1 (by decide) hx rfl)];exact c1
   simp only [bs]
   refine b7U hi2 (by rfl) (by rw [(a0E (a2w ow2)).1];rfl) (by simp [-bind_some, itc]) (a0E (a2w ow2)).2 fun g3 p3 s3=>?_
   rw [(a0E (a2w ow2)).1] at p3
   have p3:g3[oi]?=some (.row a0P 11 [itc r a0 a1 a2 a3 ld2 a5 a6 t7 t8 fd]):=p3
   have hc3:g3[oc]?=some (.row a1q 2 [[dc,.bool s'.2]]):=by rw [s3.2 oc (Ne.symm v'.ne)];exact hc2
   have ow3:Own g3 n0 a1z 3 (L.map a1t++[a5H]) ld2:=ow2.keep fun q _ hx=>s3.2 q (a1E ow2 hi2 (by decide) hx)
   have v3:ViS n0 oi oc h0 g3 (itc r a0 a1 a2 a3 ld2 a5 a6 t7 t8 fd) s':=⟨p3,⟨dc,hc3,c2,c3,c4⟩,fun q hq=>by rw [s3.2 q (by have:=v'.ni;omega),bel2 q hq];exact v'.lo q hq,v'.ni,v'.nc⟩
   obtain ⟨ol,hol,hld2,ho3⟩:=b2i ow3 (i:=n) (by simp;omega)
   have hlen3:(L.map a1t++[a5H]).length=n+1:=by simp [-bind_some, hL]
   have hrn:(L.map a1t++[a5H])[n]?=some a5H:=by rw [List.getElem?_append_right (by simp [-bind_some, hL])];simp [-bind_some, hL]
   have hne3:ol≠oc:=fun hh=>by rw [hh,hc3] at ho3;injection ho3 with ho3;injection ho3 with h2;exact absurd h2 (by decide)
   have hne3i:ol≠oi:=fun hh=>by rw [hh,p3] at ho3;injection ho3 with ho3;injection ho3 with h2;exact absurd h2 (by decide)
   have i0:(0:Int)≤(n:Int)∧(n:Int)<(((L.map a1t++[a5H]).length:Nat):Int):=by omega
   have hix:a0b tab a1P ld2 (.int .i64 (n:Int))=some (.ptr ol n 0):=by rw [hld2,c3c,if_pos i0];simp [-bind_some]
   simp only [bs,a0n,a0k,a3x,(b9X v3.hi).1,hix,a2V,a2W,a2X,c4z,c4A,a1p,a2H,d0B]
   refine b9r v3.hc ⟨ho3,hrn,by simp [-bind_some, a5H],hne3⟩ fun g4 q1 q2 q3=>?_
   have hsn:∀ (x:List D),(L.map a1t++[a5H]).set n x=L.map a1t++[x]:=fun x=>by rw [List.set_append_right _ _ (by simp [-bind_some, hL])];simp [-bind_some, hL]
   rw [hsn] at q2
   have hgn:∀ (x:List D),(L.map a1t++[x])[n]?=some x:=fun x=>by rw [List.getElem?_append_right (by simp [-bind_some, hL])];simp [-bind_some, hL]
   have hsn':∀ (y x:List D),(L.map a1t++[y]).set n x=L.map a1t++[x]:=fun y x=>by rw [List.set_append_right _ _ (by simp [-bind_some, hL])];simp [-bind_some, hL]
   simp only [bs]
   refine b9r q1 ⟨q2,hgn _,by simp [-bind_some, a5H],hne3⟩ fun g5 q4 q5 q6=>?_
   rw [hsn'] at q5
   simp only [bs]
   refine b6H q4 ⟨q5,hgn _,by simp [-bind_some, a5H],hne3⟩ (u:=[]) (by rfl) fun g6 q7 q8 q9=>?_
   rw [hsn'] at q8
   have q8:g6[ol]?=some (.row a1z 3 (L.map a1t++[a1t (a9T s').1])):=q8
   simp only [bs,a0r,hw]
   have hN:N - n=(N - (n+1))+1:=by omega
   rw [hN] at e1 e2
   refine .some (.inl ⟨rfl,kk - 1,by omega,_,_,_,_,ld2,n+1,L++[(a9T s').1],(a9T s').2,rfl,by omega,⟨?_,q7,fun q hq=>?_,v'.ni,v'.nc⟩,?_,by simp [-bind_some, hL],?_,?_⟩)
   ·rw [q9.2 oi v3.ne (Ne.symm hne3i),q6.2 oi v3.ne (Ne.symm hne3i),q3.2 oi v3.ne (Ne.symm hne3i)];exact p3
   ·have a1:=v'.nc
    rw [q9.2 q (by omega) (by omega),q6.2 q (by omega) (by omega),q3.2 q (by omega) (by omega)]
    exact v3.lo q hq
   ·refine .inr ⟨ol,hol,?_,by rw [q8];simp [-bind_some]⟩
    rw [hld2,hlen3];simp [-bind_some, hL]
   ·rw [← e1];simp [-bind_some, a4m]
   ·rw [← e2];simp [-bind_some, a4m]
  ·intro h1
   have h1:n=N:=by
    have:¬ (n:Int)<(N:Int):=by simpa using h1
    omega
   subst h1
   rw [Nat.sub_self] at e1 e2
   have f1:L++[]=(a4m n s).1:=e1
   have f2:s'=(a4m n s).2:=e2
   rw [List.append_nil] at f1
   rw [f2] at v'
   exact .some (.inr ⟨by simp,rfl,_,_,_,_,_,ld,rfl,v',by rw [← f1];exact ow⟩)
 ·rintro ⟨ex,ds,g'⟩ ⟨rfl,b1,b2,b3,b4,b5,ld,rfl,v',ow⟩
  exact k g' ld b1 b2 b3 b4 b5 v' ow
def b3q:List D:=[.str [],.str []]
theorem c0O {n0 oi oc:Nat} {h0:Hp} {r:Str} {a0 a1 a2 a3:Int} {a5 a6:Int} {t7 t8:Str} {ld:D} {L:List Lin} {g:Hp} {s:Cur} (N:Nat) (hN:N≤1000000000) {pp:D × Hp} (hpp:pp.1 = .int .i64 N) (v:ViS n0 oi oc h0 g (itc r a0 a1 a2 a3 ld a5 a6 t7 t8 .nils) s) (hld:Own g n0 a1z 3 (L.map a1t) ld) (x1 x2 x3:D) {β:Type} {K:Out→Option β} {Q:β→Prop}
  (k:∀ g' fd b1 b2 b3 b4,ViS n0 oi oc h0 g' (itc r a0 a1 a2 a3 ld a5 a6 t7 t8 fd) (a4s N s).2→Own g' n0 a1z 3 (L.map a1t) ld→Own g' n0 a0t 2 ((a4s N s).1.map fld) fd→Wp (K (.ext 4,[b1,b2,b3,b4],g')) Q):Wp ((a0K (a5Y (.iface a3u (.ptr oc 0 0)) (.ptr oi 0 (0+1)) pp) [x1,.int .i64 0,x2,x3] g).bind K) Q:=by
 refine Wp.loop (fun kk ds g'=>∃ b1 b4 b5 fd,∃ n:Nat,∃ M:List (Str × Str),∃ s':Cur,ds=[b1,.int .i64 n,b4,b5]∧kk+n=N∧ViS n0 oi oc h0 g' (itc r a0 a1 a2 a3 ld a5 a6 t7 t8 fd) s'∧Own g' n0 a1z 3 (L.map a1t) ld∧Own g' n0 a0t 2 (M.map fld) fd∧M.length=n∧M++(a4s (N - n) s').1=(a4s N s).1∧(a4s (N - n) s').2=(a4s N s).2)
  (fun r2=>r2.1 = .ext 4∧∃ b1 b2 b3 b4 fd,r2.2.1=[b1,b2,b3,b4]∧ViS n0 oi oc h0 r2.2.2 (itc r a0 a1 a2 a3 ld a5 a6 t7 t8 fd) (a4s N s).2∧Own r2.2.2 n0 a1z 3 (L.map a1t) ld∧Own r2.2.2 n0 a0t 2 ((a4s N s).1.map fld) fd) N ⟨_,_,_,.nils,0,[],s,rfl,rfl,v,hld,Own.nils _ _ _ _,rfl,by simp,by simp⟩ ?_ ?_
 ·rintro kk ds g' ⟨b1,b4,b5,fd,n,M,s',rfl,hk,v',owL,ow,hL,e1,e2⟩
  simp only [a5Y,a0f,a0j,bs,d0B,hpp,a0o]
  refine Wp.dif ?_ ?_
  ·intro h1
   have h1:n<N:=by
    have:(n:Int)<(N:Int):=by simpa using h1
    omega
   have hw:=wi_ n (by omega)
   have hll:((M.map fld).length:Int)=n:=by simp [-bind_some, hL]
   have hbz:a0H tab a1m 1 [0] [.agg b3q]=some (.sl 2 true [b3q]):=id rfl
   have hzl:a0D tab a0t [] []=some (.agg b3q):=id rfl
   simp only [a0k,a6D,(b9X v'.hi).2,c3q ow,hll,bs,a0L,decide_true,a0c,if_true,hzl,hbz,d0B]
   refine c4h (ys:=[b3q]) v'.ln ow (a1e _ _ _ _) (by simp;omega) fun fd2 g2 ow2 len2 bel2 old2 _=>?_
   obtain ⟨dc,c1,c2,c3,c4⟩:=v'.hc
   have hi2:g2[oi]?=some (.row a0P 11 [itc r a0 a1 a2 a3 ld a5 a6 t7 t8 fd]):=by rw [old2 oi (d0R.1 v'.hi).1 (fun hx=>a1E ow v'.hi (by decide) hx rfl)];exact v'.hi
   have hc2:g2[oc]?=some (.row a1q 2 [[dc,.bool s'.2]]):=by rw [old2 oc (d0R.1 c1).1 (fun hx=>a1E ow c1 (by decide) hx rfl)];exact c1
   have owL2:Own g2 n0 a1z 3 (L.map a1t) ld:=owL.keep fun q _ hx=>old2 q (owL.lt hx).2 (b5G owL ow (by decide) hx)
   simp only [bs]
   refine c7E hi2 (by rfl) (by rw [(a0E (a2w ow2)).1];rfl) (by simp [-bind_some, itc]) (a0E (a2w ow2)).2 fun g3 p3 s3=>?_
   rw [(a0E (a2w ow2)).1] at p3
   have p3:g3[oi]?=some (.row a0P 11 [itc r a0 a1 a2 a3 ld a5 a6 t7 t8 fd2]):=p3
   have hc3:g3[oc]?=some (.row a1q 2 [[dc,.bool s'.2]]):=by rw [s3.2 oc (Ne.symm v'.ne)];exact hc2
   have ow3:Own g3 n0 a0t 2 (M.map fld++[b3q]) fd2:=ow2.keep fun q _ hx=>s3.2 q (a1E ow2 hi2 (by decide) hx)
   have owL3:Own g3 n0 a1z 3 (L.map a1t) ld:=owL2.keep fun q _ hx=>s3.2 q (a1E owL2 hi2 (by decide) hx)
   have v3:ViS n0 oi oc h0 g3 (itc r a0 a1 a2 a3 ld a5 a6 t7 t8 fd2) s':=⟨p3,⟨dc,hc3,c2,c3,c4⟩,fun q hq=>by rw [s3.2 q (by have:=v'.ni;omega),bel2 q hq];exact v'.lo q hq,v'.ni,v'.nc⟩
   obtain ⟨ol,hol,hld2,ho3⟩:=b2i ow3 (i:=n) (by simp;omega)
   have hlen3:(M.map fld++[b3q]).length=n+1:=by simp [-bind_some, hL]
   have hrn:(M.map fld++[b3q])[n]?=some b3q:=by rw [List.getElem?_append_right (by simp [-bind_some, hL])];simp [-bind_some, hL]
   have hne3:ol≠oc:=fun hh=>by rw [hh,hc3] at ho3;injection ho3 with ho3;injection ho3 with h2;exact absurd h2 (by decide)
   have hne3i:ol≠oi:=fun hh=>by rw [hh,p3] at ho3;injection ho3 with ho3;injection ho3 with h2;exact absurd h2 (by decide)
   have i0:(0:Int)≤(n:Int)∧(n:Int)<(((M.map fld++[b3q]).length:Nat):Int):=by omega
   have hix:a0b tab a1m fd2 (.int .i64 (n:Int))=some (.ptr ol n 0):=by rw [hld2,b2H,if_pos i0];simp [-bind_some]
   simp only [bs,a0n,a0k,a6D,(b9X v3.hi).2,hix,b1u,b1v,c4z,c4A,a1p,a2H,d0B]
   have hsn:∀ (x:List D),(M.map fld++[b3q]).set n x=M.map fld++[x]:=fun x=>by rw [List.set_append_right _ _ (by simp [-bind_some, hL])];simp [-bind_some, hL]
   have hgn:∀ (x:List D),(M.map fld++[x])[n]?=some x:=fun x=>by rw [List.getElem?_append_right (by simp [-bind_some, hL])];simp [-bind_some, hL]
   have hsn':∀ (y x:List D),(M.map fld++[y]).set n x=M.map fld++[x]:=fun y x=>by rw [List.set_append_right _ _ (by simp [-bind_some, hL])];simp [-bind_some, hL]
   refine b6H v3.hc ⟨ho3,hrn,by simp [-bind_some, b3q],hne3⟩ (u:=[]) (by rfl) fun g4 q1 q2 q3=>?_
   rw [hsn] at q2
   have hi4:g4[oi]?=some (.row a0P 11 [itc r a0 a1 a2 a3 ld a5 a6 t7 t8 fd2]):=by rw [q3.2 oi v3.ne (Ne.symm hne3i)];exact p3
   simp only [bs,(b9X hi4).2,hix,b1v,a0k,a2H]
   refine b6H q1 ⟨q2,hgn _,by simp [-bind_some, b3q],hne3⟩ (u:=[]) (by rfl) fun g6 q7 q8 q9=>?_
   rw [hsn'] at q8
   have q8:g6[ol]?=some (.row a0t 2 (M.map fld++[fld (fdS s').1])):=q8
   simp only [bs,a0r,hw]
   have hN:N - n=(N - (n+1))+1:=by omega
   rw [hN] at e1 e2
   have keepL:Own g6 n0 a1z 3 (L.map a1t) ld:=by
    have k4:Own g4 n0 a1z 3 (L.map a1t) ld:=owL3.keep fun q _ hx=>q3.2 q (a1E owL3 hc3 (by decide) hx) (a1E owL3 ho3 (by decide) hx)
    obtain ⟨dd,y1,_⟩:=q1
    exact k4.keep fun q _ hx=>q9.2 q (a1E k4 y1 (by decide) hx) (a1E k4 q2 (by decide) hx)
   refine .some (.inl ⟨rfl,kk - 1,by omega,_,_,_,fd2,n+1,M++[(fdS s').1],(fdS s').2,rfl,by omega,⟨?_,q7,fun q hq=>?_,v'.ni,v'.nc⟩,keepL,?_,by simp [-bind_some, hL],?_,?_⟩)
   ·rw [q9.2 oi v3.ne (Ne.symm hne3i)];exact hi4
   ·have a1:=v'.nc
    rw [q9.2 q (by omega) (by omega),q3.2 q (by omega) (by omega)]
    exact v3.lo q hq
   ·refine .inr ⟨ol,hol,?_,by rw [q8];simp [-bind_some]⟩
    rw [hld2,hlen3];simp [-bind_some, hL]
   ·rw [← e1];simp [-bind_some, a4s]
   ·rw [← e2];simp [-bind_some, a4s]
  ·intro h1
   have h1:n=N:=by
    have:¬ (n:Int)<(N:Int):=by simpa using h1
    omega
   subst h1
   rw [Nat.sub_self] at e1 e2
   have f1:M++[]=(a4s n s).1:=e1
   have f2:s'=(a4s n s).2:=e2
   rw [List.append_nil] at f1
   rw [f2] at v'
   exact .some (.inr ⟨by simp,rfl,_,_,_,_,fd,rfl,v',owL,by rw [← f1];exact ow⟩)
 ·rintro ⟨ex,ds,g'⟩ ⟨rfl,b1,b2,b3,b4,fd,rfl,v',owL,ow⟩
  exact k g' fd b1 b2 b3 b4 v' owL ow
structure RI where
 r:Str
 a0:Int
 a1:Int
 a2:Int
 a3:Int
 ls:List Lin
 a5:Int
 a6:Int
 t7:Str
 t8:Str
 fs:List (Str × Str)
def a4L (s:Cur):Cur:=(a1d (a1d (a1d (a1d (a0U s).2).2).2).2).2
def a6W (s:Cur):Cur:=(a4m (a0C (a4L s)).1.toNat (a0C (a4L s)).2).2
def a5Q (s:Cur):Cur:=(a0U (a0U (a1d (a1d (a6W s)).2).2).2).2
def a1s (s:Cur):RI :=
 { r:=(a0U s).1.getD [],a0:=(a1d (a0U s).2).1,a1:=(a1d (a1d (a0U s).2).2).1,a2:=(a1d (a1d (a1d (a0U s).2).2).2).1,a3:=(a1d (a1d (a1d (a1d (a0U s).2).2).2).2).1,
   ls:=(a4m (a0C (a4L s)).1.toNat (a0C (a4L s)).2).1,a5:=(a1d (a6W s)).1,a6:=(a1d (a1d (a6W s)).2).1,t7:=(a0U (a1d (a1d (a6W s)).2).2).1.getD [],t8:=(a0U (a0U (a1d (a1d (a6W s)).2).2).2).1.getD [],
   fs:=(a4s (a0C (a5Q s)).1.toNat (a0C (a5Q s)).2).1 }
def a7C (s:Cur):Cur:=(a4s (a0C (a5Q s)).1.toNat (a0C (a5Q s)).2).2
def RI.row (x:RI) (ld fd:D):List D:=itc x.r x.a0 x.a1 x.a2 x.a3 ld x.a5 x.a6 x.t7 x.t8 fd
theorem c7x {n0 oi oc:Nat} {h0 g:Hp} {s:Cur} (v:ViS n0 oi oc h0 g (itc [] 0 0 0 0 .nils 0 0 [] [] .nils) s) {β:Type} {f:D × Hp→Option β} {Q:β→Prop}
  (k:∀ g2 ld fd,ViS n0 oi oc h0 g2 ((a1s s).row ld fd) (a7C s)→Own g2 n0 a1z 3 ((a1s s).ls.map a1t) ld→Own g2 n0 a0t 2 ((a1s s).fs.map fld) fd→Wp (f (a0i [],g2)) Q):Wp ((R a9g [.iface a3u (.ptr oc 0 0),.ptr oi 0 0] g).bind f) Q:=by
 rw [c2M]
 simp only [b9i,bs,d0B,a0k,b4n,a3L,c4A,c4z,c6J,a2H,a1p,a3A,b4i,b0f,a4D,a4E]
 refine c0R v 0 (u:=[]) (by rfl) fun g1 v1 _=>?_
 have v1:ViS n0 oi oc h0 g1 (itc (a1s s).r 0 0 0 0 .nils 0 0 [] [] .nils) (a0U s).2:=v1
 simp only [bs,b1g (.ptr oi 0 (0+1+0)) (.ptr oi 0 (0+1+1)) (.ptr oi 0 (0+1+2)) (.ptr oi 0 (0+1+3)) rfl rfl rfl rfl,show ([[.ptr oi 0 (0+1+0)],[.ptr oi 0 (0+1+1)],[.ptr oi 0 (0+1+2)],[.ptr oi 0 (0+1+3)]]:List (List D))=pl4 oi from rfl,b5i,show (pl4 oi).length=4 from rfl]
 refine Wp.loop (fun kk ds g'=>∃ a b,∃ n:Nat,ds=[a,.int .i64 n,b]∧kk+n=4∧((n=0∧ViS n0 oi oc h0 g' (itc (a1s s).r 0 0 0 0 .nils 0 0 [] [] .nils) (a0U s).2)∨(n=1∧ViS n0 oi oc h0 g' (itc (a1s s).r (a1s s).a0 0 0 0 .nils 0 0 [] [] .nils) (a1d (a0U s).2).2) ∨
   (n=2∧ViS n0 oi oc h0 g' (itc (a1s s).r (a1s s).a0 (a1s s).a1 0 0 .nils 0 0 [] [] .nils) (a1d (a1d (a0U s).2).2).2)∨(n=3∧ViS n0 oi oc h0 g' (itc (a1s s).r (a1s s).a0 (a1s s).a1 (a1s s).a2 0 .nils 0 0 [] [] .nils) (a1d (a1d (a1d (a0U s).2).2).2).2) ∨
   (n=4∧ViS n0 oi oc h0 g' (itc (a1s s).r (a1s s).a0 (a1s s).a1 (a1s s).a2 (a1s s).a3 .nils 0 0 [] [] .nils) (a4L s))))
  (fun r=>r.1 = .ext 0∧(∃ a b c,r.2.1=[a,b,c])∧ViS n0 oi oc h0 r.2.2 (itc (a1s s).r (a1s s).a0 (a1s s).a1 (a1s s).a2 (a1s s).a3 .nils 0 0 [] [] .nils) (a4L s)) 4 ⟨_,_,0,rfl,rfl,.inl ⟨rfl,v1⟩⟩ ?_ ?_
 ·rintro kk ds g' ⟨a,b,n,rfl,hk,hv⟩
  simp only [a7O,a0f,a0j,bs,d0B,a0o]
  have ix:∀ j:Nat,j<4→a0b tab a5r (.sl 1 true (pl4 oi)) (.int .i64 j)=some (.fptr [.ptr oi 0 (0+1+j)]):=fun j hj=>by
   have:j=0∨j=1∨j=2∨j=3:=by omega
   rcases this with rfl | rfl | rfl | rfl <;> (rw [a9q];rfl)
  rcases hv with ⟨rfl,v'⟩ | ⟨rfl,v'⟩ | ⟨rfl,v'⟩ | ⟨rfl,v'⟩ | ⟨rfl,v'⟩
  ·simp only [show decide (((0:Nat):Int)<((4:Nat):Int))=true from rfl,a0c,if_true,ix 0 (by omega),a9u,bs,a1p]
   refine c1n v' (0+1+0) (by simp [-bind_some, itc]) fun g2 v2 _=>?_
   simp only [bs,a0r]
   exact .some (.inl ⟨rfl,3,by omega,_,_,1,rfl,rfl,.inr (.inl ⟨rfl,v2⟩)⟩)
  ·simp only [show decide (((1:Nat):Int)<((4:Nat):Int))=true from rfl,a0c,if_true,ix 1 (by omega),a9u,bs,a1p]
   refine c1n v' (0+1+1) (by simp [-bind_some, itc]) fun g2 v2 _=>?_
   simp only [bs,a0r]
   exact .some (.inl ⟨rfl,2,by omega,_,_,2,rfl,rfl,.inr (.inr (.inl ⟨rfl,v2⟩))⟩)
  ·simp only [show decide (((2:Nat):Int)<((4:Nat):Int))=true from rfl,a0c,if_true,ix 2 (by omega),a9u,bs,a1p]
   refine c1n v' (0+1+2) (by simp [-bind_some, itc]) fun g2 v2 _=>?_
   simp only [bs,a0r]
   exact .some (.inl ⟨rfl,1,by omega,_,_,3,rfl,rfl,.inr (.inr (.inr (.inl ⟨rfl,v2⟩)))⟩)
  ·simp only [show decide (((3:Nat):Int)<((4:Nat):Int))=true from rfl,a0c,if_true,ix 3 (by omega),a9u,bs,a1p]
   refine c1n v' (0+1+3) (by simp [-bind_some, itc]) fun g2 v2 _=>?_
   simp only [bs,a0r]
   exact .some (.inl ⟨rfl,0,by omega,_,_,4,rfl,rfl,.inr (.inr (.inr (.inr ⟨rfl,v2⟩)))⟩)
  ·simp only [show decide (((4:Nat):Int)<((4:Nat):Int))=false from rfl,a0c,d0C,if_false]
   exact .some (.inr ⟨by simp,rfl,⟨_,_,_,rfl⟩,v'⟩)
 rintro ⟨ex,ds,g2⟩ ⟨rfl,⟨a,b,c,rfl⟩,v2⟩
 have v2:ViS n0 oi oc h0 g2 (itc (a1s s).r (a1s s).a0 (a1s s).a1 (a1s s).a2 (a1s s).a3 .nils 0 0 [] [] .nils) (a4L s):=v2
 simp only [a0p,a0n,bs,d0B,a0k,a3x,(b9X v2.hi).1,c3o,c6J,a3A]
 have hcr:=a5I v2.hc
 refine b8Y v2 _ fun g3 v3 _=>?_
 obtain ⟨N,hN⟩:∃ N:Nat,(a0C (a4L s)).1=N:=⟨(a0C (a4L s)).1.toNat,by omega⟩
 have hNt:(a0C (a4L s)).1.toNat=N:=by omega
 simp only [bs]
 refine c4c N (by omega) (by rw [hN]) v3 rfl _ _ _ _ fun g4 ld b1 b2 b3 b4 b5 v4 ow4=>?_
 have hB:(a4m N (a0C (a4L s)).2).2=a6W s:=by unfold a6W;rw [hNt]
 have hL:(a4m N (a0C (a4L s)).2).1=(a1s s).ls:=by unfold a1s;simp only [hNt]
 rw [hB] at v4
 rw [hL] at ow4
 simp only [a0p,a0n,bs,d0B,a0k,b4j,b4k,b4l,b4m,a6D,c4z,c4A,c6J,a1p,a2H,a3A]
 have keep:∀ {g g':Hp} {row:List D} {s':Cur},Own g n0 a1z 3 ((a1s s).ls.map a1t) ld→ViS n0 oi oc h0 g row s'→Wrt g g' oc oi→Own g' n0 a1z 3 ((a1s s).ls.map a1t) ld:=fun ow v w=>by
  obtain ⟨d,h1,_⟩:=v.hc
  exact Own.wrt ow w h1 v.hi (by decide) (by decide)
 refine c1n v4 (0+1+5) (by simp [-bind_some, itc]) fun g5 v5 w5=>?_
 have ow5:=keep ow4 v4 w5
 have v5:ViS n0 oi oc h0 g5 (itc (a1s s).r (a1s s).a0 (a1s s).a1 (a1s s).a2 (a1s s).a3 ld (a1s s).a5 0 [] [] .nils) (a1d (a6W s)).2:=v5
 simp only [bs]
 refine c1n v5 (0+1+6) (by simp [-bind_some, itc]) fun g6 v6 w6=>?_
 have ow6:=keep ow5 v5 w6
 have v6:ViS n0 oi oc h0 g6 (itc (a1s s).r (a1s s).a0 (a1s s).a1 (a1s s).a2 (a1s s).a3 ld (a1s s).a5 (a1s s).a6 [] [] .nils) (a1d (a1d (a6W s)).2).2:=v6
 simp only [bs]
 refine c0R v6 (0+1+7) (u:=[]) (by rfl) fun g7 v7 w7=>?_
 have ow7:=keep ow6 v6 w7
 have v7:ViS n0 oi oc h0 g7 (itc (a1s s).r (a1s s).a0 (a1s s).a1 (a1s s).a2 (a1s s).a3 ld (a1s s).a5 (a1s s).a6 (a1s s).t7 [] .nils) (a0U (a1d (a1d (a6W s)).2).2).2:=v7
 simp only [bs]
 refine c0R v7 (0+1+8) (u:=[]) (by rfl) fun g8 v8 w8=>?_
 have ow8:=keep ow7 v7 w8
 have v8:ViS n0 oi oc h0 g8 (itc (a1s s).r (a1s s).a0 (a1s s).a1 (a1s s).a2 (a1s s).a3 ld (a1s s).a5 (a1s s).a6 (a1s s).t7 (a1s s).t8 .nils) (a5Q s):=v8
 simp only [bs,(b9X v8.hi).2,c3p]
 have hcr2:=a5I v8.hc
 refine b8Y v8 _ fun g9 v9 w9=>?_
 have ow9:=keep ow8 v8 w9
 obtain ⟨M,hM⟩:∃ M:Nat,(a0C (a5Q s)).1=M:=⟨(a0C (a5Q s)).1.toNat,by omega⟩
 have hMt:(a0C (a5Q s)).1.toNat=M:=by omega
 simp only [bs]
 refine c0O M (by omega) (by rw [hM]) v9 ow9 _ _ _ fun g10 fd b1 b2 b3 b4 v10 owL owF=>?_
 have hE:(a4s M (a0C (a5Q s)).2).2=a7C s:=by unfold a7C;rw [hMt]
 have hF:(a4s M (a0C (a5Q s)).2).1=(a1s s).fs:=by unfold a1s;simp only [hMt]
 rw [hE] at v10
 rw [hF] at owF
 simp only [a0p,a2q,bs,d0B]
 exact k g10 ld fd v10 owL owF
theorem b7C (z:Int) (l:List Int):num (z::l)=z*256 ^ l.length+num l:=by
 have key:∀ (l:List Int) (c:Int),l.foldl (fun v b=>v*256+b) c=c*256 ^ l.length+l.foldl (fun v b=>v*256+b) 0:=by
  intro l
  induction l with
  | nil=>intro c;simp [-bind_some]
  | cons a r ih =>
   intro c
   simp only [List.foldl_cons,d0S]
   rw [ih (c*256+a),ih (0*256+a),Int.pow_succ]
   generalize (256:Int) ^ r.length=P
   generalize List.foldl (fun v b=>v*256+b) 0 r=F
   simp only [Int.add_mul,Int.zero_mul,Int.zero_add]
   rw [Int.mul_assoc,Int.mul_comm 256 P,Int.add_assoc]
 unfold num
 simp only [List.foldl_cons]
 rw [key l (0*256+z)]
 simp [-bind_some]
theorem a4n:∀ (k:Nat) (v:Int),0≤v→num (a4o k v)=v % 256 ^ k
 | 0,v,_=>by simp [-bind_some, a4o,num]
 | k+1,v,h=>by
  simp only [a4o]
  rw [b7C,a1Z,a4n k v h,a6p]
  have hP:(2:Int) ^ (8*k)=256 ^ k:=by rw [Int.pow_mul];rfl
  rw [hP]
  have hpos:(0:Int)<256 ^ k:=Int.pow_pos (by omega)
  rw [Int.fdiv_eq_ediv_of_nonneg _ (by omega)]
  rw [Int.pow_succ]
  generalize (256:Int) ^ k=P at hpos
  have h1:=Int.mul_ediv_add_emod v P
  have h2:=Int.mul_ediv_add_emod (v / P) 256
  have h3:=Int.emod_nonneg v (show P≠0 by omega)
  have h4:=Int.emod_lt_of_pos v hpos
  have h5:=Int.emod_nonneg (v / P) (show (256:Int)≠0 by omega)
  have h6:=Int.emod_lt_of_pos (v / P) (show (0:Int)<256 by omega)
  generalize v % P=r at *
  generalize hq:v / P=q at *
  generalize q % 256=s at *
  generalize q / 256=t at *
  have e:v=(s*P+r)+(P*256)*t:=by
   rw [← h1,← h2]
   simp only [Int.mul_add,Int.add_mul]
   rw [Int.mul_comm P s,← Int.mul_assoc P 256 t]
   omega
  rw [e,Int.add_mul_emod_self_left]
  have hsP:s*P+P≤P*256:=by
   have:(s+1)*P≤256*P:=Int.mul_le_mul_of_nonneg_right (by omega) (by omega)
   rw [Int.add_mul,Int.one_mul,Int.mul_comm 256 P] at this
   exact this
  have hs0:0≤s*P:=Int.mul_nonneg h5 (by omega)
  exact (Int.emod_eq_of_lt (by omega) (by omega)).symm
def I64 (n:Int):Prop := -9223372036854775808≤n∧n<9223372036854775808
theorem a5u (n:Int):IntKind.wrap .u64 n=n % 18446744073709551616:=by
 unfold IntKind.wrap
 simp [-bind_some, IntKind.signed,IntKind.bits,IntKind.min,IntKind.max]
theorem c3G:(256:Int) ^ 8=18446744073709551616:=by decide
theorem a6P:(256:Int) ^ 4=4294967296:=by decide
theorem c3C {n:Int} (h:I64 n):IntKind.wrap .i64 (num (pI n))=n:=by
 unfold pI
 rw [a4n 8 _ (by rw [a5u];omega),c3G,a5u]
 unfold I64 at h
 unfold IntKind.wrap
 simp [-bind_some, IntKind.signed,IntKind.bits,IntKind.min,IntKind.max]
 omega
theorem b5C {n:Nat} (h:n<4294967296):num (pN n)=n:=by
 unfold pN
 rw [a2l (by omega) (by omega),a4n 4 _ (by omega),a6P]
 omega
theorem a6V (p r:List Int) (n:Nat) (hn:p.length=n):a0V (p++r,false) n=(p,(r,false)):=by
 unfold a0V
 rw [if_neg (by simp;omega)]
 subst hn
 simp [-bind_some]
theorem a1x {n:Int} (h:I64 n) (r:List Int):a1d (pI n++r,false)=(n,(r,false)):=by
 unfold a1d
 rw [show (8:Int)=((8:Nat):Int) from rfl,a6V (pI n) r 8 (a1X n),c3C h]
theorem a6i {n:Nat} (h:n<4294967296) (r:List Int):a2b (pN n++r,false)=((n:Int),(r,false)):=by
 unfold a2b
 rw [show (4:Int)=((4:Nat):Int) from rfl,a6V (pN n) r 4 (a2L n),b5C h]
 rw [wrap_i64 (by omega) (by omega)]
theorem a2z {s:Str} (h:s.length<4294967296) (r:List Int):a0U (pS s++r,false)=(some s,(r,false)):=by
 have e:pS s++r=pN s.length++(sby s++r):=by simp [-bind_some, pS]
 unfold a0U
 rw [e,a6i h,a6V (sby s) r s.length (a5E s)]
 simp [-bind_some, b9q]
theorem a7m {n:Nat} (h:n<4294967296) (r:List Int) (hr:8*n≤r.length):a0C (pN n++r,false)=((n:Int),(r,false)):=by
 unfold a0C
 rw [a6i h,if_neg]
 simp only [d0C,false_or]
 rw [Int.tdiv_eq_ediv_of_nonneg (by omega)]
 omega
structure LnR (l:Lin):Prop where
 o:I64 l.off
 n:I64 l.len
 t:l.txt.length<4294967296
theorem b7u {l:Lin} (h:LnR l) (r:List Int):a9T (lnB l++r,false)=(l,(r,false)):=by
 have e:lnB l++r=pI l.off++(pI l.len++(pS l.txt++r)):=by simp [-bind_some, lnB]
 unfold a9T
 rw [e,a1x h.o]
 simp only
 rw [a1x h.n]
 simp only
 rw [a2z h.t]
 rfl
theorem b1V:∀ (ls:List Lin),(∀ l∈ls,LnR l)→∀ r,a4m ls.length ((ls.map lnB).flatten++r,false)=(ls,(r,false))
 | [],_,r=>rfl
 | l::ls,h,r=>by
  have e:((l::ls).map lnB).flatten++r=lnB l++((ls.map lnB).flatten++r):=by simp
  rw [e,d0S]
  unfold a4m
  rw [b7u (h l (by simp))]
  simp only
  rw [b1V ls (fun x hx=>h x (by simp [-bind_some, hx])) r]
theorem b9L {p:Str × Str} (h1:p.1.length<4294967296) (h2:p.2.length<4294967296) (r:List Int):fdS (fdB p++r,false)=(p,(r,false)):=by
 have e:fdB p++r=pS p.1++(pS p.2++r):=by simp [-bind_some, fdB]
 unfold fdS
 rw [e,a2z h1]
 simp only
 rw [a2z h2]
 rfl
theorem b1w:∀ (fs:List (Str × Str)),(∀ p∈fs,p.1.length<4294967296∧p.2.length<4294967296)→∀ r,a4s fs.length ((fs.map fdB).flatten++r,false)=(fs,(r,false))
 | [],_,r=>rfl
 | p::fs,h,r=>by
  have e:((p::fs).map fdB).flatten++r=fdB p++((fs.map fdB).flatten++r):=by simp
  rw [e,d0S]
  unfold a4s
  rw [b9L (h p (by simp)).1 (h p (by simp)).2]
  simp only
  rw [b1w fs (fun x hx=>h x (by simp [-bind_some, hx])) r]
structure ItR (i:It):Prop where
 r:i.r.length<4294967296
 a0:I64 i.e.a0
 a1:I64 i.e.a1
 a2:I64 i.e.a2
 a3:I64 i.e.a3
 nl:i.e.ls.length<4294967296
 ls:∀ l∈i.e.ls,LnR l
 a5:I64 i.e.a5
 a6:I64 i.e.a6
 t7:i.e.s7.length<4294967296
 t8:i.e.s8.length<4294967296
 nf:i.e.fs.length<4294967296
 fs:∀ p∈i.e.fs,p.1.length<4294967296∧p.2.length<4294967296
def a2c (i:It):RI:=⟨i.r,i.e.a0,i.e.a1,i.e.a2,i.e.a3,i.e.ls,i.e.a5,i.e.a6,i.e.s7,i.e.s8,i.e.fs⟩
theorem a6g {α:Type} (f:α→List Int) (m:Nat):∀ (l:List α),(∀ a∈l,m≤(f a).length)→m*l.length≤(l.map f).flatten.length
 | [],_=>by simp
 | a::l,h=>by
  have h1:=h a (by simp)
  have h2:=a6g f m l fun b hb=>h b (by simp [-bind_some, hb])
  simp only [d0J,List.flatten_cons,d0G,d0S,Nat.mul_succ]
  omega
theorem b7Q {i:It} (h:ItR i) (r:List Int):a1s (a1r i++r,false)=a2c i∧a7C (a1r i++r,false)=(r,false):=by
 have e:a1r i++r=pS i.r++(pI i.e.a0++(pI i.e.a1++(pI i.e.a2++(pI i.e.a3++(pN i.e.ls.length++((i.e.ls.map lnB).flatten++(pI i.e.a5++(pI i.e.a6++(pS i.e.s7++(pS i.e.s8++(pN i.e.fs.length++((i.e.fs.map fdB).flatten++r)))))))))))):=by simp [-bind_some, a1r,a6t,a4B]
 have hl8:=a6g lnB 8 i.e.ls fun l _=>by simp only [lnB,d0G,a1X,a3b];omega
 have hf8:=a6g fdB 8 i.e.fs fun l _=>by simp only [fdB,d0G,a3b];omega
 rw [e]
 have hA:a4L (pS i.r++(pI i.e.a0++(pI i.e.a1++(pI i.e.a2++(pI i.e.a3++(pN i.e.ls.length++((i.e.ls.map lnB).flatten++(pI i.e.a5++(pI i.e.a6++(pS i.e.s7++(pS i.e.s8++(pN i.e.fs.length++((i.e.fs.map fdB).flatten++r)))))))))))),false)=(pN i.e.ls.length++((i.e.ls.map lnB).flatten++(pI i.e.a5++(pI i.e.a6++(pS i.e.s7++(pS i.e.s8++(pN i.e.fs.length++((i.e.fs.map fdB).flatten++r))))))),false):=by
  unfold a4L
  rw [a2z h.r];simp only
  rw [a1x h.a0];simp only
  rw [a1x h.a1];simp only
  rw [a1x h.a2];simp only
  rw [a1x h.a3]
 have hc1:=a7m h.nl ((i.e.ls.map lnB).flatten++(pI i.e.a5++(pI i.e.a6++(pS i.e.s7++(pS i.e.s8++(pN i.e.fs.length++((i.e.fs.map fdB).flatten++r))))))) (by rw [d0G];omega)
 have hls:=b1V i.e.ls h.ls (pI i.e.a5++(pI i.e.a6++(pS i.e.s7++(pS i.e.s8++(pN i.e.fs.length++((i.e.fs.map fdB).flatten++r))))))
 have hB:a6W (pS i.r++(pI i.e.a0++(pI i.e.a1++(pI i.e.a2++(pI i.e.a3++(pN i.e.ls.length++((i.e.ls.map lnB).flatten++(pI i.e.a5++(pI i.e.a6++(pS i.e.s7++(pS i.e.s8++(pN i.e.fs.length++((i.e.fs.map fdB).flatten++r)))))))))))),false)=(pI i.e.a5++(pI i.e.a6++(pS i.e.s7++(pS i.e.s8++(pN i.e.fs.length++((i.e.fs.map fdB).flatten++r))))),false):=by
  unfold a6W
  rw [hA,hc1];simp only [d0K]
  rw [hls]
 have hC:a5Q (pS i.r++(pI i.e.a0++(pI i.e.a1++(pI i.e.a2++(pI i.e.a3++(pN i.e.ls.length++((i.e.ls.map lnB).flatten++(pI i.e.a5++(pI i.e.a6++(pS i.e.s7++(pS i.e.s8++(pN i.e.fs.length++((i.e.fs.map fdB).flatten++r)))))))))))),false)=(pN i.e.fs.length++((i.e.fs.map fdB).flatten++r),false):=by
  unfold a5Q
  rw [hB,a1x h.a5];simp only
  rw [a1x h.a6];simp only
  rw [a2z h.t7];simp only
  rw [a2z h.t8]
 have hc2:=a7m h.nf ((i.e.fs.map fdB).flatten++r) (by rw [d0G];omega)
 have hfs:=b1w i.e.fs h.fs r
 refine ⟨?_,?_⟩
 ·unfold a1s a2c
  rw [hA,hB,hC,hc1,hc2]
  simp only [d0K]
  rw [hls,hfs,a2z h.r]
  simp only [Option.getD_some]
  rw [a1x h.a0];simp only
  rw [a1x h.a1];simp only
  rw [a1x h.a2];simp only
  rw [a1x h.a3,a1x h.a5];simp only
  rw [a1x h.a6];simp only
  rw [a2z h.t7];simp only [Option.getD_some]
  rw [a2z h.t8]
  simp only [Option.getD_some]
 ·unfold a7C
  rw [hC,hc2]
  simp only [d0K]
  rw [hfs]
theorem a6j {h:Hp} {n1 e z:Nat} {α:Type} {f:α→List D} {l:List α} {d:D} {n:Nat} (hd:Own h n1 e z (l.map f) d) (hr:∀ a∈l,∀ d∈f a,a7b h n d=d):SlOf z f l (a7b h (n+1) d):=by
 rcases hd with ⟨rfl,hn⟩ | ⟨o,ho,rfl,hg⟩
 ·exact .inl ⟨rfl,by simpa using hn⟩
 ·refine .inr ⟨false,?_⟩
  simp only [a7b,hg,List.drop_zero]
  rw [List.take_of_length_le (by simp)]
  congr 1
  rw [List.map_map]
  refine List.map_congr_left fun a ha=>?_
  simp only [Function.comp]
  conv=>rhs;rw [← List.map_id (f a)]
  exact List.map_congr_left fun d hd=>hr a ha d hd
theorem b5n (h:Hp) (n:Nat) (l:Lin):∀ d∈a1t l,a7b h n d=d:=by
 intro d hd
 simp only [a1t,d0W,List.not_mem_nil,or_false] at hd
 cases n <;> rcases hd with rfl | rfl | rfl <;> rfl
theorem b7l (h:Hp) (n:Nat) (p:Str × Str):∀ d∈fld p,a7b h n d=d:=by
 intro d hd
 simp only [fld,d0W,List.not_mem_nil,or_false] at hd
 cases n <;> rcases hd with rfl | rfl <;> rfl
theorem a8C (s:Cur) (n:Int):(a0V s n).2.1.length≤s.1.length:=by
 unfold a0V
 split
 ·exact Nat.le_refl _
 ·simp [-bind_some]
theorem a3T (s:Cur):(a1d s).2.1.length≤s.1.length:=a8C s 8
theorem b5j (s:Cur):(a2b s).2.1.length≤s.1.length:=a8C s 4
theorem a6o (s:Cur):(a0U s).2.1.length≤s.1.length:=by
 have h1:=a8C (a2b s).2 (a2b s).1
 have h2:=b5j s
 unfold a0U
 split
 ·simp only;omega
 ·simp only;omega
theorem a6w (s:Cur):(a0C s).1.toNat≤s.1.length∧(a0C s).2.1.length≤s.1.length:=by
 have h2:=b5j s
 unfold a0C
 split
 ·exact ⟨by simp,h2⟩
 ·rename_i hh
  refine ⟨?_,h2⟩
  have h3:¬ ((a2b s).2.1.length:Int).tdiv 8<(a2b s).1:=fun hx=>hh (.inr hx)
  rw [Int.tdiv_eq_ediv_of_nonneg (by omega)] at h3
  omega
theorem c0j (s:Cur):(a9T s).2.1.length≤s.1.length:=by
 have h1:=a3T s
 have h2:=a3T (a1d s).2
 have h3:=a6o (a1d (a1d s).2).2
 unfold a9T
 simp only
 omega
theorem b0s:∀ (n:Nat) (s:Cur),(a4m n s).1.length=n∧(a4m n s).2.1.length≤s.1.length
 | 0,s=>⟨rfl,Nat.le_refl _⟩
 | n+1,s=>by
  have h1:=b0s n (a9T s).2
  have h2:=c0j s
  exact ⟨by simp [-bind_some, a4m,h1.1],Nat.le_trans h1.2 h2⟩
theorem b1x:∀ (n:Nat) (s:Cur),(a4s n s).1.length=n
 | 0,s=>rfl
 | n+1,s=>by simp [-bind_some, a4s,b1x n]
theorem b6n (s:Cur):(a4L s).1.length≤s.1.length:=by
 have h0:=a6o s
 have h1:=a3T (a0U s).2
 have h2:=a3T (a1d (a0U s).2).2
 have h3:=a3T (a1d (a1d (a0U s).2).2).2
 have h4:=a3T (a1d (a1d (a1d (a0U s).2).2).2).2
 unfold a4L
 omega
theorem c0P (s:Cur):(a5Q s).1.length≤s.1.length:=by
 have h0:=b6n s
 have h1:=(a6w (a4L s)).2
 have h2:=(b0s (a0C (a4L s)).1.toNat (a0C (a4L s)).2).2
 have hB:(a6W s).1.length≤s.1.length:=by unfold a6W;omega
 have h3:=a3T (a6W s)
 have h4:=a3T (a1d (a6W s)).2
 have h5:=a6o (a1d (a1d (a6W s)).2).2
 have h6:=a6o (a0U (a1d (a1d (a6W s)).2).2).2
 unfold a5Q
 omega
theorem b7R (s:Cur):(a1s s).ls.length≤s.1.length∧(a1s s).fs.length≤s.1.length:=by
 have h0:=b6n s
 have h1:=(a6w (a4L s)).1
 have h2:=(b0s (a0C (a4L s)).1.toNat (a0C (a4L s)).2).1
 have h3:=c0P s
 have h4:=(a6w (a5Q s)).1
 have h5:=b1x (a0C (a5Q s)).1.toNat (a0C (a5Q s)).2
 refine ⟨?_,?_⟩
 ·show (a4m (a0C (a4L s)).1.toNat (a0C (a4L s)).2).1.length≤_
  omega
 ·show (a4s (a0C (a5Q s)).1.toNat (a0C (a5Q s)).2).1.length≤_
  omega
def c3z (x:RI) (ld fd:D) (h1:SlOf 3 a1t x.ls ld) (h2:SlOf 2 fld x.fs fd) (h3:x.ls.length≤9223372036854775807) (h4:x.fs.length≤9223372036854775807):It:=⟨x.r,⟨x.a0,x.a1,x.a2,x.a3,x.ls,ld,x.a5,x.a6,x.t7,x.t8,x.fs,fd,h2,h4,h1,h3⟩⟩
theorem b5u (x:RI) (ld fd:D) (h1:SlOf 3 a1t x.ls ld) (h2:SlOf 2 fld x.fs fd) (h3:x.ls.length≤9223372036854775807) (h4:x.fs.length≤9223372036854775807):a2c (c3z x ld fd h1 h2 h3 h4)=x:=rfl
def a5v (c:Int) (l:List Int):Int × Int × RI :=
 if l.length<4 then (14,0,⟨[],0,0,0,0,[],0,0,[],[],[]⟩)
 else if num (l.take 4)<4∨(l.length:Int) - 4<num (l.take 4) then (14,0,⟨[],0,0,0,0,[],0,0,[],[],[]⟩)
 else if a2T (l.take (num (l.take 4)).toNat)≠num ((l.drop (num (l.take 4)).toNat).take 4) then (15,0,⟨[],0,0,0,0,[],0,0,[],[],[]⟩)
 else if (a7C ((l.take (num (l.take 4)).toNat).drop 4,false)).2=true∨0<(a7C ((l.take (num (l.take 4)).toNat).drop 4,false)).1.length∨c≠0 then (1,0,⟨[],0,0,0,0,[],0,0,[],[],[]⟩)
 else (0,4+num (l.take 4),a1s ((l.take (num (l.take 4)).toNat).drop 4,false))
def zit:It:=⟨[],⟨0,0,0,0,[],.nils,0,0,[],[],[],.nils,SlOf.nils _ _,by simp,SlOf.nils _ _,by simp⟩⟩
theorem a7a:a2c zit=⟨[],0,0,0,0,[],0,0,[],[],[]⟩:=rfl
theorem b9B {h g:Hp} {a b:Int} {j:It} (hl:h.length≤g.length) (hb:∀ q,q<h.length→g[q]?=h[q]?):scope h g (.tup [.agg (itr j),.int .i64 a,.int .i64 b])=some (.tup [.agg (itr j),.int .i64 a,.int .i64 b],h):=by
 refine a1y ?_ ?_ hl hb
 ·have h1:(itr j).map (frz h.length g 2)=itr j:=by
    conv=>rhs;rw [← List.map_id (itr j)]
    exact List.map_congr_left fun d hd=>a6J _ g 1 j d hd
  show D.tup [D.agg ((itr j).map (frz h.length g 2)),.int .i64 a,.int .i64 b]=_
  rw [h1]
 ·refine .tup _ fun d hd=>?_
  simp at hd
  rcases hd with rfl | rfl | rfl
  ·exact a9n _ j
  ·constructor
  ·constructor
theorem a8r (a b c:D):a0i [a,b,c] = .tup [a,b,c]:=rfl
theorem c7c (l:List Int) (d:D) (c:Int) (h:Hp) (hd:SlOf 1 byr l d) (hl:l.length≤1000000000) (hu:∀ z∈l,U8 z)
  (hck:∀ j:It,a2c j=a1s ((l.take (num (l.take 4)).toNat).drop 4,false)→∀ g,R a4w [.agg (itr j)] g=some (.int .i64 c,g)) :
  ∃ j:It,R a9f [d] h=some (.tup [.agg (itr j),.int .i64 (a5v c l).2.1,.int .i64 (a5v c l).1],h)∧a2c j=(a5v c l).2.2:=by
 suffices Wp (R a9f [d] h) (fun p=>p.2=h∧∃ j:It,p.1 = .tup [.agg (itr j),.int .i64 (a5v c l).2.1,.int .i64 (a5v c l).1]∧a2c j=(a5v c l).2.2) by
  obtain ⟨⟨x,h'⟩,h1,rfl,j,rfl,h2⟩:=this
  exact ⟨j,h1,h2⟩
 have hz74:([.str [],.int .i64 0,.int .i64 0,.int .i64 0,.int .i64 0,.nils,.int .i64 0,.int .i64 0,.str [],.str [],.nils]:List D)=itr zit:=rfl
 have hbz:a0D tab a0P [] []=some (.agg (itr zit)):=id rfl
 -- a way out with an error: the result's variable is stored to and read
 have out:∀ (g:Hp) (row:List D) (a b:Int),g[h.length]?=some (.row a0P 11 [row])→row.length=11→h.length≤g.length→(∀ q,q<h.length→g[q]?=h[q]?)→(a,b,a2c zit)=((a5v c l).2.1,(a5v c l).1,(a5v c l).2.2) →
   Wp ((a0q tab g a0P (.ptr h.length 0 0) (.agg (itr zit))).bind fun h'=>(a0d tab h' a0P (.ptr h.length 0 0)).bind fun d=>scope h h' (a0i [d,.int .i64 a,.int .i64 b])) (fun p=>p.2=h∧∃ j:It,p.1 = .tup [.agg (itr j),.int .i64 (a5v c l).2.1,.int .i64 (a5v c l).1]∧a2c j=(a5v c l).2.2):=by
  intro g row a b hg hr hgl hgb he
  injection he with he1 he2
  injection he2 with he2 he3
  refine b3o hg (by rfl) (by rfl) (by rw [hr];exact Nat.le_refl _) (by rfl) fun g' h' s'=>?_
  have h':g'[h.length]?=some (.row a0P 11 [itr zit]):=by
   rw [h']
   have hs:spl row 0 (a0u (.agg (itr zit)))=itr zit:=by
    have h11:(itr zit).length=11:=rfl
    simp [-bind_some, spl,a0u,hr,h11]
   rw [hs];rfl
  have ld:a0d tab g' a0P (.ptr h.length 0 0)=some (.agg (itr zit)):=by rw [b2K,a0I h'];rfl
  rw [ld]
  simp only [bs,a8r]
  rw [b9B (by rw [s'.1];exact hgl) (fun q hq=>by rw [s'.2 q (by omega)];exact hgb q hq)]
  exact .some ⟨rfl,zit,by rw [he1,he2],he3⟩
 rw [c5x]
 simp only [c1J,hz74,bs,d0B,a1H hd,a0o,hbz]
 have hp2:(a0J h a0P 11 [itr zit])[h.length]?=some (.row a0P 11 [itr zit]):=a1I _ _ _ _
 have hq2:∀ q,q<h.length→(a0J h a0P 11 [itr zit])[q]?=h[q]?:=fun q hq=>a1c _ _ _ _ hq
 have hl2:(a0J h a0P 11 [itr zit]).length=h.length+1:=by simp [-bind_some, a0J]
 generalize a0J h a0P 11 [itr zit]=g1 at *
 refine Wp.dif ?_ ?_
 ·intro h0
  have h0:l.length<4:=by
   have:(l.length:Int)<4:=by simpa using h0
   omega
  have hz:a5v c l=(14,0,⟨[],0,0,0,0,[],0,0,[],[],[]⟩):=by unfold a5v;rw [if_pos h0]
  exact out g1 _ 0 14 hp2 rfl (by omega) hq2 (by rw [hz,a7a])
 intro h0
 have h0:¬ l.length<4:=by
  have:¬ (l.length:Int)<4:=by simpa using h0
  omega
 obtain ⟨d4,e4,s4'⟩:=b0H hd (k := .i64) (n:=4) (by omega) (by omega)
 have s4':SlOf 1 byr (l.take 4) d4:=s4'
 have hl4:(l.take 4).length=4:=by simp;omega
 have hu4:∀ z∈l.take 4,U8 z:=fun z hz=>hu z (List.mem_of_mem_take hz)
 have e14:=b7H _ d4 g1 s4' (by omega) hu4
 obtain ⟨n0,n1⟩:=a2K 4 _ hl4 hu4
 rw [a6P] at n1
 have w5:IntKind.wrap .i64 (num (l.take 4))=num (l.take 4):=wrap_i64 (by omega) (by omega)
 have w6:IntKind.wrap .i64 ((l.length:Int) - 4)=(l.length:Int) - 4:=wrap_i64 (by omega) (by omega)
 generalize hN:num (l.take 4)=N at *
 obtain ⟨n,rfl⟩:=Int.eq_ofNat_of_zero_le n0
 simp only [d0K] at hck
 simp only [bs,e4,e14,a4U,w5,a0o,a0s]
 by_cases hbad:(n:Int)<4∨(l.length:Int) - 4<(n:Int)
 ·have hz:a5v c l=(14,0,⟨[],0,0,0,0,[],0,0,[],[],[]⟩):=by unfold a5v;rw [if_neg h0,hN,if_pos hbad]
  by_cases c1:(n:Int)<4
  ·simp only [c1,decide_true,reduceCtorEq,d0D,if_false,bs,a0g,if_true,a0c]
   exact out g1 _ 0 14 hp2 rfl (by omega) hq2 (by rw [hz,a7a])
  ·have c2:(n:Int)>(l.length:Int) - 4:=by omega
   simp only [c1,decide_false,if_true,bs,a1H hd,a0z,w6,a0v,c2,decide_true,reduceCtorEq,d0D,d0C,if_false,a0g,a0c]
   exact out g1 _ 0 14 hp2 rfl (by omega) hq2 (by rw [hz,a7a])
 have c1:¬ (n:Int)<4:=by omega
 have c2:¬ (n:Int)>(l.length:Int) - 4:=by omega
 simp only [c1,decide_false,if_true,bs,a1H hd,a0z,w6,a0v,c2,reduceCtorEq,d0D,d0C,if_false,a0g,a0c]
 obtain ⟨dn,en,sn⟩:=b0H hd (k := .i64) (n:=(n:Int)) (by omega) (by omega)
 rw [d0K] at sn
 have e29:=c3U (l.take n) dn g1 (.inl sn) (by simp;omega) (fun z hz=>hu z (List.mem_of_mem_take hz))
 have w7:IntKind.wrap .i64 ((n:Int)+4)=((n+4:Nat):Int):=by rw [wrap_i64 (by omega) (by omega)];omega
 obtain ⟨dc,ec,sc⟩:=a5z hd n (n+4) (by omega) (by omega)
 have lc:(l.take (n+4)).drop n=(l.drop n).take 4:=by rw [List.drop_take];congr 1;omega
 rw [lc] at sc
 have e35:=b7H _ dc g1 sc (by simp;omega) (fun z hz=>hu z (List.mem_of_mem_drop (List.mem_of_mem_take hz)))
 simp only [en,e29,a0r,w7,ec,e35,bs,a0x]
 refine Wp.dif ?_ ?_
 ·intro h1
  have h1:a2T (l.take n)≠num ((l.drop n).take 4):=by simpa using h1
  have hz:a5v c l=(15,0,⟨[],0,0,0,0,[],0,0,[],[],[]⟩):=by unfold a5v;rw [if_neg h0,hN,if_neg hbad];simp only [d0K];rw [if_pos h1]
  exact out g1 _ 0 15 hp2 rfl (by omega) hq2 (by rw [hz,a7a])
 intro h1
 have h1:¬ a2T (l.take n)≠num ((l.drop n).take 4):=by simpa using h1
 obtain ⟨db,eb,sb⟩:=a5z hd 4 n (by omega) (by omega)
 have eb:a0w tab a0G true true false [d,.int .i64 4,.int .i64 n]=some db:=eb
 have hp6:(a0J g1 a0P 11 [itr zit])[h.length+1]?=some (.row a0P 11 [itr zit]):=by rw [← hl2];exact a1I _ _ _ _
 have hp62:(a0J g1 a0P 11 [itr zit])[h.length]?=some (.row a0P 11 [itr zit]):=by rw [a1c _ _ _ _ (by omega)];exact hp2
 have hl6:(a0J g1 a0P 11 [itr zit]).length=h.length+2:=by simp [-bind_some, a0J,hl2]
 have hq6:∀ q,q<h.length→(a0J g1 a0P 11 [itr zit])[q]?=h[q]?:=fun q hq=>by rw [a1c _ _ _ _ (by omega)];exact hq2 q hq
 simp only [bs,hl2]
 generalize a0J g1 a0P 11 [itr zit]=g2 at *
 have hbc:a0D tab a1q [0] [db]=some (.agg [db,.bool false]):=b6B db (a2k sb)
 simp only [eb,hbc,bs,a5t a1q 2 g2 [db,.bool false] rfl (by omega),hl6]
 have hc0:(a0J g2 a1q 2 [[db,.bool false]])[h.length+2]?=some (.row a1q 2 [[db,.bool false]]):=by rw [← hl6];exact a1I _ _ _ _
 have hi0:(a0J g2 a1q 2 [[db,.bool false]])[h.length+1]?=some (.row a0P 11 [itr zit]):=by rw [a1c _ _ _ _ (by omega)];exact hp6
 have hr0:(a0J g2 a1q 2 [[db,.bool false]])[h.length]?=some (.row a0P 11 [itr zit]):=by rw [a1c _ _ _ _ (by omega)];exact hp62
 have hq0:∀ q,q<h.length+1→(a0J g2 a1q 2 [[db,.bool false]])[q]?=g2[q]?:=fun q hq=>a1c _ _ _ _ (by omega)
 generalize a0J g2 a1q 2 [[db,.bool false]]=g3 at *
 have V0:ViS (h.length+1) (h.length+1) (h.length+2) g2 g3 (itc [] 0 0 0 0 .nils 0 0 [] [] .nils) ((l.take n).drop 4,false) :=
  ⟨hi0,⟨db,hc0,sb,fun z hz=>hu z (List.mem_of_mem_take (List.mem_of_mem_drop hz)),by simp;omega⟩,hq0,by omega,by omega⟩
 refine c7x V0 fun g4 ld fd V4 owL owF=>?_
 generalize hSt:(((l.take n).drop 4,false):Cur)=st at *
 obtain ⟨dd,k1,k2,k3,k4⟩:=V4.hc
 obtain ⟨m1,m2⟩:=b6Q k1
 have hr4:g4[h.length]?=some (.row a0P 11 [itr zit]):=by rw [V4.lo h.length (by omega)];exact hp62
 have hq4:∀ q,q<h.length→g4[q]?=h[q]?:=fun q hq=>by rw [V4.lo q (by omega)];exact hq6 q hq
 have hl4':h.length≤g4.length:=by have:=(d0R.1 hr4).1;omega
 have ldi:a0d tab g4 a0P (.ptr (h.length+1) 0 0)=some (.agg ((a1s st).row ld fd)):=by rw [b2K,a0I V4.hi];rfl
 have hsl:st.1.length≤1000000000:=by rw [← hSt];simp [-bind_some];omega
 obtain ⟨hLl,hFl⟩:=b7R st
 have hLl:(a1s st).ls.length≤9223372036854775807:=by omega
 have hFl:(a1s st).fs.length≤9223372036854775807:=by omega
 simp only [bs,a0k,a2e,a5c,m1,m2,a0s,a1H k2]
 have hzd:∀ x:Prop,a5v c l=if (a7C st).2=true∨0<(a7C st).1.length∨c≠0 then (1,0,⟨[],0,0,0,0,[],0,0,[],[],[]⟩) else (0,4+(n:Int),a1s st):=fun _=>by
  unfold a5v
  rw [if_neg h0,hN,if_neg hbad]
  simp only [d0K]
  rw [if_neg h1,hSt]
 have hzd:=hzd True
 cases hbd:(a7C st).2 with
 | true =>
  have hz:a5v c l=(1,0,⟨[],0,0,0,0,[],0,0,[],[],[]⟩):=by rw [hzd,if_pos (.inl hbd)]
  simp only [reduceCtorEq,d0D,if_false,bs,a0g,if_true,a0s,a0Y,a0c]
  exact out g4 _ 0 1 hr4 rfl hl4' hq4 (by rw [hz,a7a])
 | false =>
  simp only [if_true,bs,a0k,a2e,m1,a1H k2,a0v]
  by_cases hlen:0<(a7C st).1.length
  ·have hz:a5v c l=(1,0,⟨[],0,0,0,0,[],0,0,[],[],[]⟩):=by rw [hzd,if_pos (.inr (.inl hlen))]
   have hd1:decide (((a7C st).1.length:Int)>0)=true:=by simp only [decide_eq_true_eq];omega
   simp only [hd1,reduceCtorEq,d0D,d0C,if_false,bs,a0g,if_true,a0s,a0Y,a0c]
   exact out g4 _ 0 1 hr4 rfl hl4' hq4 (by rw [hz,a7a])
  ·have hd1:decide (((a7C st).1.length:Int)>0)=false:=by simp only [decide_eq_false_iff_not];omega
   have sL:=a6j (n:=1) owL (fun a _=>b5n g4 1 a)
   have sF:=a6j (n:=1) owF (fun a _=>b7l g4 1 a)
   have hsn:a7b g4 3 (.agg ((a1s st).row ld fd)) = .agg (itr (c3z (a1s st) _ _ sL sF hLl hFl)):=rfl
   have hcall:=hck (c3z (a1s st) _ _ sL sF hLl hFl) (b5u _ _ _ _ _ _ _) (g4.map fun _ => .dead)
   have hokv:(D.agg ((a1s st).row ld fd)).okv=true:=by
    clear hcall hsn sL sF V4 ldi
    rcases owL with ⟨rfl,_⟩ | ⟨_,_,rfl,_⟩ <;> rcases owF with ⟨rfl,_⟩ | ⟨_,_,rfl,_⟩ <;> rfl
   have hcB:a3K R a4w [.agg ((a1s st).row ld fd)] g4=some (.int .i64 c,g4):=by
    unfold a3K
    simp only [d0J,List.map_nil,hsn,hcall]
    rfl
   simp only [hd1,if_true,d0C,if_false,bs,a0g,a0s,ldi,a0Y,hcB,a0x]
   by_cases hc:c=0
   ·have hz:a5v c l=(0,4+(n:Int),a1s st):=by
      rw [hzd,if_neg]
      rintro (hx | hx | hx)
      ·rw [hbd] at hx;cases hx
      ·exact hlen hx
      ·exact hx hc
    rw [hc] at hz
    have w8:IntKind.wrap .i64 (4+(n:Int))=4+(n:Int):=wrap_i64 (by omega) (by omega)
    simp only [hc,ne_eq,not_true,decide_false,a0c,d0C,if_false,bs,ldi,a0r,w8]
    refine b3o (kk:=0) (off:=0) (row:=itr zit) (v := .agg ((a1s st).row ld fd)) hr4 (by rfl) (by rfl) (by exact Nat.le_refl _) hokv fun g5 h5 s5=>?_
    have h5:g5[h.length]?=some (.row a0P 11 [(a1s st).row ld fd]):=h5
    have ld5:a0d tab g5 a0P (.ptr h.length 0 0)=some (.agg ((a1s st).row ld fd)):=by rw [b2K,a0I h5];rfl
    have owL5:Own g5 (h.length+1) a1z 3 ((a1s st).ls.map a1t) ld:=owL.keep fun q hq _=>s5.2 q (by omega)
    have owF5:Own g5 (h.length+1) a0t 2 ((a1s st).fs.map fld) fd:=owF.keep fun q hq _=>s5.2 q (by omega)
    have fL:=a3h (n0:=h.length) (n:=1) owL5 (by omega) (fun a _=>a5j _ g5 1 a)
    have fF:=a3h (n0:=h.length) (n:=1) owF5 (by omega) (fun a _=>b0i _ g5 1 a)
    simp only [ld5,bs,a8r]
    rw [a1y (d' := .tup [.agg (itr (c3z (a1s st) _ _ fL fF hLl hFl)),.int .i64 (4+(n:Int)),.int .i64 0]) rfl (by
     refine .tup _ fun d hd=>?_
     simp at hd
     rcases hd with rfl | rfl | rfl
     ·exact a9n _ _
     ·constructor
     ·constructor) (by rw [s5.1];exact hl4') (fun q hq=>by rw [s5.2 q (by omega)];exact hq4 q hq)]
    exact .some ⟨rfl,_,by rw [hz],by rw [hz];rfl⟩
   ·have hz:a5v c l=(1,0,⟨[],0,0,0,0,[],0,0,[],[],[]⟩):=by rw [hzd,if_pos (.inr (.inr hc))]
    simp only [hc,ne_eq,not_false_eq_true,decide_true,a0c,if_true,bs]
    exact out g4 _ 0 1 hr4 rfl hl4' hq4 (by rw [hz,a7a])
structure RG (hs:Int) (i:It):Prop where
 fs:i.e.fs.length≤20
 ok:itE i=0
 host:i.e.a0=hs
 r:(i.r==([42]:Str))=false
 bl:(a1r i).length≤20000
 rd:ItR i
theorem b5U {i j:It} (h:a2c i=a2c j):a3d i=a3d j∧itE i=itE j∧(∀ hs,RG hs i→RG hs j)∧a4I i j=true:=by
 obtain ⟨r,⟨a0,a1,a2,a3,ls,ld,a5,a6,s7,s8,fs,fd,p1,p2,p3,p4⟩⟩:=i
 obtain ⟨r',⟨a0',a1',a2',a3',ls',ld',a5',a6',s7',s8',fs',fd',p1',p2',p3',p4'⟩⟩:=j
 simp only [a2c,RI.mk.injEq] at h
 obtain ⟨rfl,rfl,rfl,rfl,rfl,rfl,rfl,rfl,rfl,rfl,rfl⟩:=h
 refine ⟨rfl,rfl,fun hs g=>⟨g.fs,g.ok,g.host,g.r,g.bl,⟨g.rd.r,g.rd.a0,g.rd.a1,g.rd.a2,g.rd.a3,g.rd.nl,g.rd.ls,g.rd.a5,g.rd.a6,g.rd.t7,g.rd.t8,g.rd.nf,g.rd.fs⟩⟩,?_⟩
 simp [-bind_some, a4I,a5n]
theorem b9A {i:It} (h:ItR i) (hb:(a1r i).length≤20000) (r:List Int):a5v 0 (a3d i++r)=(0,((a3d i).length:Int),a2c i)∧a1s (((a3d i++r).take (num ((a3d i++r).take 4)).toNat).drop 4,false)=a2c i:=by
 have hw:IntKind.wrap .u64 (((a1r i).length:Int)+4)=((a1r i).length:Int)+4:=a2l (by omega) (by omega)
 obtain ⟨P,hP⟩:∃ P,P=a4o 4 (IntKind.wrap .u64 (((a1r i).length:Int)+4)):=⟨_,rfl⟩
 obtain ⟨C,hC⟩:∃ C,C=a4o 4 (a2T (a6C i)):=⟨_,rfl⟩
 have hPl:P.length=4:=by rw [hP,a1Z]
 have hCl:C.length=4:=by rw [hC,a1Z]
 have hH:a6C i=P++a1r i:=by rw [hP];rfl
 have hHl:(a6C i).length=(a1r i).length+4:=by rw [hH,d0G];omega
 have hE:a3d i++r=a6C i++(C++r):=by rw [hC];simp [-bind_some, a3d]
 have hE2:a3d i++r=P++(a1r i++(C++r)):=by rw [hE,hH];simp [-bind_some]
 have hnP:num P=(((a1r i).length+4:Nat):Int):=by rw [hP,hw,a4n 4 _ (by omega),a6P];omega
 have hcr:=a3m (a6C i)
 have hnC:num C=a2T (a6C i):=by rw [hC,a4n 4 _ hcr.1,a6P];omega
 have t4:(a3d i++r).take 4=P:=by rw [hE2];exact List.take_left' hPl
 have tn:(a3d i++r).take ((a1r i).length+4)=a6C i:=by rw [hE];exact List.take_left' hHl
 have dn:(a3d i++r).drop ((a1r i).length+4)=C++r:=by rw [hE];exact List.drop_left' hHl
 have tc:(C++r).take 4=C:=List.take_left' hCl
 have d4:(a6C i).drop 4=a1r i:=by rw [hH];exact List.drop_left' hPl
 obtain ⟨v1,v2⟩:=b7Q h []
 rw [List.append_nil] at v1 v2
 have hEl:(a3d i++r).length=(a1r i).length+8+r.length:=by rw [d0G,a4X]
 refine ⟨?_,by rw [t4,hnP,d0K,tn,d4];exact v1⟩
 unfold a5v
 rw [if_neg (by omega),t4,hnP,if_neg (by omega),d0K,tn,dn,tc,hnC,if_neg (by simp),d4,v1,v2,if_neg (by simp),a4X]
 have e:4+(((a1r i).length+4:Nat):Int)=(((a1r i).length+8:Nat):Int):=by omega
 rw [e]
theorem b5t:∀ (ls:List Lin) (a b:Int),mch a ls b→0≤a→b≤1000000→∀ l∈ls,LnR l∧l.txt.length≤200
 | [],a,b,_,_,_,l,hl=>by cases hl
 | x::r,a,b,h,h0,h1,l,hl=>by
  obtain ⟨g1,g2,g3,g4,g5⟩:=h
  have hle:=a5l r _ _ g5
  rcases d0W.1 hl with rfl | hl
  ·exact ⟨⟨by unfold I64;omega,by unfold I64;omega,by omega⟩,g4⟩
  ·exact b5t r _ _ g5 (by omega) (by omega) l hl
theorem a4J {α:Type} (A B:List α) (x y:α) (n:Nat) (hn:A.length=n):(A++x::B).set n y=A++y::B:=by
 subst hn
 rw [List.set_append_right _ _ (Nat.le_refl _)]
 simp [-bind_some]
theorem a1R {α:Type} (A B:List α) (x:α) (n:Nat) (hn:A.length=n):(A++x::B)[n]?=some x:=by
 subst hn
 simp [-bind_some]
theorem b3p {g:Hp} {o n:Nat} {rows:List (Str × Str)} {p:Str × Str} (ho:g[o]?=some (.row a0t 2 (rows.map fld))) (hp:rows[n]?=some p):a0d tab g a0t (.ptr o n 0)=some (.agg (fld p)):=by
 have hr:(rows.map fld)[n]?=some (fld p):=by rw [d0O,hp];rfl
 rw [b8w,a0I ho,hr]
 rfl
theorem c0T {g:Hp} {o N:Nat} {P X M Y Q:List (Str × Str)} (hN:N≤1000000000) (hlen:(P++X++M++Y++Q).length=N) (hxy:X.length=Y.length) (ho:g[o]?=some (.row a0t 2 ((P++X++M++Y++Q).map fld))) (cmp:D) (a b k:Int) (ha:a=P.length) (hb:b=(P.length+X.length+M.length:Nat)) (hk:k=X.length) {β:Type} {f:D × Hp→Option β} {R1:β→Prop}
  (K:∀ g',g'[o]?=some (.row a0t 2 ((P++Y++M++X++Q).map fld))→Same o g g'→Wp (f (a0i [],g')) R1):Wp ((R a9e [.msl 2 o 0 N,.int .i64 a,.int .i64 b,.int .i64 k,cmp] g).bind f) R1:=by
 subst ha hb hk
 rw [c5v]
 simp only [c1H,bs,d0B]
 simp only [d0G] at hlen
 refine Wp.loop (fun kk ds g'=>∃ x,∃ i:Nat,ds=[.int .i64 i,x]∧kk+i=X.length∧Same o g g'∧g'[o]?=some (.row a0t 2 ((P++Y.take i++X.drop i++M++X.take i++Y.drop i++Q).map fld)))
  (fun r=>r.1 = .ext 0∧(∃ x y,r.2.1=[x,y])∧Same o g r.2.2∧r.2.2[o]?=some (.row a0t 2 ((P++Y++M++X++Q).map fld))) X.length ⟨_,0,rfl,rfl,⟨rfl,fun _ _=>rfl⟩,by simpa using ho⟩ ?_ ?_
 ·rintro kk ds g' ⟨x1,i,rfl,hk,sm,ho'⟩
  simp only [b0Q,a0f,a0j,bs,d0B,a0o]
  refine Wp.dif ?_ ?_
  ·intro h0
   have h0:i<X.length:=dl_ h0
   obtain ⟨x,hx⟩:=gx_ h0
   obtain ⟨y,hy⟩:∃ y,Y[i]?=some y:=⟨_,d0Q (by omega)⟩
   have hdx:X.drop i=x::X.drop (i+1):=by
    obtain ⟨hn,hh⟩:=d0R.1 hx
    rw [List.drop_eq_getElem_cons hn,hh]
   have hdy:Y.drop i=y::Y.drop (i+1):=by
    obtain ⟨hn,hh⟩:=d0R.1 hy
    rw [List.drop_eq_getElem_cons hn,hh]
   have hw:=wi_ i (by omega)
   have wa:IntKind.wrap .i64 ((P.length:Int)+i)=((P.length+i:Nat):Int):=by
    rw [wrap_i64 (by omega) (by omega)];omega
   have wb:IntKind.wrap .i64 (((P.length+X.length+M.length:Nat):Int)+i)=((P.length+X.length+M.length+i:Nat):Int):=by
    rw [wrap_i64 (by omega) (by omega)];omega
   have e1:P++Y.take i++X.drop i++M++X.take i++Y.drop i++Q=(P++Y.take i)++x::(X.drop (i+1)++M++X.take i++y::(Y.drop (i+1)++Q)):=by rw [hdx,hdy];simp [-bind_some]
   have e2:(P++Y.take i)++x::(X.drop (i+1)++M++X.take i++y::(Y.drop (i+1)++Q))=(P++Y.take i++x::(X.drop (i+1)++M++X.take i))++y::(Y.drop (i+1)++Q):=by simp
   have e3:(P++Y.take i)++y::(X.drop (i+1)++M++X.take i++y::(Y.drop (i+1)++Q))=(P++Y.take i++y::(X.drop (i+1)++M++X.take i))++y::(Y.drop (i+1)++Q):=by simp
   have e4:(P++Y.take i++y::(X.drop (i+1)++M++X.take i))++x::(Y.drop (i+1)++Q)=P++Y.take (i+1)++X.drop (i+1)++M++X.take (i+1)++Y.drop (i+1)++Q:=by
    rw [d0N,d0N,hx,hy];simp [-bind_some]
   have n1:(P++Y.take i).length=P.length+i:=by simp;omega
   have n2:∀ z,(P++Y.take i++z::(X.drop (i+1)++M++X.take i)).length=P.length+X.length+M.length+i:=fun z=>by simp;omega
   rw [e1] at ho'
   have la:=b3p ho' (a1R _ _ x _ n1)
   have lb:=b3p ho' (by rw [e2];exact a1R _ _ y _ (n2 x))
   have ia:a0b tab a1m (.msl 2 o 0 N) (.int .i64 ((P.length+i:Nat):Int))=some (.ptr o (P.length+i) 0):=by rw [b2H,if_pos (by omega),d0K,Nat.zero_add]
   have ib:a0b tab a1m (.msl 2 o 0 N) (.int .i64 ((P.length+X.length+M.length+i:Nat):Int))=some (.ptr o (P.length+X.length+M.length+i) 0):=by rw [b2H,if_pos (by omega),d0K,Nat.zero_add]
   simp only [a0r,wa,wb,ia,ib,la,lb,bs,d0B]
   have ra:(((P++Y.take i)++x::(X.drop (i+1)++M++X.take i++y::(Y.drop (i+1)++Q))).map fld)[P.length+i]?=some (fld x):=by rw [d0O,a1R _ _ x _ n1];rfl
   refine a5R (off:=0) (row:=fld x) (v := .agg (fld y)) ho' ra (by rfl) (by exact Nat.le_refl _) (by rfl) fun g1 p1 w1=>?_
   have p1:g1[o]?=some (.row a0t 2 (((P++Y.take i++y::(X.drop (i+1)++M++X.take i))++y::(Y.drop (i+1)++Q)).map fld)):=by
    rw [p1,show spl (fld x) 0 (a0u (.agg (fld y)))=fld y from rfl,← List.map_set,a4J _ _ x y _ n1,e3]
   try simp only [bs]
   have rb:(((P++Y.take i++y::(X.drop (i+1)++M++X.take i))++y::(Y.drop (i+1)++Q)).map fld)[P.length+X.length+M.length+i]?=some (fld y):=by rw [d0O,a1R _ _ y _ (n2 y)];rfl
   refine a5R (off:=0) (row:=fld y) (v := .agg (fld x)) p1 rb (by rfl) (by exact Nat.le_refl _) (by rfl) fun g2 p2 w2=>?_
   have p2:g2[o]?=some (.row a0t 2 ((P++Y.take (i+1)++X.drop (i+1)++M++X.take (i+1)++Y.drop (i+1)++Q).map fld)):=by
    rw [p2,show spl (fld y) 0 (a0u (.agg (fld x)))=fld x from rfl,← List.map_set,a4J _ _ y x _ (n2 y),e4]
   simp only [bs,hw]
   exact .some (.inl ⟨rfl,kk - 1,by omega,_,i+1,rfl,by omega,(sm.trans w1).trans w2,p2⟩)
  ·intro h0
   have h0:i=X.length:=by
    have:¬ (i:Int)<X.length:=by simpa using h0
    omega
   subst h0
   refine .some (.inr ⟨by simp,rfl,⟨_,_,rfl⟩,sm,?_⟩)
   rw [ho',hxy,d0Z,List.drop_length,← hxy,d0Z,List.drop_length]
   simp [-bind_some]
 ·rintro ⟨ex,ds,g'⟩ ⟨rfl,⟨x,y,rfl⟩,sm,p⟩
  simp only [a0p,a2q,bs]
  exact K g' p sm
theorem c7B {g:Hp} {o N:Nat} {P U V Q:List (Str × Str)} (hN:N≤1000000000) (hlen:(P++U++V++Q).length=N) (hU:0<U.length) (hV:0<V.length) (ho:g[o]?=some (.row a0t 2 ((P++U++V++Q).map fld))) (cmp:D) (a m b:Int) (ha:a=P.length) (hm:m=(P.length+U.length:Nat)) (hb:b=(P.length+U.length+V.length:Nat)) {β:Type} {f:D × Hp→Option β} {R1:β→Prop}
  (K:∀ g',g'[o]?=some (.row a0t 2 ((P++V++U++Q).map fld))→Same o g g'→Wp (f (a0i [],g')) R1):Wp ((R b4E [.msl 2 o 0 N,.int .i64 a,.int .i64 m,.int .i64 b,cmp] g).bind f) R1:=by
 obtain ⟨mm,hmm⟩:∃ mm:Nat,mm=P.length+U.length:=⟨_,rfl⟩
 rw [← hmm] at hm
 subst ha hm hb
 have hl:=hlen
 simp only [d0G] at hl
 have w1:IntKind.wrap .i64 ((mm:Int) - (P.length:Int))=(U.length:Int):=by rw [wrap_i64 (by omega) (by omega)];omega
 have w2:IntKind.wrap .i64 (((P.length+U.length+V.length:Nat):Int) - (mm:Int))=(V.length:Int):=by rw [wrap_i64 (by omega) (by omega)];omega
 rw [c5u]
 simp only [c1G,bs,d0B,a0z,w1,w2]
 refine Wp.loop (fun kk ds g'=>∃ x y,∃ P' U' V' Q':List (Str × Str),ds=[.int .i64 U'.length,.int .i64 V'.length,x,y]∧kk=U'.length+V'.length∧0<U'.length∧0<V'.length∧P'.length+U'.length=mm∧P'++V'++U'++Q'=P++V++U++Q∧(P'++U'++V'++Q').length=N∧Same o g g'∧g'[o]?=some (.row a0t 2 ((P'++U'++V'++Q').map fld)))
  (fun r=>r.1 = .ext 0∧∃ x y,∃ P' U' V' Q':List (Str × Str),r.2.1=[.int .i64 U'.length,.int .i64 V'.length,x,y]∧U'.length=V'.length∧P'.length+U'.length=mm∧P'++V'++U'++Q'=P++V++U++Q∧(P'++U'++V'++Q').length=N∧Same o g r.2.2∧r.2.2[o]?=some (.row a0t 2 ((P'++U'++V'++Q').map fld)))
  (U.length+V.length) ⟨_,_,P,U,V,Q,rfl,rfl,hU,hV,by omega,rfl,hlen,⟨rfl,fun _ _=>rfl⟩,ho⟩ ?_ ?_
 ·rintro kk ds g' ⟨x,y,P',U',V',Q',rfl,hk,h1,h2,h3,h4,h5,sm,ho'⟩
  have hl':=h5
  simp only [d0G] at hl'
  simp only [b0P,a0f,a0j,bs,d0B,a0x]
  refine Wp.dif ?_ ?_
  ·intro h0
   have h0:U'.length≠V'.length:=by
    have:¬ (U'.length:Int)=V'.length:=by simpa using h0
    omega
   simp only [a0v,bs]
   have wi:IntKind.wrap .i64 ((mm:Int) - (U'.length:Int))=(P'.length:Int):=by rw [wrap_i64 (by omega) (by omega)];omega
   by_cases hgt:V'.length<U'.length
   ·have hd:decide ((U'.length:Int)>(V'.length:Int))=true:=decide_eq_true (by omega)
    obtain ⟨X,M,hXM,hXl⟩:∃ X M,U'=X++M∧X.length=V'.length:=⟨U'.take V'.length,U'.drop V'.length,(List.take_append_drop _ _).symm,by simp;omega⟩
    subst hXM
    simp only [d0G] at *
    have wd:IntKind.wrap .i64 (((X.length+M.length:Nat):Int) - (V'.length:Int))=(M.length:Int):=by rw [wrap_i64 (by omega) (by omega)];omega
    simp only [hd,a0c,if_true,a0z,wi,wd,bs,d0B]
    refine c0T (P:=P') (X:=X) (M:=M) (Y:=V') (Q:=Q') hN (by simp only [d0G];omega) hXl (by simpa using ho') cmp _ _ _ rfl (by omega) (by omega) fun g1 p1 s1'=>?_
    simp only [bs,a1A,a0f,a0j]
    rw [← hXl]
    refine .some (.inl ⟨rfl,M.length+X.length,by omega,_,_,P'++V',M,X,Q',rfl,rfl,by omega,by omega,by simp only [d0G];omega,by rw [← h4];simp [-bind_some],by simp only [d0G];omega,sm.trans s1',by rw [p1]⟩)
   ·have hd:decide ((U'.length:Int)>(V'.length:Int))=false:=decide_eq_false (by omega)
    obtain ⟨M,Y,hMY,hYl⟩:∃ M Y,V'=M++Y∧Y.length=U'.length:=⟨V'.take (V'.length - U'.length),V'.drop (V'.length - U'.length),(List.take_append_drop _ _).symm,by simp;omega⟩
    subst hMY
    simp only [d0G] at *
    have we:IntKind.wrap .i64 ((mm:Int)+((M.length+Y.length:Nat):Int))=((mm+(M.length+Y.length):Nat):Int):=by rw [wrap_i64 (by omega) (by omega)];omega
    have wf':IntKind.wrap .i64 (((mm+(M.length+Y.length):Nat):Int) - (U'.length:Int))=((P'.length+U'.length+M.length:Nat):Int):=by rw [wrap_i64 (by omega) (by omega)];omega
    have wd:IntKind.wrap .i64 (((M.length+Y.length:Nat):Int) - (U'.length:Int))=(M.length:Int):=by rw [wrap_i64 (by omega) (by omega)];omega
    simp only [hd,a0c,d0C,if_false,a0z,a0r,wi,we,wf',wd,bs,d0B]
    refine c0T (P:=P') (X:=U') (M:=M) (Y:=Y) (Q:=Q') hN (by simp only [d0G];omega) hYl.symm (by simpa using ho') cmp _ _ _ rfl rfl rfl fun g1 p1 s1'=>?_
    simp only [bs,a1A,a0f,a0j]
    rw [← hYl]
    refine .some (.inl ⟨rfl,Y.length+M.length,by omega,_,_,P',Y,M,U'++Q',rfl,rfl,by omega,by omega,by omega,by rw [← h4];simp [-bind_some],by simp only [d0G];omega,sm.trans s1',by rw [p1];simp [-bind_some]⟩)
  ·intro h0
   have h0:U'.length=V'.length:=by
    have:(U'.length:Int)=V'.length:=by simpa using h0
    omega
   exact .some (.inr ⟨by simp,rfl,_,_,P',U',V',Q',rfl,h0,h3,h4,h5,sm,ho'⟩)
 ·rintro ⟨ex,ds,g'⟩ ⟨rfl,x,y,P',U',V',Q',rfl,h0,h3,h4,h5,sm,ho'⟩
  have hl':=h5
  simp only [d0G] at hl'
  have wi:IntKind.wrap .i64 ((mm:Int) - (U'.length:Int))=(P'.length:Int):=by rw [wrap_i64 (by omega) (by omega)];omega
  simp only [a0p,a0n,a0f,a0j,bs,d0B,a0z,wi]
  refine c0T (P:=P') (X:=U') (M:=[]) (Y:=V') (Q:=Q') hN (by simp only [d0G,d0T];omega) h0 (by simpa using ho') cmp _ _ _ rfl (by simp only [d0T];omega) rfl fun g1 p1 s1'=>?_
  simp only [bs]
  refine K g1 ?_ (sm.trans s1')
  rw [p1,← h4]
  simp [-bind_some]
theorem c0J {g:Hp} {o:Nat} {A B:List (Str × Str)} {x y:Str × Str} {n:Nat} (hn:A.length=n) (ho:g[o]?=some (.row a0t 2 ((A++x::y::B).map fld))) {β:Type} {f:Hp→Option β} {Q:β→Prop}
  (K:∀ g',g'[o]?=some (.row a0t 2 ((A++y::x::B).map fld))→Same o g g'→Wp (f g') Q):Wp ((a0q tab g a0t (.ptr o n 0) (.agg (fld y))).bind fun g1=>(a0q tab g1 a0t (.ptr o (n+1) 0) (.agg (fld x))).bind f) Q:=by
 have ra:((A++x::y::B).map fld)[n]?=some (fld x):=by rw [d0O,a1R _ _ x _ hn];rfl
 refine a5R (off:=0) (row:=fld x) (v := .agg (fld y)) ho ra (by rfl) (by exact Nat.le_refl _) (by rfl) fun g1 p1 w1=>?_
 have e1:A++y::y::B=(A++[y])++y::B:=by simp
 have n1:(A++[y]).length=n+1:=by simp [-bind_some, hn]
 have p1:g1[o]?=some (.row a0t 2 (((A++[y])++y::B).map fld)):=by
  rw [p1,show spl (fld x) 0 (a0u (.agg (fld y)))=fld y from rfl,← List.map_set,a4J _ _ x y _ hn,e1]
 have rb:(((A++[y])++y::B).map fld)[n+1]?=some (fld y):=by rw [d0O,a1R _ _ y _ n1];rfl
 refine a5R (off:=0) (row:=fld y) (v := .agg (fld x)) p1 rb (by rfl) (by exact Nat.le_refl _) (by rfl) fun g2 p2 w2=>?_
 refine K g2 ?_ (w1.trans w2)
 rw [p2,show spl (fld y) 0 (a0u (.agg (fld x)))=fld x from rfl,← List.map_set,a4J _ _ y x _ n1]
 simp [-bind_some]
theorem b7O {g:Hp} {o:Nat} {A B:List (Str × Str)} {x y:Str × Str} {n:Nat} (hn:A.length=n) (ho:g[o]?=some (.row a0t 2 ((A++x::y::B).map fld))) {β:Type} {f:Hp→Option β} {Q:β→Prop}
  (K:∀ g',g'[o]?=some (.row a0t 2 ((A++y::x::B).map fld))→Same o g g'→Wp (f g') Q):Wp ((a0q tab g a0t (.ptr o (n+1) 0) (.agg (fld x))).bind fun g1=>(a0q tab g1 a0t (.ptr o n 0) (.agg (fld y))).bind f) Q:=by
 have e1:A++x::y::B=(A++[x])++y::B:=by simp
 have n1:(A++[x]).length=n+1:=by simp [-bind_some, hn]
 rw [e1] at ho
 have rb:(((A++[x])++y::B).map fld)[n+1]?=some (fld y):=by rw [d0O,a1R _ _ y _ n1];rfl
 refine a5R (off:=0) (row:=fld y) (v := .agg (fld x)) ho rb (by rfl) (by exact Nat.le_refl _) (by rfl) fun g1 p1 w1=>?_
 have p1:g1[o]?=some (.row a0t 2 ((A++x::x::B).map fld)):=by
  rw [p1,show spl (fld y) 0 (a0u (.agg (fld x)))=fld x from rfl,← List.map_set,a4J _ _ y x _ n1]
  simp [-bind_some]
 have ra:((A++x::x::B).map fld)[n]?=some (fld x):=by rw [d0O,a1R _ _ x _ hn];rfl
 refine a5R (off:=0) (row:=fld x) (v := .agg (fld y)) p1 ra (by rfl) (by exact Nat.le_refl _) (by rfl) fun g2 p2 w2=>?_
 refine K g2 ?_ (w1.trans w2)
 rw [p2,show spl (fld x) 0 (a0u (.agg (fld y)))=fld y from rfl,← List.map_set,a4J _ _ x y _ hn]
theorem a7g {o N n:Nat} (h:n<N):a0b tab a1m (.msl 2 o 0 N) (.int .i64 (n:Int))=some (.ptr o n 0):=by rw [b2H,if_pos (by omega),d0K,Nat.zero_add]
theorem wL4 {g:Hp} {o N:Nat} {P A Q:List (Str × Str)} {x:Str × Str} (hN:N≤1000000000) (hlen:(P++x::A++Q).length=N) (ho:g[o]?=some (.row a0t 2 ((P++x::A++Q).map fld))) (r14:Out) (hr:nth 0 r14.2.1 = .int .i64 ((P.length+A.length+1:Nat):Int)) (a:Int) (ha:a=P.length) (x1:D) {β:Type} {f:Out→Option β} {R1:β→Prop}
  (K:∀ g' b1 b2,g'[o]?=some (.row a0t 2 ((P++A++x::Q).map fld))→Same o g g'→Wp (f (.ext 2,[b1,b2],g')) R1):Wp ((a0K (a7N (.msl 2 o 0 N) r14) [.int .i64 a,x1] g).bind f) R1:=by
 subst ha
 simp only [d0G,d0S] at hlen
 refine Wp.loop (fun kk ds g'=>∃ y,∃ i:Nat,ds=[.int .i64 ((P.length+i:Nat):Int),y]∧kk+i=A.length∧Same o g g'∧g'[o]?=some (.row a0t 2 ((P++A.take i++x::(A.drop i++Q)).map fld)))
  (fun r=>r.1 = .ext 2∧(∃ b1 b2,r.2.1=[b1,b2])∧Same o g r.2.2∧r.2.2[o]?=some (.row a0t 2 ((P++A++x::Q).map fld))) A.length ⟨_,0,rfl,rfl,⟨rfl,fun _ _=>rfl⟩,by simpa using ho⟩ ?_ ?_
 ·rintro kk ds g' ⟨y1,i,rfl,hk,sm,ho'⟩
  have w0:IntKind.wrap .i64 (((P.length+A.length+1:Nat):Int) - 1)=((P.length+A.length:Nat):Int):=by rw [wrap_i64 (by omega) (by omega)];omega
  simp only [a7N,a0f,a0j,bs,d0B,hr,a0z,w0,a0o]
  refine Wp.dif ?_ ?_
  ·intro h0
   have h0:i<A.length:=by
    have:((P.length+i:Nat):Int)<((P.length+A.length:Nat):Int):=by simpa using h0
    omega
   obtain ⟨y,hy⟩:=gx_ h0
   have hdy:A.drop i=y::A.drop (i+1):=by
    obtain ⟨hn,hh⟩:=d0R.1 hy
    rw [List.drop_eq_getElem_cons hn,hh]
   have hw:IntKind.wrap .i64 (((P.length+i:Nat):Int)+1)=((P.length+i+1:Nat):Int):=by
    rw [wrap_i64 (by omega) (by omega)];omega
   have e1:P++A.take i++x::(A.drop i++Q)=(P++A.take i)++x::y::(A.drop (i+1)++Q):=by rw [hdy];simp [-bind_some]
   have e2:(P++A.take i++[x])++y::(A.drop (i+1)++Q)=(P++A.take i)++x::y::(A.drop (i+1)++Q):=by simp
   have n1:(P++A.take i).length=P.length+i:=by simp;omega
   have n2:(P++A.take i++[x]).length=P.length+i+1:=by simp;omega
   rw [e1] at ho'
   have la:=b3p ho' (a1R _ _ x _ n1)
   have lb:=b3p ho' (by rw [← e2];exact a1R _ _ y _ n2)
   have ia:=@a7g o N (P.length+i) (by omega)
   have ib:=@a7g o N (P.length+i+1) (by omega)
   simp only [a0r,hw,ia,ib,la,lb,bs,d0B]
   refine c0J n1 ho' fun g2 p2 w2=>?_
   try simp only [bs]
   refine .some (.inl ⟨rfl,kk - 1,by omega,_,i+1,rfl,by omega,sm.trans w2,?_⟩)
   rw [p2,d0N,hy]
   simp [-bind_some]
  ·intro h0
   have h0:i=A.length:=by
    have:¬ ((P.length+i:Nat):Int)<((P.length+A.length:Nat):Int):=by simpa using h0
    omega
   subst h0
   rw [d0Z,List.drop_length] at ho'
   exact .some (.inr ⟨by simp,rfl,⟨_,_,rfl⟩,sm,by simpa using ho'⟩)
 ·rintro ⟨ex,ds,g'⟩ ⟨rfl,⟨b1,b2,rfl⟩,sm,p⟩
  exact K g' b1 b2 p sm
theorem wL2 {g:Hp} {o N:Nat} {P A Q:List (Str × Str)} {x:Str × Str} (hN:N≤1000000000) (hlen:(P++A++x::Q).length=N) (ho:g[o]?=some (.row a0t 2 ((P++A++x::Q).map fld))) (r9:Out) (hr:nth 0 r9.2.1 = .int .i64 (P.length:Int)) (m:Int) (hm:m=(P.length+A.length:Nat)) (x1:D) {β:Type} {f:Out→Option β} {R1:β→Prop}
  (K:∀ g' b1 b2,g'[o]?=some (.row a0t 2 ((P++x::A++Q).map fld))→Same o g g'→Wp (f (.ext 6,[b1,b2],g')) R1):Wp ((a0K (a7L (.msl 2 o 0 N) r9) [.int .i64 m,x1] g).bind f) R1:=by
 subst hm
 simp only [d0G,d0S] at hlen
 refine Wp.loop (fun kk ds g'=>∃ y,ds=[.int .i64 ((P.length+kk:Nat):Int),y]∧kk≤A.length∧Same o g g'∧g'[o]?=some (.row a0t 2 ((P++A.take kk++x::(A.drop kk++Q)).map fld)))
  (fun r=>r.1 = .ext 6∧(∃ b1 b2,r.2.1=[b1,b2])∧Same o g r.2.2∧r.2.2[o]?=some (.row a0t 2 ((P++x::A++Q).map fld))) A.length ⟨_,rfl,Nat.le_refl _,⟨rfl,fun _ _=>rfl⟩,by simpa using ho⟩ ?_ ?_
 ·rintro kk ds g' ⟨y1,rfl,hk,sm,ho'⟩
  simp only [a7L,a0f,a0j,bs,d0B,hr,a0v]
  refine Wp.dif ?_ ?_
  ·intro h0
   have h0:0<kk:=by
    have:((P.length+kk:Nat):Int)>(P.length:Int):=by simpa using h0
    omega
   obtain ⟨i,rfl⟩:∃ i,kk=i+1:=⟨kk - 1,by omega⟩
   obtain ⟨y,hy⟩:∃ y,A[i]?=some y:=⟨_,d0Q (by omega)⟩
   have hdy:A.drop i=y::A.drop (i+1):=by
    obtain ⟨hn,hh⟩:=d0R.1 hy
    rw [List.drop_eq_getElem_cons hn,hh]
   have hw:IntKind.wrap .i64 (((P.length+(i+1):Nat):Int) - 1)=((P.length+i:Nat):Int):=by
    rw [wrap_i64 (by omega) (by omega)];omega
   have e1:P++A.take (i+1)++x::(A.drop (i+1)++Q)=(P++A.take i)++y::x::(A.drop (i+1)++Q):=by rw [d0N,hy];simp [-bind_some]
   have e2:(P++A.take i++[y])++x::(A.drop (i+1)++Q)=(P++A.take i)++y::x::(A.drop (i+1)++Q):=by simp
   have n1:(P++A.take i).length=P.length+i:=by simp;omega
   have n2:(P++A.take i++[y]).length=P.length+i+1:=by simp;omega
   rw [e1] at ho'
   have la:=b3p ho' (a1R _ _ y _ n1)
   have lb:=b3p ho' (by rw [← e2];exact a1R _ _ x _ n2)
   have ia:=@a7g o N (P.length+i) (by omega)
   have ib:=@a7g o N (P.length+(i+1)) (by omega)
   rw [show P.length+(i+1)=P.length+i+1 from rfl] at hw ib ⊢
   simp only [a0z,hw,ia,ib,la,lb,bs,d0B]
   refine b7O n1 ho' fun g2 p2 w2=>?_
   try simp only [bs]
   refine .some (.inl ⟨rfl,i,by omega,_,rfl,by omega,sm.trans w2,?_⟩)
   rw [p2,hdy]
   simp [-bind_some]
  ·intro h0
   have h0:kk=0:=by
    have:¬ ((P.length+kk:Nat):Int)>(P.length:Int):=by simpa using h0
    omega
   subst h0
   exact .some (.inr ⟨by simp,rfl,⟨_,_,rfl⟩,sm,by simpa using ho'⟩)
 ·rintro ⟨ex,ds,g'⟩ ⟨rfl,⟨b1,b2,rfl⟩,sm,p⟩
  exact K g' b1 b2 p sm
theorem b1Y {i j:Nat} (hi:i≤1000000000) (hj:j≤1000000000):IntKind.wrap .i64 ((i:Int)+j)=((i+j:Nat):Int)∧IntKind.wrap .u64 ((i+j:Nat):Int)=((i+j:Nat):Int)∧(((i+j:Nat):Int)).fdiv (2 ^ min ((1:Int).toNat) IntKind.u64.bits)=(((i+j) / 2:Nat):Int)∧IntKind.wrap .i64 (((i+j) / 2:Nat):Int)=(((i+j) / 2:Nat):Int):=by
 have m1:min ((1:Int).toNat) IntKind.u64.bits=1:=by decide
 have p1:(2:Int) ^ 1=2:=by decide
 refine ⟨?_,a2l (by omega) (by omega),?_,wrap_i64 (by omega) (by omega)⟩
 ·rw [wrap_i64 (by omega) (by omega)];omega
 ·rw [m1,p1,Int.fdiv_eq_ediv_of_nonneg _ (by omega)];omega
theorem wL3 {g:Hp} {o N:Nat} {L:List (Str × Str)} (hN:N≤1000000000) (hlen:L.length=N) (ho:g[o]?=some (.row a0t 2 (L.map fld))) (cmp:D) (a m b:Nat) (q:Nat→Prop) (ha:a<N) (hmb:m≤b) (hbN:b≤N) (x:Str × Str) (hx:L[a]?=some x)
  (hc:∀ t y,m≤t→t<b→L[t]?=some y→∃ v,a3G R cmp [.agg (fld y),.agg (fld x)] g=some (.int .i64 v,g)∧(v<0↔q t)) (x1 x2 x3:D) {β:Type} {f:Out→Option β} {Q:β→Prop}
  (K:∀ (c:Nat) b1 b2 b3,m≤c→c≤b→(c=m∨q (c - 1))→(c=b∨¬ q c)→Wp (f (.ext 0,[.int .i64 (c:Int),.int .i64 (c:Int),b1,b2,b3],g)) Q):Wp ((a0K (a7M (.msl 2 o 0 N) (.int .i64 (a:Int)) cmp) [.int .i64 (m:Int),.int .i64 (b:Int),x1,x2,x3] g).bind f) Q:=by
 refine Wp.loop (fun kk ds g'=>g'=g∧∃ y1 y2 y3,∃ i j:Nat,ds=[.int .i64 (i:Int),.int .i64 (j:Int),y1,y2,y3]∧kk=j - i∧m≤i∧i≤j∧j≤b∧(i=m∨q (i - 1))∧(j=b∨¬ q j))
  (fun r=>r.1 = .ext 0∧r.2.2=g∧∃ b1 b2 b3,∃ c:Nat,r.2.1=[.int .i64 (c:Int),.int .i64 (c:Int),b1,b2,b3]∧m≤c∧c≤b∧(c=m∨q (c - 1))∧(c=b∨¬ q c)) (b - m) ⟨rfl,_,_,_,m,b,rfl,rfl,Nat.le_refl _,hmb,Nat.le_refl _,.inl rfl,.inl rfl⟩ ?_ ?_
 ·rintro kk ds g' ⟨rfl,y1,y2,y3,i,j,rfl,hk,h1,h2,h3,h4,h5⟩
  simp only [a7M,a0f,a0j,bs,d0B,a0o]
  refine Wp.dif ?_ ?_
  ·intro h0
   have h0:i<j:=by
    have:(i:Int)<(j:Int):=by simpa using h0
    omega
   obtain ⟨u1,u2,u3,u4⟩:=@b1Y i j (by omega) (by omega)
   obtain ⟨y,hy⟩:∃ y,L[(i+j) / 2]?=some y:=⟨_,d0Q (by omega)⟩
   obtain ⟨v,hv,hvc⟩:=hc ((i+j) / 2) y (by omega) (by omega) hy
   have ia:=@a7g o N ((i+j) / 2) (by omega)
   have ib:=@a7g o N a ha
   have la:=b3p ho hy
   have lb:=b3p ho hx
   have w1:IntKind.wrap .i64 ((((i+j) / 2:Nat):Int)+1)=(((i+j) / 2+1:Nat):Int):=by rw [wrap_i64 (by omega) (by omega)];omega
   simp only [a0r,u1,a7W,u2,a4h,show ¬ (1:Int)<0 by omega,if_false,u3,a7V,u4,ia,ib,la,lb,hv,bs,a0o,d0B]
   by_cases hlt:v<0
   ·have:=hvc.1 hlt
    simp only [hlt,decide_true,a0c,if_true,w1,bs,a1A,a0f,a0j]
    exact .some (.inl ⟨rfl,j - ((i+j) / 2+1),by omega,rfl,_,_,_,_,_,rfl,rfl,by omega,by omega,by omega,.inr (by simpa using this),h5⟩)
   ·have:=fun h=>hlt (hvc.2 h)
    simp only [hlt,decide_false,a0c,d0C,if_false,bs,a1A,a0f,a0j]
    exact .some (.inl ⟨rfl,(i+j) / 2 - i,by omega,rfl,_,_,_,_,_,rfl,rfl,by omega,by omega,by omega,h4,.inr this⟩)
  ·intro h0
   have h0:¬ i<j:=by
    have:¬ (i:Int)<(j:Int):=by simpa using h0
    omega
   obtain rfl:j=i:=by omega
   exact .some (.inr ⟨by simp,rfl,rfl,_,_,_,j,rfl,h1,h3,h4,h5⟩)
 ·rintro ⟨ex,ds,g'⟩ ⟨rfl,q2,b1,b2,b3,c,rfl,k1,k2,k3,k4⟩
  simp only at q2
  subst q2
  exact K c b1 b2 b3 k1 k2 k3 k4
end Go.Proofs.YtjmndhbabkjebaaDoor
