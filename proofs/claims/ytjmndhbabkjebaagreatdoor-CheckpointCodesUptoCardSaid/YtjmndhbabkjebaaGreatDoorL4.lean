/- Laws, on plain data, about functions that the statement reaches. -/
import Derived.Test.YtjmndhbabkjebaaGreatDoorL3
set_option linter.unusedSimpArgs false
set_option linter.unusedVariables false
set_option linter.unnecessarySimpa false
set_option maxRecDepth 100000
namespace Go.Proofs.YtjmndhbabkjebaaGreatDoor
open Go.Eng Go.Pi
open Option (bind_some)
theorem b0B {B:List Int} {d x:D} {s:Cur} (h:Hp) (hd:SlOf 1 byr B d) (hB:B.length≤1000000000) (hu:∀ z∈B,U8 z) (hx:RdS B d s x) (n:Nat) (hn:n≤8):∃ x',R a2B [x,.int .i64 n] h=some (.tup [x',.int .u64 (num (a0G s n).1)],h)∧RdS B d (a0G s n).2 x':=by
 suffices Wp (R a2B [x,.int .i64 n] h) (fun p=>p.2=h∧∃ x',p.1 = .tup [x',.int .u64 (num (a0G s n).1)]∧RdS B d (a0G s n).2 x') by
  obtain ⟨⟨y,h'⟩,h1,rfl,x',rfl,h2⟩:=this
  exact ⟨x',h1,h2⟩
 obtain ⟨a,rfl,ha,hs⟩:=hx
 have hl0:(a0H h a0l 3 [[d,.int .i64 a,.bool (!s.2)]]).length=h.length+1:=by simp [-bind_some, a0H]
 have M:=M2.new h a0l 3 a0l 3 [d,.int .i64 a,.bool (!s.2)] [.nils,.int .i64 0,.bool false]
 rw [d0u]
 simp only [c5G,a3b a0l 3 h [d,.int .i64 a,.bool (!s.2)] rfl (by omega),bs,d7c,hl0]
 generalize a0H (a0H h a0l 3 [[d,.int .i64 a,.bool (!s.2)]]) a0l 3 [[.nils,.int .i64 0,.bool false]]=g at *
 obtain ⟨l0,l1,l2,l3⟩:=a3n M.ha
 have wl:IntKind.wrap .i64 ((B.length:Int) - a)=(B.length:Int) - a:=wrap_i64 (by omega) (by omega)
 have hsl:(s.1.length:Int)=(B.length:Int) - a:=by rw [← hs];simp [-bind_some];omega
 simp only [a6r,a3F,a2T,l2,a1C,bs,Bool.not_not]
 have bad:∀ b:Bool,s=(s.1,b)→((a0G s n).1=[]∧(a0G s n).2=(s.1,true))→Wp ((a0h tab g ty4 (.ptr h.length 0 (0+2)) (.bool false)).bind fun h'=>(a0b tab h' a0l (.ptr h.length 0 0)).bind fun t22=>(a0h tab h' a0l (.ptr (h.length+1) 0 0) t22).bind fun h'=>(a0b tab h' a0l (.ptr (h.length+1) 0 0)).bind fun d=>scope h h' (a0k [d,.int .u64 0])) (fun p=>p.2=h∧∃ x',p.1 = .tup [x',.int .u64 (num (a0G s n).1)]∧RdS B d (a0G s n).2 x'):=by
  intro b _ ⟨t1,t2⟩
  refine b8E M.ha fun g1 p1 s1=>?_
  have M1:=M.sta p1 s1
  simp only [(a3n M1.ha).2.2.2,bs]
  refine a6W M1.hb fun g2 p2 s2=>?_
  have M2':=M1.stb p2 s2
  simp only [(a3n M2'.hb).2.2.2,bs,a1c]
  rw [b1O hd (by simp) (by constructor) (by have:=M2'.hl;omega) M2'.lo]
  exact .some ⟨rfl,_,by rw [t1];rfl,a,by rw [t2];rfl,ha,by rw [t2];exact hs⟩
 cases hb:s.2 with
 | true =>
  simp only [a0o,if_true,reduceCtorEq,d7e,if_false,bs,a0e,a0d,d7m,d7n]
  have ht:a0G s n=([],(s.1,true)):=by unfold a0G;rw [if_pos (.inl hb)]
  exact bad true (by rw [← hb]) ⟨by rw [ht],by rw [ht]⟩
 | false =>
  simp only [a0o,if_true,l0,l1,a1Z hd,a0D,wl,a0n,bs,a0e,a0d,d7m,d7n,d7d,if_false]
  by_cases hsh:(B.length:Int) - a<n
  ·simp only [hsh,decide_true,if_true]
   have ht:a0G s n=([],(s.1,true)):=by unfold a0G;rw [if_pos (.inr (.inr (by omega)))]
   exact bad false (by rw [← hb]) ⟨by rw [ht],by rw [ht]⟩
  ·simp only [hsh,decide_false,d7d,if_false]
   have ht:a0G s n=(s.1.take n,(s.1.drop n,false)):=by unfold a0G;rw [if_neg (by rw [hb];simp [-bind_some];omega),d7l]
   rw [ht]
   have hln:n≤s.1.length:=by omega
   refine Wp.loop (fun k ds g'=>g'=g∧∃ y,∃ i:Nat,ds=[.int .u64 (num (s.1.take i)),.int .i64 i,y]∧k+i=n) (fun r=>r.1 = .ext 0∧r.2.2=g∧∃ y z,r.2.1=[.int .u64 (num (s.1.take n)),y,z]) n ⟨rfl,_,0,rfl,rfl⟩ ?_ ?_
   ·rintro k ds g' ⟨rfl,y,i,rfl,hk⟩
    simp only [b3l,a0g,a0q,bs,d7c,a0n]
    refine Wp.dif ?_ ?_
    ·intro h0
     have h0:i<n:=dl_ h0
     obtain ⟨z,hz⟩:∃ z,s.1[i]?=some z:=⟨_,d7r (by omega)⟩
     have hzB:B[a+i]?=some z:=by rw [← hs,List.getElem?_drop] at hz;exact hz
     have hzu:=hu z (d7q hzB)
     have hw:=wi_ i (by omega)
     have hw2:IntKind.wrap .i64 ((a:Int)+(i:Int))=((a+i:Nat):Int):=by
      rw [wrap_i64 (by omega) (by omega)];omega
     unfold U8 at hzu
     have hus:∀ z∈s.1,U8 z:=fun z hz=>hu z (by rw [← hs] at hz;exact List.mem_of_mem_drop hz)
     obtain ⟨hn0,hn1⟩:=a2n i (s.1.take i) (by simp;omega) fun z hz=>hus z (List.mem_of_mem_take hz)
     have hb:num (s.1.take i)<72057594037927936:=by
      have:i=0∨i=1∨i=2∨i=3∨i=4∨i=5∨i=6∨i=7:=by omega
      rcases this with rfl | rfl | rfl | rfl | rfl | rfl | rfl | rfl <;> omega
     have m3:min ((8:Int).toNat) IntKind.u64.bits=8:=by decide
     have p3:(2:Int) ^ 8=256:=by decide
     have w1:IntKind.wrap .u64 (num (s.1.take i)*2 ^ 8)=num (s.1.take i)*2 ^ 8:=by rw [p3];exact a1w (by omega) (by omega)
     have w2:IntKind.wrap .u64 z=z:=a1w (by omega) (by omega)
     have w3:=b8q (x:=num (s.1.take i)) (b:=z) 8 hn0 (by omega) (by rw [p3];omega) (by rw [p3];omega)
     have hii0:∀ m:Nat,B[m]?=some z→a0c tab a0N d (.int .i64 (m:Int))=some (.fptr (byr z)):=fun m hm=>by rw [c0A hd];simp [-bind_some, hm]
     have hii:=hii0 _ hzB
     rw [p3,← a7D hz] at w3
     rw [p3] at w1
     simp only [a6r,a3F,l0,l1,a0t,hw2,hii,b3D,bs,a9U,show ¬ (8:Int)<0 by omega,if_false,m3,p3,w1,a6i,w2,b2h,w3,hw]
     exact .some (.inl ⟨rfl,k - 1,by omega,rfl,_,i+1,rfl,by omega⟩)
    ·intro h0
     have h0:i=n:=by
      have:¬ (i:Int)<n:=by simpa using h0
      omega
     subst h0
     exact .some (.inr ⟨by simp,rfl,rfl,_,_,rfl⟩)
   ·rintro ⟨ex,ds,g'⟩ ⟨rfl,q2,y,z,rfl⟩
    simp only at q2
    subst q2
    have hw2:IntKind.wrap .i64 ((a:Int)+(n:Int))=((a+n:Nat):Int):=by
     rw [wrap_i64 (by omega) (by omega)];omega
    simp only [a0r,a0s,bs,a0g,a3F,l1,a0t,hw2]
    refine b2O M.ha fun g1 p1 s1=>?_
    have M1:=M.sta p1 s1
    simp only [(a3n M1.ha).2.2.2,bs]
    refine a6W M1.hb fun g2 p2 s2=>?_
    have M2':=M1.stb p2 s2
    simp only [(a3n M2'.hb).2.2.2,bs,a1c]
    rw [b1O hd (by simp) (by constructor) (by have:=M2'.hl;omega) M2'.lo]
    exact .some ⟨rfl,_,rfl,a+n,by rw [hb],by omega,by rw [← hs,List.drop_drop]⟩
theorem d2Z {B:List Int} {d x:D} {s:Cur} (h:Hp) (hd:SlOf 1 byr B d) (hB:B.length≤1000000000) (hu:∀ z∈B,U8 z) (hx:RdS B d s x):∃ x',R a3t [x] h=some (.tup [x',.int .i64 (a0R s).1],h)∧RdS B d (a0R s).2 x':=by
 suffices Wp (R a3t [x] h) (fun p=>p.2=h∧∃ x',p.1 = .tup [x',.int .i64 (a0R s).1]∧RdS B d (a0R s).2 x') by
  obtain ⟨⟨y,h'⟩,h1,rfl,x',rfl,h2⟩:=this
  exact ⟨x',h1,h2⟩
 have hx0:=hx
 obtain ⟨a,rfl,ha,hs⟩:=hx
 have hl0:(a0H h a0l 3 [[d,.int .i64 a,.bool (!s.2)]]).length=h.length+1:=by simp [-bind_some, a0H]
 have M:=M2.new h a0l 3 a0l 3 [d,.int .i64 a,.bool (!s.2)] [.nils,.int .i64 0,.bool false]
 rw [d0w]
 simp only [c5I,a3b a0l 3 h [d,.int .i64 a,.bool (!s.2)] rfl (by omega),bs,d7c,hl0]
 generalize a0H (a0H h a0l 3 [[d,.int .i64 a,.bool (!s.2)]]) a0l 3 [[.nils,.int .i64 0,.bool false]]=g at *
 obtain ⟨l0,l1,l2,l3⟩:=a3n M.ha
 obtain ⟨x1,e1,r1⟩:=b0B g hd hB hu hx0 8 (by omega)
 obtain ⟨a1,rfl,ha1,hs1⟩:=r1
 have e1:R a2B [.agg [d,.int .i64 a,.bool (!s.2)],.int .i64 8] g=_:=e1
 simp only [l3,bs,e1,a0J,d7f,d7g]
 refine a6W M.ha fun g1 p1 s1=>?_
 have M1:=M.sta p1 s1
 simp only [(a3n M1.ha).2.2.2,a3w,bs]
 refine a6W M1.hb fun g2 p2 s2=>?_
 have M2':=M1.stb p2 s2
 simp only [(a3n M2'.hb).2.2.2,bs,a1c]
 rw [b1O hd (by simp) (by constructor) (by have:=M2'.hl;omega) M2'.lo]
 exact .some ⟨rfl,_,rfl,a1,rfl,ha1,hs1⟩
theorem b0q {s:Cur} (hu:∀ z∈s.1,U8 z):(a1D s).1=num (a0G s 4).1∧0≤num (a0G s 4).1∧num (a0G s 4).1<4294967296:=by
 have h5:=a4x hu 4
 have hl:(a0G s 4).1.length≤4:=a3K s 4
 obtain ⟨r0,r1⟩:=a2n _ _ rfl h5.1
 have r2:num (a0G s 4).1<4294967296:=by
  have hc:(a0G s 4).1.length=0∨(a0G s 4).1.length=1∨(a0G s 4).1.length=2∨(a0G s 4).1.length=3∨(a0G s 4).1.length=4:=by omega
  rcases hc with h | h | h | h | h <;> rw [h] at r1 <;> omega
 exact ⟨wrap_i64 (by omega) (by omega),r0,r2⟩
theorem d2Y {B:List Int} {d x:D} {s:Cur} (h:Hp) (hd:SlOf 1 byr B d) (hB:B.length≤1000000000) (hu:∀ z∈B,U8 z) (hx:RdS B d s x):∃ x',R a4S [x] h=some (.tup [x',.str ((a0S s).1.getD [])],h)∧RdS B d (a0S s).2 x':=by
 suffices Wp (R a4S [x] h) (fun p=>p.2=h∧∃ x',p.1 = .tup [x',.str ((a0S s).1.getD [])]∧RdS B d (a0S s).2 x') by
  obtain ⟨⟨y,h'⟩,h1,rfl,x',rfl,h2⟩:=this
  exact ⟨x',h1,h2⟩
 have hx0:=hx
 obtain ⟨a,rfl,ha,hs⟩:=hx
 have hus:∀ z∈s.1,U8 z:=fun z hz=>hu z (by rw [← hs] at hz;exact List.mem_of_mem_drop hz)
 have hl0:(a0H h a0l 3 [[d,.int .i64 a,.bool (!s.2)]]).length=h.length+1:=by simp [-bind_some, a0H]
 have M:=M2.new h a0l 3 a0l 3 [d,.int .i64 a,.bool (!s.2)] [.nils,.int .i64 0,.bool false]
 rw [d0v]
 simp only [c5H,a3b a0l 3 h [d,.int .i64 a,.bool (!s.2)] rfl (by omega),bs,d7c,hl0]
 generalize a0H (a0H h a0l 3 [[d,.int .i64 a,.bool (!s.2)]]) a0l 3 [[.nils,.int .i64 0,.bool false]]=g at *
 obtain ⟨l0,l1,l2,l3⟩:=a3n M.ha
 obtain ⟨x1,e1,r1⟩:=b0B g hd hB hu hx0 4 (by omega)
 obtain ⟨a1,rfl,ha1,hs1⟩:=r1
 have e1:R a2B [.agg [d,.int .i64 a,.bool (!s.2)],.int .i64 4] g=_:=e1
 obtain ⟨n1,n2,n3⟩:=b0q hus
 have hc4:a0G s ((4:Nat):Int)=a0G s 4:=rfl
 rw [hc4] at e1 hs1
 have hc2:(a0G s 4).2=(a1D s).2:=rfl
 rw [hc2] at e1 hs1
 simp only [l3,bs,e1,a0J,d7f,d7g]
 rw [← n1] at n2 n3
 rw [← n1]
 refine a6W M.ha fun g1 p1 s1=>?_
 have M1:=M.sta p1 s1
 obtain ⟨k0,k1,k2,k3⟩:=a3n M1.ha
 unfold a0S
 generalize (a1D s).2=c at *
 generalize (a1D s).1=N at *
 obtain ⟨n,rfl⟩:=Int.eq_ofNat_of_zero_le n2
 have wl:IntKind.wrap .i64 ((B.length:Int) - a1)=(B.length:Int) - a1:=wrap_i64 (by omega) (by omega)
 have wu:IntKind.wrap .u64 ((B.length:Int) - a1)=(B.length:Int) - a1:=a1w (by omega) (by omega)
 have wn:IntKind.wrap .i64 (n:Int)=(n:Int):=wrap_i64 (by omega) (by omega)
 have wan:IntKind.wrap .i64 ((a1:Int)+(n:Int))=((a1+n:Nat):Int):=by
  rw [wrap_i64 (by omega) (by omega)];omega
 have hsl:(c.1.length:Int)=(B.length:Int) - a1:=by rw [← hs1];simp [-bind_some];omega
 simp only [a6r,a3F,a2T,k2,a1C,bs,Bool.not_not]
 have bad:a0G c n=([],(c.1,true))→Wp ((a0h tab g1 ty4 (.ptr h.length 0 (0+2)) (.bool false)).bind fun h'=>(a0b tab h' a0l (.ptr h.length 0 0)).bind fun t22=>(a0h tab h' a0l (.ptr (h.length+1) 0 0) t22).bind fun h'=>(a0b tab h' a0l (.ptr (h.length+1) 0 0)).bind fun d=>scope h h' (a0k [d,.str []])) (fun p=>p.2=h∧∃ x',p.1 = .tup [x',.str ((if (a0G c n).2.2=true then ((none:Option Str),(a0G c n).2) else (some (bys (a0G c n).1),(a0G c n).2)).1.getD [])]∧RdS B d (if (a0G c n).2.2=true then ((none:Option Str),(a0G c n).2) else (some (bys (a0G c n).1),(a0G c n).2)).2 x'):=by
  intro t1
  rw [t1]
  simp only [if_true]
  refine b8E M1.ha fun g2 p2 s2=>?_
  have M2:=M1.sta p2 s2
  simp only [(a3n M2.ha).2.2.2,bs]
  refine a6W M2.hb fun g3 p3 s3=>?_
  have M3:=M2.stb p3 s3
  simp only [(a3n M3.hb).2.2.2,bs,a1c]
  rw [b1O hd (by simp) (by constructor) (by have:=M3.hl;omega) M3.lo]
  exact .some ⟨rfl,_,rfl,a1,rfl,ha1,hs1⟩
 cases hb:c.2 with
 | true =>
  simp only [a0o,if_true,reduceCtorEq,d7e,if_false,bs,a0e,a0d,d7m,d7n]
  have ht:a0G c n=([],(c.1,true)):=by unfold a0G;rw [if_pos (.inl hb)]
  exact bad ht
 | false =>
  simp only [a0o,if_true,k0,k1,a1Z hd,a0D,wl,a2b,wu,a0u,bs,a0e,a0d,d7m,d7n,d7d,if_false]
  by_cases hsh:(n:Int)>(B.length:Int) - a1
  ·simp only [hsh,decide_true,if_true]
   have ht:a0G c n=([],(c.1,true)):=by unfold a0G;rw [if_pos (.inr (.inr (by omega)))]
   exact bad ht
  ·simp only [hsh,decide_false,d7d,if_false]
   have ht:a0G c n=(c.1.take n,(c.1.drop n,false)):=by unfold a0G;rw [if_neg (by rw [hb];simp [-bind_some];omega),d7l]
   rw [ht]
   obtain ⟨dc,ec,sc⟩:=a5M hd a1 (a1+n) (by omega) (by omega)
   have lc:(B.take (a1+n)).drop a1=c.1.take n:=by rw [← hs1,List.drop_take];congr 1;omega
   rw [lc] at sc
   simp only [a3w,wn,a0t,wan,ec,a5u sc,bs,d7d,if_false]
   refine b2O M1.ha fun g2 p2 s2=>?_
   have M2:=M1.sta p2 s2
   simp only [(a3n M2.ha).2.2.2,bs]
   refine a6W M2.hb fun g3 p3 s3=>?_
   have M3:=M2.stb p3 s3
   simp only [(a3n M3.hb).2.2.2,bs,a1c]
   rw [b1O hd (by simp) (by constructor) (by have:=M3.hl;omega) M3.lo]
   exact .some ⟨rfl,_,rfl,a1+n,by rw [hb],by omega,by rw [← hs1,List.drop_drop]⟩
def RdC (B:List Int) (d:D) (g:Hp) (o:Nat) (s:Cur):Prop:=∃ n:Nat,g[o]?=some (.row a0l 3 [[d,.int .i64 n,.bool (!s.2)]])∧n≤B.length∧B.drop n=s.1
theorem RdC.keep {B:List Int} {d:D} {g g':Hp} {o:Nat} {s:Cur} (C:RdC B d g o s) (h:g'[o]?=g[o]?):RdC B d g' o s:=by
 obtain ⟨n,h1,h2⟩:=C
 exact ⟨n,by rw [h];exact h1,h2⟩
theorem RdC.lt {B:List Int} {d:D} {g:Hp} {o:Nat} {s:Cur} (C:RdC B d g o s):o<g.length:=by
 obtain ⟨n,h1,h2⟩:=C
 exact (d7s.1 h1).1
theorem RdC.ok {B:List Int} {d:D} {g:Hp} {o:Nat} {s:Cur} (C:RdC B d g o s):a0b tab g ty4 (.ptr o 0 (0+2))=some (.bool (!s.2)):=by
 obtain ⟨n,h1,h2⟩:=C
 exact (a3n h1).2.2.1
theorem RdC.all {B:List Int} {d:D} {g:Hp} {o:Nat} {s:Cur} (C:RdC B d g o s):∃ x,a0b tab g a0l (.ptr o 0 0)=some x∧RdS B d s x:=by
 obtain ⟨n,h1,h2⟩:=C
 exact ⟨_,(a3n h1).2.2.2,n,rfl,h2⟩
theorem RdC.st {B:List Int} {d x:D} {g:Hp} {o:Nat} {s s':Cur} (C:RdC B d g o s) (hx:RdS B d s' x) {β:Type} {f:Hp→Option β} {Q:β→Prop} (k:∀ g',RdC B d g' o s'→Same o g g'→Wp (f g') Q):Wp ((a0h tab g a0l (.ptr o 0 0) x).bind f) Q:=by
 obtain ⟨n,h1,h2⟩:=C
 obtain ⟨m,rfl,h3⟩:=hx
 exact a6W h1 fun g' p s=>k g' ⟨m,p,h3⟩ s
theorem rdI {B:List Int} {d:D} {g:Hp} {o:Nat} {s:Cur} (hd:SlOf 1 byr B d) (hB:B.length≤1000000000) (hu:∀ z∈B,U8 z) (C:RdC B d g o s) {β:Type} {f:D→Hp→Option β} {Q:β→Prop} (k:∀ g',RdC B d g' o (a0R s).2→Same o g g'→Wp (f (.int .i64 (a0R s).1) g') Q) :
  Wp ((a0b tab g a0l (.ptr o 0 0)).bind fun t=>(R a3t [t] g).bind fun p=>(a0i 0 p.1).bind fun a=>(a0i 1 p.1).bind fun b=>(a0h tab p.2 a0l (.ptr o 0 0) a).bind fun g'=>f b g') Q:=by
 obtain ⟨x,l,r⟩:=C.all
 obtain ⟨x',e,r'⟩:=d2Z g hd hB hu r
 simp only [l,bs,e,a0J,d7f,d7g]
 exact C.st r' k
theorem rdT {B:List Int} {d:D} {g:Hp} {o:Nat} {s:Cur} (hd:SlOf 1 byr B d) (hB:B.length≤1000000000) (hu:∀ z∈B,U8 z) (C:RdC B d g o s) {β:Type} {f:D→Hp→Option β} {Q:β→Prop} (k:∀ g',RdC B d g' o (a0S s).2→Same o g g'→Wp (f (.str ((a0S s).1.getD [])) g') Q) :
  Wp ((a0b tab g a0l (.ptr o 0 0)).bind fun t=>(R a4S [t] g).bind fun p=>(a0i 0 p.1).bind fun a=>(a0i 1 p.1).bind fun b=>(a0h tab p.2 a0l (.ptr o 0 0) a).bind fun g'=>f b g') Q:=by
 obtain ⟨x,l,r⟩:=C.all
 obtain ⟨x',e,r'⟩:=d2Y g hd hB hu r
 simp only [l,bs,e,a0J,d7f,d7g]
 exact C.st r' k
def a3U:Nat→Cur→List Lin × Cur
 | 0,s=>([],s)
 | n+1,s=>if s.2=true then ([],s) else ((a4K s).1::(a3U n (a4K s).2).1,(a3U n (a4K s).2).2)
def a3T:Nat→Cur→List (Str × Str) × Cur
 | 0,s=>([],s)
 | n+1,s=>if s.2=true then ([],s) else ((fdS s).1::(a3T n (fdS s).2).1,(a3T n (fdS s).2).2)
theorem b4Z (n:Nat) (s:Cur) (h:s.2=true):a3U n s=([],s):=by
 cases n with
 | zero=>rfl
 | succ n=>simp [-bind_some, a3U,h]
theorem b4X (n:Nat) (s:Cur) (h:s.2=true):a3T n s=([],s):=by
 cases n with
 | zero=>rfl
 | succ n=>simp [-bind_some, a3T,h]
theorem d3a {B:List Int} {d x:D} {s:Cur} (h:Hp) (hd:SlOf 1 byr B d) (hB:B.length≤1000000000) (hu:∀ z∈B,U8 z) (hx:RdS B d s x):∃ x' ld,R b1p [x] h=some (.tup [x',ld],h)∧RdS B d (a3U (a1D s).1.toNat (a1D s).2).2 x'∧SlOf 3 a1p (a3U (a1D s).1.toNat (a1D s).2).1 ld:=by
 suffices Wp (R b1p [x] h) (fun p=>p.2=h∧∃ x' ld,p.1 = .tup [x',ld]∧RdS B d (a3U (a1D s).1.toNat (a1D s).2).2 x'∧SlOf 3 a1p (a3U (a1D s).1.toNat (a1D s).2).1 ld) by
  obtain ⟨⟨y,h'⟩,h1,rfl,x',ld,rfl,h2⟩:=this
  exact ⟨x',ld,h1,h2⟩
 have hx0:=hx
 obtain ⟨a,rfl,ha,hs⟩:=hx
 have hus:∀ z∈s.1,U8 z:=fun z hz=>hu z (by rw [← hs] at hz;exact List.mem_of_mem_drop hz)
 have hl0:(a0H h a0l 3 [[d,.int .i64 a,.bool (!s.2)]]).length=h.length+1:=by simp [-bind_some, a0H]
 have M:=M2.new h a0l 3 a0l 3 [d,.int .i64 a,.bool (!s.2)] [.nils,.int .i64 0,.bool false]
 rw [d0x]
 simp only [c5J,a3b a0l 3 h [d,.int .i64 a,.bool (!s.2)] rfl (by omega),bs,d7c,hl0]
 generalize a0H (a0H h a0l 3 [[d,.int .i64 a,.bool (!s.2)]]) a0l 3 [[.nils,.int .i64 0,.bool false]]=g at *
 have l3:=(a3n M.ha).2.2.2
 obtain ⟨x1,e1,r1⟩:=b0B g hd hB hu hx0 4 (by omega)
 obtain ⟨a1,rfl,ha1,hs1⟩:=r1
 have e1:R a2B [.agg [d,.int .i64 a,.bool (!s.2)],.int .i64 4] g=_:=e1
 obtain ⟨n1,n2,n3⟩:=b0q hus
 have hc4:a0G s ((4:Nat):Int)=a0G s 4:=rfl
 rw [hc4] at e1 hs1
 have hc2:(a0G s 4).2=(a1D s).2:=rfl
 rw [hc2] at e1 hs1
 simp only [l3,bs,e1,a0J,d7f,d7g]
 rw [← n1] at n2 n3
 rw [← n1]
 refine a6W M.ha fun g1 p1 s1=>?_
 have M1:=M.sta p1 s1
 have C1:RdC B d g1 h.length (a1D s).2:=⟨a1,p1,ha1,hs1⟩
 generalize (a1D s).2=c at *
 generalize (a1D s).1=N at *
 obtain ⟨n,rfl⟩:=Int.eq_ofNat_of_zero_le n2
 rw [d7l]
 refine Wp.loop (fun k ds g'=>∃ y1 y2 ld,∃ i:Nat,∃ L:List Lin,∃ s':Cur,ds=[ld,.int .u64 i,y1,y2]∧k+i=n∧RdC B d g' h.length s'∧g'[h.length+1]?=some (.row a0l 3 [[.nils,.int .i64 0,.bool false]])∧(∀ q,q<h.length→g'[q]?=h[q]?)∧Own g' (h.length+2) a1o 3 (L.map a1p) ld∧h.length+2≤g'.length∧L.length≤i∧L++(a3U k s').1=(a3U n c).1∧(a3U k s').2=(a3U n c).2)
  (fun r=>r.1 = .ext 0∧∃ y1 y2 y3 ld,r.2.1=[ld,y1,y2,y3]∧RdC B d r.2.2 h.length (a3U n c).2∧r.2.2[h.length+1]?=some (.row a0l 3 [[.nils,.int .i64 0,.bool false]])∧(∀ q,q<h.length→r.2.2[q]?=h[q]?)∧Own r.2.2 (h.length+2) a1o 3 ((a3U n c).1.map a1p) ld∧h.length+2≤r.2.2.length) n ⟨_,_,.nils,0,[],c,rfl,rfl,C1,M1.hb,M1.lo,Own.nils _ _ _ _,M1.hl,by simp,by simp,rfl⟩ ?_ ?_
 ·rintro k ds g' ⟨y1,y2,ld,i,L,s',rfl,hk,C,hb,lo,ow,hgl,hL,q1,q2⟩
  simp only [b3m,a0g,a0q,bs,d7c,a2T,C.ok]
  have stop:(s'.2=true∨k=0)→a3U k s'=([],s'):=by
   rintro (h0 | h0)
   ·exact b4Z k s' h0
   ·rw [h0];rfl
  have fin:(s'.2=true∨k=0)→∀ u v w,Wp (some (Ex.ext 0,[ld,u,v,w],g')) (fun r=>(r.1 = .nrm∧∃ k'<k,∃ y1 y2 ld,∃ i:Nat,∃ L:List Lin,∃ s':Cur,r.2.1=[ld,.int .u64 i,y1,y2]∧k'+i=n∧RdC B d r.2.2 h.length s'∧r.2.2[h.length+1]?=some (.row a0l 3 [[.nils,.int .i64 0,.bool false]])∧(∀ q,q<h.length→r.2.2[q]?=h[q]?)∧Own r.2.2 (h.length+2) a1o 3 (L.map a1p) ld∧h.length+2≤r.2.2.length∧L.length≤i∧L++(a3U k' s').1=(a3U n c).1∧(a3U k' s').2=(a3U n c).2)∨(r.1 ≠ .nrm∧(r.1 = .ext 0∧∃ y1 y2 y3 ld,r.2.1=[ld,y1,y2,y3]∧RdC B d r.2.2 h.length (a3U n c).2∧r.2.2[h.length+1]?=some (.row a0l 3 [[.nils,.int .i64 0,.bool false]])∧(∀ q,q<h.length→r.2.2[q]?=h[q]?)∧Own r.2.2 (h.length+2) a1o 3 ((a3U n c).1.map a1p) ld∧h.length+2≤r.2.2.length))):=by
   intro h0 u v w
   have h1:=stop h0
   rw [h1] at q1 q2
   simp only [List.append_nil] at q1 q2
   refine .some (.inr ⟨by simp,rfl,_,_,_,ld,rfl,by rw [← q2];exact C,hb,lo,by rw [← q1];exact ow,hgl⟩)
  cases hb2:s'.2 with
  | true =>
   simp only [d7m,a0o,d7d,reduceCtorEq,if_false,bs,a0e,a0d]
   exact fin (.inl hb2) _ _ _
  | false =>
   simp only [d7n,a0o,if_true,bs,a0n,a0e,a0d]
   by_cases hin:i<n
   case neg =>
    have hin':¬ (i:Int)<(n:Int):=by omega
    simp only [hin',decide_false,d7d,if_false]
    exact fin (.inr (by omega)) _ _ _
   have hin':(i:Int)<(n:Int):=by omega
   simp only [hin',decide_true,if_true]
   obtain ⟨k',rfl⟩:∃ k',k=k'+1:=⟨k - 1,by omega⟩
   have hlS:a3U (k'+1) s'=((a4K s').1::(a3U k' (a4K s').2).1,(a3U k' (a4K s').2).2):=by simp [-bind_some, a3U,hb2]
   rw [hlS] at q1 q2
   have hN0:(a0H g' a1o 3 [a3L])[g'.length]?=some (.row a1o 3 [a3L]):=a1a _ _ _ _
   have hNl:(a0H g' a1o 3 [a3L]).length=g'.length+1:=by simp [-bind_some, a0H]
   have hNo:∀ q,q<g'.length→(a0H g' a1o 3 [a3L])[q]?=g'[q]?:=fun q hq=>a0W _ _ _ _ hq
   have hz:([.int .i64 0,.int .i64 0,.str []]:List D)=a3L:=rfl
   have hob:∀ q,ld.inOb q→q<g'.length:=fun q hq=>(d7s.1 (a1V ow hq)).1
   have hCl:=C.lt
   have C2:RdC B d (a0H g' a1o 3 [a3L]) h.length s':=C.keep (hNo _ hCl)
   try simp only [hz]
   generalize a0H g' a1o 3 [a3L]=g2 at *
   refine rdI hd hB hu C2 fun g3 C3 s3=>?_
   have p3:g3[g'.length]?=some (.row a1o 3 [a3L]):=by rw [s3.2 _ (by omega)];exact hN0
   simp only [a3g,a3h,a3q]
   refine b0H (kk:=0) (row:=a3L) p3 rfl rfl (by simp [-bind_some, a3L]) rfl fun g4 p4 s4=>?_
   have p4:g4[g'.length]?=some (.row a1o 3 [[.int .i64 (a0R s').1,.int .i64 0,.str []]]):=p4
   have C4:RdC B d g4 h.length (a0R s').2:=C3.keep (s4.2 _ (by omega))
   try simp only [bs]
   refine rdI hd hB hu C4 fun g5 C5 s5=>?_
   have p5:g5[g'.length]?=some (.row a1o 3 [[.int .i64 (a0R s').1,.int .i64 0,.str []]]):=by rw [s5.2 _ (by omega)];exact p4
   refine b0H (kk:=0) p5 rfl rfl (by simp) rfl fun g6 p6 s6=>?_
   have p6:g6[g'.length]?=some (.row a1o 3 [[.int .i64 (a0R s').1,.int .i64 (a0R (a0R s').2).1,.str []]]):=p6
   have C6:RdC B d g6 h.length (a0R (a0R s').2).2:=C5.keep (s6.2 _ (by omega))
   try simp only [bs]
   refine rdT hd hB hu C6 fun g7 C7 s7=>?_
   have p7:g7[g'.length]?=some (.row a1o 3 [[.int .i64 (a0R s').1,.int .i64 (a0R (a0R s').2).1,.str []]]):=by rw [s7.2 _ (by omega)];exact p6
   refine c2r (kk:=0) p7 rfl rfl (by simp) rfl fun g8 p8 s8=>?_
   have p8:g8[g'.length]?=some (.row a1o 3 [a1p (a4K s').1]):=p8
   have C8:RdC B d g8 h.length (a4K s').2:=C7.keep (s8.2 _ (by omega))
   have ld8:a0b tab g8 a1o (.ptr g'.length 0 0)=some (.agg (a1p (a4K s').1)):=by rw [c3B,a0I p8];rfl
   have hbz:a0X tab a1i 1 [0] [.agg (a1p (a4K s').1)]=some (.sl 3 true [a1p (a4K s').1]):=id rfl
   have hoth:∀ q,q≠h.length→q<g'.length→g8[q]?=g'[q]?:=fun q h1 h2=>by
    rw [s8.2 q (by omega),s7.2 q h1,s6.2 q (by omega),s5.2 q h1,s4.2 q (by omega),s3.2 q h1,hNo q h2]
   have hl8:g8.length=g'.length+1:=by rw [s8.1,s7.1,s6.1,s5.1,s4.1,s3.1,hNl]
   have ow8:Own g8 (h.length+2) a1o 3 (L.map a1p) ld:=ow.keep fun q hq hx=>hoth q (by omega) (hob q hx)
   have wi:IntKind.wrap .u64 ((i:Int)+1)=((i+1:Nat):Int):=by rw [a1w (by omega) (by omega)];omega
   simp only [bs,ld8,hbz]
   refine b2W (ys:=[a1p (a4K s').1]) (by omega) ow8 (a1d _ _ _ _) (by simp;omega) fun ld2 g9 ow9 a4W bel9 old9 _=>?_
   simp only [bs,a0t,wi]
   refine .some (.inl ⟨rfl,k',by omega,_,_,ld2,i+1,L++[(a4K s').1],(a4K s').2,rfl,by omega,C8.keep (bel9 _ (by omega)),?_,fun q hq=>?_,by rw [d7j];exact ow9,(by show _≤g9.length;omega),by simp;omega,?_,q2⟩)
   ·rw [bel9 _ (by omega),hoth _ (by omega) (by omega)];exact hb
   ·rw [bel9 _ (by omega),hoth _ (by omega) (by omega)];exact lo q hq
   ·rw [← q1];simp [-bind_some]
 ·rintro ⟨ex,ds,g'⟩ ⟨rfl,y1,y2,y3,ld,rfl,C,hb,lo,ow,hgl⟩
  simp only at C hb lo ow hgl
  obtain ⟨m,hm,hm2,hm3⟩:=C
  simp only [a0r,a0s,bs,a0g,(a3n hm).2.2.2]
  refine a6W hb fun g2 p2 s2=>?_
  have hob:∀ q,ld.inOb q→q≠h.length+1:=fun q hq hh=>by
   rcases ow with ⟨rfl,_⟩ | ⟨o,h1,rfl,_⟩
   ·exact a6D q hq
   ·obtain ⟨z,n,hx⟩:=hq
    injection hx with _ h2
    omega
  have ow2:Own g2 (h.length+2) a1o 3 ((a3U n c).1.map a1p) ld:=ow.keep fun q hq hx=>s2.2 q (hob q hx)
  simp only [(a3n p2).2.2.2,bs,a1c]
  have sl:=a2g (n0:=h.length) (n:=2) ow2 (by omega) fun a _=>a5p _ g2 _ a
  rw [a1n (d' := .tup [.agg [d,.int .i64 m,.bool (!(a3U n c).2.2)],frz h.length g2 3 ld]) (by simp [-bind_some, a9R hd]) (by
   refine .tup _ fun y hy=>?_
   simp at hy
   rcases hy with rfl | rfl
   ·refine .agg _ fun y hy=>?_
    simp at hy
    rcases hy with rfl | rfl | rfl
    ·exact b2g hd _
    ·constructor
    ·constructor
   ·exact a1K sl fun a _=>b0r _ a) (by rw [s2.1];omega) (fun q hq=>by rw [s2.2 q (by omega)];exact lo q hq)]
  exact .some ⟨rfl,_,_,rfl,⟨m,rfl,hm2,hm3⟩,sl⟩
theorem d3c {B:List Int} {d x:D} {s:Cur} (h:Hp) (hd:SlOf 1 byr B d) (hB:B.length≤1000000000) (hu:∀ z∈B,U8 z) (hx:RdS B d s x):∃ x' ld,R b1q [x] h=some (.tup [x',ld],h)∧RdS B d (a3T (a1D s).1.toNat (a1D s).2).2 x'∧SlOf 2 fld (a3T (a1D s).1.toNat (a1D s).2).1 ld:=by
 suffices Wp (R b1q [x] h) (fun p=>p.2=h∧∃ x' ld,p.1 = .tup [x',ld]∧RdS B d (a3T (a1D s).1.toNat (a1D s).2).2 x'∧SlOf 2 fld (a3T (a1D s).1.toNat (a1D s).2).1 ld) by
  obtain ⟨⟨y,h'⟩,h1,rfl,x',ld,rfl,h2⟩:=this
  exact ⟨x',ld,h1,h2⟩
 have hx0:=hx
 obtain ⟨a,rfl,ha,hs⟩:=hx
 have hus:∀ z∈s.1,U8 z:=fun z hz=>hu z (by rw [← hs] at hz;exact List.mem_of_mem_drop hz)
 have hl0:(a0H h a0l 3 [[d,.int .i64 a,.bool (!s.2)]]).length=h.length+1:=by simp [-bind_some, a0H]
 have M:=M2.new h a0l 3 a0l 3 [d,.int .i64 a,.bool (!s.2)] [.nils,.int .i64 0,.bool false]
 rw [d0y]
 simp only [c5K,a3b a0l 3 h [d,.int .i64 a,.bool (!s.2)] rfl (by omega),bs,d7c,hl0]
 generalize a0H (a0H h a0l 3 [[d,.int .i64 a,.bool (!s.2)]]) a0l 3 [[.nils,.int .i64 0,.bool false]]=g at *
 have l3:=(a3n M.ha).2.2.2
 obtain ⟨x1,e1,r1⟩:=b0B g hd hB hu hx0 4 (by omega)
 obtain ⟨a1,rfl,ha1,hs1⟩:=r1
 have e1:R a2B [.agg [d,.int .i64 a,.bool (!s.2)],.int .i64 4] g=_:=e1
 obtain ⟨n1,n2,n3⟩:=b0q hus
 have hc4:a0G s ((4:Nat):Int)=a0G s 4:=rfl
 rw [hc4] at e1 hs1
 have hc2:(a0G s 4).2=(a1D s).2:=rfl
 rw [hc2] at e1 hs1
 simp only [l3,bs,e1,a0J,d7f,d7g]
 rw [← n1] at n2 n3
 rw [← n1]
 refine a6W M.ha fun g1 p1 s1=>?_
 have M1:=M.sta p1 s1
 have C1:RdC B d g1 h.length (a1D s).2:=⟨a1,p1,ha1,hs1⟩
 generalize (a1D s).2=c at *
 generalize (a1D s).1=N at *
 obtain ⟨n,rfl⟩:=Int.eq_ofNat_of_zero_le n2
 rw [d7l]
 refine Wp.loop (fun k ds g'=>∃ y1 y2 ld,∃ i:Nat,∃ L:List (Str × Str),∃ s':Cur,ds=[ld,.int .u64 i,y1,y2]∧k+i=n∧RdC B d g' h.length s'∧g'[h.length+1]?=some (.row a0l 3 [[.nils,.int .i64 0,.bool false]])∧(∀ q,q<h.length→g'[q]?=h[q]?)∧Own g' (h.length+2) a0x 2 (L.map fld) ld∧h.length+2≤g'.length∧L.length≤i∧L++(a3T k s').1=(a3T n c).1∧(a3T k s').2=(a3T n c).2)
  (fun r=>r.1 = .ext 0∧∃ y1 y2 y3 ld,r.2.1=[ld,y1,y2,y3]∧RdC B d r.2.2 h.length (a3T n c).2∧r.2.2[h.length+1]?=some (.row a0l 3 [[.nils,.int .i64 0,.bool false]])∧(∀ q,q<h.length→r.2.2[q]?=h[q]?)∧Own r.2.2 (h.length+2) a0x 2 ((a3T n c).1.map fld) ld∧h.length+2≤r.2.2.length) n ⟨_,_,.nils,0,[],c,rfl,rfl,C1,M1.hb,M1.lo,Own.nils _ _ _ _,M1.hl,by simp,by simp,rfl⟩ ?_ ?_
 ·rintro k ds g' ⟨y1,y2,ld,i,L,s',rfl,hk,C,hb,lo,ow,hgl,hL,q1,q2⟩
  simp only [b3n,a0g,a0q,bs,d7c,a2T,C.ok]
  have stop:(s'.2=true∨k=0)→a3T k s'=([],s'):=by
   rintro (h0 | h0)
   ·exact b4X k s' h0
   ·rw [h0];rfl
  have fin:(s'.2=true∨k=0)→∀ u v w,Wp (some (Ex.ext 0,[ld,u,v,w],g')) (fun r=>(r.1 = .nrm∧∃ k'<k,∃ y1 y2 ld,∃ i:Nat,∃ L:List (Str × Str),∃ s':Cur,r.2.1=[ld,.int .u64 i,y1,y2]∧k'+i=n∧RdC B d r.2.2 h.length s'∧r.2.2[h.length+1]?=some (.row a0l 3 [[.nils,.int .i64 0,.bool false]])∧(∀ q,q<h.length→r.2.2[q]?=h[q]?)∧Own r.2.2 (h.length+2) a0x 2 (L.map fld) ld∧h.length+2≤r.2.2.length∧L.length≤i∧L++(a3T k' s').1=(a3T n c).1∧(a3T k' s').2=(a3T n c).2)∨(r.1 ≠ .nrm∧(r.1 = .ext 0∧∃ y1 y2 y3 ld,r.2.1=[ld,y1,y2,y3]∧RdC B d r.2.2 h.length (a3T n c).2∧r.2.2[h.length+1]?=some (.row a0l 3 [[.nils,.int .i64 0,.bool false]])∧(∀ q,q<h.length→r.2.2[q]?=h[q]?)∧Own r.2.2 (h.length+2) a0x 2 ((a3T n c).1.map fld) ld∧h.length+2≤r.2.2.length))):=by
   intro h0 u v w
   have h1:=stop h0
   rw [h1] at q1 q2
   simp only [List.append_nil] at q1 q2
   refine .some (.inr ⟨by simp,rfl,_,_,_,ld,rfl,by rw [← q2];exact C,hb,lo,by rw [← q1];exact ow,hgl⟩)
  cases hb2:s'.2 with
  | true =>
   simp only [d7m,a0o,d7d,reduceCtorEq,if_false,bs,a0e,a0d]
   exact fin (.inl hb2) _ _ _
  | false =>
   simp only [d7n,a0o,if_true,bs,a0n,a0e,a0d]
   by_cases hin:i<n
   case neg =>
    have hin':¬ (i:Int)<(n:Int):=by omega
    simp only [hin',decide_false,d7d,if_false]
    exact fin (.inr (by omega)) _ _ _
   have hin':(i:Int)<(n:Int):=by omega
   simp only [hin',decide_true,if_true]
   obtain ⟨k',rfl⟩:∃ k',k=k'+1:=⟨k - 1,by omega⟩
   have hlS:a3T (k'+1) s'=((fdS s').1::(a3T k' (fdS s').2).1,(a3T k' (fdS s').2).2):=by simp [-bind_some, a3T,hb2]
   rw [hlS] at q1 q2
   have hN0:(a0H g' a0x 2 [a8C])[g'.length]?=some (.row a0x 2 [a8C]):=a1a _ _ _ _
   have hNl:(a0H g' a0x 2 [a8C]).length=g'.length+1:=by simp [-bind_some, a0H]
   have hNo:∀ q,q<g'.length→(a0H g' a0x 2 [a8C])[q]?=g'[q]?:=fun q hq=>a0W _ _ _ _ hq
   have hz:([.str [],.str []]:List D)=a8C:=rfl
   have hob:∀ q,ld.inOb q→q<g'.length:=fun q hq=>(d7s.1 (a1V ow hq)).1
   have hCl:=C.lt
   have C2:RdC B d (a0H g' a0x 2 [a8C]) h.length s':=C.keep (hNo _ hCl)
   try simp only [hz]
   generalize a0H g' a0x 2 [a8C]=g2 at *
   refine rdT hd hB hu C2 fun g3 C3 s3=>?_
   have p3:g3[g'.length]?=some (.row a0x 2 [a8C]):=by rw [s3.2 _ (by omega)];exact hN0
   simp only [a6o,b0c]
   refine c2r (kk:=0) (row:=a8C) p3 rfl rfl (by simp [-bind_some, a8C]) rfl fun g4 p4 s4=>?_
   have p4:g4[g'.length]?=some (.row a0x 2 [[.str ((a0S s').1.getD []),.str []]]):=p4
   have C4:RdC B d g4 h.length (a0S s').2:=C3.keep (s4.2 _ (by omega))
   try simp only [bs]
   refine rdT hd hB hu C4 fun g7 C7 s7=>?_
   have p7:g7[g'.length]?=some (.row a0x 2 [[.str ((a0S s').1.getD []),.str []]]):=by rw [s7.2 _ (by omega)];exact p4
   refine c2r (kk:=0) p7 rfl rfl (by simp) rfl fun g8 p8 s8=>?_
   have p8:g8[g'.length]?=some (.row a0x 2 [fld (fdS s').1]):=p8
   have C8:RdC B d g8 h.length (fdS s').2:=C7.keep (s8.2 _ (by omega))
   have ld8:a0b tab g8 a0x (.ptr g'.length 0 0)=some (.agg (fld (fdS s').1)):=by rw [b4A,a0I p8];rfl
   have hbz:a0X tab a1e 1 [0] [.agg (fld (fdS s').1)]=some (.sl 2 true [fld (fdS s').1]):=id rfl
   have hoth:∀ q,q≠h.length→q<g'.length→g8[q]?=g'[q]?:=fun q h1 h2=>by
    rw [s8.2 q (by omega),s7.2 q h1,s4.2 q (by omega),s3.2 q h1,hNo q h2]
   have hl8:g8.length=g'.length+1:=by rw [s8.1,s7.1,s4.1,s3.1,hNl]
   have ow8:Own g8 (h.length+2) a0x 2 (L.map fld) ld:=ow.keep fun q hq hx=>hoth q (by omega) (hob q hx)
   have wi:IntKind.wrap .u64 ((i:Int)+1)=((i+1:Nat):Int):=by rw [a1w (by omega) (by omega)];omega
   simp only [bs,ld8,hbz]
   refine b6k (ys:=[fld (fdS s').1]) (by omega) ow8 (a1d _ _ _ _) (by simp;omega) fun ld2 g9 ow9 a4W bel9 old9 _=>?_
   simp only [bs,a0t,wi]
   refine .some (.inl ⟨rfl,k',by omega,_,_,ld2,i+1,L++[(fdS s').1],(fdS s').2,rfl,by omega,C8.keep (bel9 _ (by omega)),?_,fun q hq=>?_,by rw [d7j];exact ow9,(by show _≤g9.length;omega),by simp;omega,?_,q2⟩)
   ·rw [bel9 _ (by omega),hoth _ (by omega) (by omega)];exact hb
   ·rw [bel9 _ (by omega),hoth _ (by omega) (by omega)];exact lo q hq
   ·rw [← q1];simp [-bind_some]
 ·rintro ⟨ex,ds,g'⟩ ⟨rfl,y1,y2,y3,ld,rfl,C,hb,lo,ow,hgl⟩
  simp only at C hb lo ow hgl
  obtain ⟨m,hm,hm2,hm3⟩:=C
  simp only [a0r,a0s,bs,a0g,(a3n hm).2.2.2]
  refine a6W hb fun g2 p2 s2=>?_
  have hob:∀ q,ld.inOb q→q≠h.length+1:=fun q hq hh=>by
   rcases ow with ⟨rfl,_⟩ | ⟨o,h1,rfl,_⟩
   ·exact a6D q hq
   ·obtain ⟨z,n,hx⟩:=hq
    injection hx with _ h2
    omega
  have ow2:Own g2 (h.length+2) a0x 2 ((a3T n c).1.map fld) ld:=ow.keep fun q hq hx=>s2.2 q (hob q hx)
  simp only [(a3n p2).2.2.2,bs,a1c]
  have sl:=a2g (n0:=h.length) (n:=2) ow2 (by omega) fun a _=>b0j _ g2 _ a
  rw [a1n (d' := .tup [.agg [d,.int .i64 m,.bool (!(a3T n c).2.2)],frz h.length g2 3 ld]) (by simp [-bind_some, a9R hd]) (by
   refine .tup _ fun y hy=>?_
   simp at hy
   rcases hy with rfl | rfl
   ·refine .agg _ fun y hy=>?_
    simp at hy
    rcases hy with rfl | rfl | rfl
    ·exact b2g hd _
    ·constructor
    ·constructor
   ·exact a1K sl fun a _=>b3X _ a) (by rw [s2.1];omega) (fun q hq=>by rw [s2.2 q (by omega)];exact lo q hq)]
  exact .some ⟨rfl,_,_,rfl,⟨m,rfl,hm2,hm3⟩,sl⟩
def rvL (s:Cur):List Lin × Cur:=a3U (a1D (a3V s)).1.toNat (a1D (a3V s)).2
def rvC (s:Cur):Cur:=(a0S (a0S (a0R (a0R (rvL s).2).2).2).2).2
def rvF (s:Cur):List (Str × Str) × Cur:=a3T (a1D (rvC s)).1.toNat (a1D (rvC s)).2
def rvI (s:Cur):RI :=
 { r:=(a0S s).1.getD [],a0:=(a0R (a0S s).2).1,a1:=(a0R (a0R (a0S s).2).2).1,a2:=(a0R (a0R (a0R (a0S s).2).2).2).1,a3:=(a0R (a0R (a0R (a0R (a0S s).2).2).2).2).1,
   ls:=(rvL s).1,a5:=(a0R (rvL s).2).1,a6:=(a0R (a0R (rvL s).2).2).1,t7:=(a0S (a0R (a0R (rvL s).2).2).2).1.getD [],t8:=(a0S (a0S (a0R (a0R (rvL s).2).2).2).2).1.getD [],
   fs:=(rvF s).1 }
def a8U (c:Int) (l:List Int):Int × Int × RI :=
 if l.length<4 then (14,0,⟨[],0,0,0,0,[],0,0,[],[],[]⟩)
 else if num (l.take 4)<4∨(l.length:Int) - 4<num (l.take 4) then (14,0,⟨[],0,0,0,0,[],0,0,[],[],[]⟩)
 else if a2t (l.take (num (l.take 4)).toNat)≠num ((l.drop (num (l.take 4)).toNat).take 4) then (15,0,⟨[],0,0,0,0,[],0,0,[],[],[]⟩)
 else if (rvF ((l.take (num (l.take 4)).toNat).drop 4,false)).2.2=true∨(rvF ((l.take (num (l.take 4)).toNat).drop 4,false)).2.1≠[]∨c≠0 then (1,0,⟨[],0,0,0,0,[],0,0,[],[],[]⟩)
 else (0,num (l.take 4)+4,rvI ((l.take (num (l.take 4)).toNat).drop 4,false))
theorem b5a:∀ (n:Nat) (s:Cur),(a3U n s).1.length≤n
 | 0,s=>Nat.le_refl _
 | n+1,s=>by
  have:=b5a n (a4K s).2
  unfold a3U
  split
  ·simp [-bind_some]
  ·simp only [d7t];omega
theorem b4Y:∀ (n:Nat) (s:Cur),(a3T n s).1.length≤n
 | 0,s=>Nat.le_refl _
 | n+1,s=>by
  have:=b4Y n (fdS s).2
  unfold a3T
  split
  ·simp [-bind_some]
  ·simp only [d7t];omega
structure DcS (h g:Hp) (B:List Int) (d:D) (x:List D) (s:Cur):Prop where
 hr:g[h.length]?=some (.row a0L 11 [itr zit])
 C:RdC B d g (h.length+1) s
 hi:g[h.length+2]?=some (.row a0L 11 [x])
 lo:∀ q,q<h.length→g[q]?=h[q]?
theorem DcS.to {h g g':Hp} {B:List Int} {d:D} {x y:List D} {s s':Cur} (S:DcS h g B d x s) {g1:Hp} (C:RdC B d g1 (h.length+1) s') (s1:Same (h.length+1) g g1) (p:g'[h.length+2]?=some (.row a0L 11 [y])) (s2:Same (h.length+2) g1 g'):DcS h g' B d y s' :=
 ⟨by rw [s2.2 _ (by omega),s1.2 _ (by omega)];exact S.hr,C.keep (s2.2 _ (by omega)),p,fun q hq=>by rw [s2.2 q (by omega),s1.2 q (by omega)];exact S.lo q hq⟩
theorem c8p (x:List D) (off:Nat) (v:D) (ho:off<x.length) (hv:v.one=true):([x].set 0 (spl x off (a0B v)))=[x.set off v]:=by
 rw [a6Y _ _ _ hv ho];rfl
theorem dcI {h g:Hp} {B:List Int} {d:D} {x:List D} {s:Cur} (S:DcS h g B d x s) (hd:SlOf 1 byr B d) (hB:B.length≤1000000000) (hu:∀ z∈B,U8 z) {off:Nat} (ho:off<x.length) {β:Type} {f:Hp→Option β} {Q:β→Prop} (k:∀ g',DcS h g' B d (x.set off (.int .i64 (a0R s).1)) (a0R s).2→Wp (f g') Q) :
  Wp ((a0b tab g a0l (.ptr (h.length+1) 0 0)).bind fun t=>(R a3t [t] g).bind fun p=>(a0i 0 p.1).bind fun a=>(a0i 1 p.1).bind fun b=>(a0h tab p.2 a0l (.ptr (h.length+1) 0 0) a).bind fun g'=>(a0h tab g' ty3 (.ptr (h.length+2) 0 off) b).bind f) Q:=by
 refine rdI hd hB hu S.C fun g1 C1 s1=>?_
 have p1:g1[h.length+2]?=some (.row a0L 11 [x]):=by rw [s1.2 _ (by omega)];exact S.hi
 refine b0H (kk:=0) (row:=x) p1 rfl rfl (by omega) rfl fun g2 p2 s2=>?_
 rw [c8p x off _ ho rfl] at p2
 exact k g2 (S.to C1 s1 p2 s2)
theorem dcT {h g:Hp} {B:List Int} {d:D} {x:List D} {s:Cur} (S:DcS h g B d x s) (hd:SlOf 1 byr B d) (hB:B.length≤1000000000) (hu:∀ z∈B,U8 z) {off:Nat} (ho:off<x.length) {β:Type} {f:Hp→Option β} {Q:β→Prop} (k:∀ g',DcS h g' B d (x.set off (.str ((a0S s).1.getD []))) (a0S s).2→Wp (f g') Q) :
  Wp ((a0b tab g a0l (.ptr (h.length+1) 0 0)).bind fun t=>(R a4S [t] g).bind fun p=>(a0i 0 p.1).bind fun a=>(a0i 1 p.1).bind fun b=>(a0h tab p.2 a0l (.ptr (h.length+1) 0 0) a).bind fun g'=>(a0h tab g' ty9 (.ptr (h.length+2) 0 off) b).bind f) Q:=by
 refine rdT hd hB hu S.C fun g1 C1 s1=>?_
 have p1:g1[h.length+2]?=some (.row a0L 11 [x]):=by rw [s1.2 _ (by omega)];exact S.hi
 refine c2r (kk:=0) (row:=x) p1 rfl rfl (by omega) rfl fun g2 p2 s2=>?_
 rw [c8p x off _ ho rfl] at p2
 exact k g2 (S.to C1 s1 p2 s2)
theorem dcL {h g:Hp} {B:List Int} {d:D} {x:List D} {s:Cur} (S:DcS h g B d x s) (hd:SlOf 1 byr B d) (hB:B.length≤1000000000) (hu:∀ z∈B,U8 z) {off:Nat} (ho:off<x.length) {β:Type} {f:Hp→Option β} {Q:β→Prop} (k:∀ g' ld,SlOf 3 a1p (a3U (a1D s).1.toNat (a1D s).2).1 ld→DcS h g' B d (x.set off ld) (a3U (a1D s).1.toNat (a1D s).2).2→Wp (f g') Q) :
  Wp ((a0b tab g a0l (.ptr (h.length+1) 0 0)).bind fun t=>(R b1p [t] g).bind fun p=>(a0i 0 p.1).bind fun a=>(a0i 1 p.1).bind fun b=>(a0h tab p.2 a0l (.ptr (h.length+1) 0 0) a).bind fun g'=>(a0h tab g' a1i (.ptr (h.length+2) 0 off) b).bind f) Q:=by
 obtain ⟨y,l,r⟩:=S.C.all
 obtain ⟨x',ld,e,r',sl⟩:=d3a g hd hB hu r
 simp only [l,bs,e,a0J,d7f,d7g]
 refine S.C.st r' fun g1 C1 s1=>?_
 have p1:g1[h.length+2]?=some (.row a0L 11 [x]):=by rw [s1.2 _ (by omega)];exact S.hi
 have o1:=a1v sl
 refine b1Z (kk:=0) (row:=x) p1 rfl (by rw [(a0z o1).1];rfl) (by omega) (a0z o1).2 fun g2 p2 s2=>?_
 rw [c8p x off _ ho o1] at p2
 exact k g2 ld sl (S.to C1 s1 p2 s2)
theorem dcF {h g:Hp} {B:List Int} {d:D} {x:List D} {s:Cur} (S:DcS h g B d x s) (hd:SlOf 1 byr B d) (hB:B.length≤1000000000) (hu:∀ z∈B,U8 z) {off:Nat} (ho:off<x.length) {β:Type} {f:Hp→Option β} {Q:β→Prop} (k:∀ g' ld,SlOf 2 fld (a3T (a1D s).1.toNat (a1D s).2).1 ld→DcS h g' B d (x.set off ld) (a3T (a1D s).1.toNat (a1D s).2).2→Wp (f g') Q) :
  Wp ((a0b tab g a0l (.ptr (h.length+1) 0 0)).bind fun t=>(R b1q [t] g).bind fun p=>(a0i 0 p.1).bind fun a=>(a0i 1 p.1).bind fun b=>(a0h tab p.2 a0l (.ptr (h.length+1) 0 0) a).bind fun g'=>(a0h tab g' a1e (.ptr (h.length+2) 0 off) b).bind f) Q:=by
 obtain ⟨y,l,r⟩:=S.C.all
 obtain ⟨x',ld,e,r',sl⟩:=d3c g hd hB hu r
 simp only [l,bs,e,a0J,d7f,d7g]
 refine S.C.st r' fun g1 C1 s1=>?_
 have p1:g1[h.length+2]?=some (.row a0L 11 [x]):=by rw [s1.2 _ (by omega)];exact S.hi
 have o1:=a1v sl
 refine c1l (kk:=0) (row:=x) p1 rfl (by rw [(a0z o1).1];rfl) (by omega) (a0z o1).2 fun g2 p2 s2=>?_
 rw [c8p x off _ ho o1] at p2
 exact k g2 ld sl (S.to C1 s1 p2 s2)
theorem d2X (l:List Int) (d:D) (c:Int) (h:Hp) (hd:SlOf 1 byr l d) (hl:l.length≤1000000000) (hu:∀ z∈l,U8 z)
  (hck:∀ j:It,a1m j=rvI ((l.take (num (l.take 4)).toNat).drop 4,false)→∀ g,R a6w [.agg (itr j)] g=some (.int .i64 c,g)) :
  ∃ j:It,R b1n [d] h=some (.tup [.agg (itr j),.int .i64 (a8U c l).2.1,.int .i64 (a8U c l).1],h)∧a1m j=(a8U c l).2.2:=by
 suffices Wp (R b1n [d] h) (fun p=>p.2=h∧∃ j:It,p.1 = .tup [.agg (itr j),.int .i64 (a8U c l).2.1,.int .i64 (a8U c l).1]∧a1m j=(a8U c l).2.2) by
  obtain ⟨⟨x,h'⟩,h1,rfl,j,rfl,h2⟩:=this
  exact ⟨j,h1,h2⟩
 have hz74:([.str [],.int .i64 0,.int .i64 0,.int .i64 0,.int .i64 0,.nils,.int .i64 0,.int .i64 0,.str [],.str [],.nils]:List D)=itr zit:=rfl
 have hbz:a0M tab a0L [] []=some (.agg (itr zit)):=id rfl
 -- the result's variable is stored to and read
 have out:∀ (g:Hp) (j:It) (a b:Int),g[h.length]?=some (.row a0L 11 [itr zit])→(∀ q,q<h.length→g[q]?=h[q]?)→(a,b,a1m j)=((a8U c l).2.1,(a8U c l).1,(a8U c l).2.2) →
   Wp ((a0h tab g a0L (.ptr h.length 0 0) (.agg (itr j))).bind fun h'=>(a0b tab h' a0L (.ptr h.length 0 0)).bind fun d=>scope h h' (a0k [d,.int .i64 a,.int .i64 b])) (fun p=>p.2=h∧∃ j:It,p.1 = .tup [.agg (itr j),.int .i64 (a8U c l).2.1,.int .i64 (a8U c l).1]∧a1m j=(a8U c l).2.2):=by
  intro g j a b hg hgb he
  injection he with he1 he2
  injection he2 with he2 he3
  have hgl:=(d7s.1 hg).1
  refine b2a (kk:=0) (off:=0) (row:=itr zit) hg rfl rfl (Nat.le_refl _) (b2w j) fun g' h' s'=>?_
  have h':g'[h.length]?=some (.row a0L 11 [itr j]):=by
   rw [h']
   have hs:spl (itr zit) 0 (a0B (.agg (itr j)))=itr j:=by
    have h11:(itr j).length=11:=rfl
    have h12:(itr zit).length=11:=rfl
    simp [-bind_some, spl,a0B,h11,h12]
   rw [hs];rfl
  have ld:a0b tab g' a0L (.ptr h.length 0 0)=some (.agg (itr j)):=by rw [a8g,a0I h'];rfl
  rw [ld]
  simp only [bs,a6T]
  rw [b6R (by rw [s'.1];omega) (fun q hq=>by rw [s'.2 q (by omega)];exact hgb q hq)]
  exact .some ⟨rfl,j,by rw [he1,he2],he3⟩
 rw [d0q]
 simp only [c5C,hz74,bs,d7c,hbz,a8P d true (a1v hd)]
 have hp2:(a0H h a0L 11 [itr zit])[h.length]?=some (.row a0L 11 [itr zit]):=a1a _ _ _ _
 have hq2:∀ q,q<h.length→(a0H h a0L 11 [itr zit])[q]?=h[q]?:=fun q hq=>a0W _ _ _ _ hq
 have hl2:(a0H h a0L 11 [itr zit]).length=h.length+1:=by simp [-bind_some, a0H]
 generalize a0H h a0L 11 [itr zit]=g1 at *
 obtain ⟨x1,e1,r1⟩:=b0B (s:=(l,false)) g1 hd hl hu ⟨0,rfl,by omega,rfl⟩ 4 (by omega)
 obtain ⟨a1,rfl,ha1,hs1⟩:=r1
 have hc4:a0G (l,false) ((4:Nat):Int)=a0G (l,false) 4:=rfl
 rw [hc4] at e1 hs1
 have e1:R a2B [.agg [d,.int .i64 0,.bool true],.int .i64 4] g1=_:=e1
 simp only [e1,bs,a0J,d7f,d7g,hl2]
 have hn0:(a0H g1 a0l 3 [[.nils,.int .i64 0,.bool false]])[h.length+1]?=some (.row a0l 3 [[.nils,.int .i64 0,.bool false]]):=by rw [← hl2];exact a1a _ _ _ _
 have hno:∀ q,q<g1.length→(a0H g1 a0l 3 [[.nils,.int .i64 0,.bool false]])[q]?=g1[q]?:=fun q hq=>a0W _ _ _ _ hq
 have hnl:(a0H g1 a0l 3 [[.nils,.int .i64 0,.bool false]]).length=h.length+2:=by simp [-bind_some, a0H,hl2]
 generalize a0H g1 a0l 3 [[.nils,.int .i64 0,.bool false]]=g2 at *
 refine a6W hn0 fun g3 p3 s3=>?_
 have hr3:g3[h.length]?=some (.row a0L 11 [itr zit]):=by rw [s3.2 _ (by omega),hno _ (by omega)];exact hp2
 have hq3:∀ q,q<h.length→g3[q]?=h[q]?:=fun q hq=>by rw [s3.2 _ (by omega),hno _ (by omega)];exact hq2 q hq
 have hl3:g3.length=h.length+2:=by rw [s3.1,hnl]
 obtain ⟨-, -,k2, -⟩:=a3n p3
 simp only [a2T,k2,a1C,bs,Bool.not_not]
 by_cases h0:l.length<4
 ·have ht:a0G (l,false) 4=([],(l,true)):=by unfold a0G;rw [if_pos (.inr (.inr (by show (l.length:Int)<4;omega)))]
  have hz:a8U c l=(14,0,⟨[],0,0,0,0,[],0,0,[],[],[]⟩):=by unfold a8U;rw [if_pos h0]
  simp only [ht,a0o,reduceCtorEq,d7e,if_false,if_true,bs,a0e,a0d]
  exact out g3 zit 0 14 hr3 hq3 (by rw [hz,a3Q])
 have ht:a0G (l,false) 4=(l.take 4,(l.drop 4,false)):=by
  unfold a0G
  rw [if_neg (by show ¬ (false=true∨(4:Int)<0∨(l.length:Int)<4);simp [-bind_some];omega)]
  rfl
 rw [ht] at hs1 p3
 have hl4:(l.take 4).length=4:=by simp;omega
 have hu4:∀ z∈l.take 4,U8 z:=fun z hz=>hu z (List.mem_of_mem_take hz)
 obtain ⟨n0,n1⟩:=a2n 4 _ hl4 hu4
 rw [a6E] at n1
 simp only [ht,a0o,d7d,if_true,if_false,bs,a0n,a0e]
 obtain ⟨v,hv⟩:∃ v,v=a8U c l:=⟨_,rfl⟩
 have hdec:=hv
 unfold a8U at hdec
 generalize hN:num (l.take 4)=N at *
 obtain ⟨n,rfl⟩:=Int.eq_ofNat_of_zero_le n0
 simp only [d7l] at hck hdec
 have w6:IntKind.wrap .i64 ((l.length:Int) - 4)=(l.length:Int) - 4:=wrap_i64 (by omega) (by omega)
 have w6u:IntKind.wrap .u64 ((l.length:Int) - 4)=(l.length:Int) - 4:=a1w (by omega) (by omega)
 have w5:IntKind.wrap .i64 (n:Int)=(n:Int):=wrap_i64 (by omega) (by omega)
 by_cases hbad:(n:Int)<4∨(l.length:Int) - 4<(n:Int)
 ·have hz:a8U c l=(14,0,⟨[],0,0,0,0,[],0,0,[],[],[]⟩):=by unfold a8U;rw [if_neg h0,hN,if_pos hbad]
  by_cases c1:(n:Int)<4
  ·simp only [c1,decide_true,a0o,reduceCtorEq,d7e,if_false,bs,a0e,if_true,a0d]
   exact out g3 zit 0 14 hr3 hq3 (by rw [hz,a3Q])
  ·have c2:(n:Int)>(l.length:Int) - 4:=by omega
   simp only [c1,decide_false,a0o,if_true,bs,a1Z hd,a0D,w6,a2b,w6u,a0u,c2,decide_true,reduceCtorEq,d7e,d7d,if_false,a0e,a0d]
   exact out g3 zit 0 14 hr3 hq3 (by rw [hz,a3Q])
 have c1:¬ (n:Int)<4:=by omega
 have c2:¬ (n:Int)>(l.length:Int) - 4:=by omega
 simp only [c1,decide_false,a0o,if_true,bs,a1Z hd,a0D,w6,a2b,w6u,a0u,c2,reduceCtorEq,d7e,d7d,if_false,a0e,a0d,a3w,w5,a4N d (n:Int) true (a1v hd)]
 obtain ⟨x5,e5,r5⟩:=b0B (s:=(l.drop n,false)) g3 hd hl hu ⟨n,rfl,by omega,rfl⟩ 4 (by omega)
 have e5:R a2B [.agg [d,.int .i64 n,.bool true],.int .i64 4] g3=_:=e5
 obtain ⟨a5,rfl, -, -⟩:=r5
 have ht5:a0G (l.drop n,false) ((4:Nat):Int)=((l.drop n).take 4,((l.drop n).drop 4,false)):=by
  unfold a0G
  rw [if_neg (by show ¬ (false=true∨(4:Int)<0∨((l.drop n).length:Int)<4);simp [-bind_some];omega)]
  rfl
 rw [ht5] at e5
 obtain ⟨dn,en,sn⟩:=a8M hd (k := .i64) (n:=(n:Int)) (by omega) (by omega)
 rw [d7l] at sn
 have hun:∀ z∈l.take n,U8 z:=fun z hz=>hu z (List.mem_of_mem_take hz)
 have hln:(l.take n).length=n:=by simp;omega
 have e29:=c0X (l.take n) dn g3 (.inl sn) (by omega) hun
 simp only [e5,bs,a0J,d7f,d7g,a1T 3 [d,.int .i64 a5,.bool (!false)] rfl,en,e29,a0w,ne_eq,a0d]
 rw [if_neg h0,if_neg hbad] at hdec
 by_cases c3:a2t (l.take n)=num ((l.drop n).take 4)
 case neg =>
  have c3':¬ num ((l.drop n).take 4)=a2t (l.take n):=fun hh=>c3 hh.symm
  rw [if_pos c3] at hdec
  simp only [c3',not_false_eq_true,decide_true,if_true]
  exact out g3 zit 0 15 hr3 hq3 (by rw [← hv,hdec,a3Q])
 rw [if_neg (fun hh=>hh c3)] at hdec
 simp only [c3.symm,not_true,decide_false,d7d,if_false,a6r]
 have p3:g3[h.length+1]?=some (.row a0l 3 [[d,.int .i64 a1,.bool (!false)]]):=p3
 have o1:=a1v sn
 refine c1k (kk:=0) (row:=[d,.int .i64 a1,.bool (!false)]) p3 rfl (by rw [(a0z o1).1];rfl) (by simp) (a0z o1).2 fun g4 p4 s4=>?_
 rw [c8p _ _ _ (by simp) o1] at p4
 have p4:g4[h.length+1]?=some (.row a0l 3 [[dn,.int .i64 a1,.bool (!false)]]):=p4
 have ha4:a1=4:=by
  have h1:l.drop a1=l.drop 4:=hs1
  have h2:=congrArg List.length h1
  simp at h2
  omega
 have hl4':g4.length=h.length+2:=by rw [s4.1,hl3]
 simp only [bs,hl4']
 have S0:DcS h (a0H g4 a0L 11 [itr zit]) (l.take n) dn (itc [] 0 0 0 0 .nils 0 0 [] [] .nils) ((l.take n).drop 4,false) :=
  ⟨by rw [a0W _ _ _ _ (by omega),s4.2 _ (by omega)];exact hr3,⟨a1,by rw [a0W _ _ _ _ (by omega)];exact p4,by omega,by rw [ha4]⟩,by rw [← hl4'];exact a1a _ _ _ _,fun q hq=>by rw [a0W _ _ _ _ (by omega),s4.2 q (by omega)];exact hq3 q hq⟩
 generalize a0H g4 a0L 11 [itr zit]=g5 at *
 have hB:(l.take n).length≤1000000000:=by omega
 generalize hs0:((l.take n).drop 4,false)=s0 at *
 have s0f:∀ z∈s0.1,U8 z:=fun z hz=>by
  rw [← hs0] at hz
  exact hun z (List.mem_of_mem_drop hz)
 simp only [b0h,a3H,b0d,a7T,a4m,a3R,a3p,b0e,b0f,b0g,b2o,a5O]
 refine dcT S0 sn hB hun (by simp [-bind_some, itc]) fun g6 S1=>?_
 refine dcI S1 sn hB hun (by simp [-bind_some, itc]) fun g6 S2=>?_
 refine dcI S2 sn hB hun (by simp [-bind_some, itc]) fun g6 S3=>?_
 refine dcI S3 sn hB hun (by simp [-bind_some, itc]) fun g6 S4=>?_
 refine dcI S4 sn hB hun (by simp [-bind_some, itc]) fun g6 S5=>?_
 refine dcL S5 sn hB hun (by simp [-bind_some, itc]) fun g6 ld sl S6=>?_
 refine dcI S6 sn hB hun (by simp [-bind_some, itc]) fun g6 S7=>?_
 refine dcI S7 sn hB hun (by simp [-bind_some, itc]) fun g6 S8=>?_
 refine dcT S8 sn hB hun (by simp [-bind_some, itc]) fun g6 S9=>?_
 refine dcT S9 sn hB hun (by simp [-bind_some, itc]) fun g6 S10=>?_
 refine dcF S10 sn hB hun (by simp [-bind_some, itc]) fun g6 fd sf S11=>?_
 have S:DcS h g6 (l.take n) dn ((rvI s0).row ld fd) (rvF s0).2:=S11
 have sl:SlOf 3 a1p (rvI s0).ls ld:=sl
 have sf:SlOf 2 fld (rvI s0).fs fd:=sf
 have lnb:∀ s:Cur,(a1D s).1.toNat≤9223372036854775807:=fun s=>by
  have:(a1D s).1≤9223372036854775807:=by
   show IntKind.i64.wrap _≤_
   rw [IntKind.wrap_i64];omega
  omega
 obtain ⟨j,hj⟩:∃ j,j=c3I (rvI s0) ld fd sl sf (Nat.le_trans (b5a _ _) (lnb _)) (Nat.le_trans (b4Y _ _) (lnb _)):=⟨_,rfl⟩
 have hji:itr j=(rvI s0).row ld fd:=by rw [hj];rfl
 have hjr:a1m j=rvI s0:=by rw [hj];rfl
 rw [← hji] at S
 have hc:=hck j hjr
 have ldj:a0b tab g6 a0L (.ptr (h.length+2) 0 0)=some (.agg (itr j)):=by rw [a8g,a0I S.hi];rfl
 obtain ⟨m,hm,hm2,hm3⟩:=S.C
 obtain ⟨-,m1,m2, -⟩:=a3n hm
 have hmn:(m:Int)=(n:Int)↔(rvF s0).2.1=[]:=by
  rw [← hm3,List.drop_eq_nil_iff]
  omega
 have w7:IntKind.wrap .i64 ((n:Int)+4)=(n:Int)+4:=wrap_i64 (by omega) (by omega)
 simp only [a3F,a2T,m1,m2,a1C,bs,Bool.not_not,d7c]
 by_cases b1:(rvF s0).2.2=true
 ·rw [if_pos (.inl b1)] at hdec
  simp only [b1,a0o,reduceCtorEq,d7e,if_false,if_true,bs,a0e,a1g,a0d]
  exact out g6 zit 0 1 S.hr S.lo (by rw [← hv,hdec,a3Q])
 have b1:(rvF s0).2.2=false:=by simpa using b1
 simp only [b1,a0o,if_true,m1,a0w,ne_eq,hmn,bs,a0e,d7d,if_false]
 by_cases b2:(rvF s0).2.1=[]
 case neg =>
  rw [if_pos (.inr (.inl b2))] at hdec
  simp only [b2,not_false_eq_true,decide_true,a0o,reduceCtorEq,d7e,if_false,if_true,bs,a0e,a1g,a0d]
  exact out g6 zit 0 1 S.hr S.lo (by rw [← hv,hdec,a3Q])
 simp only [b2,not_true,decide_false,a0o,a1g,ldj,hc,if_true,bs,a0w,ne_eq,a0e,d7d,if_false,a0d]
 by_cases b3:c=0
 case neg =>
  rw [if_pos (.inr (.inr b3))] at hdec
  simp only [b3,not_false_eq_true,decide_true,if_true]
  exact out g6 zit 0 1 S.hr S.lo (by rw [← hv,hdec,a3Q])
 rw [if_neg (by simp [-bind_some, b1,b2,b3])] at hdec
 have b3':decide (¬ c=0)=false:=by simp [-bind_some, b3]
 simp only [b3',d7d,if_false,bs,a0t,w7]
 exact out g6 j ((n:Int)+4) 0 S.hr S.lo (by rw [← hv,hdec,hjr])
theorem a7H {s:Cur} {n:Int} (h:(a0G s n).2.2=false):s.2=false∧0≤n∧((a0G s n).2.1.length:Int)+n=s.1.length:=by
 unfold a0G at h ⊢
 split
 ·rename_i hh;rw [if_pos hh] at h;cases h
 ·rename_i hh
  have h1:¬ s.2=true:=fun x=>hh (.inl x)
  have h2:¬ n<0:=fun x=>hh (.inr (.inl x))
  have h3:¬ (s.1.length:Int)<n:=fun x=>hh (.inr (.inr x))
  refine ⟨by simpa using h1,by omega,?_⟩
  simp only [d7v]
  omega
theorem a2V {s:Cur} (h:(a0R s).2.2=false):s.2=false∧(a0R s).2.1.length+8=s.1.length:=by
 obtain ⟨a,b,c⟩:=a7H (s:=s) (n:=8) h
 exact ⟨a,by
  have:((a0R s).2.1.length:Int)+8=s.1.length:=c
  omega⟩
theorem a8j {s:Cur} (h:(a1D s).2.2=false):s.2=false∧(a1D s).2.1.length+4=s.1.length:=by
 obtain ⟨a,b,c⟩:=a7H (s:=s) (n:=4) h
 exact ⟨a,by
  have:((a1D s).2.1.length:Int)+4=s.1.length:=c
  omega⟩
theorem a8x (s:Cur):(a0S s).2=(a0G (a1D s).2 (a1D s).1).2:=by unfold a0S;split <;> rfl
theorem a4y {s:Cur} (h:(a0S s).2.2=false):s.2=false∧(a0S s).2.1.length+4≤s.1.length:=by
 rw [a8x] at h ⊢
 obtain ⟨a,b,c⟩:=a7H h
 obtain ⟨d,e⟩:=a8j a
 exact ⟨d,by omega⟩
theorem b7X {s:Cur} (h:(a4K s).2.2=false):s.2=false∧(a4K s).2.1.length+8≤s.1.length:=by
 have h:(a0S (a0R (a0R s).2).2).2.2=false:=h
 obtain ⟨a,b⟩:=a4y h
 obtain ⟨c,d⟩:=a2V a
 obtain ⟨e,f⟩:=a2V c
 exact ⟨e,by show (a0S (a0R (a0R s).2).2).2.1.length+8≤_;omega⟩
theorem c1A {s:Cur} (h:(fdS s).2.2=false):s.2=false∧(fdS s).2.1.length+8≤s.1.length:=by
 have h:(a0S (a0S s).2).2.2=false:=h
 obtain ⟨a,b⟩:=a4y h
 obtain ⟨c,d⟩:=a4y a
 exact ⟨c,by show (a0S (a0S s).2).2.1.length+8≤_;omega⟩
theorem b8O:∀ (n:Nat) (s:Cur),(a3U n s).2.2=false→s.2=false∧8*n+(a3U n s).2.1.length≤s.1.length∧a3U n s=a4s n s
 | 0,s,h=>⟨h,by simp [-bind_some, a3U],rfl⟩
 | n+1,s,h=>by
  by_cases hs:s.2=true
  ·rw [b4Z _ _ hs] at h
   rw [hs] at h;cases h
  ·unfold a3U at h ⊢
   rw [if_neg hs] at h ⊢
   obtain ⟨a,b,c⟩:=b8O n (a4K s).2 h
   obtain ⟨d,e⟩:=b7X a
   refine ⟨d,?_,?_⟩
   ·show 8*(n+1)+(a3U n (a4K s).2).2.1.length≤_
    omega
   ·rw [c];rfl
theorem b8e:∀ (n:Nat) (s:Cur),(a4s n s).2.2=false→s.2=false∧a3U n s=a4s n s
 | 0,s,h=>⟨h,rfl⟩
 | n+1,s,h=>by
  obtain ⟨a,c⟩:=b8e n (a4K s).2 h
  obtain ⟨d,e⟩:=b7X a
  refine ⟨d,?_⟩
  unfold a3U
  rw [if_neg (by simp [-bind_some, d]),c];rfl
theorem b2S:∀ (n:Nat) (s:Cur),(a3T n s).2.2=false→s.2=false∧8*n+(a3T n s).2.1.length≤s.1.length∧a3T n s=a4J n s
 | 0,s,h=>⟨h,by simp [-bind_some, a3T],rfl⟩
 | n+1,s,h=>by
  by_cases hs:s.2=true
  ·rw [b4X _ _ hs] at h
   rw [hs] at h;cases h
  ·unfold a3T at h ⊢
   rw [if_neg hs] at h ⊢
   obtain ⟨a,b,c⟩:=b2S n (fdS s).2 h
   obtain ⟨d,e⟩:=c1A a
   refine ⟨d,?_,?_⟩
   ·show 8*(n+1)+(a3T n (fdS s).2).2.1.length≤_
    omega
   ·rw [c];rfl
theorem b2p:∀ (n:Nat) (s:Cur),(a4J n s).2.2=false→s.2=false∧a3T n s=a4J n s
 | 0,s,h=>⟨h,rfl⟩
 | n+1,s,h=>by
  obtain ⟨a,c⟩:=b2p n (fdS s).2 h
  obtain ⟨d,e⟩:=c1A a
  refine ⟨d,?_⟩
  unfold a3T
  rw [if_neg (by simp [-bind_some, d]),c];rfl
theorem b0U {s:Cur} (h:(a1D s).2.2=false) (hn:8*(a1D s).1.toNat≤(a1D s).2.1.length):a0U s=a1D s:=by
 unfold a0U
 rw [if_neg]
 rintro (hh | hh)
 ·rw [h] at hh;cases hh
 ·rw [Int.tdiv_eq_ediv_of_nonneg (by omega)] at hh
  omega
theorem a6h {s:Cur} (h:(a0U s).2.2=false):a0U s=a1D s:=by
 unfold a0U at h ⊢
 split
 ·rename_i hh;rw [if_pos hh] at h;cases h
 ·rfl
theorem c7S {s:Cur}:((rvL s).2.2=false∨(a7a s).2=false)→rvL s=a4s (a0U (a3V s)).1.toNat (a0U (a3V s)).2:=by
 rintro (h | h)
 ·obtain ⟨a,b,c⟩:=b8O _ _ h
  have hc:=b0U a (by omega)
  rw [hc];exact c
 ·obtain ⟨a,c⟩:=b8e _ _ h
  have hc:=a6h a
  rw [hc] at c ⊢
  exact c
theorem c7Q {s:Cur} (h:(rvC s).2=false):(rvL s).2.2=false:=by
 have h:(a0S (a0S (a0R (a0R (rvL s).2).2).2).2).2.2=false:=h
 exact (a2V (a2V (a4y (a4y h).1).1).1).1
theorem c4w {s:Cur} (h:(a5X s).2=false):(a7a s).2=false:=by
 have h:(a0S (a0S (a0R (a0R (a7a s)).2).2).2).2.2=false:=h
 exact (a2V (a2V (a4y (a4y h).1).1).1).1
theorem c7T {s:Cur} (h:(rvF s).2.2=false∨(a6H s).2=false):(rvF s).2=a6H s∧rvI s=a1X s:=by
 have hL:rvL s=a4s (a0U (a3V s)).1.toNat (a0U (a3V s)).2:=by
  apply c7S
  rcases h with h | h
  ·exact .inl (c7Q (a8j (b2S _ _ h).1).1)
  ·have h1:=(b2p _ _ h).1
   have h2:=a6h h1
   rw [h2] at h1
   exact .inr (c4w (a8j h1).1)
 have hB:(rvL s).2=a7a s:=by rw [hL];rfl
 have hC:rvC s=a5X s:=by unfold rvC a5X;rw [hB]
 have hF:rvF s=a4J (a0U (a5X s)).1.toNat (a0U (a5X s)).2:=by
  unfold rvF at h ⊢
  rw [hC] at h ⊢
  rcases h with h | h
  ·obtain ⟨a,b,c⟩:=b2S _ _ h
   have hc:=b0U a (by omega)
   rw [hc];exact c
  ·obtain ⟨a,c⟩:=b2p _ _ h
   have hc:=a6h a
   rw [hc] at c ⊢
   exact c
 refine ⟨by rw [hF];rfl,?_⟩
 unfold rvI a1X
 rw [hB,hF,hL]
theorem c0a (c c':Int) (l:List Int) (hc:rvI ((l.take (num (l.take 4)).toNat).drop 4,false)=a1X ((l.take (num (l.take 4)).toNat).drop 4,false)→c=c'):a8U c l=a5N c' l:=by
 unfold a8U a5N
 generalize hs:((l.take (num (l.take 4)).toNat).drop 4,false)=s at hc ⊢
 by_cases h0:l.length<4
 ·rw [if_pos h0,if_pos h0]
 rw [if_neg h0,if_neg h0]
 by_cases h1:num (l.take 4)<4∨(l.length:Int) - 4<num (l.take 4)
 ·rw [if_pos h1,if_pos h1]
 rw [if_neg h1,if_neg h1]
 by_cases h2:a2t (l.take (num (l.take 4)).toNat)≠num ((l.drop (num (l.take 4)).toNat).take 4)
 ·rw [if_pos h2,if_pos h2]
 rw [if_neg h2,if_neg h2]
 by_cases hg:(rvF s).2.2=false∨(a6H s).2=false
 ·obtain ⟨a,b⟩:=c7T hg
  have:=hc b
  subst this
  rw [a,b]
  have e:(a6H s).1≠[]↔0<(a6H s).1.length:=by
   rw [List.length_pos_iff]
  simp only [e]
  split
  ·rfl
  ·rw [Int.add_comm]
 ·have g1:(rvF s).2.2=true:=by
    cases hh:(rvF s).2.2
    ·exact absurd (.inl hh) hg
    ·rfl
  have g2:(a6H s).2=true:=by
   cases hh:(a6H s).2
   ·exact absurd (.inr hh) hg
   ·rfl
  rw [if_pos (.inl g1),if_pos (.inl g2)]
theorem c7u {h:Hp} {o:Nat} (hc:CM h o):∃ v h',R a5z [.ptr o 0 0] h=some (.int .i64 v,h')∧CM h' o∧Same o h h':=by
 suffices Wp (R a5z [.ptr o 0 0] h) (fun p=>∃ v,p.1 = .int .i64 v∧CM p.2 o∧Same o h p.2) by
  obtain ⟨⟨x,h'⟩,h1,v,rfl,h2⟩:=this
  exact ⟨v,h',h1,h2⟩
 have hsl:SlOf 1 inr lt82_41 (.sl 1 true (lt82_41.map fun n=>[.int .i64 n])) := .mk _ _ _ _
 rw [d4e]
 simp only [d3I,bs,d7c,b5F]
 obtain ⟨v,h1,e1,c1,s1,v0,v1⟩:=m39 hc 4 (by omega) (by omega)
 simp only [e1,bs,a0Q]
 refine Wp.dif ?_ ?_
 ·intro _
  obtain ⟨w,h2,e2,c2,s2,w0,w1⟩:=m39 c1 12 (by omega) (by omega)
  obtain ⟨z,hz⟩:∃ z,lt82_41[w.toNat]?=some z:=⟨_,d7r (by rw [b2G];omega)⟩
  have hln:a0y tab a3M (.sl 1 true (lt82_41.map fun n=>[.int .i64 n]))=some (.int .i64 12):=c7p hsl
  have hix:a0c tab a3M (.sl 1 true (lt82_41.map fun n=>[.int .i64 n])) (.int .i64 w)=some (.fptr [.int .i64 z]):=by
   rw [d1U hsl,if_pos w0,hz];rfl
  simp only [bs,hln,e2,hix,ld3,a0j]
  exact .some ⟨z,rfl,c2,s1.trans s2⟩
 ·intro _
  obtain ⟨w,h2,e2,c2,s2,w0,w1⟩:=m39 c1 60 (by omega) (by omega)
  simp only [bs,e2,a0D,a0j]
  exact .some ⟨_,rfl,c2,s1.trans s2⟩
structure RB (n m:Nat) (x:RI):Prop where
 r:x.r.length≤1000
 t7:x.t7.length≤1000
 t8:x.t8.length≤1000
 fs:x.fs.length≤n
 ls:x.ls.length≤m
 lt:∀ l∈x.ls,l.txt.length≤1000
 ft:∀ p∈x.fs,p.1.length≤1000∧p.2.length≤1000
theorem RB.le {n m n' m':Nat} {x:RI} (h:RB n m x) (h1:n≤n') (h2:m≤m'):RB n' m' x:=⟨h.r,h.t7,h.t8,Nat.le_trans h.fs h1,Nat.le_trans h.ls h2,h.lt,h.ft⟩
def evx (x:RI) (ld fd:D):List D:=[.int .i64 x.a0,.int .i64 x.a1,.int .i64 x.a2,.int .i64 x.a3,ld,.int .i64 x.a5,.int .i64 x.a6,.str x.t7,.str x.t8,fd]
structure Sp (h:Hp) (o:Nat) (g:Hp) (n m:Nat) (x:RI) (ld fd:D):Prop where
 s:Sm h o g
 hl:h.length+3≤g.length
 b1:∃ e:Ev,g[h.length]?=some (.row a0L 11 [.str x.r::evr e])
 b2:g[h.length+1]?=some (.row a0L 11 [itr zit])
 b3:g[h.length+2]?=some (.row a0E 10 [evx x ld fd])
 ol:Own g (h.length+3) a1o 3 (x.ls.map a1p) ld
 ow:Own g (h.length+3) a0x 2 (x.fs.map fld) fd
 ne:∀ q,ld.inOb q→fd.inOb q→False
 B:RB n m x
theorem Sp.draw {h g g':Hp} {o n m:Nat} {x:RI} {ld fd:D} (S:Sp h o g n m x ld fd) (c:CM g' o) (s:Same o g g'):Sp h o g' n m x ld fd:=by
 have ho:=S.s.lt
 obtain ⟨e,he⟩:=S.b1
 exact ⟨S.s.next c s,by rw [s.1];exact S.hl,⟨e,by rw [s.2 _ (by omega)];exact he⟩,by rw [s.2 _ (by omega)];exact S.b2,by rw [s.2 _ (by omega)];exact S.b3,S.ol.keep fun q hq _=>s.2 q (by omega),S.ow.keep fun q hq _=>s.2 q (by omega),S.ne,S.B⟩
theorem Sp.upd {h g g':Hp} {o n m n' m':Nat} {x x':RI} {ld fd:D} (S:Sp h o g n m x ld fd) (s:Same (h.length+2) g g') (p:g'[h.length+2]?=some (.row a0E 10 [evx x' ld fd])) (hr:x'.r=x.r) (hls:x'.ls=x.ls) (hfs:x'.fs=x.fs) (B:RB n' m' x'):Sp h o g' n' m' x' ld fd:=by
 have ho:=S.s.lt
 obtain ⟨e,he⟩:=S.b1
 exact ⟨S.s.app (by rw [s.1];exact Nat.le_refl _) fun q hq=>s.2 q (by omega),by rw [s.1];exact S.hl,⟨e,by rw [s.2 _ (by omega),hr];exact he⟩,by rw [s.2 _ (by omega)];exact S.b2,p,by rw [hls];exact S.ol.keep fun q hq _=>s.2 q (by omega),by rw [hfs];exact S.ow.keep fun q hq _=>s.2 q (by omega),S.ne,B⟩
theorem Sp.wk {h g:Hp} {o n m n' m':Nat} {x:RI} {ld fd:D} (q:Sp h o g n m x ld fd) (h1:n≤n') (h2:m≤m'):Sp h o g n' m' x ld fd:=⟨q.s,q.hl,q.b1,q.b2,q.b3,q.ol,q.ow,q.ne,q.B.le h1 h2⟩
theorem Sp.re {h g g':Hp} {o n m n' m':Nat} {x x':RI} {ld fd ld' fd':D} (S:Sp h o g n m x ld fd) (hlen:g.length≤g'.length) (low:∀ q,q<h.length+2→g'[q]?=g[q]?) (p:g'[h.length+2]?=some (.row a0E 10 [evx x' ld' fd'])) (ol:Own g' (h.length+3) a1o 3 (x'.ls.map a1p) ld') (ow:Own g' (h.length+3) a0x 2 (x'.fs.map fld) fd')
  (ne:∀ q,ld'.inOb q→fd'.inOb q→False) (hr:x'.r=x.r) (B:RB n' m' x'):Sp h o g' n' m' x' ld' fd':=by
 have ho:=S.s.lt
 have hl:=S.hl
 obtain ⟨e,he⟩:=S.b1
 exact ⟨S.s.app hlen fun q hq=>low q (by omega),by omega,⟨e,by rw [low _ (by omega),hr];exact he⟩,by rw [low _ (by omega)];exact S.b2,p,ol,ow,ne,B⟩
theorem a8v (x:RI) (ld fd:D) (k:Nat) (v:D) (hv:v.one=true) (hk:k<10):([evx x ld fd].set 0 (spl (evx x ld fd) (0+k) (a0B v)))=[(evx x ld fd).set k v]:=by
 rw [Nat.zero_add,a6Y _ _ _ hv (by simp [-bind_some, evx];omega)];rfl
theorem Sp.ld4 {h g:Hp} {o n m:Nat} {x:RI} {ld fd:D} (S:Sp h o g n m x ld fd):a0b tab g a1i (.ptr (h.length+2) 0 (0+4))=some ld:=by
 rw [b2B,a0I S.b3];rfl
theorem Sp.ld9 {h g:Hp} {o n m:Nat} {x:RI} {ld fd:D} (S:Sp h o g n m x ld fd):a0b tab g a1e (.ptr (h.length+2) 0 (0+9))=some fd:=by
 rw [c0E,a0I S.b3];rfl
theorem Sp.ld3 {h g:Hp} {o n m:Nat} {x:RI} {ld fd:D} (S:Sp h o g n m x ld fd):a0b tab g ty3 (.ptr (h.length+2) 0 (0+3))=some (.int .i64 x.a3):=by
 rw [a6R,a0I S.b3];rfl
theorem Sp.lset {h g g':Hp} {o n m:Nat} {x x':RI} {ld fd:D} (S:Sp h o g n m x ld fd) {ob:Nat} (hob:ld.inOb ob) (s:Same ob g g') (hg:Own g' (h.length+3) a1o 3 (x'.ls.map a1p) ld) (hx:x'={ x with ls:=x'.ls }) (B:RB n m x'):Sp h o g' n m x' ld fd:=by
 have ho:=S.s.lt
 have hlt:=S.ol.lt hob
 obtain ⟨e,he⟩:=S.b1
 have h1:x'.r=x.r:=by rw [hx]
 have h2:x'.fs=x.fs:=by rw [hx]
 have h3:evx x' ld fd=evx x ld fd:=by rw [hx];rfl
 exact ⟨S.s.app (by rw [s.1];exact Nat.le_refl _) fun q hq=>s.2 q (by omega),by rw [s.1];exact S.hl,⟨e,by rw [s.2 _ (by omega),h1];exact he⟩,by rw [s.2 _ (by omega)];exact S.b2,by rw [s.2 _ (by omega),h3];exact S.b3,hg,
  by rw [h2];exact S.ow.keep fun q hq hin=>s.2 q fun hh=>S.ne ob hob (by rw [← hh];exact hin),S.ne,B⟩
theorem a4i {b:Bool} {x y:Option Out} {f:Out→List D} {P:Hp→Prop} (hx:b=true→Wp x fun r=>r.1 = .nrm∧P r.2.2) (hy:b=false→Wp y fun r=>r.1 = .nrm∧P r.2.2) :
  Wp ((dIf (.bool b) x y).bind fun r=>some (r.1,f r,r.2.2)) (fun r=>r.1 = .nrm∧P r.2.2):=by
 refine Wp.join hx hy fun a ha=>?_
 exact .some ha
theorem d2l {h:Hp} {o:Nat} (hc:CM h o) {n m:Nat} (hn:n≤1000) (hm:m≤1000) (i:It) (hB:RB n m (a1m i)):∃ (j:It) (h':Hp),R a9a [.ptr o 0 0,.agg (itr i)] h=some (.agg (itr j),h')∧CM h' o∧Same o h h'∧RB (n+1) (max m 41) (a1m j):=by
 suffices Wp (R a9a [.ptr o 0 0,.agg (itr i)] h) (fun p=>∃ j:It,p.1 = .agg (itr j)∧CM p.2 o∧Same o h p.2∧RB (n+1) (max m 41) (a1m j)) by
  obtain ⟨⟨x,h'⟩,h1,j,rfl,h2⟩:=this
  exact ⟨j,h',h1,h2⟩
 have ho:=hc.lt
 have hz74:([.str [],.int .i64 0,.int .i64 0,.int .i64 0,.int .i64 0,.nils,.int .i64 0,.int .i64 0,.str [],.str [],.nils]:List D)=itr zit:=rfl
 have hls:=hB.ls
 have hfs:=hB.fs
 have hls:i.e.ls.length≤m:=hls
 have hfs:i.e.fs.length≤n:=hfs
 rw [d0n]
 simp only [c5z,hz74,a3b a0L 11 h (itr i) rfl (by omega),bs,d7c]
 -- the three variables
 have a0:(a0H h a0L 11 [itr i])[h.length]?=some (.row a0L 11 [itr i]):=a1a _ _ _ _
 have k0:∀ q,q<h.length→(a0H h a0L 11 [itr i])[q]?=h[q]?:=fun q hq=>a0W _ _ _ _ hq
 have l0:(a0H h a0L 11 [itr i]).length=h.length+1:=by simp [-bind_some, a0H]
 generalize a0H h a0L 11 [itr i]=g0 at *
 have a1:(a0H g0 a0L 11 [itr zit])[h.length+1]?=some (.row a0L 11 [itr zit]):=by rw [← l0];exact a1a _ _ _ _
 have k1:∀ q,q<h.length+1→(a0H g0 a0L 11 [itr zit])[q]?=g0[q]?:=fun q hq=>a0W _ _ _ _ (by omega)
 have l1:(a0H g0 a0L 11 [itr zit]).length=h.length+2:=by simp [-bind_some, a0H,l0]
 rw [l0]
 generalize a0H g0 a0L 11 [itr zit]=g1 at *
 have a0':g1[h.length]?=some (.row a0L 11 [itr i]):=by rw [k1 _ (by omega)];exact a0
 have le1:a0b tab g1 a0E (.ptr h.length 0 (0+1))=some (.agg (evr i.e)):=by rw [c3A,a0I a0'];rfl
 simp only [a3H,le1,bs,l1]
 have a2:∀ r,(a0H g1 a0E 10 [r])[h.length+2]?=some (.row a0E 10 [r]):=fun r=>by rw [← l1];exact a1a _ _ _ _
 have k2:∀ r q,q<h.length+2→(a0H g1 a0E 10 [r])[q]?=g1[q]?:=fun r q hq=>a0W _ _ _ _ (by omega)
 have l2a:∀ r,(a0H g1 a0E 10 [r]).length=h.length+3:=fun r=>by simp [-bind_some, a0H,l1]
 refine b2X (kk:=0) (off:=0) (v := .agg (evr i.e)) (a2 _) (by rfl) (by rfl) (by simp) (by rfl) fun g2 p2 s2=>?_
 replace p2:g2[h.length+2]?=some (.row a0E 10 [evr i.e]):=p2
 have l2:=s2.1.trans (l2a _)
 have c0:g2[h.length]?=some (.row a0L 11 [itr i]):=by rw [s2.2 _ (by omega),k2 _ _ (by omega),k1 _ (by omega)];exact a0
 have c1:g2[h.length+1]?=some (.row a0L 11 [itr zit]):=by rw [s2.2 _ (by omega),k2 _ _ (by omega)];exact a1
 have c9:∀ q,q<h.length→g2[q]?=h[q]?:=fun q hq=>by rw [s2.2 _ (by omega),k2 _ _ (by omega),k1 _ (by omega),k0 _ hq]
 clear a0 a0' a1 a2 k0 k1 k2 le1 s2 l0
 have le2:a0b tab g2 a1i (.ptr (h.length+2) 0 (0+4))=some i.e.ld:=by rw [b2B,a0I p2];rfl
 simp only [a3p,le2,bs]
 refine b2W (n0:=h.length+3) (rows:=[]) (by omega) (.nils _ _ _ _) (a2L _ i.e.hld) (by simp only [d7i,d7u];omega) fun x3 g3 o3 l3 k3 _ _=>?_
 rw [List.nil_append] at o3
 try simp only [bs]
 refine b1Z (kk:=0) (off:=0+4) (row:=evr i.e) (v:=x3) (by rw [k3 _ (by omega)];exact p2) (by rfl) (by rw [(a0z (a1l o3)).1];rfl) (by simp [-bind_some, evr]) (a0z (a1l o3)).2 fun g4 p4 s4=>?_
 have hs4:([evr i.e].set 0 (spl (evr i.e) (0+4) (a0B x3)))=[evx (a1m i) x3 i.e.fd]:=by rw [Nat.zero_add,a6Y _ _ _ (a1l o3) (by simp [-bind_some, evr])];rfl
 rw [hs4] at p4
 have o4:Own g4 (h.length+3) a1o 3 (i.e.ls.map a1p) x3:=o3.keep fun q hq _=>s4.2 q (by omega)
 have le4:a0b tab g4 a1e (.ptr (h.length+2) 0 (0+9))=some i.e.fd:=by rw [c0E,a0I p4];rfl
 simp only [a5O,le4,bs]
 have l4:h.length+3≤g4.length:=by rw [s4.1];omega
 refine b6k (n0:=g4.length) (rows:=[]) (Nat.le_refl _) (.nils _ _ _ _) (a2L _ i.e.hfd) (by simp only [d7i,d7u];omega) fun x5 g5 o5 l5 k5 _ _=>?_
 rw [List.nil_append] at o5
 try simp only [bs]
 have hne:∀ q,x3.inOb q→x5.inOb q→False:=fun q h1 h2=>by
  have:=(o4.lt h1).2
  have:=(o5.lt h2).1
  omega
 refine c1l (kk:=0) (off:=0+9) (row:=evx (a1m i) x3 i.e.fd) (v:=x5) (by rw [k5 _ (by omega)];exact p4) (by rfl) (by rw [(a0z (a1l o5)).1];rfl) (by simp [-bind_some, evx]) (a0z (a1l o5)).2 fun g6 p6 s6=>?_
 have hs6:([evx (a1m i) x3 i.e.fd].set 0 (spl (evx (a1m i) x3 i.e.fd) (0+9) (a0B x5)))=[evx (a1m i) x3 x5]:=by rw [a8v _ _ _ _ _ (a1l o5) (by omega)];rfl
 rw [hs6] at p6
 have low:∀ q,q<h.length+2→g6[q]?=g2[q]?:=fun q hq=>by rw [s6.2 _ (by omega),k5 _ (by omega),s4.2 _ (by omega),k3 _ (by omega)]
 have S0:Sp h o g6 n m (a1m i) x3 x5 :=
  ⟨⟨ho,hc.keep (by rw [low _ (by omega),c9 _ ho]),⟨by rw [s6.1];omega,fun q hq _=>by rw [low _ (by omega),c9 _ hq]⟩⟩,by rw [s6.1];omega,⟨i.e,by rw [low _ (by omega)];exact c0⟩,by rw [low _ (by omega)];exact c1,p6,
   o4.keep fun q hq hin=>by rw [s6.2 _ (by omega),k5 _ (o4.lt hin).2],(o5.from l4).keep fun q hq hin=>s6.2 q (by omega),hne,hB⟩
 clear p6 low hs6 s6 hne o5 k5 l5 le4 o4 p4 hs4 s4 o3 k3 l3 le2 c0 c1 c9 p2
 -- the choice
 obtain ⟨v,g7,e7,c7,s7,v0,v1⟩:=m39 S0.s.cd 13 (by omega) (by omega)
 replace S0:=S0.draw c7 s7
 simp only [e7,bs,a0Q,b0d,a7T,a4m,a3R,b0e,b0f,b0g,b0h,a3H]
 clear e7 s7 c7 l4 l2
 refine Wp.bind (P:=fun r=>r.1 = .nrm∧∃ x ld fd,Sp h o r.2.2 (n+1) (max m 41) x ld fd) ?_ ?_
 ·
  have ib:∀ (k:Nat) (y:Int→RI) (L:List D),(∀ v,(evx (a1m i) x3 x5).set k (.int .i64 v)=evx (y v) x3 x5)→(∀ v,(y v).r=(a1m i).r∧(y v).ls=(a1m i).ls∧(y v).fs=(a1m i).fs∧RB n m (y v))→k<10 →
    Wp ((R a5z [.ptr o 0 0] g7).bind fun p=>(a0h tab p.2 ty3 (.ptr (h.length+2) 0 (0+k)) p.1).bind fun h'=>some ((.nrm,L,h'):Out)) (fun r=>r.1 = .nrm∧∃ x ld fd,Sp h o r.2.2 (n+1) (max m 41) x ld fd):=by
   intro k y L hy hyb hk
   obtain ⟨w,g8,e8,c8,s8⟩:=c7u S0.s.cd
   have S1:=S0.draw c8 s8
   rw [e8]
   simp only [bs]
   refine b0H (kk:=0) (off:=0+k) (row:=evx (a1m i) x3 x5) S1.b3 (by rfl) (by rfl) (by simp [-bind_some, evx];omega) (by rfl) fun g9 p9 s9=>?_
   rw [a8v _ _ _ _ _ rfl hk,hy] at p9
   obtain ⟨y1,y2,y3,y4⟩:=hyb w
   exact .some ⟨rfl,_,_,_,S1.upd s9 p9 y1 y2 y3 (y4.le (by omega) (by omega))⟩
  have Bi:∀ a0 a1 a2 a3 a5 a6,RB n m { a1m i with a0:=a0,a1:=a1,a2:=a2,a3:=a3,a5:=a5,a6:=a6 }:=fun _ _ _ _ _ _=>⟨hB.r,hB.t7,hB.t8,hB.fs,hB.ls,hB.lt,hB.ft⟩
  -- a line
  have lb:∀ (k:Nat) (y:Int→Lin→Lin) (L:List D),(∀ v l,(a1p l).set k (.int .i64 v)=a1p (y v l))→(∀ v l,(y v l).txt=l.txt)→k<3→∀ w:Int,0≤w→w<i.e.ls.length→∀ g8,Sp h o g8 n m (a1m i) x3 x5→∀ z:Int,∃ ob,a0c tab a1i x3 (.int .i64 w)=some (.ptr ob w.toNat 0) ∧ 
    ∀ A B:Prop,A→B→Wp ((a0h tab g8 ty3 (.ptr ob w.toNat (0+k)) (.int .i64 z)).bind fun h'=>chk A (chk B (some ((.nrm,L,h'):Out)))) (fun r=>r.1 = .nrm∧∃ x ld fd,Sp h o r.2.2 (n+1) (max m 41) x ld fd):=by
   intro k y L hy hyt hk w w0 w1 g8 S1 z
   rcases S1.ol with ⟨_,hh⟩ | ⟨ob,hob,hd,hg⟩
   ·have:i.e.ls=[]:=by simpa [-bind_some, a1m] using hh
    rw [this] at w1
    simp at w1;omega
   have hlen:((a1m i).ls.map a1p).length=i.e.ls.length:=by simp [-bind_some, a1m]
   rw [hlen] at hd
   obtain ⟨l,hl⟩:∃ l,i.e.ls[w.toNat]?=some l:=⟨_,d7r (by omega)⟩
   have hin:x3.inOb ob:=⟨_,_,hd⟩
   refine ⟨ob,by rw [hd,c0z,if_pos ⟨w0,w1⟩];simp [-bind_some],fun A B hA hB'=>?_⟩
   refine b0H (kk:=w.toNat) (off:=0+k) (row:=a1p l) hg (by rw [d7p,show (a1m i).ls[w.toNat]?=some l from hl];rfl) (by rfl) (by simp [-bind_some, a1p];omega) (by rfl) fun g9 p9 s9=>?_
   have hset:((a1m i).ls.map a1p).set w.toNat (spl (a1p l) (0+k) (a0B (.int .i64 z)))=(((a1m i).ls.set w.toNat (y z l)).map a1p):=by
    rw [Nat.zero_add,a6Y _ _ _ rfl (by simp [-bind_some, a1p];omega),hy,List.map_set]
   rw [hset] at p9
   have hlm:((a1m i).ls.set w.toNat (y z l)).length=(a1m i).ls.length:=by simp
   have hmem:∀ q∈(a1m i).ls.set w.toNat (y z l),q.txt.length≤1000:=fun q hq=>by
    rcases List.mem_or_eq_of_mem_set hq with hq | rfl
    ·exact hB.lt q hq
    ·rw [hyt];exact hB.lt l (d7q hl)
   rw [a1H _ _ hA,a1H _ _ hB']
   exact .some ⟨rfl,{ a1m i with ls:=(a1m i).ls.set w.toNat (y z l) },_,_,(S1.lset (x':={ a1m i with ls:=(a1m i).ls.set w.toNat (y z l) }) hin s9 (.inr ⟨ob,hob,by rw [d7i,hlm,hd];rfl,p9⟩) rfl ⟨hB.r,hB.t7,hB.t8,hB.fs,by rw [hlm];exact hB.ls,hmem,hB.ft⟩)|>.wk (by omega) (by omega)⟩
  refine Wp.dif (fun _=>ib 0 (fun v=>{ a1m i with a0:=v }) _ (fun _=>rfl) (fun v=>⟨rfl,rfl,rfl,Bi v _ _ _ _ _⟩) (by omega)) fun _=>?_
  refine a4i (P:=fun g=>∃ x ld fd,Sp h o g (n+1) (max m 41) x ld fd) (fun _=>ib 1 (fun v=>{ a1m i with a1:=v }) _ (fun _=>rfl) (fun v=>⟨rfl,rfl,rfl,Bi _ v _ _ _ _⟩) (by omega)) fun _=>?_
  refine a4i (P:=fun g=>∃ x ld fd,Sp h o g (n+1) (max m 41) x ld fd) (fun _=>ib 2 (fun v=>{ a1m i with a2:=v }) _ (fun _=>rfl) (fun v=>⟨rfl,rfl,rfl,Bi _ _ v _ _ _⟩) (by omega)) fun _=>?_
  refine a4i (P:=fun g=>∃ x ld fd,Sp h o g (n+1) (max m 41) x ld fd) (fun _=>ib 3 (fun v=>{ a1m i with a3:=v }) _ (fun _=>rfl) (fun v=>⟨rfl,rfl,rfl,Bi _ _ _ v _ _⟩) (by omega)) fun _=>?_
  refine a4i (P:=fun g=>∃ x ld fd,Sp h o g (n+1) (max m 41) x ld fd) (fun _=>ib 5 (fun v=>{ a1m i with a5:=v }) _ (fun _=>rfl) (fun v=>⟨rfl,rfl,rfl,Bi _ _ _ _ v _⟩) (by omega)) fun _=>?_
  refine a4i (P:=fun g=>∃ x ld fd,Sp h o g (n+1) (max m 41) x ld fd) (fun _=>ib 6 (fun v=>{ a1m i with a6:=v }) _ (fun _=>rfl) (fun v=>⟨rfl,rfl,rfl,Bi _ _ _ _ _ v⟩) (by omega)) fun _=>?_
  have hlen:a0y tab a1i x3=some (.int .i64 (i.e.ls.length:Int)):=by rw [b4E S0.ol,d7i];rfl
  have Z:∀ L:List D,Wp (some ((.nrm,L,g7):Out)) (fun r=>r.1 = .nrm∧∃ x ld fd,Sp h o r.2.2 (n+1) (max m 41) x ld fd):=fun L => .some ⟨rfl,_,_,_,S0.wk (by omega) (by omega)⟩
  refine a4i (P:=fun g=>∃ x ld fd,Sp h o g (n+1) (max m 41) x ld fd) (fun _=>?_) fun _=>?_
  ·simp only [S0.ld4,hlen,bs,a0u]
   refine a4i (P:=fun g=>∃ x ld fd,Sp h o g (n+1) (max m 41) x ld fd) (fun hp=>?_) fun _=>Z _
   have hp:0<i.e.ls.length:=by
    have:(i.e.ls.length:Int)>0:=by simpa using hp
    omega
   obtain ⟨w,g8,e8,c8,s8,w0,w1⟩:=m39 S0.s.cd (i.e.ls.length:Int) (by omega) (by omega)
   have S1:=S0.draw c8 s8
   obtain ⟨z,g9,e9,c9,s9⟩:=c7u S1.s.cd
   have S2:=S1.draw c9 s9
   obtain ⟨ob,hix,hw⟩:=lb 0 (fun v l=>{ l with off:=v }) [] (fun _ _=>rfl) (fun _ _=>rfl) (by omega) w w0 w1 g9 S2 z
   simp only [e8,e9,hix,a3g,bs]
   exact hw _ _ S1.ld4 S2.ld4
  refine a4i (P:=fun g=>∃ x ld fd,Sp h o g (n+1) (max m 41) x ld fd) (fun _=>?_) fun _=>?_
  ·simp only [S0.ld4,hlen,bs,a0u]
   refine a4i (P:=fun g=>∃ x ld fd,Sp h o g (n+1) (max m 41) x ld fd) (fun hp=>?_) fun _=>Z _
   have hp:0<i.e.ls.length:=by
    have:(i.e.ls.length:Int)>0:=by simpa using hp
    omega
   obtain ⟨w,g8,e8,c8,s8,w0,w1⟩:=m39 S0.s.cd (i.e.ls.length:Int) (by omega) (by omega)
   have S1:=S0.draw c8 s8
   obtain ⟨z,g9,e9,c9,s9⟩:=c7u S1.s.cd
   have S2:=S1.draw c9 s9
   obtain ⟨ob,hix,hw⟩:=lb 1 (fun v l=>{ l with len:=v }) [] (fun _ _=>rfl) (fun _ _=>rfl) (by omega) w w0 w1 g9 S2 z
   simp only [e8,e9,hix,a3h,bs]
   exact hw _ _ S1.ld4 S2.ld4
  -- no lines
  refine a4i (P:=fun g=>∃ x ld fd,Sp h o g (n+1) (max m 41) x ld fd) (fun _=>?_) fun _=>?_
  ·refine b1Z (kk:=0) (off:=0+4) (row:=evx (a1m i) x3 x5) S0.b3 (by rfl) (by rfl) (by simp [-bind_some, evx]) (by rfl) fun g9 p9 s9=>?_
   rw [a8v _ _ _ _ _ rfl (by omega)] at p9
   have hl:=S0.hl
   exact .some ⟨rfl,{ a1m i with ls:=[] },.nils,x5,S0.re (x':={ a1m i with ls:=[] }) (by rw [s9.1];exact Nat.le_refl _) (fun q hq=>s9.2 q (by omega)) p9 (.nils _ _ _ _) (S0.ow.keep fun q hq _=>s9.2 q (by omega)) (fun q ⟨_,_,hq⟩=>by cases hq) rfl ⟨hB.r,hB.t7,hB.t8,by have:=hB.fs;show (a1m i).fs.length≤_;omega,Nat.zero_le _,fun l hl=>(by cases hl),hB.ft⟩⟩
  -- a field more
  refine a4i (P:=fun g=>∃ x ld fd,Sp h o g (n+1) (max m 41) x ld fd) (fun _=>?_) fun _=>?_
  ·simp only [S0.ld9,b6a,bs]
   refine a2X S0.s.cd lt98_38 10 (by decide) (by decide) (by decide) fun s g8 c8 s8 hs hs2=>?_
   have S1:=S0.draw c8 s8
   obtain ⟨u,g9,e9,c9,s9,hu⟩:=m83 S1.s.cd 3 (by omega) (by omega)
   have S2:=S1.draw c9 s9
   simp only [e9,bs,b0M,c1u]
   have hl:=S2.hl
   refine b6k (n0:=h.length+3) (by omega) S2.ow (a1d _ _ _ _) (by simp only [d7i,d7t,d7u];have:=hB.fs;omega) fun x10 g10 o10 l10 k10 k10' i10=>?_
   have ho10:((a1m i).fs.map fld++[[.str s,.str u]])=((a1m i).fs++[(s,u)]).map fld:=by rw [d7j];rfl
   rw [ho10] at o10
   rw [a1H _ _ S1.ld9,a1H _ _ S2.ld9]
   refine c1l (kk:=0) (off:=0+9) (row:=evx (a1m i) x3 x5) (v:=x10) (by rw [k10 _ (by omega)];exact S2.b3) (by rfl) (by rw [(a0z (a1l o10)).1];rfl) (by simp [-bind_some, evx]) (a0z (a1l o10)).2 fun g11 p11 s11=>?_
   rw [a8v _ _ _ _ _ (a1l o10) (by omega)] at p11
   exact .some ⟨rfl,{ a1m i with fs:=(a1m i).fs++[(s,u)] },x3,x10,S2.re (x':={ a1m i with fs:=(a1m i).fs++[(s,u)] }) (by rw [s11.1];exact l10) (fun q hq=>by rw [s11.2 q (by omega)];exact k10 q (by omega)) p11
    (S2.ol.keep fun q hq hin=>by rw [s11.2 q (by omega)];exact k10' q (S2.ol.lt hin).2 fun hh=>S2.ne q hin hh) (o10.keep fun q hq _=>s11.2 q (by omega))
    (fun q h1 h2=>by rcases i10 q h2 with h2 | h2;exact S2.ne q h1 h2;have:=(S2.ol.lt h1).2;omega) rfl
    ⟨hB.r,hB.t7,hB.t8,by have:=hB.fs;show ((a1m i).fs++[(s,u)]).length≤_;simp [-bind_some];omega,by have:=hB.ls;show (a1m i).ls.length≤_;omega,hB.lt,fun p hp=>by
     rcases d7y.1 hp with hp | hp
     ·exact hB.ft p hp
     ·rw [List.mem_singleton.1 hp];exact ⟨by show s.length≤1000;omega,by show u.length≤1000;omega⟩⟩⟩
  -- the rule
  refine a4i (P:=fun g=>∃ x ld fd,Sp h o g (n+1) (max m 41) x ld fd) (fun _=>?_) fun _=>?_
  ·simp only [b6b,bs]
   refine a2X S0.s.cd lt98_39 100 (by decide) (by decide) (by decide) fun s g8 c8 s8 hs hs2=>?_
   have S1:=S0.draw c8 s8
   obtain ⟨e,he⟩:=S1.b1
   simp only [bs]
   refine c2r (kk:=0) (off:=0+0) (row := .str (a1m i).r::evr e) (v := .str s) he (by rfl) (by rfl) (by simp) (by rfl) fun g9 p9 s9=>?_
   have hl:=S1.hl
   have p9:g9[h.length]?=some (.row a0L 11 [.str s::evr e]):=p9
   exact .some ⟨rfl,{ a1m i with r:=s },x3,x5,⟨S1.s.app (by rw [s9.1];exact Nat.le_refl _) fun q hq=>s9.2 q (by omega),by rw [s9.1];exact hl,⟨e,p9⟩,by rw [s9.2 _ (by omega)];exact S1.b2,by rw [s9.2 _ (by omega)];exact S1.b3,S1.ol.keep fun q hq _=>s9.2 q (by omega),S1.ow.keep fun q hq _=>s9.2 q (by omega),S1.ne,⟨by show s.length≤1000;omega,hB.t7,hB.t8,by have:=hB.fs;show (a1m i).fs.length≤_;omega,by have:=hB.ls;show (a1m i).ls.length≤_;omega,hB.lt,hB.ft⟩⟩⟩
  -- the trace
  refine a4i (P:=fun g=>∃ x ld fd,Sp h o g (n+1) (max m 41) x ld fd) (fun _=>?_) fun _=>?_
  ·simp only [b6c,bs]
   refine a2X S0.s.cd lt98_40 100 (by decide) (by decide) (by decide) fun s g8 c8 s8 hs hs2=>?_
   have S1:=S0.draw c8 s8
   simp only [bs]
   refine c2r (kk:=0) (off:=0+7) (row:=evx (a1m i) x3 x5) (v := .str s) S1.b3 (by rfl) (by rfl) (by simp [-bind_some, evx]) (by rfl) fun g9 p9 s9=>?_
   rw [a8v _ _ _ _ _ rfl (by omega)] at p9
   exact .some ⟨rfl,{ a1m i with t7:=s },x3,x5,S1.upd (x':={ a1m i with t7:=s }) s9 p9 rfl rfl rfl ⟨hB.r,by show s.length≤1000;omega,hB.t8,by have:=hB.fs;show (a1m i).fs.length≤_;omega,by have:=hB.ls;show (a1m i).ls.length≤_;omega,hB.lt,hB.ft⟩⟩
  -- many lines
  try simp only [d7c]
  refine Wp.loop (fun k ds g=>∃ a b x ld,ds=[a,b]∧Sp h o g (n+1) (max m 41) x ld x5∧k+x.ls.length=max m 41)
   (fun r=>r.1 = .ext 1∧∃ x ld fd,Sp h o r.2.2 (n+1) (max m 41) x ld fd) (max m 41 - (a1m i).ls.length) ⟨_,_,_,_,rfl,S0.wk (by omega) (by omega),by have:=hB.ls;omega⟩ ?_ ?_
  ·rintro k ds g ⟨a,b,x,ld,rfl,S,hk⟩
   have hlx:a0y tab a1i ld=some (.int .i64 (x.ls.length:Int)):=by rw [b4E S.ol,d7i]
   have hfin:∀ L:List D,Wp (some ((.ext 1,L,g):Out)) fun r=>(r.1 = .nrm∧∃ k',k'<k∧∃ a b x ld,r.2.1=[a,b]∧Sp h o r.2.2 (n+1) (max m 41) x ld x5∧k'+x.ls.length=max m 41)∨(r.1 ≠ .nrm∧(r.1 = .ext 1∧∃ x ld fd,Sp h o r.2.2 (n+1) (max m 41) x ld fd)):=fun L => .some (.inr ⟨by simp,rfl,_,_,_,S⟩)
   simp only [b3i,a0g,a0q,bs,d7c,a3p,a3R,S.ld4,hlx,a0u]
   by_cases h1:(x.ls.length:Int)>0
   case neg =>
    simp only [h1,decide_false,a0o,reduceCtorEq,d7d,if_false,bs,a0e,a0d]
    exact hfin _
   by_cases h2:(x.ls.length:Int)≤40
   case neg =>
    simp only [h1,h2,decide_true,decide_false,a0o,if_true,bs,S.ld4,hlx,a1S,a0e,a0d,d7d,if_false]
    exact hfin _
   have hw1:IntKind.wrap .i64 ((x.ls.length:Int) - 1)=((x.ls.length - 1:Nat):Int):=by rw [wrap_i64 (by omega) (by omega)];omega
   obtain ⟨ob,hob,hd,hg⟩:=a8m S.ol (i:=x.ls.length - 1) (by rw [d7i];omega)
   rw [d7i] at hd
   obtain ⟨l,hl⟩:∃ l,x.ls[x.ls.length - 1]?=some l:=⟨_,d7r (by omega)⟩
   have hix:a0c tab a1i ld (.int .i64 ((x.ls.length - 1:Nat):Int))=some (.ptr ob (x.ls.length - 1) 0):=by
    rw [hd,c0z,if_pos (by omega)];simp [-bind_some]
   have hld:a0b tab g a1o (.ptr ob (x.ls.length - 1) 0)=some (.agg (a1p l)):=by
    rw [c3B,a0I hg,d7p,hl];rfl
   have hbx:a3s 3 (.agg (a1p l))=some (.fptr (a1p l)):=a1T 3 _ rfl
   have q0:a0a tab a1o 0 (.fptr (a1p l))=some (.fptr (a1p l)):=id rfl
   have q1:a0a tab a1o 1 (.fptr (a1p l))=some (.fptr [.int .i64 l.len,.str l.txt]):=id rfl
   have l0:∀ g,a0b tab g ty3 (.fptr (a1p l))=some (.int .i64 l.off):=fun g=>id rfl
   simp only [h1,h2,decide_true,a0o,if_true,bs,S.ld4,hlx,a1S,a0e,a0d,a0D,hw1,hix,hld,hbx,q0,q1,l0,ld3,a0t,a9P,b6A]
   have hl3:=S.hl
   have hll:=S.B.ls
   refine b2W (n0:=h.length+3) (by omega) S.ol (a1d _ _ _ _) (by simp only [d7i,d7t,d7u];omega) fun x10 g10 o10 l10 k10 k10' i10=>?_
   generalize hln:(⟨IntKind.wrap .i64 (l.off+l.len),1,[]⟩:Lin)=nl
   have ho10:(x.ls.map a1p++[[.int .i64 (IntKind.wrap .i64 (l.off+l.len)),.int .i64 1,.str []]])=(x.ls++[nl]).map a1p:=by rw [← hln,d7j];rfl
   rw [ho10] at o10
   try simp only [bs]
   refine b1Z (kk:=0) (off:=0+4) (row:=evx x ld x5) (v:=x10) (by rw [k10 _ (by omega)];exact S.b3) (by rfl) (by rw [(a0z (a1l o10)).1];rfl) (by simp [-bind_some, evx]) (a0z (a1l o10)).2 fun g11 p11 s11=>?_
   rw [a8v _ _ _ _ _ (a1l o10) (by omega)] at p11
   have S1:Sp h o g11 (n+1) (max m 41) { x with ls:=x.ls++[nl] } x10 x5:=S.re (x':={ x with ls:=x.ls++[nl] }) (by rw [s11.1];exact l10) (fun q hq=>by rw [s11.2 q (by omega)];exact k10 q (by omega)) p11
    (o10.keep fun q hq _=>s11.2 q (by omega)) (S.ow.keep fun q hq hin=>by rw [s11.2 q (by omega)];exact k10' q (S.ow.lt hin).2 fun hh=>S.ne q hh hin)
    (fun q h1 h2=>by rcases i10 q h1 with h1 | h1;exact S.ne q h1 h2;have:=(S.ow.lt h2).2;omega) rfl
    ⟨S.B.r,S.B.t7,S.B.t8,S.B.fs,by show (x.ls++[nl]).length≤_;simp [-bind_some];omega,fun p hp=>by
     rcases d7y.1 hp with hp | hp
     ·exact S.B.lt p hp
     ·rw [List.mem_singleton.1 hp,← hln];simp [-bind_some],S.B.ft⟩
   simp only [S1.ld3,bs,a0t]
   refine b0H (kk:=0) (off:=0+3) (row:=evx { x with ls:=x.ls++[nl] } x10 x5) S1.b3 (by rfl) (by rfl) (by simp [-bind_some, evx]) (by rfl) fun g12 p12 s12=>?_
   rw [a8v _ _ _ _ _ rfl (by omega)] at p12
   refine .some (.inl ⟨rfl,k - 1,by omega,_,_,{ x with ls:=x.ls++[nl],a3:=IntKind.wrap .i64 (x.a3+1) },x10,rfl,S1.upd (x':={ x with ls:=x.ls++[nl],a3:=IntKind.wrap .i64 (x.a3+1) }) s12 p12 rfl rfl rfl ⟨S1.B.r,S1.B.t7,S1.B.t8,S1.B.fs,S1.B.ls,S1.B.lt,S1.B.ft⟩,?_⟩)
   show k - 1+(x.ls++[nl]).length=_
   simp [-bind_some];omega
  ·rintro ⟨ex,ds,g⟩ ⟨rfl,hP⟩
   exact .some ⟨rfl,hP⟩
 ·rintro ⟨ex,ds,g⟩ ⟨rfl,x,ld,fd,S⟩
  have hl:=S.hl
  have lde:a0b tab g a0E (.ptr (h.length+2) 0 0)=some (.agg (evx x ld fd)):=by rw [c3A,a0I S.b3];rfl
  simp only [a2p,a0s,lde,bs]
  obtain ⟨e,he⟩:=S.b1
  refine b2X (kk:=0) (off:=0+1) (row := .str x.r::evr e) (v := .agg (evx x ld fd)) he (by rfl) (by rfl) (by simp [-bind_some, evr]) (by rfl) fun g1 p1 s1=>?_
  have p1:g1[h.length]?=some (.row a0L 11 [x.row ld fd]):=p1
  have ld1:a0b tab g1 a0L (.ptr h.length 0 0)=some (.agg (x.row ld fd)):=by rw [a8g,a0I p1];rfl
  simp only [ld1,bs]
  refine b2a (kk:=0) (off:=0) (row:=itr zit) (v := .agg (x.row ld fd)) (by rw [s1.2 _ (by omega)];exact S.b2) (by rfl) (by rfl) (by exact Nat.le_refl _) (by rfl) fun g2 p2 s2=>?_
  have p2:g2[h.length+1]?=some (.row a0L 11 [x.row ld fd]):=p2
  have ld2:a0b tab g2 a0L (.ptr (h.length+1) 0 0)=some (.agg (x.row ld fd)):=by rw [a8g,a0I p2];rfl
  simp only [ld2,bs,a0j]
  have ol:Own g2 (h.length+3) a1o 3 (x.ls.map a1p) ld:=S.ol.keep fun q hq _=>by rw [s2.2 q (by omega),s1.2 q (by omega)]
  have ow:Own g2 (h.length+3) a0x 2 (x.fs.map Go.Proofs.YtjmndhbabkjebaaGreatDoor.fld) fd:=S.ow.keep fun q hq _=>by rw [s2.2 q (by omega),s1.2 q (by omega)]
  have sl:=a2g (n0:=h.length) (n:=2) ol (by omega) fun a _ d hd=>by
   simp only [a1p,d7x,List.not_mem_nil,or_false] at hd
   rcases hd with rfl | rfl | rfl <;> simp [-bind_some]
  have sf:=a2g (n0:=h.length) (n:=2) ow (by omega) fun a _ d hd=>by
   simp only [Go.Proofs.YtjmndhbabkjebaaGreatDoor.fld,d7x,List.not_mem_nil,or_false] at hd
   rcases hd with rfl | rfl <;> simp [-bind_some]
  have hls:=S.B.ls
  have hfs:=S.B.fs
  obtain ⟨j,hj⟩:∃ j,j=c3I x _ _ sl sf (by omega) (by omega):=⟨_,rfl⟩
  have hjr:itr j=x.row (frz h.length g2 3 ld) (frz h.length g2 3 fd):=by rw [hj];rfl
  have Sx:=(S.s.app (g':=g1) (by rw [s1.1];exact Nat.le_refl _) fun q hq=>s1.2 q (by omega)).app (g':=g2) (by rw [s2.1];exact Nat.le_refl _) fun q hq=>s2.2 q (by omega)
  obtain ⟨h',hsc,hcd,hsm⟩:=Sx.scope (d := .agg (x.row ld fd)) (d' := .agg (itr j)) (by rw [b0l,hjr];simp [-bind_some, RI.row,itc]) (a9f _ j)
  rw [hsc]
  exact .some ⟨j,rfl,hcd,hsm,by rw [hj];exact S.B⟩
theorem c8e (l:List Int) (o:Nat) (rest:List (List D)) (h:Hp) (ho:h[o]?=some (.row ty5 1 (l.map byr++rest))) (hl:l.length≤9223372036854775806) (hu:∀ z∈l,U8 z):R a4Q [.msl 1 o 0 l.length] h=some (.int .u64 (a2t l),h):=by
 refine c2g l _ h (a7m _ _ _ _) (fun i z hz=>?_) hl hu
 have hlt:=(d7s.1 hz).1
 refine ⟨.ptr o (0+i) 0,by rw [b5C];simp [-bind_some, hlt],?_⟩
 rw [c8P,a0I ho,d7B (by simpa using hlt),d7p]
 simp [-bind_some, hz,byr]
theorem b9b (s:Cur) (n:Int):(a0G s n).1.length≤s.1.length:=by
 unfold a0G
 split
 ·exact Nat.zero_le _
 ·simp [-bind_some];omega
theorem b9c (s:Cur):((a0S s).1.getD []).length≤s.1.length:=by
 have h1:=b9b (a1D s).2 (a1D s).1
 have h2:=a8i s
 unfold a0S
 split
 ·simp [-bind_some]
 ·simp [-bind_some, bys];omega
theorem b8N:∀ (n:Nat) (s:Cur),(a3U n s).2.1.length≤s.1.length
 | 0,s=>Nat.le_refl _
 | n+1,s=>by
  have h1:=b8N n (a4K s).2
  have h2:=b7W s
  unfold a3U
  split
  ·exact Nat.le_refl _
  ·simp only;omega
theorem b8L:∀ (n:Nat) (s:Cur),∀ p∈(a3T n s).1,p.1.length≤s.1.length
 | 0,s,p,hp=>by cases hp
 | n+1,s,p,hp=>by
  have h1:=b9c s
  have h2:=a3P s
  have h3:=a3P (a0S s).2
  unfold a3T at hp
  split at hp
  ·cases hp
  ·rcases d7x.1 hp with rfl | hp
   ·exact h1
   ·have:=b8L n (fdS s).2 p hp
    have h4:(fdS s).2.1.length=(a0S (a0S s).2).2.1.length:=rfl
    omega
theorem c7R (s:Cur):∀ p∈(rvI s).fs,p.1.length≤s.1.length:=by
 intro p hp
 have h1:=b8L _ _ p (show p∈(a3T (a1D (rvC s)).1.toNat (a1D (rvC s)).2).1 from hp)
 have h2:=a8i (rvC s)
 have h3:=a3P (a0S (a0R (a0R (rvL s).2).2).2).2
 have h4:=a3P (a0R (a0R (rvL s).2).2).2
 have h5:=a3S (a0R (rvL s).2).2
 have h6:=a3S (rvL s).2
 have h7:=b8N (a1D (a3V s)).1.toNat (a1D (a3V s)).2
 have h8:=a8i (a3V s)
 have h9:=b2U s
 have e1:(rvC s).1.length=(a0S (a0S (a0R (a0R (rvL s).2).2).2).2).2.1.length:=rfl
 have e2:(rvL s).2.1.length=(a3U (a1D (a3V s)).1.toNat (a1D (a3V s)).2).2.1.length:=rfl
 omega
theorem c3Y {n m:Nat} {i:It} (h:RB n m (a1m i)) (hn:n≤1000) (hm:m≤1000):(a1r i).length≤10000000:=by
 have h1:=a2E lnB 1020 i.e.ls (fun l hl=>by
  have:=h.lt l hl
  simp only [lnB,d7h,a1k,a1z];omega)
 have h2:(i.e.fs.map fdB).flatten.length≤i.e.fs.length*2008:=a2E fdB 2008 i.e.fs (fun p hp=>by
  have:=h.ft p hp
  simp only [fdB,d7h,a1z];omega)
 have h3:i.e.fs.length≤n:=h.fs
 have h4:i.e.ls.length≤m:=h.ls
 have h5:i.r.length≤1000:=h.r
 have h6:i.e.s7.length≤1000:=h.t7
 have h7:i.e.s8.length≤1000:=h.t8
 have h8:(i.e.fs.length*2008:Nat)≤1000*2008:=Nat.mul_le_mul_right _ (by omega)
 have h9:(i.e.ls.length*1020:Nat)≤1000*1020:=Nat.mul_le_mul_right _ (by omega)
 simp only [a1r,a4k,a3o,d7h,a1k,a1z,a1G]
 omega
theorem d2C {n m:Nat} {i:It} (h:RB n m (a1m i)):NmB i.e:=fun p hp=>by
 have:=(h.ft p hp).1
 omega
theorem c7a {i:It} (hi:ItK i):RB 4 3 (a1m i):=by
 obtain ⟨hR,_⟩:=d1S hi
 have l3:=hi.l3
 have f4:=hi.fs
 obtain ⟨ch,a0,a9,l1⟩:=hi.ch
 have tx:=b0u _ _ _ ch a0 (by omega)
 have hh:i.r.length≤32∧i.e.s7.length≤32∧i.e.s8.length≤32∧∀ p∈i.e.fs,p.1.length≤1000∧p.2.length≤1000:=by
  rcases hi with ⟨hr,g⟩ | g
  ·refine ⟨by rw [hr];simp [-bind_some],(show ∀ s∈lt98_15,s.length≤32 by decide) _ g.tr,(show ∀ s∈lt98_16,s.length≤32 by decide) _ g.st,fun p hp=>⟨?_,(show ∀ s∈lt98_18,s.length≤1000 by decide) _ (g.fs.2 p hp)⟩⟩
   exact (show ∀ s∈lt98_17,s.length≤1000 by decide) _ (g.fs.1.subset (d7z.2 ⟨p,hp,rfl⟩))
  ·exact ⟨(show ∀ s∈lt98_35,s.length≤32 by decide) _ g.r,by rw [g.tr];simp [-bind_some],by rw [g.st];simp [-bind_some],fun p hp=>by rw [g.fs] at hp;cases hp⟩
 obtain ⟨r1,r2,r3,r8⟩:=hh
 exact ⟨by show i.r.length≤1000;omega,by show i.e.s7.length≤1000;omega,by show i.e.s8.length≤1000;omega,f4,l3,fun l hl=>by have:=(tx l hl).2;omega,r8⟩
theorem a3C {s:Cur} (h:(a0S s).2.2=false):s.2=false∧(a0S s).2.1.length+4+((a0S s).1.getD []).length=s.1.length:=by
 have h':=h
 rw [a8x] at h'
 obtain ⟨a,b,c⟩:=a7H h'
 obtain ⟨d,e⟩:=a8j a
 have hl:((a0G (a1D s).2 (a1D s).1).1.length:Int)=(a1D s).1:=by
  unfold a0G at h' ⊢
  split
  ·rename_i hh;rw [if_pos hh] at h';cases h'
  ·rename_i hh
   simp only [d7w]
   omega
 have ht:(a0S s).1.getD []=bys (a0G (a1D s).2 (a1D s).1).1:=by
  unfold a0S
  rw [if_neg (by rw [h'];simp [-bind_some])];rfl
 rw [a8x,ht]
 refine ⟨d,?_⟩
 simp only [bys,d7i]
 omega
theorem a7M {s:Cur} (h:(a0U s).2.2=false):s.2=false∧(a0U s).2.1.length+4=s.1.length:=by
 have:=a6h h
 rw [this] at h ⊢
 exact a8j h
theorem b1C:∀ (n:Nat) (s:Cur),(a4s n s).2.2=false→s.2=false∧(a4s n s).2.1.length+((a4s n s).1.map lnB).flatten.length=s.1.length
 | 0,s,h=>⟨h,by simp [-bind_some, a4s]⟩
 | n+1,s,h=>by
  obtain ⟨a,b⟩:=b1C n (a4K s).2 h
  have a':(a0S (a0R (a0R s).2).2).2.2=false:=a
  obtain ⟨c,d⟩:=a3C a'
  obtain ⟨e,f⟩:=a2V c
  obtain ⟨g,i⟩:=a2V e
  refine ⟨g,?_⟩
  have hb:(lnB (a4K s).1).length=20+((a0S (a0R (a0R s).2).2).1.getD []).length:=by
   simp only [lnB,a4K,pS,a6X,d7h,a1k,a1G];omega
  have b':(a4s n (a4K s).2).2.1.length+((a4s n (a4K s).2).1.map lnB).flatten.length=(a0S (a0R (a0R s).2).2).2.1.length:=b
  simp only [a4s,d7k,List.flatten_cons,d7h,hb]
  omega
theorem b1f:∀ (n:Nat) (s:Cur),(a4J n s).2.2=false→s.2=false∧(a4J n s).2.1.length+((a4J n s).1.map fdB).flatten.length=s.1.length
 | 0,s,h=>⟨h,by simp [-bind_some, a4J]⟩
 | n+1,s,h=>by
  obtain ⟨a,b⟩:=b1f n (fdS s).2 h
  have a':(a0S (a0S s).2).2.2=false:=a
  obtain ⟨c,d⟩:=a3C a'
  obtain ⟨e,f⟩:=a3C c
  refine ⟨e,?_⟩
  have hb:(fdB (fdS s).1).length=8+((a0S s).1.getD []).length+((a0S (a0S s).2).1.getD []).length:=by
   simp only [fdB,fdS,pS,a6X,d7h,a1G];omega
  have b':(a4J n (fdS s).2).2.1.length+((a4J n (fdS s).2).1.map fdB).flatten.length=(a0S (a0S s).2).2.1.length:=b
  simp only [a4J,d7k,List.flatten_cons,d7h,hb]
  omega
theorem c4x {s:Cur} {j:It} (hj:a1m j=a1X s) (h:(a6H s).2=false):(a1r j).length+(a6H s).1.length=s.1.length:=by
 obtain ⟨a1,b1⟩:=b1f _ _ (show (a4J (a0U (a5X s)).1.toNat (a0U (a5X s)).2).2.2=false from h)
 obtain ⟨a2,b2⟩:=a7M a1
 obtain ⟨a3,b3⟩:=a3C (show (a0S (a0S (a0R (a0R (a7a s)).2).2).2).2.2=false from a2)
 obtain ⟨a4,b4⟩:=a3C a3
 obtain ⟨a5,b5⟩:=a2V a4
 obtain ⟨a6,b6⟩:=a2V a5
 obtain ⟨a7,b7⟩:=b1C _ _ (show (a4s (a0U (a3V s)).1.toNat (a0U (a3V s)).2).2.2=false from a6)
 obtain ⟨a8,b8⟩:=a7M a7
 obtain ⟨a9,b9⟩:=a2V (show (a0R (a0R (a0R (a0R (a0S s).2).2).2).2).2.2=false from a8)
 obtain ⟨c1,d1⟩:=a2V a9
 obtain ⟨c2,d2⟩:=a2V c1
 obtain ⟨c3,d3⟩:=a2V c2
 obtain ⟨c4,d4⟩:=a3C c3
 have e1:(a6H s).1.length=(a4J (a0U (a5X s)).1.toNat (a0U (a5X s)).2).2.1.length:=rfl
 have e2:(a5X s).1.length=(a0S (a0S (a0R (a0R (a7a s)).2).2).2).2.1.length:=rfl
 have e3:(a7a s).1.length=(a4s (a0U (a3V s)).1.toNat (a0U (a3V s)).2).2.1.length:=rfl
 have e4:(a3V s).1.length=(a0R (a0R (a0R (a0R (a0S s).2).2).2).2).2.1.length:=rfl
 have hr:j.r=(a0S s).1.getD []:=congrArg RI.r hj
 have h7:j.e.s7=(a0S (a0R (a0R (a7a s)).2).2).1.getD []:=congrArg RI.t7 hj
 have h8:j.e.s8=(a0S (a0S (a0R (a0R (a7a s)).2).2).2).1.getD []:=congrArg RI.t8 hj
 have hl:j.e.ls=(a4s (a0U (a3V s)).1.toNat (a0U (a3V s)).2).1:=congrArg RI.ls hj
 have hf:j.e.fs=(a4J (a0U (a5X s)).1.toNat (a0U (a5X s)).2).1:=congrArg RI.fs hj
 simp only [a1r,a4k,a3o,d7h,a1k,a1G,pS,a6X]
 rw [← hl] at b7
 rw [← hf] at b1
 rw [← h7] at b4
 rw [← h8] at b3
 rw [← hr] at d4
 omega
noncomputable def ckR (x:RI):Int:=@dite _ (∃ j:It,a1m j=x) (Classical.propDecidable _) (fun h=>itE (Classical.choose h)) fun _=>0
theorem b0S (j:It):ckR (a1m j)=itE j:=by
 have h:∃ i:It,a1m i=a1m j:=⟨j,rfl⟩
 unfold ckR
 rw [dif_pos h]
 exact (b8M (Classical.choose_spec h)).2.1
noncomputable def a3X (l:List Int):Int × Int × RI:=a5N (ckR (a1X ((l.take (num (l.take 4)).toNat).drop 4,false))) l
theorem c2R (l:List Int) (d:D) (h:Hp) (hd:SlOf 1 byr l d) (hl:l.length≤1000000000) (hu:∀ z∈l,U8 z) :
  (∃ j:It,R a9b [d] h=some (.tup [.agg (itr j),.int .i64 (a3X l).2.1,.int .i64 (a3X l).1],h)∧a1m j=(a3X l).2.2)∧∃ j:It,R b1n [d] h=some (.tup [.agg (itr j),.int .i64 (a3X l).2.1,.int .i64 (a3X l).1],h)∧a1m j=(a3X l).2.2:=by
 obtain ⟨j,e1,r1⟩:=c8f l d (ckR (a1X ((l.take (num (l.take 4)).toNat).drop 4,false))) h hd hl hu fun j hj g=>by
  rw [← hj,b0S];exact b5d j g
 obtain ⟨j',e2,r2⟩:=d2X l d (ckR (rvI ((l.take (num (l.take 4)).toNat).drop 4,false))) h hd hl hu fun j hj g=>by
  rw [← hj,b0S]
  refine b5c j g fun p hp=>?_
  have hp:p∈(a1m j).fs:=hp
  rw [hj] at hp
  have:p.1.length≤((l.take (num (l.take 4)).toNat).drop 4).length:=c7R _ p hp
  have h2:((l.take (num (l.take 4)).toNat).drop 4).length≤l.length:=by simp;omega
  omega
 rw [c0a _ (ckR (a1X ((l.take (num (l.take 4)).toNat).drop 4,false))) l fun hh=>by rw [hh]] at e2 r2
 exact ⟨⟨j,e1,r1⟩,j',e2,r2⟩
theorem b6O {l:List Int} (h:(a3X l).1=0):8≤(a3X l).2.1∧(a3X l).2.1≤l.length∧∀ j:It,a1m j=(a3X l).2.2→((a2N j).length:Int)=(a3X l).2.1:=by
 unfold a3X a5N at h ⊢
 by_cases h1:l.length<4
 ·rw [if_pos h1] at h;cases h
 by_cases h2:num (l.take 4)<4∨(l.length:Int) - 4<num (l.take 4)
 ·rw [if_neg h1,if_pos h2] at h;cases h
 by_cases h3:a2t (l.take (num (l.take 4)).toNat)≠num ((l.drop (num (l.take 4)).toNat).take 4)
 ·rw [if_neg h1,if_neg h2,if_pos h3] at h;cases h
 by_cases h4:(a6H ((l.take (num (l.take 4)).toNat).drop 4,false)).2=true∨0<(a6H ((l.take (num (l.take 4)).toNat).drop 4,false)).1.length∨ckR (a1X ((l.take (num (l.take 4)).toNat).drop 4,false))≠0
 ·rw [if_neg h1,if_neg h2,if_neg h3,if_pos h4] at h;cases h
 rw [if_neg h1,if_neg h2,if_neg h3,if_neg h4]
 refine ⟨by simp only;omega,by simp only;omega,fun j hj=>?_⟩
 have hv:=c4x hj (by
  cases hh:(a6H ((l.take (num (l.take 4)).toNat).drop 4,false)).2
  ·rfl
  ·exact absurd (.inl hh) h4)
 have h0:(a6H ((l.take (num (l.take 4)).toNat).drop 4,false)).1.length=0:=by
  apply Classical.byContradiction
  intro hh
  exact h4 (.inr (.inl (by omega)))
 rw [h0] at hv
 simp only [d7v,d7w] at hv
 rw [a3y]
 simp only
 omega
theorem a8q:∀ (l:List Int),(∀ z∈l,U8 z)→sby (bys l)=l
 | [],_=>rfl
 | z::l,h=>by
  have ih:=a8q l fun x hx=>h x (by simp [-bind_some, hx])
  have hz:=h z (by simp)
  unfold U8 at hz
  unfold bys sby at ih ⊢
  rw [d7k,d7k,ih]
  congr 1
  have:(UInt8.ofNat z.toNat).toNat=z.toNat:=by simp;omega
  rw [this]
  omega
theorem d2e (v:Int) (n0:Nat):∀ (k:Nat),k≤8→∀ (h:Hp) (l:List Int) (d a:D),n0≤h.length→Own h n0 ty5 1 (l.map byr) d→l.length+k≤1000000000→∃ d' h' b,a0P (a7y (.int .i64 v)) [d,.int .i64 (8*((k:Int) - 1)),a] h=some (.ext 0,[d',b,.bool false],h')∧Bw n0 h d h' (l++a3B k v) d':=by
 intro k
 induction k with
 | zero =>
  intro _ h l d a hn ow hr
  rw [a2c]
  refine ⟨d,h,_,by simp [-bind_some, a7y];rfl,?_⟩
  simpa [-bind_some, a3B] using Bw.refl ow
 | succ k ih =>
  intro hk h l d a hn ow hr
  have hg:(0:Int)≤8*(((k+1:Nat):Int) - 1):=by omega
  have hw1:8*(((k+1:Nat):Int) - 1)=8*(k:Int):=by omega
  have hw2:IntKind.wrap .i64 (8*(k:Int) - 8)=8*((k:Int) - 1):=by rw [wrap_i64 (by omega) (by omega)];omega
  have h8:¬ (8*(k:Int))<0:=by omega
  have hmn:min (8*(k:Int)).toNat IntKind.i64.bits=8*k:=by
   have:IntKind.i64.bits=64:=rfl
   rw [this];omega
  obtain ⟨x',g,e1,B1⟩:=b5o (y := .sl 1 true [byr (IntKind.wrap .u8 (v.fdiv (2 ^ (8*k))))]) (m:=[IntKind.wrap .u8 (v.fdiv (2 ^ (8*k)))]) hn ow (a1d _ _ _ _) (by simp;omega)
  obtain ⟨d',h',b,e2,B2⟩:=ih (by omega) g _ x' (.bool true) (Nat.le_trans hn B1.len) B1.ow (by simp;omega)
  refine ⟨d',h',b,?_,?_⟩
  ·rw [a2c]
   rw [hw1] at hg ⊢
   simp only [a7y,a0g,a0q,bs,a3x,decide_eq_true hg,a0d,if_true,a4l,h8,if_false,hmn,c9t,b6z,show ∀ z,([[D.int .u8 z]]:List (List D))=[byr z] from fun _=>rfl,e1,a0D,hw2]
   exact e2
  ·have:=B1.trans B2
   simpa [-bind_some, a3B] using this
theorem c0Z (v:Int) (k:Nat) (hk:k≤8) (n0:Nat) (h:Hp) (l:List Int) (d:D) (hn:n0≤h.length) (ow:Own h n0 ty5 1 (l.map byr) d) (hr:l.length≤999999000):∃ d' h',R a4a [d,.int .i64 v,.int .i64 k] h=some (d',h')∧Bw n0 h d h' (l++a3B k v) d':=by
 obtain ⟨d',h',b,e1,B⟩:=d2e v n0 k hk h l d .any hn ow (by omega)
 refine ⟨d',h',?_,B⟩
 rw [d0Q]
 have hw:IntKind.wrap .i64 ((k:Int) - 1)=(k:Int) - 1:=by rw [wrap_i64 (by omega) (by omega)]
 have hw2:IntKind.wrap .i64 (8*((k:Int) - 1))=8*((k:Int) - 1):=by rw [wrap_i64 (by omega) (by omega)]
 simp only [c6c,bs,a0D,hw,a2D,hw2,d7c,e1,a0r,a0s,a0g,a0j]
theorem c8j (l:List Int) (d:D) (h:Hp) (hd:RdB h l d) (hl:l.length≤9223372036854775806) (hu:∀ z∈l,U8 z):R b4p [d] h=some (.int .i64 (a2t l),h):=by
 apply Wp.val
 rw [d0R]
 simp only [c6d,bs,d7c,a8n hd]
 refine Wp.loop (fun k ds g=>g=h∧∃ x y,∃ n:Nat,ds=[.int .u64 (a2t (l.take n)),x,.int .i64 n,y]∧k+n=l.length) (fun r=>r.1 = .ext 0∧r.2.2=h∧∃ a b c,r.2.1=[.int .u64 (a2t l),a,b,c]) l.length ⟨rfl,_,_,0,rfl,rfl⟩ ?_ ?_
 ·rintro k ds g ⟨rfl,x,y,n,rfl,hk⟩
  simp only [b3v,a0g,a0q,bs,d7c,a0n]
  refine Wp.dif ?_ ?_
  ·intro h0
   have h0:n<l.length:=dl_ h0
   obtain ⟨z,hz⟩:=gx_ h0
   have hzu:=hu z (d7q hz)
   obtain ⟨q,q1,q2⟩:=b8D hd n z hz
   have hr:=a3A (l.take n)
   have hw:=wi_ n (by omega)
   unfold U8 at hzu
   have w1:IntKind.wrap .u64 (a2t (l.take n)*31)=a2t (l.take n)*31:=a1w (by omega) (by omega)
   have w2:IntKind.wrap .u64 z=z:=a1w (by omega) (by omega)
   have w3:IntKind.wrap .u64 (a2t (l.take n)*31+z)=a2t (l.take n)*31+z:=a1w (by omega) (by omega)
   have w4:(a2t (l.take n)*31+z).tmod 4294967291=a2t (l.take (n+1)):=by
    rw [a7L hz,Int.tmod_eq_emod_of_nonneg (by omega)]
   simp only [a2D,w1,q1,q2,a6i,w2,a0t,w3,bs,a3j,show ¬ ((4294967291:Int)=0) by omega,if_false,w4,hw]
   exact .some (.inl ⟨rfl,k - 1,by omega,rfl,_,_,n+1,rfl,by omega⟩)
  ·intro h0
   have h0:n=l.length:=by
    have:¬ (n:Int)<l.length:=by simpa using h0
    omega
   subst h0
   rw [d7A]
   exact .some (.inr ⟨by simp,rfl,rfl,_,_,_,rfl⟩)
 ·rintro ⟨ex,ds,g⟩ ⟨rfl,q2,a,b,c,rfl⟩
  simp only at q2
  subst q2
  have hr:=a3A l
  simp only [a0r,a0s,bs,a0g,a3w,wrap_i64 (n:=a2t l) (by omega) (by omega),a0j]
  exact .some rfl
theorem c6v (x:Int):BitVec.ofInt 64 (IntKind.wrap .i64 x)=BitVec.ofInt 64 x:=by
 apply BitVec.eq_of_toInt_eq
 rw [BitVec.toInt_ofInt,BitVec.toInt_ofInt]
 unfold IntKind.wrap
 simp [-bind_some, IntKind.signed,IntKind.bits,IntKind.min,IntKind.max,Int.bmod]
 omega
theorem c7E {x b:Int} (h0:0≤x) (hb0:0≤b) (hb:b<256) (hx:x*256+b<18446744073709551616):IntKind.wrap .i64 (BitVec.ofInt IntKind.i64.bits (IntKind.wrap .i64 (x*256)) ||| BitVec.ofInt IntKind.i64.bits b).toNat=IntKind.wrap .i64 (x*256+b):=by
 have h1:=b8q (x:=x) (b:=b) 8 h0 hb0 (by omega) (by omega)
 rw [b1Y] at h1
 have h3:(2:Int) ^ 8=256:=by decide
 rw [h3] at h1
 have h2:((BitVec.ofInt 64 (IntKind.wrap .i64 (x*256)) ||| BitVec.ofInt 64 b).toNat:Int)=x*256+b:=by rw [c6v];exact h1
 exact congrArg (IntKind.wrap .i64) h2
theorem c4h (l:List Int) (d:D) (h:Hp) (hd:SlOf 1 byr l d) (hl:l.length≤8) (hu:∀ z∈l,U8 z):R b1t [d] h=some (.int .i64 (IntKind.wrap .i64 (num l)),h):=by
 apply Wp.val
 rw [d0U]
 simp only [c6g,bs,d7c,a1Z hd]
 have h00:IntKind.wrap .i64 (num (l.take 0))=0:=by simp [-bind_some, num];rfl
 refine Wp.loop (fun k ds g=>g=h∧∃ x y,∃ n:Nat,ds=[.int .i64 (IntKind.wrap .i64 (num (l.take n))),x,.int .i64 n,y]∧k+n=l.length) (fun r=>r.1 = .ext 0∧r.2.2=h∧∃ a b c,r.2.1=[.int .i64 (IntKind.wrap .i64 (num l)),a,b,c]) l.length ⟨rfl,_,_,0,by rw [h00];rfl,rfl⟩ ?_ ?_
 ·rintro k ds g ⟨rfl,x,y,n,rfl,hk⟩
  simp only [b3w,a0g,a0q,bs,d7c,a0n]
  refine Wp.dif ?_ ?_
  ·intro h0
   have h0:n<l.length:=dl_ h0
   obtain ⟨z,hz⟩:=gx_ h0
   have hzu:=hu z (d7q hz)
   have hw:=wi_ n (by omega)
   unfold U8 at hzu
   obtain ⟨hn0,hn1⟩:=a2n n (l.take n) (by simp;omega) fun z hz=>hu z (List.mem_of_mem_take hz)
   have hb:num (l.take n)<72057594037927936:=by
    have:n=0∨n=1∨n=2∨n=3∨n=4∨n=5∨n=6∨n=7:=by omega
    rcases this with rfl | rfl | rfl | rfl | rfl | rfl | rfl | rfl <;> omega
   have m3:min ((8:Int).toNat) IntKind.i64.bits=8:=by decide
   have p3:(2:Int) ^ 8=256:=by decide
   have w0:IntKind.wrap .i64 (num (l.take n))=num (l.take n):=wrap_i64 (by omega) (by omega)
   have w2:IntKind.wrap .i64 z=z:=wrap_i64 (by omega) (by omega)
   have w3:=c7E (x:=num (l.take n)) (b:=z) hn0 (by omega) (by omega) (by omega)
   have hii:a0c tab a0N d (.int .i64 (n:Int))=some (.fptr (byr z)):=by rw [c0A hd];simp [-bind_some, hz]
   rw [← a7D hz] at w3
   simp only [w0,hii,b3D,bs,a9U,show ¬ (8:Int)<0 by omega,if_false,m3,p3,c9u,w2,b2h,w3,a0t,hw]
   exact .some (.inl ⟨rfl,k - 1,by omega,rfl,_,_,n+1,rfl,by omega⟩)
  ·intro h0
   have h0:n=l.length:=by
    have:¬ (n:Int)<l.length:=by simpa using h0
    omega
   subst h0
   rw [d7A]
   exact .some (.inr ⟨by simp,rfl,rfl,_,_,_,rfl⟩)
 ·rintro ⟨ex,ds,g⟩ ⟨rfl,q2,a,b,c,rfl⟩
  simp only at q2
  subst q2
  simp only [a0r,a0s,bs,a0g,a0j]
  exact .some rfl
abbrev FM:=Int × Int
def mkr (m:FM):List D:=[.int .i64 m.1,.int .i64 m.2]
theorem c1P (m:FM) (h:Hp):a0b tab h a0K (.fptr (mkr m))=some (.agg (mkr m)):=id rfl
theorem b4K (m:FM):a0a tab a0K 0 (.fptr (mkr m))=some (.fptr (mkr m)):=id rfl
theorem b1F (m:FM):a0a tab a0K 1 (.fptr (mkr m))=some (.fptr [.int .i64 m.2]):=id rfl
theorem b4L (m:FM) (h:Hp):a0b tab h ty3 (.fptr (mkr m))=some (.int .i64 m.1):=id rfl
theorem b1G (n:Int) (h:Hp):a0b tab h ty3 (.fptr [.int .i64 n])=some (.int .i64 n):=id rfl
theorem b8j (m:FM):a3s 2 (.agg (mkr m))=some (.fptr (mkr m)):=a1T 2 _ rfl
def svr (n:Int) (dm dq:D):List D:=[.int .i64 n,dm,dq]
theorem sv0 (n:Int) (dm dq:D):a0a tab a0f 0 (.fptr (svr n dm dq))=some (.fptr (svr n dm dq)):=id rfl
theorem sv1 (n:Int) (dm dq:D):a0a tab a0f 1 (.fptr (svr n dm dq))=some (.fptr [dm,dq]):=id rfl
theorem sv2 (n:Int) (dm dq:D):a0a tab a0f 2 (.fptr (svr n dm dq))=some (.fptr [dq]):=id rfl
theorem c4P (n:Int) (dm dq:D) (g:Hp):a0b tab g ty3 (.fptr (svr n dm dq))=some (.int .i64 n):=id rfl
theorem svl (n:Int) (dm dq:D) (g:Hp):a0b tab g a0f (.fptr (svr n dm dq))=some (.agg (svr n dm dq)):=id rfl
def a7d:List FM→Bool
 | a::b::r=>decide (a.1<b.1)&&a7d (b::r)
 | _=>true
def a6C (ms:List FM):Bool:=ms.any fun m=>decide (m.1<0)||decide (m.2<0)
def stC (n:Int) (ms:List FM) (k:Nat):Int:=if n<0 then 2 else if a7d ms=false then 19 else if a6C ms=true then 2 else if 1000<ms.length∨1000<k then 4 else 0
theorem c8i (n:Int) (ms:List FM) (k:Nat) (dm dq:D) (h:Hp) (hm:SlOf 2 mkr ms dm) (hq:a0y tab a1x dq=some (.int .i64 k)) (hl:ms.length≤9000000000000000000):R b1s [.agg (svr n dm dq)] h=some (.int .i64 (stC n ms k),h):=by
 apply Wp.val
 rw [d0P]
 simp only [c6b,bs,a1M,sv0,sv1,c4P,a3J,d7c,a0n]
 by_cases hn:n<0
 ·simp only [hn,decide_true,a0d,if_true,a0j]
  exact .some (by simp [-bind_some, stC,hn])
 simp only [hn,decide_false,a0d,d7d,if_false]
 refine Wp.loop (fun j ds g=>g=h∧∃ a b,∃ i:Nat,ds=[.int .i64 0,.int .i64 (i+1:Nat),a,b]∧j+i=ms.length∧a7d (ms.drop i)=a7d ms) (fun r=>r.2.2=h∧((r.1 = .ext 0∧a7d ms=true∧∃ a b c,r.2.1=[.int .i64 0,a,b,c])∨(r.1 = .ret∧a7d ms=false∧nth 0 r.2.1 = .int .i64 19))) ms.length ⟨rfl,_,_,0,rfl,rfl,rfl⟩ ?_ ?_
 ·rintro j ds g ⟨rfl,a,b,i,rfl,hj,has⟩
  simp only [b3t,a0g,a0q,bs,d7c,sv1,a3J,a3z hm,a0n]
  refine Wp.dif ?_ ?_
  ·intro h0
   have h0:i+1<ms.length:=by
    have:((i+1:Nat):Int)<ms.length:=by simpa using h0
    omega
   have hx:ms[i]?=some ms[i]:=d7r (by omega)
   have hy:ms[i+1]?=some ms[i+1]:=d7r h0
   rw [List.drop_eq_getElem_cons (by omega),List.drop_eq_getElem_cons h0] at has
   have hd1:ms.drop (i+1)=ms[i+1]::ms.drop (i+1+1):=List.drop_eq_getElem_cons h0
   generalize ms[i]=x at *
   generalize ms[i+1]=y at *
   have hw:IntKind.wrap .i64 (((i+1:Nat):Int)+1)=((i+1+1:Nat):Int):=by rw [wrap_i64 (by omega) (by omega)];omega
   have hw2:IntKind.wrap .i64 (((i+1:Nat):Int) - 1)=(i:Int):=by rw [wrap_i64 (by omega) (by omega)];omega
   simp only [a6Q hm,Int.natCast_nonneg,if_true,d7l,hx,hy,Option.map_some,bs,b4K,b4L,a0D,hw2,a1S]
   by_cases hxy:y.1≤x.1
   ·have:a7d ms=false:=by rw [← has];simp [-bind_some, a7d,show ¬ x.1<y.1 by omega]
    simp only [hxy,decide_true,a0d,if_true]
    exact .some (.inr ⟨by simp,rfl,.inr ⟨rfl,this,rfl⟩⟩)
   ·have:a7d (y::ms.drop (i+1+1))=a7d ms:=by rw [← has];simp [-bind_some, a7d,show x.1<y.1 by omega]
    simp only [hxy,decide_false,a0d,d7d,if_false,a0t,hw]
    exact .some (.inl ⟨rfl,j - 1,by omega,rfl,_,_,i+1,rfl,by omega,by rw [hd1];exact this⟩)
  ·intro h0
   have h0:¬ i+1<ms.length:=by
    have:¬ ((i+1:Nat):Int)<ms.length:=by simpa using h0
    omega
   have:a7d ms=true:=by
    rw [← has]
    cases hdr:ms.drop i with
    | nil=>rfl
    | cons x r =>
     have:(ms.drop i).length=(x::r).length:=by rw [hdr]
     simp at this
     have hr:r=[]:=List.eq_nil_of_length_eq_zero (by omega)
     subst hr;rfl
   exact .some (.inr ⟨by simp,rfl,.inl ⟨rfl,this,_,_,_,rfl⟩⟩)
 ·rintro ⟨ex,ds,g⟩ ⟨rfl,hc⟩
  rcases hc with ⟨rfl,has,a,b,c,rfl⟩ | ⟨rfl,has,h0⟩
  case inr =>
   simp only [a1O,a1N,a1L,a0g,h0,bs,a0j]
   exact .some (by simp [-bind_some, stC,hn,has])
  simp only [a0r,a0s,bs,a0g,a0q,a3z hm,sv1,a3J,d7c]
  refine Wp.loop (fun j ds g'=>g'=g∧∃ a b c,∃ i:Nat,ds=[.int .i64 0,a,.int .i64 i,b,c]∧j+i=ms.length∧a6C (ms.drop i)=a6C ms) (fun r=>r.2.2=g∧((r.1 = .ext 2∧a6C ms=false∧∃ a b c e,r.2.1=[.int .i64 0,a,b,c,e])∨(r.1 = .ret∧a6C ms=true∧nth 0 r.2.1 = .int .i64 2))) ms.length ⟨rfl,_,_,_,0,rfl,rfl,rfl⟩ ?_ ?_
  ·rintro j ds g' ⟨rfl,a,b,c,i,rfl,hj,hne⟩
   simp only [b3u,a0g,a0q,bs,d7c,a0n]
   refine Wp.dif ?_ ?_
   ·intro h0
    have h0:i<ms.length:=dl_ h0
    have hx:ms[i]?=some ms[i]:=d7r h0
    rw [List.drop_eq_getElem_cons h0] at hne
    generalize ms[i]=x at *
    have hw:=wi_ i (by omega)
    simp only [a6Q hm,Int.natCast_nonneg,if_true,d7l,hx,Option.map_some,bs,c1P,b8j,b4K,b1F,b4L,b1G,a0n]
    by_cases h1:x.1<0
    ·have:a6C ms=true:=by rw [← hne];simp [-bind_some, a6C,h1]
     simp only [h1,decide_true,a0o,reduceCtorEq,d7e,if_false,bs,a0e,if_true,a0d]
     exact .some (.inr ⟨by simp,rfl,.inr ⟨rfl,this,rfl⟩⟩)
    ·by_cases h2:x.2<0
     ·have:a6C ms=true:=by rw [← hne];simp [-bind_some, a6C,h2]
      simp only [h1,h2,b1F,b1G,decide_true,decide_false,a0o,reduceCtorEq,d7d,if_false,bs,a0e,if_true,a0d,a0n]
      exact .some (.inr ⟨by simp,rfl,.inr ⟨rfl,this,rfl⟩⟩)
     ·have:a6C (ms.drop (i+1))=a6C ms:=by rw [← hne];simp [-bind_some, a6C,h1,h2]
      simp only [h1,h2,b1F,b1G,decide_true,decide_false,a0o,reduceCtorEq,d7d,if_false,bs,a0e,if_true,a0d,a0n,a0t,hw]
      exact .some (.inl ⟨rfl,j - 1,by omega,rfl,_,_,_,i+1,rfl,by omega,this⟩)
   ·intro h0
    have h0:¬ i<ms.length:=by
     have:¬ (i:Int)<ms.length:=by simpa using h0
     omega
    have:a6C ms=false:=by rw [← hne,List.drop_of_length_le (by omega)];rfl
    exact .some (.inr ⟨by simp,rfl,.inl ⟨rfl,this,_,_,_,_,rfl⟩⟩)
  ·rintro ⟨ex,ds,g'⟩ ⟨rfl,hc⟩
   rcases hc with ⟨rfl,hne,a,b,c,e,rfl⟩ | ⟨rfl,hne,h0⟩
   case inr =>
    simp only [a1O,a1N,a1L,a0g,h0,bs,a0j]
    exact .some (by simp [-bind_some, stC,hn,has,hne])
   simp only [a0r,a0s,bs,a0g,a0q,a3z hm,sv1,a3J,a0u]
   by_cases h1:1000<ms.length
   ·have h1':(1000:Int)<ms.length:=by omega
    simp only [h1',decide_true,a0o,reduceCtorEq,d7e,if_false,bs,a0e,if_true,a0d,a0j]
    exact .some (by simp [-bind_some, stC,hn,has,hne,h1])
   ·have h1':¬ (1000:Int)<ms.length:=by omega
    have h2':(decide ((1000:Int)<k))=decide (1000<k):=by
     by_cases hk:1000<k
     ·have:(1000:Int)<k:=by omega
      simp [-bind_some, hk,this]
     ·have:¬ (1000:Int)<k:=by omega
      simp [-bind_some, hk,this]
    simp only [h1',decide_false,a0o,d7d,reduceCtorEq,if_false,if_true,bs,a0e,sv2,b2z,hq,a0u,h2']
    refine Wp.dif (fun hk=>?_) (fun hk=>?_)
    ·have hk:1000<k:=by simpa using hk
     simp only [a0j]
     exact .some (by simp [-bind_some, stC,hn,has,hne,h1,hk])
    ·have hk:¬ 1000<k:=by simpa using hk
     simp only [a0j]
     exact .some (by simp [-bind_some, stC,hn,has,hne,h1,hk])
theorem d2t (n:Int):pI n=a3B 8 n:=by
 unfold pI
 rw [a6I]
 simp only [a3B,a6J,Int.fdiv_eq_ediv_of_nonneg _ (Int.le_of_lt (Int.pow_pos (show (0:Int)<2 by omega))),List.cons.injEq,and_true]
 simp only [show (2:Int) ^ (8*0)=1 by decide,
  show (2:Int) ^ (8*1)=256 by decide,
  show (2:Int) ^ (8*2)=65536 by decide,
  show (2:Int) ^ (8*3)=16777216 by decide,
  show (2:Int) ^ (8*4)=4294967296 by decide,
  show (2:Int) ^ (8*5)=1099511627776 by decide,
  show (2:Int) ^ (8*6)=281474976710656 by decide,
  show (2:Int) ^ (8*7)=72057594037927936 by decide]
 omega
theorem c3M (n:Nat):pN n=a3B 4 (n:Int):=by
 unfold pN
 rw [a6I]
 simp only [a3B,a6J,Int.fdiv_eq_ediv_of_nonneg _ (Int.le_of_lt (Int.pow_pos (show (0:Int)<2 by omega))),List.cons.injEq,and_true]
 simp only [show (2:Int) ^ (8*0)=1 by decide,
  show (2:Int) ^ (8*1)=256 by decide,
  show (2:Int) ^ (8*2)=65536 by decide,
  show (2:Int) ^ (8*3)=16777216 by decide]
 omega
theorem b2M {n0:Nat} {h0 h:Hp} {d0 d:D} {l:List Int} (B:Bw n0 h0 d0 h l d) (hn:n0≤h.length) (n:Int) (hr:l.length≤999999000) {β:Type} {f:D × Hp→Option β} {Q:β→Prop}
  (k:∀ d' h',Bw n0 h0 d0 h' (l++pI n) d'→n0≤h'.length→Wp (f (d',h')) Q):Wp ((R a4a [d,.int .i64 n,.int .i64 8] h).bind f) Q:=by
 obtain ⟨d',h',e,B1⟩:=c0Z n 8 (by omega) n0 h l d hn B.ow hr
 rw [← d2t] at B1
 exact Wp.step e (k d' h' (B.trans B1) (Nat.le_trans hn B1.len))
theorem b8v {n0:Nat} {h0 h:Hp} {d0 d:D} {l:List Int} (B:Bw n0 h0 d0 h l d) (hn:n0≤h.length) (n:Int) (hr:l.length≤999999000) {β:Type} {f:D × Hp→Option β} {Q:β→Prop}
  (k:∀ d' h',Bw n0 h0 d0 h' (l++a3B 4 n) d'→n0≤h'.length→Wp (f (d',h')) Q):Wp ((R a4a [d,.int .i64 n,.int .i64 4] h).bind f) Q:=by
 obtain ⟨d',h',e,B1⟩:=c0Z n 4 (by omega) n0 h l d hn B.ow hr
 exact Wp.step e (k d' h' (B.trans B1) (Nat.le_trans hn B1.len))
def mkB (m:FM):List Int:=pI m.1++pI m.2
def a1E (n:Int) (ms:List FM) (its:List It):List Int:=pI n++pN ms.length++(ms.map mkB).flatten++pN its.length++(its.map a2N).flatten
def magS:List Int:=[76,84,49,10]
def a3i (b:List Int):List Int:=magS++pN b.length++b
def b0b (n:Int) (ms:List FM) (its:List It):List Int:=a3i (a1E n ms its)++a3B 4 (a2t (a3i (a1E n ms its)))
def a7B:List It→Int
 | []=>0
 | i::r=>if itE i=0 then a7B r else itE i
def stE (n:Int) (ms:List FM) (its:List It):Int:=if stC n ms its.length=0 then a7B its else stC n ms its.length
theorem c3H (m:FM):(mkB m).length=16:=by simp [-bind_some, mkB,a1k]
theorem a4X (ms:List FM):(ms.map mkB).flatten.length=16*ms.length:=by
 induction ms with
 | nil=>rfl
 | cons m r ih=>rw [d7k,List.flatten_cons,d7h,ih,c3H,d7t];omega
theorem a6e (n:Int) (ms:List FM) (its:List It):(a1E n ms its).length=16+16*ms.length+(its.map a2N).flatten.length:=by
 simp only [a1E,d7h,a1k,a1G,a4X];omega
theorem a4b (b:List Int):(a3i b).length=8+b.length:=by simp [-bind_some, a3i,magS,a1G];omega
theorem a6m (n:Int) (ms:List FM) (its:List It):(b0b n ms its).length=28+16*ms.length+(its.map a2N).flatten.length:=by
 simp only [b0b,d7h,a4b,a6e,a1b];omega
theorem c7J (n:Int):∀ z∈pI n,U8 z:=a4t _ _
theorem c3N (n:Nat):∀ z∈pN n,U8 z:=a4t _ _
theorem b2r {α:Type} (f:α→List Int) (l:List α) (hf:∀ a,∀ z∈f a,U8 z):∀ z∈(l.map f).flatten,U8 z:=fun z hz=>by
 obtain ⟨m,hm,hz⟩:=List.mem_flatten.1 hz
 obtain ⟨a,_,rfl⟩:=d7z.1 hm
 exact hf a z hz
theorem a9Q (n:Int) (ms:List FM) (its:List It):∀ z∈a1E n ms its,U8 z:=fun z hz=>by
 simp only [a1E,d7y] at hz
 rcases hz with (((hz | hz) | hz) | hz) | hz
 ·exact c7J _ z hz
 ·exact c3N _ z hz
 ·exact b2r mkB ms (fun a z hz=>by
    simp only [mkB,d7y] at hz
    rcases hz with hz | hz <;> exact c7J _ z hz) z hz
 ·exact c3N _ z hz
 ·exact b2r a2N its c2W z hz
theorem b0n {b:List Int} (hb:∀ z∈b,U8 z):∀ z∈a3i b,U8 z:=fun z hz=>by
 simp only [a3i,d7y] at hz
 rcases hz with (hz | hz) | hz
 ·exact (show ∀ z∈magS,U8 z by unfold magS U8;decide) z hz
 ·exact c3N _ z hz
 ·exact hb z hz
theorem b7a (n:Int) (ms:List FM) (its:List It):∀ z∈b0b n ms its,U8 z:=fun z hz=>by
 simp only [b0b,d7y] at hz
 rcases hz with hz | hz
 ·exact b0n (a9Q _ _ _) z hz
 ·exact a4t _ _ z hz
theorem a8d:∀ (l:List It) (n:Nat) (i:It),a7B (l.take n)=0→l[n]?=some i→(itE i≠0→a7B l=itE i)∧(itE i=0→a7B (l.take (n+1))=0)
 | [],n,i,_,hi=>by cases hi
 | x::r,0,i,_,hi=>by
  have hx:x=i:=by simpa using hi
  subst hx
  constructor
  ·intro h;simp [-bind_some, a7B,h]
  ·intro h;simp [-bind_some, a7B,h]
 | x::r,n+1,i,h,hi=>by
  simp only [List.take_succ_cons,a7B] at h
  split at h
  ·rename_i h0
   obtain ⟨a,b⟩:=a8d r n i h (by simpa using hi)
   exact ⟨fun hh=>by simp [-bind_some, a7B,h0,a hh],fun hh=>by simp [-bind_some, a7B,h0,b hh]⟩
  ·rename_i h0;exact absurd h h0
theorem c1O {g:Hp} {o n:Nat} {rows:List (List D)} (ho:g[o]?=some (.row ty5 1 rows)):b2i tab g a0N a0N (.msl 1 o 0 n)=some (.msl 1 o 0 n,g):=by
 have h1:tab a0N=some ti22:=id rfl
 have h2:ti22.td = .sl ty5:=id rfl
 have h3:tab ty5=some ti5:=id rfl
 have h4:ti5.td = .int .u8:=id rfl
 simp only [b2i,h1,h2,h3,ho,h4,if_true]
theorem b4G:lt22_50.map (fun n=>[D.int .u8 n])=magS.map byr:=id rfl
theorem c1m:lt22_51.map (fun n=>[D.int .u8 n])=[0,0,0,0].map byr:=id rfl
theorem c9r {g:Hp} {o:Nat} {p q m r:List Int} {y:D} (ho:g[o]?=some (.row ty5 1 ((p++q++r).map byr))) (hy:a1R g 1 y=some (m.map byr)) (hl:m.length=q.length):∃ g' c,a7Q tab g a0N a0N (.msl 1 o p.length (q++r).length) y=some (c,g')∧g'[o]?=some (.row ty5 1 ((p++m++r).map byr))∧Same o g g':=by
 have h1:tab a0N=some ti22:=id rfl
 have h2:ti22.td = .sl ty5:=id rfl
 have h3:tab ty5=some ti5:=id rfl
 have h4:ti5.sz=1:=id rfl
 have hs:b5r g ti22 ti5 y=some (m.map byr):=by simp only [b5r,h2,h4,hy]
 have hn:b4P ti22=true:=rfl
 have hb:Nat.blt 0 1=true:=rfl
 have holt:=(d7s.1 ho).1
 have hmin:min (m.map byr).length (q++r).length=m.length:=by simp;omega
 have e1:(m.map byr).take (q++r).length=m.map byr:=List.take_of_length_le (by simp;omega)
 have e2:((p++q++r).map byr).take p.length=p.map byr:=by rw [List.append_assoc,d7j,List.take_left' (by simp)]
 have e3:((p++q++r).map byr).drop (p.length+m.length)=r.map byr:=by rw [d7j,List.drop_left' (by simp;omega)]
 have e4:a7Q tab g a0N a0N (.msl 1 o p.length (q++r).length) y=some (.int .i64 (m.length:Nat),g.set o (.row ty5 1 ((p++m++r).map byr))):=by
  simp only [a7Q,h1,h2,hn,h3,h4,hb,hs,ho,and_self,if_true,hmin,e1,e2,e3]
  simp only [d7j]
 exact ⟨_,_,e4,by rw [List.getElem?_set_self holt],⟨by simp,fun q hq=>d7C (Ne.symm hq)⟩⟩
theorem c8h (n:Int) (ms:List FM) (its:List It) (dm dq:D) (h:Hp) (hm:SlOf 2 mkr ms dm) (hq:SlOf 11 itr its dq) (hl:ms.length≤1000000) (hT:(its.map a2N).flatten.length≤700000000) (hb:∀ i∈its,(a1r i).length≤800000000) (hck:∀ i∈its,∀ g,R a5E [.agg (itr i)] g=some (.int .i64 (itE i),g)) :
  ∃ d',R a7Z [.agg (svr n dm dq)] h=some (.tup [d',.int .i64 (stE n ms its)],h)∧SlOf 1 byr (if stE n ms its=0 then b0b n ms its else []) d':=by
 suffices Wp (R a7Z [.agg (svr n dm dq)] h) (fun p=>p.2=h∧∃ d',p.1 = .tup [d',.int .i64 (stE n ms its)]∧SlOf 1 byr (if stE n ms its=0 then b0b n ms its else []) d') by
  obtain ⟨⟨x,h'⟩,h1,rfl,d',rfl,h2⟩:=this
  exact ⟨d',h1,h2⟩
 have hlq:=a6S hq
 have hil:=a6v a2N 8 its fun a _=>by rw [a3y];omega
 have hchk:=c8i n ms its.length dm dq h hm hlq (by omega)
 have nils:∀ (g:Hp) (e:Int),h.length≤g.length→(∀ q,q<h.length→g[q]?=h[q]?)→scope h g (.tup [.nils,.int .i64 e])=some (.tup [.nils,.int .i64 e],h):=fun g e hg hk =>
  a1n (by simp) (.tup _ fun d hd=>by simp at hd;rcases hd with rfl | rfl <;> constructor) hg hk
 rw [d0M]
 simp only [c5Y,a1M,svl,bs,hchk,a0w,d7c,a1c]
 by_cases hc:stC n ms its.length=0
 case neg =>
  have hE:stE n ms its=stC n ms its.length:=by unfold stE;rw [if_neg hc]
  have hcc:decide (stC n ms its.length≠0)=true:=decide_eq_true hc
  simp only [hcc,a0d,if_true,nils h _ (Nat.le_refl _) (fun _ _=>rfl)]
  exact .some ⟨rfl,.nils,by rw [hE],by rw [if_neg (by rw [hE];exact hc)];exact .nils _ _⟩
 have hE:stE n ms its=a7B its:=by unfold stE;rw [if_pos hc]
 have hcc:decide (stC n ms its.length≠0)=false:=decide_eq_false (by rw [hc];simp [-bind_some])
 have h1000:ms.length≤1000:=by
  unfold stC at hc
  split at hc
  ·cases hc
  split at hc
  ·cases hc
  split at hc
  ·cases hc
  split at hc
  ·cases hc
  ·omega
 have g0:(a0H h ty5 1 (magS.map byr))[h.length]?=some (.row ty5 1 (magS.map byr)):=a1a _ _ _ _
 have o0:Own (a0H h ty5 1 (magS.map byr)) h.length ty5 1 (magS.map byr) (.msl 1 h.length 0 4) := .inr ⟨h.length,Nat.le_refl _,rfl,g0⟩
 have l0:h.length≤(a0H h ty5 1 (magS.map byr)).length:=by simp [-bind_some, a0H]
 have k0:∀ q,q<h.length→(a0H h ty5 1 (magS.map byr))[q]?=h[q]?:=fun q hq=>a0W _ _ _ _ hq
 simp only [hcc,a0d,d7d,if_false,a8l,b5D,b4G,c1m,bs,c1O g0,sv0,sv1,c4P,a3J,a3z hm]
 generalize a0H h ty5 1 (magS.map byr)=G0 at *
 have B0:Bw h.length h .nils G0 magS (.msl 1 h.length 0 4):=⟨o0,l0,fun q hq _=>k0 q hq,fun q hq => .inr (o0.lt hq).1⟩
 refine b3B B0 l0 (a1d _ _ _ _) (by simp [-bind_some, magS]) fun d1 g1 B1 n1=>?_
 simp only [bs]
 refine b2M B1 n1 n (by simp [-bind_some, magS]) fun d2 g2 B2 n2=>?_
 simp only [bs]
 refine b8v B2 n2 _ (by simp [-bind_some, magS,a1k]) fun d3 g3 B3 n3=>?_
 rw [← c3M] at B3
 simp only [a1H,bs,d7c]
 generalize hA:magS++[0,0,0,0]++pI n++pN ms.length=A at B3
 have hAl:A.length=20:=by rw [← hA];simp [-bind_some, magS,a1k,a1G]
 -- the marks
 refine Wp.loop (fun k ds g=>h.length≤g.length∧∃ d' a b,∃ i:Nat,ds=[d',a,.int .i64 i,b]∧k+i=ms.length∧Bw h.length h .nils g (A++((ms.take i).map mkB).flatten) d')
  (fun r=>r.1 = .ext 0∧h.length≤r.2.2.length∧∃ d' a b c,r.2.1=[d',a,b,c]∧Bw h.length h .nils r.2.2 (A++(ms.map mkB).flatten) d') ms.length ⟨n3,_,_,_,0,rfl,rfl,by simpa using B3⟩ ?_ ?_
 ·rintro k ds g ⟨hg,d',a,b,i,rfl,hk,B⟩
  simp only [b3p,a0g,a0q,bs,d7c,a0n]
  refine Wp.dif ?_ ?_
  ·intro h0
   have h0:i<ms.length:=dl_ h0
   obtain ⟨x,hx⟩:=gx_ h0
   have hw:=wi_ i (by omega)
   have hml:=a4X (ms.take i)
   have hml2:(ms.take i).length≤1000:=by simp;omega
   simp only [a6Q hm,Int.natCast_nonneg,if_true,d7l,hx,Option.map_some,bs,c1P,b8j,b4K,b1F,b4L,b1G]
   refine b2M B hg _ (by rw [d7h,hml];omega) fun d4 g4 B4 n4=>?_
   simp only [bs]
   refine b2M B4 n4 _ (by simp only [d7h,hml,a1k];omega) fun d5 g5 B5 n5=>?_
   simp only [a1H,bs,a0t,hw]
   refine .some (.inl ⟨rfl,k - 1,by omega,n5,_,_,_,i+1,rfl,by omega,?_⟩)
   rw [a1y mkB hx]
   simpa [-bind_some, mkB] using B5
  ·intro h0
   have h0:i=ms.length:=by
    have:¬ (i:Int)<ms.length:=by simpa using h0
    omega
   subst h0
   rw [d7A] at B
   exact .some (.inr ⟨by simp,rfl,hg,_,_,_,_,rfl,B⟩)
 rintro ⟨ex,ds,g4⟩ ⟨rfl,n4,d4,a,b,c,rfl,B4⟩
 simp only at n4 B4
 have hml:=a4X ms
 simp only [a0r,a0s,bs,a0g,a0q,sv2,b2z,hlq,d7c]
 refine b8v B4 n4 _ (by rw [d7h,hml];omega) fun d5 g5 B5 n5=>?_
 rw [← c3M] at B5
 simp only [bs,d7c]
 generalize hA2:A++(ms.map mkB).flatten++pN its.length=A2 at B5
 have hA2l:A2.length≤16024:=by rw [← hA2];simp only [d7h,hml,a1G];omega
 refine Wp.loop (fun k ds g=>h.length≤g.length∧∃ d' a3 a4 a5 a7 a8,∃ i:Nat,ds=[.nils,.int .i64 0,d',a3,a4,a5,.int .i64 i,a7,a8]∧k+i=its.length∧a7B (its.take i)=0∧Bw h.length h .nils g (A2++((its.take i).map a2N).flatten) d')
  (fun r=>h.length≤r.2.2.length∧(∀ q,q<h.length→r.2.2[q]?=h[q]?)∧((r.1 = .ext 2∧a7B its=0∧∃ d' a0 a1 a3 a4 a5 a6 a7 a8,r.2.1=[a0,a1,d',a3,a4,a5,a6,a7,a8]∧Bw h.length h .nils r.2.2 (A2++(its.map a2N).flatten) d')∨(r.1 = .ret∧a7B its≠0∧nth 0 r.2.1 = .nils∧nth 1 r.2.1 = .int .i64 (a7B its)))) its.length ⟨n5,_,_,_,_,_,_,0,rfl,rfl,rfl,by simpa using B5⟩ ?_ ?_
 ·rintro k ds g ⟨hg,d',a3,a4,a5,a7,a8,i,rfl,hk,hz,B⟩
  simp only [b3q,a0g,a0q,bs,d7c,a0n]
  refine Wp.dif ?_ ?_
  ·intro h0
   have h0:i<its.length:=dl_ h0
   obtain ⟨x,hx⟩:=gx_ h0
   have hxm:=d7q hx
   have hw:=wi_ i (by omega)
   obtain ⟨e1,e2⟩:=a8d its i x hz hx
   obtain ⟨de,ee,he⟩:=d2W x (itE x) g (hck x hxm) (hb x hxm)
   simp only [b4y hq,Int.natCast_nonneg,if_true,d7l,hx,Option.map_some,bs,d2f,c2D,ee,a0J,d7f,d7g,a0w]
   by_cases hxe:itE x=0
   ·have hdd:decide (itE x≠0)=false:=decide_eq_false (by rw [hxe];simp [-bind_some])
    rw [if_pos hxe] at he
    have hle:=a5P a2N its (i+1)
    rw [a1y a2N hx,d7h] at hle
    simp only [hdd,a0d,d7d,if_false]
    refine b3B B hg (a4u (.inl he)) (by simp only [d7h];omega) fun d6 g6 B6 n6=>?_
    simp only [bs,a0t,hw]
    refine .some (.inl ⟨rfl,k - 1,by omega,n6,_,_,_,_,_,_,i+1,rfl,by omega,e2 hxe,?_⟩)
    rw [a1y a2N hx]
    simpa using B6
   ·have hdd:decide (itE x≠0)=true:=decide_eq_true hxe
    simp only [hdd,a0d,if_true]
    exact .some (.inr ⟨by simp,hg,fun q hq=>B.old q hq (a6D q),.inr ⟨rfl,by rw [e1 hxe];exact hxe,rfl,by rw [e1 hxe];rfl⟩⟩)
  ·intro h0
   have h0:i=its.length:=by
    have:¬ (i:Int)<its.length:=by simpa using h0
    omega
   subst h0
   rw [d7A] at B hz
   exact .some (.inr ⟨by simp,hg,fun q hq=>B.old q hq (a6D q),.inl ⟨rfl,hz,_,_,_,_,_,_,_,_,_,rfl,B⟩⟩)
 rintro ⟨ex,ds,g⟩ ⟨hg,hk,hcs⟩
 simp only at hg hk
 rcases hcs with ⟨rfl,hz,d',a0,a1,a3,a4,a5,a6,a7,a8,rfl,B⟩ | ⟨rfl,hz,hn0,hn1⟩
 case inr =>
  simp only [a1O,a1N,a1L,a0g,a0q,hn0,hn1,bs,nils g _ hg hk]
  exact .some ⟨rfl,.nils,by rw [hE],by rw [if_neg (by rw [hE];exact hz)];exact .nils _ _⟩
 simp only at B
 rw [hE,hz,if_pos rfl]
 -- the length written over the noughts
 have hbody:A2++(its.map a2N).flatten=magS++[0,0,0,0]++a1E n ms its:=by rw [← hA2,← hA];simp [-bind_some, a1E]
 rw [hbody] at B
 have hbl:=a6e n ms its
 obtain ⟨o,ho,hd',go⟩:=a8m B.ow (i:=0) (by simp [-bind_some, magS])
 have hlen:((magS++[0,0,0,0]++a1E n ms its).map byr).length=8+(a1E n ms its).length:=by simp [-bind_some, magS];omega
 rw [hlen] at hd'
 subst hd'
 have hsl:a0A tab a0N true false false [.msl 1 o 0 (8+(a1E n ms its).length),.int .i64 4]=some (.msl 1 o 4 (4+(a1E n ms its).length)):=by
  have:=c7z (T:=tab) (t:=a0N) (e:=ty5) (z:=1) (o:=o) (r:=0) (n:=8+(a1E n ms its).length) (i:=ti22) (j:=ti5) (id rfl) (id rfl) (id rfl) (id rfl) (by omega) (k := .i64) (m:=4) (by omega) (by omega)
  rw [show 0+4=4 from rfl,show 8+(a1E n ms its).length - 4=4+(a1E n ms its).length by omega] at this
  exact this
 have hw72:IntKind.wrap .i64 (((8+(a1E n ms its).length:Nat):Int) - 8)=((a1E n ms its).length:Int):=by rw [wrap_i64 (by omega) (by omega)];omega
 simp only [a0r,a0s,bs,a0g,a0q,hsl,a7m,a0D,hw72,d7c]
 obtain ⟨dl,gl',el,Bl⟩:=c0Z ((a1E n ms its).length:Int) 4 (by omega) g.length g [] .nils (Nat.le_refl _) (Own.nils _ _ _ _) (by simp)
 have el:R a4a [.nils,.int .i64 ((a1E n ms its).length:Int),.int .i64 4] g=some (dl,gl'):=el
 rw [← c3M,List.nil_append] at Bl
 have hog:=(d7s.1 go).1
 have go1:gl'[o]?=some (.row ty5 1 ((magS++[0,0,0,0]++a1E n ms its).map byr)):=by rw [Bl.old o hog (a6D o)];exact go
 obtain ⟨g7,c7,ec,go7,s7⟩:=c9r (p:=magS) (q:=[0,0,0,0]) (m:=pN (a1E n ms its).length) (r:=a1E n ms its) go1 (a4u (.own Bl.ow)) (by rw [a1G];rfl)
 have ec:a7Q tab gl' a0N a0N (.msl 1 o 4 (4+(a1E n ms its).length)) dl=some (c7,g7):=by
  rw [← ec];congr 1;simp [-bind_some, magS];omega
 have ow7:Own g7 h.length ty5 1 ((a3i (a1E n ms its)).map byr) (.msl 1 o 0 (8+(a1E n ms its).length)) := .inr ⟨o,ho,by simp [-bind_some, a3i,magS,a1G];omega,go7⟩
 have ekc:=c8j (a3i (a1E n ms its)) (.msl 1 o 0 (8+(a1E n ms its).length)) g7 (.own ow7) (by rw [a4b];omega) (b0n (a9Q _ _ _))
 have n7:h.length≤g7.length:=by rw [s7.1];exact Nat.le_trans hg Bl.len
 have k7:∀ q,q<h.length→g7[q]?=h[q]?:=fun q hq=>by rw [s7.2 q (by omega),Bl.old q (by omega) (a6D q)];exact hk q hq
 obtain ⟨d8,g8,e8,B8⟩:=c0Z (a2t (a3i (a1E n ms its))) 4 (by omega) h.length g7 _ _ n7 ow7 (by rw [a4b];omega)
 have e8:R a4a [.msl 1 o 0 (8+(a1E n ms its).length),.int .i64 (a2t (a3i (a1E n ms its))),.int .i64 4] g7=some (d8,g8):=e8
 simp only [el,bs,ec,ekc,e8]
 have hfin:a3i (a1E n ms its)++a3B 4 (a2t (a3i (a1E n ms its)))=b0b n ms its:=rfl
 rw [hfin] at B8
 have hso:=a2g (n0:=h.length) (n:=2) B8.ow (Nat.le_refl _) (fun a _=>a5L _ g8 2 a)
 rw [a1n (d' := .tup [frz h.length g8 3 d8,.int .i64 0]) (by simp) (by
  refine .tup _ fun d hd=>?_
  simp at hd
  rcases hd with rfl | rfl
  ·exact a1K hso fun a _=>a7K _ a
  ·constructor) (Nat.le_trans n7 B8.len) (fun q hq=>by rw [B8.low ow7 n7 q hq];exact k7 q hq)]
 exact .some ⟨rfl,_,rfl,hso⟩
end Go.Proofs.YtjmndhbabkjebaaGreatDoor
