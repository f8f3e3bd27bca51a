/- Laws, on plain data, about functions that the statement reaches. -/
import Derived.Test.YtjmndhbabkjebaaGreatDoorL3
set_option linter.unusedSimpArgs false
set_option linter.unusedVariables false
set_option linter.unnecessarySimpa false
set_option maxRecDepth 100000
namespace Go.Proofs.YtjmndhbabkjebaaGreatDoor
open Go.Eng Go.Pi
open Option (bind_some)
theorem b0r {B:List Int} {d x:D} {s:Cur} (h:Hp) (hd:SlOf 1 byr B d) (hB:B.length≤1000000000) (hu:∀ z∈B,U8 z) (hx:RdS B d s x) (n:Nat) (hn:n≤8):∃ x',R a2C [x,.int .i64 n] h=some (.tup [x',.int .u64 (num (a0G s n).1)],h)∧RdS B d (a0G s n).2 x':=by
 suffices Wp (R a2C [x,.int .i64 n] h) (fun p=>p.2=h∧∃ x',p.1 = .tup [x',.int .u64 (num (a0G s n).1)]∧RdS B d (a0G s n).2 x') by
  obtain ⟨⟨y,h'⟩,h1,rfl,x',rfl,h2⟩:=this
  exact ⟨x',h1,h2⟩
 obtain ⟨a,rfl,ha,hs⟩:=hx
 have hl0:(a0I h a0m 3 [[d,.int .i64 a,.bool (!s.2)]]).length=h.length+1:=by simp [-bind_some, a0I]
 have M:=M2.new h a0m 3 a0m 3 [d,.int .i64 a,.bool (!s.2)] [.nils,.int .i64 0,.bool false]
 rw [d0f]
 simp only [c5w,a3e a0m 3 h [d,.int .i64 a,.bool (!s.2)] rfl (by omega),bs,d6W,hl0]
 generalize a0I (a0I h a0m 3 [[d,.int .i64 a,.bool (!s.2)]]) a0m 3 [[.nils,.int .i64 0,.bool false]]=g at *
 obtain ⟨l0,l1,l2,l3⟩:=a3j M.ha
 have wl:IntKind.wrap .i64 ((B.length:Int) - a)=(B.length:Int) - a:=wrap_i64 (by omega) (by omega)
 have hsl:(s.1.length:Int)=(B.length:Int) - a:=by rw [← hs];simp [-bind_some];omega
 simp only [a6n,a3z,a2S,l2,a1y,bs,Bool.not_not]
 have bad:∀ b:Bool,s=(s.1,b)→((a0G s n).1=[]∧(a0G s n).2=(s.1,true))→Wp ((a0h tab g ty4 (.ptr h.length 0 (0+2)) (.bool false)).bind fun h'=>(a0b tab h' a0m (.ptr h.length 0 0)).bind fun t22=>(a0h tab h' a0m (.ptr (h.length+1) 0 0) t22).bind fun h'=>(a0b tab h' a0m (.ptr (h.length+1) 0 0)).bind fun d=>scope h h' (a0l [d,.int .u64 0])) (fun p=>p.2=h∧∃ x',p.1 = .tup [x',.int .u64 (num (a0G s n).1)]∧RdS B d (a0G s n).2 x'):=by
  intro b _ ⟨t1,t2⟩
  refine b8A M.ha fun g1 p1 s1=>?_
  have M1:=M.sta p1 s1
  simp only [(a3j M1.ha).2.2.2,bs]
  refine a6T M1.hb fun g2 p2 s2=>?_
  have M2':=M1.stb p2 s2
  simp only [(a3j M2'.hb).2.2.2,bs,a0Z]
  rw [b1L hd (by simp) (by constructor) (by have:=M2'.hl;omega) M2'.lo]
  exact .some ⟨rfl,_,by rw [t1];rfl,a,by rw [t2];rfl,ha,by rw [t2];exact hs⟩
 cases hb:s.2 with
 | true =>
  simp only [a0p,if_true,reduceCtorEq,d6Y,if_false,bs,a0e,a0c,d7h,d7i]
  have ht:a0G s n=([],(s.1,true)):=by unfold a0G;rw [if_pos (.inl hb)]
  exact bad true (by rw [← hb]) ⟨by rw [ht],by rw [ht]⟩
 | false =>
  simp only [a0p,if_true,l0,l1,a1P hd,a0z,wl,a0k,bs,a0e,a0c,d7h,d7i,d6X,if_false]
  by_cases hsh:(B.length:Int) - a<n
  ·simp only [hsh,decide_true,if_true]
   have ht:a0G s n=([],(s.1,true)):=by unfold a0G;rw [if_pos (.inr (.inr (by omega)))]
   exact bad false (by rw [← hb]) ⟨by rw [ht],by rw [ht]⟩
  ·simp only [hsh,decide_false,d6X,if_false]
   have ht:a0G s n=(s.1.take n,(s.1.drop n,false)):=by unfold a0G;rw [if_neg (by rw [hb];simp [-bind_some];omega),d7g]
   rw [ht]
   have hln:n≤s.1.length:=by omega
   refine Wp.loop (fun k ds g'=>g'=g∧∃ y,∃ i:Nat,ds=[.int .u64 (num (s.1.take i)),.int .i64 i,y]∧k+i=n) (fun r=>r.1 = .ext 0∧r.2.2=g∧∃ y z,r.2.1=[.int .u64 (num (s.1.take n)),y,z]) n ⟨rfl,_,0,rfl,rfl⟩ ?_ ?_
   ·rintro k ds g' ⟨rfl,y,i,rfl,hk⟩
    simp only [b3k,a0f,a0o,bs,d6W,a0k]
    refine Wp.dif ?_ ?_
    ·intro h0
     have h0:i<n:=dl_ h0
     obtain ⟨z,hz⟩:∃ z,s.1[i]?=some z:=⟨_,d7m (by omega)⟩
     have hzB:B[a+i]?=some z:=by rw [← hs,List.getElem?_drop] at hz;exact hz
     have hzu:=hu z (d7l hzB)
     have hw:=wi_ i (by omega)
     have hw2:IntKind.wrap .i64 ((a:Int)+(i:Int))=((a+i:Nat):Int):=by
      rw [wrap_i64 (by omega) (by omega)];omega
     unfold U8 at hzu
     have hus:∀ z∈s.1,U8 z:=fun z hz=>hu z (by rw [← hs] at hz;exact List.mem_of_mem_drop hz)
     obtain ⟨hn0,hn1⟩:=a2k i (s.1.take i) (by simp;omega) fun z hz=>hus z (List.mem_of_mem_take hz)
     have hb:num (s.1.take i)<72057594037927936:=by
      have:i=0∨i=1∨i=2∨i=3∨i=4∨i=5∨i=6∨i=7:=by omega
      rcases this with rfl | rfl | rfl | rfl | rfl | rfl | rfl | rfl <;> omega
     have m3:min ((8:Int).toNat) IntKind.u64.bits=8:=by decide
     have p3:(2:Int) ^ 8=256:=by decide
     have w1:IntKind.wrap .u64 (num (s.1.take i)*2 ^ 8)=num (s.1.take i)*2 ^ 8:=by rw [p3];exact a1s (by omega) (by omega)
     have w2:IntKind.wrap .u64 z=z:=a1s (by omega) (by omega)
     have w3:=b8n (x:=num (s.1.take i)) (b:=z) 8 hn0 (by omega) (by rw [p3];omega) (by rw [p3];omega)
     have hii0:∀ m:Nat,B[m]?=some z→a0d tab a0J d (.int .i64 (m:Int))=some (.fptr (byr z)):=fun m hm=>by rw [c0x hd];simp [-bind_some, hm]
     have hii:=hii0 _ hzB
     rw [p3,← a7z hz] at w3
     rw [p3] at w1
     simp only [a6n,a3z,l0,l1,a0t,hw2,hii,b3G,bs,a9P,show ¬ (8:Int)<0 by omega,if_false,m3,p3,w1,a6e,w2,b2e,w3,hw]
     exact .some (.inl ⟨rfl,k - 1,by omega,rfl,_,i+1,rfl,by omega⟩)
    ·intro h0
     have h0:i=n:=by
      have:¬ (i:Int)<n:=by simpa using h0
      omega
     subst h0
     exact .some (.inr ⟨by simp,rfl,rfl,_,_,rfl⟩)
   ·rintro ⟨ex,ds,g'⟩ ⟨rfl,q2,y,z,rfl⟩
    simp only at q2
    subst q2
    have hw2:IntKind.wrap .i64 ((a:Int)+(n:Int))=((a+n:Nat):Int):=by
     rw [wrap_i64 (by omega) (by omega)];omega
    simp only [a0s,a0r,bs,a0f,a3z,l1,a0t,hw2]
    refine b2O M.ha fun g1 p1 s1=>?_
    have M1:=M.sta p1 s1
    simp only [(a3j M1.ha).2.2.2,bs]
    refine a6T M1.hb fun g2 p2 s2=>?_
    have M2':=M1.stb p2 s2
    simp only [(a3j M2'.hb).2.2.2,bs,a0Z]
    rw [b1L hd (by simp) (by constructor) (by have:=M2'.hl;omega) M2'.lo]
    exact .some ⟨rfl,_,rfl,a+n,by rw [hb],by omega,by rw [← hs,List.drop_drop]⟩
theorem d2S {B:List Int} {d x:D} {s:Cur} (h:Hp) (hd:SlOf 1 byr B d) (hB:B.length≤1000000000) (hu:∀ z∈B,U8 z) (hx:RdS B d s x):∃ x',R a3p [x] h=some (.tup [x',.int .i64 (a0Q s).1],h)∧RdS B d (a0Q s).2 x':=by
 suffices Wp (R a3p [x] h) (fun p=>p.2=h∧∃ x',p.1 = .tup [x',.int .i64 (a0Q s).1]∧RdS B d (a0Q s).2 x') by
  obtain ⟨⟨y,h'⟩,h1,rfl,x',rfl,h2⟩:=this
  exact ⟨x',h1,h2⟩
 have hx0:=hx
 obtain ⟨a,rfl,ha,hs⟩:=hx
 have hl0:(a0I h a0m 3 [[d,.int .i64 a,.bool (!s.2)]]).length=h.length+1:=by simp [-bind_some, a0I]
 have M:=M2.new h a0m 3 a0m 3 [d,.int .i64 a,.bool (!s.2)] [.nils,.int .i64 0,.bool false]
 rw [d0h]
 simp only [c5y,a3e a0m 3 h [d,.int .i64 a,.bool (!s.2)] rfl (by omega),bs,d6W,hl0]
 generalize a0I (a0I h a0m 3 [[d,.int .i64 a,.bool (!s.2)]]) a0m 3 [[.nils,.int .i64 0,.bool false]]=g at *
 obtain ⟨l0,l1,l2,l3⟩:=a3j M.ha
 obtain ⟨x1,e1,r1⟩:=b0r g hd hB hu hx0 8 (by omega)
 obtain ⟨a1,rfl,ha1,hs1⟩:=r1
 have e1:R a2C [.agg [d,.int .i64 a,.bool (!s.2)],.int .i64 8] g=_:=e1
 simp only [l3,bs,e1,a0E,d6Z,d7a]
 refine a6T M.ha fun g1 p1 s1=>?_
 have M1:=M.sta p1 s1
 simp only [(a3j M1.ha).2.2.2,a3r,bs]
 refine a6T M1.hb fun g2 p2 s2=>?_
 have M2':=M1.stb p2 s2
 simp only [(a3j M2'.hb).2.2.2,bs,a0Z]
 rw [b1L hd (by simp) (by constructor) (by have:=M2'.hl;omega) M2'.lo]
 exact .some ⟨rfl,_,rfl,a1,rfl,ha1,hs1⟩
theorem b0i {s:Cur} (hu:∀ z∈s.1,U8 z):(a1z s).1=num (a0G s 4).1∧0≤num (a0G s 4).1∧num (a0G s 4).1<4294967296:=by
 have h5:=a4t hu 4
 have hl:(a0G s 4).1.length≤4:=a3F s 4
 obtain ⟨r0,r1⟩:=a2k _ _ rfl h5.1
 have r2:num (a0G s 4).1<4294967296:=by
  have hc:(a0G s 4).1.length=0∨(a0G s 4).1.length=1∨(a0G s 4).1.length=2∨(a0G s 4).1.length=3∨(a0G s 4).1.length=4:=by omega
  rcases hc with h | h | h | h | h <;> rw [h] at r1 <;> omega
 exact ⟨wrap_i64 (by omega) (by omega),r0,r2⟩
theorem d2R {B:List Int} {d x:D} {s:Cur} (h:Hp) (hd:SlOf 1 byr B d) (hB:B.length≤1000000000) (hu:∀ z∈B,U8 z) (hx:RdS B d s x):∃ x',R a4R [x] h=some (.tup [x',.str ((a0R s).1.getD [])],h)∧RdS B d (a0R s).2 x':=by
 suffices Wp (R a4R [x] h) (fun p=>p.2=h∧∃ x',p.1 = .tup [x',.str ((a0R s).1.getD [])]∧RdS B d (a0R s).2 x') by
  obtain ⟨⟨y,h'⟩,h1,rfl,x',rfl,h2⟩:=this
  exact ⟨x',h1,h2⟩
 have hx0:=hx
 obtain ⟨a,rfl,ha,hs⟩:=hx
 have hus:∀ z∈s.1,U8 z:=fun z hz=>hu z (by rw [← hs] at hz;exact List.mem_of_mem_drop hz)
 have hl0:(a0I h a0m 3 [[d,.int .i64 a,.bool (!s.2)]]).length=h.length+1:=by simp [-bind_some, a0I]
 have M:=M2.new h a0m 3 a0m 3 [d,.int .i64 a,.bool (!s.2)] [.nils,.int .i64 0,.bool false]
 rw [d0g]
 simp only [c5x,a3e a0m 3 h [d,.int .i64 a,.bool (!s.2)] rfl (by omega),bs,d6W,hl0]
 generalize a0I (a0I h a0m 3 [[d,.int .i64 a,.bool (!s.2)]]) a0m 3 [[.nils,.int .i64 0,.bool false]]=g at *
 obtain ⟨l0,l1,l2,l3⟩:=a3j M.ha
 obtain ⟨x1,e1,r1⟩:=b0r g hd hB hu hx0 4 (by omega)
 obtain ⟨a1,rfl,ha1,hs1⟩:=r1
 have e1:R a2C [.agg [d,.int .i64 a,.bool (!s.2)],.int .i64 4] g=_:=e1
 obtain ⟨n1,n2,n3⟩:=b0i hus
 have hc4:a0G s ((4:Nat):Int)=a0G s 4:=rfl
 rw [hc4] at e1 hs1
 have hc2:(a0G s 4).2=(a1z s).2:=rfl
 rw [hc2] at e1 hs1
 simp only [l3,bs,e1,a0E,d6Z,d7a]
 rw [← n1] at n2 n3
 rw [← n1]
 refine a6T M.ha fun g1 p1 s1=>?_
 have M1:=M.sta p1 s1
 obtain ⟨k0,k1,k2,k3⟩:=a3j M1.ha
 unfold a0R
 generalize (a1z s).2=c at *
 generalize (a1z s).1=N at *
 obtain ⟨n,rfl⟩:=Int.eq_ofNat_of_zero_le n2
 have wl:IntKind.wrap .i64 ((B.length:Int) - a1)=(B.length:Int) - a1:=wrap_i64 (by omega) (by omega)
 have wu:IntKind.wrap .u64 ((B.length:Int) - a1)=(B.length:Int) - a1:=a1s (by omega) (by omega)
 have wn:IntKind.wrap .i64 (n:Int)=(n:Int):=wrap_i64 (by omega) (by omega)
 have wan:IntKind.wrap .i64 ((a1:Int)+(n:Int))=((a1+n:Nat):Int):=by
  rw [wrap_i64 (by omega) (by omega)];omega
 have hsl:(c.1.length:Int)=(B.length:Int) - a1:=by rw [← hs1];simp [-bind_some];omega
 simp only [a6n,a3z,a2S,k2,a1y,bs,Bool.not_not]
 have bad:a0G c n=([],(c.1,true))→Wp ((a0h tab g1 ty4 (.ptr h.length 0 (0+2)) (.bool false)).bind fun h'=>(a0b tab h' a0m (.ptr h.length 0 0)).bind fun t22=>(a0h tab h' a0m (.ptr (h.length+1) 0 0) t22).bind fun h'=>(a0b tab h' a0m (.ptr (h.length+1) 0 0)).bind fun d=>scope h h' (a0l [d,.str []])) (fun p=>p.2=h∧∃ x',p.1 = .tup [x',.str ((if (a0G c n).2.2=true then ((none:Option Str),(a0G c n).2) else (some (bys (a0G c n).1),(a0G c n).2)).1.getD [])]∧RdS B d (if (a0G c n).2.2=true then ((none:Option Str),(a0G c n).2) else (some (bys (a0G c n).1),(a0G c n).2)).2 x'):=by
  intro t1
  rw [t1]
  simp only [if_true]
  refine b8A M1.ha fun g2 p2 s2=>?_
  have M2:=M1.sta p2 s2
  simp only [(a3j M2.ha).2.2.2,bs]
  refine a6T M2.hb fun g3 p3 s3=>?_
  have M3:=M2.stb p3 s3
  simp only [(a3j M3.hb).2.2.2,bs,a0Z]
  rw [b1L hd (by simp) (by constructor) (by have:=M3.hl;omega) M3.lo]
  exact .some ⟨rfl,_,rfl,a1,rfl,ha1,hs1⟩
 cases hb:c.2 with
 | true =>
  simp only [a0p,if_true,reduceCtorEq,d6Y,if_false,bs,a0e,a0c,d7h,d7i]
  have ht:a0G c n=([],(c.1,true)):=by unfold a0G;rw [if_pos (.inl hb)]
  exact bad ht
 | false =>
  simp only [a0p,if_true,k0,k1,a1P hd,a0z,wl,a2a,wu,a0u,bs,a0e,a0c,d7h,d7i,d6X,if_false]
  by_cases hsh:(n:Int)>(B.length:Int) - a1
  ·simp only [hsh,decide_true,if_true]
   have ht:a0G c n=([],(c.1,true)):=by unfold a0G;rw [if_pos (.inr (.inr (by omega)))]
   exact bad ht
  ·simp only [hsh,decide_false,d6X,if_false]
   have ht:a0G c n=(c.1.take n,(c.1.drop n,false)):=by unfold a0G;rw [if_neg (by rw [hb];simp [-bind_some];omega),d7g]
   rw [ht]
   obtain ⟨dc,ec,sc⟩:=a4N hd a1 (a1+n) (by omega) (by omega)
   have lc:(B.take (a1+n)).drop a1=c.1.take n:=by rw [← hs1,List.drop_take];congr 1;omega
   rw [lc] at sc
   simp only [a3r,wn,a0t,wan,ec,a3O sc,bs,d6X,if_false]
   refine b2O M1.ha fun g2 p2 s2=>?_
   have M2:=M1.sta p2 s2
   simp only [(a3j M2.ha).2.2.2,bs]
   refine a6T M2.hb fun g3 p3 s3=>?_
   have M3:=M2.stb p3 s3
   simp only [(a3j M3.hb).2.2.2,bs,a0Z]
   rw [b1L hd (by simp) (by constructor) (by have:=M3.hl;omega) M3.lo]
   exact .some ⟨rfl,_,rfl,a1+n,by rw [hb],by omega,by rw [← hs1,List.drop_drop]⟩
def RdC (B:List Int) (d:D) (g:Hp) (o:Nat) (s:Cur):Prop:=∃ n:Nat,g[o]?=some (.row a0m 3 [[d,.int .i64 n,.bool (!s.2)]])∧n≤B.length∧B.drop n=s.1
theorem RdC.keep {B:List Int} {d:D} {g g':Hp} {o:Nat} {s:Cur} (C:RdC B d g o s) (h:g'[o]?=g[o]?):RdC B d g' o s:=by
 obtain ⟨n,h1,h2⟩:=C
 exact ⟨n,by rw [h];exact h1,h2⟩
theorem RdC.lt {B:List Int} {d:D} {g:Hp} {o:Nat} {s:Cur} (C:RdC B d g o s):o<g.length:=by
 obtain ⟨n,h1,h2⟩:=C
 exact (d7n.1 h1).1
theorem RdC.ok {B:List Int} {d:D} {g:Hp} {o:Nat} {s:Cur} (C:RdC B d g o s):a0b tab g ty4 (.ptr o 0 (0+2))=some (.bool (!s.2)):=by
 obtain ⟨n,h1,h2⟩:=C
 exact (a3j h1).2.2.1
theorem RdC.all {B:List Int} {d:D} {g:Hp} {o:Nat} {s:Cur} (C:RdC B d g o s):∃ x,a0b tab g a0m (.ptr o 0 0)=some x∧RdS B d s x:=by
 obtain ⟨n,h1,h2⟩:=C
 exact ⟨_,(a3j h1).2.2.2,n,rfl,h2⟩
theorem RdC.st {B:List Int} {d x:D} {g:Hp} {o:Nat} {s s':Cur} (C:RdC B d g o s) (hx:RdS B d s' x) {β:Type} {f:Hp→Option β} {Q:β→Prop} (k:∀ g',RdC B d g' o s'→Same o g g'→Wp (f g') Q):Wp ((a0h tab g a0m (.ptr o 0 0) x).bind f) Q:=by
 obtain ⟨n,h1,h2⟩:=C
 obtain ⟨m,rfl,h3⟩:=hx
 exact a6T h1 fun g' p s=>k g' ⟨m,p,h3⟩ s
theorem rdI {B:List Int} {d:D} {g:Hp} {o:Nat} {s:Cur} (hd:SlOf 1 byr B d) (hB:B.length≤1000000000) (hu:∀ z∈B,U8 z) (C:RdC B d g o s) {β:Type} {f:D→Hp→Option β} {Q:β→Prop} (k:∀ g',RdC B d g' o (a0Q s).2→Same o g g'→Wp (f (.int .i64 (a0Q s).1) g') Q) :
  Wp ((a0b tab g a0m (.ptr o 0 0)).bind fun t=>(R a3p [t] g).bind fun p=>(a0j 0 p.1).bind fun a=>(a0j 1 p.1).bind fun b=>(a0h tab p.2 a0m (.ptr o 0 0) a).bind fun g'=>f b g') Q:=by
 obtain ⟨x,l,r⟩:=C.all
 obtain ⟨x',e,r'⟩:=d2S g hd hB hu r
 simp only [l,bs,e,a0E,d6Z,d7a]
 exact C.st r' k
theorem rdT {B:List Int} {d:D} {g:Hp} {o:Nat} {s:Cur} (hd:SlOf 1 byr B d) (hB:B.length≤1000000000) (hu:∀ z∈B,U8 z) (C:RdC B d g o s) {β:Type} {f:D→Hp→Option β} {Q:β→Prop} (k:∀ g',RdC B d g' o (a0R s).2→Same o g g'→Wp (f (.str ((a0R s).1.getD [])) g') Q) :
  Wp ((a0b tab g a0m (.ptr o 0 0)).bind fun t=>(R a4R [t] g).bind fun p=>(a0j 0 p.1).bind fun a=>(a0j 1 p.1).bind fun b=>(a0h tab p.2 a0m (.ptr o 0 0) a).bind fun g'=>f b g') Q:=by
 obtain ⟨x,l,r⟩:=C.all
 obtain ⟨x',e,r'⟩:=d2R g hd hB hu r
 simp only [l,bs,e,a0E,d6Z,d7a]
 exact C.st r' k
def a3T:Nat→Cur→List Lin × Cur
 | 0,s=>([],s)
 | n+1,s=>if s.2=true then ([],s) else ((a4G s).1::(a3T n (a4G s).2).1,(a3T n (a4G s).2).2)
def a3S:Nat→Cur→List (Str × Str) × Cur
 | 0,s=>([],s)
 | n+1,s=>if s.2=true then ([],s) else ((fdS s).1::(a3S n (fdS s).2).1,(a3S n (fdS s).2).2)
theorem b5b (n:Nat) (s:Cur) (h:s.2=true):a3T n s=([],s):=by
 cases n with
 | zero=>rfl
 | succ n=>simp [-bind_some, a3T,h]
theorem b4Z (n:Nat) (s:Cur) (h:s.2=true):a3S n s=([],s):=by
 cases n with
 | zero=>rfl
 | succ n=>simp [-bind_some, a3S,h]
theorem d2T {B:List Int} {d x:D} {s:Cur} (h:Hp) (hd:SlOf 1 byr B d) (hB:B.length≤1000000000) (hu:∀ z∈B,U8 z) (hx:RdS B d s x):∃ x' ld,R b1g [x] h=some (.tup [x',ld],h)∧RdS B d (a3T (a1z s).1.toNat (a1z s).2).2 x'∧SlOf 3 a1L (a3T (a1z s).1.toNat (a1z s).2).1 ld:=by
 suffices Wp (R b1g [x] h) (fun p=>p.2=h∧∃ x' ld,p.1 = .tup [x',ld]∧RdS B d (a3T (a1z s).1.toNat (a1z s).2).2 x'∧SlOf 3 a1L (a3T (a1z s).1.toNat (a1z s).2).1 ld) by
  obtain ⟨⟨y,h'⟩,h1,rfl,x',ld,rfl,h2⟩:=this
  exact ⟨x',ld,h1,h2⟩
 have hx0:=hx
 obtain ⟨a,rfl,ha,hs⟩:=hx
 have hus:∀ z∈s.1,U8 z:=fun z hz=>hu z (by rw [← hs] at hz;exact List.mem_of_mem_drop hz)
 have hl0:(a0I h a0m 3 [[d,.int .i64 a,.bool (!s.2)]]).length=h.length+1:=by simp [-bind_some, a0I]
 have M:=M2.new h a0m 3 a0m 3 [d,.int .i64 a,.bool (!s.2)] [.nils,.int .i64 0,.bool false]
 rw [d0i]
 simp only [c5z,a3e a0m 3 h [d,.int .i64 a,.bool (!s.2)] rfl (by omega),bs,d6W,hl0]
 generalize a0I (a0I h a0m 3 [[d,.int .i64 a,.bool (!s.2)]]) a0m 3 [[.nils,.int .i64 0,.bool false]]=g at *
 have l3:=(a3j M.ha).2.2.2
 obtain ⟨x1,e1,r1⟩:=b0r g hd hB hu hx0 4 (by omega)
 obtain ⟨a1,rfl,ha1,hs1⟩:=r1
 have e1:R a2C [.agg [d,.int .i64 a,.bool (!s.2)],.int .i64 4] g=_:=e1
 obtain ⟨n1,n2,n3⟩:=b0i hus
 have hc4:a0G s ((4:Nat):Int)=a0G s 4:=rfl
 rw [hc4] at e1 hs1
 have hc2:(a0G s 4).2=(a1z s).2:=rfl
 rw [hc2] at e1 hs1
 simp only [l3,bs,e1,a0E,d6Z,d7a]
 rw [← n1] at n2 n3
 rw [← n1]
 refine a6T M.ha fun g1 p1 s1=>?_
 have M1:=M.sta p1 s1
 have C1:RdC B d g1 h.length (a1z s).2:=⟨a1,p1,ha1,hs1⟩
 generalize (a1z s).2=c at *
 generalize (a1z s).1=N at *
 obtain ⟨n,rfl⟩:=Int.eq_ofNat_of_zero_le n2
 rw [d7g]
 refine Wp.loop (fun k ds g'=>∃ y1 y2 ld,∃ i:Nat,∃ L:List Lin,∃ s':Cur,ds=[ld,.int .u64 i,y1,y2]∧k+i=n∧RdC B d g' h.length s'∧g'[h.length+1]?=some (.row a0m 3 [[.nils,.int .i64 0,.bool false]])∧(∀ q,q<h.length→g'[q]?=h[q]?)∧Own g' (h.length+2) a1r 3 (L.map a1L) ld∧h.length+2≤g'.length∧L.length≤i∧L++(a3T k s').1=(a3T n c).1∧(a3T k s').2=(a3T n c).2)
  (fun r=>r.1 = .ext 0∧∃ y1 y2 y3 ld,r.2.1=[ld,y1,y2,y3]∧RdC B d r.2.2 h.length (a3T n c).2∧r.2.2[h.length+1]?=some (.row a0m 3 [[.nils,.int .i64 0,.bool false]])∧(∀ q,q<h.length→r.2.2[q]?=h[q]?)∧Own r.2.2 (h.length+2) a1r 3 ((a3T n c).1.map a1L) ld∧h.length+2≤r.2.2.length) n ⟨_,_,.nils,0,[],c,rfl,rfl,C1,M1.hb,M1.lo,Own.nils _ _ _ _,M1.hl,by simp,by simp,rfl⟩ ?_ ?_
 ·rintro k ds g' ⟨y1,y2,ld,i,L,s',rfl,hk,C,hb,lo,ow,hgl,hL,q1,q2⟩
  simp only [b3l,a0f,a0o,bs,d6W,a2S,C.ok]
  have stop:(s'.2=true∨k=0)→a3T k s'=([],s'):=by
   rintro (h0 | h0)
   ·exact b5b k s' h0
   ·rw [h0];rfl
  have fin:(s'.2=true∨k=0)→∀ u v w,Wp (some (Ex.ext 0,[ld,u,v,w],g')) (fun r=>(r.1 = .nrm∧∃ k'<k,∃ y1 y2 ld,∃ i:Nat,∃ L:List Lin,∃ s':Cur,r.2.1=[ld,.int .u64 i,y1,y2]∧k'+i=n∧RdC B d r.2.2 h.length s'∧r.2.2[h.length+1]?=some (.row a0m 3 [[.nils,.int .i64 0,.bool false]])∧(∀ q,q<h.length→r.2.2[q]?=h[q]?)∧Own r.2.2 (h.length+2) a1r 3 (L.map a1L) ld∧h.length+2≤r.2.2.length∧L.length≤i∧L++(a3T k' s').1=(a3T n c).1∧(a3T k' s').2=(a3T n c).2)∨(r.1 ≠ .nrm∧(r.1 = .ext 0∧∃ y1 y2 y3 ld,r.2.1=[ld,y1,y2,y3]∧RdC B d r.2.2 h.length (a3T n c).2∧r.2.2[h.length+1]?=some (.row a0m 3 [[.nils,.int .i64 0,.bool false]])∧(∀ q,q<h.length→r.2.2[q]?=h[q]?)∧Own r.2.2 (h.length+2) a1r 3 ((a3T n c).1.map a1L) ld∧h.length+2≤r.2.2.length))):=by
   intro h0 u v w
   have h1:=stop h0
   rw [h1] at q1 q2
   simp only [List.append_nil] at q1 q2
   refine .some (.inr ⟨by simp,rfl,_,_,_,ld,rfl,by rw [← q2];exact C,hb,lo,by rw [← q1];exact ow,hgl⟩)
  cases hb2:s'.2 with
  | true =>
   simp only [d7h,a0p,d6X,reduceCtorEq,if_false,bs,a0e,a0c]
   exact fin (.inl hb2) _ _ _
  | false =>
   simp only [d7i,a0p,if_true,bs,a0k,a0e,a0c]
   by_cases hin:i<n
   case neg =>
    have hin':¬ (i:Int)<(n:Int):=by omega
    simp only [hin',decide_false,d6X,if_false]
    exact fin (.inr (by omega)) _ _ _
   have hin':(i:Int)<(n:Int):=by omega
   simp only [hin',decide_true,if_true]
   obtain ⟨k',rfl⟩:∃ k',k=k'+1:=⟨k - 1,by omega⟩
   have hlS:a3T (k'+1) s'=((a4G s').1::(a3T k' (a4G s').2).1,(a3T k' (a4G s').2).2):=by simp [-bind_some, a3T,hb2]
   rw [hlS] at q1 q2
   have hN0:(a0I g' a1r 3 [a3G])[g'.length]?=some (.row a1r 3 [a3G]):=a1h _ _ _ _
   have hNl:(a0I g' a1r 3 [a3G]).length=g'.length+1:=by simp [-bind_some, a0I]
   have hNo:∀ q,q<g'.length→(a0I g' a1r 3 [a3G])[q]?=g'[q]?:=fun q hq=>a0Y _ _ _ _ hq
   have hz:([.int .i64 0,.int .i64 0,.str []]:List D)=a3G:=rfl
   have hob:∀ q,ld.inOb q→q<g'.length:=fun q hq=>(d7n.1 (a1T ow hq)).1
   have hCl:=C.lt
   have C2:RdC B d (a0I g' a1r 3 [a3G]) h.length s':=C.keep (hNo _ hCl)
   try simp only [hz]
   generalize a0I g' a1r 3 [a3G]=g2 at *
   refine rdI hd hB hu C2 fun g3 C3 s3=>?_
   have p3:g3[g'.length]?=some (.row a1r 3 [a3G]):=by rw [s3.2 _ (by omega)];exact hN0
   simp only [a3l,a3m,a3n]
   refine b5k (kk:=0) (row:=a3G) p3 rfl rfl (by simp [-bind_some, a3G]) rfl fun g4 p4 s4=>?_
   have p4:g4[g'.length]?=some (.row a1r 3 [[.int .i64 (a0Q s').1,.int .i64 0,.str []]]):=p4
   have C4:RdC B d g4 h.length (a0Q s').2:=C3.keep (s4.2 _ (by omega))
   try simp only [bs]
   refine rdI hd hB hu C4 fun g5 C5 s5=>?_
   have p5:g5[g'.length]?=some (.row a1r 3 [[.int .i64 (a0Q s').1,.int .i64 0,.str []]]):=by rw [s5.2 _ (by omega)];exact p4
   refine b5k (kk:=0) p5 rfl rfl (by simp) rfl fun g6 p6 s6=>?_
   have p6:g6[g'.length]?=some (.row a1r 3 [[.int .i64 (a0Q s').1,.int .i64 (a0Q (a0Q s').2).1,.str []]]):=p6
   have C6:RdC B d g6 h.length (a0Q (a0Q s').2).2:=C5.keep (s6.2 _ (by omega))
   try simp only [bs]
   refine rdT hd hB hu C6 fun g7 C7 s7=>?_
   have p7:g7[g'.length]?=some (.row a1r 3 [[.int .i64 (a0Q s').1,.int .i64 (a0Q (a0Q s').2).1,.str []]]):=by rw [s7.2 _ (by omega)];exact p6
   refine c4H (kk:=0) p7 rfl rfl (by simp) rfl fun g8 p8 s8=>?_
   have p8:g8[g'.length]?=some (.row a1r 3 [a1L (a4G s').1]):=p8
   have C8:RdC B d g8 h.length (a4G s').2:=C7.keep (s8.2 _ (by omega))
   have ld8:a0b tab g8 a1r (.ptr g'.length 0 0)=some (.agg (a1L (a4G s').1)):=by rw [c7l,a0O p8];rfl
   have hbz:a0W tab a1j 1 [0] [.agg (a1L (a4G s').1)]=some (.sl 3 true [a1L (a4G s').1]):=id rfl
   have hoth:∀ q,q≠h.length→q<g'.length→g8[q]?=g'[q]?:=fun q h1 h2=>by
    rw [s8.2 q (by omega),s7.2 q h1,s6.2 q (by omega),s5.2 q h1,s4.2 q (by omega),s3.2 q h1,hNo q h2]
   have hl8:g8.length=g'.length+1:=by rw [s8.1,s7.1,s6.1,s5.1,s4.1,s3.1,hNl]
   have ow8:Own g8 (h.length+2) a1r 3 (L.map a1L) ld:=ow.keep fun q hq hx=>hoth q (by omega) (hob q hx)
   have wi:IntKind.wrap .u64 ((i:Int)+1)=((i+1:Nat):Int):=by rw [a1s (by omega) (by omega)];omega
   simp only [bs,ld8,hbz]
   refine b9m (ys:=[a1L (a4G s').1]) (by omega) ow8 (a1l _ _ _ _) (by simp;omega) fun ld2 g9 ow9 a4X bel9 old9 _=>?_
   simp only [bs,a0t,wi]
   refine .some (.inl ⟨rfl,k',by omega,_,_,ld2,i+1,L++[(a4G s').1],(a4G s').2,rfl,by omega,C8.keep (bel9 _ (by omega)),?_,fun q hq=>?_,by rw [d7d];exact ow9,(by show _≤g9.length;omega),by simp;omega,?_,q2⟩)
   ·rw [bel9 _ (by omega),hoth _ (by omega) (by omega)];exact hb
   ·rw [bel9 _ (by omega),hoth _ (by omega) (by omega)];exact lo q hq
   ·rw [← q1];simp [-bind_some]
 ·rintro ⟨ex,ds,g'⟩ ⟨rfl,y1,y2,y3,ld,rfl,C,hb,lo,ow,hgl⟩
  simp only at C hb lo ow hgl
  obtain ⟨m,hm,hm2,hm3⟩:=C
  simp only [a0s,a0r,bs,a0f,(a3j hm).2.2.2]
  refine a6T hb fun g2 p2 s2=>?_
  have hob:∀ q,ld.inOb q→q≠h.length+1:=fun q hq hh=>by
   rcases ow with ⟨rfl,_⟩ | ⟨o,h1,rfl,_⟩
   ·exact a6y q hq
   ·obtain ⟨z,n,hx⟩:=hq
    injection hx with _ h2
    omega
  have ow2:Own g2 (h.length+2) a1r 3 ((a3T n c).1.map a1L) ld:=ow.keep fun q hq hx=>s2.2 q (hob q hx)
  simp only [(a3j p2).2.2.2,bs,a0Z]
  have sl:=a2w (n0:=h.length) (n:=2) ow2 (by omega) fun a _=>a5q _ g2 _ a
  rw [a1a (d' := .tup [.agg [d,.int .i64 m,.bool (!(a3T n c).2.2)],frz h.length g2 3 ld]) (by simp [-bind_some, a9L hd]) (by
   refine .tup _ fun y hy=>?_
   simp at hy
   rcases hy with rfl | rfl
   ·refine .agg _ fun y hy=>?_
    simp at hy
    rcases hy with rfl | rfl | rfl
    ·exact b2d hd _
    ·constructor
    ·constructor
   ·exact a1q sl fun a _=>b0j _ a) (by rw [s2.1];omega) (fun q hq=>by rw [s2.2 q (by omega)];exact lo q hq)]
  exact .some ⟨rfl,_,_,rfl,⟨m,rfl,hm2,hm3⟩,sl⟩
theorem d2U {B:List Int} {d x:D} {s:Cur} (h:Hp) (hd:SlOf 1 byr B d) (hB:B.length≤1000000000) (hu:∀ z∈B,U8 z) (hx:RdS B d s x):∃ x' ld,R b1h [x] h=some (.tup [x',ld],h)∧RdS B d (a3S (a1z s).1.toNat (a1z s).2).2 x'∧SlOf 2 fld (a3S (a1z s).1.toNat (a1z s).2).1 ld:=by
 suffices Wp (R b1h [x] h) (fun p=>p.2=h∧∃ x' ld,p.1 = .tup [x',ld]∧RdS B d (a3S (a1z s).1.toNat (a1z s).2).2 x'∧SlOf 2 fld (a3S (a1z s).1.toNat (a1z s).2).1 ld) by
  obtain ⟨⟨y,h'⟩,h1,rfl,x',ld,rfl,h2⟩:=this
  exact ⟨x',ld,h1,h2⟩
 have hx0:=hx
 obtain ⟨a,rfl,ha,hs⟩:=hx
 have hus:∀ z∈s.1,U8 z:=fun z hz=>hu z (by rw [← hs] at hz;exact List.mem_of_mem_drop hz)
 have hl0:(a0I h a0m 3 [[d,.int .i64 a,.bool (!s.2)]]).length=h.length+1:=by simp [-bind_some, a0I]
 have M:=M2.new h a0m 3 a0m 3 [d,.int .i64 a,.bool (!s.2)] [.nils,.int .i64 0,.bool false]
 rw [d0j]
 simp only [c5A,a3e a0m 3 h [d,.int .i64 a,.bool (!s.2)] rfl (by omega),bs,d6W,hl0]
 generalize a0I (a0I h a0m 3 [[d,.int .i64 a,.bool (!s.2)]]) a0m 3 [[.nils,.int .i64 0,.bool false]]=g at *
 have l3:=(a3j M.ha).2.2.2
 obtain ⟨x1,e1,r1⟩:=b0r g hd hB hu hx0 4 (by omega)
 obtain ⟨a1,rfl,ha1,hs1⟩:=r1
 have e1:R a2C [.agg [d,.int .i64 a,.bool (!s.2)],.int .i64 4] g=_:=e1
 obtain ⟨n1,n2,n3⟩:=b0i hus
 have hc4:a0G s ((4:Nat):Int)=a0G s 4:=rfl
 rw [hc4] at e1 hs1
 have hc2:(a0G s 4).2=(a1z s).2:=rfl
 rw [hc2] at e1 hs1
 simp only [l3,bs,e1,a0E,d6Z,d7a]
 rw [← n1] at n2 n3
 rw [← n1]
 refine a6T M.ha fun g1 p1 s1=>?_
 have M1:=M.sta p1 s1
 have C1:RdC B d g1 h.length (a1z s).2:=⟨a1,p1,ha1,hs1⟩
 generalize (a1z s).2=c at *
 generalize (a1z s).1=N at *
 obtain ⟨n,rfl⟩:=Int.eq_ofNat_of_zero_le n2
 rw [d7g]
 refine Wp.loop (fun k ds g'=>∃ y1 y2 ld,∃ i:Nat,∃ L:List (Str × Str),∃ s':Cur,ds=[ld,.int .u64 i,y1,y2]∧k+i=n∧RdC B d g' h.length s'∧g'[h.length+1]?=some (.row a0m 3 [[.nils,.int .i64 0,.bool false]])∧(∀ q,q<h.length→g'[q]?=h[q]?)∧Own g' (h.length+2) a0x 2 (L.map fld) ld∧h.length+2≤g'.length∧L.length≤i∧L++(a3S k s').1=(a3S n c).1∧(a3S k s').2=(a3S n c).2)
  (fun r=>r.1 = .ext 0∧∃ y1 y2 y3 ld,r.2.1=[ld,y1,y2,y3]∧RdC B d r.2.2 h.length (a3S n c).2∧r.2.2[h.length+1]?=some (.row a0m 3 [[.nils,.int .i64 0,.bool false]])∧(∀ q,q<h.length→r.2.2[q]?=h[q]?)∧Own r.2.2 (h.length+2) a0x 2 ((a3S n c).1.map fld) ld∧h.length+2≤r.2.2.length) n ⟨_,_,.nils,0,[],c,rfl,rfl,C1,M1.hb,M1.lo,Own.nils _ _ _ _,M1.hl,by simp,by simp,rfl⟩ ?_ ?_
 ·rintro k ds g' ⟨y1,y2,ld,i,L,s',rfl,hk,C,hb,lo,ow,hgl,hL,q1,q2⟩
  simp only [b3m,a0f,a0o,bs,d6W,a2S,C.ok]
  have stop:(s'.2=true∨k=0)→a3S k s'=([],s'):=by
   rintro (h0 | h0)
   ·exact b4Z k s' h0
   ·rw [h0];rfl
  have fin:(s'.2=true∨k=0)→∀ u v w,Wp (some (Ex.ext 0,[ld,u,v,w],g')) (fun r=>(r.1 = .nrm∧∃ k'<k,∃ y1 y2 ld,∃ i:Nat,∃ L:List (Str × Str),∃ s':Cur,r.2.1=[ld,.int .u64 i,y1,y2]∧k'+i=n∧RdC B d r.2.2 h.length s'∧r.2.2[h.length+1]?=some (.row a0m 3 [[.nils,.int .i64 0,.bool false]])∧(∀ q,q<h.length→r.2.2[q]?=h[q]?)∧Own r.2.2 (h.length+2) a0x 2 (L.map fld) ld∧h.length+2≤r.2.2.length∧L.length≤i∧L++(a3S k' s').1=(a3S n c).1∧(a3S k' s').2=(a3S n c).2)∨(r.1 ≠ .nrm∧(r.1 = .ext 0∧∃ y1 y2 y3 ld,r.2.1=[ld,y1,y2,y3]∧RdC B d r.2.2 h.length (a3S n c).2∧r.2.2[h.length+1]?=some (.row a0m 3 [[.nils,.int .i64 0,.bool false]])∧(∀ q,q<h.length→r.2.2[q]?=h[q]?)∧Own r.2.2 (h.length+2) a0x 2 ((a3S n c).1.map fld) ld∧h.length+2≤r.2.2.length))):=by
   intro h0 u v w
   have h1:=stop h0
   rw [h1] at q1 q2
   simp only [List.append_nil] at q1 q2
   refine .some (.inr ⟨by simp,rfl,_,_,_,ld,rfl,by rw [← q2];exact C,hb,lo,by rw [← q1];exact ow,hgl⟩)
  cases hb2:s'.2 with
  | true =>
   simp only [d7h,a0p,d6X,reduceCtorEq,if_false,bs,a0e,a0c]
   exact fin (.inl hb2) _ _ _
  | false =>
   simp only [d7i,a0p,if_true,bs,a0k,a0e,a0c]
   by_cases hin:i<n
   case neg =>
    have hin':¬ (i:Int)<(n:Int):=by omega
    simp only [hin',decide_false,d6X,if_false]
    exact fin (.inr (by omega)) _ _ _
   have hin':(i:Int)<(n:Int):=by omega
   simp only [hin',decide_true,if_true]
   obtain ⟨k',rfl⟩:∃ k',k=k'+1:=⟨k - 1,by omega⟩
   have hlS:a3S (k'+1) s'=((fdS s').1::(a3S k' (fdS s').2).1,(a3S k' (fdS s').2).2):=by simp [-bind_some, a3S,hb2]
   rw [hlS] at q1 q2
   have hN0:(a0I g' a0x 2 [a8u])[g'.length]?=some (.row a0x 2 [a8u]):=a1h _ _ _ _
   have hNl:(a0I g' a0x 2 [a8u]).length=g'.length+1:=by simp [-bind_some, a0I]
   have hNo:∀ q,q<g'.length→(a0I g' a0x 2 [a8u])[q]?=g'[q]?:=fun q hq=>a0Y _ _ _ _ hq
   have hz:([.str [],.str []]:List D)=a8u:=rfl
   have hob:∀ q,ld.inOb q→q<g'.length:=fun q hq=>(d7n.1 (a1T ow hq)).1
   have hCl:=C.lt
   have C2:RdC B d (a0I g' a0x 2 [a8u]) h.length s':=C.keep (hNo _ hCl)
   try simp only [hz]
   generalize a0I g' a0x 2 [a8u]=g2 at *
   refine rdT hd hB hu C2 fun g3 C3 s3=>?_
   have p3:g3[g'.length]?=some (.row a0x 2 [a8u]):=by rw [s3.2 _ (by omega)];exact hN0
   simp only [a6k,a9X]
   refine c4H (kk:=0) (row:=a8u) p3 rfl rfl (by simp [-bind_some, a8u]) rfl fun g4 p4 s4=>?_
   have p4:g4[g'.length]?=some (.row a0x 2 [[.str ((a0R s').1.getD []),.str []]]):=p4
   have C4:RdC B d g4 h.length (a0R s').2:=C3.keep (s4.2 _ (by omega))
   try simp only [bs]
   refine rdT hd hB hu C4 fun g7 C7 s7=>?_
   have p7:g7[g'.length]?=some (.row a0x 2 [[.str ((a0R s').1.getD []),.str []]]):=by rw [s7.2 _ (by omega)];exact p4
   refine c4H (kk:=0) p7 rfl rfl (by simp) rfl fun g8 p8 s8=>?_
   have p8:g8[g'.length]?=some (.row a0x 2 [fld (fdS s').1]):=p8
   have C8:RdC B d g8 h.length (fdS s').2:=C7.keep (s8.2 _ (by omega))
   have ld8:a0b tab g8 a0x (.ptr g'.length 0 0)=some (.agg (fld (fdS s').1)):=by rw [b4A,a0O p8];rfl
   have hbz:a0W tab a1d 1 [0] [.agg (fld (fdS s').1)]=some (.sl 2 true [fld (fdS s').1]):=id rfl
   have hoth:∀ q,q≠h.length→q<g'.length→g8[q]?=g'[q]?:=fun q h1 h2=>by
    rw [s8.2 q (by omega),s7.2 q h1,s4.2 q (by omega),s3.2 q h1,hNo q h2]
   have hl8:g8.length=g'.length+1:=by rw [s8.1,s7.1,s4.1,s3.1,hNl]
   have ow8:Own g8 (h.length+2) a0x 2 (L.map fld) ld:=ow.keep fun q hq hx=>hoth q (by omega) (hob q hx)
   have wi:IntKind.wrap .u64 ((i:Int)+1)=((i+1:Nat):Int):=by rw [a1s (by omega) (by omega)];omega
   simp only [bs,ld8,hbz]
   refine c1d (ys:=[fld (fdS s').1]) (by omega) ow8 (a1l _ _ _ _) (by simp;omega) fun ld2 g9 ow9 a4X bel9 old9 _=>?_
   simp only [bs,a0t,wi]
   refine .some (.inl ⟨rfl,k',by omega,_,_,ld2,i+1,L++[(fdS s').1],(fdS s').2,rfl,by omega,C8.keep (bel9 _ (by omega)),?_,fun q hq=>?_,by rw [d7d];exact ow9,(by show _≤g9.length;omega),by simp;omega,?_,q2⟩)
   ·rw [bel9 _ (by omega),hoth _ (by omega) (by omega)];exact hb
   ·rw [bel9 _ (by omega),hoth _ (by omega) (by omega)];exact lo q hq
   ·rw [← q1];simp [-bind_some]
 ·rintro ⟨ex,ds,g'⟩ ⟨rfl,y1,y2,y3,ld,rfl,C,hb,lo,ow,hgl⟩
  simp only at C hb lo ow hgl
  obtain ⟨m,hm,hm2,hm3⟩:=C
  simp only [a0s,a0r,bs,a0f,(a3j hm).2.2.2]
  refine a6T hb fun g2 p2 s2=>?_
  have hob:∀ q,ld.inOb q→q≠h.length+1:=fun q hq hh=>by
   rcases ow with ⟨rfl,_⟩ | ⟨o,h1,rfl,_⟩
   ·exact a6y q hq
   ·obtain ⟨z,n,hx⟩:=hq
    injection hx with _ h2
    omega
  have ow2:Own g2 (h.length+2) a0x 2 ((a3S n c).1.map fld) ld:=ow.keep fun q hq hx=>s2.2 q (hob q hx)
  simp only [(a3j p2).2.2.2,bs,a0Z]
  have sl:=a2w (n0:=h.length) (n:=2) ow2 (by omega) fun a _=>b0a _ g2 _ a
  rw [a1a (d' := .tup [.agg [d,.int .i64 m,.bool (!(a3S n c).2.2)],frz h.length g2 3 ld]) (by simp [-bind_some, a9L hd]) (by
   refine .tup _ fun y hy=>?_
   simp at hy
   rcases hy with rfl | rfl
   ·refine .agg _ fun y hy=>?_
    simp at hy
    rcases hy with rfl | rfl | rfl
    ·exact b2d hd _
    ·constructor
    ·constructor
   ·exact a1q sl fun a _=>b4a _ a) (by rw [s2.1];omega) (fun q hq=>by rw [s2.2 q (by omega)];exact lo q hq)]
  exact .some ⟨rfl,_,_,rfl,⟨m,rfl,hm2,hm3⟩,sl⟩
def rvL (s:Cur):List Lin × Cur:=a3T (a1z (a3U s)).1.toNat (a1z (a3U s)).2
def rvC (s:Cur):Cur:=(a0R (a0R (a0Q (a0Q (rvL s).2).2).2).2).2
def rvF (s:Cur):List (Str × Str) × Cur:=a3S (a1z (rvC s)).1.toNat (a1z (rvC s)).2
def rvI (s:Cur):RI :=
 { r:=(a0R s).1.getD [],a0:=(a0Q (a0R s).2).1,a1:=(a0Q (a0Q (a0R s).2).2).1,a2:=(a0Q (a0Q (a0Q (a0R s).2).2).2).1,a3:=(a0Q (a0Q (a0Q (a0Q (a0R s).2).2).2).2).1,
   ls:=(rvL s).1,a5:=(a0Q (rvL s).2).1,a6:=(a0Q (a0Q (rvL s).2).2).1,t7:=(a0R (a0Q (a0Q (rvL s).2).2).2).1.getD [],t8:=(a0R (a0R (a0Q (a0Q (rvL s).2).2).2).2).1.getD [],
   fs:=(rvF s).1 }
def a8O (c:Int) (l:List Int):Int × Int × RI :=
 if l.length<4 then (14,0,⟨[],0,0,0,0,[],0,0,[],[],[]⟩)
 else if num (l.take 4)<4∨(l.length:Int) - 4<num (l.take 4) then (14,0,⟨[],0,0,0,0,[],0,0,[],[],[]⟩)
 else if a2z (l.take (num (l.take 4)).toNat)≠num ((l.drop (num (l.take 4)).toNat).take 4) then (15,0,⟨[],0,0,0,0,[],0,0,[],[],[]⟩)
 else if (rvF ((l.take (num (l.take 4)).toNat).drop 4,false)).2.2=true∨(rvF ((l.take (num (l.take 4)).toNat).drop 4,false)).2.1≠[]∨c≠0 then (1,0,⟨[],0,0,0,0,[],0,0,[],[],[]⟩)
 else (0,num (l.take 4)+4,rvI ((l.take (num (l.take 4)).toNat).drop 4,false))
theorem b5c:∀ (n:Nat) (s:Cur),(a3T n s).1.length≤n
 | 0,s=>Nat.le_refl _
 | n+1,s=>by
  have:=b5c n (a4G s).2
  unfold a3T
  split
  ·simp [-bind_some]
  ·simp only [d7o];omega
theorem b5a:∀ (n:Nat) (s:Cur),(a3S n s).1.length≤n
 | 0,s=>Nat.le_refl _
 | n+1,s=>by
  have:=b5a n (fdS s).2
  unfold a3S
  split
  ·simp [-bind_some]
  ·simp only [d7o];omega
structure DcS (h g:Hp) (B:List Int) (d:D) (x:List D) (s:Cur):Prop where
 hr:g[h.length]?=some (.row a0P 11 [itr zit])
 C:RdC B d g (h.length+1) s
 hi:g[h.length+2]?=some (.row a0P 11 [x])
 lo:∀ q,q<h.length→g[q]?=h[q]?
theorem DcS.to {h g g':Hp} {B:List Int} {d:D} {x y:List D} {s s':Cur} (S:DcS h g B d x s) {g1:Hp} (C:RdC B d g1 (h.length+1) s') (s1:Same (h.length+1) g g1) (p:g'[h.length+2]?=some (.row a0P 11 [y])) (s2:Same (h.length+2) g1 g'):DcS h g' B d y s' :=
 ⟨by rw [s2.2 _ (by omega),s1.2 _ (by omega)];exact S.hr,C.keep (s2.2 _ (by omega)),p,fun q hq=>by rw [s2.2 q (by omega),s1.2 q (by omega)];exact S.lo q hq⟩
theorem c8g (x:List D) (off:Nat) (v:D) (ho:off<x.length) (hv:v.one=true):([x].set 0 (spl x off (a0F v)))=[x.set off v]:=by
 rw [b2T _ _ _ hv ho];rfl
theorem dcI {h g:Hp} {B:List Int} {d:D} {x:List D} {s:Cur} (S:DcS h g B d x s) (hd:SlOf 1 byr B d) (hB:B.length≤1000000000) (hu:∀ z∈B,U8 z) {off:Nat} (ho:off<x.length) {β:Type} {f:Hp→Option β} {Q:β→Prop} (k:∀ g',DcS h g' B d (x.set off (.int .i64 (a0Q s).1)) (a0Q s).2→Wp (f g') Q) :
  Wp ((a0b tab g a0m (.ptr (h.length+1) 0 0)).bind fun t=>(R a3p [t] g).bind fun p=>(a0j 0 p.1).bind fun a=>(a0j 1 p.1).bind fun b=>(a0h tab p.2 a0m (.ptr (h.length+1) 0 0) a).bind fun g'=>(a0h tab g' ty3 (.ptr (h.length+2) 0 off) b).bind f) Q:=by
 refine rdI hd hB hu S.C fun g1 C1 s1=>?_
 have p1:g1[h.length+2]?=some (.row a0P 11 [x]):=by rw [s1.2 _ (by omega)];exact S.hi
 refine b5k (kk:=0) (row:=x) p1 rfl rfl (by omega) rfl fun g2 p2 s2=>?_
 rw [c8g x off _ ho rfl] at p2
 exact k g2 (S.to C1 s1 p2 s2)
theorem dcT {h g:Hp} {B:List Int} {d:D} {x:List D} {s:Cur} (S:DcS h g B d x s) (hd:SlOf 1 byr B d) (hB:B.length≤1000000000) (hu:∀ z∈B,U8 z) {off:Nat} (ho:off<x.length) {β:Type} {f:Hp→Option β} {Q:β→Prop} (k:∀ g',DcS h g' B d (x.set off (.str ((a0R s).1.getD []))) (a0R s).2→Wp (f g') Q) :
  Wp ((a0b tab g a0m (.ptr (h.length+1) 0 0)).bind fun t=>(R a4R [t] g).bind fun p=>(a0j 0 p.1).bind fun a=>(a0j 1 p.1).bind fun b=>(a0h tab p.2 a0m (.ptr (h.length+1) 0 0) a).bind fun g'=>(a0h tab g' ty9 (.ptr (h.length+2) 0 off) b).bind f) Q:=by
 refine rdT hd hB hu S.C fun g1 C1 s1=>?_
 have p1:g1[h.length+2]?=some (.row a0P 11 [x]):=by rw [s1.2 _ (by omega)];exact S.hi
 refine c4H (kk:=0) (row:=x) p1 rfl rfl (by omega) rfl fun g2 p2 s2=>?_
 rw [c8g x off _ ho rfl] at p2
 exact k g2 (S.to C1 s1 p2 s2)
theorem dcL {h g:Hp} {B:List Int} {d:D} {x:List D} {s:Cur} (S:DcS h g B d x s) (hd:SlOf 1 byr B d) (hB:B.length≤1000000000) (hu:∀ z∈B,U8 z) {off:Nat} (ho:off<x.length) {β:Type} {f:Hp→Option β} {Q:β→Prop} (k:∀ g' ld,SlOf 3 a1L (a3T (a1z s).1.toNat (a1z s).2).1 ld→DcS h g' B d (x.set off ld) (a3T (a1z s).1.toNat (a1z s).2).2→Wp (f g') Q) :
  Wp ((a0b tab g a0m (.ptr (h.length+1) 0 0)).bind fun t=>(R b1g [t] g).bind fun p=>(a0j 0 p.1).bind fun a=>(a0j 1 p.1).bind fun b=>(a0h tab p.2 a0m (.ptr (h.length+1) 0 0) a).bind fun g'=>(a0h tab g' a1j (.ptr (h.length+2) 0 off) b).bind f) Q:=by
 obtain ⟨y,l,r⟩:=S.C.all
 obtain ⟨x',ld,e,r',sl⟩:=d2T g hd hB hu r
 simp only [l,bs,e,a0E,d6Z,d7a]
 refine S.C.st r' fun g1 C1 s1=>?_
 have p1:g1[h.length+2]?=some (.row a0P 11 [x]):=by rw [s1.2 _ (by omega)];exact S.hi
 have o1:=a1x sl
 refine b9r (kk:=0) (row:=x) p1 rfl (by rw [(a0H o1).1];rfl) (by omega) (a0H o1).2 fun g2 p2 s2=>?_
 rw [c8g x off _ ho o1] at p2
 exact k g2 ld sl (S.to C1 s1 p2 s2)
theorem dcF {h g:Hp} {B:List Int} {d:D} {x:List D} {s:Cur} (S:DcS h g B d x s) (hd:SlOf 1 byr B d) (hB:B.length≤1000000000) (hu:∀ z∈B,U8 z) {off:Nat} (ho:off<x.length) {β:Type} {f:Hp→Option β} {Q:β→Prop} (k:∀ g' ld,SlOf 2 fld (a3S (a1z s).1.toNat (a1z s).2).1 ld→DcS h g' B d (x.set off ld) (a3S (a1z s).1.toNat (a1z s).2).2→Wp (f g') Q) :
  Wp ((a0b tab g a0m (.ptr (h.length+1) 0 0)).bind fun t=>(R b1h [t] g).bind fun p=>(a0j 0 p.1).bind fun a=>(a0j 1 p.1).bind fun b=>(a0h tab p.2 a0m (.ptr (h.length+1) 0 0) a).bind fun g'=>(a0h tab g' a1d (.ptr (h.length+2) 0 off) b).bind f) Q:=by
 obtain ⟨y,l,r⟩:=S.C.all
 obtain ⟨x',ld,e,r',sl⟩:=d2U g hd hB hu r
 simp only [l,bs,e,a0E,d6Z,d7a]
 refine S.C.st r' fun g1 C1 s1=>?_
 have p1:g1[h.length+2]?=some (.row a0P 11 [x]):=by rw [s1.2 _ (by omega)];exact S.hi
 have o1:=a1x sl
 refine c8r (kk:=0) (row:=x) p1 rfl (by rw [(a0H o1).1];rfl) (by omega) (a0H o1).2 fun g2 p2 s2=>?_
 rw [c8g x off _ ho o1] at p2
 exact k g2 ld sl (S.to C1 s1 p2 s2)
theorem d2Q (l:List Int) (d:D) (c:Int) (h:Hp) (hd:SlOf 1 byr l d) (hl:l.length≤1000000000) (hu:∀ z∈l,U8 z)
  (hck:∀ j:It,a1Y j=rvI ((l.take (num (l.take 4)).toNat).drop 4,false)→∀ g,R a5C [.agg (itr j)] g=some (.int .i64 c,g)) :
  ∃ j:It,R b1e [d] h=some (.tup [.agg (itr j),.int .i64 (a8O c l).2.1,.int .i64 (a8O c l).1],h)∧a1Y j=(a8O c l).2.2:=by
 suffices Wp (R b1e [d] h) (fun p=>p.2=h∧∃ j:It,p.1 = .tup [.agg (itr j),.int .i64 (a8O c l).2.1,.int .i64 (a8O c l).1]∧a1Y j=(a8O c l).2.2) by
  obtain ⟨⟨x,h'⟩,h1,rfl,j,rfl,h2⟩:=this
  exact ⟨j,h1,h2⟩
 have hz74:([.str [],.int .i64 0,.int .i64 0,.int .i64 0,.int .i64 0,.nils,.int .i64 0,.int .i64 0,.str [],.str [],.nils]:List D)=itr zit:=rfl
 have hbz:a0K tab a0P [] []=some (.agg (itr zit)):=id rfl
 -- the result's variable is stored to and read
 have out:∀ (g:Hp) (j:It) (a b:Int),g[h.length]?=some (.row a0P 11 [itr zit])→(∀ q,q<h.length→g[q]?=h[q]?)→(a,b,a1Y j)=((a8O c l).2.1,(a8O c l).1,(a8O c l).2.2) →
   Wp ((a0h tab g a0P (.ptr h.length 0 0) (.agg (itr j))).bind fun h'=>(a0b tab h' a0P (.ptr h.length 0 0)).bind fun d=>scope h h' (a0l [d,.int .i64 a,.int .i64 b])) (fun p=>p.2=h∧∃ j:It,p.1 = .tup [.agg (itr j),.int .i64 (a8O c l).2.1,.int .i64 (a8O c l).1]∧a1Y j=(a8O c l).2.2):=by
  intro g j a b hg hgb he
  injection he with he1 he2
  injection he2 with he2 he3
  have hgl:=(d7n.1 hg).1
  refine b2X (kk:=0) (off:=0) (row:=itr zit) hg rfl rfl (Nat.le_refl _) (b2B j) fun g' h' s'=>?_
  have h':g'[h.length]?=some (.row a0P 11 [itr j]):=by
   rw [h']
   have hs:spl (itr zit) 0 (a0F (.agg (itr j)))=itr j:=by
    have h11:(itr j).length=11:=rfl
    have h12:(itr zit).length=11:=rfl
    simp [-bind_some, spl,a0F,h11,h12]
   rw [hs];rfl
  have ld:a0b tab g' a0P (.ptr h.length 0 0)=some (.agg (itr j)):=by rw [b0h,a0O h'];rfl
  rw [ld]
  simp only [bs,a6P]
  rw [b6L (by rw [s'.1];omega) (fun q hq=>by rw [s'.2 q (by omega)];exact hgb q hq)]
  exact .some ⟨rfl,j,by rw [he1,he2],he3⟩
 rw [d0b]
 simp only [c5s,hz74,bs,d6W,hbz,a8J d true (a1x hd)]
 have hp2:(a0I h a0P 11 [itr zit])[h.length]?=some (.row a0P 11 [itr zit]):=a1h _ _ _ _
 have hq2:∀ q,q<h.length→(a0I h a0P 11 [itr zit])[q]?=h[q]?:=fun q hq=>a0Y _ _ _ _ hq
 have hl2:(a0I h a0P 11 [itr zit]).length=h.length+1:=by simp [-bind_some, a0I]
 generalize a0I h a0P 11 [itr zit]=g1 at *
 obtain ⟨x1,e1,r1⟩:=b0r (s:=(l,false)) g1 hd hl hu ⟨0,rfl,by omega,rfl⟩ 4 (by omega)
 obtain ⟨a1,rfl,ha1,hs1⟩:=r1
 have hc4:a0G (l,false) ((4:Nat):Int)=a0G (l,false) 4:=rfl
 rw [hc4] at e1 hs1
 have e1:R a2C [.agg [d,.int .i64 0,.bool true],.int .i64 4] g1=_:=e1
 simp only [e1,bs,a0E,d6Z,d7a,hl2]
 have hn0:(a0I g1 a0m 3 [[.nils,.int .i64 0,.bool false]])[h.length+1]?=some (.row a0m 3 [[.nils,.int .i64 0,.bool false]]):=by rw [← hl2];exact a1h _ _ _ _
 have hno:∀ q,q<g1.length→(a0I g1 a0m 3 [[.nils,.int .i64 0,.bool false]])[q]?=g1[q]?:=fun q hq=>a0Y _ _ _ _ hq
 have hnl:(a0I g1 a0m 3 [[.nils,.int .i64 0,.bool false]]).length=h.length+2:=by simp [-bind_some, a0I,hl2]
 generalize a0I g1 a0m 3 [[.nils,.int .i64 0,.bool false]]=g2 at *
 refine a6T hn0 fun g3 p3 s3=>?_
 have hr3:g3[h.length]?=some (.row a0P 11 [itr zit]):=by rw [s3.2 _ (by omega),hno _ (by omega)];exact hp2
 have hq3:∀ q,q<h.length→g3[q]?=h[q]?:=fun q hq=>by rw [s3.2 _ (by omega),hno _ (by omega)];exact hq2 q hq
 have hl3:g3.length=h.length+2:=by rw [s3.1,hnl]
 obtain ⟨-, -,k2, -⟩:=a3j p3
 simp only [a2S,k2,a1y,bs,Bool.not_not]
 by_cases h0:l.length<4
 ·have ht:a0G (l,false) 4=([],(l,true)):=by unfold a0G;rw [if_pos (.inr (.inr (by show (l.length:Int)<4;omega)))]
  have hz:a8O c l=(14,0,⟨[],0,0,0,0,[],0,0,[],[],[]⟩):=by unfold a8O;rw [if_pos h0]
  simp only [ht,a0p,reduceCtorEq,d6Y,if_false,if_true,bs,a0e,a0c]
  exact out g3 zit 0 14 hr3 hq3 (by rw [hz,a3P])
 have ht:a0G (l,false) 4=(l.take 4,(l.drop 4,false)):=by
  unfold a0G
  rw [if_neg (by show ¬ (false=true∨(4:Int)<0∨(l.length:Int)<4);simp [-bind_some];omega)]
  rfl
 rw [ht] at hs1 p3
 have hl4:(l.take 4).length=4:=by simp;omega
 have hu4:∀ z∈l.take 4,U8 z:=fun z hz=>hu z (List.mem_of_mem_take hz)
 obtain ⟨n0,n1⟩:=a2k 4 _ hl4 hu4
 rw [a6z] at n1
 simp only [ht,a0p,d6X,if_true,if_false,bs,a0k,a0e]
 obtain ⟨v,hv⟩:∃ v,v=a8O c l:=⟨_,rfl⟩
 have hdec:=hv
 unfold a8O at hdec
 generalize hN:num (l.take 4)=N at *
 obtain ⟨n,rfl⟩:=Int.eq_ofNat_of_zero_le n0
 simp only [d7g] at hck hdec
 have w6:IntKind.wrap .i64 ((l.length:Int) - 4)=(l.length:Int) - 4:=wrap_i64 (by omega) (by omega)
 have w6u:IntKind.wrap .u64 ((l.length:Int) - 4)=(l.length:Int) - 4:=a1s (by omega) (by omega)
 have w5:IntKind.wrap .i64 (n:Int)=(n:Int):=wrap_i64 (by omega) (by omega)
 by_cases hbad:(n:Int)<4∨(l.length:Int) - 4<(n:Int)
 ·have hz:a8O c l=(14,0,⟨[],0,0,0,0,[],0,0,[],[],[]⟩):=by unfold a8O;rw [if_neg h0,hN,if_pos hbad]
  by_cases c1:(n:Int)<4
  ·simp only [c1,decide_true,a0p,reduceCtorEq,d6Y,if_false,bs,a0e,if_true,a0c]
   exact out g3 zit 0 14 hr3 hq3 (by rw [hz,a3P])
  ·have c2:(n:Int)>(l.length:Int) - 4:=by omega
   simp only [c1,decide_false,a0p,if_true,bs,a1P hd,a0z,w6,a2a,w6u,a0u,c2,decide_true,reduceCtorEq,d6Y,d6X,if_false,a0e,a0c]
   exact out g3 zit 0 14 hr3 hq3 (by rw [hz,a3P])
 have c1:¬ (n:Int)<4:=by omega
 have c2:¬ (n:Int)>(l.length:Int) - 4:=by omega
 simp only [c1,decide_false,a0p,if_true,bs,a1P hd,a0z,w6,a2a,w6u,a0u,c2,reduceCtorEq,d6Y,d6X,if_false,a0e,a0c,a3r,w5,a4K d (n:Int) true (a1x hd)]
 obtain ⟨x5,e5,r5⟩:=b0r (s:=(l.drop n,false)) g3 hd hl hu ⟨n,rfl,by omega,rfl⟩ 4 (by omega)
 have e5:R a2C [.agg [d,.int .i64 n,.bool true],.int .i64 4] g3=_:=e5
 obtain ⟨a5,rfl, -, -⟩:=r5
 have ht5:a0G (l.drop n,false) ((4:Nat):Int)=((l.drop n).take 4,((l.drop n).drop 4,false)):=by
  unfold a0G
  rw [if_neg (by show ¬ (false=true∨(4:Int)<0∨((l.drop n).length:Int)<4);simp [-bind_some];omega)]
  rfl
 rw [ht5] at e5
 obtain ⟨dn,en,sn⟩:=a8F hd (k := .i64) (n:=(n:Int)) (by omega) (by omega)
 rw [d7g] at sn
 have hun:∀ z∈l.take n,U8 z:=fun z hz=>hu z (List.mem_of_mem_take hz)
 have hln:(l.take n).length=n:=by simp;omega
 have e29:=c0Q (l.take n) dn g3 (.inl sn) (by omega) hun
 simp only [e5,bs,a0E,d6Z,d7a,a1Q 3 [d,.int .i64 a5,.bool (!false)] rfl,en,e29,a0w,ne_eq,a0c]
 rw [if_neg h0,if_neg hbad] at hdec
 by_cases c3:a2z (l.take n)=num ((l.drop n).take 4)
 case neg =>
  have c3':¬ num ((l.drop n).take 4)=a2z (l.take n):=fun hh=>c3 hh.symm
  rw [if_pos c3] at hdec
  simp only [c3',not_false_eq_true,decide_true,if_true]
  exact out g3 zit 0 15 hr3 hq3 (by rw [← hv,hdec,a3P])
 rw [if_neg (fun hh=>hh c3)] at hdec
 simp only [c3.symm,not_true,decide_false,d6X,if_false,a6n]
 have p3:g3[h.length+1]?=some (.row a0m 3 [[d,.int .i64 a1,.bool (!false)]]):=p3
 have o1:=a1x sn
 refine c1e (kk:=0) (row:=[d,.int .i64 a1,.bool (!false)]) p3 rfl (by rw [(a0H o1).1];rfl) (by simp) (a0H o1).2 fun g4 p4 s4=>?_
 rw [c8g _ _ _ (by simp) o1] at p4
 have p4:g4[h.length+1]?=some (.row a0m 3 [[dn,.int .i64 a1,.bool (!false)]]):=p4
 have ha4:a1=4:=by
  have h1:l.drop a1=l.drop 4:=hs1
  have h2:=congrArg List.length h1
  simp at h2
  omega
 have hl4':g4.length=h.length+2:=by rw [s4.1,hl3]
 simp only [bs,hl4']
 have S0:DcS h (a0I g4 a0P 11 [itr zit]) (l.take n) dn (itc [] 0 0 0 0 .nils 0 0 [] [] .nils) ((l.take n).drop 4,false) :=
  ⟨by rw [a0Y _ _ _ _ (by omega),s4.2 _ (by omega)];exact hr3,⟨a1,by rw [a0Y _ _ _ _ (by omega)];exact p4,by omega,by rw [ha4]⟩,by rw [← hl4'];exact a1h _ _ _ _,fun q hq=>by rw [a0Y _ _ _ _ (by omega),s4.2 q (by omega)];exact hq3 q hq⟩
 generalize a0I g4 a0P 11 [itr zit]=g5 at *
 have hB:(l.take n).length≤1000000000:=by omega
 generalize hs0:((l.take n).drop 4,false)=s0 at *
 have s0f:∀ z∈s0.1,U8 z:=fun z hz=>by
  rw [← hs0] at hz
  exact hun z (List.mem_of_mem_drop hz)
 simp only [b2r,a4k,b2m,a9Y,a4O,a4P,a3Q,b2n,b2o,b2p,b2q,a6J]
 refine dcT S0 sn hB hun (by simp [-bind_some, itc]) fun g6 S1=>?_
 refine dcI S1 sn hB hun (by simp [-bind_some, itc]) fun g6 S2=>?_
 refine dcI S2 sn hB hun (by simp [-bind_some, itc]) fun g6 S3=>?_
 refine dcI S3 sn hB hun (by simp [-bind_some, itc]) fun g6 S4=>?_
 refine dcI S4 sn hB hun (by simp [-bind_some, itc]) fun g6 S5=>?_
 refine dcL S5 sn hB hun (by simp [-bind_some, itc]) fun g6 ld sl S6=>?_
 refine dcI S6 sn hB hun (by simp [-bind_some, itc]) fun g6 S7=>?_
 refine dcI S7 sn hB hun (by simp [-bind_some, itc]) fun g6 S8=>?_
 refine dcT S8 sn hB hun (by simp [-bind_some, itc]) fun g6 S9=>?_
 refine dcT S9 sn hB hun (by simp [-bind_some, itc]) fun g6 S10=>?_
 refine dcF S10 sn hB hun (by simp [-bind_some, itc]) fun g6 fd sf S11=>?_
 have S:DcS h g6 (l.take n) dn ((rvI s0).row ld fd) (rvF s0).2:=S11
 have sl:SlOf 3 a1L (rvI s0).ls ld:=sl
 have sf:SlOf 2 fld (rvI s0).fs fd:=sf
 have lnb:∀ s:Cur,(a1z s).1.toNat≤9223372036854775807:=fun s=>by
  have:(a1z s).1≤9223372036854775807:=by
   show IntKind.i64.wrap _≤_
   rw [IntKind.wrap_i64];omega
  omega
 obtain ⟨j,hj⟩:∃ j,j=c4B (rvI s0) ld fd sl sf (Nat.le_trans (b5c _ _) (lnb _)) (Nat.le_trans (b5a _ _) (lnb _)):=⟨_,rfl⟩
 have hji:itr j=(rvI s0).row ld fd:=by rw [hj];rfl
 have hjr:a1Y j=rvI s0:=by rw [hj];rfl
 rw [← hji] at S
 have hc:=hck j hjr
 have ldj:a0b tab g6 a0P (.ptr (h.length+2) 0 0)=some (.agg (itr j)):=by rw [b0h,a0O S.hi];rfl
 obtain ⟨m,hm,hm2,hm3⟩:=S.C
 obtain ⟨-,m1,m2, -⟩:=a3j hm
 have hmn:(m:Int)=(n:Int)↔(rvF s0).2.1=[]:=by
  rw [← hm3,List.drop_eq_nil_iff]
  omega
 have w7:IntKind.wrap .i64 ((n:Int)+4)=(n:Int)+4:=wrap_i64 (by omega) (by omega)
 simp only [a3z,a2S,m1,m2,a1y,bs,Bool.not_not,d6W]
 by_cases b1:(rvF s0).2.2=true
 ·rw [if_pos (.inl b1)] at hdec
  simp only [b1,a0p,reduceCtorEq,d6Y,if_false,if_true,bs,a0e,a1f,a0c]
  exact out g6 zit 0 1 S.hr S.lo (by rw [← hv,hdec,a3P])
 have b1:(rvF s0).2.2=false:=by simpa using b1
 simp only [b1,a0p,if_true,m1,a0w,ne_eq,hmn,bs,a0e,d6X,if_false]
 by_cases b2:(rvF s0).2.1=[]
 case neg =>
  rw [if_pos (.inr (.inl b2))] at hdec
  simp only [b2,not_false_eq_true,decide_true,a0p,reduceCtorEq,d6Y,if_false,if_true,bs,a0e,a1f,a0c]
  exact out g6 zit 0 1 S.hr S.lo (by rw [← hv,hdec,a3P])
 simp only [b2,not_true,decide_false,a0p,a1f,ldj,hc,if_true,bs,a0w,ne_eq,a0e,d6X,if_false,a0c]
 by_cases b3:c=0
 case neg =>
  rw [if_pos (.inr (.inr b3))] at hdec
  simp only [b3,not_false_eq_true,decide_true,if_true]
  exact out g6 zit 0 1 S.hr S.lo (by rw [← hv,hdec,a3P])
 rw [if_neg (by simp [-bind_some, b1,b2,b3])] at hdec
 have b3':decide (¬ c=0)=false:=by simp [-bind_some, b3]
 simp only [b3',d6X,if_false,bs,a0t,w7]
 exact out g6 j ((n:Int)+4) 0 S.hr S.lo (by rw [← hv,hdec,hjr])
theorem a7D {s:Cur} {n:Int} (h:(a0G s n).2.2=false):s.2=false∧0≤n∧((a0G s n).2.1.length:Int)+n=s.1.length:=by
 unfold a0G at h ⊢
 split
 ·rename_i hh;rw [if_pos hh] at h;cases h
 ·rename_i hh
  have h1:¬ s.2=true:=fun x=>hh (.inl x)
  have h2:¬ n<0:=fun x=>hh (.inr (.inl x))
  have h3:¬ (s.1.length:Int)<n:=fun x=>hh (.inr (.inr x))
  refine ⟨by simpa using h1,by omega,?_⟩
  simp only [d7q]
  omega
theorem a2V {s:Cur} (h:(a0Q s).2.2=false):s.2=false∧(a0Q s).2.1.length+8=s.1.length:=by
 obtain ⟨a,b,c⟩:=a7D (s:=s) (n:=8) h
 exact ⟨a,by
  have:((a0Q s).2.1.length:Int)+8=s.1.length:=c
  omega⟩
theorem a8e {s:Cur} (h:(a1z s).2.2=false):s.2=false∧(a1z s).2.1.length+4=s.1.length:=by
 obtain ⟨a,b,c⟩:=a7D (s:=s) (n:=4) h
 exact ⟨a,by
  have:((a1z s).2.1.length:Int)+4=s.1.length:=c
  omega⟩
theorem a8q (s:Cur):(a0R s).2=(a0G (a1z s).2 (a1z s).1).2:=by unfold a0R;split <;> rfl
theorem a4u {s:Cur} (h:(a0R s).2.2=false):s.2=false∧(a0R s).2.1.length+4≤s.1.length:=by
 rw [a8q] at h ⊢
 obtain ⟨a,b,c⟩:=a7D h
 obtain ⟨d,e⟩:=a8e a
 exact ⟨d,by omega⟩
theorem b7T {s:Cur} (h:(a4G s).2.2=false):s.2=false∧(a4G s).2.1.length+8≤s.1.length:=by
 have h:(a0R (a0Q (a0Q s).2).2).2.2=false:=h
 obtain ⟨a,b⟩:=a4u h
 obtain ⟨c,d⟩:=a2V a
 obtain ⟨e,f⟩:=a2V c
 exact ⟨e,by show (a0R (a0Q (a0Q s).2).2).2.1.length+8≤_;omega⟩
theorem c1u {s:Cur} (h:(fdS s).2.2=false):s.2=false∧(fdS s).2.1.length+8≤s.1.length:=by
 have h:(a0R (a0R s).2).2.2=false:=h
 obtain ⟨a,b⟩:=a4u h
 obtain ⟨c,d⟩:=a4u a
 exact ⟨c,by show (a0R (a0R s).2).2.1.length+8≤_;omega⟩
theorem b8M:∀ (n:Nat) (s:Cur),(a3T n s).2.2=false→s.2=false∧8*n+(a3T n s).2.1.length≤s.1.length∧a3T n s=a4p n s
 | 0,s,h=>⟨h,by simp [-bind_some, a3T],rfl⟩
 | n+1,s,h=>by
  by_cases hs:s.2=true
  ·rw [b5b _ _ hs] at h
   rw [hs] at h;cases h
  ·unfold a3T at h ⊢
   rw [if_neg hs] at h ⊢
   obtain ⟨a,b,c⟩:=b8M n (a4G s).2 h
   obtain ⟨d,e⟩:=b7T a
   refine ⟨d,?_,?_⟩
   ·show 8*(n+1)+(a3T n (a4G s).2).2.1.length≤_
    omega
   ·rw [c];rfl
theorem b8a:∀ (n:Nat) (s:Cur),(a4p n s).2.2=false→s.2=false∧a3T n s=a4p n s
 | 0,s,h=>⟨h,rfl⟩
 | n+1,s,h=>by
  obtain ⟨a,c⟩:=b8a n (a4G s).2 h
  obtain ⟨d,e⟩:=b7T a
  refine ⟨d,?_⟩
  unfold a3T
  rw [if_neg (by simp [-bind_some, d]),c];rfl
theorem b2S:∀ (n:Nat) (s:Cur),(a3S n s).2.2=false→s.2=false∧8*n+(a3S n s).2.1.length≤s.1.length∧a3S n s=a4F n s
 | 0,s,h=>⟨h,by simp [-bind_some, a3S],rfl⟩
 | n+1,s,h=>by
  by_cases hs:s.2=true
  ·rw [b4Z _ _ hs] at h
   rw [hs] at h;cases h
  ·unfold a3S at h ⊢
   rw [if_neg hs] at h ⊢
   obtain ⟨a,b,c⟩:=b2S n (fdS s).2 h
   obtain ⟨d,e⟩:=c1u a
   refine ⟨d,?_,?_⟩
   ·show 8*(n+1)+(a3S n (fdS s).2).2.1.length≤_
    omega
   ·rw [c];rfl
theorem b2s:∀ (n:Nat) (s:Cur),(a4F n s).2.2=false→s.2=false∧a3S n s=a4F n s
 | 0,s,h=>⟨h,rfl⟩
 | n+1,s,h=>by
  obtain ⟨a,c⟩:=b2s n (fdS s).2 h
  obtain ⟨d,e⟩:=c1u a
  refine ⟨d,?_⟩
  unfold a3S
  rw [if_neg (by simp [-bind_some, d]),c];rfl
theorem b0K {s:Cur} (h:(a1z s).2.2=false) (hn:8*(a1z s).1.toNat≤(a1z s).2.1.length):a0T s=a1z s:=by
 unfold a0T
 rw [if_neg]
 rintro (hh | hh)
 ·rw [h] at hh;cases hh
 ·rw [Int.tdiv_eq_ediv_of_nonneg (by omega)] at hh
  omega
theorem a6d {s:Cur} (h:(a0T s).2.2=false):a0T s=a1z s:=by
 unfold a0T at h ⊢
 split
 ·rename_i hh;rw [if_pos hh] at h;cases h
 ·rfl
theorem c7M {s:Cur}:((rvL s).2.2=false∨(a6W s).2=false)→rvL s=a4p (a0T (a3U s)).1.toNat (a0T (a3U s)).2:=by
 rintro (h | h)
 ·obtain ⟨a,b,c⟩:=b8M _ _ h
  have hc:=b0K a (by omega)
  rw [hc];exact c
 ·obtain ⟨a,c⟩:=b8a _ _ h
  have hc:=a6d a
  rw [hc] at c ⊢
  exact c
theorem c7K {s:Cur} (h:(rvC s).2=false):(rvL s).2.2=false:=by
 have h:(a0R (a0R (a0Q (a0Q (rvL s).2).2).2).2).2.2=false:=h
 exact (a2V (a2V (a4u (a4u h).1).1).1).1
theorem c4k {s:Cur} (h:(a5T s).2=false):(a6W s).2=false:=by
 have h:(a0R (a0R (a0Q (a0Q (a6W s)).2).2).2).2.2=false:=h
 exact (a2V (a2V (a4u (a4u h).1).1).1).1
theorem c7N {s:Cur} (h:(rvF s).2.2=false∨(a6C s).2=false):(rvF s).2=a6C s∧rvI s=a1V s:=by
 have hL:rvL s=a4p (a0T (a3U s)).1.toNat (a0T (a3U s)).2:=by
  apply c7M
  rcases h with h | h
  ·exact .inl (c7K (a8e (b2S _ _ h).1).1)
  ·have h1:=(b2s _ _ h).1
   have h2:=a6d h1
   rw [h2] at h1
   exact .inr (c4k (a8e h1).1)
 have hB:(rvL s).2=a6W s:=by rw [hL];rfl
 have hC:rvC s=a5T s:=by unfold rvC a5T;rw [hB]
 have hF:rvF s=a4F (a0T (a5T s)).1.toNat (a0T (a5T s)).2:=by
  unfold rvF at h ⊢
  rw [hC] at h ⊢
  rcases h with h | h
  ·obtain ⟨a,b,c⟩:=b2S _ _ h
   have hc:=b0K a (by omega)
   rw [hc];exact c
  ·obtain ⟨a,c⟩:=b2s _ _ h
   have hc:=a6d a
   rw [hc] at c ⊢
   exact c
 refine ⟨by rw [hF];rfl,?_⟩
 unfold rvI a1V
 rw [hB,hF,hL]
theorem c0a (c c':Int) (l:List Int) (hc:rvI ((l.take (num (l.take 4)).toNat).drop 4,false)=a1V ((l.take (num (l.take 4)).toNat).drop 4,false)→c=c'):a8O c l=a5K c' l:=by
 unfold a8O a5K
 generalize hs:((l.take (num (l.take 4)).toNat).drop 4,false)=s at hc ⊢
 by_cases h0:l.length<4
 ·rw [if_pos h0,if_pos h0]
 rw [if_neg h0,if_neg h0]
 by_cases h1:num (l.take 4)<4∨(l.length:Int) - 4<num (l.take 4)
 ·rw [if_pos h1,if_pos h1]
 rw [if_neg h1,if_neg h1]
 by_cases h2:a2z (l.take (num (l.take 4)).toNat)≠num ((l.drop (num (l.take 4)).toNat).take 4)
 ·rw [if_pos h2,if_pos h2]
 rw [if_neg h2,if_neg h2]
 by_cases hg:(rvF s).2.2=false∨(a6C s).2=false
 ·obtain ⟨a,b⟩:=c7N hg
  have:=hc b
  subst this
  rw [a,b]
  have e:(a6C s).1≠[]↔0<(a6C s).1.length:=by
   rw [List.length_pos_iff]
  simp only [e]
  split
  ·rfl
  ·rw [Int.add_comm]
 ·have g1:(rvF s).2.2=true:=by
    cases hh:(rvF s).2.2
    ·exact absurd (.inl hh) hg
    ·rfl
  have g2:(a6C s).2=true:=by
   cases hh:(a6C s).2
   ·exact absurd (.inr hh) hg
   ·rfl
  rw [if_pos (.inl g1),if_pos (.inl g2)]
theorem b9b (s:Cur) (n:Int):(a0G s n).1.length≤s.1.length:=by
 unfold a0G
 split
 ·exact Nat.zero_le _
 ·simp [-bind_some];omega
theorem b9c (s:Cur):((a0R s).1.getD []).length≤s.1.length:=by
 have h1:=b9b (a1z s).2 (a1z s).1
 have h2:=a8d s
 unfold a0R
 split
 ·simp [-bind_some]
 ·simp [-bind_some, bys];omega
theorem b8L:∀ (n:Nat) (s:Cur),(a3T n s).2.1.length≤s.1.length
 | 0,s=>Nat.le_refl _
 | n+1,s=>by
  have h1:=b8L n (a4G s).2
  have h2:=b7S s
  unfold a3T
  split
  ·exact Nat.le_refl _
  ·simp only;omega
theorem b8I:∀ (n:Nat) (s:Cur),∀ p∈(a3S n s).1,p.1.length≤s.1.length
 | 0,s,p,hp=>by cases hp
 | n+1,s,p,hp=>by
  have h1:=b9c s
  have h2:=a3N s
  have h3:=a3N (a0R s).2
  unfold a3S at hp
  split at hp
  ·cases hp
  ·rcases d7s.1 hp with rfl | hp
   ·exact h1
   ·have:=b8I n (fdS s).2 p hp
    have h4:(fdS s).2.1.length=(a0R (a0R s).2).2.1.length:=rfl
    omega
theorem c7L (s:Cur):∀ p∈(rvI s).fs,p.1.length≤s.1.length:=by
 intro p hp
 have h1:=b8I _ _ p (show p∈(a3S (a1z (rvC s)).1.toNat (a1z (rvC s)).2).1 from hp)
 have h2:=a8d (rvC s)
 have h3:=a3N (a0R (a0Q (a0Q (rvL s).2).2).2).2
 have h4:=a3N (a0Q (a0Q (rvL s).2).2).2
 have h5:=a3R (a0Q (rvL s).2).2
 have h6:=a3R (rvL s).2
 have h7:=b8L (a1z (a3U s)).1.toNat (a1z (a3U s)).2
 have h8:=a8d (a3U s)
 have h9:=b2V s
 have e1:(rvC s).1.length=(a0R (a0R (a0Q (a0Q (rvL s).2).2).2).2).2.1.length:=rfl
 have e2:(rvL s).2.1.length=(a3T (a1z (a3U s)).1.toNat (a1z (a3U s)).2).2.1.length:=rfl
 omega
theorem a3v {s:Cur} (h:(a0R s).2.2=false):s.2=false∧(a0R s).2.1.length+4+((a0R s).1.getD []).length=s.1.length:=by
 have h':=h
 rw [a8q] at h'
 obtain ⟨a,b,c⟩:=a7D h'
 obtain ⟨d,e⟩:=a8e a
 have hl:((a0G (a1z s).2 (a1z s).1).1.length:Int)=(a1z s).1:=by
  unfold a0G at h' ⊢
  split
  ·rename_i hh;rw [if_pos hh] at h';cases h'
  ·rename_i hh
   simp only [d7r]
   omega
 have ht:(a0R s).1.getD []=bys (a0G (a1z s).2 (a1z s).1).1:=by
  unfold a0R
  rw [if_neg (by rw [h'];simp [-bind_some])];rfl
 rw [a8q,ht]
 refine ⟨d,?_⟩
 simp only [bys,d7c]
 omega
theorem a7I {s:Cur} (h:(a0T s).2.2=false):s.2=false∧(a0T s).2.1.length+4=s.1.length:=by
 have:=a6d h
 rw [this] at h ⊢
 exact a8e h
theorem b1z:∀ (n:Nat) (s:Cur),(a4p n s).2.2=false→s.2=false∧(a4p n s).2.1.length+((a4p n s).1.map lnB).flatten.length=s.1.length
 | 0,s,h=>⟨h,by simp [-bind_some, a4p]⟩
 | n+1,s,h=>by
  obtain ⟨a,b⟩:=b1z n (a4G s).2 h
  have a':(a0R (a0Q (a0Q s).2).2).2.2=false:=a
  obtain ⟨c,d⟩:=a3v a'
  obtain ⟨e,f⟩:=a2V c
  obtain ⟨g,i⟩:=a2V e
  refine ⟨g,?_⟩
  have hb:(lnB (a4G s).1).length=20+((a0R (a0Q (a0Q s).2).2).1.getD []).length:=by
   simp only [lnB,a4G,pS,a6U,d7b,a1m,a1H];omega
  have b':(a4p n (a4G s).2).2.1.length+((a4p n (a4G s).2).1.map lnB).flatten.length=(a0R (a0Q (a0Q s).2).2).2.1.length:=b
  simp only [a4p,d7e,List.flatten_cons,d7b,hb]
  omega
theorem b0V:∀ (n:Nat) (s:Cur),(a4F n s).2.2=false→s.2=false∧(a4F n s).2.1.length+((a4F n s).1.map fdB).flatten.length=s.1.length
 | 0,s,h=>⟨h,by simp [-bind_some, a4F]⟩
 | n+1,s,h=>by
  obtain ⟨a,b⟩:=b0V n (fdS s).2 h
  have a':(a0R (a0R s).2).2.2=false:=a
  obtain ⟨c,d⟩:=a3v a'
  obtain ⟨e,f⟩:=a3v c
  refine ⟨e,?_⟩
  have hb:(fdB (fdS s).1).length=8+((a0R s).1.getD []).length+((a0R (a0R s).2).1.getD []).length:=by
   simp only [fdB,fdS,pS,a6U,d7b,a1H];omega
  have b':(a4F n (fdS s).2).2.1.length+((a4F n (fdS s).2).1.map fdB).flatten.length=(a0R (a0R s).2).2.1.length:=b
  simp only [a4F,d7e,List.flatten_cons,d7b,hb]
  omega
theorem c4l {s:Cur} {j:It} (hj:a1Y j=a1V s) (h:(a6C s).2=false):(a1t j).length+(a6C s).1.length=s.1.length:=by
 obtain ⟨a1,b1⟩:=b0V _ _ (show (a4F (a0T (a5T s)).1.toNat (a0T (a5T s)).2).2.2=false from h)
 obtain ⟨a2,b2⟩:=a7I a1
 obtain ⟨a3,b3⟩:=a3v (show (a0R (a0R (a0Q (a0Q (a6W s)).2).2).2).2.2=false from a2)
 obtain ⟨a4,b4⟩:=a3v a3
 obtain ⟨a5,b5⟩:=a2V a4
 obtain ⟨a6,b6⟩:=a2V a5
 obtain ⟨a7,b7⟩:=b1z _ _ (show (a4p (a0T (a3U s)).1.toNat (a0T (a3U s)).2).2.2=false from a6)
 obtain ⟨a8,b8⟩:=a7I a7
 obtain ⟨a9,b9⟩:=a2V (show (a0Q (a0Q (a0Q (a0Q (a0R s).2).2).2).2).2.2=false from a8)
 obtain ⟨c1,d1⟩:=a2V a9
 obtain ⟨c2,d2⟩:=a2V c1
 obtain ⟨c3,d3⟩:=a2V c2
 obtain ⟨c4,d4⟩:=a3v c3
 have e1:(a6C s).1.length=(a4F (a0T (a5T s)).1.toNat (a0T (a5T s)).2).2.1.length:=rfl
 have e2:(a5T s).1.length=(a0R (a0R (a0Q (a0Q (a6W s)).2).2).2).2.1.length:=rfl
 have e3:(a6W s).1.length=(a4p (a0T (a3U s)).1.toNat (a0T (a3U s)).2).2.1.length:=rfl
 have e4:(a3U s).1.length=(a0Q (a0Q (a0Q (a0Q (a0R s).2).2).2).2).2.1.length:=rfl
 have hr:j.r=(a0R s).1.getD []:=congrArg RI.r hj
 have h7:j.e.s7=(a0R (a0Q (a0Q (a6W s)).2).2).1.getD []:=congrArg RI.t7 hj
 have h8:j.e.s8=(a0R (a0R (a0Q (a0Q (a6W s)).2).2).2).1.getD []:=congrArg RI.t8 hj
 have hl:j.e.ls=(a4p (a0T (a3U s)).1.toNat (a0T (a3U s)).2).1:=congrArg RI.ls hj
 have hf:j.e.fs=(a4F (a0T (a5T s)).1.toNat (a0T (a5T s)).2).1:=congrArg RI.fs hj
 simp only [a1t,a4L,a3x,d7b,a1m,a1H,pS,a6U]
 rw [← hl] at b7
 rw [← hf] at b1
 rw [← h7] at b4
 rw [← h8] at b3
 rw [← hr] at d4
 omega
noncomputable def ckR (x:RI):Int:=@dite _ (∃ j:It,a1Y j=x) (Classical.propDecidable _) (fun h=>itE (Classical.choose h)) fun _=>0
theorem b0I (j:It):ckR (a1Y j)=itE j:=by
 have h:∃ i:It,a1Y i=a1Y j:=⟨j,rfl⟩
 unfold ckR
 rw [dif_pos h]
 exact (b8J (Classical.choose_spec h)).2.1
noncomputable def a3W (l:List Int):Int × Int × RI:=a5K (ckR (a1V ((l.take (num (l.take 4)).toNat).drop 4,false))) l
theorem c2I (l:List Int) (d:D) (h:Hp) (hd:SlOf 1 byr l d) (hl:l.length≤1000000000) (hu:∀ z∈l,U8 z) :
  (∃ j:It,R a8U [d] h=some (.tup [.agg (itr j),.int .i64 (a3W l).2.1,.int .i64 (a3W l).1],h)∧a1Y j=(a3W l).2.2)∧∃ j:It,R b1e [d] h=some (.tup [.agg (itr j),.int .i64 (a3W l).2.1,.int .i64 (a3W l).1],h)∧a1Y j=(a3W l).2.2:=by
 obtain ⟨j,e1,r1⟩:=c7Z l d (ckR (a1V ((l.take (num (l.take 4)).toNat).drop 4,false))) h hd hl hu fun j hj g=>by
  rw [← hj,b0I];exact b8Q j g
 obtain ⟨j',e2,r2⟩:=d2Q l d (ckR (rvI ((l.take (num (l.take 4)).toNat).drop 4,false))) h hd hl hu fun j hj g=>by
  rw [← hj,b0I]
  refine b8P j g fun p hp=>?_
  have hp:p∈(a1Y j).fs:=hp
  rw [hj] at hp
  have:p.1.length≤((l.take (num (l.take 4)).toNat).drop 4).length:=c7L _ p hp
  have h2:((l.take (num (l.take 4)).toNat).drop 4).length≤l.length:=by simp;omega
  omega
 rw [c0a _ (ckR (a1V ((l.take (num (l.take 4)).toNat).drop 4,false))) l fun hh=>by rw [hh]] at e2 r2
 exact ⟨⟨j,e1,r1⟩,j',e2,r2⟩
theorem b6J {l:List Int} (h:(a3W l).1=0):8≤(a3W l).2.1∧(a3W l).2.1≤l.length∧∀ j:It,a1Y j=(a3W l).2.2→((a2M j).length:Int)=(a3W l).2.1:=by
 unfold a3W a5K at h ⊢
 by_cases h1:l.length<4
 ·rw [if_pos h1] at h;cases h
 by_cases h2:num (l.take 4)<4∨(l.length:Int) - 4<num (l.take 4)
 ·rw [if_neg h1,if_pos h2] at h;cases h
 by_cases h3:a2z (l.take (num (l.take 4)).toNat)≠num ((l.drop (num (l.take 4)).toNat).take 4)
 ·rw [if_neg h1,if_neg h2,if_pos h3] at h;cases h
 by_cases h4:(a6C ((l.take (num (l.take 4)).toNat).drop 4,false)).2=true∨0<(a6C ((l.take (num (l.take 4)).toNat).drop 4,false)).1.length∨ckR (a1V ((l.take (num (l.take 4)).toNat).drop 4,false))≠0
 ·rw [if_neg h1,if_neg h2,if_neg h3,if_pos h4] at h;cases h
 rw [if_neg h1,if_neg h2,if_neg h3,if_neg h4]
 refine ⟨by simp only;omega,by simp only;omega,fun j hj=>?_⟩
 have hv:=c4l hj (by
  cases hh:(a6C ((l.take (num (l.take 4)).toNat).drop 4,false)).2
  ·rfl
  ·exact absurd (.inl hh) h4)
 have h0:(a6C ((l.take (num (l.take 4)).toNat).drop 4,false)).1.length=0:=by
  apply Classical.byContradiction
  intro hh
  exact h4 (.inr (.inl (by omega)))
 rw [h0] at hv
 simp only [d7q,d7r] at hv
 rw [a3K]
 simp only
 omega
theorem a8k:∀ (l:List Int),(∀ z∈l,U8 z)→sby (bys l)=l
 | [],_=>rfl
 | z::l,h=>by
  have ih:=a8k l fun x hx=>h x (by simp [-bind_some, hx])
  have hz:=h z (by simp)
  unfold U8 at hz
  unfold bys sby at ih ⊢
  rw [d7e,d7e,ih]
  congr 1
  have:(UInt8.ofNat z.toNat).toNat=z.toNat:=by simp;omega
  rw [this]
  omega
theorem d1T (v:Int) (n0:Nat):∀ (k:Nat),k≤8→∀ (h:Hp) (l:List Int) (d a:D),n0≤h.length→Own h n0 ty5 1 (l.map byr) d→l.length+k≤1000000000→∃ d' h' b,a0N (a7u (.int .i64 v)) [d,.int .i64 (8*((k:Int) - 1)),a] h=some (.ext 0,[d',b,.bool false],h')∧Bw n0 h d h' (l++a3H k v) d':=by
 intro k
 induction k with
 | zero =>
  intro _ h l d a hn ow hr
  rw [a2c]
  refine ⟨d,h,_,by simp [-bind_some, a7u];rfl,?_⟩
  simpa [-bind_some, a3H] using Bw.refl ow
 | succ k ih =>
  intro hk h l d a hn ow hr
  have hg:(0:Int)≤8*(((k+1:Nat):Int) - 1):=by omega
  have hw1:8*(((k+1:Nat):Int) - 1)=8*(k:Int):=by omega
  have hw2:IntKind.wrap .i64 (8*(k:Int) - 8)=8*((k:Int) - 1):=by rw [wrap_i64 (by omega) (by omega)];omega
  have h8:¬ (8*(k:Int))<0:=by omega
  have hmn:min (8*(k:Int)).toNat IntKind.i64.bits=8*k:=by
   have:IntKind.i64.bits=64:=rfl
   rw [this];omega
  obtain ⟨x',g,e1,B1⟩:=b5o (y := .sl 1 true [byr (IntKind.wrap .u8 (v.fdiv (2 ^ (8*k))))]) (m:=[IntKind.wrap .u8 (v.fdiv (2 ^ (8*k)))]) hn ow (a1l _ _ _ _) (by simp;omega)
  obtain ⟨d',h',b,e2,B2⟩:=ih (by omega) g _ x' (.bool true) (Nat.le_trans hn B1.len) B1.ow (by simp;omega)
  refine ⟨d',h',b,?_,?_⟩
  ·rw [a2c]
   rw [hw1] at hg ⊢
   simp only [a7u,a0f,a0o,bs,a3s,decide_eq_true hg,a0c,if_true,a4j,h8,if_false,hmn,c9f,b6v,show ∀ z,([[D.int .u8 z]]:List (List D))=[byr z] from fun _=>rfl,e1,a0z,hw2]
   exact e2
  ·have:=B1.trans B2
   simpa [-bind_some, a3H] using this
theorem c0S (v:Int) (k:Nat) (hk:k≤8) (n0:Nat) (h:Hp) (l:List Int) (d:D) (hn:n0≤h.length) (ow:Own h n0 ty5 1 (l.map byr) d) (hr:l.length≤999999000):∃ d' h',R a3Y [d,.int .i64 v,.int .i64 k] h=some (d',h')∧Bw n0 h d h' (l++a3H k v) d':=by
 obtain ⟨d',h',b,e1,B⟩:=d1T v n0 k hk h l d .any hn ow (by omega)
 refine ⟨d',h',?_,B⟩
 rw [d0C]
 have hw:IntKind.wrap .i64 ((k:Int) - 1)=(k:Int) - 1:=by rw [wrap_i64 (by omega) (by omega)]
 have hw2:IntKind.wrap .i64 (8*((k:Int) - 1))=8*((k:Int) - 1):=by rw [wrap_i64 (by omega) (by omega)]
 simp only [c5T,bs,a0z,hw,a2x,hw2,d6W,e1,a0s,a0r,a0f,a0i]
theorem c8c (l:List Int) (d:D) (h:Hp) (hd:RdB h l d) (hl:l.length≤9223372036854775806) (hu:∀ z∈l,U8 z):R b4t [d] h=some (.int .i64 (a2z l),h):=by
 apply Wp.val
 rw [d0D]
 simp only [c5U,bs,d6W,a8h hd]
 refine Wp.loop (fun k ds g=>g=h∧∃ x y,∃ n:Nat,ds=[.int .u64 (a2z (l.take n)),x,.int .i64 n,y]∧k+n=l.length) (fun r=>r.1 = .ext 0∧r.2.2=h∧∃ a b c,r.2.1=[.int .u64 (a2z l),a,b,c]) l.length ⟨rfl,_,_,0,rfl,rfl⟩ ?_ ?_
 ·rintro k ds g ⟨rfl,x,y,n,rfl,hk⟩
  simp only [b3u,a0f,a0o,bs,d6W,a0k]
  refine Wp.dif ?_ ?_
  ·intro h0
   have h0:n<l.length:=dl_ h0
   obtain ⟨z,hz⟩:=gx_ h0
   have hzu:=hu z (d7l hz)
   obtain ⟨q,q1,q2⟩:=b8z hd n z hz
   have hr:=a3u (l.take n)
   have hw:=wi_ n (by omega)
   unfold U8 at hzu
   have w1:IntKind.wrap .u64 (a2z (l.take n)*31)=a2z (l.take n)*31:=a1s (by omega) (by omega)
   have w2:IntKind.wrap .u64 z=z:=a1s (by omega) (by omega)
   have w3:IntKind.wrap .u64 (a2z (l.take n)*31+z)=a2z (l.take n)*31+z:=a1s (by omega) (by omega)
   have w4:(a2z (l.take n)*31+z).tmod 4294967291=a2z (l.take (n+1)):=by
    rw [a7H hz,Int.tmod_eq_emod_of_nonneg (by omega)]
   simp only [a2x,w1,q1,q2,a6e,w2,a0t,w3,bs,a3J,show ¬ ((4294967291:Int)=0) by omega,if_false,w4,hw]
   exact .some (.inl ⟨rfl,k - 1,by omega,rfl,_,_,n+1,rfl,by omega⟩)
  ·intro h0
   have h0:n=l.length:=by
    have:¬ (n:Int)<l.length:=by simpa using h0
    omega
   subst h0
   rw [d7v]
   exact .some (.inr ⟨by simp,rfl,rfl,_,_,_,rfl⟩)
 ·rintro ⟨ex,ds,g⟩ ⟨rfl,q2,a,b,c,rfl⟩
  simp only at q2
  subst q2
  have hr:=a3u l
  simp only [a0s,a0r,bs,a0f,a3r,wrap_i64 (n:=a2z l) (by omega) (by omega),a0i]
  exact .some rfl
theorem c6s (x:Int):BitVec.ofInt 64 (IntKind.wrap .i64 x)=BitVec.ofInt 64 x:=by
 apply BitVec.eq_of_toInt_eq
 rw [BitVec.toInt_ofInt,BitVec.toInt_ofInt]
 unfold IntKind.wrap
 simp [-bind_some, IntKind.signed,IntKind.bits,IntKind.min,IntKind.max,Int.bmod]
 omega
theorem c7A {x b:Int} (h0:0≤x) (hb0:0≤b) (hb:b<256) (hx:x*256+b<18446744073709551616):IntKind.wrap .i64 (BitVec.ofInt IntKind.i64.bits (IntKind.wrap .i64 (x*256)) ||| BitVec.ofInt IntKind.i64.bits b).toNat=IntKind.wrap .i64 (x*256+b):=by
 have h1:=b8n (x:=x) (b:=b) 8 h0 hb0 (by omega) (by omega)
 rw [b1W] at h1
 have h3:(2:Int) ^ 8=256:=by decide
 rw [h3] at h1
 have h2:((BitVec.ofInt 64 (IntKind.wrap .i64 (x*256)) ||| BitVec.ofInt 64 b).toNat:Int)=x*256+b:=by rw [c6s];exact h1
 exact congrArg (IntKind.wrap .i64) h2
theorem c3V (l:List Int) (d:D) (h:Hp) (hd:SlOf 1 byr l d) (hl:l.length≤8) (hu:∀ z∈l,U8 z):R b1k [d] h=some (.int .i64 (IntKind.wrap .i64 (num l)),h):=by
 apply Wp.val
 rw [d0G]
 simp only [c5X,bs,d6W,a1P hd]
 have h00:IntKind.wrap .i64 (num (l.take 0))=0:=by simp [-bind_some, num];rfl
 refine Wp.loop (fun k ds g=>g=h∧∃ x y,∃ n:Nat,ds=[.int .i64 (IntKind.wrap .i64 (num (l.take n))),x,.int .i64 n,y]∧k+n=l.length) (fun r=>r.1 = .ext 0∧r.2.2=h∧∃ a b c,r.2.1=[.int .i64 (IntKind.wrap .i64 (num l)),a,b,c]) l.length ⟨rfl,_,_,0,by rw [h00];rfl,rfl⟩ ?_ ?_
 ·rintro k ds g ⟨rfl,x,y,n,rfl,hk⟩
  simp only [b3v,a0f,a0o,bs,d6W,a0k]
  refine Wp.dif ?_ ?_
  ·intro h0
   have h0:n<l.length:=dl_ h0
   obtain ⟨z,hz⟩:=gx_ h0
   have hzu:=hu z (d7l hz)
   have hw:=wi_ n (by omega)
   unfold U8 at hzu
   obtain ⟨hn0,hn1⟩:=a2k n (l.take n) (by simp;omega) fun z hz=>hu z (List.mem_of_mem_take hz)
   have hb:num (l.take n)<72057594037927936:=by
    have:n=0∨n=1∨n=2∨n=3∨n=4∨n=5∨n=6∨n=7:=by omega
    rcases this with rfl | rfl | rfl | rfl | rfl | rfl | rfl | rfl <;> omega
   have m3:min ((8:Int).toNat) IntKind.i64.bits=8:=by decide
   have p3:(2:Int) ^ 8=256:=by decide
   have w0:IntKind.wrap .i64 (num (l.take n))=num (l.take n):=wrap_i64 (by omega) (by omega)
   have w2:IntKind.wrap .i64 z=z:=wrap_i64 (by omega) (by omega)
   have w3:=c7A (x:=num (l.take n)) (b:=z) hn0 (by omega) (by omega) (by omega)
   have hii:a0d tab a0J d (.int .i64 (n:Int))=some (.fptr (byr z)):=by rw [c0x hd];simp [-bind_some, hz]
   rw [← a7z hz] at w3
   simp only [w0,hii,b3G,bs,a9P,show ¬ (8:Int)<0 by omega,if_false,m3,p3,c6A,w2,b2e,w3,a0t,hw]
   exact .some (.inl ⟨rfl,k - 1,by omega,rfl,_,_,n+1,rfl,by omega⟩)
  ·intro h0
   have h0:n=l.length:=by
    have:¬ (n:Int)<l.length:=by simpa using h0
    omega
   subst h0
   rw [d7v]
   exact .some (.inr ⟨by simp,rfl,rfl,_,_,_,rfl⟩)
 ·rintro ⟨ex,ds,g⟩ ⟨rfl,q2,a,b,c,rfl⟩
  simp only at q2
  subst q2
  simp only [a0s,a0r,bs,a0f,a0i]
  exact .some rfl
abbrev FM:=Int × Int
def mkr (m:FM):List D:=[.int .i64 m.1,.int .i64 m.2]
theorem c1J (m:FM) (h:Hp):a0b tab h a0M (.fptr (mkr m))=some (.agg (mkr m)):=id rfl
theorem b4K (m:FM):a0a tab a0M 0 (.fptr (mkr m))=some (.fptr (mkr m)):=id rfl
theorem b1C (m:FM):a0a tab a0M 1 (.fptr (mkr m))=some (.fptr [.int .i64 m.2]):=id rfl
theorem b4L (m:FM) (h:Hp):a0b tab h ty3 (.fptr (mkr m))=some (.int .i64 m.1):=id rfl
theorem b1D (n:Int) (h:Hp):a0b tab h ty3 (.fptr [.int .i64 n])=some (.int .i64 n):=id rfl
theorem b8g (m:FM):a3o 2 (.agg (mkr m))=some (.fptr (mkr m)):=a1Q 2 _ rfl
def svr (n:Int) (dm dq:D):List D:=[.int .i64 n,dm,dq]
theorem sv0 (n:Int) (dm dq:D):a0a tab a0g 0 (.fptr (svr n dm dq))=some (.fptr (svr n dm dq)):=id rfl
theorem sv1 (n:Int) (dm dq:D):a0a tab a0g 1 (.fptr (svr n dm dq))=some (.fptr [dm,dq]):=id rfl
theorem sv2 (n:Int) (dm dq:D):a0a tab a0g 2 (.fptr (svr n dm dq))=some (.fptr [dq]):=id rfl
theorem c4F (n:Int) (dm dq:D) (g:Hp):a0b tab g ty3 (.fptr (svr n dm dq))=some (.int .i64 n):=id rfl
theorem svl (n:Int) (dm dq:D) (g:Hp):a0b tab g a0g (.fptr (svr n dm dq))=some (.agg (svr n dm dq)):=id rfl
def a6X:List FM→Bool
 | a::b::r=>decide (a.1<b.1)&&a6X (b::r)
 | _=>true
def a6x (ms:List FM):Bool:=ms.any fun m=>decide (m.1<0)||decide (m.2<0)
def stC (n:Int) (ms:List FM) (k:Nat):Int:=if n<0 then 2 else if a6X ms=false then 19 else if a6x ms=true then 2 else if 1000<ms.length∨1000<k then 4 else 0
theorem c8b (n:Int) (ms:List FM) (k:Nat) (dm dq:D) (h:Hp) (hm:SlOf 2 mkr ms dm) (hq:a0y tab a1v dq=some (.int .i64 k)) (hl:ms.length≤9000000000000000000):R b1j [.agg (svr n dm dq)] h=some (.int .i64 (stC n ms k),h):=by
 apply Wp.val
 rw [d0B]
 simp only [c5S,bs,a1G,sv0,sv1,c4F,a3M,d6W,a0k]
 by_cases hn:n<0
 ·simp only [hn,decide_true,a0c,if_true,a0i]
  exact .some (by simp [-bind_some, stC,hn])
 simp only [hn,decide_false,a0c,d6X,if_false]
 refine Wp.loop (fun j ds g=>g=h∧∃ a b,∃ i:Nat,ds=[.int .i64 0,.int .i64 (i+1:Nat),a,b]∧j+i=ms.length∧a6X (ms.drop i)=a6X ms) (fun r=>r.2.2=h∧((r.1 = .ext 0∧a6X ms=true∧∃ a b c,r.2.1=[.int .i64 0,a,b,c])∨(r.1 = .ret∧a6X ms=false∧nth 0 r.2.1 = .int .i64 19))) ms.length ⟨rfl,_,_,0,rfl,rfl,rfl⟩ ?_ ?_
 ·rintro j ds g ⟨rfl,a,b,i,rfl,hj,has⟩
  simp only [b3s,a0f,a0o,bs,d6W,sv1,a3M,a3t hm,a0k]
  refine Wp.dif ?_ ?_
  ·intro h0
   have h0:i+1<ms.length:=by
    have:((i+1:Nat):Int)<ms.length:=by simpa using h0
    omega
   have hx:ms[i]?=some ms[i]:=d7m (by omega)
   have hy:ms[i+1]?=some ms[i+1]:=d7m h0
   rw [List.drop_eq_getElem_cons (by omega),List.drop_eq_getElem_cons h0] at has
   have hd1:ms.drop (i+1)=ms[i+1]::ms.drop (i+1+1):=List.drop_eq_getElem_cons h0
   generalize ms[i]=x at *
   generalize ms[i+1]=y at *
   have hw:IntKind.wrap .i64 (((i+1:Nat):Int)+1)=((i+1+1:Nat):Int):=by rw [wrap_i64 (by omega) (by omega)];omega
   have hw2:IntKind.wrap .i64 (((i+1:Nat):Int) - 1)=(i:Int):=by rw [wrap_i64 (by omega) (by omega)];omega
   simp only [a6N hm,Int.natCast_nonneg,if_true,d7g,hx,hy,Option.map_some,bs,b4K,b4L,a0z,hw2,a2b]
   by_cases hxy:y.1≤x.1
   ·have:a6X ms=false:=by rw [← has];simp [-bind_some, a6X,show ¬ x.1<y.1 by omega]
    simp only [hxy,decide_true,a0c,if_true]
    exact .some (.inr ⟨by simp,rfl,.inr ⟨rfl,this,rfl⟩⟩)
   ·have:a6X (y::ms.drop (i+1+1))=a6X ms:=by rw [← has];simp [-bind_some, a6X,show x.1<y.1 by omega]
    simp only [hxy,decide_false,a0c,d6X,if_false,a0t,hw]
    exact .some (.inl ⟨rfl,j - 1,by omega,rfl,_,_,i+1,rfl,by omega,by rw [hd1];exact this⟩)
  ·intro h0
   have h0:¬ i+1<ms.length:=by
    have:¬ ((i+1:Nat):Int)<ms.length:=by simpa using h0
    omega
   have:a6X ms=true:=by
    rw [← has]
    cases hdr:ms.drop i with
    | nil=>rfl
    | cons x r =>
     have:(ms.drop i).length=(x::r).length:=by rw [hdr]
     simp at this
     have hr:r=[]:=List.eq_nil_of_length_eq_zero (by omega)
     subst hr;rfl
   exact .some (.inr ⟨by simp,rfl,.inl ⟨rfl,this,_,_,_,rfl⟩⟩)
 ·rintro ⟨ex,ds,g⟩ ⟨rfl,hc⟩
  rcases hc with ⟨rfl,has,a,b,c,rfl⟩ | ⟨rfl,has,h0⟩
  case inr =>
   simp only [a1K,a1J,a1E,a0f,h0,bs,a0i]
   exact .some (by simp [-bind_some, stC,hn,has])
  simp only [a0s,a0r,bs,a0f,a0o,a3t hm,sv1,a3M,d6W]
  refine Wp.loop (fun j ds g'=>g'=g∧∃ a b c,∃ i:Nat,ds=[.int .i64 0,a,.int .i64 i,b,c]∧j+i=ms.length∧a6x (ms.drop i)=a6x ms) (fun r=>r.2.2=g∧((r.1 = .ext 2∧a6x ms=false∧∃ a b c e,r.2.1=[.int .i64 0,a,b,c,e])∨(r.1 = .ret∧a6x ms=true∧nth 0 r.2.1 = .int .i64 2))) ms.length ⟨rfl,_,_,_,0,rfl,rfl,rfl⟩ ?_ ?_
  ·rintro j ds g' ⟨rfl,a,b,c,i,rfl,hj,hne⟩
   simp only [b3t,a0f,a0o,bs,d6W,a0k]
   refine Wp.dif ?_ ?_
   ·intro h0
    have h0:i<ms.length:=dl_ h0
    have hx:ms[i]?=some ms[i]:=d7m h0
    rw [List.drop_eq_getElem_cons h0] at hne
    generalize ms[i]=x at *
    have hw:=wi_ i (by omega)
    simp only [a6N hm,Int.natCast_nonneg,if_true,d7g,hx,Option.map_some,bs,c1J,b8g,b4K,b1C,b4L,b1D,a0k]
    by_cases h1:x.1<0
    ·have:a6x ms=true:=by rw [← hne];simp [-bind_some, a6x,h1]
     simp only [h1,decide_true,a0p,reduceCtorEq,d6Y,if_false,bs,a0e,if_true,a0c]
     exact .some (.inr ⟨by simp,rfl,.inr ⟨rfl,this,rfl⟩⟩)
    ·by_cases h2:x.2<0
     ·have:a6x ms=true:=by rw [← hne];simp [-bind_some, a6x,h2]
      simp only [h1,h2,b1C,b1D,decide_true,decide_false,a0p,reduceCtorEq,d6X,if_false,bs,a0e,if_true,a0c,a0k]
      exact .some (.inr ⟨by simp,rfl,.inr ⟨rfl,this,rfl⟩⟩)
     ·have:a6x (ms.drop (i+1))=a6x ms:=by rw [← hne];simp [-bind_some, a6x,h1,h2]
      simp only [h1,h2,b1C,b1D,decide_true,decide_false,a0p,reduceCtorEq,d6X,if_false,bs,a0e,if_true,a0c,a0k,a0t,hw]
      exact .some (.inl ⟨rfl,j - 1,by omega,rfl,_,_,_,i+1,rfl,by omega,this⟩)
   ·intro h0
    have h0:¬ i<ms.length:=by
     have:¬ (i:Int)<ms.length:=by simpa using h0
     omega
    have:a6x ms=false:=by rw [← hne,List.drop_of_length_le (by omega)];rfl
    exact .some (.inr ⟨by simp,rfl,.inl ⟨rfl,this,_,_,_,_,rfl⟩⟩)
  ·rintro ⟨ex,ds,g'⟩ ⟨rfl,hc⟩
   rcases hc with ⟨rfl,hne,a,b,c,e,rfl⟩ | ⟨rfl,hne,h0⟩
   case inr =>
    simp only [a1K,a1J,a1E,a0f,h0,bs,a0i]
    exact .some (by simp [-bind_some, stC,hn,has,hne])
   simp only [a0s,a0r,bs,a0f,a0o,a3t hm,sv1,a3M,a0u]
   by_cases h1:1000<ms.length
   ·have h1':(1000:Int)<ms.length:=by omega
    simp only [h1',decide_true,a0p,reduceCtorEq,d6Y,if_false,bs,a0e,if_true,a0c,a0i]
    exact .some (by simp [-bind_some, stC,hn,has,hne,h1])
   ·have h1':¬ (1000:Int)<ms.length:=by omega
    have h2':(decide ((1000:Int)<k))=decide (1000<k):=by
     by_cases hk:1000<k
     ·have:(1000:Int)<k:=by omega
      simp [-bind_some, hk,this]
     ·have:¬ (1000:Int)<k:=by omega
      simp [-bind_some, hk,this]
    simp only [h1',decide_false,a0p,d6X,reduceCtorEq,if_false,if_true,bs,a0e,sv2,b5C,hq,a0u,h2']
    refine Wp.dif (fun hk=>?_) (fun hk=>?_)
    ·have hk:1000<k:=by simpa using hk
     simp only [a0i]
     exact .some (by simp [-bind_some, stC,hn,has,hne,h1,hk])
    ·have hk:¬ 1000<k:=by simpa using hk
     simp only [a0i]
     exact .some (by simp [-bind_some, stC,hn,has,hne,h1,hk])
theorem d2i (n:Int):pI n=a3H 8 n:=by
 unfold pI
 rw [a6D]
 simp only [a3H,a7E,Int.fdiv_eq_ediv_of_nonneg _ (Int.le_of_lt (Int.pow_pos (show (0:Int)<2 by omega))),List.cons.injEq,and_true]
 simp only [show (2:Int) ^ (8*0)=1 by decide,
  show (2:Int) ^ (8*1)=256 by decide,
  show (2:Int) ^ (8*2)=65536 by decide,
  show (2:Int) ^ (8*3)=16777216 by decide,
  show (2:Int) ^ (8*4)=4294967296 by decide,
  show (2:Int) ^ (8*5)=1099511627776 by decide,
  show (2:Int) ^ (8*6)=281474976710656 by decide,
  show (2:Int) ^ (8*7)=72057594037927936 by decide]
 omega
theorem c3C (n:Nat):pN n=a3H 4 (n:Int):=by
 unfold pN
 rw [a6D]
 simp only [a3H,a7E,Int.fdiv_eq_ediv_of_nonneg _ (Int.le_of_lt (Int.pow_pos (show (0:Int)<2 by omega))),List.cons.injEq,and_true]
 simp only [show (2:Int) ^ (8*0)=1 by decide,
  show (2:Int) ^ (8*1)=256 by decide,
  show (2:Int) ^ (8*2)=65536 by decide,
  show (2:Int) ^ (8*3)=16777216 by decide]
 omega
theorem b2M {n0:Nat} {h0 h:Hp} {d0 d:D} {l:List Int} (B:Bw n0 h0 d0 h l d) (hn:n0≤h.length) (n:Int) (hr:l.length≤999999000) {β:Type} {f:D × Hp→Option β} {Q:β→Prop}
  (k:∀ d' h',Bw n0 h0 d0 h' (l++pI n) d'→n0≤h'.length→Wp (f (d',h')) Q):Wp ((R a3Y [d,.int .i64 n,.int .i64 8] h).bind f) Q:=by
 obtain ⟨d',h',e,B1⟩:=c0S n 8 (by omega) n0 h l d hn B.ow hr
 rw [← d2i] at B1
 exact Wp.step e (k d' h' (B.trans B1) (Nat.le_trans hn B1.len))
theorem b8s {n0:Nat} {h0 h:Hp} {d0 d:D} {l:List Int} (B:Bw n0 h0 d0 h l d) (hn:n0≤h.length) (n:Int) (hr:l.length≤999999000) {β:Type} {f:D × Hp→Option β} {Q:β→Prop}
  (k:∀ d' h',Bw n0 h0 d0 h' (l++a3H 4 n) d'→n0≤h'.length→Wp (f (d',h')) Q):Wp ((R a3Y [d,.int .i64 n,.int .i64 4] h).bind f) Q:=by
 obtain ⟨d',h',e,B1⟩:=c0S n 4 (by omega) n0 h l d hn B.ow hr
 exact Wp.step e (k d' h' (B.trans B1) (Nat.le_trans hn B1.len))
def mkB (m:FM):List Int:=pI m.1++pI m.2
def a1A (n:Int) (ms:List FM) (its:List It):List Int:=pI n++pN ms.length++(ms.map mkB).flatten++pN its.length++(its.map a2M).flatten
def magS:List Int:=[76,84,49,10]
def a3c (b:List Int):List Int:=magS++pN b.length++b
def b0y (n:Int) (ms:List FM) (its:List It):List Int:=a3c (a1A n ms its)++a3H 4 (a2z (a3c (a1A n ms its)))
def a7x:List It→Int
 | []=>0
 | i::r=>if itE i=0 then a7x r else itE i
def stE (n:Int) (ms:List FM) (its:List It):Int:=if stC n ms its.length=0 then a7x its else stC n ms its.length
theorem c3y (m:FM):(mkB m).length=16:=by simp [-bind_some, mkB,a1m]
theorem a4Y (ms:List FM):(ms.map mkB).flatten.length=16*ms.length:=by
 induction ms with
 | nil=>rfl
 | cons m r ih=>rw [d7e,List.flatten_cons,d7b,ih,c3y,d7o];omega
theorem a6a (n:Int) (ms:List FM) (its:List It):(a1A n ms its).length=16+16*ms.length+(its.map a2M).flatten.length:=by
 simp only [a1A,d7b,a1m,a1H,a4Y];omega
theorem a3Z (b:List Int):(a3c b).length=8+b.length:=by simp [-bind_some, a3c,magS,a1H];omega
theorem a5n (n:Int) (ms:List FM) (its:List It):(b0y n ms its).length=28+16*ms.length+(its.map a2M).flatten.length:=by
 simp only [b0y,d7b,a3Z,a6a,a1c];omega
theorem c7F (n:Int):∀ z∈pI n,U8 z:=a5c _ _
theorem c3D (n:Nat):∀ z∈pN n,U8 z:=a5c _ _
theorem b2u {α:Type} (f:α→List Int) (l:List α) (hf:∀ a,∀ z∈f a,U8 z):∀ z∈(l.map f).flatten,U8 z:=fun z hz=>by
 obtain ⟨m,hm,hz⟩:=List.mem_flatten.1 hz
 obtain ⟨a,_,rfl⟩:=d7u.1 hm
 exact hf a z hz
theorem a9K (n:Int) (ms:List FM) (its:List It):∀ z∈a1A n ms its,U8 z:=fun z hz=>by
 simp only [a1A,d7t] at hz
 rcases hz with (((hz | hz) | hz) | hz) | hz
 ·exact c7F _ z hz
 ·exact c3D _ z hz
 ·exact b2u mkB ms (fun a z hz=>by
    simp only [mkB,d7t] at hz
    rcases hz with hz | hz <;> exact c7F _ z hz) z hz
 ·exact c3D _ z hz
 ·exact b2u a2M its c2P z hz
theorem b0d {b:List Int} (hb:∀ z∈b,U8 z):∀ z∈a3c b,U8 z:=fun z hz=>by
 simp only [a3c,d7t] at hz
 rcases hz with (hz | hz) | hz
 ·exact (show ∀ z∈magS,U8 z by unfold magS U8;decide) z hz
 ·exact c3D _ z hz
 ·exact hb z hz
theorem c2Q (n:Int) (ms:List FM) (its:List It):∀ z∈b0y n ms its,U8 z:=fun z hz=>by
 simp only [b0y,d7t] at hz
 rcases hz with hz | hz
 ·exact b0d (a9K _ _ _) z hz
 ·exact a5c _ _ z hz
theorem a7Y:∀ (l:List It) (n:Nat) (i:It),a7x (l.take n)=0→l[n]?=some i→(itE i≠0→a7x l=itE i)∧(itE i=0→a7x (l.take (n+1))=0)
 | [],n,i,_,hi=>by cases hi
 | x::r,0,i,_,hi=>by
  have hx:x=i:=by simpa using hi
  subst hx
  constructor
  ·intro h;simp [-bind_some, a7x,h]
  ·intro h;simp [-bind_some, a7x,h]
 | x::r,n+1,i,h,hi=>by
  simp only [List.take_succ_cons,a7x] at h
  split at h
  ·rename_i h0
   obtain ⟨a,b⟩:=a7Y r n i h (by simpa using hi)
   exact ⟨fun hh=>by simp [-bind_some, a7x,h0,a hh],fun hh=>by simp [-bind_some, a7x,h0,b hh]⟩
  ·rename_i h0;exact absurd h h0
theorem c1I {g:Hp} {o n:Nat} {rows:List (List D)} (ho:g[o]?=some (.row ty5 1 rows)):b2f tab g a0J a0J (.msl 1 o 0 n)=some (.msl 1 o 0 n,g):=by
 have h1:tab a0J=some ti22:=id rfl
 have h2:ti22.td = .sl ty5:=id rfl
 have h3:tab ty5=some ti5:=id rfl
 have h4:ti5.td = .int .u8:=id rfl
 simp only [b2f,h1,h2,h3,ho,h4,if_true]
theorem b4G:lt22_50.map (fun n=>[D.int .u8 n])=magS.map byr:=id rfl
theorem c1f:lt22_51.map (fun n=>[D.int .u8 n])=[0,0,0,0].map byr:=id rfl
theorem c9d {g:Hp} {o:Nat} {p q m r:List Int} {y:D} (ho:g[o]?=some (.row ty5 1 ((p++q++r).map byr))) (hy:a1R g 1 y=some (m.map byr)) (hl:m.length=q.length):∃ g' c,a7M tab g a0J a0J (.msl 1 o p.length (q++r).length) y=some (c,g')∧g'[o]?=some (.row ty5 1 ((p++m++r).map byr))∧Same o g g':=by
 have h1:tab a0J=some ti22:=id rfl
 have h2:ti22.td = .sl ty5:=id rfl
 have h3:tab ty5=some ti5:=id rfl
 have h4:ti5.sz=1:=id rfl
 have hs:b5r g ti22 ti5 y=some (m.map byr):=by simp only [b5r,h2,h4,hy]
 have hn:b4P ti22=true:=rfl
 have hb:Nat.blt 0 1=true:=rfl
 have holt:=(d7n.1 ho).1
 have hmin:min (m.map byr).length (q++r).length=m.length:=by simp;omega
 have e1:(m.map byr).take (q++r).length=m.map byr:=List.take_of_length_le (by simp;omega)
 have e2:((p++q++r).map byr).take p.length=p.map byr:=by rw [List.append_assoc,d7d,List.take_left' (by simp)]
 have e3:((p++q++r).map byr).drop (p.length+m.length)=r.map byr:=by rw [d7d,List.drop_left' (by simp;omega)]
 have e4:a7M tab g a0J a0J (.msl 1 o p.length (q++r).length) y=some (.int .i64 (m.length:Nat),g.set o (.row ty5 1 ((p++m++r).map byr))):=by
  simp only [a7M,h1,h2,hn,h3,h4,hb,hs,ho,and_self,if_true,hmin,e1,e2,e3]
  simp only [d7d]
 exact ⟨_,_,e4,by rw [List.getElem?_set_self holt],⟨by simp,fun q hq=>d7x (Ne.symm hq)⟩⟩
theorem d2Y (n:Int) (ms:List FM) (its:List It) (dm dq:D) (h:Hp) (hm:SlOf 2 mkr ms dm) (hq:SlOf 11 itr its dq) (hl:ms.length≤1000000) (hT:(its.map a2M).flatten.length≤700000000) (hb:∀ i∈its,(a1t i).length≤800000000) (hck:∀ i∈its,∀ g,R a5D [.agg (itr i)] g=some (.int .i64 (itE i),g)) :
  ∃ d',R a7V [.agg (svr n dm dq)] h=some (.tup [d',.int .i64 (stE n ms its)],h)∧SlOf 1 byr (if stE n ms its=0 then b0y n ms its else []) d':=by
 suffices Wp (R a7V [.agg (svr n dm dq)] h) (fun p=>p.2=h∧∃ d',p.1 = .tup [d',.int .i64 (stE n ms its)]∧SlOf 1 byr (if stE n ms its=0 then b0y n ms its else []) d') by
  obtain ⟨⟨x,h'⟩,h1,rfl,d',rfl,h2⟩:=this
  exact ⟨d',h1,h2⟩
 have hlq:=a6O hq
 have hil:=a6q a2M 8 its fun a _=>by rw [a3K];omega
 have hchk:=c8b n ms its.length dm dq h hm hlq (by omega)
 have nils:∀ (g:Hp) (e:Int),h.length≤g.length→(∀ q,q<h.length→g[q]?=h[q]?)→scope h g (.tup [.nils,.int .i64 e])=some (.tup [.nils,.int .i64 e],h):=fun g e hg hk =>
  a1a (by simp) (.tup _ fun d hd=>by simp at hd;rcases hd with rfl | rfl <;> constructor) hg hk
 rw [d0y]
 simp only [c5P,a1G,svl,bs,hchk,a0w,d6W,a0Z]
 by_cases hc:stC n ms its.length=0
 case neg =>
  have hE:stE n ms its=stC n ms its.length:=by unfold stE;rw [if_neg hc]
  have hcc:decide (stC n ms its.length≠0)=true:=decide_eq_true hc
  simp only [hcc,a0c,if_true,nils h _ (Nat.le_refl _) (fun _ _=>rfl)]
  exact .some ⟨rfl,.nils,by rw [hE],by rw [if_neg (by rw [hE];exact hc)];exact .nils _ _⟩
 have hE:stE n ms its=a7x its:=by unfold stE;rw [if_pos hc]
 have hcc:decide (stC n ms its.length≠0)=false:=decide_eq_false (by rw [hc];simp [-bind_some])
 have h1000:ms.length≤1000:=by
  unfold stC at hc
  split at hc
  ·cases hc
  split at hc
  ·cases hc
  split at hc
  ·cases hc
  split at hc
  ·cases hc
  ·omega
 have g0:(a0I h ty5 1 (magS.map byr))[h.length]?=some (.row ty5 1 (magS.map byr)):=a1h _ _ _ _
 have o0:Own (a0I h ty5 1 (magS.map byr)) h.length ty5 1 (magS.map byr) (.msl 1 h.length 0 4) := .inr ⟨h.length,Nat.le_refl _,rfl,g0⟩
 have l0:h.length≤(a0I h ty5 1 (magS.map byr)).length:=by simp [-bind_some, a0I]
 have k0:∀ q,q<h.length→(a0I h ty5 1 (magS.map byr))[q]?=h[q]?:=fun q hq=>a0Y _ _ _ _ hq
 simp only [hcc,a0c,d6X,if_false,a8g,b5D,b4G,c1f,bs,c1I g0,sv0,sv1,c4F,a3M,a3t hm]
 generalize a0I h ty5 1 (magS.map byr)=G0 at *
 have B0:Bw h.length h .nils G0 magS (.msl 1 h.length 0 4):=⟨o0,l0,fun q hq _=>k0 q hq,fun q hq => .inr (o0.lt hq).1⟩
 refine b3C B0 l0 (a1l _ _ _ _) (by simp [-bind_some, magS]) fun d1 g1 B1 n1=>?_
 simp only [bs]
 refine b2M B1 n1 n (by simp [-bind_some, magS]) fun d2 g2 B2 n2=>?_
 simp only [bs]
 refine b8s B2 n2 _ (by simp [-bind_some, magS,a1m]) fun d3 g3 B3 n3=>?_
 rw [← c3C] at B3
 simp only [a1D,bs,d6W]
 generalize hA:magS++[0,0,0,0]++pI n++pN ms.length=A at B3
 have hAl:A.length=20:=by rw [← hA];simp [-bind_some, magS,a1m,a1H]
 -- the marks
 refine Wp.loop (fun k ds g=>h.length≤g.length∧∃ d' a b,∃ i:Nat,ds=[d',a,.int .i64 i,b]∧k+i=ms.length∧Bw h.length h .nils g (A++((ms.take i).map mkB).flatten) d')
  (fun r=>r.1 = .ext 0∧h.length≤r.2.2.length∧∃ d' a b c,r.2.1=[d',a,b,c]∧Bw h.length h .nils r.2.2 (A++(ms.map mkB).flatten) d') ms.length ⟨n3,_,_,_,0,rfl,rfl,by simpa using B3⟩ ?_ ?_
 ·rintro k ds g ⟨hg,d',a,b,i,rfl,hk,B⟩
  simp only [b3o,a0f,a0o,bs,d6W,a0k]
  refine Wp.dif ?_ ?_
  ·intro h0
   have h0:i<ms.length:=dl_ h0
   obtain ⟨x,hx⟩:=gx_ h0
   have hw:=wi_ i (by omega)
   have hml:=a4Y (ms.take i)
   have hml2:(ms.take i).length≤1000:=by simp;omega
   simp only [a6N hm,Int.natCast_nonneg,if_true,d7g,hx,Option.map_some,bs,c1J,b8g,b4K,b1C,b4L,b1D]
   refine b2M B hg _ (by rw [d7b,hml];omega) fun d4 g4 B4 n4=>?_
   simp only [bs]
   refine b2M B4 n4 _ (by simp only [d7b,hml,a1m];omega) fun d5 g5 B5 n5=>?_
   simp only [a1D,bs,a0t,hw]
   refine .some (.inl ⟨rfl,k - 1,by omega,n5,_,_,_,i+1,rfl,by omega,?_⟩)
   rw [a1u mkB hx]
   simpa [-bind_some, mkB] using B5
  ·intro h0
   have h0:i=ms.length:=by
    have:¬ (i:Int)<ms.length:=by simpa using h0
    omega
   subst h0
   rw [d7v] at B
   exact .some (.inr ⟨by simp,rfl,hg,_,_,_,_,rfl,B⟩)
 rintro ⟨ex,ds,g4⟩ ⟨rfl,n4,d4,a,b,c,rfl,B4⟩
 simp only at n4 B4
 have hml:=a4Y ms
 simp only [a0s,a0r,bs,a0f,a0o,sv2,b5C,hlq,d6W]
 refine b8s B4 n4 _ (by rw [d7b,hml];omega) fun d5 g5 B5 n5=>?_
 rw [← c3C] at B5
 simp only [bs,d6W]
 generalize hA2:A++(ms.map mkB).flatten++pN its.length=A2 at B5
 have hA2l:A2.length≤16024:=by rw [← hA2];simp only [d7b,hml,a1H];omega
 refine Wp.loop (fun k ds g=>h.length≤g.length∧∃ d' a3 a4 a5 a7 a8,∃ i:Nat,ds=[.nils,.int .i64 0,d',a3,a4,a5,.int .i64 i,a7,a8]∧k+i=its.length∧a7x (its.take i)=0∧Bw h.length h .nils g (A2++((its.take i).map a2M).flatten) d')
  (fun r=>h.length≤r.2.2.length∧(∀ q,q<h.length→r.2.2[q]?=h[q]?)∧((r.1 = .ext 2∧a7x its=0∧∃ d' a0 a1 a3 a4 a5 a6 a7 a8,r.2.1=[a0,a1,d',a3,a4,a5,a6,a7,a8]∧Bw h.length h .nils r.2.2 (A2++(its.map a2M).flatten) d')∨(r.1 = .ret∧a7x its≠0∧nth 0 r.2.1 = .nils∧nth 1 r.2.1 = .int .i64 (a7x its)))) its.length ⟨n5,_,_,_,_,_,_,0,rfl,rfl,rfl,by simpa using B5⟩ ?_ ?_
 ·rintro k ds g ⟨hg,d',a3,a4,a5,a7,a8,i,rfl,hk,hz,B⟩
  simp only [b3p,a0f,a0o,bs,d6W,a0k]
  refine Wp.dif ?_ ?_
  ·intro h0
   have h0:i<its.length:=dl_ h0
   obtain ⟨x,hx⟩:=gx_ h0
   have hxm:=d7l hx
   have hw:=wi_ i (by omega)
   obtain ⟨e1,e2⟩:=a7Y its i x hz hx
   obtain ⟨de,ee,he⟩:=d2P x (itE x) g (hck x hxm) (hb x hxm)
   simp only [b4y hq,Int.natCast_nonneg,if_true,d7g,hx,Option.map_some,bs,d1U,c2w,ee,a0E,d6Z,d7a,a0w]
   by_cases hxe:itE x=0
   ·have hdd:decide (itE x≠0)=false:=decide_eq_false (by rw [hxe];simp [-bind_some])
    rw [if_pos hxe] at he
    have hle:=a5L a2M its (i+1)
    rw [a1u a2M hx,d7b] at hle
    simp only [hdd,a0c,d6X,if_false]
    refine b3C B hg (a4q (.inl he)) (by simp only [d7b];omega) fun d6 g6 B6 n6=>?_
    simp only [bs,a0t,hw]
    refine .some (.inl ⟨rfl,k - 1,by omega,n6,_,_,_,_,_,_,i+1,rfl,by omega,e2 hxe,?_⟩)
    rw [a1u a2M hx]
    simpa using B6
   ·have hdd:decide (itE x≠0)=true:=decide_eq_true hxe
    simp only [hdd,a0c,if_true]
    exact .some (.inr ⟨by simp,hg,fun q hq=>B.old q hq (a6y q),.inr ⟨rfl,by rw [e1 hxe];exact hxe,rfl,by rw [e1 hxe];rfl⟩⟩)
  ·intro h0
   have h0:i=its.length:=by
    have:¬ (i:Int)<its.length:=by simpa using h0
    omega
   subst h0
   rw [d7v] at B hz
   exact .some (.inr ⟨by simp,hg,fun q hq=>B.old q hq (a6y q),.inl ⟨rfl,hz,_,_,_,_,_,_,_,_,_,rfl,B⟩⟩)
 rintro ⟨ex,ds,g⟩ ⟨hg,hk,hcs⟩
 simp only at hg hk
 rcases hcs with ⟨rfl,hz,d',a0,a1,a3,a4,a5,a6,a7,a8,rfl,B⟩ | ⟨rfl,hz,hn0,hn1⟩
 case inr =>
  simp only [a1K,a1J,a1E,a0f,a0o,hn0,hn1,bs,nils g _ hg hk]
  exact .some ⟨rfl,.nils,by rw [hE],by rw [if_neg (by rw [hE];exact hz)];exact .nils _ _⟩
 simp only at B
 rw [hE,hz,if_pos rfl]
 -- the length written over the noughts
 have hbody:A2++(its.map a2M).flatten=magS++[0,0,0,0]++a1A n ms its:=by rw [← hA2,← hA];simp [-bind_some, a1A]
 rw [hbody] at B
 have hbl:=a6a n ms its
 obtain ⟨o,ho,hd',go⟩:=b1G B.ow (i:=0) (by simp [-bind_some, magS])
 have hlen:((magS++[0,0,0,0]++a1A n ms its).map byr).length=8+(a1A n ms its).length:=by simp [-bind_some, magS];omega
 rw [hlen] at hd'
 subst hd'
 have hsl:a0A tab a0J true false false [.msl 1 o 0 (8+(a1A n ms its).length),.int .i64 4]=some (.msl 1 o 4 (4+(a1A n ms its).length)):=by
  have:=c7w (T:=tab) (t:=a0J) (e:=ty5) (z:=1) (o:=o) (r:=0) (n:=8+(a1A n ms its).length) (i:=ti22) (j:=ti5) (id rfl) (id rfl) (id rfl) (id rfl) (by omega) (k := .i64) (m:=4) (by omega) (by omega)
  rw [show 0+4=4 from rfl,show 8+(a1A n ms its).length - 4=4+(a1A n ms its).length by omega] at this
  exact this
 have hw72:IntKind.wrap .i64 (((8+(a1A n ms its).length:Nat):Int) - 8)=((a1A n ms its).length:Int):=by rw [wrap_i64 (by omega) (by omega)];omega
 simp only [a0s,a0r,bs,a0f,a0o,hsl,b4E,a0z,hw72,d6W]
 obtain ⟨dl,gl',el,Bl⟩:=c0S ((a1A n ms its).length:Int) 4 (by omega) g.length g [] .nils (Nat.le_refl _) (Own.nils _ _ _ _) (by simp)
 have el:R a3Y [.nils,.int .i64 ((a1A n ms its).length:Int),.int .i64 4] g=some (dl,gl'):=el
 rw [← c3C,List.nil_append] at Bl
 have hog:=(d7n.1 go).1
 have go1:gl'[o]?=some (.row ty5 1 ((magS++[0,0,0,0]++a1A n ms its).map byr)):=by rw [Bl.old o hog (a6y o)];exact go
 obtain ⟨g7,c7,ec,go7,s7⟩:=c9d (p:=magS) (q:=[0,0,0,0]) (m:=pN (a1A n ms its).length) (r:=a1A n ms its) go1 (a4q (.own Bl.ow)) (by rw [a1H];rfl)
 have ec:a7M tab gl' a0J a0J (.msl 1 o 4 (4+(a1A n ms its).length)) dl=some (c7,g7):=by
  rw [← ec];congr 1;simp [-bind_some, magS];omega
 have ow7:Own g7 h.length ty5 1 ((a3c (a1A n ms its)).map byr) (.msl 1 o 0 (8+(a1A n ms its).length)) := .inr ⟨o,ho,by simp [-bind_some, a3c,magS,a1H];omega,go7⟩
 have ekc:=c8c (a3c (a1A n ms its)) (.msl 1 o 0 (8+(a1A n ms its).length)) g7 (.own ow7) (by rw [a3Z];omega) (b0d (a9K _ _ _))
 have n7:h.length≤g7.length:=by rw [s7.1];exact Nat.le_trans hg Bl.len
 have k7:∀ q,q<h.length→g7[q]?=h[q]?:=fun q hq=>by rw [s7.2 q (by omega),Bl.old q (by omega) (a6y q)];exact hk q hq
 obtain ⟨d8,g8,e8,B8⟩:=c0S (a2z (a3c (a1A n ms its))) 4 (by omega) h.length g7 _ _ n7 ow7 (by rw [a3Z];omega)
 have e8:R a3Y [.msl 1 o 0 (8+(a1A n ms its).length),.int .i64 (a2z (a3c (a1A n ms its))),.int .i64 4] g7=some (d8,g8):=e8
 simp only [el,bs,ec,ekc,e8]
 have hfin:a3c (a1A n ms its)++a3H 4 (a2z (a3c (a1A n ms its)))=b0y n ms its:=rfl
 rw [hfin] at B8
 have hso:=a2w (n0:=h.length) (n:=2) B8.ow (Nat.le_refl _) (fun a _=>a4i _ g8 2 a)
 rw [a1a (d' := .tup [frz h.length g8 3 d8,.int .i64 0]) (by simp) (by
  refine .tup _ fun d hd=>?_
  simp at hd
  rcases hd with rfl | rfl
  ·exact a1q hso fun a _=>a6b _ a
  ·constructor) (Nat.le_trans n7 B8.len) (fun q hq=>by rw [B8.low ow7 n7 q hq];exact k7 q hq)]
 exact .some ⟨rfl,_,rfl,hso⟩
theorem d2W (j:List Int) (n:Int) (ms:List FM) (its:List It) (dj dm dq:D) (h:Hp) (hj:SlOf 1 byr j dj) (hjl:j.length≤1000000000) (hm:SlOf 2 mkr ms dm) (hq:SlOf 11 itr its dq) (hl:ms.length≤1000000) (hT:(its.map a2M).flatten.length≤700000000) (hb:∀ i∈its,(a1t i).length≤800000000) (hck:∀ i∈its,∀ g,R a5D [.agg (itr i)] g=some (.int .i64 (itE i),g)) :
  ∃ d',R a6t [dj,.agg (svr n dm dq)] h=some (.tup [d',.int .i64 (stE n ms its)],h)∧SlOf 1 byr (if stE n ms its=0 then j++b0y n ms its else []) d':=by
 obtain ⟨d1,e1,h1⟩:=d2Y n ms its dm dq h hm hq hl hT hb hck
 have hel:=a5n n ms its
 rw [d0t]
 simp only [c5K,a1G,bs,svl,e1,a0E,d6Z,d7a,a0w]
 by_cases hc:stE n ms its=0
 case neg =>
  have hcc:decide (stE n ms its≠0)=true:=decide_eq_true hc
  refine ⟨.nils,?_,by rw [if_neg hc];exact .nils _ _⟩
  simp only [hcc,a0c,if_true,a0Z]
  exact a1a (by simp) (.tup _ fun d hd=>by simp at hd;rcases hd with rfl | rfl <;> constructor) (Nat.le_refl _) fun _ _=>rfl
 have hcc:decide (stE n ms its≠0)=false:=decide_eq_false (by rw [hc];simp [-bind_some])
 rw [if_pos hc] at h1 ⊢
 rw [hc] at hcc ⊢
 suffices Wp ((a0B tab h a0J a0J .nils dj).bind fun p17=>(a0B tab p17.2 a0J a0J p17.1 d1).bind fun p19=>scope h p19.2 (a0l [p19.1,.int .i64 0])) (fun p=>p.2=h∧∃ d',p.1 = .tup [d',.int .i64 0]∧SlOf 1 byr (j++b0y n ms its) d') by
  obtain ⟨⟨x,h'⟩,h1,rfl,d',rfl,h2⟩:=this
  refine ⟨d',?_,h2⟩
  simp only [hcc,a0c,d6X,if_false]
  exact h1
 refine b1V (n0:=h.length) (rows:=[]) (Nat.le_refl _) (.nils _ _ _ _) (a3k _ hj) (by simp only [d7c,d7p];omega) fun x4 g4 o4 l4 k4 _ _=>?_
 rw [List.nil_append] at o4
 simp only [bs]
 refine b1V (n0:=h.length) l4 o4 (a3k _ h1) (by simp only [d7c];omega) fun x5 g5 o5 l5 k5 _ _=>?_
 rw [← d7d] at o5
 simp only [bs,a0Z]
 have hso:=a2w (n0:=h.length) (n:=2) o5 (Nat.le_refl _) (fun a _=>a4i _ g5 2 a)
 rw [a1a (d' := .tup [frz h.length g5 3 x5,.int .i64 0]) (by simp) (by
  refine .tup _ fun d hd=>?_
  simp at hd
  rcases hd with rfl | rfl
  ·exact a1q hso fun a _=>a6b _ a
  ·constructor) (by omega) (fun q hq=>by rw [k5 q hq,k4 q hq])]
 exact .some ⟨rfl,_,rfl,hso⟩
def CuP (g:Hp) (oc:Nat) (s:Cur):Prop:=∃ d,g[oc]?=some (.row a1O 2 [[d,.bool s.2]])∧SlOf 1 byr s.1 d∧(∀ z∈s.1,U8 z)∧s.1.length≤1000000000
theorem b6E {g:Hp} {oc:Nat} {d:D} {b:Bool} (h:g[oc]?=some (.row a1O 2 [[d,.bool b]])):a0b tab g a0J (.ptr oc 0 (0+0))=some d∧a0b tab g ty4 (.ptr oc 0 (0+1))=some (.bool b):=⟨by rw [b7O,a0O h];rfl,by rw [d1Y,a0O h];rfl⟩
theorem b3K {g:Hp} {oc:Nat} {d:D} {b:Bool} (h:g[oc]?=some (.row a1O 2 [[d,.bool b]])) {β:Type} {f:Hp→Option β} {Q:β→Prop} (k:∀ g',g'[oc]?=some (.row a1O 2 [[d,.bool true]])→Same oc g g'→Wp (f g') Q):Wp ((a0h tab g ty4 (.ptr oc 0 (0+1)) (.bool true)).bind f) Q :=
 c8R (kk:=0) (row:=[d,.bool b]) h (by rfl) (by rfl) (by simp) (by rfl) fun g' p s=>k g' p s
theorem c6x {g:Hp} {oc:Nat} {d d':D} {b:Bool} (h:g[oc]?=some (.row a1O 2 [[d,.bool b]])) (h1:d'.one=true) {β:Type} {f:Hp→Option β} {Q:β→Prop} (k:∀ g',g'[oc]?=some (.row a1O 2 [[d',.bool b]])→Same oc g g'→Wp (f g') Q):Wp ((a0h tab g a0J (.ptr oc 0 (0+0)) d').bind f) Q :=
 c1e (kk:=0) (row:=[d,.bool b]) h (by rfl) (by rw [(a0H h1).1];rfl) (by simp) (a0H h1).2 fun g' p s=>k g' (by rw [(a0H h1).1] at p;exact p) s
theorem c6t {g:Hp} {oc:Nat} {s:Cur} (hc:CuP g oc s) (n:Nat) (hn:n≤8):∃ g',R a4S [.ptr oc 0 0,.int .i64 n] g=some (.int .i64 (IntKind.wrap .i64 (num (a0G s n).1)),g')∧CuP g' oc (a0G s n).2∧Same oc g g':=by
 suffices Wp (R a4S [.ptr oc 0 0,.int .i64 n] g) (fun p=>p.1 = .int .i64 (IntKind.wrap .i64 (num (a0G s n).1))∧CuP p.2 oc (a0G s n).2∧Same oc g p.2) by
  obtain ⟨⟨x,h'⟩,h1,rfl,h2⟩:=this
  exact ⟨h',h1,h2⟩
 obtain ⟨d,ho,hd,hu,hl⟩:=hc
 obtain ⟨l1,l2⟩:=b6E ho
 obtain ⟨b,bad⟩:=s
 simp only at ho hd hu hl l2
 have h00:IntKind.wrap .i64 (num [])=0:=rfl
 rw [d0H]
 simp only [c5Y,bs,a0v,a3X,a3A,l1,l2,a1P hd,a0p,d6W,a0u]
 by_cases hb:bad=true
 ·subst hb
  have ht:a0G (b,true) n=([],(b,true)):=by simp [-bind_some, a0G]
  rw [ht]
  simp only [reduceCtorEq,d6Y,if_false,bs,a0e,if_true,a0c,a0p]
  refine b3K ho fun g' p s=>?_
  simp only [bs,a0i,h00]
  exact .some ⟨rfl,⟨d,p,hd,hu,hl⟩,s⟩
 have hb:bad=false:=by simpa using hb
 subst hb
 by_cases hn2:b.length<n
 ·have hn3:(n:Int)>(b.length:Int):=by omega
  have ht:a0G (b,false) n=([],(b,true)):=by unfold a0G;rw [if_pos (.inr (.inr (by simp only;omega)))]
  rw [ht]
  simp only [if_true,bs,a0u,hn3,decide_true,d6X,if_false,a0e,a0c,a0v,a3X,a3A,l1,a1P hd,d6W]
  refine b3K ho fun g' p s=>?_
  simp only [bs,a0i,h00]
  exact .some ⟨rfl,⟨d,p,hd,hu,hl⟩,s⟩
 ·have hn3:¬ (n:Int)>(b.length:Int):=by omega
  have ht:a0G (b,false) n=(b.take n,(b.drop n,false)):=by
   unfold a0G
   rw [if_neg (by
    rintro (hh | hh | hh)
    ·cases hh
    ·omega
    ·simp only at hh;omega)]
   simp [-bind_some]
  rw [ht]
  obtain ⟨dt,et,st⟩:=a8F hd (k := .i64) (n:=(n:Int)) (by omega) (by omega)
  obtain ⟨dr,er,sr⟩:=b6e hd (k := .i64) (n:=(n:Int)) (by omega) (by omega)
  rw [d7g] at st sr
  have eg:=c3V (b.take n) dt g st (by simp;omega) (fun z hz=>hu z (List.mem_of_mem_take hz))
  simp only [if_true,bs,a0u,hn3,decide_false,d6X,if_false,a0e,a0c,a0v,a3X,a3A,l1,a1P hd,et,eg,er,d6W]
  refine c6x ho (a1x sr) fun g' p s=>?_
  simp only [bs,a0i]
  exact .some ⟨rfl,⟨dr,p,sr,fun z hz=>hu z (List.mem_of_mem_drop hz),by simp;omega⟩,s⟩
theorem c2H (l:List Int) (d:D) (h:Hp) (hd:SlOf 1 byr l d) (hl:l.length≤1000000000) (hu:∀ z∈l,U8 z) :
  ∃ j:It,R a8U [d] h=some (.tup [.agg (itr j),.int .i64 (a3W l).2.1,.int .i64 (a3W l).1],h)∧a1Y j=(a3W l).2.2 :=
 c7Z l d (ckR (a1V ((l.take (num (l.take 4)).toNat).drop 4,false))) h hd hl hu fun j hj g=>by
  rw [← hj,b0I];exact b8Q j g
noncomputable def itS (s:Cur):RI × Cur:=if s.2=true∨(a3W s.1).1≠0 then (a1Y zit,(s.1,true)) else ((a3W s.1).2.2,(s.1.drop (a3W s.1).2.1.toNat,false))
theorem b6K (l:List Int) (h:(a3W l).1=0):0≤(a3W l).2.1∧(a3W l).2.1≤l.length:=by
 obtain ⟨a,b,_⟩:=b6J h
 omega
theorem c9a {g:Hp} {oc:Nat} {s:Cur} (hc:CuP g oc s):∃ j g',R b4u [.ptr oc 0 0] g=some (.agg (itr j),g')∧a1Y j=(itS s).1∧CuP g' oc (itS s).2∧Same oc g g':=by
 suffices Wp (R b4u [.ptr oc 0 0] g) (fun p=>∃ j,p.1 = .agg (itr j)∧a1Y j=(itS s).1∧CuP p.2 oc (itS s).2∧Same oc g p.2) by
  obtain ⟨⟨x,h'⟩,h1,j,rfl,h2⟩:=this
  exact ⟨j,h',h1,h2⟩
 obtain ⟨d,ho,hd,hu,hl⟩:=hc
 have hlt:=(d7n.1 ho).1
 have hz74:([.str [],.int .i64 0,.int .i64 0,.int .i64 0,.int .i64 0,.nils,.int .i64 0,.int .i64 0,.str [],.str [],.nils]:List D)=itr zit:=rfl
 have hbz:a0K tab a0P [] []=some (.agg (itr zit)):=id rfl
 have a0:(a0I g a0P 11 [itr zit])[g.length]?=some (.row a0P 11 [itr zit]):=a1h _ _ _ _
 have k0:∀ q,q<g.length→(a0I g a0P 11 [itr zit])[q]?=g[q]?:=fun q hq=>a0Y _ _ _ _ hq
 have l0:(a0I g a0P 11 [itr zit]).length=g.length+1:=by simp [-bind_some, a0I]
 rw [d0I]
 simp only [c5Z,hz74,bs,a0v,a3X,a3A,d6W]
 generalize a0I g a0P 11 [itr zit]=g1 at *
 have ho1:g1[oc]?=some (.row a1O 2 [[d,.bool s.2]]):=by rw [k0 oc hlt];exact ho
 obtain ⟨l1,l2⟩:=b6E ho1
 obtain ⟨j,ej,hj⟩:=c2H s.1 d g1 hd hl hu
 simp only [l1,ej,bs,a0E,d6Z,d7a,c2w,l2,a0p,a0w]
 -- the end: the result's variable holds j, the cursor this
 have fin:∀ (g3:Hp) (j:It) (dd:D) (s':Cur),g3[oc]?=some (.row a1O 2 [[dd,.bool s'.2]])→SlOf 1 byr s'.1 dd→(∀ z∈s'.1,U8 z)→s'.1.length≤1000000000→g3[g.length]?=some (.row a0P 11 [itr zit])→g3.length=g.length+1→(∀ q,q<g.length→q≠oc→g3[q]?=g[q]?)→a1Y j=(itS s).1→s'=(itS s).2 →
   Wp ((a0h tab g3 a0P (.ptr g.length 0 0) (.agg (itr j))).bind fun h'=>(a0b tab h' a0P (.ptr g.length 0 0)).bind fun d0=>scope g h' (a0l [d0])) (fun p=>∃ j,p.1 = .agg (itr j)∧a1Y j=(itS s).1∧CuP p.2 oc (itS s).2∧Same oc g p.2):=by
  intro g3 j dd s' q1 q2 q3 q4 q5 q6 q7 q8 q9
  refine b2X (kk:=0) (off:=0) (row:=itr zit) (v := .agg (itr j)) q5 (by rfl) (by rfl) (by exact Nat.le_refl _) (b2B _) fun g4 p4 s4=>?_
  have p4:g4[g.length]?=some (.row a0P 11 [itr j]):=p4
  have ld:a0b tab g4 a0P (.ptr g.length 0 0)=some (.agg (itr j)):=by rw [b0h,a0O p4];rfl
  have r4:g4[oc]?=some (.row a1O 2 [[dd,.bool s'.2]]):=by rw [s4.2 oc (by omega)];exact q1
  have G:Grow g.length oc g g4:=⟨by rw [s4.1];omega,fun q hq hne=>by rw [s4.2 q (by omega)];exact q7 q hq hne⟩
  obtain ⟨c1,c2,c3⟩:=a9j (h:=g) (h2:=g4) (d := .agg (itr j)) (d' := .agg (itr j)) (o:=oc) (by rw [b2w,a3i fun d hd=>a4V g.length g4 2 j d hd]) (b1t _ _) G (fun T sz rows hr row hrow x hx=>by
   rw [r4] at hr
   injection hr with hr
   injection hr with _ _ hr
   subst hr
   simp at hrow
   subst hrow
   simp at hx
   rcases hx with rfl | rfl
   ·exact a1q q2 fun a _=>a6b _ a
   ·constructor)
  simp only [ld,bs,a0i,c1]
  refine .some ⟨j,rfl,q8,?_,c2⟩
  rw [← q9]
  exact ⟨dd,by rw [c3 oc hlt];exact r4,q2,q3,q4⟩
 cases hb:s.2 with
 | true =>
  have hi:itS s=(a1Y zit,(s.1,true)):=by unfold itS;rw [if_pos (.inl hb)]
  rw [hb] at ho1
  simp only [reduceCtorEq,d6Y,if_false,bs,a0e,if_true,a0c]
  refine b3K ho1 fun g2 p2 s2=>?_
  simp only [bs,hbz]
  exact fin g2 zit d (s.1,true) p2 hd hu hl (by rw [s2.2 _ (by omega)];exact a0) (by rw [s2.1];exact l0) (fun q hq hne=>by rw [s2.2 q hne];exact k0 q hq) (by rw [hi]) (by rw [hi])
 | false =>
  rw [hb] at ho1
  simp only [if_true,bs,a0w,a0e,d6X,if_false]
  by_cases he:(a3W s.1).1=0
  ·have hi:itS s=((a3W s.1).2.2,(s.1.drop (a3W s.1).2.1.toNat,false)):=by unfold itS;rw [if_neg fun hh=>hh.elim (fun hh=>by rw [hb] at hh;cases hh) fun hh=>hh he]
   have hd0:decide ((a3W s.1).1≠0)=false:=decide_eq_false (by rw [he];simp [-bind_some])
   obtain ⟨z0,z1⟩:=b6K s.1 he
   obtain ⟨dr,er,sr⟩:=b6e hd (k := .i64) (n:=(a3W s.1).2.1) z0 z1
   simp only [hd0,a0c,d6X,if_false,l1,er,bs]
   refine c6x ho1 (a1x sr) fun g2 p2 s2=>?_
   simp only [bs,d1U]
   exact fin g2 j dr (s.1.drop (a3W s.1).2.1.toNat,false) p2 sr (fun z hz=>hu z (List.mem_of_mem_drop hz)) (by simp;omega) (by rw [s2.2 _ (by omega)];exact a0) (by rw [s2.1];exact l0) (fun q hq hne=>by rw [s2.2 q hne];exact k0 q hq) (by rw [hi];exact hj) (by rw [hi])
  ·have hi:itS s=(a1Y zit,(s.1,true)):=by unfold itS;rw [if_pos (.inr he)]
   have hd0:decide ((a3W s.1).1≠0)=true:=decide_eq_true he
   simp only [hd0,a0c,if_true]
   refine b3K ho1 fun g2 p2 s2=>?_
   simp only [bs,hbz]
   exact fin g2 zit d (s.1,true) p2 hd hu hl (by rw [s2.2 _ (by omega)];exact a0) (by rw [s2.1];exact l0) (fun q hq hne=>by rw [s2.2 q hne];exact k0 q hq) (by rw [hi]) (by rw [hi])
def a3q:Nat→Cur→List FM × Cur
 | 0,s=>([],s)
 | n+1,s=>if s.2=true then ([],s) else (((a0Q s).1,(a0Q (a0Q s).2).1)::(a3q n (a0Q (a0Q s).2).2).1,(a3q n (a0Q (a0Q s).2).2).2)
noncomputable def qsS:Nat→Cur→List RI × Cur
 | 0,s=>([],s)
 | n+1,s=>if s.2=true then ([],s) else ((itS s).1::(qsS n (itS s).2).1,(qsS n (itS s).2).2)
theorem b4N (n:Nat) (s:Cur) (h:s.2=true):a3q n s=([],s):=by
 cases n with
 | zero=>rfl
 | succ n=>simp [-bind_some, a3q,h]
theorem b2N (n:Nat) (s:Cur) (h:s.2=true):qsS n s=([],s):=by
 cases n with
 | zero=>rfl
 | succ n=>simp [-bind_some, qsS,h]
theorem b0m:∀ (n:Nat) (s:Cur),(a3q n s).1.length≤n
 | 0,s=>Nat.le_refl _
 | n+1,s=>by
  unfold a3q
  split
  ·simp [-bind_some]
  ·have:=b0m n (a0Q (a0Q s).2).2
   simp only [d7o];omega
theorem b8y:∀ (n:Nat) (s:Cur),(qsS n s).1.length≤n
 | 0,s=>Nat.le_refl _
 | n+1,s=>by
  unfold qsS
  split
  ·simp [-bind_some]
  ·have:=b8y n (itS s).2
   simp only [d7o];omega
structure DcP (h g:Hp) (row:List D) (s:Cur):Prop where
 r0:g[h.length]?=some (.row a0g 3 [svr 0 .nils .nils])
 cu:CuP g (h.length+1) s
 st:g[h.length+2]?=some (.row a0g 3 [row])
 lo:∀ q,q<h.length→g[q]?=h[q]?
theorem DcP.ln {h g:Hp} {row:List D} {s:Cur} (P:DcP h g row s):h.length+3≤g.length:=by have:=(d7n.1 P.st).1;omega
theorem DcP.cur {h g g':Hp} {row:List D} {s s':Cur} (P:DcP h g row s) (hc:CuP g' (h.length+1) s') (hs:Same (h.length+1) g g'):DcP h g' row s' :=
 ⟨by rw [hs.2 _ (by omega)];exact P.r0,hc,by rw [hs.2 _ (by omega)];exact P.st,fun q hq=>by rw [hs.2 q (by omega)];exact P.lo q hq⟩
theorem DcP.keep {h g g':Hp} {row:List D} {s:Cur} (P:DcP h g row s) (hk:∀ q,q<h.length+3→g'[q]?=g[q]?):DcP h g' row s:=by
 obtain ⟨d,h1,h2⟩:=P.cu
 exact ⟨by rw [hk _ (by omega)];exact P.r0,⟨d,by rw [hk _ (by omega)];exact h1,h2⟩,by rw [hk _ (by omega)];exact P.st,fun q hq=>by rw [hk q (by omega)];exact P.lo q hq⟩
theorem DcP.sta {h g g':Hp} {row row':List D} {s:Cur} (P:DcP h g row s) (hp:g'[h.length+2]?=some (.row a0g 3 [row'])) (hs:Same (h.length+2) g g'):DcP h g' row' s:=by
 obtain ⟨d,h1,h2⟩:=P.cu
 exact ⟨by rw [hs.2 _ (by omega)];exact P.r0,⟨d,by rw [hs.2 _ (by omega)];exact h1,h2⟩,hp,fun q hq=>by rw [hs.2 q (by omega)];exact P.lo q hq⟩
theorem DcP.own {h g g':Hp} {row:List D} {s:Cur} {e z o:Nat} {rows:List (List D)} {d:D} (ow:Own g (h.length+3) e z rows d) (ho:o<h.length+3) (hs:Same o g g'):Own g' (h.length+3) e z rows d:=ow.same hs ho
theorem d2h {g:Hp} {oc:Nat} {s:Cur} (hc:CuP g oc s):∃ g',R a4S [.ptr oc 0 0,.int .i64 8] g=some (.int .i64 (a0Q s).1,g')∧CuP g' oc (a0Q s).2∧Same oc g g':=c6t hc 8 (by omega)
theorem c7x {g:Hp} {oc:Nat} {s:Cur} (hc:CuP g oc s):∃ g',R a4S [.ptr oc 0 0,.int .i64 4] g=some (.int .i64 (a1z s).1,g')∧CuP g' oc (a1z s).2∧Same oc g g':=c6t hc 4 (by omega)
theorem b4C {s:Cur} (hu:∀ z∈s.1,U8 z):∃ n:Nat,(a1z s).1=n∧n<4294967296:=by
 have hl:=a3F s 4
 obtain ⟨k,hk⟩:∃ k,(a0G s 4).1.length=k:=⟨_,rfl⟩
 obtain ⟨a,b⟩:=a2k k _ hk (a4t hu 4).1
 have hb:num (a0G s 4).1<4294967296:=by
  have hl':k≤4:=by rw [← hk];exact hl
  have:k=0∨k=1∨k=2∨k=3∨k=4:=by omega
  rcases this with rfl | rfl | rfl | rfl | rfl <;> omega
 refine ⟨(num (a0G s 4).1).toNat,?_,by omega⟩
 show IntKind.wrap .i64 (num (a0G s 4).1)=_
 rw [wrap_i64 (by omega) (by omega)];omega
theorem c2D {h:Hp} {a:Int} {N:Nat} (hN:N<4294967296) {s0:Cur} {p7:D × Hp} (hp7:p7.1 = .ptr (h.length+2) 0 0) {g:Hp} (P:DcP h g (svr a .nils .nils) s0) (x:D) {β:Type} {K:Out→Option β} {Q:β→Prop}
  (k:∀ g' dm b c,DcP h g' (svr a dm .nils) (a3q N s0).2→Own g' (h.length+3) a0M 2 ((a3q N s0).1.map mkr) dm→Wp (K (.ext 0,[b,c],g')) Q) :
  Wp ((a0N (a9D (.ptr (h.length+1) 0 0) p7) [.int .i64 N,x] g).bind K) Q:=by
 refine Wp.loop (fun r ds g=>∃ y dm,∃ s:Cur,∃ L:List FM,ds=[.int .i64 r,y]∧r+L.length≤N∧DcP h g (svr a dm .nils) s∧Own g (h.length+3) a0M 2 (L.map mkr) dm∧L++(a3q r s).1=(a3q N s0).1∧(a3q r s).2=(a3q N s0).2)
  (fun r=>r.1 = .ext 0∧∃ b c dm,r.2.1=[b,c]∧DcP h r.2.2 (svr a dm .nils) (a3q N s0).2∧Own r.2.2 (h.length+3) a0M 2 ((a3q N s0).1.map mkr) dm) N ⟨_,.nils,s0,[],rfl,by simp,P,.nils _ _ _ _,rfl,rfl⟩ ?_ ?_
 ·rintro r ds g ⟨y,dm,s,L,rfl,hr,P,ow,q1,q2⟩
  obtain ⟨d,ho,hd,hu,hl⟩:=P.cu
  obtain ⟨l1,l2⟩:=b6E ho
  have stop:(s.2=true∨r=0)→a3q r s=([],s):=by
   rintro (h0 | h0)
   ·exact b4N r s h0
   ·rw [h0];rfl
  have fin:(s.2=true∨r=0)→∀ b c:D,Wp (some ((Ex.ext 0,[b,c],g):Out)) (fun x:Out=>(x.1 = .nrm∧∃ r'<r,∃ y dm,∃ s:Cur,∃ L:List FM,x.2.1=[.int .i64 r',y]∧r'+L.length≤N∧DcP h x.2.2 (svr a dm .nils) s∧Own x.2.2 (h.length+3) a0M 2 (L.map mkr) dm∧L++(a3q r' s).1=(a3q N s0).1∧(a3q r' s).2=(a3q N s0).2)∨(x.1 ≠ .nrm∧x.1 = .ext 0∧∃ b c dm,x.2.1=[b,c]∧DcP h x.2.2 (svr a dm .nils) (a3q N s0).2∧Own x.2.2 (h.length+3) a0M 2 ((a3q N s0).1.map mkr) dm)):=by
   intro h0 b c
   rw [stop h0] at q1 q2
   simp only [List.append_nil] at q1 q2
   exact .some (.inr ⟨by simp,rfl,b,c,dm,rfl,by rw [← q2];exact P,by rw [← q1];exact ow⟩)
  simp only [a9D,a0f,a0o,bs,d6W,a0u,hp7]
  by_cases hr0:r=0
  ·subst hr0
   simp only [show decide (((0:Nat):Int)>0)=false by decide,a0p,a1k,d6X,reduceCtorEq,if_false,bs,a0e,a0c]
   exact fin (.inr rfl) _ _
  have hrp:decide ((r:Int)>0)=true:=decide_eq_true (by omega)
  simp only [hrp,a0p,if_true,bs,a0v,a3A,l2,a1y,a0e,a0c]
  cases hb:s.2 with
  | true =>
   simp only [d7h,d6X,if_false]
   exact fin (.inl hb) _ _
  | false =>
   obtain ⟨r',rfl⟩:∃ r',r=r'+1:=⟨r - 1,by omega⟩
   have hS:a3q (r'+1) s=(((a0Q s).1,(a0Q (a0Q s).2).1)::(a3q r' (a0Q (a0Q s).2).2).1,(a3q r' (a0Q (a0Q s).2).2).2):=by simp [-bind_some, a3q,hb]
   rw [hS] at q1 q2
   have ldm:∀ {g':Hp} {s':Cur} {dq:D},DcP h g' (svr a dm dq) s'→a0b tab g' a0C (.ptr (h.length+2) 0 (0+1))=some dm:=fun P=>by rw [b7N,a0O P.st];rfl
   have P0:=P
   obtain ⟨g1,e1,c1,s1⟩:=d2h P.cu
   have P1:=P.cur c1 s1
   obtain ⟨g2,e2,c2,s2⟩:=d2h P1.cu
   have P2:=P1.cur c2 s2
   have ow2:=(ow.same s1 (by omega)).same s2 (by omega)
   have hw:IntKind.wrap .i64 (((r'+1:Nat):Int) - 1)=(r':Int):=by rw [wrap_i64 (by omega) (by omega)];omega
   simp only [d7i,if_true,b0U,ldm P0,ldm P1,ldm P2,e1,e2,bs,a8I,b3E,a1D,d6W]
   refine b2W (ys:=[mkr ((a0Q s).1,(a0Q (a0Q s).2).1)]) (n0:=h.length+3) P2.ln ow2 (a1l _ _ _ _) (by simp;omega) fun dm' g3 ow3 l3 k3 _ _=>?_
   have P3:=P2.keep k3
   simp only [bs]
   refine b9o (kk:=0) (row:=svr a dm .nils) P3.st (by rfl) (by rw [(a0H (a2l ow3)).1];rfl) (by simp [-bind_some, svr]) (a0H (a2l ow3)).2 fun g4 p4 s4=>?_
   rw [(a0H (a2l ow3)).1] at p4
   have P4:DcP h g4 (svr a dm' .nils) _:=P3.sta p4 s4
   simp only [bs,a0z,hw]
   refine .some (.inl ⟨rfl,r',by omega,_,dm',(a0Q (a0Q s).2).2,L++[((a0Q s).1,(a0Q (a0Q s).2).1)],rfl,by simp;omega,P4,?_,by simpa using q1,q2⟩)
   rw [d7d]
   exact ow3.same s4 (by omega)
 ·rintro ⟨ex,ds,g⟩ ⟨rfl,b,c,dm,rfl,P,ow⟩
  exact k g dm b c P ow
theorem c2E {h:Hp} {a:Int} {N:Nat} (hN:N<4294967296) {ms:List FM} {dm:D} {s0:Cur} {p7:D × Hp} (hp7:p7.1 = .ptr (h.length+2) 0 0) {g:Hp} (P:DcP h g (svr a dm .nils) s0) (owm:Own g (h.length+3) a0M 2 (ms.map mkr) dm) (x:D) {β:Type} {K:Out→Option β} {Q:β→Prop}
  (k:∀ g' dq (its:List It) b c,DcP h g' (svr a dm dq) (qsS N s0).2→Own g' (h.length+3) a0M 2 (ms.map mkr) dm→Own g' (h.length+3) a0P 11 (its.map itr) dq→its.map a1Y=(qsS N s0).1→Wp (K (.ext 2,[b,c],g')) Q) :
  Wp ((a0N (a9E (.ptr (h.length+1) 0 0) p7) [.int .i64 N,x] g).bind K) Q:=by
 refine Wp.loop (fun r ds g=>∃ y dq,∃ s:Cur,∃ L:List It,ds=[.int .i64 r,y]∧r+L.length≤N∧DcP h g (svr a dm dq) s∧Own g (h.length+3) a0M 2 (ms.map mkr) dm∧Own g (h.length+3) a0P 11 (L.map itr) dq∧L.map a1Y++(qsS r s).1=(qsS N s0).1∧(qsS r s).2=(qsS N s0).2)
  (fun r=>r.1 = .ext 2∧∃ b c dq,∃ L:List It,r.2.1=[b,c]∧DcP h r.2.2 (svr a dm dq) (qsS N s0).2∧Own r.2.2 (h.length+3) a0M 2 (ms.map mkr) dm∧Own r.2.2 (h.length+3) a0P 11 (L.map itr) dq∧L.map a1Y=(qsS N s0).1) N ⟨_,.nils,s0,[],rfl,by simp,P,owm,.nils _ _ _ _,rfl,rfl⟩ ?_ ?_
 ·rintro r ds g ⟨y,dq,s,L,rfl,hr,P,owm,ow,q1,q2⟩
  obtain ⟨d,ho,hd,hu,hl⟩:=P.cu
  obtain ⟨l1,l2⟩:=b6E ho
  have stop:(s.2=true∨r=0)→qsS r s=([],s):=by
   rintro (h0 | h0)
   ·exact b2N r s h0
   ·rw [h0];rfl
  have fin:(s.2=true∨r=0)→∀ b c:D,Wp (some ((Ex.ext 2,[b,c],g):Out)) (fun x:Out=>(x.1 = .nrm∧∃ r'<r,∃ y dq,∃ s:Cur,∃ L:List It,x.2.1=[.int .i64 r',y]∧r'+L.length≤N∧DcP h x.2.2 (svr a dm dq) s∧Own x.2.2 (h.length+3) a0M 2 (ms.map mkr) dm∧Own x.2.2 (h.length+3) a0P 11 (L.map itr) dq∧L.map a1Y++(qsS r' s).1=(qsS N s0).1∧(qsS r' s).2=(qsS N s0).2)∨(x.1 ≠ .nrm∧x.1 = .ext 2∧∃ b c dq,∃ L:List It,x.2.1=[b,c]∧DcP h x.2.2 (svr a dm dq) (qsS N s0).2∧Own x.2.2 (h.length+3) a0M 2 (ms.map mkr) dm∧Own x.2.2 (h.length+3) a0P 11 (L.map itr) dq∧L.map a1Y=(qsS N s0).1)):=by
   intro h0 b c
   rw [stop h0] at q1 q2
   simp only [List.append_nil] at q1 q2
   exact .some (.inr ⟨by simp,rfl,b,c,dq,L,rfl,by rw [← q2];exact P,owm,ow,q1⟩)
  simp only [a9E,a0f,a0o,bs,d6W,a0u,hp7]
  by_cases hr0:r=0
  ·subst hr0
   simp only [show decide (((0:Nat):Int)>0)=false by decide,a0p,a1k,d6X,reduceCtorEq,if_false,bs,a0e,a0c]
   exact fin (.inr rfl) _ _
  have hrp:decide ((r:Int)>0)=true:=decide_eq_true (by omega)
  simp only [hrp,a0p,if_true,bs,a0v,a3A,l2,a1y,a0e,a0c]
  cases hb:s.2 with
  | true =>
   simp only [d7h,d6X,if_false]
   exact fin (.inl hb) _ _
  | false =>
   obtain ⟨r',rfl⟩:∃ r',r=r'+1:=⟨r - 1,by omega⟩
   have hS:qsS (r'+1) s=((itS s).1::(qsS r' (itS s).2).1,(qsS r' (itS s).2).2):=by simp [-bind_some, qsS,hb]
   rw [hS] at q1 q2
   have ldq:∀ {g':Hp} {s':Cur},DcP h g' (svr a dm dq) s'→a0b tab g' a1v (.ptr (h.length+2) 0 (0+2))=some dq:=fun P=>by rw [c1B,a0O P.st];rfl
   have P0:=P
   obtain ⟨j,g1,e1,hj,c1,s1⟩:=c9a P.cu
   have P1:=P.cur c1 s1
   have ow1:=ow.same s1 (by omega)
   have owm1:=owm.same s1 (by omega)
   have hlit:a0W tab a1v 1 [0] [.agg (itr j)]=some (.sl 11 true [itr j]):=id rfl
   have hw:IntKind.wrap .i64 (((r'+1:Nat):Int) - 1)=(r':Int):=by rw [wrap_i64 (by omega) (by omega)];omega
   simp only [d7i,if_true,a7Q,ldq P0,ldq P1,e1,bs,hlit,a1D,d6W]
   have hdm:∀ q,dm.inOb q→¬ dq.inOb q:=fun q hq hq2=>by
    have h1:=a1T owm1 hq
    have h2:=a1T ow1 hq2
    rw [h1] at h2
    injection h2 with h2
    injection h2 with h2
    exact absurd h2 (by decide)
   refine b9l (ys:=[itr j]) (n0:=h.length+3) P1.ln ow1 (a1l _ _ _ _) (by simp;omega) fun dq' g3 ow3 l3 k3 k3' _=>?_
   have P3:=P1.keep k3
   have owm3:=owm1.keep fun q _ hq=>k3' q (owm1.lt hq).2 (hdm q hq)
   simp only [bs]
   refine b9q (kk:=0) (row:=svr a dm dq) P3.st (by rfl) (by rw [(a0H (a2l ow3)).1];rfl) (by simp [-bind_some, svr]) (a0H (a2l ow3)).2 fun g4 p4 s4=>?_
   rw [(a0H (a2l ow3)).1] at p4
   have P4:DcP h g4 (svr a dm dq') _:=P3.sta p4 s4
   simp only [bs,a0z,hw]
   refine .some (.inl ⟨rfl,r',by omega,_,dq',(itS s).2,L++[j],rfl,by simp;omega,P4,owm3.same s4 (by omega),?_,by rw [d7d];simpa [-bind_some, hj] using q1,q2⟩)
   rw [d7d]
   exact ow3.same s4 (by omega)
 ·rintro ⟨ex,ds,g⟩ ⟨rfl,b,c,dq,L,rfl,P,owm,ow,hL⟩
  exact k g dq L b c P owm ow hL
def dN (l:List Int):Nat:=(num ((l.drop 4).take 4)).toNat
def dS0 (l:List Int):Cur:=((l.take (8+dN l)).drop 8,false)
def dA (l:List Int):Int × Cur:=a0Q (dS0 l)
def dM (l:List Int):List FM × Cur:=a3q (a1z (dA l).2).1.toNat (a1z (dA l).2).2
noncomputable def dQ (l:List Int):List RI × Cur:=qsS (a1z (dM l).2).1.toNat (a1z (dM l).2).2
def b3M (l:List Int):Prop:=(dQ l).2.2=true∨0<(dQ l).2.1.length∨stC (dA l).1 (dM l).1 (dQ l).1.length≠0
open Classical in
noncomputable def a2d (l:List Int):Int × Int × (Int × List FM × List RI) :=
 if l.length<8 then (14,0,0,[],[]) else if l.take 4≠magS then (1,0,0,[],[]) else if l.length<12+dN l then (14,0,0,[],[])
 else if a2z (l.take (8+dN l))≠num ((l.drop (8+dN l)).take 4) then (15,0,0,[],[]) else if b3M l then (1,0,0,[],[])
 else (0,((12+dN l:Nat):Int),(dA l).1,(dM l).1,(dQ l).1)
theorem d3d (s p:Str) (h:Hp) (hl:p.length≤s.length):R b7x [.str s,.str p] h=some (.bool (s.take p.length==p),h):=by
 have h1:(s.length:Int)≥(p.length:Int):=by omega
 have e:R b7y [.str s,.str p] h=some (.bool (s.take p.length==p),h):=by
  rw [d0J]
  have hs:a0A tab ty9 false true false [.str s,.int .i64 (p.length:Nat)]=some (.str (s.take p.length)):=by
   have h2:tab ty9=some ti9:=id rfl
   have h3:ti9.td = .str:=id rfl
   simp [-bind_some, a0A,a3f,a2p,h2,h3,hl]
  simp only [c6a,bs,a4X,a3s,decide_eq_true h1,a0p,if_true,hs,a2H,a0e,a0i]
 rw [d0F]
 simp only [c5W,e,bs,a0i]
theorem c3w (l:List Int) (hu:∀ z∈l,U8 z) (hl:8≤l.length):((bys (l.take 8)).take ([76,84,49,10]:Str).length==([76,84,49,10]:Str))=decide (l.take 4=magS):=by
 have e1:(bys (l.take 8)).take ([76,84,49,10]:Str).length=bys (l.take 4):=by
  simp only [bys,d7o,d7p,← List.map_take,List.take_take]
  rfl
 have e2:([76,84,49,10]:Str)=bys magS:=by decide
 rw [e1,e2]
 by_cases h:l.take 4=magS
 ·rw [h];simp [-bind_some]
 ·have:bys (l.take 4)≠bys magS:=fun hh=>h (by rw [← a8k (l.take 4) (fun z hz=>hu z (List.mem_of_mem_take hz)),hh,a8k magS (by unfold magS U8;decide)])
  simp [-bind_some, h,this]
theorem a7m {h g:Hp} {row:List D} (r0:g[h.length]?=some (.row a0g 3 [row])) (hr:row.length=3) (lo:∀ q,q<h.length→g[q]?=h[q]?) (e:Int) {Q:D × Hp→Prop} (hQ:Q (.tup [.agg (svr 0 .nils .nils),.int .i64 0,.int .i64 e],h)) :
  Wp ((a0h tab g a0g (.ptr h.length 0 0) (.agg [.int .i64 0,.nils,.nils])).bind fun h'=>(a0b tab h' a0g (.ptr h.length 0 0)).bind fun d0=>scope h h' (a0l [d0,.int .i64 0,.int .i64 e])) Q:=by
 have hlt:=(d7n.1 r0).1
 refine a4v (kk:=0) (off:=0) (row:=row) (v := .agg [.int .i64 0,.nils,.nils]) r0 (by rfl) (by rfl) (by rw [hr];exact Nat.le_refl _) (by rfl) fun g' p s=>?_
 have hs:spl row 0 (a0F (.agg [.int .i64 0,.nils,.nils]))=svr 0 .nils .nils:=by simp [-bind_some, spl,a0F,hr,svr]
 rw [hs] at p
 have p:g'[h.length]?=some (.row a0g 3 [svr 0 .nils .nils]):=p
 have ld:a0b tab g' a0g (.ptr h.length 0 0)=some (.agg (svr 0 .nils .nils)):=by rw [a3C,a0O p];rfl
 simp only [ld,bs,a6P]
 rw [a1a (d' := .tup [.agg (svr 0 .nils .nils),.int .i64 0,.int .i64 e]) (by simp [-bind_some, svr]) (by
  refine .tup _ fun d hd=>?_
  simp at hd
  rcases hd with rfl | rfl | rfl
  ·exact .agg _ fun d hd=>by simp [-bind_some, svr] at hd;rcases hd with rfl | rfl <;> constructor
  ·constructor
  ·constructor) (by rw [s.1];omega) (fun q hq=>by rw [s.2 q (by omega)];exact lo q hq)]
 exact .some hQ
theorem c0J (h:Hp) (n:Nat) (m:FM):∀ d∈mkr m,a8t h n d=d:=by
 intro d hd
 simp only [mkr,d7s,List.not_mem_nil,or_false] at hd
 rcases hd with rfl | rfl <;> (cases n <;> rfl)
theorem a6Q (n0:Nat) (h:Hp) (n:Nat) (m:FM):∀ d∈mkr m,frz n0 h n d=d:=by
 intro d hd
 simp only [mkr,d7s,List.not_mem_nil,or_false] at hd
 rcases hd with rfl | rfl <;> exact b2x _ _ _ _ _
theorem a9c (n:Nat) (m:FM):∀ d∈mkr m,Ok n d:=by
 intro d hd
 simp only [mkr,d7s,List.not_mem_nil,or_false] at hd
 rcases hd with rfl | rfl <;> exact .int _ _
theorem c0v (h:Hp) (n:Nat) (i:It):∀ d∈itr i,a8t h n d=d:=by
 intro d hd
 simp only [itr,evr,d7s,List.not_mem_nil,or_false] at hd
 rcases hd with rfl | rfl | rfl | rfl | rfl | rfl | rfl | rfl | rfl | rfl | rfl
 case inr.inr.inr.inr.inr.inl=>rcases i.e.hld with ⟨hh,_⟩ | ⟨b,hh⟩ <;> rw [hh] <;> cases n <;> rfl
 case inr.inr.inr.inr.inr.inr.inr.inr.inr.inr=>rcases i.e.hfd with ⟨hh,_⟩ | ⟨b,hh⟩ <;> rw [hh] <;> cases n <;> rfl
 all_goals (cases n <;> rfl)
end Go.Proofs.YtjmndhbabkjebaaGreatDoor
