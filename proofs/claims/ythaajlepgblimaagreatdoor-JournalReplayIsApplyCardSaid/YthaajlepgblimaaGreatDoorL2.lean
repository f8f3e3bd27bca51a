/- Laws, on plain data, about functions that the statement reaches. -/
import Derived.Test.YthaajlepgblimaaGreatDoorL1
set_option linter.unusedSimpArgs false
set_option linter.unusedVariables false
set_option linter.unnecessarySimpa false
set_option maxRecDepth 100000
namespace Go.Proofs.YthaajlepgblimaaGreatDoor
open Go.Eng Go.Pi
open Option (bind_some)
theorem d6f (c:Str × Str→Str × Str→Int) (cmp:D) (hc:∀ x y g,a3o R cmp [.agg (fld x),.agg (fld y)] g=some (.int .i64 (c x y),g)) (ob N:Nat) (hN:N≤20)
  (l:List (Str × Str)) (hl:l.length=N) (h:Hp) (ho:h[ob]?=some (.row a0T 2 (l.map fld))) :
  ∃ d h',R b1f [.msl 2 ob 0 N,.int .i64 N,cmp] h=some (d,h')∧h'[ob]?=some (.row a0T 2 ((isr c 0 1 (N - 1) l).map fld))∧Same ob h h':=by
 suffices Wp (R b1f [.msl 2 ob 0 N,.int .i64 N,cmp] h) (fun p=>p.2[ob]?=some (.row a0T 2 ((isr c 0 1 (N - 1) l).map fld))∧Same ob h p.2) by
  obtain ⟨⟨x,h'⟩,h1,h2⟩:=this
  exact ⟨x,h',h1,h2⟩
 rw [c7R]
 simp only [c3t,bs,e0h]
 refine Wp.loop (fun n ds g=>(n=1∧∃ u,ds=[.int .i64 0,.int .i64 20,u]∧g=h)∨(n=0∧N=20∧∃ u,ds=[.int .i64 20,.int .i64 40,u]∧g[ob]?=some (.row a0T 2 ((isr c 0 1 (N - 1) l).map fld))∧Same ob h g))
  (fun r=>r.1 = .ext 0∧∃ (a:Nat) (u v:D),r.2.1=[.int .i64 a,u,v]∧((a=0∧r.2.2=h)∨(a=N∧r.2.2[ob]?=some (.row a0T 2 ((isr c 0 1 (N - 1) l).map fld))∧Same ob h r.2.2))) 1 (.inl ⟨rfl,_,rfl,rfl⟩) ?_ ?_
 ·rintro n ds g (⟨rfl,u,rfl,rfl⟩ | ⟨rfl,h20,u,rfl,p1,s1⟩)
  ·simp only [a7d,a0e,a0m,bs,e0h,a2u]
   refine Wp.dif ?_ ?_
   ·intro h0
    have h0:N=20:=by
     have:(20:Int)≤(N:Int):=by simpa using h0
     omega
    obtain ⟨d,h',e1,p1,s1⟩:=c4T c cmp hc ob N 0 20 (by omega) (by omega) (by omega) l hl g ho
    have e1:R a6Q [.msl 2 ob 0 N,.int .i64 0,.int .i64 20,cmp] g=some (d,h'):=e1
    simp only [e1,bs,a0r,show IntKind.wrap .i64 ((20:Int)+20)=40 from rfl]
    exact .some (.inl ⟨rfl,0,by omega,.inr ⟨rfl,h0,_,rfl,by rw [h0];exact p1,s1⟩⟩)
   ·intro h0
    exact .some (.inr ⟨by simp,rfl,0,_,_,rfl,.inl ⟨rfl,rfl⟩⟩)
  ·have hq:¬ (40:Int)≤(N:Int):=by omega
   simp only [a7d,a0e,a0m,bs,e0h,a2u,hq,decide_false,a0d,e0i,if_false]
   exact .some (.inr ⟨by simp,rfl,20,_,_,rfl,.inr ⟨h20.symm,p1,s1⟩⟩)
 ·rintro ⟨x,ds,g⟩ ⟨rfl,a,u,v,rfl,hg⟩
  simp only [a0l,a0k,a0e,a0m,bs]
  have hin:∃ d h',R a6Q [.msl 2 ob 0 N,.int .i64 a,.int .i64 N,cmp] g=some (d,h')∧h'[ob]?=some (.row a0T 2 ((isr c 0 1 (N - 1) l).map fld))∧Same ob h h':=by
   rcases hg with ⟨rfl,rfl⟩ | ⟨rfl,p1,s1⟩
   ·exact c4T c cmp hc ob N 0 N (by omega) (by omega) (by omega) l hl g ho
   ·obtain ⟨d,h',q1,q2,q3⟩:=c4T c cmp hc ob a a a (by omega) (by omega) (by omega) _ (by rw [b2r];exact hl) g p1
    rw [show a - (a+1)=0 by omega] at q2
    exact ⟨d,h',q1,q2,s1.trans q3⟩
  obtain ⟨d,h',q1,q2,q3⟩:=hin
  simp only [q1,bs]
  rw [a1r]
  have hq:¬ (20:Int)<(N:Int):=by omega
  simp only [a9g,a0e,a0m,bs,e0h,a0o,hq,decide_false,a0d,e0i,if_false,a0l,a2k]
  exact .some ⟨q2,q3⟩
theorem d6a (c:Str × Str→Str × Str→Int) (cmp:D) (hc:∀ x y g,a3o R cmp [.agg (fld x),.agg (fld y)] g=some (.int .i64 (c x y),g)) (ob N:Nat) (hN:N≤20)
  (l:List (Str × Str)) (hl:l.length=N) (h:Hp) (ho:h[ob]?=some (.row a0T 2 (l.map fld))) :
  ∃ d h',R b1e [.msl 2 ob 0 N,cmp] h=some (d,h')∧h'[ob]?=some (.row a0T 2 ((isr c 0 1 (N - 1) l).map fld))∧Same ob h h':=by
 obtain ⟨d,h',q1,q2,q3⟩:=d6f c cmp hc ob N hN l hl h ho
 refine ⟨a0f [],h',?_,q2,q3⟩
 rw [c7Q]
 simp only [c3s,bs,c2C,q1]
-- classes of bytes, by the program's table
theorem ixA (cs:List D) (i:Int) (h0:0≤i) (h1:i<256) (hl:i.toNat<cs.length):a0b tab b5o (.fptr cs) (.int .u8 i)=some (.fptr (cs.drop i.toNat)):=by
 have:=c8o (T:=tab) (t:=b5o) (n:=256) (z:=1) (i:=b9z) (j:=ti5) (id rfl) (id rfl) (id rfl) (id rfl) (by omega) (cs:=cs) (k := .u8) h0 h1 (by omega)
 rwa [Nat.mul_one] at this
theorem b4P:kinZ.length=256:=by decide
theorem b2v:kin.length=256:=by simp [-bind_some, kin,b4P]
theorem c2y (i:Nat) (hi:i<256):∃ z,kin.drop i = .int .u8 z::kin.drop (i+1)∧kinZ[i]?=some z:=by
 have hl:=b4P
 have hk:=b2v
 refine ⟨kinZ[i]'(by omega),?_,e0x (by omega)⟩
 rw [List.drop_eq_getElem_cons (by omega)]
 simp [-bind_some, kin]
def b8g (z:Int):Bool:=decide (IntKind.wrap .u8 (BitVec.ofInt IntKind.u8.bits z &&& BitVec.ofInt IntKind.u8.bits 2).toNat≠0)
def c8B (z:Int):Bool:=decide (IntKind.wrap .u8 (BitVec.ofInt IntKind.u8.bits z &&& BitVec.ofInt IntKind.u8.bits 3).toNat≠0)
theorem c8z:∀ i:Fin 256,(kinZ[i.val]?).map b8g=some (a3P i.val)∧(kinZ[i.val]?).map c8B=some (b5x i.val||a3P i.val):=by decide
theorem d6e (c:UInt8) (h:Hp):R b7F [.int .u8 c.toNat] h=some (.bool (a3P c.toNat),h):=by
 have hc:c.toNat<256:=c.toNat_lt
 obtain ⟨z,hz,hg⟩:=c2y c.toNat hc
 have hk:=(c8z ⟨c.toNat,hc⟩).1
 simp only [hg,Option.map_some,Option.some.injEq] at hk
 have hl:=b2v
 rw [d1R]
 simp only [c6w,bs,ixA kin c.toNat (by omega) (by omega) (by rw [hl];simpa using hc),e0r,hz,ld5,a7m,a0A,a0j,← hk,b8g]
theorem c4S (c:UInt8) (h:Hp):R b7G [.int .u8 c.toNat] h=some (.bool (b0w c.toNat),h):=by
 have hc:c.toNat<256:=c.toNat_lt
 obtain ⟨z,hz,hg⟩:=c2y c.toNat hc
 have hk:=(c8z ⟨c.toNat,hc⟩).2
 simp only [hg,Option.map_some,Option.some.injEq] at hk
 have hl:=b2v
 rw [d1S]
 simp only [c8B] at hk
 simp only [c6x,bs,ixA kin c.toNat (by omega) (by omega) (by rw [hl];simpa using hc),e0r,hz,ld5,a7m,a0A,a0P,b0w,hk]
 cases hq:(b5x c.toNat||a3P c.toNat) <;> simp [-bind_some]
theorem c8G (s:Str) (h:Hp) (ob:Nat) (hob:h[ob]?=some (.row ty5 1 (a1g s))) (hl:s.length≤9223372036854775807) {β:Type} (K:Out→Option β) (X:Bool→Option β) (hh:Hp)
   (hX:∀ r,K (.ret,.bool false::r,h)=X false) (hY:∀ r,K (.ext 0,r,h)=X true):∀ (suf pre:Str),s=pre++suf→∀ a b e f,
   (a0J (a4Q (.msl 1 ob 0 s.length,hh) (.int .i64 s.length)) [a,b,.int .i64 pre.length,e,f] h).bind K=X (suf.all a5B):=by
 intro suf
 induction suf with
 | nil =>
  rintro pre rfl a b e f
  rw [a1r]
  simp [-bind_some, a4Q,hY]
 | cons p suf ih =>
  rintro pre rfl a b e f
  have hw:IntKind.wrap .i64 ((pre.length:Int)+1)=(pre++[p]).length:=by
   rw [wrap_i64 (by omega) (by simp at hl;omega)];simp [-bind_some]
  have hlt:(pre.length:Int)<(pre++p::suf).length:=by simp;omega
  rw [a1r]
  generalize hL:pre++p::suf=L at *
  have hg:(a1g L)[pre.length]?=some [.int .u8 p.toNat]:=by rw [← hL];simp [-bind_some, a1g]
  have hld:a0c tab h ty5 (.ptr ob pre.length 0)=some (.int .u8 p.toNat):=by
   rw [d5B,a0F hob,hg];rfl
  have h0:(0:Int)≤(pre.length:Int)∧(pre.length:Int)<(L.length:Int):=⟨by omega,hlt⟩
  cases hp:b0w p.toNat
  ·by_cases h46:(p.toNat:Int)=46
   ·have:=ih (pre++[p]) (by simp [-bind_some, ← hL]) a (.int .u8 p.toNat) (.bool true) (.bool false)
    simp only [← hw] at this
    have h47:b0w 46=false:=rfl
    have hs:=c4S p h
    rw [hp] at hs
    have hpn:a5B p=true:=by simp [-bind_some, a5B,hp,h46]
    have hn:decide ((p.toNat:Int)≠46)=false:=by simp [-bind_some, h46]
    simp only [a4Q,a0e,a0m,bs,a0o,hlt,decide_true,a0d,if_true,c1f,h0,and_self,Nat.zero_add,e0r,hld,hs,a1A,e0t,a0v,a0A,hn,a0g,e0i,if_false,a0r,List.all_cons,hpn,Bool.true_and]
    exact this
   ·have hs:=c4S p h
    rw [hp] at hs
    have hpn:a5B p=false:=by simp [-bind_some, a5B,hp,h46]
    have hn:decide ((p.toNat:Int)≠46)=true:=by simp [-bind_some, h46]
    simp only [a4Q,a0e,a0m,bs,a0o,hlt,decide_true,a0d,if_true,c1f,h0,and_self,Nat.zero_add,e0r,hld,hs,a1A,e0t,a0v,a0A,hn,a0g,List.all_cons,hpn,Bool.false_and,hX]
  ·have:=ih (pre++[p]) (by simp [-bind_some, ← hL]) a (.int .u8 p.toNat) (.bool true) (.bool false)
   simp only [← hw] at this
   have hs:=c4S p h
   rw [hp] at hs
   have hpn:a5B p=true:=by simp [-bind_some, a5B,hp]
   simp only [a4Q,a0e,a0m,bs,a0o,hlt,decide_true,a0d,if_true,c1f,h0,and_self,Nat.zero_add,e0r,hld,hs,a1A,e0s,a0v,e0i,if_false,reduceCtorEq,a0g,a0r,List.all_cons,hpn,Bool.true_and]
   exact this
theorem d5Z (s:Str) (h:Hp):R b7C [.str s] h=some (.bool (a1H s),h):=by
 have sc:∀ (g:Hp) (v:Bool),h.length≤g.length→(∀ q,q<h.length→g[q]?=h[q]?)→scope h g (.bool v)=some (.bool v,h):=fun g v h1 h2=>a0M (by simp) (.bool _) h1 h2
 rw [d1N]
 cases s with
 | nil =>
  simp only [b5r,bs,a1E,beq_self_eq_true,a0v,a0Y,reduceCtorEq,if_false,a0g,if_true,a0d,a0j,e0j,sc h _ (Nat.le_refl _) (fun _ _=>rfl)]
  rfl
 | cons c r =>
  have hne:((c::r:Str)==[])=false:=by simp
  by_cases h32:(32:Int)<((c::r).length:Int)
  ·have hf:a1H (c::r)=false:=by
     have:¬ (c::r).length≤32:=by omega
     simp [-bind_some, a1H]
     intro hh;simp at this;omega
   simp only [b5r,bs,a1E,hne,a0v,a0Y,if_true,a5I,a0x,h32,decide_true,reduceCtorEq,if_false,a0g,a0d,a0j,e0j,e0i,a2x,a5y,sc h _ (Nat.le_refl _) (fun _ _=>rfl),hf]
  ·have hle:(c::r).length≤32:=by omega
   have hi0:=d6x (c::r) 0 c rfl
   have hi0:a4m tab ty9 (.str (c::r)) (.int .i64 0)=some (.int .u8 c.toNat):=hi0
   have hs:=d6e c h
   have hwb:c3i ty5 h (.str (c::r))=some (.msl 1 h.length 0 (c::r).length,a0C h ty5 1 (a1g (c::r))):=if_pos (a2n (by omega) (by omega))
   have p1:=b8H h ty5 1 (a1g (c::r))
   have hsc:∀ v,scope h (a0C h ty5 1 (a1g (c::r))) (.bool v)=some (.bool v,h):=fun v=>sc _ _ (by rw [b8I];omega) fun q hq=>b8J _ _ _ _ hq
   have go:∀ (b:Bool),(a3P c.toNat||decide ((c.toNat:Int)=95))=b→a1H (c::r)=(b&&(c::r).all a5B):=fun b hb=>by
    simp only [a1H,hle,decide_true,Bool.true_and,hb]
   cases hq:a3P c.toNat
   ·rw [hq] at hs
    by_cases h95:(c.toNat:Int)=95
    ·have hn95:decide ((c.toNat:Int)≠95)=false:=by simp [-bind_some, h95]
     rw [go true (by simp [-bind_some, hq,h95])]
     simp only [b5r,bs,e0h,a1E,hne,a0v,a0Y,if_true,a5I,a0x,h32,decide_false,reduceCtorEq,if_false,a0g,a0d,e0i,hi0,hs,a1A,e0t,a0A,hn95,hwb,b8m]
     have:=c8G (c::r) (a0C h ty5 1 (a1g (c::r))) h.length p1 (by omega) (fun r_1=>(some ((a0G 0 r_1.1),[(nth 0 r_1.2.1),(nth 1 r_1.2.1),(nth 2 r_1.2.1),(nth 3 r_1.2.1),(nth 4 r_1.2.1)],r_1.2.2)).bind fun r_2=>a0K r_2.1 (scope h r_2.2.2 (.bool true)) fun x=>a1c x (scope h r_2.2.2 (a0f [nth 0 r_2.2.1]))) (fun b=>some (.bool b,h)) (a0C h ty5 1 (a1g (c::r))) (fun r=>by simp [-bind_some, hsc]) (fun r=>by simp [-bind_some, hsc]) (c::r) [] rfl (.bool false) .any .any .any
     simpa using this
    ·have hn95:decide ((c.toNat:Int)≠95)=true:=by simp [-bind_some, h95]
     rw [go false (by simp [-bind_some, hq,h95])]
     simp only [b5r,bs,a1E,hne,a0v,a0Y,if_true,a5I,a0x,h32,decide_false,reduceCtorEq,if_false,a0g,a0d,e0i,hi0,hs,a1A,e0t,a0A,hn95,a0j,sc h _ (Nat.le_refl _) (fun _ _=>rfl),Bool.false_and]
   ·rw [hq] at hs
    rw [go true (by simp [-bind_some, hq])]
    simp only [b5r,bs,e0h,a1E,hne,a0v,a0Y,if_true,a5I,a0x,h32,decide_false,reduceCtorEq,if_false,a0g,a0d,e0i,hi0,hs,a1A,e0s,hwb,b8m,a2x]
    have:=c8G (c::r) (a0C h ty5 1 (a1g (c::r))) h.length p1 (by omega) (fun r_1=>(some ((a0G 0 r_1.1),[(nth 0 r_1.2.1),(nth 1 r_1.2.1),(nth 2 r_1.2.1),(nth 3 r_1.2.1),(nth 4 r_1.2.1)],r_1.2.2)).bind fun r_2=>a0K r_2.1 (scope h r_2.2.2 (.bool true)) fun x=>a1c x (scope h r_2.2.2 (a0f [nth 0 r_2.2.1]))) (fun b=>some (.bool b,h)) (a0C h ty5 1 (a1g (c::r))) (fun r=>by simp [-bind_some, hsc]) (fun r=>by simp [-bind_some, hsc]) (c::r) [] rfl (.bool false) .any .any .any
    simpa using this
def RdF (h:Hp) (l:List (Str × Str)) (d:D):Prop:=SlOf 2 fld l d∨∃ ob,d = .msl 2 ob 0 l.length∧h[ob]?=some (.row a0T 2 (l.map fld))
theorem b0f {h:Hp} {l:List (Str × Str)} {d:D} (hd:RdF h l d):a0t tab a1p d=some (.int .i64 l.length):=by
 rcases hd with hd | ⟨ob,rfl,_⟩
 ·exact a2r hd
 ·exact c2C _ _ _ _
theorem b1G {h:Hp} {l:List (Str × Str)} {d:D} (hd:RdF h l d) (i:Nat) (p:Str × Str) (hp:l[i]?=some p):∃ q,a0b tab a1p d (.int .i64 i)=some q∧a0c tab h a0T q=some (.agg (fld p)) ∧
  ∃ q0,a0a tab a0T 0 q=some q0∧a0c tab h ty9 q0=some (.str p.1):=by
 have hi:=(e0y.1 hp).1
 rcases hd with hd | ⟨ob,rfl,ho⟩
 ·exact ⟨.fptr (fld p),by rw [a7a hd];simp [-bind_some, hp],b0Y p h,.fptr (fld p),b3Z p,b4a p h⟩
 ·have hr:(l.map fld)[i]?=some (fld p):=by rw [e0v,hp];rfl
  have hh:(0:Int)≤(i:Int)∧(i:Int)<(l.length:Int):=by omega
  refine ⟨.ptr ob i 0,by rw [b5J];simp [-bind_some, hh],c4v ho hr,.ptr ob i 0,by rw [a7p],?_⟩
  rw [b0x,a0F ho,hr];rfl
theorem RdF.keep {h h':Hp} {l:List (Str × Str)} {d:D} (hd:RdF h l d) (hk:∀ (q T z:Nat) (rows:List (List D)),h[q]?=some (Ob.row T z rows)→h'[q]?=h[q]?):RdF h' l d:=by
 rcases hd with hd | ⟨ob,rfl,ho⟩
 ·exact .inl hd
 ·exact .inr ⟨ob,rfl,by rw [hk ob _ _ _ ho];exact ho⟩
theorem c5g (l:List (Str × Str)) (d:D) (h:Hp) (hd:SlOf 2 fld l d) (hl:l.length≤1000000):∃ d' h',R a7R [d] h=some (d',h')∧h.length≤h'.length∧(∀ q,q<h.length→h'[q]?=h[q]?) ∧
  ((l=[]∧SlOf 2 fld [] d')∨∃ ob,h.length≤ob∧d' = .msl 2 ob 0 l.length∧h'[ob]?=some (.row a0T 2 (l.map fld))):=by
 rw [d1e]
 rcases hd with ⟨rfl,rfl⟩ | ⟨b,rfl⟩
 ·exact ⟨.nils,h,by
    have hne:a0i tab .eql a1p .nils .nils=some (.bool true):=id rfl
    simp [-bind_some, c3p,hne],Nat.le_refl _,fun _ _=>rfl,.inl ⟨rfl,.nils _ _⟩⟩
 ·obtain ⟨x',h',e,hl',hq,ho⟩:=a5S (T:=tab) (t:=a1p) (i:=d0G) (j:=ti109) (h:=h) (id rfl) (id rfl) (id rfl) (by decide) (y := .sl 2 b (l.map fld)) (a1e _ _ _ _) (a2n (by have:ti109.by_=32:=rfl;rw [this,e0n];omega) (by rw [e0n];omega))
  have e':a0q tab h a1p a1p (.sl 2 true []) (.sl 2 b (l.map fld))=some (x',h'):=e
  have hne:a0i tab .eql a1p (.sl 2 b (l.map fld)) .nils=some (.bool false):=id rfl
  refine ⟨x',h',?_,hl',hq,?_⟩
  ·simp only [c3p,bs,hne,a0d,e0i,if_false,c7D,e',a0j]
  ·rcases ho with ⟨rfl,hn⟩ | ⟨rfl,hn⟩ | ⟨ob,h1,rfl,h2⟩
   ·have:l=[]:=by simpa using hn
    exact .inl ⟨this,.inr ⟨true,rfl⟩⟩
   ·have:l=[]:=by simpa using hn
    exact .inl ⟨this,.nils _ _⟩
   ·exact .inr ⟨ob,h1,by rw [e0n];rfl,h2⟩
def srt (l:List (Str × Str)):List (Str × Str):=isr cF 0 1 (l.length - 1) l
theorem b2M (l:List (Str × Str)):(srt l).length=l.length:=b2r _ _ _ _ _
def c0a:List (Str × Str)→Bool
 | x::y::r=>y.1==x.1||c0a (y::r)
 | _=>false
def a2O (l:List (Str × Str)):Int × List (Str × Str):=if 32<l.length then (4,[]) else if l.all (fun p=>a1H p.1)=true then (if c0a (srt l)=true then (7,[]) else (0,srt l)) else (6,[])
theorem c8E (l:List (Str × Str)) (d:D) (h:Hp) (hd:SlOf 2 fld l d) (hl:l.length≤1000) {β:Type} {K:Out→Option β} {Q:β→Prop} (a b c e f:D)
  (k1:l.all (fun p=>a1H p.1)=true→∀ x y z w,Wp (K (.ext 0,[a,b,x,y,z,w],h)) Q) (k2:¬ l.all (fun p=>a1H p.1)=true→∀ x y z w,Wp (K (.ret,[.nils,.int .i64 6,x,y,z,w],h)) Q) :
  Wp ((a0J (a9e d (.int .i64 l.length)) [a,b,c,.int .i64 0,e,f] h).bind K) Q:=by
 generalize hV:l.all (fun p=>a1H p.1)=V at k1 k2
 refine Wp.loop (fun k ds g=>g=h∧∃ c e f,∃ i:Nat,ds=[a,b,c,.int .i64 i,e,f]∧k+i=l.length∧(l.drop i).all (fun p=>a1H p.1)=V)
   (fun x=>x.2.2=h∧((x.1 = .ext 0∧V=true∧∃ p q r s,x.2.1=[a,b,p,q,r,s])∨(x.1 = .ret∧V=false∧∃ p q r s,x.2.1=[.nils,.int .i64 6,p,q,r,s]))) l.length ⟨rfl,_,_,_,0,rfl,rfl,hV⟩ ?_ ?_
 ·rintro k ds g ⟨rfl,c,e,f,i,rfl,hk,hch⟩
  simp only [a9e,a0e,a0m,bs,e0h,a0o]
  refine Wp.dif ?_ ?_
  ·intro h0
   have h0:i<l.length:=dl_ h0
   have hg:l[i]?=some l[i]:=e0x h0
   have hw:=wi_ i (by omega)
   rw [List.drop_eq_getElem_cons h0] at hch
   generalize l[i]=x at hg hch
   have hbx:a5U 2 (.agg (fld x))=some (.fptr (fld x)):=a3y 2 _ rfl
   simp only [a7a hd,Int.natCast_nonneg,if_true,e0r,hg,Option.map_some,bs,b0Y,hbx,b3Z x,b4a,d5Z,a1A]
   simp only [List.all_cons] at hch
   cases hf:a1H x.1
   ·rw [hf] at hch
    simp only [e0t,a0d,if_true]
    exact .some (.inr ⟨by simp,rfl,.inr ⟨rfl,hch.symm,_,_,_,_,rfl⟩⟩)
   ·rw [hf] at hch
    simp only [e0s,a0d,e0i,if_false,a0r,bs,hw]
    exact .some (.inl ⟨rfl,k - 1,by omega,rfl,_,_,_,i+1,rfl,by omega,hch⟩)
  ·intro h0
   have h0:l.length≤i:=by
    have:¬ (i:Int)<l.length:=by simpa using h0
    omega
   rw [List.drop_of_length_le h0] at hch
   exact .some (.inr ⟨by simp,rfl,.inl ⟨rfl,hch.symm,_,_,_,_,rfl⟩⟩)
 ·rintro ⟨x,ds,g⟩ ⟨h2,h3⟩
  simp only at h2 h3
  subst h2
  rcases h3 with ⟨rfl,hv,p,q,r,s,rfl⟩ | ⟨rfl,hv,p,q,r,s,rfl⟩
  ·exact k1 hv _ _ _ _
  ·exact k2 (by rw [hv];simp [-bind_some]) _ _ _ _
theorem c8F (l:List (Str × Str)) (d:D) (h:Hp) (hd:RdF h l d) (hl:l.length≤1000) {β:Type} {K:Out→Option β} {Q:β→Prop} (a b c e:D)
  (k1:c0a l=false→∀ x y z,Wp (K (.ext 2,[a,b,x,y,z],h)) Q) (k2:c0a l=true→∀ x y z,Wp (K (.ret,[.nils,.int .i64 7,x,y,z],h)) Q) :
  Wp ((a0J (a9f d) [a,b,.int .i64 1,c,e] h).bind K) Q:=by
 generalize hV:c0a l=V at k1 k2
 refine Wp.loop (fun k ds g=>g=h∧∃ c e,∃ i:Nat,ds=[a,b,.int .i64 ((i+1:Nat):Int),c,e]∧k=l.length - i∧c0a (l.drop i)=V)
   (fun x=>x.2.2=h∧((x.1 = .ext 2∧V=false∧∃ p q r,x.2.1=[a,b,p,q,r])∨(x.1 = .ret∧V=true∧∃ p q r,x.2.1=[.nils,.int .i64 7,p,q,r]))) l.length ⟨rfl,_,_,0,rfl,rfl,hV⟩ ?_ ?_
 ·rintro k ds g ⟨rfl,c,e,i,rfl,hk,hch⟩
  simp only [a9f,a0e,a0m,bs,e0h,b0f hd,a0o]
  refine Wp.dif ?_ ?_
  ·intro h0
   have h0:i+1<l.length:=by
    have:((i+1:Nat):Int)<l.length:=by simpa using h0
    omega
   have g1:l[i+1]?=some l[i+1]:=e0x h0
   have g0:l[i]?=some l[i]:=e0x (by omega)
   have hw:IntKind.wrap .i64 (((i+1:Nat):Int)+1)=((i+1+1:Nat):Int):=by
    rw [wrap_i64 (by omega) (by omega)];omega
   have hw2:IntKind.wrap .i64 (((i+1:Nat):Int) - 1)=(i:Int):=by
    rw [wrap_i64 (by omega) (by omega)];omega
   rw [List.drop_eq_getElem_cons (show i<l.length by omega),List.drop_eq_getElem_cons h0] at hch
   unfold c0a at hch
   rw [← List.drop_eq_getElem_cons h0] at hch
   generalize l[i+1]=x at g1 hch
   generalize l[i]=y at g0 hch
   obtain ⟨q1,a1,_,r1,b1,c1⟩:=b1G hd (i+1) x g1
   obtain ⟨q0,a0,_,r0,b0,c0⟩:=b1G hd i y g0
   simp only [a1,a0,b1,b0,c1,c0,bs,a0N,hw2,a1E]
   cases hf:(x.1==y.1)
   ·rw [hf] at hch
    simp only [a0d,e0i,if_false,a0r,bs,hw]
    exact .some (.inl ⟨rfl,l.length - (i+1),by omega,rfl,_,_,i+1,rfl,rfl,hch⟩)
   ·rw [hf] at hch
    simp only [a0d,if_true]
    exact .some (.inr ⟨by simp,rfl,.inr ⟨rfl,hch.symm,_,_,_,rfl⟩⟩)
  ·intro h0
   have h0:l.length≤i+1:=by
    have:¬ ((i+1:Nat):Int)<l.length:=by simpa using h0
    omega
   have hv:V=false:=by
    rw [← hch]
    have:(l.drop i).length≤1:=by simp;omega
    match l.drop i,this with
    | [],_=>rfl
    | [x],_=>rfl
   exact .some (.inr ⟨by simp,rfl,.inl ⟨rfl,hv,_,_,_,rfl⟩⟩)
 ·rintro ⟨x,ds,g⟩ ⟨h2,h3⟩
  simp only at h2 h3
  subst h2
  rcases h3 with ⟨rfl,hv,p,q,r,rfl⟩ | ⟨rfl,hv,p,q,r,rfl⟩
  ·exact k1 hv _ _ _
  ·exact k2 hv _ _ _
theorem c9C (d cmp:D) (h:Hp) (hd:SlOf 2 fld [] d):∃ x,R b1e [d,cmp] h=some (x,h):=by
 have hl:a0t tab a1p d=some (.int .i64 0):=a2r hd
 have h65:∃ x,R a6Q [d,.int .i64 0,.int .i64 0,cmp] h=some (x,h):=by
  rw [c7S]
  refine ⟨a0f [],?_⟩
  simp only [c3u,bs,e0h,a0r,show IntKind.wrap .i64 ((0:Int)+1)=1 from rfl]
  rw [a1r]
  simp [-bind_some, a9h]
 obtain ⟨x,h65⟩:=h65
 have h63:∃ x,R b1f [d,.int .i64 0,cmp] h=some (x,h):=by
  rw [c7R]
  refine ⟨a0f [],?_⟩
  simp only [c3t,bs,e0h]
  rw [a1r]
  have h20:¬ (20:Int)≤0:=by omega
  have h21:¬ (20:Int)<0:=by omega
  simp only [a7d,a0e,a0m,bs,a2u,h20,decide_false,a0d,e0i,if_false,a0l,a0k,h65]
  rw [a1r]
  simp only [a9g,a0e,a0m,bs,a0o,h21,decide_false,a0d,e0i,if_false,a0l,a2k]
 obtain ⟨y,h63⟩:=h63
 refine ⟨a0f [],?_⟩
 rw [c7Q]
 simp only [c3s,bs,hl,h63]
theorem d5V (l:List (Str × Str)) (d:D) (h:Hp) (hd:SlOf 2 fld l d) (hl:l.length≤20):∃ d' h',R b1c [d] h=some (.tup [d',.int .i64 (a2O l).1],h')∧h.length≤h'.length∧(∀ q,q<h.length→h'[q]?=h[q]?)∧((a2O l).1=0→RdF h' (a2O l).2 d'):=by
 suffices Wp (R b1c [d] h) (fun p=>∃ d',p.1 = .tup [d',.int .i64 (a2O l).1]∧h.length≤p.2.length∧(∀ q,q<h.length→p.2[q]?=h[q]?)∧((a2O l).1=0→RdF p.2 (a2O l).2 d')) by
  obtain ⟨⟨x,h'⟩,h1,d',rfl,h2⟩:=this
  exact ⟨d',h',h1,h2⟩
 rw [d1J]
 have h32:¬ (32:Int)<(l.length:Int):=by omega
 have h32n:¬ 32<l.length:=by omega
 simp only [c6p,bs,e0h,a2r hd,a0x,h32,decide_false,a0d,e0i,if_false]
 refine c8E l d h hd (by omega) _ _ _ _ _ (fun hv x y z w=>?_) (fun hv x y z w=>?_)
 ·simp only [a0l,a0k,a0e,a0m,bs]
  obtain ⟨d1,h1,e1,hl1,hb1,hd1⟩:=c5g l d h hd (by omega)
  simp only [e1,bs]
  have hsrt:∃ x h2,R b1e [d1,.fn (.func a7T) [] []] h1=some (x,h2)∧h.length≤h2.length∧(∀ q,q<h.length→h2[q]?=h[q]?)∧RdF h2 (srt l) d1:=by
   rcases hd1 with ⟨rfl,hd1⟩ | ⟨ob,hob,rfl,ho⟩
   ·obtain ⟨x,hx⟩:=c9C d1 (.fn (.func a7T) [] []) h1 hd1
    exact ⟨x,h1,hx,hl1,hb1,.inl hd1⟩
   ·obtain ⟨x,h2,q1,q2,q3⟩:=d6a cF (.fn (.func a7T) [] []) (fun x y g=>d0O x y g) ob l.length hl l rfl h1 ho
    refine ⟨x,h2,q1,by have:=q3.1;omega,fun q hq=>(q3.2 q (by omega)).trans (hb1 q hq),.inr ⟨ob,by rw [b2M],q2⟩⟩
  obtain ⟨u,h2,e2,hl2,hb2,hr⟩:=hsrt
  simp only [e2,bs]
  refine c8F (srt l) d1 h2 hr (by rw [b2M];omega) _ _ _ _ (fun ha x y z=>?_) (fun ha x y z=>?_)
  ·have hs:a2O l=(0,srt l):=by simp only [a2O,h32n,if_false,hv,if_true,ha,e0i]
   rw [hs]
   simp only [a0l,a0k,bs,a1d]
   exact .some ⟨d1,rfl,hl2,hb2,fun _=>hr⟩
  ·have hs:a2O l=(7,[]):=by simp only [a2O,h32n,if_false,hv,if_true,ha]
   rw [hs]
   simp only [a2t,a2m,a2H,a0e,a0m,bs,a1d]
   exact .some ⟨.nils,rfl,hl2,hb2,fun hh=>by cases hh⟩
 ·have hs:a2O l=(6,[]):=by simp only [a2O,h32n,if_false,hv];rfl
  rw [hs]
  simp only [a2t,a2m,a2H,a0e,a0m,bs,a1d]
  exact .some ⟨.nils,rfl,Nat.le_refl _,fun _ _=>rfl,fun hh=>by cases hh⟩
theorem d5W (l r:List (Str × Str)) (d e:D) (h:Hp) (hd:RdF h l d) (he:RdF h r e) (hl:l.length≤1000):R b7A [d,e] h=some (.bool (decide (l=r)),h):=by
 apply Wp.val
 rw [d1K]
 simp only [c6q,bs,e0h,b0f hd,b0f he,a0A]
 by_cases hlen:(l.length:Int)=(r.length:Int)
 ·have hlen':l.length=r.length:=by omega
  simp only [hlen,ne_eq,not_true,decide_false,a0d,e0i,if_false]
  generalize hV:decide (l=r)=V
  refine Wp.loop (fun k ds g=>g=h∧∃ a b c f,∃ i:Nat,ds=[a,b,.int .i64 i,c,f]∧k+i=r.length∧decide (l.drop i=r.drop i)=V)
   (fun x=>x.2.2=h∧((x.1 = .ext 0∧V=true)∨(x.1 = .ret∧V=false∧nth 0 x.2.1 = .bool false))) r.length ⟨rfl,_,_,_,_,0,rfl,rfl,hV⟩ ?_ ?_
  ·rintro k ds g ⟨rfl,a,b,c,f,i,rfl,hk,hch⟩
   simp only [b3g,a0e,a0m,bs,e0h,a0o]
   refine Wp.dif ?_ ?_
   ·intro h0
    have h0:i<r.length:=dl_ h0
    have gl:l[i]?=some l[i]:=e0x (by omega)
    have gr:r[i]?=some r[i]:=e0x h0
    have hw:=wi_ i (by omega)
    rw [List.drop_eq_getElem_cons (show i<l.length by omega),List.drop_eq_getElem_cons h0] at hch
    generalize l[i]=x at gl hch
    generalize r[i]=y at gr hch
    obtain ⟨q1,a1,b1,_⟩:=b1G hd i x gl
    obtain ⟨q0,a0,b0,_⟩:=b1G he i y gr
    simp only [a1,a0,b1,b0,bs,b7l]
    by_cases hxy:x=y
    ·subst hxy
     simp only [ne_eq,not_true,decide_false,a0d,e0i,if_false,a0r,bs,hw]
     exact .some (.inl ⟨rfl,k - 1,by omega,rfl,_,_,_,_,i+1,rfl,by omega,by rw [← hch];simp [-bind_some]⟩)
    ·have hne:decide (x≠y)=true:=by simpa using hxy
     simp only [hne,a0d,if_true]
     exact .some (.inr ⟨by simp,rfl,.inr ⟨rfl,by rw [← hch];simp [-bind_some, hxy],rfl⟩⟩)
   ·intro h0
    have h0:r.length≤i:=by
     have:¬ (i:Int)<r.length:=by simpa using h0
     omega
    rw [List.drop_of_length_le h0,List.drop_of_length_le (by omega)] at hch
    exact .some (.inr ⟨by simp,rfl,.inl ⟨rfl,by rw [← hch];simp [-bind_some]⟩⟩)
  ·rintro ⟨x,ds,g⟩ ⟨h2,h3⟩
   simp only at h2 h3
   subst h2
   rcases h3 with ⟨rfl,hv⟩ | ⟨rfl,hv,hn⟩
   ·simp only [a0l,a0k,bs,a0j,hv]
    exact .some rfl
   ·simp only [a2t,a2m,a2H,a0e,bs,hn,a0j,hv]
    exact .some rfl
 ·have hne:decide ((l.length:Int)≠(r.length:Int))=true:=by simpa using hlen
  have hlr:decide (l=r)=false:=by
   simp [-bind_some];intro hh;subst hh;exact hlen rfl
  simp only [hne,a0d,if_true,a0j,hlr]
  exact .some rfl
theorem d5t (l:List (Str × Str)) (d:D) (fn:D) (pr:Str × Str→Bool) (h:Hp) (hd:RdF h l d) (hl:l.length≤9223372036854775807) (hf:∀ x,a3o R fn [.agg (fld x)] h=some (.bool (pr x),h)) {β:Type} (K:Out→Option β) (X:Int→Option β)
   (hX:∀ v r,K (.ret,.int .i64 v::r,h)=X v) (hY:∀ r,K (.ext 0,r,h)=X (-1)):∀ (suf pre:List (Str × Str)),l=pre++suf→∀ a b e f,
   (a0J (a5M d fn (.int .i64 l.length)) [a,b,.int .i64 pre.length,e,f] h).bind K=X (idx pr pre.length suf):=by
 intro suf
 induction suf with
 | nil =>
  rintro pre rfl a b e f
  rw [a1r]
  simp [-bind_some, a5M,hY,idx]
 | cons p suf ih =>
  rintro pre rfl a b e f
  have hw:IntKind.wrap .i64 ((pre.length:Int)+1)=(pre++[p]).length:=by
   rw [wrap_i64 (by omega) (by simp at hl;omega)];simp [-bind_some]
  have hlt:(pre.length:Int)<(pre++p::suf).length:=by simp;omega
  rw [a1r]
  generalize hL:pre++p::suf=L at *
  have hg:L[pre.length]?=some p:=by rw [← hL];exact a9R _ _ _
  obtain ⟨q,a1,b1,_⟩:=b1G hd _ _ hg
  by_cases hp:pr p=true
  ·simp [-bind_some, a5M,a1,b1,hlt,hf,hp,hX,idx]
  ·have:=ih (pre++[p]) (by simp [-bind_some, ← hL]) a (.int .i64 pre.length) (.bool true) (.bool (pr p))
   simp only [← hw] at this
   simp [-bind_some, a5M,a1,b1,hlt,hf,hp,idx]
   simp [-bind_some, hp] at this
   exact this
theorem d6d (l:List (Str × Str)) (d:D) (fn:D) (pr:Str × Str→Bool) (h:Hp) (hd:RdF h l d) (hl:l.length≤9223372036854775807) (hf:∀ x,a3o R fn [.agg (fld x)] h=some (.bool (pr x),h)) :
   R b7E [d,fn] h=some (.int .i64 (idx pr 0 l),h):=by
 rw [d1Q]
 simp only [c6v,bs,b0f hd,e0h]
 rw [show (0:Int)=(([]:List (Str × Str)).length:Int) from rfl,d5t l d fn pr h hd hl hf _ (fun v=>some (.int .i64 v,h)) (fun v r=>by simp) (fun r=>by simp) l [] rfl]
 rfl
theorem d5Y (p:Str × Str) (h:Hp):R b1d [.agg (fld p)] h=some (.bool (decide (2000<p.2.length)),h):=by
 rw [d1M]
 simp [-bind_some, c6s,fld]
 omega
theorem d5X (l:List (Str × Str)) (d:D) (h:Hp) (hd:RdF h l d) (hl:l.length≤9223372036854775807):R b7B [d,.fn (.func b1d) [] []] h=some (.bool (l.any fun p=>decide (2000<p.2.length)),h):=by
 rw [d1L]
 simp only [c6r,bs,d6d l d (.fn (.func b1d) [] []) (fun p=>decide (2000<p.2.length)) h hd hl (fun x=>by rw [a2V];exact d5Y x h),a2Y,a0j]
 rw [b2p]
theorem d5U (l:Lin) (h:Hp):R b1b [.agg (a1D l)] h=some (.bool (!(l.txt==[])),h):=by
 rw [d1H]
 simp [-bind_some, c6n,a1D]
theorem d5T (l:List Lin) (d:D) (h:Hp) (hd:SlOf 3 a1D l d) (hl:l.length≤9223372036854775807):R b7z [d,.fn (.func b1b) [] []] h=some (.bool (l.any fun p => !(p.txt==[])),h):=by
 rw [d1G]
 simp only [c6m,bs,c9q l d (.fn (.func b1b) [] []) (fun p => !(p.txt==[])) h hd hl (fun x=>by rw [a2V];exact d5U x h),a2Y,a0j]
 rw [b2p]
def evE (e:Ev):Int :=
 if (!plB e || !(decide (0≤e.a5)&&decide (e.a5≤253402300799999)))=true then 2
 else if e.a6<1∨Int.tmod 5040 e.a6≠0 then 21
 else if a2y e 2000≠0 then a2y e 2000
 else if 32<e.s7.length∨32<e.s8.length then 3
 else if (a2O e.fs).1≠0 then (a2O e.fs).1
 else if (a2O e.fs).2≠e.fs then 19
 else if ((a2O e.fs).2.any fun p=>decide (2000<p.2.length))=true then 3 else 0
theorem b9w (l:List (Str × Str)):(a2O l).2.length≤l.length:=by
 unfold a2O
 split
 ·simp [-bind_some]
 ·split
  ·split
   ·simp [-bind_some]
   ·simp [-bind_some, b2M]
  ·simp [-bind_some]
theorem c1E (l:List (Str × Str)):(a2O l).2.length≤32:=by
 by_cases h:32<l.length
 ·simp [-bind_some, a2O,h]
 ·have:=b9w l
  omega
theorem c9z (e:Ev) (h:Hp) (hsrt:∀ p:Hp,∃ d' h',R b1c [e.fd] p=some (.tup [d',.int .i64 (a2O e.fs).1],h')∧p.length≤h'.length∧(∀ q,q<p.length→h'[q]?=p[q]?)∧((a2O e.fs).1=0→RdF h' (a2O e.fs).2 d')):R b1a [.agg (evr e)] h=some (.int .i64 (evE e),h):=by
 apply Wp.val
 have sc:∀ (g:Hp) (v:Int),h.length≤g.length→(∀ q,q<h.length→g[q]?=h[q]?)→scope h g (.int .i64 v)=some (.int .i64 v,h):=fun g v h1 h2=>a0M (by simp) (.int _ _) h1 h2
 have k1:=c4R e.a5 0 253402300799999 h
 rw [d1D]
 simp only [c6j,a0V,bs,e0h,evL,c9A,a0j]
 have q5:a0a tab a0y 5 (.fptr (evr e))=some (.fptr [.int .i64 e.a5,.int .i64 e.a6,.str e.s7,.str e.s8,e.fd]):=id rfl
 have q6:a0a tab a0y 6 (.fptr (evr e))=some (.fptr [.int .i64 e.a6,.str e.s7,.str e.s8,e.fd]):=id rfl
 have q7:a0a tab a0y 7 (.fptr (evr e))=some (.fptr [.str e.s7,.str e.s8,e.fd]):=id rfl
 have q8:a0a tab a0y 8 (.fptr (evr e))=some (.fptr [.str e.s8,e.fd]):=id rfl
 have q9:a0a tab a0y 9 (.fptr (evr e))=some (.fptr [e.fd]):=id rfl
 unfold evE
 generalize hb1:plB e=b1
 generalize hb2:(decide (0≤e.a5)&&decide (e.a5≤253402300799999))=b2 at k1 ⊢
 have first:∀ {β:Type} (f:D→D × Hp→D→Option β) (Q:β→Prop),(∀ x p t,p.2=h→t = .bool (!b1 || !b2)→Wp (f x p t) Q)→Wp ((dUn .not (.bool b1)).bind fun t9=>(gd t9 false (some (.fptr [.int .i64 e.a5,.int .i64 e.a6,.str e.s7,.str e.s8,e.fd]))).bind fun t11=>(gd t9 false (a0c tab h ty3 t11)).bind fun t12=>(gdW t9 false h (R a8I [t12,.int .i64 0,.int .i64 253402300799999] h)).bind fun p13=>(gd t9 false (dUn .not p13.1)).bind fun t14=>(a0R t9 (.bool true) t14).bind fun t15=>f t9 p13 t15) Q:=fun f Q hk=>by
  cases b1
  ·simp only [a1A,e0t,bs,a0v,a0Y,reduceCtorEq,if_false,a0g,if_true]
   exact hk _ _ _ rfl rfl
  ·simp only [a1A,e0s,bs,a0v,a0Y,if_true,ld3,k1,a0g,e0i,if_false]
   exact hk _ _ _ rfl (by simp)
 simp only [q5,q6,q7,q8,q9]
 refine first _ _ fun x p t hp ht=>?_
 subst ht
 obtain ⟨px,p⟩:=p
 simp only at hp
 subst hp
 clear first
 simp only [a0d]
 by_cases c1:(!b1 || !b2)=true
 ·simp only [c1,if_true,sc _ _ (Nat.le_refl _) (fun _ _=>rfl)]
  exact .some rfl
 simp only [c1,if_false,e0i,ld3,ld9,b8i,bs,a0o,a5I,a0x,a4S,a0A]
 by_cases c2:e.a6<1
 ·simp only [c2,true_or,decide_true,if_true,a0v,reduceCtorEq,if_false,e0j,bs,a0g,a0d,sc _ _ (Nat.le_refl _) (fun _ _=>rfl)]
  exact .some rfl
 have c20:¬ e.a6=0:=by omega
 by_cases c3n:¬ Int.tmod 5040 e.a6=0
 ·have c3:=c3n
  simp only [c2,c20,c3,ne_eq,not_false_eq_true,or_true,decide_true,decide_false,if_true,a0v,if_false,e0i,bs,a0g,a0d,ld3,a4S,a0A,sc _ _ (Nat.le_refl _) (fun _ _=>rfl)]
  exact .some rfl
 have c3:Int.tmod 5040 e.a6=0:=Decidable.not_not.1 c3n
 simp only [c2,c20,c3,ne_eq,not_true,or_self,decide_false,if_true,a0v,if_false,e0i,bs,a0g,a0d,ld3,a4S,a0A,c9B]
 generalize hL:a2y e 2000=L
 by_cases c4n:¬ L=0
 ·have c4:=c4n
  simp only [c4,ne_eq,not_false_eq_true,decide_true,if_true,sc _ _ (Nat.le_refl _) (fun _ _=>rfl)]
  exact .some rfl
 have c4:L=0:=Decidable.not_not.1 c4n
 subst c4
 simp only [ne_eq,not_true,decide_false,e0i,if_false,if_true]
 by_cases c5:32<e.s7.length
 ·have c5':(32:Int)<(e.s7.length:Int):=by omega
  simp only [c5,c5',true_or,decide_true,if_true,a0v,reduceCtorEq,if_false,e0j,bs,a0g,a0d,sc _ _ (Nat.le_refl _) (fun _ _=>rfl)]
  exact .some rfl
 have c5':¬ (32:Int)<(e.s7.length:Int):=by omega
 by_cases c6:32<e.s8.length
 ·have c6':(32:Int)<(e.s8.length:Int):=by omega
  simp only [c5,c5',c6,c6',or_true,decide_true,decide_false,if_true,a0v,if_false,e0i,bs,ld9,a5I,a0x,a0g,sc _ _ (Nat.le_refl _) (fun _ _=>rfl)]
  exact .some rfl
 have c6':¬ (32:Int)<(e.s8.length:Int):=by omega
 obtain ⟨d',h',hs,hl',hb',hr'⟩:=hsrt p
 simp only [c5,c5',c6,c6',or_self,decide_false,if_true,a0v,if_false,e0i,bs,ld9,a5I,a0x,a0g,a0d,hs,a0I,e0k,e0l]
 have hsl:=c1E e.fs
 generalize hS:a2O e.fs=S at hs hr' hsl
 obtain ⟨v,s⟩:=S
 simp only at hr' hsl ⊢
 by_cases c7n:¬ v=0
 ·have c7:=c7n
  simp only [c7,ne_eq,not_false_eq_true,decide_true,if_true,sc _ _ hl' hb',a0d,a0A,bs]
  exact .some rfl
 have c7:v=0:=Decidable.not_not.1 c7n
 subst c7
 have hr:=hr' rfl
 have hfd:RdF h' e.fs e.fd := .inl e.hfd
 simp only [ne_eq,not_true,decide_false,e0i,if_false,a0d,a0A,d5W s e.fs d' e.fd h' hr hfd (by omega),bs,a1A,d5X s d' h' hr (by omega)]
 by_cases c8n:¬ s=e.fs
 ·have c8:=c8n
  simp only [c8,not_false_eq_true,decide_false,e0t,if_true,sc _ _ hl' hb',a0d,a0A,bs]
  exact .some rfl
 have c8:s=e.fs:=Decidable.not_not.1 c8n
 subst c8
 simp only [not_true,decide_true,e0s,if_false,e0i,sc _ _ hl' hb',a0d,a0A,bs]
 split
 ·exact .some rfl
 ·exact .some rfl
theorem d5S (e:Ev) (h:Hp) (hf:e.fs.length≤20):R b1a [.agg (evr e)] h=some (.int .i64 (evE e),h):=c9z e h fun p=>d5V e.fs e.fd p e.hfd hf
def itE (i:It):Int :=
 if i.r=[] then evE i.e
 else if 32<i.r.length then 3
 else if plB i.e=false then 2
 else if a2y i.e 60000=9∨a2y i.e 60000=4∨a2y i.e 60000=19 then a2y i.e 60000
 else if i.e.a5≠0∨i.e.a6≠0∨i.e.s7≠[]∨i.e.s8≠[]∨i.e.fs.length≠0∨(i.e.ls.any fun p => !(p.txt==[]))=true then 19 else 0
theorem c9y (i:It) (h:Hp) (hc:R b1a [.agg (evr i.e)] h=some (.int .i64 (evE i.e),h)):R a6h [.agg (itr i)] h=some (.int .i64 (itE i),h):=by
 have hbx:a5U 10 (.agg (evr i.e))=some (.fptr (evr i.e)):=a3y 10 _ rfl
 have q4:a0a tab a0y 4 (.fptr (evr i.e))=some (.fptr [i.e.ld,.int .i64 i.e.a5,.int .i64 i.e.a6,.str i.e.s7,.str i.e.s8,i.e.fd]):=id rfl
 have q5:a0a tab a0y 5 (.fptr (evr i.e))=some (.fptr [.int .i64 i.e.a5,.int .i64 i.e.a6,.str i.e.s7,.str i.e.s8,i.e.fd]):=id rfl
 have q6:a0a tab a0y 6 (.fptr (evr i.e))=some (.fptr [.int .i64 i.e.a6,.str i.e.s7,.str i.e.s8,i.e.fd]):=id rfl
 have q7:a0a tab a0y 7 (.fptr (evr i.e))=some (.fptr [.str i.e.s7,.str i.e.s8,i.e.fd]):=id rfl
 have q8:a0a tab a0y 8 (.fptr (evr i.e))=some (.fptr [.str i.e.s8,i.e.fd]):=id rfl
 have q9:a0a tab a0y 9 (.fptr (evr i.e))=some (.fptr [i.e.fd]):=id rfl
 rw [d1C]
 simp only [c6i,a0V,bs,c5A,c5B,c5C,evL,hbx,a1E,a0j]
 unfold itE
 by_cases c0:i.r=[]
 ·simp only [c0,beq_self_eq_true,a0d,if_true,hc,bs]
 have c0':(i.r==[])=false:=by simpa using c0
 simp only [c0,c0',a0d,e0i,if_false,a5I,bs,a0x]
 by_cases c1:32<i.r.length
 ·have c1':(32:Int)<(i.r.length:Int):=by omega
  simp only [c1,c1',decide_true,if_true]
 have c1':¬ (32:Int)<(i.r.length:Int):=by omega
 simp only [c1,c1',decide_false,e0i,if_false,c9A,bs,a1A]
 cases hb:plB i.e
 ·simp only [e0t,a0d,if_true]
 simp only [e0s,a0d,e0i,e0j,if_false,c9B,bs,a0P]
 generalize a2y i.e 60000=L
 by_cases c2:L=9
 ·subst c2
  simp [-bind_some]
 by_cases c3:L=4
 ·subst c3
  simp [-bind_some]
 by_cases c4:L=19
 ·subst c4
  simp [-bind_some]
 simp only [c2,c3,c4,or_self,decide_false,a0v,if_true,bs,a0g,a0d,e0i,if_false,q5,q6,q7,q8,q9,q4,ld3,ld9,b8i,b1R,a0A]
 have hfl:(i.e.fs.length:Int)=0↔i.e.fs.length=0:=by omega
 have h49:=d5T i.e.ls i.e.ld h i.e.hld i.e.hll
 generalize (i.e.ls.any fun p => !(p.txt==[]))=bb at h49 ⊢
 by_cases d1n:¬ i.e.a5=0
 ·simp only [c2,c3,c4,a0P,d1n,ne_eq,not_true,not_false_eq_true,true_or,or_true,false_or,or_false,decide_true,decide_false,a0v,a0Y,a2x,a5y,reduceCtorEq,if_true,if_false,e0i,e0j,bs,a0g,a0d,ld3,ld9,b8i,b1R,a0A,a2F,a2r i.e.hfd,hfl,h49,beq_self_eq_true,e0s,e0t,or_self]
 have d1:i.e.a5=0:=Decidable.not_not.1 d1n
 by_cases d2n:¬ i.e.a6=0
 ·simp only [c2,c3,c4,a0P,d1,d2n,ne_eq,not_true,not_false_eq_true,true_or,or_true,false_or,or_false,decide_true,decide_false,a0v,a0Y,a2x,a5y,reduceCtorEq,if_true,if_false,e0i,e0j,bs,a0g,a0d,ld3,ld9,b8i,b1R,a0A,a2F,a2r i.e.hfd,hfl,h49,beq_self_eq_true,e0s,e0t,or_self]
 have d2:i.e.a6=0:=Decidable.not_not.1 d2n
 by_cases d3n:¬ i.e.s7=[]
 ·have d3b:(i.e.s7==[])=false:=by simpa using d3n
  simp only [c2,c3,c4,a0P,d1,d2,d3n,d3b,ne_eq,not_true,not_false_eq_true,true_or,or_true,false_or,or_false,decide_true,decide_false,a0v,a0Y,a2x,a5y,reduceCtorEq,if_true,if_false,e0i,e0j,bs,a0g,a0d,ld3,ld9,b8i,b1R,a0A,a2F,a2r i.e.hfd,hfl,h49,beq_self_eq_true,e0s,e0t,or_self]
 have d3:i.e.s7=[]:=Decidable.not_not.1 d3n
 by_cases d4n:¬ i.e.s8=[]
 ·have d4b:(i.e.s8==[])=false:=by simpa using d4n
  simp only [c2,c3,c4,a0P,d1,d2,d3,d4n,d4b,ne_eq,not_true,not_false_eq_true,true_or,or_true,false_or,or_false,decide_true,decide_false,a0v,a0Y,a2x,a5y,reduceCtorEq,if_true,if_false,e0i,e0j,bs,a0g,a0d,ld3,ld9,b8i,b1R,a0A,a2F,a2r i.e.hfd,hfl,h49,beq_self_eq_true,e0s,e0t,or_self]
 have d4:i.e.s8=[]:=Decidable.not_not.1 d4n
 by_cases d5n:¬ i.e.fs.length=0
 ·simp only [c2,c3,c4,a0P,d1,d2,d3,d4,d5n,ne_eq,not_true,not_false_eq_true,true_or,or_true,false_or,or_false,decide_true,decide_false,a0v,a0Y,a2x,a5y,reduceCtorEq,if_true,if_false,e0i,e0j,bs,a0g,a0d,ld3,ld9,b8i,b1R,a0A,a2F,a2r i.e.hfd,hfl,h49,beq_self_eq_true,e0s,e0t,or_self]
 have d5:i.e.fs.length=0:=Decidable.not_not.1 d5n
 simp only [c2,c3,c4,a0P,d1,d2,d3,d4,d5,ne_eq,not_true,not_false_eq_true,true_or,or_true,false_or,or_false,decide_true,decide_false,a0v,a0Y,a2x,a5y,reduceCtorEq,if_true,if_false,e0i,e0j,bs,a0g,a0d,ld3,ld9,b8i,b1R,a0A,a2F,a2r i.e.hfd,hfl,h49,beq_self_eq_true,e0s,e0t,or_self]
 cases bb <;> simp [-bind_some, h49]
theorem c4Q (i:It) (h:Hp) (hf:i.e.fs.length≤20):R a6h [.agg (itr i)] h=some (.int .i64 (itE i),h):=c9y i h (d5S i.e h hf)
theorem c4A (a b:Ev):decide (orI [a5b a.a5 b.a5,a5b a.a0 b.a0,a5b a.a1 b.a1,a5b a.a2 b.a2]<0)=a2S a b:=by
 have key:∀ x y:Int,(a5b x y=0↔x=y)∧(a5b x y<0↔x<y):=fun x y=>by
  unfold a5b
  split
  ·constructor <;> constructor <;> intro h <;> omega
  ·split
   ·constructor <;> constructor <;> intro h <;> omega
   ·constructor <;> constructor <;> intro h <;> omega
 simp only [orI,key,a2S]
 by_cases h5:a.a5=b.a5
 ·by_cases h0:a.a0=b.a0
  ·by_cases h1:a.a1=b.a1
   ·by_cases h2:a.a2=b.a2
    ·simp [-bind_some, h5,h0,h1,h2]
    ·simp [-bind_some, h5,h0,h1,h2,key]
   ·simp [-bind_some, h5,h0,h1,key]
  ·simp [-bind_some, h5,h0,key]
 ·simp [-bind_some, h5,key]
theorem c4P (a b:Ev) (h:Hp):R b4m [.agg (evr a),.agg (evr b)] h=some (.bool (a2S a b),h):=by
 have s4:SlOf 1 inr [a5b a.a5 b.a5,a5b a.a0 b.a0,a5b a.a1 b.a1,a5b a.a2 b.a2] (.sl 1 true [[.int .i64 (a5b a.a5 b.a5)],[.int .i64 (a5b a.a0 b.a0)],[.int .i64 (a5b a.a1 b.a1)],[.int .i64 (a5b a.a2 b.a2)]]) := .inr ⟨true,rfl⟩
 rw [d1B]
 simp only [c6h,bs,a0V,evr,b7e,b7f,b0W,b7g,ld3,s90,c7F,s89 _ _ h s4 (by simp),a0o,a1v,a0j,c4A]
theorem b3H:∀ (a b:Str),Lib.compareBytes a b = - Lib.compareBytes b a
 | [],[]=>rfl
 | [],_::_=>rfl
 | _::_,[]=>rfl
 | x::a,y::b=>by
  have ih:=b3H a b
  simp only [Lib.compareBytes]
  by_cases h1:x<y
  ·have h2:¬ y<x:=by
     have:=UInt8.lt_iff_toNat_lt.1 h1
     intro hh
     have:=UInt8.lt_iff_toNat_lt.1 hh
     omega
   simp [-bind_some, h1,h2]
  ·by_cases h2:y<x
   ·simp [-bind_some, h1,h2]
   ·simp [-bind_some, h1,h2,ih]
theorem c3E {l:List (Str × Str)} (h:Asc l):srt l=l:=by
 have hd:∀ j,dn cF 0 j l=l:=fun j=>by
  cases j with
  | zero=>rfl
  | succ j =>
   unfold dn
   split
   ·rename_i x y hx hy
    split
    ·rename_i hc
     exfalso
     have h1:=(h j y x hy hx).1
     have h2:=(b6B y.1 x.1).2 h1
     have h3:=b3H x.1 y.1
     have h4:=hc.2
     unfold cF at h4
     omega
    ·rfl
   ·rfl
 have hi:∀ n i,isr cF 0 i n l=l:=fun n=>by
  induction n with
  | zero=>intro i;rfl
  | succ n ih=>intro i;unfold isr;rw [hd];exact ih _
 exact hi _ _
theorem b6j:∀ {l:List (Str × Str)},Asc l→c0a l=false
 | [],_=>rfl
 | [_],_=>rfl
 | x::y::r,h=>by
  unfold c0a
  have h0:=(h 0 x y rfl rfl).2
  have h1:(y.1==x.1)=false:=by simp;exact fun hh=>h0 hh.symm
  rw [h1,Bool.false_or]
  exact b6j fun i p q hp hq=>h (i+1) p q hp hq
theorem c0d {l:List (Str × Str)} (h:Asc l) (hl:l.length≤32) (hn:∀ p∈l,a1H p.1=true):a2O l=(0,l):=by
 have h32:¬ 32<l.length:=by omega
 have ha:l.all (fun p=>a1H p.1)=true:=List.all_eq_true.2 hn
 simp only [a2O,h32,if_false,ha,if_true,c3E h,b6j h,e0i]
theorem a7X (a b:Ev):a2S a b=true↔(a.a5<b.a5∨(a.a5=b.a5∧(a.a0<b.a0∨(a.a0=b.a0∧(a.a1<b.a1∨(a.a1=b.a1∧a.a2<b.a2)))))):=by
 unfold a2S
 split
 ·split
  ·split
   ·simp [-bind_some];omega
   ·simp [-bind_some];omega
  ·simp [-bind_some];omega
 ·simp [-bind_some];omega
theorem b8p (a b:Ev) (h1:a2S a b=false) (h2:a2S b a=false):a.a5=b.a5∧a.a0=b.a0∧a.a1=b.a1∧a.a2=b.a2:=by
 have h1:¬ a2S a b=true:=by rw [h1];simp [-bind_some]
 have h2:¬ a2S b a=true:=by rw [h2];simp [-bind_some]
 rw [a7X] at h1 h2
 omega
structure Tal where
 h:Int
 r:Str
 n:Int
def a1F (t:Tal):List D:=[.int .i64 t.h,.str t.r,.int .i64 t.n]
theorem b0o (m:Tal) (h:Hp):a0c tab h a1k (.fptr (a1F m))=some (.agg (a1F m)):=id rfl
theorem a2P (n0:Nat) (h:Hp) (n:Nat) (p:Tal):∀ d∈a1F p,frz n0 h n d=d:=by simp [-bind_some, a1F]
theorem a3t (n:Nat) (p:Tal):∀ d∈a1F p,Ok n d:=by
 intro d hd
 simp [-bind_some, a1F] at hd
 rcases hd with rfl | rfl | rfl <;> constructor
def c2d (a b:Str):Int:=if Op.bytesLess a b=true then -1 else if a=b then 0 else 1
theorem d9F (s:Str) (h:Hp):R c0U [.str s] h=some (.bool false,h):=by
 rw [d7D]
 simp [-bind_some, d7a]
theorem s91 (a b:Str) (h:Hp):R d4d [.str a,.str b] h=some (.int .i64 (c2d a b),h):=by
 rw [e91]
 simp only [F91,bs,d9F,a0d,e0i,if_false,b6K,d7r,c2d,a0j]
 cases h0:Op.bytesLess a b
 ·by_cases h1:a=b <;> simp [-bind_some, h1]
 ·simp [-bind_some]
def a5X (a b:Tal):Int:=orI [a5b a.h b.h,c2d a.r b.r]
theorem s88 (a b:Tal) (h:Hp):R d0v [.agg (a1F a),.agg (a1F b)] h=some (.int .i64 (a5X a b),h):=by
 have hb:∀ n0 n1:Int,a0W tab a6X 2 [0,1] [.int .i64 n0,.int .i64 n1]=some (.sl 1 true ([n0,n1].map inr)):=fun n0 n1=>id rfl
 have h89:=s89 [a5b a.h b.h,c2d a.r b.r] (.sl 1 true [inr (a5b a.h b.h),inr (c2d a.r b.r)]) h (SlOf.mk 1 inr [a5b a.h b.h,c2d a.r b.r] true) (by simp)
 rw [e88]
 simp [-bind_some, F88,a1F,s90,s91,hb,h89,a5X]
def RdT (h:Hp) (l:List Tal) (d:D):Prop:=SlOf 3 a1F l d∨∃ ob,d = .msl 3 ob 0 l.length∧h[ob]?=some (.row a1k 3 (l.map a1F))
theorem c4M {h:Hp} {l:List Tal} {d:D} (hd:RdT h l d):a0t tab a1C d=some (.int .i64 l.length):=by
 rcases hd with hd | ⟨ob,rfl,_⟩
 ·exact a5j hd
 ·exact c8N _ _ _ _
theorem c2P {h:Hp} {l:List Tal} {d:D} (hd:RdT h l d) (i:Nat) (p:Tal) (hp:l[i]?=some p):∃ q,a0b tab a1C d (.int .i64 i)=some q∧a0c tab h a1k q=some (.agg (a1F p)):=by
 have hi:=(e0y.1 hp).1
 rcases hd with hd | ⟨ob,rfl,ho⟩
 ·exact ⟨.fptr (a1F p),by rw [b8a hd];simp [-bind_some, hp],b0o p h⟩
 ·have hr:(l.map a1F)[i]?=some (a1F p):=by rw [e0v,hp];rfl
  have hh:(0:Int)≤(i:Int)∧(i:Int)<(l.length:Int):=by omega
  refine ⟨.ptr ob i 0,by rw [c4k];simp [-bind_some, hh],?_⟩
  rw [c8H,a0F ho,hr];rfl
theorem s87 (l:List Tal) (d:D) (t:Tal) (fn:D) (c:Tal→Int) (h:Hp) (hd:RdT h l d) (hl:l.length≤1000000) (hf:∀ x,a3o R fn [.agg (a1F x),.agg (a1F t)] h=some (.int .i64 (c x),h))
   (k:Nat) (hk:k≤l.length) (h1:∀ i x,l[i]?=some x→i<k→c x<0) (h2:∀ i x,l[i]?=some x→k≤i→0≤c x) :
   R d4c [d,.agg (a1F t),fn] h=some (.tup [.int .i64 k,.bool (match l[k]? with | some x=>decide (c x=0) | none=>false)],h):=by
 apply Wp.val
 rw [e87]
 simp only [F87,a0V,bs,e0h,c4M hd]
 refine Wp.loop (fun n ds g=>g=h∧∃ a b e,∃ lo hi:Nat,ds=[.int .i64 lo,.int .i64 hi,a,b,e]∧lo≤k∧k≤hi∧hi≤l.length∧n=hi - lo)
   (fun x=>x.1 = .ext 0∧x.2.2=h∧nth 0 x.2.1 = .int .i64 k) l.length ⟨rfl,_,_,_,0,l.length,rfl,by omega,hk,Nat.le_refl _,rfl⟩ ?_ ?_
 ·rintro n ds g ⟨rfl,a,b,e,lo,hi,rfl,hlo,hhi,hle,rfl⟩
  simp only [c1R,a0e,a0m,bs,e0h,a0o]
  refine Wp.dif ?_ ?_
  ·intro h0
   have h0:lo<hi:=dl_ h0
   have hw:IntKind.wrap .i64 ((lo:Int)+hi)=((lo+hi:Nat):Int):=by
    rw [wrap_i64 (by omega) (by omega)];omega
   have hw2:IntKind.wrap .u64 ((lo+hi:Nat):Int)=((lo+hi:Nat):Int):=by
    unfold IntKind.wrap
    simp [-bind_some, IntKind.signed,IntKind.bits,IntKind.min,IntKind.max]
    omega
   have hw3:(((lo+hi:Nat):Int)).fdiv (2 ^ (min (Int.toNat 1) IntKind.u64.bits))=(((lo+hi) / 2:Nat):Int):=by
    rw [show (2:Int) ^ (min (Int.toNat 1) IntKind.u64.bits)=2 by decide]
    rw [Int.fdiv_eq_ediv_of_nonneg _ (by omega)]
    omega
   have hw4:IntKind.wrap .i64 (((lo+hi) / 2:Nat):Int)=(((lo+hi) / 2:Nat):Int):=wrap_i64 (by omega) (by omega)
   have hw5:IntKind.wrap .i64 ((((lo+hi) / 2:Nat):Int)+1)=(((lo+hi) / 2+1:Nat):Int):=by
    rw [wrap_i64 (by omega) (by omega)];omega
   have hm:(lo+hi) / 2<l.length:=by omega
   have hm1:lo≤(lo+hi) / 2:=by omega
   have hm2:(lo+hi) / 2<hi:=by omega
   generalize (lo+hi) / 2=mid at *
   have hg:l[mid]?=some l[mid]:=e0x hm
   generalize l[mid]=x at hg
   obtain ⟨q0,i0,i1⟩:=c2P hd mid x hg
   simp only [a0r,hw,b1Z,b6I,bs,hw2,a2E,show ¬ (1:Int)<0 by omega,if_false,hw3,hw4,i0,i1,b0o,hf,a0o]
   by_cases hc:c x<0
   ·have hkm:mid<k:=by
      rcases Nat.lt_or_ge mid k with hh | hh
      ·exact hh
      ·have:=h2 mid x hg hh
       omega
    simp only [hc,decide_true,a0d,if_true,bs,hw5,a1u,a0e,a0m]
    exact .some (.inl ⟨rfl,hi - (mid+1),by omega,rfl,_,_,_,mid+1,hi,rfl,by omega,hhi,hle,rfl⟩)
   ·have hkm:k≤mid:=by
      rcases Nat.lt_or_ge mid k with hh | hh
      ·exact absurd (h1 mid x hg hh) hc
      ·exact hh
    simp only [hc,decide_false,a0d,e0i,if_false,bs,a1u,a0e,a0m]
    exact .some (.inl ⟨rfl,mid - lo,by omega,rfl,_,_,_,lo,mid,rfl,hlo,hkm,by omega,rfl⟩)
  ·intro h0
   have h0:lo=k:=by
    have:¬ (lo:Int)<hi:=by simpa using h0
    omega
   subst h0
   exact .some (.inr ⟨by simp,rfl,rfl,rfl⟩)
 ·rintro ⟨ex,ds,g⟩ ⟨q1,q2,q3⟩
  simp only at q1 q2 q3
  subst q1;subst q2
  simp only [a0l,a0k,a0e,q3,bs,a0o]
  by_cases hkl:k<l.length
  ·have hg:l[k]?=some l[k]:=e0x hkl
   have hlt:(k:Int)<l.length:=by omega
   generalize l[k]=x at hg
   obtain ⟨q0,i0,i1⟩:=c2P hd k x hg
   simp only [hlt,decide_true,a0v,if_true,bs,i0,i1,b0o,a0Y,hf,a0P,a0g,a1d,hg]
   exact .some rfl
  ·have hg:l[k]?=none:=List.getElem?_eq_none (by omega)
   have hlt:¬ (k:Int)<l.length:=by omega
   simp only [hlt,decide_false,a0v,e0i,if_false,bs,a0Y,a0g,a1d,hg]
   exact .some rfl
theorem s80 (l:List Tal) (d:D) (hst:Int) (rule:Str) (h:Hp) (hd:RdT h l d) (hl:l.length≤1000000)
   (k:Nat) (hk:k≤l.length) (h1:∀ i x,l[i]?=some x→i<k→a5X x ⟨hst,rule,0⟩<0) (h2:∀ i x,l[i]?=some x→k≤i→0≤a5X x ⟨hst,rule,0⟩) :
   R d3Z [d,.int .i64 hst,.str rule] h=some (.tup [.int .i64 k,.bool (match l[k]? with | some x=>decide (a5X x ⟨hst,rule,0⟩=0) | none=>false)],h):=by
 have hb:a0U tab a1k [0,1] [.int .i64 hst,.str rule]=some (.agg (a1F ⟨hst,rule,0⟩)):=id rfl
 rw [e80]
 simp only [F80,bs,hb,e0h]
 rw [s87 l d ⟨hst,rule,0⟩ (.fn (.func d0v) [] []) (fun x=>a5X x ⟨hst,rule,0⟩) h hd hl (fun x=>by rw [a2V];exact s88 x _ h) k hk h1 h2]
 rfl
theorem b6k:∀ a:Str,Op.bytesLess a a=false
 | []=>rfl
 | x::a=>by simp [-bind_some, Op.bytesLess,b6k a]
theorem c7w:∀ {a b c:Str},Op.bytesLess a b=true→Op.bytesLess b c=true→Op.bytesLess a c=true
 | _,[],_,h,_=>by cases ‹Str› <;> simp [-bind_some, Op.bytesLess] at h
 | _,_::_,[],_,h=>by simp [-bind_some, Op.bytesLess] at h
 | [],_::_,_::_,_,_=>rfl
 | x::a,y::b,z::c,h,k=>by
  simp only [Op.bytesLess,Bool.or_eq_true,decide_eq_true_eq,Bool.and_eq_true,beq_iff_eq] at h k ⊢
  rcases h with h | ⟨rfl,h⟩
  ·rcases k with k | ⟨rfl,k⟩
   ·exact .inl (UInt8.lt_trans h k)
   ·exact .inl h
  ·rcases k with k | ⟨rfl,k⟩
   ·exact .inl k
   ·exact .inr ⟨rfl,c7w h k⟩
theorem c2a:∀ {a b:Str},Op.bytesLess a b=false→a≠b→Op.bytesLess b a=true
 | [],[],_,h=>absurd rfl h
 | [],_::_,h,_=>by simp [-bind_some, Op.bytesLess] at h
 | _::_,[],_,_=>rfl
 | x::a,y::b,h,k=>by
  simp only [Op.bytesLess,Bool.or_eq_false_iff,decide_eq_false_iff_not,Bool.and_eq_false_iff,beq_eq_false_iff_ne] at h
  simp only [Op.bytesLess,Bool.or_eq_true,decide_eq_true_eq,Bool.and_eq_true,beq_iff_eq]
  by_cases hxy:x=y
  ·subst hxy
   refine .inr ⟨rfl,c2a (h.2.resolve_left fun hh=>hh rfl) fun hh=>k (by rw [hh])⟩
  ·left
   have h1:=mt UInt8.lt_iff_toNat_lt.2 h.1
   have h2:x.toNat≠y.toNat:=fun hh=>hxy (UInt8.toNat_inj.1 hh)
   exact UInt8.lt_iff_toNat_lt.2 (by omega)
def kl (a b:Tal):Prop:=a.h<b.h∨(a.h=b.h∧Op.bytesLess a.r b.r=true)
theorem a3E (a b:Tal):a5X a b<0↔kl a b:=by
 unfold a5X orI orI orI a5b c2d kl
 by_cases h1:a.h<b.h
 ·simp [-bind_some, h1]
 ·by_cases h2:b.h<a.h
  ·have h3:¬ a.h=b.h:=by omega
   simp [-bind_some, h1,h2,h3]
  ·have h3:a.h=b.h:=by omega
   cases h4:Op.bytesLess a.r b.r
   ·by_cases h5:a.r=b.r <;> simp [-bind_some, h3,h5]
   ·simp [-bind_some, h3]
theorem a3Z (a b:Tal):a5X a b=0↔a.h=b.h∧a.r=b.r:=by
 unfold a5X orI orI orI a5b c2d
 by_cases h1:a.h<b.h
 ·have h3:¬ a.h=b.h:=by omega
  simp [-bind_some, h1,h3]
 ·by_cases h2:b.h<a.h
  ·have h3:¬ a.h=b.h:=by omega
   simp [-bind_some, h1,h2,h3]
  ·have h3:a.h=b.h:=by omega
   cases h4:Op.bytesLess a.r b.r
   ·by_cases h5:a.r=b.r <;> simp [-bind_some, h3,h5]
   ·have h5:¬ a.r=b.r:=fun hh=>by rw [hh,b6k] at h4;cases h4
    simp [-bind_some, h3,h5]
theorem c4p {a b c:Tal} (h:kl a b) (k:kl b c):kl a c:=by
 unfold kl at *
 rcases h with h | ⟨h,h'⟩ <;> rcases k with k | ⟨k,k'⟩
 ·left;omega
 ·left;omega
 ·left;omega
 ·exact .inr ⟨by omega,c7w h' k'⟩
theorem c8A {a b:Tal} (h:¬ kl a b) (k:¬ (a.h=b.h∧a.r=b.r)):kl b a:=by
 unfold kl at *
 by_cases h1:a.h=b.h
 ·right
  refine ⟨h1.symm,c2a ?_ fun hh=>k ⟨h1,hh⟩⟩
  cases h2:Op.bytesLess a.r b.r
  ·rfl
  ·exact absurd (.inr ⟨h1,h2⟩) h
 ·left
  have:¬ a.h<b.h:=fun hh=>h (.inl hh)
  omega
def a6M (l:List Tal):Prop:=l.Pairwise kl
def kT (key:Tal):List Tal→Nat
 | []=>0
 | x::r=>if a5X x key<0 then kT key r+1 else 0
theorem b5L (key:Tal):∀ l,kT key l≤l.length
 | []=>Nat.le_refl _
 | x::r=>by
  unfold kT
  split
  ·have:=b5L key r;simp [-bind_some];omega
  ·simp [-bind_some]
theorem b8e (key:Tal):∀ (l:List Tal) (i:Nat) (x:Tal),l[i]?=some x→i<kT key l→a5X x key<0
 | y::r,0,x,hx,hi=>by
  unfold kT at hi
  simp at hx
  subst hx
  split at hi
  ·assumption
  ·omega
 | y::r,i+1,x,hx,hi=>by
  unfold kT at hi
  simp at hx
  split at hi
  ·exact b8e key r i x hx (by omega)
  ·omega
theorem c1i (key:Tal):∀ (l:List Tal),a6M l→∀ (i:Nat) (x:Tal),l[i]?=some x→kT key l≤i→0≤a5X x key
 | y::r,hs,i,x,hx,hi=>by
  unfold kT at hi
  have hs':=List.pairwise_cons.1 hs
  split at hi
  ·cases i with
   | zero=>omega
   | succ i=>exact c1i key r hs'.2 i x (by simpa using hx) (by omega)
  ·rename_i hc
   rcases Int.lt_or_le (a5X x key) 0 with h1 | h1
   ·exfalso
    cases i with
    | zero=>simp at hx;subst hx;exact hc h1
    | succ i =>
     have hx':r[i]?=some x:=by simpa using hx
     exact hc ((a3E _ _).2 (c4p (hs'.1 x (e0w hx')) ((a3E _ _).1 h1)))
   ·exact h1
def a5P (l:List Tal) (hst:Int) (rule:Str) (n:Int) (k:Nat):List Tal:=match l[k]? with
 | some x=>if a5X x ⟨hst,rule,0⟩=0 then l.set k ⟨x.h,x.r,IntKind.wrap .i64 (x.n+n)⟩ else l.take k++[⟨hst,rule,IntKind.wrap .i64 (0+n)⟩]++l.drop k
 | none=>l.take k++[⟨hst,rule,IntKind.wrap .i64 (0+n)⟩]++l.drop k
def a3g (l:List Tal) (hst:Int) (rule:Str) (n:Int):List Tal:=if n<1 then l else a5P l hst rule n (kT ⟨hst,rule,0⟩ l)
theorem u79 (l:List Tal) (d:D) (h:Hp) (hd:SlOf 3 a1F l d) (hl:l.length≤1000000):∃ d' h',R c8b [d] h=some (d',h')∧h.length≤h'.length∧(∀ q,q<h.length→h'[q]?=h[q]?) ∧
  ((l=[]∧(d' = .nils∨d' = .sl 3 true []))∨∃ ob,h.length≤ob∧d' = .msl 3 ob 0 l.length∧h'[ob]?=some (.row a1k 3 (l.map a1F))):=by
 rw [e79]
 rcases hd with ⟨rfl,rfl⟩ | ⟨b,rfl⟩
 ·exact ⟨.nils,h,by
    have hne:a0i tab .eql a1C .nils .nils=some (.bool true):=id rfl
    simp [-bind_some, F79,hne],Nat.le_refl _,fun _ _=>rfl,.inl ⟨rfl,.inl rfl⟩⟩
 ·obtain ⟨x',h',e,hl',hq,ho⟩:=a5S (T:=tab) (t:=a1C) (i:=ti58) (j:=ti106) (h:=h) (id rfl) (id rfl) (id rfl) (by decide) (y := .sl 3 b (l.map a1F)) (a1e _ _ _ _) (a2n (by have:ti106.by_=32:=rfl;rw [this,e0n];omega) (by rw [e0n];omega))
  have e':a0q tab h a1C a1C (.sl 3 true []) (.sl 3 b (l.map a1F))=some (x',h'):=e
  have hne:a0i tab .eql a1C (.sl 3 b (l.map a1F)) .nils=some (.bool false):=id rfl
  refine ⟨x',h',?_,hl',hq,?_⟩
  ·simp only [F79,bs,hne,a0d,e0i,if_false,c2b,e',a0j]
  ·rcases ho with ⟨rfl,hn⟩ | ⟨rfl,hn⟩ | ⟨ob,h1,rfl,h2⟩
   ·have:l=[]:=by simpa using hn
    exact .inl ⟨this,.inr rfl⟩
   ·have:l=[]:=by simpa using hn
    exact .inl ⟨this,.inl rfl⟩
   ·exact .inr ⟨ob,h1,by rw [e0n];rfl,h2⟩
theorem b4T {n:Nat} (hn:n≤1000001):lim n ti106.by_=true:=a2n (by have:ti106.by_=32:=rfl;rw [this];omega) (by omega)
theorem a2W (l:List Tal) (hst:Int) (rule:Str) (n:Int):(a3g l hst rule n).length≤l.length+1:=by
 unfold a3g
 split
 ·omega
 ·have hk:=b5L ⟨hst,rule,0⟩ l
  generalize kT ⟨hst,rule,0⟩ l=k at hk
  unfold a5P
  split
  ·split
   ·simp [-bind_some]
   ·simp [-bind_some];omega
  ·simp [-bind_some];omega
theorem a3k {l:List Tal} (hs:a6M l) (hst:Int) (rule:Str) (n:Int):a6M (a3g l hst rule n):=by
 unfold a3g
 split
 ·exact hs
 ·have hk:=b5L ⟨hst,rule,0⟩ l
  have h1:=b8e ⟨hst,rule,0⟩ l
  have h2:=c1i ⟨hst,rule,0⟩ l hs
  generalize kT ⟨hst,rule,0⟩ l=k at hk h1 h2
  have hins:(∀ x,l[k]?=some x→¬ a5X x ⟨hst,rule,0⟩=0)→a6M (l.take k++[⟨hst,rule,IntKind.wrap .i64 (0+n)⟩]++l.drop k):=fun hne=>by
   have hpre:∀ x∈l.take k,kl x ⟨hst,rule,0⟩:=fun x hx=>by
    obtain ⟨i,hi⟩:=List.mem_iff_getElem?.1 hx
    rw [List.getElem?_take] at hi
    split at hi
    ·exact (a3E _ _).1 (h1 i x hi (by assumption))
    ·cases hi
   have hpost:∀ x∈l.drop k,kl ⟨hst,rule,0⟩ x:=fun x hx=>by
    obtain ⟨i,hi⟩:=List.mem_iff_getElem?.1 hx
    rw [List.getElem?_drop] at hi
    have hge:=h2 (k+i) x hi (by omega)
    refine c8A (fun hh=>?_) fun hh=>?_
    ·have:=(a3E _ _).2 hh;omega
    ·have h0:=(a3Z x ⟨hst,rule,0⟩).2 hh
     cases i with
     | zero=>exact hne x hi h0
     | succ i =>
      have hlt:=(e0y.1 hi).1
      have hg:l[k]?=some (l[k]'(by omega)):=e0x (by omega)
      generalize l[k]'(by omega)=y at hg
      have hky:kl y x:=by
       have:=List.pairwise_iff_getElem.1 hs k (k+(i+1)) (by omega) hlt (by omega)
       rw [e0x (by omega)] at hg hi
       injection hg with hg
       injection hi with hi
       rwa [hg,hi] at this
      have:=h2 k y hg (Nat.le_refl _)
      have h3:a5X y ⟨hst,rule,0⟩<0:=by
       rw [a3E]
       unfold kl at hky ⊢
       rw [hh.1,hh.2] at hky
       exact hky
      omega
   unfold a6M
   rw [List.append_assoc,List.pairwise_append]
   refine ⟨hs.sublist (List.take_sublist _ _),?_,fun a ha b hb=>?_⟩
   ·rw [List.singleton_append,List.pairwise_cons]
    exact ⟨fun b hb=>hpost b hb,hs.sublist (List.drop_sublist _ _)⟩
   ·rw [List.singleton_append,e0D] at hb
    rcases hb with rfl | hb
    ·exact hpre a ha
    ·exact c4p (hpre a ha) (hpost b hb)
  unfold a5P
  cases hg:l[k]? with
  | none=>exact hins fun x hx=>by rw [hg] at hx;cases hx
  | some y =>
   simp only
   split
   ·have hkl:=(e0y.1 hg).1
    unfold a6M at hs ⊢
    rw [List.pairwise_iff_getElem] at hs ⊢
    have hval:l[k]=y:=(e0y.1 hg).2
    intro i j hi hj hij
    have q:=hs i j (by simpa using hi) (by simpa using hj) hij
    simp only [List.getElem_set]
    by_cases hki:k=i
    ·subst hki
     have hkj:¬ k=j:=by omega
     simp only [if_true,hkj,if_false]
     rw [hval] at q
     exact q
    ·by_cases hkj:k=j
     ·subst hkj
      simp only [hki,if_false,if_true]
      rw [hval] at q
      exact q
     ·simp only [hki,hkj,if_false]
      exact q
   ·rename_i hne
    exact hins fun x hx=>by
     rw [hg] at hx
     injection hx with hx
     subst hx
     exact hne
theorem b9y {l:List Tal} {d:D} (hd:SlOf 3 a1F l d) (n0:Nat) (h:Hp) (n:Nat):frz n0 h n d=d:=by
 cases n with
 | zero=>rfl
 | succ n =>
  rcases hd with ⟨rfl,_⟩ | ⟨b,rfl⟩
  ·simp [-bind_some]
  ·refine b1q fun row hrow=>?_
   obtain ⟨a,_,rfl⟩:=e0F.1 hrow
   exact a2P _ _ _ a
def gr:List Ev→List Ev→Bool
 | [],_=>true
 | _::_,[]=>false
 | x::a,y::b=>if c4V x y=true then gr a b else gr (x::a) b
def klB (x:Tal) (hst:Int) (rule:Str):Bool:=decide (x.h<hst)||(decide (x.h=hst)&&Op.bytesLess x.r rule)
theorem c2z (x:Tal) (hst:Int) (rule:Str):klB x hst rule=true↔a5X x ⟨hst,rule,0⟩<0:=by
 rw [a3E]
 simp [-bind_some, klB,kl]
theorem c8x (key:Tal):∀ (l:List Tal) (x:Tal),l[kT key l]?=some x→¬ a5X x key<0
 | y::r,x,hx=>by
  unfold kT at hx
  split at hx
  ·exact c8x key r x (by simpa using hx)
  ·rename_i hc
   simp at hx
   subst hx
   exact hc
theorem b60 (l:List Tal) (d:D) (hst:Int) (rule:Str) (h:Hp) (hd:SlOf 3 a1F l d) (i:Nat) (x:Tal) (hi:l[i]?=some x) (hl:l.length≤1000000) (a:D) :
  a5N d (.int .i64 hst) (.str rule) [.int .i64 i,a] h=if klB x hst rule=true then some (.nrm,[.int .i64 ((i+1:Nat):Int),.bool true],h) else some (.ext 0,[.int .i64 i,.bool false],h):=by
 have hlt:i<l.length:=(e0y.1 hi).1
 have hlt':(i:Int)<l.length:=by omega
 have hw:=wi_ i (by omega)
 have hix:a0b tab a1C d (.int .i64 i)=some (.fptr (a1F x)):=by rw [b8a hd];simp [-bind_some, hi]
 by_cases h0:x.h<hst
 ·simp [-bind_some, a5N,a5j hd,hlt',hix,a1F,klB,h0,hw]
 ·by_cases h1:x.h=hst
  ·cases h2:Op.bytesLess x.r rule
   ·simp [-bind_some, a5N,a5j hd,hlt',hix,a1F,klB,h0,h1,h2,hw]
   ·simp [-bind_some, a5N,a5j hd,hlt',hix,a1F,klB,h0,h1,h2,hw]
  ·simp [-bind_some, a5N,a5j hd,hlt',hix,a1F,klB,h0,h1,hw]
theorem l60 (l:List Tal) (d:D) (hst:Int) (rule:Str) (h:Hp) (hd:SlOf 3 a1F l d) (hl:l.length≤1000000) {β:Type} {K:Out→Option β} {Q:β→Prop} (a:D)
  (cont:∀ b,Wp (K (.ext 0,[.int .i64 (kT ⟨hst,rule,0⟩ l:Nat),b],h)) Q):Wp ((a0J (a5N d (.int .i64 hst) (.str rule)) [.int .i64 0,a] h).bind K) Q:=by
 have hk:=b5L ⟨hst,rule,0⟩ l
 have k1:=b8e ⟨hst,rule,0⟩ l
 have k2:=c8x ⟨hst,rule,0⟩ l
 generalize kT ⟨hst,rule,0⟩ l=k at hk k1 k2 cont
 refine Wp.loop (fun n ds g=>g=h∧∃ a,∃ i:Nat,ds=[.int .i64 i,a]∧n+i=k) (fun r=>∃ b,r=(.ext 0,[.int .i64 (k:Nat),b],h)) k ⟨rfl,_,0,rfl,rfl⟩ ?_ ?_
 ·rintro n ds g ⟨rfl,a,i,rfl,hi⟩
  by_cases hil:i<l.length
  ·have hg:l[i]?=some l[i]:=e0x hil
   generalize l[i]=x at hg
   rw [b60 l d hst rule g hd i x hg hl]
   by_cases hc:klB x hst rule=true
   ·rw [if_pos hc]
    have:i≠k:=fun hh=>by subst hh;exact k2 x hg ((c2z _ _ _).1 hc)
    exact .some (.inl ⟨rfl,n - 1,by omega,rfl,_,i+1,rfl,by omega⟩)
   ·rw [if_neg hc]
    have:i=k:=by
     rcases Nat.lt_or_ge i k with hh | hh
     ·exact absurd ((c2z _ _ _).2 (k1 i x hg hh)) hc
     ·omega
    subst this
    exact .some (.inr ⟨by simp,_,rfl⟩)
  ·have:i=k:=by omega
   subst this
   have hn:¬ (i:Int)<l.length:=by omega
   have e:a5N d (.int .i64 hst) (.str rule) [.int .i64 i,a] g=some (.ext 0,[.int .i64 i,.bool false],g):=by
    simp [-bind_some, a5N,a5j hd,hn]
   rw [e]
   exact .some (.inr ⟨by simp,_,rfl⟩)
 ·rintro _ ⟨b,rfl⟩
  exact cont b
theorem c7u (h:Hp) (rows:List (List D)) (r:List D) (b:Bool) (hl:rows.length≤1000000):a0q tab h a1C a1C (.sl 3 true rows) (.sl 3 b [r])=some (.msl 3 h.length 0 (rows.length+1),a0C h a1k 3 (rows++[r])):=by
 have e1:tab a1C=some ti58:=rfl
 have e2:ti58.td = .sl a1k:=rfl
 have e3:tab a1k=some ti106:=rfl
 have e4:ti106.sz=3:=rfl
 have hlim:lim (rows.length+1) ti106.by_=true:=b4T (by omega)
 have e5:Nat.blt 0 3=true:=rfl
 simp [-bind_some, a0q,a6t,a1a,e1,e2,e3,e4,e5,hlim]
theorem d0I (h:Hp) (r:List D) (b:Bool):a0q tab h a1C a1C .nils (.sl 3 b [r])=some (.msl 3 h.length 0 1,a0C h a1k 3 [r]):=by
 have e1:tab a1C=some ti58:=rfl
 have e2:ti58.td = .sl a1k:=rfl
 have e3:tab a1k=some ti106:=rfl
 have e4:ti106.sz=3:=rfl
 have hlim:lim 1 ti106.by_=true:=b4T (by omega)
 have e5:Nat.blt 0 3=true:=rfl
 simp [-bind_some, a0q,a6t,a1a,e1,e2,e3,e4,e5,hlim]
theorem d0U {h:Hp} {n0:Nat} {rows:List (List D)} {x:D} (ow:Own h n0 a1k 3 rows x) (hl:rows.length≤1000000) (i:Nat) (hi:i≤rows.length) (r:List D) (b:Bool) (hn0:n0≤h.length) :
  ∃ y h1,b3J tab h a1C false true [x,.int .i64 i,.int .i64 i]=some (y,h1)∧h.length≤h1.length∧(∀ q,q<n0→h1[q]?=h[q]?)∧∃ z h2,a0q tab h1 a1C a1C y (.sl 3 b [r])=some (z,h2)∧Own h2 n0 a1k 3 (rows.take i++[r]) z∧h.length≤h2.length∧∀ q,q<n0→h2[q]?=h[q]?:=by
 have e1:tab a1C=some ti58:=rfl
 have e2:ti58.td = .sl a1k:=rfl
 have e3:tab a1k=some ti106:=rfl
 have e4:ti106.sz=3:=rfl
 have fin:∀ (y:D) (h1:Hp),h.length≤h1.length→(∀ q,q<n0→h1[q]?=h[q]?)→a0q tab h1 a1C a1C y (.sl 3 b [r])=some (.msl 3 h1.length 0 ((rows.take i).length+1),a0C h1 a1k 3 (rows.take i++[r])) →
   ∃ z h2,a0q tab h1 a1C a1C y (.sl 3 b [r])=some (z,h2)∧Own h2 n0 a1k 3 (rows.take i++[r]) z∧h.length≤h2.length∧∀ q,q<n0→h2[q]?=h[q]?:=fun y h1 hl1 hb1 e =>
  ⟨_,_,e,.inr ⟨h1.length,by omega,by simp,a0Z _ _ _ _⟩,by simp [-bind_some, a0C];omega,fun q hq=>by rw [a0H _ _ _ _ (by omega)];exact hb1 q hq⟩
 rcases ow with ⟨rfl,rfl⟩ | ⟨ob,hob,rfl,ho⟩
 ·have hi0:i=0:=by simpa using hi
  subst hi0
  refine ⟨.nils,h,by simp [-bind_some, b3J,a0D,a2G,a2b,e1,e2,e3],Nat.le_refl _,fun _ _=>rfl,fin _ _ (Nat.le_refl _) (fun _ _=>rfl) (by simpa using d0I h r b)⟩
 ·by_cases hi0:i=0
  ·subst hi0
   refine ⟨.sl 3 true [],h,by simp [-bind_some, b3J,a0D,a2G,a2b,e1,e2,e3,e4],Nat.le_refl _,fun _ _=>rfl,fin _ _ (Nat.le_refl _) (fun _ _=>rfl) (by simpa using c7u h [] r b (by simp))⟩
  ·have hlt:=(e0y.1 ho).1
   have hir:(i:Int)≤(rows.length:Int):=by omega
   have hi1:¬ (i:Int)=0:=by omega
   refine ⟨.sl 3 true (rows.take i),h.set ob .dead,?_,by simp,fun q hq=>by rw [e0I (by omega)],fin _ _ (by simp) (fun q hq=>by rw [e0I (by omega)]) (c7u _ _ r b (by simp;omega))⟩
   have hs:a0D tab a1C false true true [.msl 3 ob 0 rows.length,.int .i64 i,.int .i64 i]=none:=by
    simp [-bind_some, a0D,a2G,a2b,e1,e2,e3,e4,hi1]
    intro _;exact hi0
   simp only [b3J,hs,ho,e1,e2,e3,e4,true_and,Int.natCast_nonneg,hir,Nat.le_refl,and_self,if_true,e0r]
theorem s60 (l:List Tal) (d:D) (hst:Int) (rule:Str) (n:Int) (h:Hp) (hd:SlOf 3 a1F l d) (hl:l.length≤1000000) (hn1:n≤9223372036854775807) :
  ∃ d',R c5w [d,.int .i64 hst,.str rule,.int .i64 n] h=some (d',h)∧SlOf 3 a1F (a3g l hst rule n) d':=by
 suffices Wp (R c5w [d,.int .i64 hst,.str rule,.int .i64 n] h) (fun p=>p.2=h∧SlOf 3 a1F (a3g l hst rule n) p.1) by
  obtain ⟨⟨x,h'⟩,h1,rfl,h2⟩:=this
  exact ⟨x,h1,h2⟩
 rw [e60]
 simp only [F60,bs,a2u]
 refine Wp.dif (fun hn=>?_) (fun hn=>?_)
 ·have hn:n≤0:=by simpa using hn
  have hn':n<1:=by omega
  have ha:a3g l hst rule n=l:=by simp [-bind_some, a3g,hn']
  rw [ha]
  simp only [bs,a0j]
  rw [a0M (d':=d) (b9y hd _ _ _) (a1b hd fun a _=>a3t _ a) (Nat.le_refl _) fun _ _=>rfl]
  exact .some ⟨rfl,hd⟩
 ·have hn:¬ n≤0:=by simpa using hn
  have hn':¬ n<1:=by omega
  have ha:a3g l hst rule n=a5P l hst rule n (kT ⟨hst,rule,0⟩ l):=by simp [-bind_some, a3g,hn']
  rw [ha]
  simp only [bs,e0h]
  refine l60 l d hst rule h hd hl _ fun b0=>?_
  have hk:=b5L ⟨hst,rule,0⟩ l
  generalize kT ⟨hst,rule,0⟩ l=k at hk
  have hw0:IntKind.wrap .i64 n=n:=wrap_i64 (by omega) hn1
  simp only [a0l,a0k,a0e,bs,e0h]
  refine d0b (n0:=h.length) (Nat.le_refl _) (Own.nils _ _ _ _) (a2l _ hd) (by simp;omega) fun x1 h1 ow1 len1 bel1 _ _=>?_
  rw [List.nil_append] at ow1
  simp only [bs,a5j hd,a0o]
  have insert:a5P l hst rule n k=l.take k++[⟨hst,rule,n⟩]++l.drop k →
    Wp ((b3J tab h1 a1C false true [x1,.int .i64 (k:Nat),.int .i64 (k:Nat)]).bind fun p84=>(a0U tab a1k [0,1,2] [.int .i64 hst,.str rule,.int .i64 n]).bind fun t88=>(a0W tab a1C 1 [0] [t88]).bind fun t89 =>
     (a0q tab p84.2 a1C a1C p84.1 t89).bind fun p90=>(a0D tab a1C true false false [d,.int .i64 (k:Nat)]).bind fun t94=>(a0q tab p90.2 a1C a1C p90.1 t94).bind fun p95=>scope h p95.2 (a0f [p95.1])) (fun p=>p.2=h∧SlOf 3 a1F (a5P l hst rule n k) p.1):=fun hadd=>by
   rw [hadd]
   obtain ⟨y,h2,ec,hl2,hb2,z,h3,ea,ow3,hl3,hb3⟩:=d0U ow1 (by simpa using hl) k (by simpa using hk) [.int .i64 hst,.str rule,.int .i64 n] true len1
   obtain ⟨y2,hs2,hy2⟩:=a8g (T:=tab) (t:=a1C) (i:=ti58) (j:=ti106) (id rfl) (id rfl) (id rfl) (id rfl) hd (k := .i64) (n:=(k:Nat)) (by omega) (by omega)
   rw [e0r] at hy2
   simp only [ec,bs,b1V,c2c,ea,hs2]
   refine d0b (n0:=h.length) (by omega) ow3 (a2l _ hy2) (by simp;omega) fun x4 h4 ow4 len4 bel4 _ _=>?_
   have hrows:(l.map a1F).take k++[[.int .i64 hst,.str rule,.int .i64 n]]++(l.drop k).map a1F=(l.take k++[(⟨hst,rule,n⟩:Tal)]++l.drop k).map a1F:=by
    rw [e0o,e0o,List.map_take];rfl
   rw [hrows] at ow4
   have hsl:=a1R (n0:=h.length) (n:=3) ow4 (Nat.le_refl _) (fun a _=>a2P _ h4 _ a)
   simp only [a0j]
   rw [a0M rfl (a1b hsl fun a _=>a3t _ a) (by omega) (fun q hq=>((bel4 q hq).trans (hb3 q hq)).trans (bel1 q hq))]
   exact .some ⟨rfl,hsl⟩
  by_cases hkl:k<l.length
  ·have hg:l[k]?=some l[k]:=e0x hkl
   generalize l[k]=x at hg
   have hkl':(k:Int)<l.length:=by omega
   have hix:a0b tab a1C d (.int .i64 (k:Nat))=some (.fptr (a1F x)):=by rw [b8a hd];simp [-bind_some, hg]
   have f0:a0a tab a1k 0 (.fptr (a1F x))=some (.fptr (a1F x)):=id rfl
   have l0:a0c tab h1 ty3 (.fptr (a1F x))=some (.int .i64 x.h):=id rfl
   have f1:a0a tab a1k 1 (.fptr (a1F x))=some (.fptr [.str x.r,.int .i64 x.n]):=id rfl
   have l1:a0c tab h1 ty9 (.fptr [.str x.r,.int .i64 x.n])=some (.str x.r):=id rfl
   simp only [hkl',decide_true,a0v,if_true,bs,hix,f0,l0,a0P,a0g]
   by_cases hh:x.h=hst
   ·by_cases hr:x.r=rule
    ·have hadd:a5P l hst rule n k=l.set k ⟨x.h,x.r,IntKind.wrap .i64 (x.n+n)⟩:=by
       have hc:a5X x ⟨hst,rule,0⟩=0:=(a3Z _ _).2 ⟨hh,hr⟩
       simp [-bind_some, a5P,hg,hc]
     have hrb:(x.r==rule)=true:=by simpa using hr
     simp only [hh,decide_true,if_true,hix,f1,l1,bs,a1E,hrb,a0g,a0d,a0v]
     obtain ⟨ob,hob,hxe,ho⟩:=a5m ow1 (i:=k) (by simpa using hkl)
     rw [e0n] at hxe
     subst hxe
     have hkl2:(0:Int)≤(k:Int)∧(k:Int)<(l.length:Int):=by omega
     have hrr:(l.map a1F)[k]?=some (a1F x):=by rw [e0v,hg];rfl
     simp only [c4k,hkl2,and_self,if_true,b3U,e0r,Nat.zero_add,a6D,a0F ho,hrr,bs]
     simp only [a1F,List.drop_succ_cons,List.drop_zero,List.head?_cons,bs,a0r]
     refine b9O (off:=2) (v := .int .i64 (IntKind.wrap .i64 (x.n+n))) ho hrr rfl (by simp [-bind_some, a1F]) rfl fun h3 q3 s3=>?_
     have hset:(l.map a1F).set k (spl (a1F x) 2 (a0B (.int .i64 (IntKind.wrap .i64 (x.n+n)))))=(a5P l hst rule n k).map a1F:=by
      rw [hadd,List.map_set];rfl
     rw [hset] at q3
     have hlen:(a5P l hst rule n k).length=l.length:=by rw [hadd];simp [-bind_some]
     have ow:Own h3 h.length a1k 3 ((a5P l hst rule n k).map a1F) (.msl 3 ob 0 l.length) := .inr ⟨ob,hob,by simp [-bind_some, hlen],q3⟩
     have hsl:=a1R (n0:=h.length) (n:=3) ow (Nat.le_refl _) (fun a _=>a2P _ h3 _ a)
     simp only [bs,a0j]
     rw [a0M rfl (a1b hsl fun a _=>a3t _ a) (by have:=s3.1;omega) (fun q hq=>(s3.2 q (by omega)).trans (bel1 q hq))]
     exact .some ⟨rfl,hsl⟩
    ·have hadd:a5P l hst rule n k=l.take k++[⟨hst,rule,n⟩]++l.drop k:=by
       have hc:¬ a5X x ⟨hst,rule,0⟩=0:=fun h0=>hr ((a3Z _ _).1 h0).2
       simp [-bind_some, a5P,hg,hc,hw0]
     have hrb:(x.r==rule)=false:=by simpa using hr
     simp only [hh,decide_true,if_true,hix,f1,l1,bs,a1E,hrb,a0g,a0d,a0v,e0i,if_false]
     exact insert hadd
   ·have hadd:a5P l hst rule n k=l.take k++[⟨hst,rule,n⟩]++l.drop k:=by
      have hc:¬ a5X x ⟨hst,rule,0⟩=0:=fun h0=>hh ((a3Z _ _).1 h0).1
      simp [-bind_some, a5P,hg,hc,hw0]
    simp only [hh,decide_false,a0v,e0i,if_false,bs,a0g,a0d,a2x]
    exact insert hadd
  ·have hg:l[k]?=none:=List.getElem?_eq_none (by omega)
   have hkl':¬ (k:Int)<l.length:=by omega
   have hadd:a5P l hst rule n k=l.take k++[⟨hst,rule,n⟩]++l.drop k:=by simp [-bind_some, a5P,hg,hw0]
   simp only [hkl',decide_false,a0v,e0i,if_false,bs,a0g,a0d,a2x]
   exact insert hadd
def sm (f:Tal→Int):List Tal→Int
 | []=>0
 | t::r=>f t+sm f r
theorem d9G (l:List Tal) (da db:D) (h:Hp) (ha:SlOf 3 a1F l da) (hb:SlOf 3 a1F l db) (hl:l.length≤1000000):R d3W [da,db] h=some (.bool true,h):=by
 apply Wp.val
 rw [e30]
 simp only [F30,bs,e0h,a5j ha,a5j hb,a0A,ne_eq,not_true,decide_false,a0d,e0i,if_false]
 refine Wp.loop (fun n ds g=>g=h∧∃ x y z,∃ i:Nat,ds=[x,.int .i64 i,y,z]∧n+i=l.length)
  (fun r=>r.1 = .ext 0∧r.2.2=h) l.length ⟨rfl,_,_,_,0,rfl,rfl⟩ ?_ ?_
 ·rintro n ds g ⟨rfl,x,y,z,i,rfl,hi⟩
  simp only [c1N,a0e,a0m,bs,e0h,a5j ha,a0o]
  refine Wp.dif ?_ ?_
  ·intro h0
   have h0:i<l.length:=dl_ h0
   have hg:l[i]?=some l[i]:=e0x h0
   generalize l[i]=u at hg
   have ia:a0b tab a1C da (.int .i64 i)=some (.fptr (a1F u)):=by rw [b8a ha];simp [-bind_some, hg]
   have ib:a0b tab a1C db (.int .i64 i)=some (.fptr (a1F u)):=by rw [b8a hb];simp [-bind_some, hg]
   have hw:=wi_ i (by omega)
   have hn:a0i tab .neq a1k (.agg (a1F u)) (.agg (a1F u))=some (.bool false):=by
    have:=c3K u.h u.h u.r u.r u.n u.n
    simpa [-bind_some, a1F] using this
   simp only [ia,ib,b0o,hn,bs,a0d,e0i,if_false,a0r,hw]
   exact .some (.inl ⟨rfl,n - 1,by omega,rfl,_,_,_,i+1,rfl,by omega⟩)
  ·intro _
   exact .some (.inr ⟨by simp,rfl,rfl⟩)
 ·rintro ⟨ex,ds,g⟩ ⟨q1,q2⟩
  simp only at q1 q2
  subst q1;subst q2
  simp only [a0l,a0k,bs,a0j]
  exact .some rfl
def ml (a b:Mrk):Prop:=a.h<b.h∨(a.h=b.h∧a.f<b.f)
theorem a6x (a b:Mrk):a4t a b<0↔ml a b:=by
 unfold a4t orI orI orI a5b ml
 by_cases h1:a.h<b.h
 ·simp [-bind_some, h1]
 ·by_cases h2:b.h<a.h
  ·have h3:¬ a.h=b.h:=by omega
   simp [-bind_some, h1,h2,h3]
  ·have h3:a.h=b.h:=by omega
   by_cases h4:a.f<b.f
   ·simp [-bind_some, h3,h4]
   ·by_cases h5:b.f<a.f <;> simp [-bind_some, h3,h4,h5]
theorem a5u (a b:Mrk):a4t a b=0↔a.h=b.h∧a.f=b.f:=by
 unfold a4t orI orI orI a5b
 by_cases h1:a.h<b.h
 ·have h3:¬ a.h=b.h:=by omega
  simp [-bind_some, h1,h3]
 ·by_cases h2:b.h<a.h
  ·have h3:¬ a.h=b.h:=by omega
   simp [-bind_some, h1,h2,h3]
  ·have h3:a.h=b.h:=by omega
   by_cases h4:a.f<b.f
   ·have:¬ a.f=b.f:=by omega
    simp [-bind_some, h3,h4,this]
   ·by_cases h5:b.f<a.f
    ·have:¬ a.f=b.f:=by omega
     simp [-bind_some, h3,h4,h5,this]
    ·have:a.f=b.f:=by omega
     simp [-bind_some, h3,this]
def a6v (l:List Mrk):Prop:=l.Pairwise ml
def kM (key:Mrk):List Mrk→Nat
 | []=>0
 | x::r=>if a4t x key<0 then kM key r+1 else 0
theorem b5K (key:Mrk):∀ l,kM key l≤l.length
 | []=>Nat.le_refl _
 | x::r=>by
  unfold kM
  split
  ·have:=b5K key r;simp [-bind_some];omega
  ·simp [-bind_some]
theorem b8c (key:Mrk):∀ (l:List Mrk) (i:Nat) (x:Mrk),l[i]?=some x→i<kM key l→a4t x key<0
 | y::r,0,x,hx,hi=>by
  unfold kM at hi
  simp at hx
  subst hx
  split at hi
  ·assumption
  ·omega
 | y::r,i+1,x,hx,hi=>by
  unfold kM at hi
  simp at hx
  split at hi
  ·exact b8c key r i x hx (by omega)
  ·omega
theorem c4l (key:Mrk):∀ (l:List Mrk) (x:Mrk),l[kM key l]?=some x→¬ a4t x key<0
 | y::r,x,hx=>by
  unfold kM at hx
  split at hx
  ·exact c4l key r x (by simpa using hx)
  ·rename_i hc
   simp at hx
   subst hx
   exact hc
theorem c4F {a b c:Mrk} (h:ml a b) (k:ml b c):ml a c:=by
 unfold ml at *
 omega
theorem c1h (key:Mrk):∀ (l:List Mrk),a6v l→∀ (i:Nat) (x:Mrk),l[i]?=some x→kM key l≤i→0≤a4t x key
 | y::r,hs,i,x,hx,hi=>by
  unfold kM at hi
  have hs':=List.pairwise_cons.1 hs
  split at hi
  ·cases i with
   | zero=>omega
   | succ i=>exact c1h key r hs'.2 i x (by simpa using hx) (by omega)
  ·rename_i hc
   rcases Int.lt_or_le (a4t x key) 0 with h1 | h1
   ·exfalso
    cases i with
    | zero=>simp at hx;subst hx;exact hc h1
    | succ i =>
     have hx':r[i]?=some x:=by simpa using hx
     exact hc ((a6x _ _).2 (c4F (hs'.1 x (e0w hx')) ((a6x _ _).1 h1)))
   ·exact h1
def a6S (l:List Mrk) (key:Mrk):Bool:=match l[kM key l]? with
 | some x=>decide (a4t x key=0)
 | none=>false
def a1s (l:List Mrk) (hst fil:Int):Int:=match l[kM ⟨hst,fil,0⟩ l]? with
 | some x=>if a4t x ⟨hst,fil,0⟩=0 then x.o else 0
 | none=>0
def mlB (x:Mrk) (hst fil:Int):Bool:=decide (x.h<hst)||(decide (x.h=hst)&&decide (x.f<fil))
theorem c2G (x:Mrk) (hst fil:Int):mlB x hst fil=true↔a4t x ⟨hst,fil,0⟩<0:=by
 rw [a6x]
 simp [-bind_some, mlB,ml]
theorem d0K (l:List Mrk) (d:D) (hst fil:Int) (h:Hp) (hd:SlOf 3 a1K l d) (i:Nat) (x:Mrk) (hi:l[i]?=some x) (hl:l.length≤1000000) (a:D) :
  a3w d (.int .i64 hst) (.int .i64 fil) [.int .i64 i,a] h=if mlB x hst fil=true then some (.nrm,[.int .i64 ((i+1:Nat):Int),.bool true],h) else some (.ext 0,[.int .i64 i,.bool false],h):=by
 have hlt:i<l.length:=(e0y.1 hi).1
 have hlt':(i:Int)<l.length:=by omega
 have hw:=wi_ i (by omega)
 have hix:a0b tab a0E d (.int .i64 i)=some (.fptr (a1K x)):=by rw [a6B hd];simp [-bind_some, hi]
 by_cases h0:x.h<hst
 ·simp [-bind_some, a3w,a3b hd,hlt',hix,a1K,mlB,h0,hw]
 ·by_cases h1:x.h=hst
  ·by_cases h2:x.f<fil
   ·simp [-bind_some, a3w,a3b hd,hlt',hix,a1K,mlB,h0,h1,h2,hw]
   ·simp [-bind_some, a3w,a3b hd,hlt',hix,a1K,mlB,h0,h1,h2,hw]
  ·simp [-bind_some, a3w,a3b hd,hlt',hix,a1K,mlB,h0,h1,hw]
theorem c9D (l:List Mrk) (d:D) (hst fil:Int) (h:Hp) (hd:SlOf 3 a1K l d) (hl:l.length≤1000000):R b4p [d,.int .i64 hst,.int .i64 fil] h=some (.tup [.int .i64 (kM ⟨hst,fil,0⟩ l:Nat),.bool (a6S l ⟨hst,fil,0⟩)],h):=by
 apply Wp.val
 rw [d1V]
 simp only [c6A,bs,e0h]
 have hk:=b5K ⟨hst,fil,0⟩ l
 have k1:=b8c ⟨hst,fil,0⟩ l
 have k2:=c4l ⟨hst,fil,0⟩ l
 unfold a6S
 generalize kM ⟨hst,fil,0⟩ l=k at hk k1 k2
 refine Wp.loop (fun n ds g=>g=h∧∃ a,∃ i:Nat,ds=[.int .i64 i,a]∧n+i=k) (fun r=>∃ b,r=(.ext 0,[.int .i64 (k:Nat),b],h)) k ⟨rfl,_,0,rfl,rfl⟩ ?_ ?_
 ·rintro n ds g ⟨rfl,a,i,rfl,hi⟩
  by_cases hil:i<l.length
  ·have hg:l[i]?=some l[i]:=e0x hil
   generalize l[i]=x at hg
   rw [d0K l d hst fil g hd i x hg hl]
   by_cases hc:mlB x hst fil=true
   ·rw [if_pos hc]
    have:i≠k:=fun hh=>by subst hh;exact k2 x hg ((c2G _ _ _).1 hc)
    exact .some (.inl ⟨rfl,n - 1,by omega,rfl,_,i+1,rfl,by omega⟩)
   ·rw [if_neg hc]
    have:i=k:=by
     rcases Nat.lt_or_ge i k with hh | hh
     ·exact absurd ((c2G _ _ _).2 (k1 i x hg hh)) hc
     ·omega
    subst this
    exact .some (.inr ⟨by simp,_,rfl⟩)
  ·have:i=k:=by omega
   subst this
   have hn:¬ (i:Int)<l.length:=by omega
   have e:a3w d (.int .i64 hst) (.int .i64 fil) [.int .i64 i,a] g=some (.ext 0,[.int .i64 i,.bool false],g):=by
    simp [-bind_some, a3w,a3b hd,hn]
   rw [e]
   exact .some (.inr ⟨by simp,_,rfl⟩)
 ·rintro _ ⟨b,rfl⟩
  simp only [a0l,a0k,a0e,bs,a3b hd,a0o]
  by_cases hkl:k<l.length
  ·have hg:l[k]?=some l[k]:=e0x hkl
   generalize l[k]=x at hg
   have hkl':(k:Int)<l.length:=by omega
   have hix:a0b tab a0E d (.int .i64 (k:Nat))=some (.fptr (a1K x)):=by rw [a6B hd];simp [-bind_some, hg]
   have hc:=a5u x ⟨hst,fil,0⟩
   by_cases h0:x.h=hst
   ·by_cases h1:x.f=fil
    ·have hcc:a4t x ⟨hst,fil,0⟩=0:=hc.2 ⟨h0,h1⟩
     simp [-bind_some, hkl',hix,a1K,h0,h1,hg,hcc]
     exact .some rfl
    ·have hcc:¬ a4t x ⟨hst,fil,0⟩=0:=fun hh=>h1 (hc.1 hh).2
     simp [-bind_some, hkl',hix,a1K,h0,h1,hg,hcc]
     exact .some rfl
   ·have hcc:¬ a4t x ⟨hst,fil,0⟩=0:=fun hh=>h0 (hc.1 hh).1
    simp [-bind_some, hkl',hix,a1K,h0,hg,hcc]
    exact .some rfl
  ·have hg:l[k]?=none:=List.getElem?_eq_none (by omega)
   have hkl':¬ (k:Int)<l.length:=by omega
   simp [-bind_some, hkl',hg]
   exact .some rfl
theorem d6g (l:List Mrk) (d dt:D) (hst fil:Int) (h:Hp) (hd:SlOf 3 a1K l d) (hl:l.length≤1000000):R b7H [.agg [d,dt],.int .i64 hst,.int .i64 fil] h=some (.int .i64 (a1s l hst fil),h):=by
 rw [d1U]
 have h84:=c9D l d hst fil h hd hl
 unfold a6S at h84
 unfold a1s
 generalize kM ⟨hst,fil,0⟩ l=k at h84
 simp only [c6z,a0V,bs,a9H,b8h,h84,a0I,e0k,e0l]
 cases hg:l[k]? with
 | none=>simp [-bind_some]
 | some x =>
  have hix:a0b tab a0E d (.int .i64 (k:Nat))=some (.fptr (a1K x)):=by rw [a6B hd];simp [-bind_some, hg]
  by_cases hc:a4t x ⟨hst,fil,0⟩=0
  ·simp [-bind_some, hc,hix,a1K]
  ·simp [-bind_some, hc]
def a5h (l:List Tal) (hst:Int) (rule:Str):Int:=match l[kT ⟨hst,rule,0⟩ l]? with
 | some x=>if a5X x ⟨hst,rule,0⟩=0 then x.n else 0
 | none=>0
theorem a4X (n0:Nat) (h:Hp) (n:Nat) (p:Mrk):∀ d∈a1K p,frz n0 h n d=d:=by simp [-bind_some, a1K]
theorem a6E (n:Nat) (p:Mrk):∀ d∈a1K p,Ok n d:=by
 intro d hd
 simp [-bind_some, a1K] at hd
 rcases hd with rfl | rfl | rfl <;> constructor
theorem a6J {α:Type} {lt:α→α→Prop} (irr:∀ a,¬ lt a a) (tr:∀ a b c,lt a b→lt b c→lt a c):∀ {l r:List α},l.Pairwise lt→r.Pairwise lt→(∀ x,x∈l↔x∈r)→l=r
 | [],[],_,_,_=>rfl
 | [],y::r,_,_,h=>by have:=(h y).2 (by simp);cases this
 | x::l,[],_,_,h=>by have:=(h x).1 (by simp);cases this
 | x::l,y::r,hl,hr,h=>by
  have hl':=List.pairwise_cons.1 hl
  have hr':=List.pairwise_cons.1 hr
  have hxy:x=y:=by
   rcases e0D.1 ((h x).1 (by simp)) with h1 | h1
   ·exact h1
   ·rcases e0D.1 ((h y).2 (by simp)) with h2 | h2
    ·exact h2.symm
    ·exact absurd (tr _ _ _ (hl'.1 y h2) (hr'.1 x h1)) (irr _)
  subst hxy
  rw [a6J irr tr hl'.2 hr'.2 fun z=>⟨fun hz=>?_,fun hz=>?_⟩]
  ·rcases e0D.1 ((h z).1 (by simp [-bind_some, hz])) with h1 | h1
   ·subst h1;exact absurd (hl'.1 z hz) (irr _)
   ·exact h1
  ·rcases e0D.1 ((h z).2 (by simp [-bind_some, hz])) with h1 | h1
   ·subst h1;exact absurd (hr'.1 z hz) (irr _)
   ·exact h1
theorem c8W (a:Mrk):¬ ml a a:=by unfold ml;omega
theorem b8f (a:Tal):¬ kl a a:=by
 unfold kl
 rintro (h | ⟨_,h⟩)
 ·omega
 ·rw [b6k] at h;cases h
theorem b4V {l r:List Mrk} (hl:a6v l) (hr:a6v r) (h:∀ x,x∈l↔x∈r):l=r:=a6J c8W (fun _ _ _=>c4F) hl hr h
theorem b5m {l r:List Tal} (hl:a6M l) (hr:a6M r) (h:∀ x,x∈l↔x∈r):l=r:=a6J b8f (fun _ _ _=>c4p) hl hr h
def a5n (l:List Mrk) (m:Mrk):List Mrk:=if a6S l m=true then l.set (kM m l) m else l.take (kM m l)++[m]++l.drop (kM m l)
theorem b4O (a b:Mrk) (h1:a.h=b.h) (h2:a.f=b.f):∀ l,kM a l=kM b l
 | []=>rfl
 | x::r=>by
  have:a4t x a=a4t x b:=by unfold a4t;rw [h1,h2]
  unfold kM
  rw [this,b4O a b h1 h2 r]
theorem c0B (x a b:Mrk) (h1:a.h=b.h) (h2:a.f=b.f):a4t x a=a4t x b:=by unfold a4t;rw [h1,h2]
theorem b0a:∀ {l:List Mrk},a6v l→∀ {x y:Mrk},x∈l→y∈l→x.h=y.h→x.f=y.f→x=y
 | z::r,h,x,y,hx,hy,h1,h2=>by
  have h':=List.pairwise_cons.1 h
  rcases e0D.1 hx with e1 | k1
  ·rcases e0D.1 hy with e2 | k2
   ·rw [e1,e2]
   ·have:=h'.1 y k2
    rw [← e1] at this
    unfold ml at this;omega
  ·rcases e0D.1 hy with e2 | k2
   ·have:=h'.1 x k1
    rw [← e2] at this
    unfold ml at this;omega
   ·exact b0a h'.2 k1 k2 h1 h2
theorem b0p:∀ {l:List Tal},a6M l→∀ {x y:Tal},x∈l→y∈l→x.h=y.h→x.r=y.r→x=y
 | z::r,h,x,y,hx,hy,h1,h2=>by
  have h':=List.pairwise_cons.1 h
  have no:∀ a b:Tal,kl a b→a.h=b.h→a.r=b.r→False:=fun a b hk e1 e2=>by
   have:=(a3E a b).2 hk
   have:=(a3Z a b).2 ⟨e1,e2⟩
   omega
  rcases e0D.1 hx with e1 | k1
  ·rcases e0D.1 hy with e2 | k2
   ·rw [e1,e2]
   ·have:=h'.1 y k2
    rw [← e1] at this
    exact (no _ _ this h1 h2).elim
  ·rcases e0D.1 hy with e2 | k2
   ·have:=h'.1 x k1
    rw [← e2] at this
    exact (no _ _ this h1.symm h2.symm).elim
   ·exact b0p h'.2 k1 k2 h1 h2
theorem b8d (m:Mrk) (l:List Mrk):∀ x∈l.take (kM m l),ml x m:=by
 intro x hx
 obtain ⟨i,hi⟩:=List.getElem?_of_mem hx
 have hlt:=(e0y.1 hi).1
 rw [e0C] at hlt
 rw [List.getElem?_take,if_pos (by omega)] at hi
 exact (a6x _ _).1 (b8c m l i x hi (by omega))
theorem c4m (m:Mrk) (l:List Mrk) (hs:a6v l):∀ x∈l.drop (kM m l),¬ ml x m:=by
 intro x hx
 obtain ⟨i,hi⟩:=List.getElem?_of_mem hx
 rw [List.getElem?_drop] at hi
 have:=c1h m l hs _ x hi (by omega)
 intro h
 have:=(a6x _ _).2 h
 omega
theorem c8X {a b:Mrk} (h:¬ ml a b) (k:¬ (a.h=b.h∧a.f=b.f)):ml b a:=by
 unfold ml at *
 omega
theorem a9N (l:List Mrk) (m:Mrk) (hs:a6v l):a6S l m=true↔∃ x∈l,x.h=m.h∧x.f=m.f:=by
 unfold a6S
 constructor
 ·intro h
  cases hg:l[kM m l]? with
  | none=>rw [hg] at h;cases h
  | some x =>
   rw [hg] at h
   have h:a4t x m=0:=by simpa using h
   exact ⟨x,e0w hg,(a5u _ _).1 h⟩
 ·rintro ⟨x,hx,h1,h2⟩
  have hx':x∈l.drop (kM m l):=by
   rw [← List.take_append_drop (kM m l) l] at hx
   rcases e0E.1 hx with h | h
   ·have:=b8d m l x h;unfold ml at this;omega
   ·exact h
  obtain ⟨i,hi⟩:=List.getElem?_of_mem hx'
  rw [List.getElem?_drop] at hi
  cases hg:l[kM m l]? with
  | none =>
   have:=List.getElem?_eq_none_iff.1 hg
   have:=(e0y.1 hi).1
   omega
  | some y =>
   have hc:a4t y m=0:=by
    have hy:=c4l m l y hg
    rcases Nat.eq_zero_or_pos i with rfl | hi0
    ·rw [Nat.add_zero,hg] at hi
     injection hi with hi
     subst hi
     exact (a5u _ _).2 ⟨h1,h2⟩
    ·exfalso
     have hlt:ml y x:=by
      obtain ⟨g1,g2⟩:=e0y.1 hg
      obtain ⟨g3,g4⟩:=e0y.1 hi
      have:=List.pairwise_iff_getElem.1 hs _ _ g1 g3 (by omega)
      rw [g2,g4] at this
      exact this
     exact hy ((a6x _ _).2 (by unfold ml at hlt ⊢;omega))
   simp [-bind_some, hc]
theorem a4i (l:List Mrk) (m:Mrk) (hs:a6v l) (x:Mrk):x∈a5n l m↔x=m∨(x∈l∧¬ (x.h=m.h∧x.f=m.f)):=by
 unfold a5n
 by_cases hf:a6S l m=true
 ·rw [if_pos hf]
  unfold a6S at hf
  cases hg:l[kM m l]? with
  | none=>rw [hg] at hf;cases hf
  | some y =>
   rw [hg] at hf
   have hy:a4t y m=0:=by simpa using hf
   have hy:=(a5u _ _).1 hy
   have hk:kM m l<l.length:=(e0y.1 hg).1
   constructor
   ·intro hx
    obtain ⟨i,hi⟩:=List.getElem?_of_mem hx
    rw [List.getElem?_set] at hi
    split at hi
    ·rename_i heq
     left
     subst heq
     simp [-bind_some, hk] at hi
     exact hi.symm
    ·rename_i hne
     by_cases hkey:x.h=m.h∧x.f=m.f
     ·exfalso
      obtain ⟨g1,g2⟩:=e0y.1 hg
      obtain ⟨g3,g4⟩:=e0y.1 hi
      rcases Nat.lt_or_gt_of_ne hne with hlt | hlt
      ·have:=List.pairwise_iff_getElem.1 hs _ _ g1 g3 hlt
       rw [g2,g4] at this;unfold ml at this;omega
      ·have:=List.pairwise_iff_getElem.1 hs _ _ g3 g1 hlt
       rw [g2,g4] at this;unfold ml at this;omega
     ·exact .inr ⟨e0w hi,hkey⟩
   ·rintro (rfl | ⟨hx,hkey⟩)
    ·exact List.mem_iff_getElem?.2 ⟨kM x l,by rw [List.getElem?_set_self hk]⟩
    ·obtain ⟨i,hi⟩:=List.getElem?_of_mem hx
     refine List.mem_iff_getElem?.2 ⟨i,?_⟩
     rw [e0I]
     ·exact hi
     ·rintro rfl
      rw [hg] at hi
      injection hi with hi
      subst hi
      exact hkey hy
 ·rw [if_neg hf]
  have hn:∀ y∈l,¬ (y.h=m.h∧y.f=m.f):=fun y hy hk=>hf ((a9N l m hs).2 ⟨y,hy,hk⟩)
  constructor
  ·intro hx
   simp only [e0E,List.mem_singleton] at hx
   rcases hx with (hx | hx) | hx
   ·have:=List.mem_of_mem_take hx
    exact .inr ⟨this,hn x this⟩
   ·exact .inl hx
   ·have:=List.mem_of_mem_drop hx
    exact .inr ⟨this,hn x this⟩
  ·rintro (rfl | ⟨hx,_⟩)
   ·simp [-bind_some]
   ·rw [← List.take_append_drop (kM m l) l] at hx
    rcases e0E.1 hx with h | h
    ·simp [-bind_some, h]
    ·simp [-bind_some, h]
theorem a3B (l:List Mrk) (m:Mrk) (hs:a6v l):a6v (a5n l m):=by
 unfold a5n
 by_cases hf:a6S l m=true
 ·rw [if_pos hf]
  unfold a6S at hf
  cases hg:l[kM m l]? with
  | none=>rw [hg] at hf;cases hf
  | some y =>
   rw [hg] at hf
   have hy:a4t y m=0:=by simpa using hf
   have hy:=(a5u _ _).1 hy
   unfold a6v at *
   rw [List.pairwise_iff_getElem] at hs ⊢
   obtain ⟨g1,g2⟩:=e0y.1 hg
   intro i j hi hj hij
   simp only [List.length_set] at hi hj
   have:=hs i j hi hj hij
   simp only [List.getElem_set]
   split <;> split
   ·omega
   ·rename_i h1 h2;subst h1;rw [g2] at this;unfold ml at this ⊢;omega
   ·rename_i h1 h2;subst h2;rw [g2] at this;unfold ml at this ⊢;omega
   ·exact this
 ·rw [if_neg hf]
  unfold a6v at *
  have h1:=b8d m l
  have h2:=c4m m l hs
  have hn:∀ y∈l,¬ (y.h=m.h∧y.f=m.f):=fun y hy hk=>hf ((a9N l m hs).2 ⟨y,hy,hk⟩)
  have h3:∀ x∈l.drop (kM m l),ml m x:=fun x hx=>c8X (h2 x hx) (hn x (List.mem_of_mem_drop hx))
  rw [List.append_assoc,List.pairwise_append]
  refine ⟨hs.sublist (List.take_sublist _ _),List.pairwise_cons.2 ⟨h3,hs.sublist (List.drop_sublist _ _)⟩,fun a ha b hb=>?_⟩
  rcases e0D.1 hb with rfl | hb
  ·exact h1 a ha
  ·exact c4F (h1 a ha) (h3 b hb)
theorem a7v (l:List Mrk) (m:Mrk):(a5n l m).length≤l.length+1:=by
 have:=b5K m l
 unfold a5n
 split <;> simp [-bind_some] <;> omega
theorem a3Q (l:List Mrk) (hs:a6v l) (h f:Int):(∃ x∈l,x.h=h∧x.f=f∧a1s l h f=x.o)∨((∀ x∈l,¬ (x.h=h∧x.f=f))∧a1s l h f=0):=by
 by_cases hf:a6S l ⟨h,f,0⟩=true
 ·left
  unfold a6S at hf
  unfold a1s
  cases hg:l[kM ⟨h,f,0⟩ l]? with
  | none=>rw [hg] at hf;cases hf
  | some y =>
   rw [hg] at hf
   have hy:a4t y ⟨h,f,0⟩=0:=by simpa using hf
   have hk:=(a5u _ _).1 hy
   exact ⟨y,e0w hg,hk.1,hk.2,by simp [-bind_some, hy]⟩
 ·right
  refine ⟨fun x hx hk=>hf ((a9N l _ hs).2 ⟨x,hx,hk⟩),?_⟩
  unfold a6S at hf
  unfold a1s
  cases hg:l[kM ⟨h,f,0⟩ l]? with
  | none=>rfl
  | some y =>
   rw [hg] at hf
   have hy:¬ a4t y ⟨h,f,0⟩=0:=by simpa using hf
   simp [-bind_some, hy]
theorem a7Z (l:List Mrk) (hs:a6v l) (m:Mrk) (h f:Int):a1s (a5n l m) h f=if m.h=h∧m.f=f then m.o else a1s l h f:=by
 have ha:=a3B l m hs
 rcases a3Q _ ha h f with ⟨x,hx,h1,h2,h3⟩ | ⟨h1,h2⟩
 ·rw [h3]
  rcases (a4i l m hs x).1 hx with rfl | ⟨hx,hn⟩
  ·rw [if_pos ⟨h1,h2⟩]
  ·rw [if_neg (by rw [← h1,← h2];exact fun hh=>hn ⟨hh.1.symm,hh.2.symm⟩)]
   rcases a3Q l hs h f with ⟨y,hy,k1,k2,k3⟩ | ⟨k1,k2⟩
   ·rw [k3,b0a hs hx hy (by omega) (by omega)]
   ·exact absurd ⟨h1,h2⟩ (k1 x hx)
 ·rw [h2]
  have hm:¬ (m.h=h∧m.f=f):=h1 m ((a4i l m hs m).2 (.inl rfl))
  rw [if_neg hm]
  rcases a3Q l hs h f with ⟨y,hy,k1,k2,k3⟩ | ⟨k1,k2⟩
  ·exact absurd ⟨k1,k2⟩ (h1 y ((a4i l m hs y).2 (.inr ⟨hy,fun hh=>hm ⟨by omega,by omega⟩⟩)))
  ·exact k2.symm
theorem c4h {hst fil fr:Int} {i:It} (hi:ItOK hst fil fr i) (h0:0≤hst) (h9:hst≤999) (f0:0≤fil) (f9:fil≤1000) (r0:0≤fr) (r9:fr≤50000):(i.r=[]∧EvGood i.e)∨SkGood i:=by
 have c1:=a2C _ _ _ hi.ch
 have hn3:=hi.n3
 have hn1:=hi.n1
 have pl:PlOK i.e:=⟨by rw [hi.host];exact h0,by rw [hi.host];exact h9,by rw [hi.file];exact f0,by rw [hi.file];omega,by rw [hi.fr];omega,by rw [hi.fr];omega,by omega⟩
 have ch:chain i.e.a2 i.e.ls i.e.a3:=by rw [hi.fr];exact hi.ch
 by_cases hr:i.r=[]
 ·left
  obtain ⟨e1,e2,e3,e4,e5,e6,e7,e8⟩:=hi.ev hr
  have hfl:i.e.fs.length≤4:=by
   have:=e7.1.length_le
   simpa using this
  exact ⟨hr,pl,e1,e2,e3,e4,hi.wt hr,hn1,by omega,ch,(show ∀ s∈lt98_5,s.length≤32 by decide) _ e5,(show ∀ s∈lt98_6,s.length≤32 by decide) _ e6,by omega,c8g e7.1,c1Z e7.1,fun p hp=>by have:=e7.2 p hp;omega⟩
 ·right
  obtain ⟨e1,e2,e3,e4,e5,e6,e7⟩:=hi.sk hr
  exact ⟨hr,(show ∀ s∈lt98_4,s.length≤32 by decide) _ e1,pl,hn1,by omega,ch,e2,e3,e4,e5,e6,e7⟩
structure BIt (hst:Int) (i:It):Prop where
 host:i.e.a0=hst
 f5:5≤i.e.a1
 f7:i.e.a1≤7
 r0:0≤i.e.a2
 r9:i.e.a2≤50000
 ch:chain i.e.a2 i.e.ls i.e.a3
 n1:1≤i.e.ls.length
 n6:i.e.ls.length≤6
 rule:i.r=[]∨i.r∈lt98_4
 fs:i.e.fs.length≤4
 good:(i.r=[]∧EvGood i.e)∨SkGood i
theorem b6u {hst fil fr:Int} {i:It} (hi:ItOK hst fil fr i) (h0:0≤hst) (h9:hst≤999) (f5:5≤fil) (f7:fil≤7) (r0:0≤fr) (r9:fr≤50000):BIt hst i:=by
 have hn3:=hi.n3
 refine ⟨hi.host,by rw [hi.file];exact f5,by rw [hi.file];exact f7,by rw [hi.fr];exact r0,by rw [hi.fr];exact r9,by rw [hi.fr];exact hi.ch,hi.n1,by omega,?_,?_,c4h hi h0 h9 (by omega) (by omega) r0 r9⟩
 ·by_cases hr:i.r=[]
  ·exact .inl hr
  ·exact .inr (hi.sk hr).1
 ·by_cases hr:i.r=[]
  ·have:=(hi.ev hr).2.2.2.2.2.2.1.1.length_le
   simpa using this
  ·rw [(hi.sk hr).2.2.2.2.2.1];simp [-bind_some]
structure TogOf (a b j:It):Prop where
 r:j.r=b.r
 a0:j.e.a0=b.e.a0
 a1:j.e.a1=b.e.a1
 a2:j.e.a2=a.e.a2
 a3:j.e.a3=b.e.a3
 a5:j.e.a5=b.e.a5
 a6:j.e.a6=b.e.a6
 s7:j.e.s7=b.e.s7
 s8:j.e.s8=b.e.s8
 ls:j.e.ls=if b.r=[] then a.e.ls++b.e.ls else (a.e.ls++b.e.ls).map a5q
 fs:j.e.fs=b.e.fs
theorem b0I:∀ (ls rs:List Lin) (a b c:Int),chain a ls b→chain b rs c→chain a (ls++rs) c
 | [],rs,a,b,c,h,k=>by simp only [chain] at h;subst h;exact k
 | x::ls,rs,a,b,c,h,k=>⟨h.1,h.2.1,h.2.2.1,h.2.2.2.1,b0I ls rs _ b c h.2.2.2.2 k⟩
theorem c3J {hst fil fr fb:Int} {a b j:It} (ha:ItOK hst fil fr a) (hb:ItOK hst fil fb b) (hab:a.e.a3=fb) (h0:0≤hst) (h9:hst≤999) (f5:5≤fil) (f7:fil≤7) (r0:0≤fr) (r9:fr≤40000) (hj:TogOf a b j):BIt hst j:=by
 have na1:=ha.n1
 have na3:=ha.n3
 have nb1:=hb.n1
 have nb3:=hb.n3
 have ca:=a2C _ _ _ ha.ch
 have cb:=a2C _ _ _ hb.ch
 have hll:j.e.ls.length=a.e.ls.length+b.e.ls.length:=by
  rw [hj.ls];split <;> simp [-bind_some]
 have ch0:chain a.e.a2 (a.e.ls++b.e.ls) b.e.a3:=by
  rw [ha.fr]
  exact b0I _ _ _ _ _ ha.ch (by rw [hab];exact hb.ch)
 have ch:chain j.e.a2 j.e.ls j.e.a3:=by
  rw [hj.a2,hj.a3,hj.ls]
  split
  ·exact ch0
  ·exact a5t _ _ _ ch0
 have pl:PlOK j.e:=⟨by rw [hj.a0,hb.host];exact h0,by rw [hj.a0,hb.host];exact h9,by rw [hj.a1,hb.file];omega,by rw [hj.a1,hb.file];omega,by rw [hj.a2,ha.fr];omega,by rw [hj.a2,hj.a3,ha.fr];omega,by rw [hj.a3];omega⟩
 have hbb:=b6u hb h0 h9 f5 f7 (by omega) (by omega)
 refine ⟨by rw [hj.a0,hb.host],by rw [hj.a1,hb.file];exact f5,by rw [hj.a1,hb.file];exact f7,by rw [hj.a2,ha.fr];exact r0,by rw [hj.a2,ha.fr];omega,ch,by omega,by omega,by rw [hj.r];exact hbb.rule,by rw [hj.fs];exact hbb.fs,?_⟩
 by_cases hr:b.r=[]
 ·left
  obtain ⟨e1,e2,e3,e4,e5,e6,e7,e8⟩:=hb.ev hr
  have hfl:=hbb.fs
  exact ⟨by rw [hj.r,hr],pl,by rw [hj.a5];exact e1,by rw [hj.a5];exact e2,by rw [hj.a6];exact e3,by rw [hj.a6];exact e4,by rw [hj.a6];exact hb.wt hr,by omega,by omega,ch,by rw [hj.s7];exact (show ∀ s∈lt98_5,s.length≤32 by decide) _ e5,by rw [hj.s8];exact (show ∀ s∈lt98_6,s.length≤32 by decide) _ e6,by rw [hj.fs];omega,by rw [hj.fs];exact c8g e7.1,by rw [hj.fs];exact c1Z e7.1,by rw [hj.fs];exact fun p hp=>by have:=e7.2 p hp;omega⟩
 ·right
  obtain ⟨e1,e2,e3,e4,e5,e6,e7⟩:=hb.sk hr
  exact ⟨by rw [hj.r];exact hr,by rw [hj.r];exact (show ∀ s∈lt98_4,s.length≤32 by decide) _ e1,pl,by omega,by omega,ch,by rw [hj.a5];exact e2,by rw [hj.a6];exact e3,by rw [hj.s7];exact e4,by rw [hj.s8];exact e5,by rw [hj.fs];exact e6,by
   rw [hj.ls,if_neg hr]
   intro l hl
   obtain ⟨x,_,rfl⟩:=e0F.1 hl
   rfl⟩
theorem a6m (hst fil:Int):∀ (l:List It) (a b:Int),a9U hst fil a l b→∀ (k:Nat) (i:It),l[k]?=some i→∃ f,ItOK hst fil f i∧a≤f∧f≤a+108*k∧∀ j,l[k+1]?=some j→ItOK hst fil i.e.a3 j
 | [],_,_,_,k,i,hi=>by simp at hi
 | x::r,a,b,h,0,i,hi=>by
  simp at hi
  subst hi
  refine ⟨a,h.1,by omega,by omega,fun j hj=>?_⟩
  cases r with
  | nil=>simp at hj
  | cons y r=>simp at hj;subst hj;exact h.2.1
 | x::r,a,b,h,k+1,i,hi=>by
  obtain ⟨f,h1,h2,h3,h4⟩:=a6m hst fil r _ b h.2 k i (by simpa using hi)
  have c:=a2C _ _ _ h.1.ch
  have:=h.1.n3
  exact ⟨f,h1,by omega,by push_cast;omega,fun j hj=>h4 j (by simpa using hj)⟩
def a6W (b:Bool) (l:List Lin) (k:Nat):List Lin:=if b=true then (l.take k).map a5q++l.drop k else l
theorem a7y (b:Bool) (l:List Lin) (k:Nat) (hk:k≤l.length):(a6W b l k).length=l.length:=by
 unfold a6W
 split
 ·simp [-bind_some];omega
 ·rfl
theorem d6h (a b:It) (h:Hp) (hla:a.e.ls.length≤1000) (hlb:b.e.ls.length≤1000) (hn:1≤a.e.ls.length):∃ j,R b4r [.agg (itr a),.agg (itr b)] h=some (.agg (itr j),h)∧TogOf a b j:=by
 suffices Wp (R b4r [.agg (itr a),.agg (itr b)] h) (fun p=>p.2=h∧∃ j,p.1 = .agg (itr j)∧TogOf a b j) by
  obtain ⟨⟨x,h'⟩,h1,rfl,j,rfl,h2⟩:=this
  exact ⟨j,h1,h2⟩
 rw [d2a]
 have q4:∀ i:It,a0a tab a0y 4 (.fptr (evr i.e))=some (.fptr [i.e.ld,.int .i64 i.e.a5,.int .i64 i.e.a6,.str i.e.s7,.str i.e.s8,i.e.fd]):=fun i=>id rfl
 have q2:∀ i:It,a0a tab a0y 2 (.fptr (evr i.e))=some (.fptr [.int .i64 i.e.a2,.int .i64 i.e.a3,i.e.ld,.int .i64 i.e.a5,.int .i64 i.e.a6,.str i.e.s7,.str i.e.s8,i.e.fd]):=fun i=>id rfl
 generalize hZ:([.str [],.int .i64 0,.int .i64 0,.int .i64 0,.int .i64 0,.nils,.int .i64 0,.int .i64 0,.str [],.str [],.nils]:List D)=Z
 have hZl:Z.length=11:=by subst hZ;rfl
 simp only [c6F,bs,a0V,b2w,hZ,e0h,c5B,q2,q4,ld3,b1R]
 have hl0:(a0C h a0z 11 [Z]).length=h.length+1:=by simp [-bind_some, a0C]
 have p8:(a0C (a0C h a0z 11 [Z]) a0z 11 [Z])[h.length]?=some (.row a0z 11 [Z]):=by
  rw [a0H _ _ _ _ (by omega)];exact a0Z _ _ _ _
 have p9:(a0C (a0C h a0z 11 [Z]) a0z 11 [Z])[h.length+1]?=some (.row a0z 11 [Z]):=by
  rw [← hl0];exact a0Z _ _ _ _
 have hb:∀ q,q<h.length→(a0C (a0C h a0z 11 [Z]) a0z 11 [Z])[q]?=h[q]?:=fun q hq=>by
  rw [a0H _ _ _ _ (by omega),a0H _ _ _ _ hq]
 have hgl:(a0C (a0C h a0z 11 [Z]) a0z 11 [Z]).length=h.length+2:=by simp [-bind_some, a0C]
 rw [hl0]
 generalize a0C (a0C h a0z 11 [Z]) a0z 11 [Z]=g0 at p8 p9 hb hgl
 refine a6K p9 (by rfl) (by rfl) (by rw [hZl];exact Nat.le_refl _) (by rfl) fun g1 k9 s1=>?_
 replace k9:g1[h.length+1]?=some (.row a0z 11 [itr b]):=by
  rw [k9];subst hZ;rfl
 simp only [a2I,a5v,a2c,Nat.zero_add,bs]
 refine b9O k9 (by rfl) (by rfl) (by simp [-bind_some, itr,evr]) (by rfl) fun g2 k9 s2=>?_
 try simp only [bs]
 refine b2T k9 (by rfl) (by rfl) (by simp [-bind_some, itr,evr,spl,a0B]) (by rfl) fun g3 k9 s3=>?_
 replace k9:g3[h.length+1]?=some (.row a0z 11 [[.str b.r,.int .i64 b.e.a0,.int .i64 b.e.a1,.int .i64 a.e.a2,.int .i64 b.e.a3,.nils,.int .i64 b.e.a5,.int .i64 b.e.a6,.str b.e.s7,.str b.e.s8,b.e.fd]]):=k9
 have s13q:=(s1.trans s2).trans s3
 replace p8:=(s13q.2 h.length (by omega)).trans p8
 replace hb:∀ q,q<h.length→g3[q]?=h[q]?:=fun q hq=>(s13q.2 q (by omega)).trans (hb q hq)
 have hgl3:g3.length=h.length+2:=by rw [s13q.1,hgl]
 clear s1 s2 s3 s13q p9 hgl
 try simp only [bs]
 refine b5W (n0:=h.length+2) (by omega) (Own.nils _ _ _ _) (a2l _ a.e.hld) (by simp;omega) fun x1 g4 ow1 len1 bel1 _ _=>?_
 rw [List.nil_append] at ow1
 try simp only [bs]
 refine b5W (n0:=h.length+2) (by omega) ow1 (a2l _ b.e.hld) (by simp;omega) fun x2 g5 ow2 len2 bel2 _ _=>?_
 rw [← e0o] at ow2
 have hbel:∀ q,q<h.length+2→g5[q]?=g3[q]?:=fun q hq=>(bel2 q hq).trans (bel1 q hq)
 replace k9:=(hbel _ (by omega)).trans k9
 replace p8:=(hbel _ (by omega)).trans p8
 replace hb:∀ q,q<h.length→g5[q]?=h[q]?:=fun q hq=>(hbel q (by omega)).trans (hb q hq)
 have hgl5:h.length+2≤g5.length:=by omega
 clear hbel bel1 bel2 ow1 len1 len2
 generalize hL:a.e.ls++b.e.ls=L at ow2
 have hLl:L.length=a.e.ls.length+b.e.ls.length:=by rw [← hL];simp [-bind_some]
 obtain ⟨ob,hob,rfl,hgo⟩:=a5m ow2 (i:=0) (by simp;omega)
 simp only [e0n] at *
 refine Wp.chk trivial ?_
 try simp only [bs,e0h]
 generalize hB:(!(b.r==([]:Str)))=B
 refine Wp.loop (fun n ds g=>∃ (k:Nat) (u v y:D),ds=[.int .i64 k,u,v]∧n+k=L.length∧h.length+2≤g.length∧(∀ q,q<h.length→g[q]?=h[q]?)∧g[h.length]?=some (.row a0z 11 [Z]) ∧
   g[h.length+1]?=some (.row a0z 11 [[.str b.r,.int .i64 b.e.a0,.int .i64 b.e.a1,.int .i64 a.e.a2,.int .i64 b.e.a3,y,.int .i64 b.e.a5,.int .i64 b.e.a6,.str b.e.s7,.str b.e.s8,b.e.fd]]) ∧
   g[ob]?=some (.row a1Z 3 ((a6W B L k).map a1D))∧Own g (h.length+2) a1Z 3 (((a6W B L k).take k).map a1D) y∧¬ y.inOb ob)
  (fun r=>r.1 = .ext 0∧∃ y,h.length+2≤r.2.2.length∧(∀ q,q<h.length→r.2.2[q]?=h[q]?)∧r.2.2[h.length]?=some (.row a0z 11 [Z]) ∧
   r.2.2[h.length+1]?=some (.row a0z 11 [[.str b.r,.int .i64 b.e.a0,.int .i64 b.e.a1,.int .i64 a.e.a2,.int .i64 b.e.a3,y,.int .i64 b.e.a5,.int .i64 b.e.a6,.str b.e.s7,.str b.e.s8,b.e.fd]]) ∧
   Own r.2.2 (h.length+2) a1Z 3 ((a6W B L L.length).map a1D) y) L.length
  ⟨0,_,_,.nils,rfl,rfl,hgl5,hb,p8,k9,by rw [hgo];unfold a6W;split <;> simp [-bind_some],by simpa using Own.nils _ _ _ _,by rintro ⟨_,_,hh⟩;cases hh⟩ ?_ ?_
 ·rintro n ds g ⟨k,u,v,y,rfl,hk,hgl,hb,p8,k9,ho,ow,hny⟩
  have hlen:(a6W B L k).length=L.length:=a7y _ _ _ (by omega)
  simp only [b3k,a0e,a0m,bs,e0h,c8L,a0o,c5A,c5C,a2F,hB]
  refine Wp.dif ?_ ?_
  ·intro h0
   have h0:k<L.length:=dl_ h0
   have hkl:(0:Int)≤(k:Int)∧(k:Int)<(L.length:Int):=by omega
   have hw:=wi_ k (by omega)
   refine Wp.join (P:=fun r=>∃ g',r=(.nrm,[],g')∧h.length+2≤g'.length∧(∀ q,q<h.length→g'[q]?=h[q]?)∧g'[h.length]?=some (.row a0z 11 [Z]) ∧
    g'[h.length+1]?=some (.row a0z 11 [[.str b.r,.int .i64 b.e.a0,.int .i64 b.e.a1,.int .i64 a.e.a2,.int .i64 b.e.a3,y,.int .i64 b.e.a5,.int .i64 b.e.a6,.str b.e.s7,.str b.e.s8,b.e.fd]]) ∧
    g'[ob]?=some (.row a1Z 3 ((a6W B L (k+1)).map a1D))∧Own g' (h.length+2) a1Z 3 (((a6W B L k).take k).map a1D) y) ?_ ?_ ?_
   ·intro hbt
    subst hbt
    have hT:∀ k,a6W true L k=(L.take k).map a5q++L.drop k:=fun k=>rfl
    simp only [c1g,hkl,and_self,if_true,bs,a3h,Nat.zero_add,e0r]
    refine d0f ho (by rw [hT];exact b1r L k h0) (by rfl) (by simp [-bind_some, a1D]) (by rfl) fun g' q s=>?_
    have hset:((a6W true L k).map a1D).set k (spl (a1D L[k]) 2 (a0B (.str [])))=(a6W true L (k+1)).map a1D:=by
     rw [hT,hT];exact b1M L k h0
    rw [hset] at q
    exact .some ⟨g',rfl,by have:=s.1;omega,fun q hq=>(s.2 q (by omega)).trans (hb q hq),(s.2 _ (by omega)).trans p8,(s.2 _ (by omega)).trans k9,q,ow.keep fun q hq hin=>s.2 q fun hh=>hny (hh▸hin)⟩
   ·intro hbf
    subst hbf
    exact .some ⟨g,rfl,hgl,hb,p8,k9,ho,ow⟩
   rintro _ ⟨g',rfl,hgl,hb,p8,k9,ho,ow⟩
   have hx:(a6W B L (k+1))[k]?=some ((a6W B L (k+1))[k]'(by rw [a7y _ _ _ (by omega)];omega)):=e0x _
   generalize (a6W B L (k+1))[k]'(by rw [a7y _ _ _ (by omega)];omega)=x at hx
   have hxr:((a6W B L (k+1)).map a1D)[k]?=some (a1D x):=by rw [e0v,hx];rfl
   have hld:a0c tab g' a1Z (.ptr ob k 0)=some (.agg (a1D x)):=by
    rw [d5C,a0F ho,hxr];rfl
   have hbs:a0W tab a1j 1 [0] [.agg (a1D x)]=some (.sl 3 true [a1D x]):=id rfl
   simp only [a0k,a2I,a2c,Nat.zero_add,a7b,a0F k9,e0k,bs,List.drop_succ_cons,List.drop_zero,List.head?_cons,c1g,hkl,and_self,if_true,e0r,hld,hbs]
   have htl:((a6W B L k).take k).length≤2000:=by simp;omega
   refine b5W (n0:=h.length+2) hgl ow (a1e _ _ _ _) (by simp at htl ⊢;omega) fun y' g'' ow' len' bel' keep' fre'=>?_
   try simp only [bs]
   have oc:=a0O (a2f ow')
   refine b2T ((bel' (h.length+1) (by omega)).trans k9) (by rfl) (by rw [oc.1];rfl) (by simp) oc.2 fun g3 q3 t3=>?_
   rw [oc.1] at q3
   have holt:=(e0y.1 ho).1
   have ho2:h.length+2≤ob:=hob
   have htk:((a6W B L k).take k).map a1D++[a1D x]=((a6W B L (k+1)).take (k+1)).map a1D:=by
    have e1:(a6W B L k).take k=(a6W B L (k+1)).take k:=by
     unfold a6W
     split
     ·rw [List.take_append_of_le_length (by simp;omega),List.take_append_of_le_length (by simp;omega),← List.map_take,← List.map_take,List.take_take,List.take_take]
      congr 2;omega
     ·rfl
    rw [e1,e0u,hx]
    simp [-bind_some]
   rw [htk] at ow'
   simp only [bs,a0r,hw]
   refine .some (.inl ⟨rfl,n - 1,by omega,k+1,_,_,y',rfl,by omega,by have:=t3.1;show h.length+2≤g3.length;omega,fun q hq=>(t3.2 q (by omega)).trans ((bel' q (by omega)).trans (hb q hq)),(t3.2 _ (by omega)).trans ((bel' _ (by omega)).trans p8),q3,(t3.2 _ (by omega)).trans ((keep' ob holt hny).trans ho),ow'.keep fun q hq _=>t3.2 q (by omega),fun hin=>?_⟩)
   rcases fre' ob hin with hh | hh
   ·exact hny hh
   ·omega
  ·intro h0
   have h0:k=L.length:=by
    have:¬ (k:Int)<L.length:=by simpa using h0
    omega
   subst h0
   refine .some (.inr ⟨by simp,rfl,y,hgl,hb,p8,k9,?_⟩)
   rw [List.take_of_length_le (by omega)] at ow
   exact ow
 ·rintro ⟨ex,ds,g⟩ ⟨q1,y,hgl,hb,p8,k9,ow⟩
  simp only at q1 hgl hb p8 k9 ow
  subst q1
  simp only [a0l,a0k,bs]
  have hlen:(a6W B L L.length).length=L.length:=a7y _ _ _ (Nat.le_refl _)
  have hsl:=a1R (n0:=h.length) (n:=2) ow (by omega) (fun a _=>a3c _ g _ a)
  have hcs:([.str b.r,.int .i64 b.e.a0,.int .i64 b.e.a1,.int .i64 a.e.a2,.int .i64 b.e.a3,y,.int .i64 b.e.a5,.int .i64 b.e.a6,.str b.e.s7,.str b.e.s8,b.e.fd]:List D).length=11:=rfl
  simp only [a4E k9 hcs,bs]
  have hok:(D.agg [.str b.r,.int .i64 b.e.a0,.int .i64 b.e.a1,.int .i64 a.e.a2,.int .i64 b.e.a3,y,.int .i64 b.e.a5,.int .i64 b.e.a6,.str b.e.s7,.str b.e.s8,b.e.fd]).okv=true:=by
   have h1:=a2f ow
   have h2:=a0X b.e.hfd
   generalize b.e.fd=fd at h2
   cases y <;> first | (cases fd <;> first | rfl | (simp [-bind_some, D.one] at h2)) | (simp [-bind_some, D.one] at h1)
  refine a6K p8 (by rfl) (by rfl) (by rw [hZl];exact Nat.le_refl _) hok fun g2 q8 t2=>?_
  replace q8:g2[h.length]?=some (.row a0z 11 [[.str b.r,.int .i64 b.e.a0,.int .i64 b.e.a1,.int .i64 a.e.a2,.int .i64 b.e.a3,y,.int .i64 b.e.a5,.int .i64 b.e.a6,.str b.e.s7,.str b.e.s8,b.e.fd]]):=by
   rw [q8];subst hZ;rfl
  simp only [a4E q8 hcs,bs,a0j]
  have ow2:=ow.keep (h':=g2) fun q hq _=>t2.2 q (by omega)
  have hsl:=a1R (n0:=h.length) (n:=2) ow2 (by omega) (fun a _=>a3c _ g2 _ a)
  refine ⟨(.agg (itr ⟨b.r,⟨b.e.a0,b.e.a1,a.e.a2,b.e.a3,a6W B L L.length,frz h.length g2 3 y,b.e.a5,b.e.a6,b.e.s7,b.e.s8,b.e.fs,b.e.fd,b.e.hfd,b.e.hl,hsl,by omega⟩⟩),h),a0M ?_ (a6n _ _) (by have:=t2.1;omega) (fun q hq=>(t2.2 q (by omega)).trans (hb q hq)),rfl,_,rfl,⟨rfl,rfl,rfl,rfl,rfl,rfl,rfl,rfl,rfl,?_,rfl⟩⟩
  ·have hf:=a1P (n0:=h.length) (h:=g2) (n:=2) b.e.hfd (fun a _=>a4y _ g2 _ a)
   simp only [a5x,e0p,e0q,a4B,b2n,hf]
   rfl
  ·show a6W B L L.length=_
   by_cases hr:b.r=[]
   ·rw [if_pos hr]
    have:B=false:=by rw [← hB,hr];rfl
    subst this
    exact hL.symm
   ·rw [if_neg hr]
    have:B=true:=by rw [← hB];simp [-bind_some, hr]
    subst this
    rw [hL]
    simp [-bind_some, a6W]
def b9R (host:Int) (p:List It × D × Int):List D:=[.int .i64 host,.int .i64 p.2.2,p.2.1]
def atR (n:Nat):List D:=[.int .i64 (n:Int)]
def c3V (ps:List (List It × D)):List (Int × Int):=ps.flatMap fun p=>p.1.map fun i=>(i.e.a1,i.e.a3)
theorem a9G {ps:List (List It × D)} {f k:Nat} {p:List It × D} {i:It} (hp:ps[f]?=some p) (hi:p.1[k]?=some i):(i.e.a1,i.e.a3)∈c3V ps :=
 List.mem_flatMap.2 ⟨p,e0w hp,e0F.2 ⟨i,e0w hi,rfl⟩⟩
theorem b3R (most:Int):∀ (ps:List (List It × D)),(∀ p∈ps,(p.1.length:Int)≤most)→((c3V ps).length:Int)≤ps.length*most
 | [],_=>by simp [-bind_some, c3V]
 | p::r,h=>by
  have h1:=h p (by simp)
  have h2:=b3R most r fun q hq=>h q (by simp [-bind_some, hq])
  have h3:(((p::r).length:Nat):Int)*most=r.length*most+most:=by
   rw [e0z]
   push_cast
   rw [Int.add_mul,Int.one_mul]
  rw [h3]
  unfold c3V at h2 ⊢
  rw [List.flatMap_cons,e0m,e0n]
  push_cast
  omega
def b9Q (host:Int) (ps:List (List It × D)) (i:It):Prop:=BIt host i∧(i.e.a1,i.e.a3)∈c3V ps
structure BtI (h:Hp) (o:Nat) (host:Int) (ps:List (List It × D)) (qa:Nat) (g:Hp) (x:D) (bt:List (List It × D × Int)) (ats:List Nat):Prop where
 len:h.length≤g.length
 gr:∀ q,q<h.length→q≠o→g[q]?=h[q]?
 cd:CD g o
 qa0:h.length≤qa
 at_:g[qa]?=some (.row ty3 1 (ats.map atR))
 al:ats.length=ps.length
 ab:∀ (f:Nat) (n:Nat) p,ats[f]?=some n→ps[f]?=some p→n≤p.1.length
 out:Own g h.length a0u 3 (bt.map (b9R host)) x
 its:∀ p∈bt,Own g h.length a0z 11 (p.1.map itr) p.2.1∧p.1.length≤3∧(∀ i∈p.1,b9Q host ps i)∧0≤p.2.2∧p.2.2≤12
structure BtL (h:Hp) (o:Nat) (qa pb:Nat) (x:D) (bt:List (List It × D × Int)):Prop where
 hh:h.length≤pb
 ho:o<h.length
 hqa:qa<pb
 hx:∀ q,x.inOb q→q<pb
 hbs:∀ p∈bt,∀ q,p.2.1.inOb q→q<pb
theorem BtI.keep {h:Hp} {o:Nat} {host:Int} {ps:List (List It × D)} {qa:Nat} {g g':Hp} {x:D} {bt:List (List It × D × Int)} {ats:List Nat} {pb:Nat} (B:BtI h o host ps qa g x bt ats) (L:BtL h o qa pb x bt) (hcd:CD g' o) (hlen:g.length≤g'.length) (hk:∀ q,q<pb→q≠o→g'[q]?=g[q]?):BtI h o host ps qa g' x bt ats:=by
 have h1:=L.hh
 have h2:=L.ho
 have h3:=L.hqa
 have h4:=B.qa0
 refine ⟨Nat.le_trans B.len hlen,fun q hq hn=>(hk q (by omega) hn).trans (B.gr q hq hn),hcd,B.qa0,(hk qa h3 (by omega)).trans B.at_,B.al,B.ab,B.out.keep fun q hq hin=>hk q (L.hx q hin) (by omega),fun p hp=>⟨(B.its p hp).1.keep fun q hq hin=>hk q (L.hbs p hp q hin) (by omega),(B.its p hp).2⟩⟩
structure BnI (h:Hp) (o:Nat) (host:Int) (ps:List (List It × D)) (qa:Nat) (x:D) (bt:List (List It × D × Int)) (pb:Nat) (nu:Int) (g:Hp) (ats:List Nat) (its:List It) (y:D):Prop where
 B:BtI h o host ps qa g x bt ats
 pg:pb<g.length
 pr:g[pb]?=some (.row a0u 3 [[.int .i64 host,.int .i64 nu,y]])
 ow:Own g (pb+1) a0z 11 (its.map itr) y
 ok:∀ i∈its,b9Q host ps i
section
variable {h:Hp} {o:Nat} {host:Int} {ps:List (List It × D)} {qa:Nat} {x:D} {bt:List (List It × D × Int)} {pb:Nat} {nu:Int}
theorem BnI.keep {g g':Hp} {ats:List Nat} {its:List It} {y:D} (b:BnI h o host ps qa x bt pb nu g ats its y) (L:BtL h o qa pb x bt) (hcd:CD g' o) (hlen:g.length≤g'.length) (hk:∀ q,q≤pb→q≠o→g'[q]?=g[q]?) (hy:∀ q,y.inOb q→g'[q]?=g[q]?):BnI h o host ps qa x bt pb nu g' ats its y:=by
 have:=L.hh
 have:=L.ho
 exact ⟨b.B.keep L hcd hlen fun q hq hn=>hk q (by omega) hn,by have:=b.pg;omega,(hk pb (Nat.le_refl _) (by omega)).trans b.pr,b.ow.keep fun q _ hin=>hy q hin,b.ok⟩
theorem BnI.next {g g':Hp} {ats:List Nat} {its:List It} {y:D} (b:BnI h o host ps qa x bt pb nu g ats its y) (L:BtL h o qa pb x bt) (hcd:CD g' o) (hs:Same o g g'):BnI h o host ps qa x bt pb nu g' ats its y :=
 b.keep L hcd (Nat.le_of_eq hs.1.symm) (fun q _ hn=>hs.2 q hn) fun q hin=>hs.2 q (by have:=(b.ow.lt hin).1;have:=L.hh;have:=L.ho;omega)
theorem BnI.put {g g':Hp} {ats:List Nat} {its:List It} {y:D} {z:Nat} (b:BnI h o host ps qa x bt pb nu g ats its y) (L:BtL h o qa pb x bt) (hz:pb<z) (hzy:¬ y.inOb z) (hs:Same z g g'):BnI h o host ps qa x bt pb nu g' ats its y :=
 b.keep L (b.B.cd.keep (hs.2 o (by have:=L.hh;have:=L.ho;omega))) (Nat.le_of_eq hs.1.symm) (fun q hq _=>hs.2 q (by omega)) fun q hin=>hs.2 q fun hh=>hzy (hh▸hin)
theorem BnI.new {g g':Hp} {ats:List Nat} {its:List It} {y:D} (b:BnI h o host ps qa x bt pb nu g ats its y) (L:BtL h o qa pb x bt) (hl:g.length≤g'.length) (hk:∀ q,q<g.length→g'[q]?=g[q]?):BnI h o host ps qa x bt pb nu g' ats its y:=by
 have h1:=b.pg
 have h2:=L.hh
 have h3:=L.ho
 exact b.keep L (b.B.cd.keep (hk o (by omega))) hl (fun q hq _=>hk q (by omega)) fun q hin=>hk q (b.ow.lt hin).2
theorem c1e {g:Hp} {ats:List Nat} {n f a:Nat} (hg:g[qa]?=some (.row ty3 1 (ats.map atR))) (hn:ats.length=n) (hf:ats[f]?=some a):a0b tab a6X (.msl 1 qa 0 n) (.int .i64 (f:Int))=some (.ptr qa f 0)∧a0c tab g ty3 (.ptr qa f 0)=some (.int .i64 a):=by
 have:=(e0y.1 hf).1
 have hh:(0:Int)≤(f:Int)∧(f:Int)<(n:Int):=by omega
 constructor
 ·rw [d5m,if_pos hh];simp [-bind_some]
 ·rw [a6D,a0F hg,e0v,hf];rfl
end
theorem c4u {g:Hp} {z:Nat} {i:It} (hz:g[z]?=some (.row a0z 11 [itr i])):a0c tab g a0z (.ptr z 0 0)=some (.agg (itr i)):=a4E hz rfl
theorem b2t (i:It):(D.agg (itr i)).okv=true:=by
 have h1:=a0X i.e.hld
 have h2:=a0X i.e.hfd
 have h3:(D.agg (itr i)) = .agg [.str i.r,.int .i64 i.e.a0,.int .i64 i.e.a1,.int .i64 i.e.a2,.int .i64 i.e.a3,i.e.ld,.int .i64 i.e.a5,.int .i64 i.e.a6,.str i.e.s7,.str i.e.s8,i.e.fd]:=rfl
 rw [h3]
 generalize i.e.ld=a at h1
 generalize i.e.fd=b at h2
 cases a <;> first | (cases b <;> first | rfl | (simp [-bind_some, D.one] at h2)) | (simp [-bind_some, D.one] at h1)
theorem b5h {g:Hp} {z:Nat} {row:List D} {i:It} (hz:g[z]?=some (.row a0z 11 [row])) (hr:row.length=11) {β:Type} {f:Hp→Option β} {Q:β→Prop}
  (k:∀ g',g'[z]?=some (.row a0z 11 [itr i])→Same z g g'→Wp (f g') Q):Wp ((a0p tab g a0z (.ptr z 0 0) (.agg (itr i))).bind f) Q:=by
 refine a6K hz (by rfl) (by rfl) (by rw [hr];exact Nat.le_refl _) (b2t i) fun g' q s=>k g' ?_ s
 have:spl row 0 (a0B (.agg (itr i)))=itr i:=by
  show row.take 0++itr i++row.drop (0+(itr i).length)=itr i
  rw [List.drop_of_length_le (by rw [hr];exact Nat.le_refl _)]
  simp [-bind_some]
 rw [q,this]
 rfl
theorem c1Y {h:Hp} {o:Nat} {host:Int} {ps:List (List It × D)} {qa:Nat} {x:D} {bt:List (List It × D × Int)} {pb:Nat} {nu:Int} {g:Hp} {ats:List Nat} {its:List It} {y:D} {i:It} {z:Nat} {β:Type} {f:Hp→Option β} {Q:β→Prop}
  (b:BnI h o host ps qa x bt pb nu g ats its y) (L:BtL h o qa pb x bt) (hl:its.length≤1000) (hz:g[z]?=some (.row a0z 11 [itr i])) (hi:b9Q host ps i)
  (k:∀ g' y',BnI h o host ps qa x bt pb nu g' ats (its++[i]) y'→Wp (f g') Q) :
  Wp ((a0a tab a0u 2 (.ptr pb 0 0)).bind fun t=>(a0c tab g a0S t).bind fun t103=>(a0c tab g a0z (.ptr z 0 0)).bind fun t104=>(a0W tab a0S 1 [0] [t104]).bind fun t105=>(a0q tab g a0S a0S t103 t105).bind fun p=>(a0a tab a0u 2 (.ptr pb 0 0)).bind fun t107=>(a0p tab p.2 a0S t107 p.1).bind f) Q:=by
 have h1:=b.pg
 have h2:=L.hh
 have h3:=L.ho
 simp only [b0X,c2B,a0F b.pr,e0k,bs,List.drop_succ_cons,List.drop_zero,List.head?_cons,Nat.zero_add,c4u hz,d7g]
 refine b9K (n0:=pb+1) h1 b.ow (a1e _ _ _ _) (by simp;omega) fun y' g' ow len bel keep fre=>?_
 simp only [bs]
 have oc:=a0O (a2f ow)
 refine c3j ((bel pb (by omega)).trans b.pr) (by rfl) (by rw [oc.1];rfl) (by simp) oc.2 fun g2 q2 s2=>?_
 rw [oc.1] at q2
 have h4:=s2.1
 refine k g2 y' ⟨b.B.keep L (b.B.cd.keep ((s2.2 o (by omega)).trans (bel o (by omega)))) (by omega) (fun q hq _=>(s2.2 q (by omega)).trans (bel q (by omega))),by omega,q2,?_,fun j hj=>?_⟩
 ·rw [e0o]
  exact ow.keep fun q hq _=>s2.2 q (by omega)
 ·rcases e0E.1 hj with hj | hj
  ·exact b.ok j hj
  ·simp at hj;subst hj;exact hi
theorem d0L {h:Hp} {o:Nat} {host most:Int} {ps:List (List It × D)} {qa:Nat} {x dps:D} {bt:List (List It × D × Int)} {pb:Nat} {nu:Int} {g:Hp} {ats:List Nat} {its:List It} {y:D} (L:BtL h o qa pb x bt)
  (hps:SlOf 1 (fun p:List It × D=>[p.2]) ps dps) (hf:FilesOK host most (SlOf 11 itr) ps) (hn1:1≤ps.length) (hn3:ps.length≤3) (hm:most≤100) (h0:0≤host) (h9:host≤999)
  (b:BnI h o host ps qa x bt pb nu g ats its y) (hl:its.length≤100) (p11:D × Hp) (hp:p11.1 = .ptr pb 0 0) (k:Nat) (hk:0<k) (hk2:k≤100) (a1 a2 a3 a4 a5 a6 a7 a8 a9:D) :
  Wp (a7e (.ptr o 0 0) dps (.msl 1 qa 0 ps.length) p11 [.int .i64 k,a1,a2,a3,a4,a5,a6,a7,a8,a9] g) (fun r=>∃ g' ats' its' y' c1 c2 c3 c4 c5 c6 c7 c8 c9,r=(.nrm,[.int .i64 ((k - 1:Nat):Int),c1,c2,c3,c4,c5,c6,c7,c8,c9],g')∧BnI h o host ps qa x bt pb nu g' ats' its' y'∧its'.length≤its.length+1):=by
 have hk':(0:Int)<(k:Int):=by omega
 have hw:IntKind.wrap .i64 ((k:Int) - 1)=((k - 1:Nat):Int):=by
  rw [wrap_i64 (by omega) (by omega)];omega
 simp only [a7e,a0e,a0m,bs,e0h,a0x,hk',decide_true,a0d,if_true,b8n hps,hp]
 obtain ⟨v,g1,e1,c1,s1,v0,v1⟩:=a2h b.B.cd ps.length (by omega) (by omega)
 refine Wp.step e1 ?_
 have b1:=b.next L c1 s1
 obtain ⟨f,rfl⟩:=Int.eq_ofNat_of_zero_le v0
 have hfl:f<ps.length:=by omega
 obtain ⟨a,ha⟩:∃ a,ats[f]?=some a:=⟨_,e0x (by rw [b.B.al];exact hfl)⟩
 obtain ⟨p,hpf⟩:=gx_ hfl
 obtain ⟨hpd,hpl,po,hit⟩:=hf f p hpf
 have hab:=b.B.ab f a p ha hpf
 have ix:=c1e (qa:=qa) (n:=ps.length) b1.B.at_ b1.B.al ha
 have hmem:a0b tab a4s dps (.int .i64 (f:Int))=some (.fptr [p.2]):=by rw [c8u hps];simp [-bind_some, hpf]
 simp only [ix.1,ix.2,hmem,a7W,a4e hpd,bs,a2Y]
 refine Wp.join (P:=fun r=>∃ g' ats' its' y' c1 c2 c3 c4 c5 c6 c7 c8,r=(.nrm,[c1,c2,c3,c4,c5,c6,c7,c8],g')∧BnI h o host ps qa x bt pb nu g' ats' its' y'∧its'.length≤its.length+1) ?_ ?_ ?_
 ·intro _
  exact .some ⟨g1,ats,its,y,_,_,_,_,_,_,_,_,rfl,b1,by omega⟩
 ·intro hlt
  have hlt:a<p.1.length:=by
   have:¬ (p.1.length:Int)≤(a:Int):=by simpa using hlt
   omega
  obtain ⟨i,hi⟩:=gx_ hlt
  obtain ⟨fr,hio,hfr0,hfr1,_⟩:=a6m host _ p.1 0 po hit a i hi
  have hBi:b9Q host ps i:=⟨b6u hio h0 h9 (by omega) (by omega) hfr0 (by omega),a9G hpf hi⟩
  have hii:a0b tab a0S p.2 (.int .i64 (a:Int))=some (.fptr (itr i)):=by rw [a6T hpd];simp [-bind_some, hi]
  simp only [hii,b2w,bs]
  generalize hZ:([.str [],.int .i64 0,.int .i64 0,.int .i64 0,.int .i64 0,.nils,.int .i64 0,.int .i64 0,.str [],.str [],.nils]:List D)=Z
  have hZl:Z.length=11:=by subst hZ;rfl
  have hold:∀ q,q<g1.length→(a0C g1 a0z 11 [Z])[q]?=g1[q]?:=fun q hq=>a0H _ _ _ _ hq
  have hzz:(a0C g1 a0z 11 [Z])[g1.length]?=some (.row a0z 11 [Z]):=a0Z _ _ _ _
  have hzl:(a0C g1 a0z 11 [Z]).length=g1.length+1:=by simp [-bind_some, a0C]
  have b2:=b1.new L (g':=a0C g1 a0z 11 [Z]) (by omega) hold
  have hzy:¬ y.inOb g1.length:=fun hh=>by have:=(b1.ow.lt hh).2;omega
  have hzp:pb<g1.length:=b1.pg
  generalize a0C g1 a0z 11 [Z]=g2 at hzz hzl b2
  generalize hzg:List.length g1=z at hzz hzl hzy hzp
  clear hold
  have ix2:=c1e (qa:=qa) (n:=ps.length) b2.B.at_ b2.B.al ha
  simp only [ix2.2]
  refine Wp.chk trivial (Wp.chk trivial (Wp.chk trivial ?_))
  refine b5h hzz hZl fun g3 hz3 s3=>?_
  have b3:=b2.put L hzp hzy s3
  have hl3:g3.length=z+1:=by rw [s3.1,hzl]
  try simp only [bs]
  obtain ⟨u,g4,e4,c4,s4,u0,u1⟩:=a2h b3.B.cd 8 (by omega) (by omega)
  refine Wp.step e4 ?_
  have b4:=b3.next L c4 s4
  have hoz:z≠o:=by have:=L.hh;have:=L.ho;omega
  have hz4:=(s4.2 z hoz).trans hz3
  have hl4:g4.length=z+1:=by rw [s4.1,hl3]
  have ix4:=c1e (qa:=qa) (n:=ps.length) b4.B.at_ b4.B.al ha
  simp only [a0P,bs]
  refine Wp.join (P:=fun r=>(∃ g' i' c1 c2,r=(.nrm,[c1,c2],g')∧BnI h o host ps qa x bt pb nu g' ats its y∧g'[z]?=some (.row a0z 11 [itr i'])∧b9Q host ps i'∧g'.length=z+1)∨(∃ g' i' y' c1 c2,r=(.ext 3,[c1,c2],g')∧BnI h o host ps qa x bt pb nu g' ats (its++[i']) y')) ?_ ?_ ?_
  ·intro _
   simp only [ix4.1,ix4.2,bs,a0x]
   refine Wp.join (P:=fun r=>∃ g' i',r=(.nrm,[],g')∧BnI h o host ps qa x bt pb nu g' ats its y∧g'[z]?=some (.row a0z 11 [itr i'])∧b9Q host ps i'∧g'.length=z+1) ?_ ?_ ?_
   ·intro ha0
    have ha0:0<a:=by
     have:(0:Int)<(a:Int):=by simpa using ha0
     omega
    have hw2:IntKind.wrap .i64 ((a:Int) - 1)=((a - 1:Nat):Int):=by
     rw [wrap_i64 (by omega) (by omega)];omega
    obtain ⟨ib,hib⟩:∃ i,p.1[a - 1]?=some i:=⟨_,e0x (by omega)⟩
    obtain ⟨fb,hbo,hfb0,hfb1,hnx⟩:=a6m host _ p.1 0 po hit (a - 1) ib hib
    have hio2:=hnx i (by rw [show a - 1+1=a by omega];exact hi)
    have hib2:a0b tab a0S p.2 (.int .i64 ((a - 1:Nat):Int))=some (.fptr (itr ib)):=by rw [a6T hpd];simp [-bind_some, hib]
    have n1:=hbo.n1
    have n3:=hbo.n3
    have n5:=hio2.n3
    obtain ⟨j,ej,hj⟩:=d6h ib i g4 (by omega) (by omega) n1
    have hBj:b9Q host ps j:=⟨c3J hbo hio2 rfl h0 h9 (by omega) (by omega) hfb0 (by omega) hj,by rw [hj.a1,hj.a3];exact a9G hpf hi⟩
    simp only [a0N,hw2,bs,hib2,b2w,c4u hz4,hmem,a7W]
    refine Wp.step ej ?_
    simp only [bs]
    refine b5h hz4 rfl fun g5 hz5 s5=>?_
    try simp only [bs]
    exact .some ⟨g5,j,rfl,b4.put L hzp hzy s5,hz5,hBj,by rw [s5.1,hl4]⟩
   ·intro _
    exact .some ⟨g4,i,rfl,b4,hz4,hBi,hl4⟩
   rintro _ ⟨g',i',rfl,b',hz',hB',hl'⟩
   simp only [bs]
   exact .some (.inl ⟨g',i',_,_,rfl,b',hz',hB',hl'⟩)
  ·intro _
   refine Wp.dif ?_ ?_
   ·intro _
    have hw2:=wi_ a (by omega)
    have hw3:IntKind.wrap .i64 ((p.1.length:Int) - 1)=((p.1.length - 1:Nat):Int):=by
     rw [wrap_i64 (by omega) (by omega)];omega
    obtain ⟨c,hmc,hc⟩:∃ c:Nat,b9S (.int .i64 ((a+1:Nat):Int)) (.int .i64 ((p.1.length - 1:Nat):Int))=some (.int .i64 c)∧c<p.1.length:=by
     rw [b3O]
     split
     ·exact ⟨a+1,rfl,by omega⟩
     ·exact ⟨p.1.length - 1,rfl,by omega⟩
    obtain ⟨ib,hib⟩:∃ i,p.1[c]?=some i:=⟨_,e0x hc⟩
    obtain ⟨fb,hbo,hfb0,hfb1,hnx⟩:=a6m host _ p.1 0 po hit c ib hib
    have hBb:b9Q host ps ib:=⟨b6u hbo h0 h9 (by omega) (by omega) hfb0 (by omega),a9G hpf hib⟩
    have hib2:a0b tab a0S p.2 (.int .i64 (c:Int))=some (.fptr (itr ib)):=by rw [a6T hpd];simp [-bind_some, hib]
    simp only [ix4.1,ix4.2,bs,hmem,a7W,a4e hpd,a0r,a0N,hw2,hw3,hmc,hib2,b2w]
    refine b5h hz4 rfl fun g5 hz5 s5=>?_
    have b5:=b4.put L hzp hzy s5
    try simp only [bs]
    refine c1Y b5 L (by omega) hz5 hBb fun g6 y6 b6=>?_
    try simp only [bs]
    exact .some (.inr ⟨g6,ib,y6,_,_,rfl,b6⟩)
   ·intro _
    exact .some (.inl ⟨g4,i,_,_,rfl,b4,hz4,hBi,hl4⟩)
  rintro _ (⟨g',i',d1,d2,rfl,b',hz',hB',hl'⟩ | ⟨g',i',y',d1,d2,rfl,b'⟩)
  ·simp only [a1u,a0k,a0e,a0m,e0h,bs]
   refine c1Y b' L (by omega) hz' hB' fun g6 y6 b6=>?_
   try simp only [bs]
   obtain ⟨w,g7,e7,c7,s7,w0,w1⟩:=a2h b6.B.cd 4 (by omega) (by omega)
   refine Wp.step e7 ?_
   have b7:=b6.next L c7 s7
   simp only [a0x,bs]
   refine Wp.join (P:=fun r=>∃ g' ats',r=(.nrm,[],g')∧BnI h o host ps qa x bt pb nu g' ats' (its++[i']) y6) ?_ ?_ ?_
   ·intro _
    have ix7:=c1e (qa:=qa) (n:=ps.length) b7.B.at_ b7.B.al ha
    have hw2:=wi_ a (by omega)
    simp only [ix7.1,ix7.2,bs,a0r,hw2,e0h]
    have hrow:(ats.map atR)[f]?=some (atR a):=by rw [e0v,ha];rfl
    refine b9O b7.B.at_ hrow (by rfl) (by simp [-bind_some, atR]) (by rfl) fun g8 q8 s8=>?_
    have hset:(ats.map atR).set f (spl (atR a) 0 (a0B (.int .i64 ((a+1:Nat):Int))))=(ats.set f (a+1)).map atR:=by
     rw [List.map_set];rfl
    rw [hset] at q8
    try simp only [bs]
    have lh:=L.hh
    have lo:=L.ho
    have lq:=L.hqa
    have q0:=b7.B.qa0
    refine .some ⟨g8,ats.set f (a+1),rfl,⟨⟨by have:=b7.B.len;have:=s8.1;omega,fun q hq hn=>(s8.2 q (by omega)).trans (b7.B.gr q hq hn),b7.B.cd.keep (s8.2 o (by omega)),q0,q8,by rw [List.length_set];exact b7.B.al,fun f' n' p' hn' hp'=>?_,b7.B.out.keep fun q hq hin=>s8.2 q ?_,fun p' hp'=>⟨(b7.B.its p' hp').1.keep fun q hq hin=>s8.2 q ?_,(b7.B.its p' hp').2⟩⟩,by have:=b7.pg;have:=s8.1;omega,(s8.2 pb (by omega)).trans b7.pr,b7.ow.keep fun q hq hin=>s8.2 q (by omega),b7.ok⟩⟩
    ·rw [List.getElem?_set] at hn'
     split at hn'
     ·rename_i hff
      subst hff
      split at hn'
      ·injection hn' with hn'
       rw [hpf] at hp'
       injection hp' with hp'
       subst hp'
       omega
      ·cases hn'
     ·exact b7.B.ab f' n' p' hn' hp'
    ·rcases b7.B.out with ⟨hx,_⟩ | ⟨ob,_,hx,hg⟩
     ·rw [hx] at hin;obtain ⟨_,_,hin⟩:=hin;cases hin
     ·rw [hx] at hin
      obtain ⟨_,_,hin⟩:=hin
      injection hin with _ hin
      subst hin
      rintro rfl
      have e:=hg.symm.trans b7.B.at_
      injection e with e
      injection e with e
      exact absurd e (by decide)
    ·rcases (b7.B.its p' hp').1 with ⟨hx,_⟩ | ⟨ob,_,hx,hg⟩
     ·rw [hx] at hin;obtain ⟨_,_,hin⟩:=hin;cases hin
     ·rw [hx] at hin
      obtain ⟨_,_,hin⟩:=hin
      injection hin with _ hin
      subst hin
      rintro rfl
      have e:=hg.symm.trans b7.B.at_
      injection e with e
      injection e with e
      exact absurd e (by decide)
   ·intro _
    exact .some ⟨g7,ats,rfl,b7⟩
   rintro _ ⟨g',ats',rfl,b'⟩
   simp only [a1u]
   exact .some ⟨g',ats',_,y6,_,_,_,_,_,_,_,_,rfl,b',by simp⟩
  ·have hu:a0G 4 (.ext 3) = .ext 3:=by simp [-bind_some, a0G]
   simp only [hu,b9G,a0l,a0e,a0m]
   exact .some ⟨g',ats,_,y',_,_,_,_,_,_,_,_,rfl,b',by simp⟩
 rintro _ ⟨g',ats',its',y',d1,d2,d3,d4,d5,d6,d7,d8,rfl,b',hl'⟩
 simp only [a0k,a0e,a0m,a0N,bs,hw]
 exact .some ⟨g',ats',its',y',_,_,_,_,_,_,_,_,_,rfl,b',hl'⟩
structure Bat where
 hs:Int
 nu:Int
 its:List It
 d:D
 hd:SlOf 11 itr its d
def a3H (b:Bat):List D:=[.int .i64 b.hs,.int .i64 b.nu,b.d]
structure BatOK (host:Int) (b:Bat):Prop where
 hs:b.hs=host
 n3:b.its.length≤3
 it:∀ i∈b.its,BIt host i
 nu0:0≤b.nu
 nu9:b.nu≤12
theorem c0e (n:Nat) (b:Bat):∀ d∈a3H b,Ok n d:=by
 intro d hd
 simp [-bind_some, a3H] at hd
 rcases hd with rfl | rfl | rfl
 ·constructor
 ·constructor
 ·exact a1b b.hd fun i _=>b2s _ i
theorem a2T {g:Hp} {a b T z T' z':Nat} {r r':List (List D)} (ha:g[a]?=some (.row T z r)) (hb:g[b]?=some (.row T' z' r')) (hn:T≠T'):a≠b:=by
 rintro rfl
 have e:=ha.symm.trans hb
 injection e with e
 injection e with e
 exact hn e
theorem b1D {g:Hp} {b n e z T' z':Nat} {rows r':List (List D)} {d:D} (ha:Own g n e z rows d) (hb:g[b]?=some (.row T' z' r')) (hn:e≠T'):¬ d.inOb b:=by
 rintro ⟨z1,n1,hin⟩
 rcases ha with ⟨hx,_⟩ | ⟨ob,_,hx,hg⟩
 ·rw [hx] at hin;cases hin
 ·rw [hx] at hin
  injection hin with _ hin
  exact a2T hg hb hn hin
theorem c1X {h:Hp} {o:Nat} {host:Int} {ps:List (List It × D)} {qa:Nat} {g:Hp} {x:D} {bt:List (List It × D × Int)} {ats:List Nat} (B:BtI h o host ps qa g x bt ats) (ho:o<h.length) (hl:bt.length≤1000) (p:List It × D × Int)
  (hp:Own g h.length a0z 11 (p.1.map itr) p.2.1∧p.1.length≤3∧(∀ i∈p.1,b9Q host ps i)∧0≤p.2.2∧p.2.2≤12) {β:Type} {f:D × Hp→Option β} {Q:β→Prop} (k:∀ x' g',BtI h o host ps qa g' x' (bt++[p]) ats→(∀ q,x'.inOb q→x.inOb q∨g.length≤q)→g.length≤g'.length→Wp (f (x',g')) Q) :
  Wp ((a0q tab g a1V a1V x (.sl 3 true [b9R host p])).bind f) Q:=by
 refine c5l B.len B.out (a1e _ _ _ _) (by simp;omega) fun x' g' ow len bel keep fre=>k x' g' ?_ fre len
 have qal:=(e0y.1 B.at_).1
 refine ⟨Nat.le_trans B.len len,fun q hq hn=>(bel q hq).trans (B.gr q hq hn),B.cd.keep (bel o ho),B.qa0,(keep qa qal (b1D B.out B.at_ (by decide))).trans B.at_,B.al,B.ab,?_,fun p' hp'=>?_⟩
 ·rw [e0o];exact ow
 ·have kp:∀ p':List It × D × Int,Own g h.length a0z 11 (p'.1.map itr) p'.2.1→Own g' h.length a0z 11 (p'.1.map itr) p'.2.1:=fun p' w=>w.keep fun q hq hin=>keep q (w.lt hin).2 (b8T w B.out (by decide) hin)
  rcases e0E.1 hp' with hm | hm
  ·exact ⟨kp _ (B.its p' hm).1,(B.its p' hm).2⟩
  ·simp only [List.mem_singleton] at hm
   subst hm
   exact ⟨kp _ hp.1,hp.2⟩
theorem BtI.same {h:Hp} {o:Nat} {host:Int} {ps:List (List It × D)} {qa:Nat} {g g':Hp} {x:D} {bt:List (List It × D × Int)} {ats:List Nat} (B:BtI h o host ps qa g x bt ats) (ho:o<h.length) (hcd:CD g' o) (hs:Same o g g'):BtI h o host ps qa g' x bt ats:=by
 have h1:=B.qa0
 exact ⟨by rw [hs.1];exact B.len,fun q hq hn=>(hs.2 q hn).trans (B.gr q hq hn),hcd,B.qa0,(hs.2 qa (by omega)).trans B.at_,B.al,B.ab,B.out.same hs ho,fun p hp=>⟨(B.its p hp).1.same hs ho,(B.its p hp).2⟩⟩
end Go.Proofs.YthaajlepgblimaaGreatDoor
