/- Part 1 of the texts that the theorem needs: an interpreter on data, proved sound; the functions on data; laws about them. -/
import Derived.WalkKit
import Derived.Orders
import Derived.Deep.LoopGhost
import Derived.KernelRfl
import Derived.Laws.StructEq
import Derived.Laws.IdiomStrings
set_option linter.unusedSimpArgs false
set_option linter.unusedVariables false
set_option linter.unnecessarySimpa false
namespace Go.Eng
abbrev aP:=@List.getElem?_eq_some_iff
abbrev bB:=@if_pos
abbrev bL:=@if_true
abbrev bO:=@if_neg
abbrev cC:=@Nat.le_of_ble_eq_true
abbrev cM:=@Array.getD_eq_getD_getElem?
abbrev eD:=@List.all_eq_true
abbrev e9:=@Nat.eq_of_beq_eq_true
abbrev gK:=@Nat.zero_le
abbrev hA:=@Array.getElem?_setIfInBounds_ne
abbrev iI:=@Bool.not_eq_true'
abbrev kn:=@Bool.or_eq_true
abbrev sB:=@List.any_eq_true
abbrev sD:=@List.cons_append
end Go.Eng
namespace Go.Eng
abbrev cA:=List (Nat × Value)
def lk:cA→Nat→Option Value
 |[],_=>none
 | (k,v)::r,t=>match Nat.beq k t with
  |true=>some v
  |false=>lk r t
def ev(e:cA):Operand→Option Value
 |.tmp t=>lk e t
 |.const v=>some v
 |.global g=>some (.pointer (some ⟨g,0,none⟩))
 |.func a=>some (.func (.func a) #[] #[])
structure jm (n:Nat) (e:cA) (a:Act):Prop where
 size:a.tmps.size=n
 defers:a.defers=[]
 get:∀t v,lk e t=some v→a.tmps.getD t undef=v
def o2(e:cA)(ρ:Operand→Value):Prop:=∀x v,ev e x=some v→ρ x=v
section
variable {n:Nat} {e:cA} {a:Act}
theorem iX(k:Nat)(v:Value)(r:cA)(t:Nat):lk ((k,v)::r) t=if k=t then some v else lk r t:=by
 simp only[lk];by_cases a:k=t
 ·subst a;simp
 ·have:Nat.beq k t=false:=by
    cases b:Nat.beq k t with
    |true=>exact absurd (e9 b) a
    |false=>rfl
  rw[this,bO a]
theorem jm.put(h:jm n e a){d:Nat}(f:d<n)(v:Value):jm n ((d,v)::e) (a.put (some d) v):=by
 refine⟨by simp[Act.put,h.size],by simp[Act.put,h.defers],λt g b=>?_⟩;rw[iX]at b;by_cases c:d=t
 ·subst c;rw[bB rfl]at b;injection b with b;subst b;simp[Act.put,Array.getD,h.size,f]
 ·rw[bO c]at b;have:=h.get t g b;rw[← this];simp only[Act.put,cM];rw[hA (by omega)]
end
def Sub(e' e:cA):Prop:=∀t v,lk e' t=some v→lk e t=some v
theorem Sub.nil{e:cA}:Sub [] e:=λ_ _ a=>by cases a
theorem Sub.cons{t:Nat}{v:Value}{r e:cA}(h:lk e t=some v)(c:Sub r e):Sub ((t,v)::r) e:=by
 intro b x hx;rw[iX]at hx;by_cases a:t=b
 ·subst a;rw[bB rfl]at hx;injection hx with hx;rw[← hx];exact h
 ·rw[bO a]at hx;exact c b x hx
theorem Sub.refl(e:cA):Sub e e:=λ_ _ a=>a
theorem Sub.trans{a b c:cA}(h:Sub a b)(k:Sub b c):Sub a c:=λt v x=>k t v (h t v x)
theorem Sub.sat{n:Nat}{e e':cA}{a:Act}(h:Sub e' e)(b:jm n e a):jm n e' a:=⟨b.size,b.defers,λt v x=>b.get t v (h t v x)⟩
def keys:cA→List Nat
 |[]=>[]
 |(k,_)::r=>k::keys r
theorem u3{e:cA}{t:Nat}(h:t∉keys e):lk e t=none:=by
 induction e with
 |nil=>rfl
 | cons x c b =>
  obtain⟨k,v⟩:=x;simp[keys]at h;rw[iX,bO (λa=>h.1 a.symm)];exact b h.2
theorem u1{e r:cA}{t:Nat}(h:lk e t=none):lk (e++r) t=lk r t:=by
 induction e with
 |nil=>rfl
 | cons x c b =>
  obtain⟨k,v⟩:=x;rw[sD,iX];rw[iX]at h;by_cases a:k=t
  ·rw[bB a]at h;cases h
  ·rw[bO a]at h;rw[bO a];exact b h
theorem Bc{e r:cA}{t:Nat}{v:Value}(h:lk e t=some v):lk (e++r) t=some v:=by
 induction e with
 |nil=>cases h
 | cons x c b =>
  obtain⟨k,d⟩:=x;rw[sD,iX];rw[iX]at h;by_cases a:k=t
  ·rw[bB a]at h;rw[bB a];exact h
  ·rw[bO a]at h;rw[bO a];exact b h
def tb(p:List Nat)(c b:List Nat):Bool:=p.all λk=>c.any (Nat.beq k) || !(b.any (Nat.beq k))
theorem Sub.back{c p b:cA}(l:Sub c (p++b))(f:tb (keys p) (keys c) (keys b)=true):Sub (c++b) (p++b):=by
 intro t v d;cases e:lk c t with
 | some j =>
  rw[Bc e]at d;injection d with d;subst d;exact l t j e
 | none =>
  rw[u1 e]at d;by_cases i:t∈keys p
  ·simp only[tb,eD,kn,iI,sB]at f;rcases f t i with⟨x,hx,g⟩|g
   ·have:=e9 g;subst this;exfalso;have:∀{h:cA},t∈keys h→lk h t≠none:=by
     intro h
     induction h with
     |nil=>intro e;cases e
     | cons y o n =>
      obtain⟨k,j⟩:=y;intro a;rw[iX];by_cases f:k=t
      ·rw[bB f];simp
      ·rw[bO f];simp[keys]at a;rcases a with a|a
       ·exact absurd a.symm f
       ·exact n a
    exact this hx e
   ·have m:t∉keys b:=by
      intro a;simp at g;exact g t a rfl
    rw[u3 m]at d;cases d
  ·rw[u1 (u3 i)];exact d
def oP(P:Program)(n:Nat)(c:Code)(Q:Exit→Act→World→Prop)(e:cA)(w:World):Prop:=∀a,jm n e a→c.wp P Q a w
def rJ(P:Program)(n:Nat)(ops:Array Oper)(Q:Exit→Act→World→Prop)(l:List Oper)(e:cA)(w:World):Prop:=∀a,jm n e a→wpList P ops Q l a w
def pE(n:Nat)(Q:Exit→Act→World→Prop)(x:Exit)(e:cA)(w:World):Prop:=∀a,jm n e a→Q x a w
def h6(P:Program)(a:FuncId)(args:Array Value)(w:World)(R:Value→World→Prop):Prop:=Calls P a args w λe b=>∃v,e = .returned v∧R v b
theorem h6.mono{P:Program}{b:FuncId}{args:Array Value}{w:World}{R a:Value→World→Prop}(h:h6 P b args w R)(c:∀v w',R v w'→a v w'):h6 P b args w a:=
 Calls.mono h λ_ _ ⟨v,d,h⟩=>⟨v,d,c _ _ h⟩
section code
variable {P:Program} {n:Nat} {Q:Exit→Act→World→Prop} {e:cA} {w:World}
theorem oP.sub{c:Code}{e':cA}(h:oP P n c Q e' w)(d:Sub e' e):oP P n c Q e w:=λa b=>h a (d.sat b)
theorem rJ.sub{ops:Array Oper}{l:List Oper}{e':cA}(h:rJ P n ops Q l e' w)(c:Sub e' e):rJ P n ops Q l e w:=λa b=>h a (c.sat b)
theorem pE.sub{x:Exit}{e':cA}(h:pE n Q x e' w)(c:Sub e' e):pE n Q x e w:=λa b=>h a (c.sat b)
def lL:Nat→List Value→cA
 |_,[]=>[]
 |k,v::r=>(k,v)::lL (k+1) r
theorem u2:∀(l:List Value) (k t:Nat),lk (lL k l) t=if k≤t then l[t - k]? else none
 |[],k,t=>by simp[lL,lk]
 | v::r,k,t=>by
  rw[lL,iX,u2 r (k+1) t];by_cases h:k=t
  ·subst h;simp
  ·rw[bO h];by_cases a:k+1≤t
   ·rw[bB a,bB (by omega)];obtain⟨d,rfl⟩:∃d,t=k+1+d:=⟨t - (k+1),by omega⟩
    rw[show k+1+d - (k+1)=d from by omega,show k+1+d - k=d+1 from by omega];simp
   ·rw[bO a,bO (by omega)]
theorem enter{b:FuncId}{fn:Func}{c:Code}{args:List Value}{R:Value→World→Prop}(f:P.funcs[b]?=some fn)(d:fn.body=some c)(i:fn.ntmps=n)(g:Nat.ble args.length n=true)
  (h:oP P n c (bodyPost P fn λe w'=>∃v,e = .returned v∧R v w') (lL 0 args) w):h6 P b args.toArray w R:=by
 refine calls_of_wp f d (h _ ⟨?_,rfl,λt v a=>?_⟩)
 ·have:=cC g;simp[i];omega
 ·rw[u2]at a;simp only[gK,bL,Nat.sub_zero]at a;simp[cM,Array.getElem?_append,(aP.1 a).1];exact(aP.1 a).2
def oB(b:Array Value):ResultVar→Sem Value
 |.tmp t=>pure (b.getD t undef)
 |.cell a t=>do loadVar t (← asAddr (b.getD a undef))
theorem CP(fn:Func)(a:Array Value):results fn a=(do let vs ← fn.results.mapM (oB a);pure (if h:vs.size=1 then vs[0]else .tuple vs)):=by
 unfold results;congr 1
variable {fn:Func} {R:Value→World→Prop}
end code
def py(P:Program)(o:Oper)(e:cA)(w:World)(v:Value):Prop:=∀a,o2 e a→(execOp a o).run P w = .ok (.value v) w
section steps
variable {P:Program} {n:Nat} {ops:Array Oper} {Q:Exit→Act→World→Prop} {rest:List Oper} {o:Oper} {e:cA} {w:World} {d:Nat} {v:Value}
end steps
section pure_ops
variable {P:Program} {e:cA} {w:World} {d:Option Tmp} {ty:TypeId} {pos:String} {af:Array Edge} {gd:Option (Nat × Bool)}
section ints
variable {t t':TypeId} {x y:Operand} {k:IntKind} {i j:Int} (hx:ev e x=some (.int k i)) (hy:ev e y=some (.int k j))
include hx hy
end ints
theorem mT{z:Int}(a : -9223372036854775808≤z)(b:z≤9223372036854775807):IntKind.i64.wrap z=z:=by rw[IntKind.wrap_i64];omega
section ints64
variable {t t':TypeId} {x y:Operand} {i j:Int} (hx:ev e x=some (.int .i64 i)) (hy:ev e y=some (.int .i64 j))
include hx hy
end ints64
theorem py.to{o:Oper}{v:Value}(h:py P o e w v)(a:Value)(b:v=a):py P o e w a:=by subst b;exact h
section strings
variable {t t':TypeId} {x y:Operand} {a b:ByteArray} (hx:ev e x=some (.string a)) (hy:ev e y=some (.string b))
include hx hy
end strings
end pure_ops
abbrev aX:=@Nat.le_refl
abbrev bX:=@List.getElem?_eq_getElem
abbrev cU:=@List.getElem?_append_left
abbrev dD:=@Nat.add_mul
abbrev dP:=@Nat.zero_add
abbrev dX:=@List.getElem?_take
abbrev fC:=@List.eq_nil_of_length_eq_zero
abbrev fW:=@List.getElem?_append_right
abbrev fY:=@Nat.lt_of_lt_of_le
abbrev gj:=@Nat.mul_le_mul_right
abbrev g9:=@Nat.le_trans
abbrev hC:=@List.getElem?_drop
abbrev je:=@Array.getElem?_eq_some_iff
abbrev jO:=@Nat.add_assoc
abbrev jQ:=@Nat.zero_mul
abbrev lz:=@List.flatMap_cons
abbrev lA:=@List.length_take
abbrev nh:=@Nat.eq_zero_or_pos
end Go.Eng
namespace Go.Eng
structure Gw where
 w:World
 F:Nat→Nat
 ok:∀b,w.heap.size≤b→F b=0
structure Ev (M:Nat→Prop) (g g':Gw):Prop where
 os:g'.w.os=g.w.os
 tape:g'.w.tape=g.w.tape
 output:g'.w.output=g.w.output
 size:g.w.heap.size≤g'.w.heap.size
 mono:∀b,g.F b≤g'.F b
 cell:∀b o,o<g.F b→g'.w.cell? ⟨b,o,none⟩=g.w.cell? ⟨b,o,none⟩
 aO:∀b,b<g.w.heap.size→¬M b→g'.w.heap[b]?=g.w.heap[b]?∧g'.F b=g.F b
def sS:Nat→Prop:=λ_=>False
section
variable {M M':Nat→Prop} {g g' g'':Gw}
theorem Ev.refl(M:Nat→Prop)(g:Gw):Ev M g g:=⟨rfl,rfl,rfl,aX _,λ_=>aX _,λ_ _ _=>rfl,λ_ _ _=>⟨rfl,rfl⟩⟩
theorem Ev.step(h:Ev M g g')(k:Ev M' g' g'')(j:∀b,M' b→M b∨g.w.heap.size≤b):Ev M g g'':=
 ⟨k.os.trans h.os,k.tape.trans h.tape,k.output.trans h.output,g9 h.size k.size,λb=>g9 (h.mono b) (k.mono b),
  λb e a=>(k.cell b e (fY a (h.mono b))).trans (h.cell b e a),
  λb a d=>by
   obtain⟨f,i⟩:=h.aO b a d;obtain⟨l,m⟩:=k.aO b (fY a h.size) (λc=>by
    rcases j b c with c|c
    ·exact d c
    ·omega)
   exact⟨l.trans f,m.trans i⟩⟩
theorem Ev.trans(h:Ev M g g')(k:Ev M g' g''):Ev M g g'':=h.step k λ_ a =>.inl a
theorem Ev.weaken(h:Ev M g g')(a:∀b,M b→M' b∨g.w.heap.size≤b):Ev M' g g':=(Ev.refl M' g).step h a
theorem Ev.below(h:Ev sS g g'):RowKit.Below g.w.heap.size g.w g'.w:=⟨h.os,h.tape,h.output,h.size,λb a=>(h.aO b a (λc=>c.elim)).1⟩
end
theorem Az(w:World)(o:Obj)(b:Nat)(h:b<w.heap.size):(w.alloc o).heap[b]?=w.heap[b]?:=RowKit.Below.heap_alloc w o b h
def Gw.push(g:Gw)(o:Obj)(m:Nat):Gw:=⟨g.w.alloc o,λb=>if b=g.w.heap.size then m else g.F b,λb a=>by
 have c:g.w.heap.size+1≤b:=by
  have:(g.w.heap.push o).size≤b:=a;simpa using this
 rw[bO (by omega)];exact g.ok b (by omega)⟩
def Gw.set(g:Gw)(ad:Addr)(v:Value):Gw:=⟨g.w.setCell ad v,g.F,λb a=>g.ok b (by simpa[World.setCell]using a)⟩
def Gw.draw(g:Gw):Gw:=⟨{ g.w with drawn:=g.w.drawn+1 },g.F,g.ok⟩
def Gw.aW(g:Gw)(b m:Nat)(d:b<g.w.heap.size):Gw:=⟨g.w,λa=>if a=b then max m (g.F b)else g.F a,λa c=>by
 rw[bO (by omega)];exact g.ok a c⟩
def fO(g:Gw)(b T:Nat)(cs:List Value):Prop:=g.w.heap[b]?=some (.cells cs.toArray T (0,0))∧g.F b=0
section
variable {M:Nat→Prop} {g g':Gw} {b T:Nat} {cs:List Value}
theorem fO.lt(h:fO g b T cs):b<g.w.heap.size:=(je.1 h.1).1
theorem fO.cell(h:fO g b T cs)(i:Nat):g.w.cell? ⟨b,i,none⟩=cs[i]?:=by
 have:=h.1;simp[World.cell?,this]
theorem fO.ev(h:fO g b T cs)(a:Ev M g g')(c:¬M b):fO g' b T cs:=⟨(a.aO b h.lt c).1.trans h.1,(a.aO b h.lt c).2.trans h.2⟩
theorem fO.new(g:Gw)(T:Nat)(cs:List Value):fO (g.push (.cells cs.toArray T) 0) g.w.heap.size T cs:=⟨heap_alloc_new g.w _,by simp[Gw.push]⟩
end
structure fB (g:Gw) (a:Option Addr) (n cap Z:Nat) (cs:List Value):Prop where
 len:cs.length=n*Z
 nc:n≤cap
 cm:cap≤9223372036854775807
 pos:0<n→∃b o,a=some ⟨b,o,none⟩∧o+n*Z≤g.F b∧∀j v,cs[j]?=some v→g.w.cell? ⟨b,o+j,none⟩=some v
section
variable {M:Nat→Prop} {g g':Gw} {a:Option Addr} {n cap Z:Nat} {cs:List Value}
theorem fB.ev(h:fB g a n cap Z cs)(d:Ev M g g'):fB g' a n cap Z cs:=
 ⟨h.len,h.nc,h.cm,λl=>by
  obtain⟨b,f,i,j,k⟩:=h.pos l;refine⟨b,f,i,g9 j (d.mono b),λc m e=>?_⟩;have o:c<n*Z:=by rw[← h.len];exact(aP.1 e).1
  rw[d.cell b (f+c) (by omega)];exact k c m e⟩
theorem fB.nil(g:Gw)(a:Option Addr)(cap Z:Nat)(c:cap≤9223372036854775807):fB g a 0 cap Z []:=⟨by simp,gK _,c,λb=>absurd b (by omega)⟩
theorem fB.empty(h:fB g a 0 cap Z cs):cs=[]:=fC (by simpa using h.len)
theorem fB.at_(h:fB g a n cap Z cs)(d:0<n):∃b o,a=some ⟨b,o,none⟩:=by
 obtain⟨b,o,c,_⟩:=h.pos d;exact⟨b,o,c⟩
theorem fB.cell{b o:Nat}(h:fB g (some ⟨b,o,none⟩) n cap Z cs){j:Nat}{v:Value}(d:cs[j]?=some v):g.w.cell? ⟨b,o+j,none⟩=some v:=by
 have i:j<n*Z:=by rw[← h.len];exact(aP.1 d).1
 have k:0<n:=by
  rcases nh n with c|c
  ·subst c;simp at i
  ·exact c
 obtain⟨l,m,a,_,f⟩:=h.pos k;injection a with a;injection a with a e;subst a;subst e;exact f j v d
theorem fB.cut(h:fB g a n cap Z cs){l m:Nat}(u:l≤m)(q:m≤n)(c:Nat)(k:m - l≤c)(p:c≤9223372036854775807)(e:Option Addr)(j:∀b o,l<m→a=some ⟨b,o,none⟩→e=some ⟨b,o+l*Z,none⟩):
  fB g e (m - l) c Z ((cs.take (m*Z)).drop (l*Z)):=by
 have r:m*Z≤n*Z:=gj Z q;refine⟨?_,k,p,λv=>?_⟩
 ·rw[List.length_drop,lA,h.len,Nat.min_eq_left r,Nat.sub_mul]
 ·obtain⟨b,o,f,t,i⟩:=h.pos (by omega);refine⟨b,o+l*Z,j b o (by omega) f,?_,λw s d=>?_⟩
  ·have:l*Z+(m - l)*Z=m*Z:=by rw[← dD];congr 1;omega
   omega
  ·rw[jO];refine i _ s ?_;rw[hC]at d;rw[dX]at d;split at d
   ·exact d
   ·cases d
end
theorem uC{α:Type}{f:α→List Value}{Z:Nat}(a:∀x,(f x).length=Z):∀(xs:List α) (i j:Nat) (x:α),xs[i]?=some x→j<Z→(xs.flatMap f)[i*Z+j]?=(f x)[j]?
 |[],i,j,x,h,_=>by simp at h
 | y::ys,0,j,x,h,b=>by
  simp at h;subst h;simp only[jQ,dP,lz];rw[cU (by rw[a];exact b)]
 | y::ys,i+1,j,x,h,b=>by
  simp at h;simp only[lz];rw[fW (by rw[a,dD];omega),a,show(i+1)*Z+j - Z=i*Z+j from by rw[dD];omega];exact uC a ys i j x h b
structure eI {α:Type} (g:Gw) (a:Option Addr) (n cap Z:Nat) (f:α→List Value) (xs:List α):Prop where
 sl:fB g a n cap Z (xs.flatMap f)
 num:xs.length=n
 cells:∀x,(f x).length=Z
section
variable {α:Type} {M:Nat→Prop} {g g':Gw} {a:Option Addr} {n cap Z:Nat} {f:α→List Value} {xs:List α}
theorem eI.ev(h:eI g a n cap Z f xs)(b:Ev M g g'):eI g' a n cap Z f xs:=⟨h.sl.ev b,h.num,h.cells⟩
theorem eI.cell{b o:Nat}(h:eI g (some ⟨b,o,none⟩) n cap Z f xs){i j:Nat}{x:α}{v:Value}(d:xs[i]?=some x)(a:(f x)[j]?=some v):g.w.cell? ⟨b,o+i*Z+j,none⟩=some v:=by
 have c:j<Z:=by rw[← h.cells x];exact(aP.1 a).1
 rw[jO];exact h.sl.cell (by rw[uC h.cells xs i j x d c];exact a)
theorem eI.at_(h:eI g a n cap Z f xs)(c:0<n):∃b o,a=some ⟨b,o,none⟩:=h.sl.at_ c
theorem eI.nil(g:Gw)(a:Option Addr)(cap Z:Nat)(f:α→List Value)(c:∀x,(f x).length=Z)(b:cap≤9223372036854775807):eI g a 0 cap Z f []:=⟨fB.nil g a cap Z b,rfl,c⟩
theorem eI.get(h:eI g a n cap Z f xs){i:Nat}(hi:i<n):∃x,xs[i]?=some x:=⟨xs[i]'(by rw[h.num];exact hi),bX (by rw[h.num];exact hi)⟩
end
def aT(g:Gw)(base:Nat)(a:Option Addr)(n cap Z T:Nat):Prop:=
 (a=none∧n=0∧cap=0)∨∃b c,a=some ⟨b,0,none⟩∧base≤b∧g.w.heap[b]?=some (.cells c T (0,0))∧n≤cap∧cap≤9223372036854775807∧c.size=cap*Z∧g.F b=n*Z
def lN(a:Option Addr):Nat→Prop:=λb=>a.map (·.block)=some b
section
variable {M:Nat→Prop} {g g':Gw} {base:Nat} {a:Option Addr} {n cap Z T:Nat}
theorem aT.nil(g:Gw)(base Z T:Nat):aT g base none 0 0 Z T :=.inl ⟨rfl,rfl,rfl⟩
theorem aT.ev(h:aT g base a n cap Z T)(p:Ev M g g')(m:∀b,lN a b→base≤b→¬M b):aT g' base a n cap Z T:=by
 rcases h with h|⟨b,f,c,d,e,i,j,k,l⟩
 ·exact .inl h
 ·have o:b<g.w.heap.size:=(je.1 e).1;obtain⟨q,r⟩:=p.aO b o (m b (by simp[lN,c]) d);exact .inr ⟨b,f,c,d,q.trans e,i,j,k,r.trans l⟩
theorem aT.weaken{c:Nat}(h:aT g base a n cap Z T)(j:c≤base):aT g c a n cap Z T:=by
 rcases h with h|⟨b,d,e,i,f⟩
 ·exact .inl h
 ·exact .inr ⟨b,d,e,by omega,f⟩
end
section mem
variable {P:Program} {e:cA} {g:Gw} {d:Option Tmp} {ty:TypeId} {pos:String} {af:Array Edge} {gd:Option (Nat × Bool)}
def One(P:Program)(t:TypeId):Prop:=∀a,(isAgg t).run P a = .ok false a
def wN(P:Program)(t:TypeId):Prop:=∀a,(isAgg t).run P a = .ok true a
def xl(P:Program)(t:TypeId)(n:Nat):Prop:=∀a,(sizeOf t).run P a = .ok n a
theorem Be{t:TypeId}(a:One P t){ad:Addr}{w:World}{v:Value}(b:w.cell? ad=some v):(loadVar t ad).run P w = .ok v w:=by
 unfold loadVar;simp[a w,b]
theorem Bd{t:TypeId}{Z:Nat}(a:wN P t)(d:xl P t Z){ad:Addr}{w:World}{vs:List Value}(c:vs.length=Z)(b:∀j v,vs[j]?=some v→w.cell? (ad.add j)=some v):(loadVar t ad).run P w = .ok (.agg vs.toArray) w:=by
 unfold loadVar;have:=run_loadCells_list (P:=P) (w:=w) ad vs b;rw[c]at this;simp[a w,d w,this]
end mem
abbrev cY:=@Bool.and_eq_true
abbrev dB:=@List.mem_of_getElem?
abbrev gI:=@List.mem_filterMap
end Go.Eng
namespace Go.Eng
def gB(ops:Array Oper)(k:Nat):List Nat:=match ops[k]? with
 |some o=>(o.after.toList.filter (Region.binds .any ·)).map (·.on)
 |none=>[]
def dF(l:List Oper):List Nat:=l.filterMap (·.dst)
def gX(t:Nat)(l:List Nat):Bool:=l.any (Nat.beq t)
theorem ja{t:Nat}{l:List Nat}:gX t l=true↔t∈l:=by
 simp[gX]
def nB:List Oper→Bool
 |[]=>true
 | o::r=>(match o.dst with
  |some d => !(gX d (dF r))
  |none=>true)&&nB r
theorem vp{l:List Oper}{j:Nat}{o:Oper}{d:Nat}(h:l[j]?=some o)(a:o.dst=some d):d∈dF l:=by
 unfold dF;rw[gI];exact⟨o,dB h,a⟩
theorem tP:∀{l:List Oper},nB l=true→∀{i j:Nat} {o p:Oper} {d:Nat},l[i]?=some o→l[j]?=some p→o.dst=some d→p.dst=some d→i=j
 |[],_,i,_,o,_,_,hi,_,_,_=>by simp at hi
 | x::r,h,i,j,o,p,d,hi,b,c,e=>by
  simp only[nB,cY]at h;obtain⟨a,h2⟩:=h;cases i with
  | zero =>
   simp at hi;subst hi;cases j with
   |zero=>rfl
   | succ j =>
    simp at b;rw[c]at a;simp only[iI]at a;have:=ja.2 (vp b e);rw[a]at this;cases this
  | succ i =>
   simp at hi;cases j with
   | zero =>
    simp at b;subst b;rw[e]at a;simp only[iI]at a;have:=ja.2 (vp hi c);rw[a]at this;cases this
   | succ j =>
    simp at b;exact congrArg (· + 1) (tP h2 hi b c e)
def jB(n:Nat)(l:List Oper):Bool:=
 nB l&&(dF l).all (λd=>Nat.blt d n)&&(List.range l.length).all λa=>(gB l.toArray a).all λb=>Nat.blt b a
section og
variable {P:Program} {n:Nat} {l:List Oper} {Q:Exit→Act→World→Prop} {M:Nat→Prop} {J:Gw→Prop} {T:Nat→Value→Gw→Prop} {e0:cA} {g0:Gw}
end og
section quiet
variable {P:Program} {ops:Array Oper} {M:Nat→Prop} {J:Gw→Prop} {g0:Gw} {K:cA→Prop} {o:Oper} {rest:List Oper} {e:cA} {d:Nat} {v:Value}
end quiet
def nq(b:Nat→Prop)(g:Gw)(R:Value→Gw→Prop)(v:Value)(w':World):Prop:=∃a,a.w=w'∧Ev b g a∧R v a
theorem nq.mono{a c:Nat→Prop}{g:Gw}{R d:Value→Gw→Prop}{v:Value}{w':World}(h:nq a g R v w')(j:∀b,a b→c b∨g.w.heap.size≤b)(k:∀g',R v g'→d v g'):nq c g d v w':=by
 obtain⟨g',e,f,i⟩:=h;exact⟨g',e,f.weaken j,k g' i⟩
def Gw.of(w:World):Gw:=⟨w,λ_=>0,λ_ _=>rfl⟩
end Go.Eng
namespace Go.Eng
def wO(T:Nat)(g:Gw)(f:Nat)(c:Option Addr)(a e:Nat)(bs:List Int)(i:Nat):Prop:=
 fO g f T [.slice c a e,.int .i64 (i:Int)]∧eI g c a e 1 (λb:Int=>[Value.int .u8 b]) bs∧i≤a∧(∀b∈bs,0≤b∧b<256)∧(0<a→∀d,lN c d→d<f)
def jL(T:Nat)(g:Gw)(e:Nat):Prop:=∃b d c bs a,wO T g e b d c bs a
theorem jL.ev{T:Nat}{b:Nat→Prop}{g g':Gw}{a:Nat}(h:jL T g a)(c:Ev b g g')(f:¬b a):jL T g' a:=by
 obtain⟨m,o,n,bs,l,d,j,e,k,i⟩:=h;exact⟨m,o,n,bs,l,d.ev c f,j.ev c,e,k,i⟩
theorem jL.lt{T:Nat}{g:Gw}{a:Nat}(h:jL T g a):a<g.w.heap.size:=by
 obtain⟨d,f,e,bs,c,b,_⟩:=h;exact b.lt
abbrev ez:=@Nat.lt_or_ge
abbrev eE:=@List.mem_map
abbrev eQ:=@List.mem_filter
abbrev gk:=@Option.map_some
abbrev hR:=@decide_eq_true
abbrev iT:=@decide_false
abbrev jJ:=@Bool.not_true
abbrev kt:=@Option.getD_some
abbrev mW:=@Array.getElem?_setIfInBounds_self_of_lt
abbrev mZ:=@Bool.false_or
abbrev m8:=@List.filter_eq_nil_iff
abbrev oS:=@Array.all_eq_true_iff_forall_mem
abbrev sE:=@List.drop_eq_getElem_cons
abbrev sF:=@List.drop_eq_nil_of_le
end Go.Eng
namespace Go.Eng
structure pg (R:Gw→Gw→Prop):Prop where
 refl:∀g,R g g
 trans:∀a b c,R a b→R b c→R a c
theorem Ev.pre(a:Nat→Prop):pg (Ev a):=⟨Ev.refl a,λ_ _ _ b c=>b.trans c⟩
abbrev gF:=Value→Gw→Prop
def ru(m:Nat)(l:List Oper):Bool:=(List.range l.length).all λa=>Nat.blt a m||(List.range a).all λb=>gX b (gB l.toArray a)
def dv(o:Oper)(v:Value):Value:=match o.dst with
 |some _=>v
 |none=>undef
structure lE (P:Program) (R:Gw→Gw→Prop) (J:Gw→Prop) (T:gF) (o:Oper) (e:cA) (g:Gw):Prop where
 go:∀ρ,o2 e ρ →
  (∃v g',(execOp ρ o).run P g.w = .ok (.value v) g'.w∧R g g'∧J g'∧T (dv o v) g')∨(∃f args,(execOp ρ o).run P g.w = .ok (.enter f args) g.w∧h6 P f args g.w (λv w'=>∃g',g'.w=w'∧R g g'∧J g'∧T (dv o v) g')) ∨
  (o.dst=none∧∃g',(execOp ρ o).run P g.w = .ok .skip g'.w∧R g g'∧J g'∧T undef g')
def kL:List gF→List Value→Gw→Prop
 |[],[],_=>True
 |T::s,v::vs,g=>T v g∧kL s vs g
 |_,_,_=>False
theorem kL.cons{T:gF}{s:List gF}{vs:List Value}{g:Gw}(h:kL (T::s) vs g):∃v r,vs=v::r∧T v g∧kL s r g:=by
 cases vs with
 |nil=>exact h.elim
 |cons v r=>exact⟨v,r,rfl,h.1,h.2⟩
theorem kL.nil{vs:List Value}{g:Gw}(h:kL [] vs g):vs=[]:=by
 cases vs with
 |nil=>rfl
 |cons b a=>exact h.elim
section og
variable {P:Program} {n:Nat} {Q:Exit→Act→World→Prop} {R:Gw→Gw→Prop} {J:Gw→Prop}
theorem wH {l:List Oper} {m:Nat} (H:jB n l=true) (af:ru m l=true):∀(t:List Oper) (k d:Nat) (f:Array Bool) (a:Act) (w:World),m≤k→l.drop k=t→f.size=l.length→(∀i,i<l.length→f[i]?=some (decide (i<k))) →
  t.length≤d→wpList P l.toArray Q t a w→wpAny P .any l.toArray Q d f a w:=by
 have M:∀k (c:k<l.length),∀b∈l[k].after,Region.binds .any b=true→b.on<k:=by
  intro k c b r o;simp only[jB,cY]at H;have:=(eD.1 H.2) k (by simp[c]);have g:b.on∈gB l.toArray k:=by
   unfold gB;have q:l.toArray[k]?=some l[k]:=by simp[c]
   rw[q];simp only[eE,eQ];exact⟨b,⟨by simpa using r,o⟩,rfl⟩
  have:=cC ((eD.1 this) _ g);omega
 intro t
 induction t with
 | nil =>
  intro k d f a w ab g I j y h;have c:l.length≤k:=by simpa using g
  have x:Region.ready .any l.toArray f=[]:=by
   unfold Region.ready;rw[m8];intro i e;have T:i<l.length:=by simpa using e
   have:=j i T;rw[hR (by omega)]at this;simp[cM,this]
  cases d with
  |zero=>exact⟨x,h⟩
  |succ d=>exact⟨λ_=>h,λi e=>by rw[x]at e;cases e⟩
 | cons ai t ah =>
  intro k d f a w ab g I j y h;cases d with
  |zero=>simp at y
  | succ d =>
   have c:k<l.length:=by
    rcases ez k l.length with p|p
    ·exact p
    ·rw[sF p]at g;cases g
   have R:=sE c;rw[R]at g;injection g with ac N;have ae:∀i,i∈Region.ready .any l.toArray f→i=k:=by
    intro i e;unfold Region.ready at e;rw[eQ]at e;obtain⟨X,C⟩:=e;have z:i<l.length:=by simpa using X
    simp only[cY,iI]at C;obtain⟨B,u⟩:=C;rw[cM,j i z]at B;simp at B;rcases ez k i with F|F
    ·exfalso;have:=(eD.1 af) i (by simp[z]);simp only[kn]at this;rcases this with o|o
     ·have:=cC o;omega
     ·have v:=ja.1 ((eD.1 o) k (by simp[F]));unfold gB at v;have ad:l.toArray[i]?=some l[i]:=by simp[z]
      rw[ad]at u v;simp only[gk,kt]at u;rw[oS]at u;simp only[eE,eQ]at v;obtain⟨b,⟨r,L⟩,ag⟩:=v;have:=u b (by simpa using r);rw[L]at this;simp only[jJ,mZ]at this;rw[ag,cM,j k c]at this;simp at this
    ·omega
   refine⟨λx=>?_,λi e=>?_⟩
   ·exfalso;have E:k∈Region.ready .any l.toArray f:=by
     unfold Region.ready;rw[eQ];refine⟨by simp[c],?_⟩;rw[cM,j k c];have q:l.toArray[k]?=some l[k]:=by simp[c]
     rw[q];simp only[Nat.lt_irrefl,iT,kt,Bool.not_false,Bool.true_and,gk];rw[oS];intro b r;cases o:Region.binds .any b with
     |false=>simp
     | true =>
      have s:b.on<k∨¬b.on<k:=Decidable.em _;rcases s with s|s
      ·have:=j b.on (by omega);rw[hR s]at this;simp[cM,this]
      ·exfalso;exact s (M k c b (by simpa using r) o)
    rw[x]at E;cases E
   ·have:=ae i e;subst this;unfold wpOp;have q:l.toArray[i]?=some l[i]:=by simp[c]
    rw[q];simp only[];rw[ac];unfold wpList at h;have G:∀a w,wpList P l.toArray Q t a w→wpAny P .any l.toArray Q d (f.setIfInBounds i true) a w:=λa w p=>by
     refine ah (i+1) d _ a w (by omega) N (by simp[I]) (λK aa=>?_) (by simpa using y) p;by_cases D:i=K
     ·subst D;rw[mW (by omega)];simp
     ·rw[hA D,j K aa];congr 1;simp only[decide_eq_decide];omega
    split at h
    ·rename_i A;rw[bB A];exact h.imp (Oper.wp_mono G) id
    ·rename_i A;rw[bO A];exact G _ _ h
end og
abbrev cV:=@if_false
abbrev dT:=@Bool.false_eq_true
abbrev eP:=@List.mem_cons_of_mem
abbrev eS:=@List.length_cons
abbrev e8:=@List.mem_cons_self
abbrev o9:=@List.foldl_cons
abbrev rP:=@Array.foldl_toList
end Go.Eng
namespace Go.Eng
section
variable {P:Program} {e:cA} {g:Gw} {d:Option Tmp} {ty:TypeId} {pos:String} {af:Array Edge} {gd:Option (Nat × Bool)}
def kJ:Nat→List Value→List (Nat × Value)
 |_,[]=>[]
 |k,x::r=>(k,x)::kJ (k+1) r
theorem uy(cs:List Value):∀(b d:List Value),cs.length≤d.length →
  (cs.toArray.zipIdx.foldl (λa (c,j)=>a.setIfInBounds (b.length+j) c) (b++d).toArray)=(b++cs++d.drop cs.length).toArray:=by
 have n:∀(cs:List Value) (e:Nat) (b d:List Value),cs.length≤d.length→∀f,b.length=f+e →
   ((cs.zipIdx e).foldl (λ(a:Array Value) (i:Value × Nat)=>a.setIfInBounds (f+i.2) i.1) (b++d).toArray)=(b++cs++d.drop cs.length).toArray:=by
  intro cs
  induction cs with
  |nil=>intro e b d _ f _;simp
  | cons c p m =>
   intro e b d g f l;cases d with
   |nil=>simp at g
   | cons o h =>
    simp only[eS]at g;have:=m (e+1) (b++[c]) h (by omega) f (by simp;omega);simp only[List.zipIdx_cons,o9];have k:(b++o::h).toArray.setIfInBounds (f+e) c=(b++[c]++h).toArray:=by
     rw[← l];simp
    rw[k,this];simp
 intro b d g;have:=n cs 0 b d g b.length (by simp);rw[← this,← rP];simp
def over:List Value→List Value→List Value
 |_::cs,v::vs=>v::over cs vs
 |cs,_=>cs
theorem um{Z:Nat}:∀(vs:List Value) (b a:List Value) (k:Nat),b.length=k*Z→a.length=vs.length*Z→(∀v∈vs,v.cells.size=Z) →
  Instr.fill (λi=>some (i*Z,Z)) (b++a).toArray (kJ k vs)=some (b++vs.flatMap (λv=>v.cells.toList)).toArray
 | [],b,a,k,_,d,_=>by
  have:a=[]:=fC (by simpa using d);subst this;simp[kJ,Instr.fill]
 | v::q,b,a,k,f,d,e=>by
  have c:=e v (e8 ..);have n:Z≤a.length:=by rw[d];simp[dD]
  simp only[kJ,Instr.fill];have s:¬(v.cells.size≠Z∨k*Z+v.cells.size>(b++a).toArray.size):=by
   simp[c];omega
  have j:(decide (v.cells.size≠Z)||decide (k*Z+v.cells.size>(b++a).toArray.size))=false:=by
   simp[c];omega
  simp only[j,dT,cV];have l:=uy v.cells.toList b a (by simpa[c]using n);have m:v.cells.zipIdx.foldl (λh (g,p)=>h.setIfInBounds (k*Z+p) g) (b++a).toArray=(b++v.cells.toList++a.drop Z).toArray:=by
   rw[← f];simpa[c]using l
  rw[m];have:=um q (b++v.cells.toList) (a.drop Z) (k+1) (by simp[f,c,dD]) (by simp[d,dD]) (λr o=>e r (eP _ o));rw[this];simp
theorem eI.of{c:Type}{a:Option Addr}{n cap Z:Nat}{cs:List Value}(h:fB g a n cap Z cs)(b:c→List Value)(xs:List c)(e:∀x,(b x).length=Z)(d:xs.flatMap b=cs)(f:xs.length=n):eI g a n cap Z b xs:=⟨d▸h,f,e⟩
end
section
variable {P:Program} {M:Nat→Prop} {J:Gw→Prop} {T:gF} {o:Oper} {e:cA} {g:Gw} {v:Value}
def uf(a:Value):gF:=λv _=>v=a
def ug(p:Int→Prop):gF:=λv _=>∃a:Int,v = .int .i64 a∧p a
def uh(p:ByteArray→Prop):gF:=λv _=>∃a:ByteArray,v = .string a∧p a
end
section
variable {g:Gw} {M:Nat→Prop} {J:Gw→Prop}
theorem eI.V{c:Type}{b o n cap Z:Nat}{d:c→List Value}{xs:List c}(h:eI g (some ⟨b,o,none⟩) n cap Z d xs){i j:Nat}(hi:i<n)(l:j<Z):o+i*Z+j<g.F b:=by
 obtain⟨f,m,a,k,_⟩:=h.sl.pos (by omega);injection a with a;injection a with a e;subst a;subst e;have:(i+1)*Z≤n*Z:=gj Z (by omega);rw[dD]at this;omega
theorem uf.mk{a:Value}:uf a a g:=rfl
theorem ug.mk{p:Int→Prop}{r:Int}(h:p r):ug p (.int .i64 r) g:=⟨r,rfl,h⟩
theorem uh.mk{p:ByteArray→Prop}{s:ByteArray}(h:p s):uh p (.string s) g:=⟨s,rfl,h⟩
end
section
variable {P:Program} {e:cA} {g:Gw} {d:Option Tmp} {ty:TypeId} {pos:String} {af:Array Edge} {gd:Option (Nat × Bool)}
end
def rT(b T:Nat)(cs:List Value):Gw→Gw→Prop:=λg a=>Ev (· = b) g a∧(fO g b T cs→fO a b T cs)
theorem rT.pre(b T:Nat)(cs:List Value):pg (rT b T cs):=⟨λg=>⟨Ev.refl _ g,λa=>a⟩,λ_ _ _ a c=>⟨a.1.trans c.1,λd=>c.2 (a.2 d)⟩⟩
theorem fO.draw{g:Gw}{b T:Nat}{cs:List Value}(h:fO g b T cs):fO g.draw b T cs:=h
abbrev e6:=@List.length_append
end Go.Eng
namespace Go.Eng
section og
variable {P:Program} {n:Nat} {Q:Exit→Act→World→Prop} {R:Gw→Gw→Prop} {J:Gw→Prop}
def DL(o:Oper)(e:cA):Option Value:=match o.dst with
 |some d=>lk e d
 | none=>match o.op with
  |.store _ (.tmp a) _=>lk e a
  |_=>some undef
structure ni (P:Program) (R:Gw→Gw→Prop) (J:Gw→Prop) (T:gF) (o:Oper) (e:cA) (g:Gw):Prop where
 go:∀ρ,o2 e ρ →
  (∃v g',o.dst≠none∧(execOp ρ o).run P g.w = .ok (.value v) g'.w∧R g g'∧J g'∧T v g')∨(∃f args,o.dst≠none∧(execOp ρ o).run P g.w = .ok (.enter f args) g.w∧h6 P f args g.w (λv w'=>∃g',g'.w=w'∧R g g'∧J g'∧T v g')) ∨
  (o.dst=none∧∃u g',DL o e=some u∧(execOp ρ o).run P g.w = .ok .skip g'.w∧R g g'∧J g'∧T u g')
theorem lE.d3{P:Program}{R:Gw→Gw→Prop}{J:Gw→Prop}{T:gF}{o:Oper}{e:cA}{g:Gw}{d:Nat}(h:lE P R J T o e g)(j:o.dst=some d):ni P R J T o e g :=.mk λw r=>by
 have f:o.dst≠none:=by rw[j];simp
 have k:∀a,dv o a=a:=λa=>by unfold dv;rw[j]
 rcases h.go w r with⟨a,b,c,n,p,i⟩|⟨l,args,c,q⟩|⟨m,_⟩
 ·rw[k]at i;exact .inl ⟨a,b,f,c,n,p,i⟩
 ·exact .inr (.inl ⟨l,args,f,c,q.mono λa x ⟨b,s,t,u,v⟩=>⟨b,s,t,u,by rwa [k]at v⟩⟩)
 ·exact absurd m f
end og
theorem lE.imp{P:Program}{R:Gw→Gw→Prop}{J:Gw→Prop}{T i:gF}{o:Oper}{e:cA}{g:Gw}(h:lE P R J T o e g)(f:∀v g',T v g'→i v g'):lE P R J i o e g :=.mk λs m=>by
 rcases h.go s m with⟨v,g',a,b,c,d⟩|⟨j,args,a,l⟩|⟨k,g',a,b,c,d⟩
 ·exact .inl ⟨v,g',a,b,c,f _ _ d⟩
 ·exact .inr (.inl ⟨j,args,a,l.mono λv t ⟨g',n,p,q,r⟩=>⟨g',n,p,q,f _ _ r⟩⟩)
 ·exact .inr (.inr ⟨k,g',a,b,c,f _ _ d⟩)
def rU(b:Nat)(g g':Gw):Prop:=Ev (λa=>b≤a∧0<g.F a) g g'
def ko(d:Nat→Prop)(b c:Nat)(g g':Gw):Prop:=Ev (λa=>d a∨(b≤a∧0<g.F a)∨c≤a) g g'
theorem ko.pre(k:Nat→Prop)(i j:Nat):pg (ko k i j):=⟨λg=>Ev.refl _ g,λq r s a c=>⟨c.os.trans a.os,c.tape.trans a.tape,c.output.trans a.output,g9 a.size c.size,λb=>g9 (a.mono b) (c.mono b),
 λb o f=>(c.cell b o (fY f (a.mono b))).trans (a.cell b o f),λb h e=>by
  obtain⟨l,d⟩:=a.aO b h e;obtain⟨n,p⟩:=c.aO b (fY h a.size) (λm=>e (by rw[← d];exact m));exact⟨n.trans l,p.trans d⟩⟩⟩
theorem ko.of{a:Nat→Prop}{b c:Nat}(g g':Gw)(h:Ev a g g'):ko a b c g g':=h.weaken λ_ d =>.inl (.inl d)
theorem ko.hE{b:Nat→Prop}{d:Nat}{c g1 g':Gw}(h:Ev b c g1)(e:c.w.heap.size≤d)(f:ko b d g1.w.heap.size g1 g'):Ev b c g':=h.step f λg a=>by
 rcases a with a|a|a
 ·exact .inl a
 ·exact .inr (g9 e a.1)
 ·exact .inr (g9 h.size a)
theorem rU.refl{a:Nat}(g:Gw):rU a g g:=Ev.refl _ g
theorem fO.nz{g:Gw}{b T a:Nat}{cs:List Value}(h:fO g b T cs):¬(a≤b∧0<g.F b):=λc=>by
 have:=h.2;omega
theorem jL.nz{T:Nat}{g:Gw}{a b:Nat}(h:jL T g a):¬(b≤a∧0<g.F a):=by
 obtain⟨e,i,f,bs,d,c,_⟩:=h;exact c.nz
section
variable {P:Program} {e:cA} {g:Gw} {d:Nat} {ty:TypeId} {pos:String} {af:Array Edge} {gd:Option (Nat × Bool)} {J:Gw→Prop} {α:Type}
theorem eI.app{g':Gw}{a:Option Addr}{n m cap Z:Nat}{b:α→List Value}{xs ys:List α}(d:xs.length=n)(e:ys.length=m)(c:∀x,(b x).length=Z)(h:fB g' a (n+m) cap Z (xs.flatMap b++ys.flatMap b)):eI g' a (n+m) cap Z b (xs++ys):=
 eI.of h b (xs++ys) c (by rw[List.flatMap_append]) (by rw[e6,d,e])
end
section
variable {P:Program} {R:Gw→Gw→Prop} {J:Gw→Prop} {T:gF} {l:List Oper} {o:Oper} {e:cA} {g:Gw}
theorem ni.imp{j:gF}(h:ni P R J T o e g)(i:∀v g',T v g'→j v g'):ni P R J j o e g :=.mk λu m=>by
 rcases h.go u m with⟨v,g',a,b,c,d,f⟩|⟨k,args,a,b,l⟩|⟨a,t,g',n,b,c,d,f⟩
 ·exact .inl ⟨v,g',a,b,c,d,i _ _ f⟩
 ·exact .inr (.inl ⟨k,args,a,b,l.mono λv w ⟨g',p,q,r,s⟩=>⟨g',p,q,r,i _ _ s⟩⟩)
 ·exact .inr (.inr ⟨a,t,g',n,b,c,d,i _ _ f⟩)
end
abbrev dU:=@Sem.run_bind
abbrev dY:=@Result.andThen_ok
abbrev fE:=@List.take_of_length_le
abbrev fU:=@Addr.add_lit
abbrev ly:=@List.drop_succ_cons
abbrev m7:=@List.drop_append
abbrev nb:=@List.nil_append
abbrev ng:=@List.take_append
end Go.Eng
namespace Go.Eng
def h9(P:Program)(t:TypeId)(a b:Value)(r:Bool):Prop:=∀d w,(Op.equalIn (d+1) t a b).run P w = .ok r w
section
variable {P:Program}
theorem h9.int{t:TypeId}{k c:IntKind}{a b:Int}(h:P.underlying t=some (.int c)):h9 P t (.int k a) (.int k b) (a==b):=λd w=>run_equalIn_int w d t k c a b h
theorem h9.str{t:TypeId}{a b:ByteArray}(h:P.underlying t=some .string):h9 P t (.string a) (.string b) (a.toList==b.toList):=λd w=>run_equalIn_string w d t a b h
theorem h9.bool{t:TypeId}{a b:Bool}(h:P.underlying t=some .bool):h9 P t (.bool a) (.bool b) (a==b):=λd w=>run_equalIn_bool' w d t a b h
def m0(P:Program)(xs ys:List Value):List Field→List Bool→Prop
 |[],[]=>True
 |f::fs,r::c=>("_" == f.name)=false∧One P f.type∧(∃a b,xs[f.offset]?=some a∧ys[f.offset]?=some b∧h9 P f.type a b r)∧m0 P xs ys fs c
 |_,_=>False
theorem v7{d:Nat}{xs ys:List Value}{w:World}:∀{fs:List Field} {c:List Bool},m0 P xs ys fs c→(Op.eqFields (d+1) xs.toArray ys.toArray fs).run P w = .ok (c.all id) w
 |[],[],_=>by simp[Op.eqFields]
 |[],_::_,h=>h.elim
 |_::_,[],h=>h.elim
 | f::fs,r::c,⟨e,h2,⟨a,b,i,j,m⟩,g⟩=>by
  have l:f.name ≠ "_" := λk=>by rw[k]at e;simp at e
  have n:(part f.type xs.toArray f.offset).run P w = .ok a w:=by simp[part,h2 w,i]
  have o:(part f.type ys.toArray f.offset).run P w = .ok b w:=by simp[part,h2 w,j]
  simp only[Op.eqFields,l,ne_eq,not_false_eq_true,bL,dU,n,o,m d w,dY,Sem.run_ite];cases r with
  |false=>simp
  |true=>simp[v7 (w:=w) g]
variable {e:cA} {d:Option Tmp} {ty:TypeId} {pos:String} {af:Array Edge} {gd:Option (Nat × Bool)} {w:World}
theorem CU{t:TypeId}{fs:Array Field}{xs ys:List Value}{c:List Bool}(b:P.underlying t=some (.struct fs))(e:P.stoodInHeld t=false)(d:m0 P xs ys fs.toList c):(Op.equalIn 10000 t (.agg xs.toArray) (.agg ys.toArray)).run P w = .ok (c.all id) w:=by
 have a:P.fieldsOf t=fs:=by simp[Program.fieldsOf,b]
 rw[run_equalIn_struct w 9999 t _ _ (by rw[a];exact b) e,a];exact v7 d
end
theorem wx{α:Type}{f:α→List Value}{Z:Nat}(a:∀x,(f x).length=Z):∀(xs:List α) (m:Nat),(xs.take m).flatMap f=(xs.flatMap f).take (m*Z)
 |[],m=>by simp
 |x::r,0=>by simp
 | x::r,m+1=>by
  simp only[List.take_succ_cons,lz,wx a r m];rw[ng,fE (l:=f x) (by rw[a,dD];omega),a,show(m+1)*Z - Z=m*Z from by rw[dD];omega]
theorem tT{α:Type}{f:α→List Value}{Z:Nat}(a:∀x,(f x).length=Z):∀(xs:List α) (m:Nat),(xs.drop m).flatMap f=(xs.flatMap f).drop (m*Z)
 |[],m=>by simp
 |x::r,0=>by simp
 | x::r,m+1=>by
  simp only[ly,lz,tT a r m];rw[m7,@sF _ (f x) _ (by rw[a,dD];omega),a,nb,show(m+1)*Z - Z=m*Z from by rw[dD];omega]
section
variable {α:Type} {g:Gw} {a:Option Addr} {n cap Z:Nat} {f:α→List Value} {xs:List α}
theorem eI.part(h:eI g a n cap Z f xs){l m:Nat}(d:l≤m)(e:m≤n):eI g (if cap=l then a else a.map (·.add (l*Z))) (m - l) (cap - l) Z f ((xs.take m).drop l):=by
 have k:=h.sl.nc;have c:=h.sl.cut d e (cap - l) (by omega) (by have:=h.sl.cm;omega) (if cap=l then a else a.map (·.add (l*Z))) (λi o j b=>by
  rw[bO (by omega),b];simp[fU])
 exact eI.of c f _ h.cells (by rw[tT h.cells,wx h.cells]) (by rw[List.length_drop,lA,h.num];omega)
end
section
variable {P:Program} {n:Nat} {ops:Array Oper} {Q:Exit→Act→World→Prop} {o:Oper} {rest:List Oper} {e:cA} {w:World} {d:Nat}
end
section
variable {P:Program} {e:cA} {g:Gw} {d:Option Tmp} {ty:TypeId} {pos:String} {af:Array Edge} {gd:Option (Nat × Bool)} {t t':TypeId} {x y:Operand}
end
theorem eI.lt{α:Type}{g:Gw}{a:Option Addr}{n cap Z:Nat}{f:α→List Value}{xs:List α}(h:eI g a n cap Z f xs)(i:0<n)(j:0<Z):∀b,lN a b→b<g.w.heap.size:=by
 intro b e;obtain⟨d,l,rfl,k,_⟩:=h.sl.pos i;simp[lN]at e;subst e;rcases ez d g.w.heap.size with c|c
 ·exact c
 ·have:=g.ok d c;have:=Nat.mul_pos i j;omega
abbrev s6:=@World.cell?_of_block
end Go.Eng
namespace Go.Pi
open Go.Eng
inductive D where
 |any|bF
 |bool (b:Bool)|int (k:IntKind) (n:Int)|str (s:List UInt8)
 |e5|ptr (o i off:Nat)|aG (cs:List D)
 |J|sl (Z:Nat) (full:Bool) (rows:List (List D))|aC (Z o r n:Nat)
 |gb|fn (f:Fn) (first caps:List D)
 |gY|iface (t:TypeId) (d:D)
 |agg (cs:List D)|bR (ds:List D)
 |raw (v:Value)
 deriving Inhabited
def D.one:D→Bool
 |.agg _|.bR _|.any|.bF|.raw _=>false
 |_=>true
inductive Ob where
 |row (T:TypeId) (Z:Nat) (rows:List (List D))
 |dead
 deriving Inhabited
abbrev Y:=List Ob
structure Me where
 b:Nat
 Z:Nat
 len:Nat
 cap:Nat
structure Gh where
 w:World
 ms:List Me
 L:Nat→Prop
def Gh.V(g:Gh)(b:Nat):Prop:=b<g.w.heap.size∧¬g.L b
structure fV (g g':Gh):Prop where
 os:g'.w.os=g.w.os
 tape:g'.w.tape=g.w.tape
 output:g'.w.output=g.w.output
 size:g.w.heap.size≤g'.w.heap.size
 ms:∀(o:Nat) (m:Me),g.ms[o]?=some m→g'.ms[o]?=some m
 V:∀b,g.V b→g'.V b∧g'.w.heap[b]?=g.w.heap[b]?
def Gh.bH(g:Gh)(b:Nat):Prop:=b<g.w.heap.size∧g.L b∧∀(c:Nat) (a:Me),g.ms[c]?=some a→a.b≠b
structure aH (g g':Gh):Prop extends fV g g' where
 bH:∀b,g.bH b→g'.bH b∧g'.w.heap[b]?=g.w.heap[b]?
theorem aH.refl(g:Gh):aH g g:=⟨⟨rfl,rfl,rfl,aX _,λ_ _ a=>a,λ_ a=>⟨a,rfl⟩⟩,λ_ a=>⟨a,rfl⟩⟩
theorem aH.trans{g g' c:Gh}(h:aH g g')(k:aH g' c):aH g c:=
 ⟨⟨k.os.trans h.os,k.tape.trans h.tape,k.output.trans h.output,g9 h.size k.size,λe d f=>k.ms e d (h.ms e d f),
  λa b=>⟨(k.V a (h.V a b).1).1,(k.V a (h.V a b).1).2.trans (h.V a b).2⟩⟩,λa b=>⟨(k.bH a (h.bH a b).1).1,(k.bH a (h.bH a b).1).2.trans (h.bH a b).2⟩⟩
theorem aH.oq{g g':Gh}(h:fV g g')(e:g'.ms=g.ms)(c:g'.L=g.L)(d:∀b,b<g.w.heap.size→g'.w.heap[b]?=g.w.heap[b]?):aH g g':=
 ⟨h,λb a=>⟨⟨fY a.1 h.size,by rw[c];exact a.2.1,by rw[e];exact a.2.2⟩,d b a.1⟩⟩
inductive O (g:Gh):Value→D→Prop
 |any (v):O g v .any
 |bF:O g undef .bF
 |bool (b):O g (.bool b) (.bool b)
 |int (k n):O g (.int k n) (.int k n)
 |str (s:List UInt8):O g (.string ⟨s.toArray⟩) (.str s)
 |e5:O g (.pointer none) .e5
 |ptr (o i off:Nat) (m:Me) (hm:g.ms[o]?=some m):O g (.pointer (some ⟨m.b,i*m.Z+off,none⟩)) (.ptr o i off)
 |aG (b o:Nat) (cs:List D) (vs:Nat→Value) (hf:cs≠[]→g.V b) (hc:∀(j:Nat) (d:D),cs[j]?=some d→g.w.cell? ⟨b,o+j,none⟩=some (vs j))
   (h1:∀(j:Nat) (d:D),cs[j]?=some d→(vs j).oneCell'=true) (hr:∀(j:Nat) (d:D),cs[j]?=some d→O g (vs j) d):O g (.pointer (some ⟨b,o,none⟩)) (.aG cs)
 |J:O g (.slice none 0 0) .J
 |sl (ad:Addr) (n cap Z:Nat) (full:Bool) (rows:List (List D)) (hn:rows.length=n) (hnc:n≤cap) (hcm:cap≤9223372036854775807) (hfull:full=true→cap=n) (fI:0<Z)
   (hrow:∀row∈rows,row.length=Z) (had:rows≠[]→ad.spot=none∧g.V ad.block) (vs:Nat→Nat→Value)
   (hc:∀(i:Nat) (row:List D),rows[i]?=some row→∀(j:Nat) (d:D),row[j]?=some d→g.w.cell? ⟨ad.block,ad.off+i*Z+j,none⟩=some (vs i j))
   (h1:∀(i:Nat) (row:List D),rows[i]?=some row→∀(j:Nat) (d:D),row[j]?=some d→(vs i j).oneCell'=true)
   (hr:∀(i:Nat) (row:List D),rows[i]?=some row→∀(j:Nat) (d:D),row[j]?=some d→O g (vs i j) d):O g (.slice (some ad) n cap) (.sl Z full rows)
 |aC (o r n cap:Nat) (m:Me) (hm:g.ms[o]?=some m) (hn:r+n≤m.len) (hlo:m.len≤r+cap) (hhi:r+cap≤m.cap) (hcm:cap≤9223372036854775807):O g (.slice (some ⟨m.b,r*m.Z,none⟩) n cap) (.aC m.Z o r n)
 |gb:O g .nilFunc .gb
 |fn (f:Fn) (first caps:List D) (vf vc:List Value) (hf:vf.length=first.length) (hc:vc.length=caps.length)
   (rf:∀(j:Nat) (v:Value) (d:D),vf[j]?=some v→first[j]?=some d→O g v d) (rc:∀(j:Nat) (v:Value) (d:D),vc[j]?=some v→caps[j]?=some d→O g v d):O g (.func f vf.toArray vc.toArray) (.fn f first caps)
 |gY:O g .nilIface .gY
 |iface (t:TypeId) (v:Value) (d:D) (h:O g v d):O g (.iface t v) (.iface t d)
 |agg (vs:List Value) (cs:List D) (hl:vs.length=cs.length) (h1:∀v∈vs,v.oneCell'=true) (hr:∀(j:Nat) (v:Value) (d:D),vs[j]?=some v→cs[j]?=some d→O g v d):O g (.agg vs.toArray) (.agg cs)
 |bR (vs:List Value) (ds:List D) (hl:vs.length=ds.length) (hr:∀(j:Nat) (v:Value) (d:D),vs[j]?=some v→ds[j]?=some d→O g v d):O g (.tuple vs.toArray) (.bR ds)
 |raw (v):O g v (.raw v)
theorem fV.cell{g g':Gh}(h:fV g g'){b i:Nat}(a:g.V b):g'.w.cell? ⟨b,i,none⟩=g.w.cell? ⟨b,i,none⟩:=s6 (h.V b a).2
theorem O.fx{g g':Gh}(e:fV g g'){v:Value}{d:D}(h:O g v d):O g' v d:=by
 induction h with
 |any v=>exact .any v
 |bF=>exact .bF
 |bool p=>exact .bool p
 |int X j=>exact .int X j
 |str ad=>exact .str ad
 |e5=>exact .e5
 |ptr k y aa A w=>exact .ptr k y aa A (e.ms _ _ w)
 | aG p k l c m i f x a =>
  refine .aG p k l c (λb=>(e.V _ (m b)).1) (λz d n=>?_) f a;have b:l≠[]:=λt=>by subst t;cases n
  rw[e.cell (m b)];exact i z d n
 |J=>exact .J
 | sl E j q ae I C b N s K Q P r c i f x a =>
  refine .sl E j q ae I C b N s K Q P (λo=>⟨(r o).1,(e.V _ (r o).2).1⟩) c (λy ac B z d n=>?_) f a;have o:C≠[]:=λt=>by subst t;cases B
  rw[e.cell (r o).2];exact i y ac B z d n
 |aC k ab j q A w b M L s=>exact .aC k ab j q A (e.ms _ _ w) b M L s
 |gb=>exact .gb
 |fn H first F ah ag m i aj ai T R=>exact .fn H first F ah ag m i T R
 |gY=>exact .gY
 |iface af v d h a=>exact .iface af v d a
 |agg c l u f x a=>exact .agg c l u f a
 |bR c G u x a=>exact .bR c G u a
 |raw v=>exact .raw v
theorem O.ext{g g':Gh}(a:aH g g'){v:Value}{d:D}(h:O g v d):O g' v d:=h.fx a.tofV
theorem aH.cell{g g':Gh}(h:aH g g'){b i:Nat}(a:g.V b):g'.w.cell? ⟨b,i,none⟩=g.w.cell? ⟨b,i,none⟩:=h.tofV.cell a
theorem O.one{g:Gh}{v:Value}{d:D}(h:O g v d)(a:d.one=true):v.oneCell'=true:=by
 cases h<;>first|rfl|(simp[D.one]at a)
inductive aI (g:Gh):List Value→List D→Prop
 |nil:aI g [] []
 |cons {v d vs ds} (h:O g v d) (r:aI g vs ds):aI g (v::vs) (d::ds)
theorem aI.ext{g g':Gh}(a:aH g g'){vs:List Value}{ds:List D}(h:aI g vs ds):aI g' vs ds:=by
 induction h with
 |nil=>exact .nil
 |cons h _ b=>exact .cons (h.ext a) b
theorem aI.length{g:Gh}{vs:List Value}{ds:List D}(h:aI g vs ds):vs.length=ds.length:=by
 induction h with
 |nil=>rfl
 |cons _ _ a=>simp[a]
theorem aI.get{g:Gh}{vs:List Value}{ds:List D}(h:aI g vs ds):∀(j:Nat) (v:Value) (d:D),vs[j]?=some v→ds[j]?=some d→O g v d:=by
 induction h with
 |nil=>intro j v d h;cases h
 | cons h _ c =>
  intro j v d a b;cases j with
  |zero=>simp at a b;subst a;subst b;exact h
  |succ j=>exact c j v d (by simpa using a) (by simpa using b)
theorem aI.of{g:Gh}:∀{vs:List Value} {ds:List D},vs.length=ds.length→(∀(j:Nat) (v:Value) (d:D),vs[j]?=some v→ds[j]?=some d→O g v d)→aI g vs ds
 |[],[],_,_ =>.nil
 |[],_::_,h,_=>by simp at h
 |_::_,[],h,_=>by simp at h
 |v::vs,d::ds,h,k =>.cons (k 0 v d rfl rfl) (aI.of (by simpa using h) λj v d a h2=>k (j+1) v d (by simpa using a) (by simpa using h2))
theorem aI.append{g:Gh}{vs b:List Value}{ds a:List D}(h:aI g vs ds)(k:aI g b a):aI g (vs++b) (ds++a):=by
 induction h with
 |nil=>exact k
 |cons h _ c=>exact .cons h c
theorem aI.drop{g:Gh}{vs:List Value}{ds:List D}(h:aI g vs ds)(n:Nat):aI g (vs.drop n) (ds.drop n):=by
 refine .of (by simp[h.length]) λd e a b c=>h.get (n+d) e a (by simpa[hC]using b) (by simpa[hC]using c)
theorem aI.take{g:Gh}{vs:List Value}{ds:List D}(h:aI g vs ds)(n:Nat):aI g (vs.take n) (ds.take n):=by
 refine .of (by simp[h.length]) λe f c a b=>?_
 rw[dX]at a b;split at a
 ·rename_i d;rw[bB d]at b;exact h.get e f c a b
 ·cases a
def sy(fr:Nat × Nat)(n:Nat):Prop:=fr=(0,0)∨n≤fr.1
def Fr(fr:Nat × Nat)(n Z:Nat):Prop:=fr=(0,0)∨(n≤fr.1∧Z=1)
theorem Fr.mS{fr:Nat × Nat}{n Z:Nat}(h:Fr fr n Z):sy fr n:=h.imp id And.left
structure Live (g:Gh) (m:Me) (T Z:Nat) (rows:List (List D)) (cs:Array Value):Prop where
 eA:∃fr,g.w.heap[m.b]?=some (.cells cs T fr)∧Fr fr cs.size Z
 fI:m.Z=Z
 pos:0<Z
 hL:g.L m.b
 len:rows.length=m.len
 le:m.len≤m.cap
 room:m.cap*Z≤cs.size
 row:∀row∈rows,row.length=Z
 cell:∀(i:Nat) (row:List D),rows[i]?=some row→∀(j:Nat) (d:D),row[j]?=some d→∃v,cs[i*Z+j]?=some v∧v.oneCell'=true∧O g v d
structure Inv (g:Gh) (h:Y):Prop where
 len:g.ms.length=h.length
 live:∀(o T Z:Nat) (rows:List (List D)),h[o]?=some (.row T Z rows)→∃m cs,g.ms[o]?=some m∧Live g m T Z rows cs
 inj:∀(o o':Nat) (T Z T' sz':Nat) (rows rows':List (List D)) (m m':Me),h[o]?=some (.row T Z rows)→h[o']?=some (.row T' sz' rows')→g.ms[o]?=some m→g.ms[o']?=some m'→m.b=m'.b→o=o'
 L:∀b,g.L b→b<g.w.heap.size
 msb:∀(o:Nat) (m:Me),g.ms[o]?=some m→m.b<g.w.heap.size
theorem Inv.g8{g:Gh}{h:Y}(hi:Inv g h){b:Nat}(a:g.L b):b<g.w.heap.size:=hi.L b a
abbrev DE:=List (Nat × D)
def aQ:DE→Nat→Option D
 |[],_=>none
 | (k,v)::r,t=>match Nat.beq k t with
  |true=>some v
  |false=>aQ r t
theorem fJ(k:Nat)(v:D)(r:DE)(t:Nat):aQ ((k,v)::r) t=if k=t then some v else aQ r t:=by
 simp only[aQ];by_cases a:k=t
 ·subst a;simp
 ·have:Nat.beq k t=false:=by
    cases b:Nat.beq k t with
    |true=>exact absurd (e9 b) a
    |false=>rfl
  rw[this,bO a]
structure dC (n:Nat) (g:Gh) (e:DE) (a:Act):Prop where
 size:a.tmps.size=n
 defers:a.defers=[]
 get:∀t d,aQ e t=some d→O g (a.tmps.getD t undef) d
theorem dC.ext{n:Nat}{g g':Gh}{b:DE}{a:Act}(h:dC n g b a)(e:aH g g'):dC n g' b a:=⟨h.size,h.defers,λf c d=>(h.get f c d).ext e⟩
theorem dC.put{n:Nat}{g:Gh}{e:DE}{a:Act}(h:dC n g e a){t:Nat}(j:t<n){v:Value}{d:D}(i:O g v d):dC n g ((t,d)::e) (a.put (some t) v):=by
 refine⟨by simp[Act.put,h.size],by simp[Act.put,h.defers],λc l b=>?_⟩;rw[fJ]at b;by_cases f:t=c
 ·subst f;rw[bB rfl]at b;injection b with b;subst b;have:(a.put (some t) v).tmps.getD t undef=v:=by simp[Act.put,Array.getD,h.size,j]
  rw[this];exact i
 ·rw[bO f]at b;have:=h.get c l b;have k:(a.put (some t) v).tmps.getD c undef=a.tmps.getD c undef:=by
   simp only[Act.put,cM];rw[hA (by omega)]
  rw[k];exact this
def s4(e' c:DE):Prop:=∀a b,aQ e' a=some b→aQ c a=some b
theorem s4.sat{n:Nat}{g:Gh}{c e':DE}{a:Act}(h:s4 e' c)(b:dC n g c a):dC n g e' a:=⟨b.size,b.defers,λd e f=>b.get d e (h d e f)⟩
end Go.Pi
namespace Go.Pi
open Go.Eng
inductive TD where
 |bool|int (k:IntKind)|str|ptr (e:Nat)|sl (e:Nat)|arr (n e:Nat)|st (fs:List (Nat × Nat × Nat))|fn|uH|Cz
structure TI where
 td:TD
 Z:Nat
 ft:Nat
 zero:List D
 ms:List (String × Option Nat)
def oc:List (String × Option Nat)→String→Option Nat
 |[],_=>none
 | (k,a)::r,m=>match k==m with
  |true=>a
  |false=>oc r m
def TI.isAgg(i:TI):Bool:=match i.td with
 |.st _|.arr _ _=>true
 |_=>false
abbrev aM:=Nat→Option TI
def bD:D→List D
 |.agg cs=>cs
 |d=>[d]
def D.ey:D→Bool
 |.agg _=>true
 |d=>d.one
def jr(i:TI)(cs:List D):Option D:=match i.isAgg with
 | true=>match Nat.ble i.Z cs.length with
  |true=>some (.agg (cs.take i.Z))
  |false=>none
 |false=>cs.head?
def cH(cs:List D)(off:Nat)(vs:List D):List D:=cs.take off++vs++cs.drop (off+vs.length)
def e2:D→D→D→Option D
 |.bool true,a,_=>some a
 |.bool false,_,b=>some b
 |_,_,_=>none
def my(T:aM)(t:Nat)(m:String):Option Nat:=match T t with
 |some a=>oc a.ms m
 |none=>none
def eL(T:aM):D→Option D
 |.ptr o i c=>some (.ptr o i c)
 |.aG cs=>some (.aG cs)
 |.fn (.func c) a b=>some (.fn (.func c) a b)
 | .fn (.method m) [.iface t d] []=>match my T t m with
  |some _=>some (.fn (.method m) [.iface t d] [])
  |none=>none
 |.iface t d=>some (.iface t d)
 |_=>none
def e1(c:BinOp)(k:IntKind)(a b:Int):Option D:=match c with
 |.add=>some (.int k (k.wrap (a+b)))
 |.sub=>some (.int k (k.wrap (a - b)))
 |.mul=>some (.int k (k.wrap (a*b)))
 |.quo=>if b=0 then none else some (.int k (k.wrap (a.tdiv b)))
 |.rem=>if b=0 then none else some (.int k (a.tmod b))
 |.and=>some (.int k (k.wrap (BitVec.ofInt k.bits a &&& BitVec.ofInt k.bits b).toNat))
 |.or=>some (.int k (k.wrap (BitVec.ofInt k.bits a ||| BitVec.ofInt k.bits b).toNat))
 |.xor=>some (.int k (k.wrap (BitVec.ofInt k.bits a ^^^ BitVec.ofInt k.bits b).toNat))
 |.andNot=>some (.int k (k.wrap (BitVec.ofInt k.bits a &&& ~~~(BitVec.ofInt k.bits b)).toNat))
 |.eql=>some (.bool (a==b))
 |.neq=>some (.bool (a != b))
 |.lss=>some (.bool (decide (a<b)))
 |.leq=>some (.bool (decide (a≤b)))
 |.gtr=>some (.bool (decide (a>b)))
 |.geq=>some (.bool (decide (a≥b)))
 |_=>none
def kI(c:BinOp)(a b:List UInt8):Option D:=match c with
 |.add=>if a.length+b.length≤9223372036854775807 then some (.str (a++b))else none
 |.eql=>some (.bool (a==b))
 |.neq=>some (.bool (!(a==b)))
 |.lss=>some (.bool (Op.bytesLess a b))
 |.leq=>some (.bool (Op.bytesLess a b||a==b))
 |.gtr=>some (.bool (!(Op.bytesLess a b||a==b)))
 |.geq=>some (.bool (!(Op.bytesLess a b)))
 |_=>none
def Ef:D→D→Option Bool
 |.bool a,.bool b=>some (a==b)
 |.int k a,.int c b=>if k=c then some (a==b)else none
 |.str a,.str b=>some (a==b)
 |_,_=>none
def lQ(T:aM)(xs ys:List D):List (Nat × Nat × Nat)→Option Bool
 |[]=>some true
 | (t,off,_)::r=>match lQ T xs ys r,T t with
  | some c,some i=>match i.td,xs[off]?,ys[off]? with
   |.bool,some (.bool a),some (.bool b)=>some (a==b&&c)
   |.int _,some (.int k a),some (.int d b)=>if k=d then some (a==b&&c)else none
   |.str,some (.str a),some (.str b)=>some (a==b&&c)
   |_,_,_=>none
  |_,_=>none
def kE(T:aM)(e:Nat)(x y:D):Option Bool:=match T e with
 | some d=>match d.td,x,y with
  |.bool,.bool a,.bool b=>some (a==b)
  |.st c,.agg f,.agg g=>lQ T f g c
  |.ptr _,.e5,.e5=>some true
  |.ptr _,.e5,.ptr _ _ _=>some false
  |.ptr _,.e5,.aG _=>some false
  |.ptr _,.ptr _ _ _,.e5=>some false
  |.ptr _,.aG _,.e5=>some false
  |.sl _,.J,.J=>some true
  |.sl _,.J,.sl _ _ _=>some false
  |.sl _,.J,.aC _ _ _ _=>some false
  |.sl _,.sl _ _ _,.J=>some false
  |.sl _,.aC _ _ _ _,.J=>some false
  |.fn,.gb,.gb=>some true
  |.fn,.gb,.fn _ _ _=>some false
  |.fn,.fn _ _ _,.gb=>some false
  |_,_,_=>none
 |none=>none
def S(T:aM)(op:BinOp)(d:Nat)(x y:D):Option D:=match x,y with
 | .int b c,.int e a=>match op with
  |.shl=>if a<0 then none else some (.int b (b.wrap (c*2 ^ (min a.toNat b.bits))))
  |.shr=>if a<0 then none else some (.int b (c.fdiv (2 ^ (min a.toNat b.bits))))
  |op=>if b=e then e1 op b c a else none
 |.str c,.str a=>kI op c a
 | x,y=>match op with
  |.eql=>(kE T d x y).bind λa=>some (.bool a)
  |.neq=>(kE T d x y).bind λa=>some (.bool (!a))
  |_=>none
def gR(d:UnOp)(x:D):Option D:=match d,x with
 |.not,.bool c=>some (.bool (!c))
 |.neg,.int a b=>some (.int a (a.wrap (0 - b)))
 |.xor,.int a b=>some (.int a (a.wrap (BitVec.ofInt a.bits (if a.signed then -1 else a.max) ^^^ BitVec.ofInt a.bits b).toNat))
 |_,_=>none
def jW(T:aM)(s t:Nat)(x:D):Option D:=match T s,T t with
 | some b,some c=>match c.td,x with
  |.int a,.int _ d=>some (.int a (a.wrap d))
  | .str,.str s=>match b.td with
   |.str=>some (.str s)
   |_=>none
  |_,_=>none
 |_,_=>none
def ny (T:aM) (t a:Nat):Option (Nat × TI):=match T t with
 | some c=>match c.td with
  | .st b=>match b[a]? with
   | some (f,e,_)=>match T f with
    |some d=>some (e,d)
    |none=>none
   |none=>none
  |_=>none
 |none=>none
def aD(T:aM)(t c:Nat)(x:D):Option D:=match ny T t c with
 | some (a,e)=>match Nat.blt 0 e.Z,x with
  | true,.aG b=>match Nat.blt a b.length with
   |true=>some (.aG (b.drop a))
   |false=>none
  |true,.ptr g d f=>some (.ptr g d (f+a))
  |_,_=>none
 |none=>none
def pM(T:aM)(t b:Nat)(x:D):Option D:=match ny T t b with
 | some (d,c)=>match x with
  |.agg a=>jr c (a.drop d)
  |_=>none
 |none=>none
def jX(T:aM)(t:Nat):Option (TI × Option Nat):=match T t with
 | some c=>match c.td with
  | .sl a=>match T a with
   |some b=>some (b,none)
   |none=>none
  | .arr d a=>match T a with
   |some b=>some (b,some d)
   |none=>none
  |_=>none
 |none=>none
def bE(T:aM)(t:Nat)(x y:D):Option D:=match jX T t,y with
 | some (b,none),.int _ a=>match x with
  | .sl e _ k=>if e=b.Z∧0≤a then match k[a.toNat]? with
   |some j=>some (.aG j)
   |none=>none
   else none
  |.aC e d i c=>if e=b.Z∧0≤a∧a<c then some (.ptr d (i+a.toNat) 0)else none
  |_=>none
 | some (b,some c),.int _ a=>if 0≤a∧a<c∧0<b.Z then match x with
  |.aG f=>if a.toNat*b.Z<f.length then some (.aG (f.drop (a.toNat*b.Z)))else none
  |.ptr d h g=>some (.ptr d h (g+a.toNat*b.Z))
  |_=>none
  else none
 |_,_=>none
def pP (T:aM) (t:Nat) (x y:D):Option D:=match x,y with
 | .str f,.int _ a=>match T t with
  | some g=>match g.td with
   | .str=>if 0≤a then match f[a.toNat]? with
    |some c=>some (.int .u8 c.toNat)
    |none=>none
    else none
   |_=>none
  |none=>none
 | .agg d,.int _ a=>match jX T t with
  |some (b,some e)=>if 0≤a∧a<e then jr b (d.drop (a.toNat*b.Z))else none
  |_=>none
 |_,_=>none
def hq (T:aM) (t:Nat) (x:D) (lo hi mx:Option Int):Option D:=match T t with
 | some m=>match m.td,x with
  | .str,.str g =>
   let a:=hi.getD g.length
   let b:=lo.getD 0
   if mx=none∧0≤b∧b≤a∧a≤g.length then some (.str ((g.take a.toNat).drop b.toNat))else none
  | .sl i,x=>match T i with
   | some f=>match x with
    |.J=>if lo.getD 0=0∧hi.getD 0=0∧mx.getD 0=0 then some .J else none
    | .sl c j d =>
     let a:=hi.getD d.length
     let b:=lo.getD 0
     if c=f.Z∧0≤b∧b≤a then match mx with
      |none=>if a≤d.length then some (.sl c (j&&decide (a=d.length)) ((d.take a.toNat).drop b.toNat))else none
      |some e=>if a≤e∧e≤d.length then some (.sl c (decide (a=e)) ((d.take a.toNat).drop b.toNat))else none
     else none
    | .aC c k l h =>
     let a:=hi.getD h
     let b:=lo.getD 0
     if c=f.Z∧0<f.Z∧0≤b∧b≤a∧a≤h then match mx with
      |none=>if b<a∨b=0 then some (.aC c k (l+b.toNat) (a - b).toNat)else some (.sl c false [])
      |some e=>if b=0∧a=0∧e=0 then some (.sl c true [])else none
     else none
    |_=>none
   |none=>none
  |_,_=>none
 |none=>none
def eZ:D→Option Int
 |.int _ n=>some n
 |_=>none
def ga(T:aM)(t:Nat)(l h m:Bool)(ds:List D):Option D:=match l,h,m,ds with
 |false,false,false,[c]=>hq T t c none none none
 |true,false,false,[c,a]=>(eZ a).bind λa=>hq T t c (some a) none none
 |false,true,false,[c,a]=>(eZ a).bind λa=>hq T t c none (some a) none
 |true,true,false,[c,a,b]=>(eZ a).bind λa=>(eZ b).bind λb=>hq T t c (some a) (some b) none
 |false,true,true,[c,a,b]=>(eZ a).bind λa=>(eZ b).bind λb=>hq T t c none (some a) (some b)
 |true,true,true,[c,a,b,d]=>(eZ a).bind λa=>(eZ b).bind λb=>(eZ d).bind λd=>hq T t c (some a) (some b) (some d)
 |_,_,_,_=>none
def iv(i:Nat):D→Option D
 |.bR ds=>ds[i]?
 |_=>none
def ho(fs:List (Nat × Nat × Nat)):List D→List Nat→List D→Option (List D)
 |cs,[],[]=>some cs
 | cs,i::a,d::ds=>match fs[i]? with
  | some (_,off,Z)=>match Nat.beq (bD d).length Z&&Nat.ble (off+Z) cs.length&&d.ey with
   |true=>ho fs (cH cs off (bD d)) a ds
   |false=>none
  |none=>none
 |_,_,_=>none
def dE(T:aM)(t:Nat)(d:List Nat)(ds:List D):Option D:=match T t with
 | some b=>match b.td with
  |.st f=>(ho f b.zero d ds).bind λa=>some (.agg a)
  | .arr h c=>match T c with
   |some e=>(ho ((List.range h).map λg=>(c,g*e.Z,e.Z)) b.zero d ds).bind λa=>some (.agg a)
   |none=>none
  |_=>none
 |none=>none
def lS(Z:Nat):Nat→List Nat→List D→Option (List (List D))
 |_,[],[]=>some []
 | k,i::a,d::ds=>match Nat.beq i k&&Nat.beq (bD d).length Z&&d.ey with
  | true=>match lS Z (k+1) a ds with
   |some r=>some (bD d::r)
   |none=>none
  |false=>none
 |_,_,_=>none
def iS (T:aM) (t n:Nat) (c:List Nat) (ds:List D):Option (Nat × Nat × List (List D)):=match T t with
 | some d=>match d.td with
  | .sl b=>match T b with
   | some a=>match Nat.blt 0 a.Z&&Nat.ble (n*a.Z) 16777216&&Nat.beq c.length n with
    | true=>match lS a.Z 0 c ds with
     |some e=>some (b,a.Z,e)
     |none=>none
    |false=>none
   |none=>none
  |_=>none
 |none=>none
def kG:D→Option D
 |.str s=>some (.int .i64 s.length)
 |.J=>some (.int .i64 0)
 |.sl _ _ rows=>some (.int .i64 rows.length)
 |.aC _ _ _ n=>some (.int .i64 n)
 |_=>none
def pH:D→Option D
 |.J=>some (.int .i64 0)
 |.sl _ true rows=>some (.int .i64 rows.length)
 |_=>none
def bT(T:aM)(t:Nat)(x:D):Option D:=match T t with
 | some e=>match e.td,x with
  |.str,.str f=>kG (.str f)
  |.sl _,.J=>kG .J
  |.sl _,.sl a b c=>kG (.sl a b c)
  |.sl _,.aC a b c d=>kG (.aC a b c d)
  |_,_=>none
 |none=>none
def tH(T:aM)(t:Nat)(x:D):Option D:=match T t with
 | some a=>match a.td with
  |.sl _=>pH x
  |_=>none
 |none=>none
def jq:D→D→Option D
 |.int k a,.int _ b=>some (.int k (if b<a then b else a))
 |_,_=>none
def pR:D→D→Option D
 |.int k a,.int _ b=>some (.int k (if b>a then b else a))
 |_,_=>none
def jo(t:Nat):D→Option D
 |.iface a x=>if a=t then some x else none
 |_=>none
def g4(T:aM)(g:Op)(ds:List D):Option D:=match g with
 |.move _|.assign _=>match ds with|[i]=>some i|_=>none
 |.pick _ _ _=>match ds with|[e,h,k]=>e2 e h k|_=>none
 |.nilCheck _=>match ds with|[i]=>eL T i|_=>none
 |.binOp g u _ _ _=>match ds with|[a,c]=>S T g u a c|_=>none
 |.unOp g _ _=>match ds with|[a]=>gR g a|_=>none
 |.convert s b _=>match ds with|[a]=>jW T s b a|_=>none
 |.makeFunc f h k=>some (.fn f (ds.take h.size) (ds.drop h.size))
 |.slice b _ o n p=>ga T b o.isSome n.isSome p.isSome ds
 |.fieldAddr b _ f=>match ds with|[a]=>aD T b f a|_=>none
 |.field b _ f=>match ds with|[a]=>pM T b f a|_=>none
 |.indexAddr b _ _=>match ds with|[a,c]=>bE T b a c|_=>none
 |.index b _ _=>match ds with|[a,c]=>pP T b a c|_=>none
 |.extract _ d=>match ds with|[a]=>iv d a|_=>none
 |.build b j=>dE T b (j.toList.map (·.1)) ds
 | .makeInterface b _=>match ds,T b with
  | [a],some d=>(match d.td with
   |.ptr _=>some (.iface b a)
   |.int _=>some (.iface b a)
   |_=>none)
  |_,_=>none
 | .typeAssert _ _ b l=>match ds,T b with
  | [a],some d=>(match d.td,l with
   |.int _,false=>jo b a
   |_,_=>none)
  |_,_=>none
 |.alloc m=>match T m with|some d=>some (.aG d.zero)|none=>none
 |.box _ _=>match ds with|[a]=>if a.ey then some (.aG (bD a))else none|_=>none
 |.buildSlice b q j=>(iS T b q (j.toList.map (·.1)) ds).bind λ(_,t,r)=>some (.sl t true r)
 | .call e=>match e.callee with
  |.builtin .len=>match ds,e.argTypes[0]? with|[a],some b=>bT T b a|_,_=>none
  |.builtin .cap=>match ds,e.argTypes[0]? with|[a],some b=>tH T b a|_,_=>none
  |.builtin .min=>match ds with|[a,c]=>jq a c|_=>none
  |.builtin .max=>match ds with|[a,c]=>pR a c|_=>none
  |_=>none
 |_=>none
def Y.row(h:Y)(o i:Nat):Option (List D):=match h[o]? with
 |some (.row _ _ a)=>a[i]?
 |_=>none
def aA(T:aM)(h:Y)(t:Nat)(p:D):Option D:=match T t with
 | some a=>match p with
  |.aG b=>jr a b
  | .ptr d c e=>match h.row d c with
   |some f=>jr a (f.drop e)
   |none=>none
  |_=>none
 |none=>none
def gn(h:Y)(Z:Nat):D→Option (List (List D))
 |.J=>some []
 |.sl z _ rows=>if z=Z then some rows else none
 | .aC z o r n=>if z=Z then match h[o]? with
  |some (.row _ _ rows)=>some ((rows.drop r).take n)
  |_=>none
  else none
 |_=>none
def lP:List (List D)→Option (List UInt8)
 |[]=>some []
 | [.int .u8 n]::r=>match lP r with
  |some s=>some (UInt8.ofNat n.toNat::s)
  |none=>none
 |_=>none
def tM(h:Y)(x:D):Option D:=match gn h 1 x with
 | some a=>match lP a with
  |some b=>some (.str b)
  |none=>none
 |none=>none
def h3 (T:aM) (h:Y) (f:Op) (ds:List D):Option D:=match f with
 |.load a _=>match ds with|[g]=>aA T h a g|_=>none
 | .convert i a _=>match T i,T a with
  | some c,some d=>match c.td,d.td with
   | .sl b,.str=>match T b with
    | some e=>match e.td with
     |.int .u8=>match ds with|[j]=>tM h j|_=>none
     |_=>none
    |none=>none
   |_,_=>none
  |_,_=>none
 |_=>none
def aF(h:Y)(T Z:Nat)(rows:List (List D)):Y:=h++[.row T Z rows]
def bU (T:aM) (h:Y) (t:Nat) (p v:D):Option Y:=match T t,p with
 | some a,.ptr c b d=>match h[c]? with
  | some (.row g i f)=>match f[b]? with
   | some e=>match Nat.beq (bD v).length a.Z&&Nat.ble (d+a.Z) e.length&&v.ey with
    |true=>some (h.set c (.row g i (f.set b (cH e d (bD v)))))
    |false=>none
   |none=>none
  |_=>none
 |_,_=>none
def hK(s:List UInt8):List (List D):=s.map λa=>[.int .u8 a.toNat]
def bH(n a:Nat):Bool:=Nat.ble (n*a) 140737488355328&&Nat.ble n 9223372036854775807
def iw(h:Y)(c j:TI)(y:D):Option (List (List D)):=match c.td with
 | .str=>match j.td,y with
  |.int .u8,.str b=>if j.Z=1 then some (hK b)else none
  |_,_=>none
 |.sl _=>gn h j.Z y
 | .int _=>match y with
  |.int .i64 a=>if 0≤a∧bH a.toNat j.ft=true then some (List.replicate a.toNat j.zero)else none
  |_=>none
 |_=>none
def dM (T:aM) (h:Y) (t q:Nat) (x y:D):Option (D × Y):=match T t,T q with
 | some o, some p=>match o.td with
  | .sl e => match T e with
   | some a=>match Nat.blt 0 a.Z,iw h p a y with
    | true,some []=>match x with
     |.J=>some (.J,h)
     |.sl i j k=>some (.sl i j k,h)
     |.aC i j k n=>some (.aC i j k n,h)
     |_=>none
    | true, some b=>match x with
     |.J=>if bH b.length a.ft=true then some (.aC a.Z h.length 0 b.length,aF h e a.Z b)else none
     |.sl f true c=>if f=a.Z∧bH (c.length+b.length) a.ft=true then some (.aC a.Z h.length 0 (c.length+b.length),aF h e a.Z (c++b))else none
     | .aC f g 0 d=>match h[g]? with
      | some (.row l m c)=>if f=a.Z∧m=f∧l=e∧d≤c.length∧bH (d+b.length) a.ft=true then
        (if d=c.length then some (.aC a.Z h.length 0 (d+b.length),aF (h.set g .dead) e a.Z (c++b))
        else if d+b.length≤c.length then some (.aC f g 0 (d+b.length),h.set g (.row l m (c.take d++b++c.drop (d+b.length))))else none)
       else none
      |_=>none
     |_=>none
    |_,_=>none
   |none=>none
  |_=>none
 |_,_=>none
def vA(i:TI):Bool:=match i.td with
 |.int _=>false
 |_=>true
def pK (T:aM) (h:Y) (t n:Nat) (x y:D):Option (D × Y):=match T t,T n with
 | some m, some d=>match m.td,vA d with
  | .sl l,true=>match T l with
   | some a=>match Nat.blt 0 a.Z,iw h d a y with
    | true,some c=>match x with
     |.J=>some (.int .i64 0,h)
     | .aC i e f b=>match h[e]? with
      |some (.row k j g)=>if i=a.Z∧j=i then some (.int .i64 (min c.length b:Nat),h.set e (.row k j (g.take f++c.take b++g.drop (f+min c.length b))))else none
      |_=>none
     |_=>none
    |_,_=>none
   |none=>none
  |_,_=>none
 |_,_=>none
def lR(T:aM)(h:Y)(t:Nat)(n c:D):Option (D × Y):=match T t,n,c with
 | some d,.int .i64 n,.int .i64 c=>match d.td with
  | .sl b=>match T b with
   |some a=>if 0≤n∧n≤c∧bH c.toNat a.ft=true∧0<a.Z then some (.aC a.Z h.length 0 n.toNat,aF h b a.Z (List.replicate n.toNat a.zero))else none
   |none=>none
  |_=>none
 |_,_,_=>none
def pJ (T:aM) (h:Y) (t:Nat) (x:D):Option (D × Y):=match T t with
 | some k=>match k.td with
  | .sl j=>match T j with
   | some a=>match Nat.blt 0 a.Z,x with
    |true,.J=>some (.bR [],h)
    |true,.sl _ _ []=>some (.bR [],h)
    |true,.aC _ _ _ 0=>some (.bR [],h)
    | true,.aC f c d b=>match h[c]? with
     |some (.row i g e)=>if f=a.Z∧g=f then some (.bR [],h.set c (.row i g (e.take d++List.replicate b a.zero++e.drop (d+b))))else none
     |_=>none
    |_,_=>none
   |none=>none
  |_=>none
 |none=>none
def pL (T:aM) (h:Y) (t:Nat) (l c:Bool) (ds:List D):Option (D × Y):=match ga T t l c true ds with
 |some i=>some (i,h)
 | none=>match l,c,ds with
  | false,true,[.aC b e 0 d,.int _ a,.int _ g]=>match h[e]?,T t with
   | some (.row o n f),some k=>match k.td with
    | .sl j=>match T j with
     |some m=>if b=m.Z∧n=b∧a=g∧0≤a∧a≤d∧d≤f.length then some (.sl b true (f.take a.toNat),h.set e .dead)else none
     |none=>none
    |_=>none
   |_,_=>none
  |_,_,_=>none
def pQ (T:aM) (h:Y) (s t:Nat) (x:D):Option (D × Y):=match T t with
 | some c=>match c.td,x with
  | .sl b,.aC 1 a f e=>match T b,h[a]? with
   | some d,some (.row _ 1 _)=>match d.td with
    |.int .u8=>if s=t then some (.aC 1 a f e,h)else none
    |_=>none
   |_,_=>none
  |_,_=>none
 |none=>none
def jG (T:aM) (h:Y) (r:Op) (ds:List D):Option (D × Y):=match r with
 |.store a _ _=>match ds with|[s,u]=>(bU T h a s u).bind λm=>some (.bF,m)|_=>none
 |.alloc c=>match T c with|some d=>if 0<d.Z then some (.ptr h.length 0 0,aF h c d.Z [d.zero])else none|none=>none
 |.box c _=>match T c,ds with|some d,[b]=>if b.ey=true∧(bD b).length=d.Z∧0<d.Z then some (.ptr h.length 0 0,aF h c d.Z [bD b])else none|_,_=>none
 |.buildSlice a g t=>(iS T a g (t.toList.map (·.1)) ds).bind λ(c,l,k)=>some (.aC l h.length 0 k.length,aF h c l k)
 |.makeSlice a _ _=>match ds with|[g,e]=>lR T h a g e|_=>none
 |.slice a _ q n (some _)=>pL T h a q.isSome n.isSome ds
 | .convert f a _=>match T f,T a,ds with
  | some d,some o,[b]=>match d.td,o.td with
   | .str,.sl c=>match T c with
    | some p=>match p.td with
     | .int .u8=>match b with
      |.str f=>if bH f.length 1=true then some (.aC 1 h.length 0 f.length,aF h c 1 (hK f))else none
      |_=>none
     |_=>none
    |none=>none
   |.sl _,.sl _=>pQ T h f a b
   |_,_=>none
  |_,_,_=>none
 | .call e=>match e.callee with
  |.builtin .append=>match ds,e.argTypes.toList with|[b,j],[a,i]=>dM T h a i b j|_,_=>none
  |.builtin .copy=>match ds,e.argTypes.toList with|[b,j],[a,i]=>pK T h a i b j|_,_=>none
  |.builtin .clear=>match ds,e.argTypes.toList with|[b],[a]=>pJ T h a b|_,_=>none
  |_=>none
 |_=>none
def mj(T:aM)(c:Op):Option D:=match c with
 | .alloc a=>match T a with
  | some b=>match Nat.blt 0 b.Z with
   |true=>some .any
   |false=>none
  |none=>none
 |_=>none
inductive wQ where
 |pure|read|write|call|dQ
def cG(T:aM)(V:List Nat)(o:Oper):wQ:=match o.op with
 |.load _ _ =>.read
 | .convert e f _=>match T e,T f with
  | some c,some d=>match c.td,d.td with
   |.sl _,.str =>.read
   |.str,.sl _ =>.write
   |.sl _,.sl _ =>.write
   |_,_ =>.pure
  |_,_ =>.pure
 |.store _ _ _|.makeSlice _ _ _ =>.write
 | .slice _ _ _ _ (some _)=>match o.dst with
  |some a=>if V.any (Nat.beq a)then .pure else .write
  |none =>.write
 | .alloc _=>match o.dst with
  |some a=>if V.any (Nat.beq a)then .pure else if V.any (Nat.beq (a+1000000))then .dQ else .write
  |none =>.write
 | .box _ _|.buildSlice _ _ _=>match o.dst with
  |some a=>if V.any (Nat.beq a)then .pure else .write
  |none =>.write
 | .call b=>match b.callee with
  |.builtin .append|.builtin .copy|.builtin .clear =>.write
  |.builtin _ =>.pure
  |_ =>.call
 |_ =>.pure
end Go.Pi
namespace Go.Eng
abbrev bI:=@run_underlying
abbrev dK:=@List.getElem?_map
abbrev hD:=@List.map_cons
abbrev iN:=@Option.some.injEq
abbrev oU:=@ByteArray.ext
end Go.Eng
namespace Go.Pi
open Go.Eng
def hY:Value→D
 |.bool b =>.bool b
 |.int k n =>.int k n
 |.string s =>.str s.data.toList
 |.pointer none =>.e5
 |.slice none 0 0 =>.J
 |.nilFunc =>.gb
 |.nilIface =>.gY
 |_ =>.any
def ofConst:Value→D
 | .agg cs=>match cs.toList.all (·.oneCell')with
  |true =>.agg (cs.toList.map hY)
  |false =>.any
 |v=>hY v
theorem q2(g:Gh)(v:Value):O g v (hY v):=by
 unfold hY;split<;>first|exact .any _|exact .bool _|exact .int _ _|exact .str _|exact .e5|exact .J|exact .gb|exact .gY
theorem CN(g:Gh)(v:Value):O g v (ofConst v):=by
 unfold ofConst;split
 ·rename_i b;split
  ·rename_i c;have:=O.agg (g:=g) b.toList (b.toList.map hY) (by simp) (λv e=>(eD.1 c) v e) (λh v f d a=>by
    rw[dK,d]at a;injection a with a;subst a;exact q2 g v)
   simpa using this
  ·exact .any _
 ·exact q2 g _
theorem kb(g:Gh)(vs:List Value):aI g vs (vs.map hY) :=.of (by simp) λe c d b a=>by
 rw[dK,b]at a;injection a with a;subst a;exact q2 g c
def kN(P:Program)(fs:Array Field):List (Nat × Nat × Nat):=fs.toList.map λa=>(a.type,a.offset,P.cellsOf a.type)
def gf(P:Program):TypeDesc→TD
 |.bool =>.bool
 |.int k =>.int k
 |.string =>.str
 |.pointer a =>.ptr a
 |.slice a =>.sl a
 |.array n a =>.arr n a
 |.struct fs =>.st (kN P fs)
 |.func _ _ _ =>.fn
 |.interface _ =>.uH
 |_ =>.Cz
def vu(i:TypeInfo)(d:TD):List (String × Option Nat):=i.methods.toList.map λa=>(a.name,match d,a.func with
 | .ptr _,some (b,true)=>(match a.path.toList with
  |[]=>some b
  |_=>none)
 |_,_=>none)
def lj(P:Program)(t:Nat):Option TI:=match P.info? t,P.underlying t with
 | some i,some a=>match i.zero with
  |some b=>some ⟨gf P a,i.size,i.bytes,b.cells.toList.map hY,vu i (gf P a)⟩
  |none=>none
 |_,_=>none
def kP(P:Program)(t:Nat):Bool:=match P.info? t,P.underlying t with
 | some i,some d=>(match i.zero with
  |some b=>Nat.beq b.cells.size i.size&&b.cells.toList.all (·.oneCell')
  |none=>false)&&(match d with
  |.struct c=>c.toList.all (λa=>a.name != "_" && (P.info? a.type).isSome) && !P.stoodInHeld t && !P.eqGuardType P.depth t
  |_=>true)
 |_,_=>false
def aZ(P:Program)(T:aM):Prop:=∀t i,T t=some i→lj P t=some i∧kP P t=true
section tab
variable {P:Program} {T:aM} (hT:aZ P T) {t:Nat} {i:TI} (ht:T t=some i)
include hT ht
theorem aZ.get:∃b d z,P.info? t=some b∧P.underlying t=some d∧b.zero=some z∧i=⟨gf P d,b.size,b.bytes,z.cells.toList.map hY,vu b (gf P d)⟩∧z.cells.size=b.size∧(∀v∈z.cells.toList,v.oneCell'=true) ∧
  (∀fs,d = .struct fs→(∀h∈fs.toList,h.name ≠ "_" ∧ (P.info? h.type).isSome=true)∧P.stoodInHeld t=false∧P.eqGuardType P.depth t=false):=by
 obtain⟨a,c⟩:=hT t i ht;unfold lj at a;unfold kP at c;cases f:P.info? t with
 |none=>rw[f]at a;simp at a
 | some b =>
  cases j:P.underlying t with
  |none=>rw[f,j]at a;simp at a
  | some d =>
   rw[f,j]at a c;simp only at a c;cases g:b.zero with
   |none=>rw[g]at a;simp at a
   | some z =>
    rw[g]at a c;simp only[iN]at a;simp only[cY]at c;obtain⟨⟨k,l⟩,e⟩:=c;refine⟨b,d,z,rfl,rfl,g,a.symm,e9 k,λv n=>(eD.1 l) v n,λfs m=>?_⟩;subst m;simp only[cY,iI,eD,bne_iff_ne,ne_eq]at e;exact⟨e.1.1,e.1.2,e.2⟩
theorem aZ.size(w:World):(sizeOf t).run P w = .ok i.Z w:=by
 obtain⟨d,e,f,a,b,c,rfl,_⟩:=hT.get ht;simp[sizeOf,typeInfo,a]
theorem aZ.jH:∃z,(∀w,(zeroValue t).run P w = .ok z w)∧i.zero=z.cells.toList.map hY∧z.cells.size=i.Z∧∀v∈z.cells.toList,v.oneCell'=true:=by
 obtain⟨f,g,z,a,e,b,rfl,c,d,_⟩:=hT.get ht;exact⟨z,λw=>by simp[zeroValue,typeInfo,a,b],rfl,c,d⟩
theorem aZ.wM:i.zero.length=i.Z:=by
 obtain⟨c,_,a,b,_⟩:=hT.jH ht;rw[a];simpa using b
theorem aZ.pz(w:World):(isAgg t).run P w = .ok i.isAgg w:=by
 obtain⟨e,b,f,c,a,d,rfl,_⟩:=hT.get ht;cases b<;>simp[isAgg,bI a,TI.isAgg,gf]
theorem aZ.bool(h:i.td = .bool):P.underlying t=some .bool:=by
 obtain⟨e,b,f,c,a,d,rfl,_⟩:=hT.get ht;cases b<;>simp[gf]at h;exact a
theorem aZ.int{k:IntKind}(h:i.td = .int k):P.underlying t=some (.int k):=by
 obtain⟨e,b,f,c,a,d,rfl,_⟩:=hT.get ht;cases b<;>simp[gf]at h;subst h;exact a
theorem aZ.str(h:i.td = .str):P.underlying t=some .string:=by
 obtain⟨e,b,f,c,a,d,rfl,_⟩:=hT.get ht;cases b<;>simp[gf]at h;exact a
theorem aZ.ptr{a:Nat}(h:i.td = .ptr a):P.underlying t=some (.pointer a):=by
 obtain⟨f,c,g,d,b,e,rfl,_⟩:=hT.get ht;cases c<;>simp[gf]at h;subst h;exact b
theorem aZ.sl{a:Nat}(h:i.td = .sl a):P.underlying t=some (.slice a):=by
 obtain⟨f,c,g,d,b,e,rfl,_⟩:=hT.get ht;cases c<;>simp[gf]at h;subst h;exact b
theorem aZ.arr{n a:Nat}(h:i.td = .arr n a):P.underlying t=some (.array n a):=by
 obtain⟨f,c,g,d,b,e,rfl,_⟩:=hT.get ht;cases c<;>simp[gf]at h;obtain⟨rfl,rfl⟩:=h;exact b
theorem aZ.fn(h:i.td = .fn):∃a b c,P.underlying t=some (.func a b c):=by
 obtain⟨j,e,k,f,d,g,rfl,_⟩:=hT.get ht;cases e<;>simp[gf]at h;exact⟨_,_,_,d⟩
theorem aZ.st{fs:List (Nat × Nat × Nat)}(h:i.td = .st fs):∃a,P.underlying t=some (.struct a)∧fs=kN P a∧(∀b∈a.toList,b.name ≠ "_" ∧ (P.info? b.type).isSome=true)∧P.stoodInHeld t=false∧P.eqGuardType P.depth t=false:=by
 obtain⟨j,e,k,f,c,g,rfl,_,_,d⟩:=hT.get ht;cases e<;>simp[gf]at h;exact⟨_,c,h.symm,d _ rfl⟩
end tab
theorem vw {P:Program} {T:aM} (hT:aZ P T) {t:Nat} {m:String} {d:FuncId} (e:my T t m=some d):∃f b c,P.info? t=some f∧f.methods.find? (·.name==m)=some b∧b.path.toList=[]∧b.func=some (d,true)∧P.underlying t=some (.pointer c):=by
 unfold my at e;split at e
 case h_2=>cases e
 rename_i i ht;obtain⟨f,o,E,q,A,B,rfl,_⟩:=hT.get ht;simp only at e;have y:∀(g:List Method),oc (g.map λm=>(m.name,match gf P o,m.func with
 | .ptr _,some (d,true)=>(match m.path.toList with
  |[]=>some d
  |_=>none)
 | _, _ => none)) m=some d→∃b c,g.find? (·.name==m)=some b∧b.path.toList=[]∧b.func=some (d,true)∧gf P o = .ptr c:=by
  intro g
  induction g with
  |nil=>intro a;cases a
  | cons p D x =>
   intro a;simp only[hD,oc]at a;split at a
   ·rename_i h;split at a
    ·rename_i c z v s;split at a
     ·rename_i u;injection a with a;subst a;exact⟨p,c,by simp[List.find?_cons,h],u,s,v⟩
     ·cases a
    ·cases a
   ·rename_i h;obtain⟨b,c,j,k,l,n⟩:=x a;exact⟨b,c,by simp[List.find?_cons,h,j],k,l,n⟩
 obtain⟨b,c,j,k,l,n⟩:=y _ e;have w:P.underlying t=some (.pointer c):=hT.ptr ht n;have r:f.methods.find? (·.name==m)=some b:=by rw[← Array.find?_toList];exact j
 exact⟨f,b,c,q,r,k,l,w⟩
theorem vv(P:Program):∃k,P.types.size+Made.depth=k+1:=by
 have a:0<Made.depth:=by decide
 exact⟨P.types.size+Made.depth - 1,by omega⟩
def dI(P:Program)(ρ:Operand→Value)(o:Oper)(g:Gh)(d:D):Prop:=(∃a,(execOp ρ o).run P g.w = .ok (.value a) g.w∧O g a d)
section ops
variable {P:Program} {T:aM} (hT:aZ P T) {g:Gh} {ρ:Operand→Value} {dst:Option Tmp} {ty:TypeId} {pos:String} {af:Array Edge} {gd:Option (Nat × Bool)}
theorem vT{s:List UInt8}:(ByteArray.mk s.toArray).toList=s:=ByteArray.toList_mk s
theorem ka{s:List UInt8}:(ByteArray.mk s.toArray).size=s.length:=by simp[ByteArray.size]
theorem yt{c a b:Operand}{k i j d:D}(e:O g (ρ c) k)(l:O g (ρ a) i)(m:O g (ρ b) j)(h:e2 k i j=some d):dI P ρ ⟨dst,.pick c a b,ty,pos,af,gd⟩ g d:=by
 unfold e2 at h;split at h
 ·injection h with h;subst h;generalize f:ρ c=n at e;cases e;exact⟨ρ a,by simp[execOp,f,asBool],l⟩
 ·injection h with h;subst h;generalize f:ρ c=n at e;cases e;exact⟨ρ b,by simp[execOp,f,asBool],m⟩
 ·cases h
theorem yr(hT:aZ P T){x:Operand}{e d:D}(a:O g (ρ x) e)(h:eL T e=some d):dI P ρ ⟨dst,.nilCheck x,ty,pos,af,gd⟩ g d:=by
 unfold eL at h;split at h
 ·injection h with h;subst h;refine⟨ρ x,?_,a⟩;generalize b:ρ x=c at a;cases a;simp[execOp,b]
 ·injection h with h;subst h;refine⟨ρ x,?_,a⟩;generalize b:ρ x=c at a;cases a;simp[execOp,b]
 ·injection h with h;subst h;refine⟨ρ x,?_,a⟩;generalize b:ρ x=c at a;cases a;simp[execOp,b]
 ·rename_i F t L;split at h
  case h_2=>cases h
  rename_i w l;injection h with h;subst h;refine⟨ρ x,?_,a⟩;obtain⟨C,G,u,i,j,n,o,A⟩:=vw hT l;obtain⟨E,k⟩:=vv P;generalize b:ρ x=c at a;cases a with
  | fn y first s r K f v p H =>
   match r,f with
   | [q],_ =>
    have m:=p 0 q _ rfl rfl;cases m with
    | iface _ I _ B =>
     simp[execOp,b,run_program,k,nilAhead,typeInfo,i,j,n,followBlind,o]
 ·injection h with h;subst h;refine⟨ρ x,?_,a⟩;generalize b:ρ x=c at a;cases a;simp[execOp,b]
 ·cases h
theorem yx{t:TypeId}{x:Operand}{i:UnOp}{f d:D}(b:O g (ρ x) f)(h:gR i f=some d):dI P ρ ⟨dst,.unOp i t x,ty,pos,af,gd⟩ g d:=by
 unfold gR at h;split at h
 ·rename_i k;injection h with h;subst h;generalize c:ρ x=j at b;cases b;exact⟨.bool (!k),by simp[execOp,c,Op.unary],.bool _⟩
 ·rename_i a e;injection h with h;subst h;generalize c:ρ x=j at b;cases b;exact⟨.int a (a.wrap (0 - e)),by simp[execOp,c,Op.unary,Op.intArith],.int _ _⟩
 ·rename_i a e;injection h with h;subst h;generalize c:ρ x=j at b;cases b;exact⟨.int a (a.wrap (BitVec.ofInt a.bits (if a.signed then -1 else a.max) ^^^ BitVec.ofInt a.bits e).toNat),by simp[execOp,c,Op.unary,Op.intBits],.int _ _⟩
 ·cases h
theorem yj{c:BinOp}{i ty':TypeId}{x y:Operand}{k:IntKind}{a b:Int}{d:D}(p:ρ x = .int k a)(q:ρ y = .int k b)(l:c ≠ .shl∧c ≠ .shr)(h:e1 c k a b=some d):dI P ρ ⟨dst,.binOp c i x y ty',ty,pos,af,gd⟩ g d:=by
 have f:∀j,O g j d→(binOp c i (.int k a) (.int k b)).run P g.w = .ok j g.w→dI P ρ ⟨dst,.binOp c i x y ty',ty,pos,af,gd⟩ g d:=λj o n=>by
  refine⟨j,?_,o⟩;have m:(eqGuard c i x y (.int k a) (.int k b)).run P g.w = .ok () g.w:=by cases c<;>simp[eqGuard]
  simp[execOp,p,q,m,n]
 cases c
 case shl=>exact absurd rfl l.1
 case shr=>exact absurd rfl l.2
 case quo =>
  by_cases e:b=0
  ·simp[e1,e]at h
  ·simp[e1,e]at h;subst h;exact f _ (.int _ _) (by simp[binOp,Op.intDiv,e])
 case rem =>
  by_cases e:b=0
  ·simp[e1,e]at h
  ·simp[e1,e]at h;subst h;exact f _ (.int _ _) (by simp[binOp,Op.intDiv,e])
 all_goals
  simp only[e1,iN]at h;subst h
  first
   |exact f _ (.int _ _) (by simp[binOp,Op.intArith,Op.intCmp,Op.intBits])
   |exact f _ (.bool _) (by simp[binOp,Op.intArith,Op.intCmp,Op.intBits])
theorem yv{c:BinOp}{e ty':TypeId}{x y:Operand}{a b:List UInt8}{d:D}(q:ρ x = .string ⟨a.toArray⟩)(r:ρ y = .string ⟨b.toArray⟩)(h:kI c a b=some d):dI P ρ ⟨dst,.binOp c e x y ty',ty,pos,af,gd⟩ g d:=by
 have j:∀f,O g f d→(Op.stringOp c ⟨a.toArray⟩ ⟨b.toArray⟩).run P g.w = .ok f g.w→dI P ρ ⟨dst,.binOp c e x y ty',ty,pos,af,gd⟩ g d:=λf p o=>by
  refine⟨f,?_,p⟩;have n:(eqGuard c e x y (.string ⟨a.toArray⟩) (.string ⟨b.toArray⟩)).run P g.w = .ok () g.w:=by cases c<;>simp[eqGuard]
  have m:binOp c e (.string ⟨a.toArray⟩) (.string ⟨b.toArray⟩)=Op.stringOp c ⟨a.toArray⟩ ⟨b.toArray⟩:=by cases c<;>simp[binOp]
  simp[execOp,q,r,n,m,o]
 cases c
 case add =>
  by_cases i:a.length+b.length≤9223372036854775807
  ·simp[kI,i]at h;subst h;refine j (.string ⟨(a++b).toArray⟩) (.str _) ?_;have k:¬(9223372036854775807:Int)<(a.length:Int)+(b.length:Int):=by omega
   have l:(ByteArray.mk a.toArray++ByteArray.mk b.toArray)=ByteArray.mk (a++b).toArray:=by
    apply oU;simp
   simp[Op.stringOp,ka,k,l]
  ·simp[kI,i]at h
 all_goals first
  |(simp[kI]at h;done)
  | (simp only[kI,iN]at h
     subst h;exact j _ (.bool _) (by simp[Op.stringOp,vT]))
end ops
end Go.Pi
namespace Go.Eng
abbrev fm:=@List.mem_of_mem_take
abbrev hF:=@List.mem_of_mem_drop
abbrev jM:=@List.getElem?_of_mem
abbrev m9:=@List.getD_eq_getElem?_getD
end Go.Eng
namespace Go.Pi
open Go.Eng
section inv
variable {g:Gh}
theorem O.jU{v:Value}{cs:List D}(h:O g v (.agg cs)):∃vs,v = .agg vs.toArray∧aI g vs cs∧∀d∈vs,d.oneCell'=true:=by
 cases h with
 |agg vs cs b a c=>exact⟨vs,rfl,.of b c,a⟩
theorem O.kZ{vs:List Value}{cs:List D}(h:aI g vs cs)(a:∀b∈vs,b.oneCell'=true):O g (.agg vs.toArray) (.agg cs) :=.agg vs cs h.length a h.get
theorem O.rF{v:Value}{cs:List D}(h:O g v (.bR cs)):∃vs,v = .tuple vs.toArray∧aI g vs cs:=by
 cases h with
 |bR vs cs a b=>exact⟨vs,rfl,.of a b⟩
theorem O.om{vs:List Value}{cs:List D}(h:aI g vs cs):O g (.tuple vs.toArray) (.bR cs) :=.bR vs cs h.length h.get
theorem O.cells{v:Value}{d:D}(h:O g v d)(f:d.ey=true):∃vs,v.cells=vs.toArray∧aI g vs (bD d)∧∀c∈vs,c.oneCell'=true:=by
 by_cases a:d.one=true
 ·have i:=h.one a;refine⟨[v],?_,?_,?_⟩
  ·cases h<;>first|rfl|(simp[D.one]at a)
  ·have:bD d=[d]:=by cases d<;>first|rfl|(simp[D.one]at a)
   rw[this];exact .cons h .nil
  ·intro c b;simp at b;subst b;exact i
 ·cases d<;>simp[D.ey,D.one]at f a;obtain⟨vs,rfl,j,e⟩:=h.jU;exact⟨vs,rfl,j,e⟩
def At(g:Gh)(b o:Nat)(vs:List Value)(cs:List D):Prop:=(∀(c:Nat) (a:Value),vs[c]?=some a→g.w.cell? ⟨b,o+c,none⟩=some a)∧(∀a∈vs,a.oneCell'=true)∧aI g vs cs
theorem At.drop{b o:Nat}{vs:List Value}{cs:List D}(h:At g b o vs cs)(k:Nat):At g b (o+k) (vs.drop k) (cs.drop k):=
 ⟨(λe a c=>by
  rw[hC]at c;have:=h.1 _ a c
  rwa [← jO]at this),(λa d=>h.2.1 a (hF d)),h.2.2.drop k⟩
theorem At.take{b o:Nat}{vs:List Value}{cs:List D}(h:At g b o vs cs)(k:Nat):At g b o (vs.take k) (cs.take k):=
 ⟨(λe c a=>by
  rw[dX]at a;split at a
  ·exact h.1 _ c a
  ·cases a),(λc d=>h.2.1 c (fm d)),h.2.2.take k⟩
theorem At.of{b o:Nat}{cs:List D}(vs:Nat→Value)(m:∀(j:Nat) (d:D),cs[j]?=some d→g.w.cell? ⟨b,o+j,none⟩=some (vs j))(l:∀(j:Nat) (d:D),cs[j]?=some d→(vs j).oneCell'=true)
  (p:∀(j:Nat) (d:D),cs[j]?=some d→O g (vs j) d):At g b o ((List.range cs.length).map vs) cs:=by
 have h:∀(j:Nat) (c:Value),((List.range cs.length).map vs)[j]?=some c→∃d,cs[j]?=some d∧c=vs j:=λj c a=>by
  rw[dK]at a;cases f:(List.range cs.length)[j]? with
  |none=>rw[f]at a;cases a
  | some t =>
   rw[f]at a;have n:=aP.1 f;obtain⟨i,k⟩:=n;simp at i k;subst k;injection a with a;exact⟨cs[j],bX i,a.symm⟩
 refine⟨λj c a=>?_,λc q=>?_,.of (by simp) λj c d a e=>?_⟩
 ·obtain⟨d,e,rfl⟩:=h j c a;exact m j d e
 ·obtain⟨j,a⟩:=jM q;obtain⟨d,e,rfl⟩:=h j c a;exact l j d e
 ·obtain⟨r,s,rfl⟩:=h j c a;exact p j d e
theorem At.aG{b o:Nat}{vs:List Value}{cs:List D}(h:At g b o vs cs)(f:cs≠[]→g.V b):O g (.pointer (some ⟨b,o,none⟩)) (.aG cs):=by
 have i:=h.2.2.length;have e:∀(a:Nat) (c:D),cs[a]?=some c→vs[a]?=some (vs.getD a undef):=λa c d=>by
  have:=(aP.1 d).1;rw[m9,bX (by omega)];rfl
 exact .aG b o cs (λa=>vs.getD a undef) f (λa c d=>h.1 a _ (e a c d)) (λa c d=>h.2.1 _ (dB (e a c d))) (λa c d=>h.2.2.get a _ c (e a c d) d)
theorem O.n1{v:Value}{cs:List D}(h:O g v (.aG cs)):∃b o vs,v = .pointer (some ⟨b,o,none⟩)∧(cs≠[]→g.V b)∧At g b o vs cs:=by
 cases h with
 |aG b o cs vs d c a e=>exact⟨b,o,_,rfl,d,At.of vs c a e⟩
theorem O.oG{v:Value}{Z:Nat}{a:Bool}{rows:List (List D)}(h:O g v (.sl Z a rows)){i:Nat}{row:List D}(hi:rows[i]?=some row):
  ∃b o n cap vs,v = .slice (some ⟨b,o,none⟩) n cap∧n=rows.length∧g.V b∧At g b (o+i*Z) vs row∧row.length=Z:=by
 cases h with
 | sl f n cap Z a rows m u s t w r k vs c j q =>
  have p:rows≠[]:=λl=>by subst l;cases hi
  obtain⟨e,d⟩:=k p;obtain⟨b,o,x⟩:=f;simp only at e d c;subst e;exact⟨b,o,n,cap,_,rfl,m.symm,d,At.of (vs i) (c i row hi) (j i row hi) (q i row hi),r row (dB hi)⟩
end inv
section ops
variable {P:Program} {T:aM} (hT:aZ P T) {g:Gh} {ρ:Operand→Value} {dst:Option Tmp} {ty:TypeId} {pos:String} {af:Array Edge} {gd:Option (Nat × Bool)}
theorem u7{t:Nat}{i:TI}(hT:aZ P T)(l:T t=some i){b o:Nat}{vs:List Value}{cs:List D}(h:At g b o vs cs){d:D}(a:jr i cs=some d):∃v,(loadVar t ⟨b,o,none⟩).run P g.w = .ok v g.w∧O g v d:=by
 unfold jr at a;have k:=hT.pz l;split at a
 ·rename_i f;split at a
  ·rename_i n;injection a with a;subst a;have e:=h.take i.Z;have j:(vs.take i.Z).length=i.Z:=by
    have:=cC n;simp[h.2.2.length];omega
   exact⟨_,Bd (λc=>by rw[k c,f]) (λc=>hT.size l c) j (λp v m=>by rw[fU];exact e.1 p v m),.kZ e.2.2 e.2.1⟩
  ·cases a
 ·rename_i f;have j:=h.2.2.length;cases cs with
  |nil=>cases a
  | cons q r =>
   simp at a;subst a;cases vs with
   |nil=>simp at j
   |cons v vs=>exact⟨v,Be (λc=>by rw[k c,f]) (by simpa using h.1 0 v rfl),h.2.2.get 0 v _ rfl rfl⟩
theorem vJ{t:Nat}{i:TI}(hT:aZ P T)(m:T t=some i){vs:List Value}{cs:List D}(h:aI g vs cs)(n:∀v∈vs,v.oneCell'=true){off:Nat}{d:D}(a:jr i (cs.drop off)=some d):∃v,(part t vs.toArray off).run P g.w = .ok v g.w∧O g v d:=by
 unfold jr at a;have k:=hT.pz m;have c:=h.drop off;split at a
 ·rename_i e;split at a
  ·rename_i s;injection a with a;subst a;refine⟨.agg ((vs.drop off).take i.Z).toArray,?_,.kZ (c.take _) (λq p=>n q (hF (fm p)))⟩;simp[part,k,e,hT.size m]
  ·cases a
 ·rename_i e;have l:=c.length;cases b:cs.drop off with
  |nil=>rw[b]at a;cases a
  | cons r u =>
   rw[b]at a;simp at a;subst a;cases f:vs.drop off with
   |nil=>rw[f,b]at l;simp at l
   | cons v x =>
    rw[f,b]at c;have o:vs[off]?=some v:=by
     have:=hC (xs:=vs) (i:=off) (j:=0);rw[f]at this;simpa using this.symm
    exact⟨v,by simp[part,k,e,o],c.get 0 v _ rfl rfl⟩
include hT in
theorem uk {t d:Nat} {off:Nat} {j:TI} (h:ny T t d=some (off,j)):∃c b,P.underlying t=some (.struct c)∧c[d]?=some b∧b.offset=off∧T b.type=some j:=by
 unfold ny at h;split at h
 ·rename_i r m;split at h
  ·rename_i p l;split at h
   ·rename_i w u v a;split at h
    ·rename_i s n;injection h with h;injection h with g i;subst g;subst i;obtain⟨c,o,rfl,_⟩:=hT.st m l;unfold kN at a;rw[dK]at a;cases f:c.toList[d]? with
     |none=>rw[f]at a;cases a
     | some b =>
      rw[f]at a;injection a with a;injection a with k e;injection e with e q;subst k;subst e;exact⟨c,b,o,by simpa using f,rfl,n⟩
    ·cases h
   ·cases h
  ·cases h
 ·cases h
include hT in
theorem yg{t l:Nat}{x:Operand}{k d:D}(e:O g (ρ x) k)(h:aD T t l k=some d):dI P ρ ⟨dst,.fieldAddr t x l,ty,pos,af,gd⟩ g d:=by
 unfold aD at h;split at h
 ·rename_i B q u;obtain⟨E,a,o,m,rfl,n⟩:=uk hT u;split at h
  ·rename_i C b;split at h
   ·rename_i F;injection h with h;subst h;have f:q.Z≠0:=by have:=cC b;omega
    obtain⟨r,j,H,c,v,s⟩:=e.n1;refine⟨.pointer (some ⟨r,j+a.offset,none⟩),?_,(s.drop a.offset).aG λz=>v λw=>z (by rw[w];simp)⟩;simp[execOp,Instr.fieldAt,Instr.sureAddr,bI o,m,c,fieldPlace,fU,hT.size n,f]
   ·cases h
  ·rename_i j p A b;injection h with h;subst h;have f:q.Z≠0:=by have:=cC b;omega
   generalize c:ρ x=G at e;cases e with
   | ptr j p B i y =>
    refine⟨.pointer (some ⟨i.b,p*i.Z+(A+a.offset),none⟩),?_,.ptr _ _ _ i y⟩;simp[execOp,Instr.fieldAt,Instr.sureAddr,bI o,m,c,fieldPlace,fU,hT.size n,f,jO]
  ·cases h
 ·cases h
include hT in
theorem yf{t b:Nat}{x:Operand}{a d:D}(o:O g (ρ x) a)(h:pM T t b a=some d):dI P ρ ⟨dst,.field t x b,ty,pos,af,gd⟩ g d:=by
 unfold pM at h;split at h
 ·rename_i u s e;obtain⟨r,q,m,f,rfl,i⟩:=uk hT e;split at h
  ·obtain⟨v,n,k,c⟩:=o.jU;obtain⟨p,j,l⟩:=vJ hT i k c h;exact⟨p,by simp[execOp,Instr.field,bI m,f,n,asAgg,j],l⟩
  ·cases h
 ·cases h
include hT in
theorem y2{t:Nat}{j:TI}(h:jX T t=some (j,none)):∃a,P.underlying t=some (.slice a)∧T a=some j:=by
 unfold jX at h;split at h
 ·rename_i g e;split at h
  ·rename_i a d;split at h
   ·rename_i i f;injection h with h;injection h with b c;subst b;exact⟨a,hT.sl e d,f⟩
   ·cases h
  ·split at h
   ·injection h with h;injection h with b c;cases c
   ·cases h
  ·cases h
 ·cases h
include hT in
theorem tW{t n:Nat}{j:TI}(h:jX T t=some (j,some n)):∃b,P.underlying t=some (.array n b)∧T b=some j:=by
 unfold jX at h;split at h
 ·rename_i g e;split at h
  ·split at h
   ·injection h with h;injection h with c a;cases a
   ·cases h
  ·rename_i k b d;split at h
   ·rename_i i f;injection h with h;injection h with c a;subst c;injection a with a;subst a;exact⟨b,hT.arr e d,f⟩
   ·cases h
  ·cases h
 ·cases h
include hT in
theorem yi {t:Nat} {x y:Operand} {A B d:D} (c:O g (ρ x) A) (p:O g (ρ y) B) (h:bE T t A B=some d):dI P ρ ⟨dst,.indexAddr t x y,ty,pos,af,gd⟩ g d:=by
 unfold bE at h;split at h
 ·rename_i o w b u;obtain⟨K,m,l⟩:=y2 hT u;have n:ρ y = .int w b:=by generalize a:ρ y=z at p;cases p;rfl
  split at h
  ·rename_i X ac aj;split at h
   ·rename_i k;obtain⟨rfl,i⟩:=k;split at h
    ·rename_i ai E;injection h with h;subst h;obtain⟨r,f,q,I,aa,a,Q,L,s,_⟩:=c.oG E;have j:b<q:=by
      have:=(aP.1 E).1;omega
     refine⟨.pointer (some ⟨r,f+b.toNat*o.Z,none⟩),?_,s.aG λ_=>L⟩;simp[execOp,Instr.indexAt,asIntOf,bI m,hT.size l,a,n,i,j,fU]
    ·cases h
   ·cases h
  ·rename_i X f H q;split at h
   ·rename_i k;obtain⟨rfl,i,j⟩:=k;injection h with h;subst h;generalize a:ρ x=z at c;generalize F:o.Z=ak at c;cases c with
    | aC f H q I e v Q ag ae ad =>
     refine⟨.pointer (some ⟨e.b,(H+b.toNat)*e.Z+0,none⟩),?_,.ptr _ _ _ e v⟩;simp[execOp,Instr.indexAt,asIntOf,bI m,hT.size l,a,n,i,j,fU,F,dD]
   ·cases h
  ·cases h
 ·rename_i o q w b u;obtain⟨K,m,l⟩:=tW hT u;have n:ρ y = .int w b:=by generalize a:ρ y=z at p;cases p;rfl
  split at h
  ·rename_i k;obtain⟨i,j,F⟩:=k;split at h
   ·rename_i ab;split at h
    ·rename_i ah;injection h with h;subst h;obtain⟨r,f,aa,a,M,s⟩:=c.n1;refine⟨.pointer (some ⟨r,f+b.toNat*o.Z,none⟩),?_,(s.drop _).aG λR=>M λN=>R (by rw[N];simp)⟩;simp[execOp,Instr.indexAt,Instr.sureAddr,asIntOf,bI m,hT.size l,a,n,i,j,fU]
    ·cases h
   ·rename_i f G C;injection h with h;subst h;generalize a:ρ x=z at c;cases c with
    | ptr f G C e v =>
     refine⟨.pointer (some ⟨e.b,G*e.Z+(C+b.toNat*o.Z),none⟩),?_,.ptr _ _ _ e v⟩;simp[execOp,Instr.indexAt,Instr.sureAddr,asIntOf,bI m,hT.size l,a,n,i,j,fU,jO]
   ·cases h
  ·cases h
 ·cases h
include hT in
theorem yh {t:Nat} {x y:Operand} {p q d:D} (l:O g (ρ x) p) (e:O g (ρ y) q) (h:pP T t p q=some d):dI P ρ ⟨dst,.index t x y,ty,pos,af,gd⟩ g d:=by
 unfold pP at h;split at h
 ·rename_i f n a;have m:ρ y = .int n a:=by generalize c:ρ y=i at e;cases e;rfl
  have G:ρ x = .string ⟨f.toArray⟩:=by generalize c:ρ x=i at l;cases l;rfl
  split at h
  ·rename_i M E;split at h
   ·rename_i C;split at h
    ·rename_i j;split at h
     ·rename_i o b;injection h with h;subst h;have u:(ByteArray.mk f.toArray)[a.toNat]?=some o:=by
       have k:=(aP.1 b).1;have w:a.toNat<(ByteArray.mk f.toArray).size:=by rw[ka];exact k
       rw[getElem?_pos (ByteArray.mk f.toArray) a.toNat w];have:=(aP.1 b).2;rw[← this];rfl
      exact⟨.int .u8 o.toNat,by simp[execOp,Instr.index,asIntOf,bI (hT.str E C),G,m,j,u],.int _ _⟩
     ·cases h
    ·cases h
   ·cases h
  ·cases h
 ·rename_i H n a;have m:ρ y = .int n a:=by generalize c:ρ y=i at e;cases e;rfl
  split at h
  ·rename_i K L v;split at h
   ·rename_i b;obtain⟨j,k⟩:=b;obtain⟨I,F,r⟩:=tW hT v;obtain⟨N,c,A,s⟩:=l.jU;obtain⟨i,z,B⟩:=vJ hT r A s h;exact⟨i,by simp[execOp,Instr.index,asIntOf,bI F,c,m,j,k,hT.size r,z],B⟩
   ·cases h
  ·cases h
 ·cases h
theorem ye{x:Operand}{i:Nat}{a d:D}(j:O g (ρ x) a)(h:iv i a=some d):dI P ρ ⟨dst,.extract x i,ty,pos,af,gd⟩ g d:=by
 unfold iv at h;split at h
 ·obtain⟨e,f,c⟩:=j.rF;have k:=c.length;have l:=(aP.1 h).1;have b:e[i]?=some e[i]:=bX (by omega);exact⟨_,by simp only[execOp,Instr.extract,f];simp[b],c.get i _ d b h⟩
 ·cases h
include hT in
theorem yc{s t:Nat}{x:Operand}{e d:D}(a:O g (ρ x) e)(h:jW T s t e=some d):dI P ρ ⟨dst,.convert s t x,ty,pos,af,gd⟩ g d:=by
 unfold jW at h;split at h
 ·rename_i r u f i;obtain⟨_,v,_,_,n,_⟩:=hT.get f;split at h
  ·rename_i j p k b;injection h with h;subst h;have c:ρ x = .int p k:=by generalize o:ρ x=q at a;cases a;rfl
   refine⟨.int j (j.wrap k),?_,.int _ _⟩;simp[execOp,convert,bI n,bI (hT.int i b),c,Conv.intToInt]
  ·rename_i l b;split at h
   ·rename_i m;injection h with h;subst h;have c:ρ x = .string ⟨l.toArray⟩:=by generalize o:ρ x=q at a;cases a;rfl
    refine⟨.string ⟨l.toArray⟩,?_,.str _⟩;simp[execOp,convert,bI (hT.str f m),bI (hT.str i b),c]
   ·cases h
  ·cases h
 ·cases h
end ops
section ops
variable {P:Program} {T:aM} {g:Gh} {ρ:Operand→Value} {dst:Option Tmp} {ty:TypeId} {pos:String} {af:Array Edge} {gd:Option (Nat × Bool)}
theorem tX(k:aZ P T){t u:List Value}{xs ys:List D}(B:aI g t xs)(C:aI g u ys):∀(fs:List Field) (v:Bool),(∀f∈fs,f.name ≠ "_" ∧ (P.info? f.type).isSome=true) →
  lQ T xs ys (fs.map λf=>(f.type,f.offset,P.cellsOf f.type))=some v→∃j,m0 P t u fs j∧j.all id=v
 | [],v,_,h=>by
  simp[lQ]at h;exact⟨[],trivial,by simp[h]⟩
 | f::fs,v,F,h=>by
  simp only[hD,lQ]at h;split at h
  ·rename_i R i Q hi;obtain⟨j,A,y⟩:=tX k B C fs R (λf I=>F f (eP _ I)) Q;have z:("_" == f.name)=false:=by
    have:=(F f (e8 ..)).1;simpa using λK=>this K.symm
   have E:i.isAgg=false→One P f.type:=λH X=>by rw[k.pz hi X,H]
   have x:∀{e:D},xs[f.offset]?=some e→∃d,t[f.offset]?=some d∧O g d e:=λ{e} l=>by
    have M:=B.length;have N:=(aP.1 l).1;have m:t[f.offset]?=some t[f.offset]:=bX (by omega);exact⟨_,m,B.get _ _ _ m l⟩
   have w:∀{e:D},ys[f.offset]?=some e→∃d,u[f.offset]?=some d∧O g d e:=λ{e} l=>by
    have M:=C.length;have N:=(aP.1 l).1;have m:u[f.offset]?=some u[f.offset]:=bX (by omega);exact⟨_,m,C.get _ _ _ m l⟩
   split at h
   ·rename_i a b c r s;obtain⟨d,q,o⟩:=x r;obtain⟨G,p,n⟩:=w s;cases o;cases n;injection h with h;exact⟨(a==b)::j,⟨z,E (by simp[TI.isAgg,c]),⟨_,_,q,p,h9.bool (k.bool hi c)⟩,A⟩,by simp[y,h]⟩
   ·rename_i ac aa a ab b c r s;obtain⟨d,q,o⟩:=x r;obtain⟨G,p,n⟩:=w s;cases o;cases n;split at h
    ·rename_i L;subst L;injection h with h;exact⟨(a==b)::j,⟨z,E (by simp[TI.isAgg,c]),⟨_,_,q,p,h9.int (k.int hi c)⟩,A⟩,by simp[y,h]⟩
    ·cases h
   ·rename_i a b c r s;obtain⟨d,q,o⟩:=x r;obtain⟨G,p,n⟩:=w s;cases o;cases n;injection h with h;refine⟨(a==b)::j,⟨z,E (by simp[TI.isAgg,c]),⟨_,_,q,p,?_⟩,A⟩,by simp[y,h]⟩;have:=h9.str (a:=⟨a.toArray⟩) (b:=⟨b.toArray⟩) (k.str hi c);simpa[vT]using this
   ·cases h
  ·cases h
theorem kK{t:TypeId}{v a:Value}{w:World}{b:Bool}(h:∀d,(Op.equalIn (d+1) t v a).run P w = .ok b w):(Op.equal t v a).run P w = .ok b w:=h 9999
theorem tQ(i:aZ P T){m:BinOp}{d ty':TypeId}{x y:Operand}{t u:D}{b:Bool}(n:O g (ρ x) t)(o:O g (ρ y) u)(h:kE T d t u=some b)(q:m = .eql∨m = .neq):
  dI P ρ ⟨dst,.binOp m d x y ty',ty,pos,af,gd⟩ g (.bool (if m = .eql then b else !b)):=by
 have r:∀f e,ρ x=f→ρ y=e→(eqGuard m d x y f e).run P g.w = .ok () g.w→(Op.equal d f e).run P g.w = .ok b g.w→(binOp .eql d f e=(do let s ← Op.equal d f e;pure (.bool s):Sem Value))→(binOp .neq d f e=(do let s ← Op.equal d f e;pure (.bool (!s)):Sem Value)) →
   dI P ρ ⟨dst,.binOp m d x y ty',ty,pos,af,gd⟩ g (.bool (if m = .eql then b else !b)):=λf e l k z v E F=>by
  rcases q with rfl|rfl
  ·exact⟨.bool b,by simp[execOp,l,k,z,E,v],by simpa using O.bool b⟩
  ·exact⟨.bool (!b),by simp[execOp,l,k,z,F,v],by simpa using O.bool (!b)⟩
 unfold kE at h;split at h
 ·rename_i ab j;split at h
  ·rename_i A B c;injection h with h;subst h;generalize l:ρ x=f at n;generalize k:ρ y=e at o;cases n;cases o;exact r _ _ l k (by rcases q with rfl|rfl<;>simp[eqGuard]) (run_equal_bool g.w d A B (i.bool j c)) (by simp[binOp]) (by simp[binOp])
  ·rename_i aa ag ah c;obtain⟨C,a,rfl,I,N,H⟩:=i.st j c;obtain⟨ad,Q,L,_⟩:=n.jU;obtain⟨ae,R,M,_⟩:=o.jU;obtain⟨ac,K,G⟩:=tX i L M C.toList b I h;refine r _ _ Q R (run_eqGuard_agg g.w m d x y _ _ H) ?_ (by simp[binOp]) (by simp[binOp]);have:=CU (w:=g.w) a N K;rw[G]at this;exact this
  all_goals first
   | (rename_i c
      injection h with h;subst h;generalize l:ρ x=f at n;generalize k:ρ y=e at o;cases n;cases o;refine r _ _ l k (by rcases q with rfl|rfl<;>simp[eqGuard]) ?_ (by simp[binOp]) (by simp[binOp])
      first
       |(have a:=i.ptr j c;exact kK λp=>by simp[Op.equalIn,bI a])
       |(have a:=i.sl j c;exact kK λp=>by simp[Op.equalIn,bI a])
       |(obtain⟨_,_,_,a⟩:=i.fn j c;exact kK λp=>by simp[Op.equalIn,bI a]))
   |(cases h;done)
   | (rename_i X c
      injection h with h;subst h;generalize l:ρ x=f at n;generalize k:ρ y=e at o;cases n;cases o;refine r _ _ l k (by rcases q with rfl|rfl<;>simp[eqGuard]) ?_ (by simp[binOp]) (by simp[binOp])
      first
       |(have a:=i.ptr j c;exact kK λp=>by simp[Op.equalIn,bI a])
       |(have a:=i.sl j c;exact kK λp=>by simp[Op.equalIn,bI a])
       |(obtain⟨_,_,_,a⟩:=i.fn j c;exact kK λp=>by simp[Op.equalIn,bI a]))
 ·cases h
end ops
end Go.Pi
namespace Go.Eng
abbrev fp:=@Sem.run_pure
abbrev sT:=@Option.getD_none
end Go.Eng
namespace Go.Pi
open Go.Eng
section ops
variable {P:Program} {T:aM} {g:Gh} {ρ:Operand→Value} {dst:Option Tmp} {ty:TypeId} {pos:String} {af:Array Edge} {gd:Option (Nat × Bool)}
theorem x7(r:aZ P T){s:BinOp}{n ty':TypeId}{x y:Operand}{l m d:D}(c:O g (ρ x) l)(e:O g (ρ y) m)(h:S T s n l m=some d):dI P ρ ⟨dst,.binOp s n x y ty',ty,pos,af,gd⟩ g d:=by
 unfold S at h;split at h
 ·rename_i f i z a;have j:ρ x = .int f i:=by generalize p:ρ x=q at c;cases c;rfl
  have k:ρ y = .int z a:=by generalize p:ρ y=q at e;cases e;rfl
  split at h
  ·split at h
   ·cases h
   ·rename_i v;injection h with h;subst h;have:¬a<0:=by omega
    exact⟨.int f (f.wrap (i*2 ^ (min a.toNat f.bits))),by simp[execOp,j,k,eqGuard,binOp,Op.shift,this],.int _ _⟩
  ·split at h
   ·cases h
   ·rename_i v;injection h with h;subst h;have:¬a<0:=by omega
    exact⟨.int f (i.fdiv (2 ^ (min a.toNat f.bits))),by simp[execOp,j,k,eqGuard,binOp,Op.shift,this],.int _ _⟩
  ·rename_i t u;split at h
   ·rename_i w;subst w;exact yj j k ⟨λo=>t o,λo=>u o⟩ h
   ·cases h
 ·rename_i i a;have j:ρ x = .string ⟨i.toArray⟩:=by generalize p:ρ x=q at c;cases c;rfl
  have k:ρ y = .string ⟨a.toArray⟩:=by generalize p:ρ y=q at e;cases e;rfl
  exact yv j k h
 ·split at h
  ·cases b:kE T n l m with
   |none=>rw[b]at h;cases h
   | some a =>
    rw[b]at h;injection h with h;subst h;have:=tQ (dst:=dst) (ty:=ty) (pos:=pos) (af:=af) (gd:=gd) (ty':=ty') r c e b (.inl rfl);simpa using this
  ·cases b:kE T n l m with
   |none=>rw[b]at h;cases h
   | some a =>
    rw[b]at h;injection h with h;subst h;have:=tQ (dst:=dst) (ty:=ty) (pos:=pos) (af:=af) (gd:=gd) (ty':=ty') r c e b (.inr rfl);simpa using this
  ·cases h
def kR(v:Option Value)(n:Option Int):Prop:=match v,n with
 |none,none=>True
 |some c,some a=>∃b,c = .int b a
 |_,_=>False
theorem la{k:IntKind}{i:Int}{y:Nat}{c:BoundsCode}{w:World}(a:0≤i)(b:i≤y):(Instr.sliceBound (.int k i) y c).run P w = .ok i.toNat w:=by
 simp[Instr.sliceBound,asIntOf,a,b]
theorem v3 {lo hi mx:Option Value} {l h m:Option Int} (a:kR lo l) (g:kR hi h) (o:kR mx m) {n cap:Nat} {b:Bool} (t:mx.isSome=true→hi.isSome=true) (d:0≤l.getD 0) (e:l.getD 0≤h.getD n) (h2:h.getD n≤m.getD cap) (q:m.getD cap≤cap) (w:World) :
  (Instr.sliceBounds b n cap lo hi mx).run P w = .ok ((l.getD 0).toNat,(h.getD n).toNat,(m.getD cap).toNat) w:=by
 cases mx with
 | none =>
  cases m with
  |some m=>exact o.elim
  | none =>
   cases hi with
   | none =>
    cases h with
    |some h=>exact g.elim
    | none =>
     cases lo with
     | none =>
      cases l with
      |some l=>exact a.elim
      |none=>simp[Instr.sliceBounds]
     | some lo =>
      cases l with
      |none=>exact a.elim
      | some l =>
       obtain⟨k,rfl⟩:=a;simp at d e;simp[Instr.sliceBounds,la (P:=P) (k:=k) (c :=.sliceB) (w:=w) d e]
   | some hi =>
    cases h with
    |none=>exact g.elim
    | some h =>
     obtain⟨p,rfl⟩:=g;simp at e h2;have f:=λc=>la (P:=P) (k:=p) (c:=c) (w:=w) (i:=h) (y:=cap) (by cases l<;>simp at d e<;>omega) h2
     cases lo with
     | none =>
      cases l with
      |some l=>exact a.elim
      |none=>cases b<;>simp[Instr.sliceBounds,f]
     | some lo =>
      cases l with
      |none=>exact a.elim
      | some l =>
       obtain⟨k,rfl⟩:=a;simp at d e;have j:=la (P:=P) (k:=k) (c :=.sliceB) (w:=w) (y:=h.toNat) d (by omega);cases b<;>simp[Instr.sliceBounds,f,j]
 | some mx =>
  cases m with
  |none=>exact o.elim
  | some m =>
   obtain⟨u,rfl⟩:=o;cases hi with
   |none=>exact absurd (t rfl) (by simp)
   | some hi =>
    cases h with
    |none=>exact g.elim
    | some h =>
     obtain⟨p,rfl⟩:=g;simp at e h2 q;have s:0≤h:=by cases l<;>simp at d e<;>omega
     have r:=λc=>la (P:=P) (k:=u) (c:=c) (w:=w) (i:=m) (y:=cap) (by omega) q
     have f:=λc=>la (P:=P) (k:=p) (c:=c) (w:=w) (i:=h) (y:=m.toNat) s (by omega)
     cases lo with
     | none =>
      cases l with
      |some l=>exact a.elim
      |none=>cases b<;>simp[Instr.sliceBounds,f,r]
     | some lo =>
      cases l with
      |none=>exact a.elim
      | some l =>
       obtain⟨k,rfl⟩:=a;simp at d e;have j:=λc=>la (P:=P) (k:=k) (c:=c) (w:=w) (i:=l) (y:=h.toNat) d (by omega)
       cases b<;>simp[Instr.sliceBounds,f,r,j]
theorem jY (ac:aZ P T) {t:TypeId} {x:Operand} {lo hi mx:Option Operand} {l h m:Option Int} {ao d:D} (s:O g (ρ x) ao) (aw:kR (lo.map ρ) l) (av:kR (hi.map ρ) h) (ai:kR (mx.map ρ) m)
  (bj:mx.isSome=true→hi.isSome=true) (a:hq T t ao l h m=some d):dI P ρ ⟨dst,.slice t x lo hi mx,ty,pos,af,gd⟩ g d:=by
 have bm:(mx.map ρ).isSome=true→(hi.map ρ).isSome=true:=by simpa using bj
 unfold hq at a;split at a
 ·rename_i b9 ak;split at a
  ·rename_i y ad;have N:ρ x = .string ⟨y.toArray⟩:=by generalize B:ρ x=an at s;cases s;rfl
   simp only at a;split at a
   ·rename_i v;obtain⟨rfl,q,r,u⟩:=v;injection a with a;subst a;have bn:mx.map ρ=none:=by
     cases bq:mx.map ρ with
     |none=>rfl
     |some ca=>rw[bq]at ai;exact ai.elim
    have ae:=v3 (P:=P) (b:=false) (n:=y.length) (cap:=y.length) aw av (mx:=none) (m:=none) trivial (by simp) q r (by simpa using u) (by simp) g.w;refine⟨.string ⟨((y.take (h.getD y.length).toNat).drop (l.getD 0).toNat).toArray⟩,?_,.str _⟩;simp only[execOp,Instr.sliceAt,bn,N,dU,bI (ac.str ak ad),dY];simp only[Instr.slice,dU,bI (ac.str ak ad),dY,Option.isSome_none,dT,cV,fp,ka,ae];have bc:(ByteArray.mk y.toArray).extract (l.getD 0).toNat (h.getD y.length).toNat=⟨((y.take (h.getD y.length).toNat).drop (l.getD 0).toNat).toArray⟩:=by
     apply oU;simp[List.extract_eq_take_drop,List.drop_take]
    rw[bc]
   ·cases a
  ·rename_i b1 cb ad;split at a
   ·rename_i al bg;have ay:=ac.sl ak ad;have dV:∀(X:Option Addr) (n cap:Nat),ρ x = .slice X n cap→0≤l.getD 0→l.getD 0≤h.getD n→h.getD n≤m.getD cap→m.getD cap≤cap→(execOp ρ ⟨dst,.slice t x lo hi mx,ty,pos,af,gd⟩).run P g.w =
      .ok (.value (.slice (if(m.getD cap).toNat=(l.getD 0).toNat then X else X.map (·.add ((l.getD 0).toNat*al.Z))) ((h.getD n).toNat - (l.getD 0).toNat) ((m.getD cap).toNat - (l.getD 0).toNat))) g.w:=λX n cap N q r u ar=>by
     have ae:=v3 (P:=P) (b:=true) (n:=n) (cap:=cap) aw av ai bm q r u ar g.w;simp only[execOp,Instr.sliceAt,N,dU,bI ay,dY];simp only[Instr.slice,dU,bI ay,dY,ae,ac.size bg,fp]
    split at a
    ·split at a
     ·rename_i v;obtain⟨q,r,u⟩:=v;injection a with a;subst a;have N:ρ x = .slice none 0 0:=by generalize B:ρ x=an at s;cases s;rfl
      have:=dV none 0 0 N (by omega) (by simp;omega) (by simp;omega) (by simp;omega);refine⟨.slice none 0 0,?_,.J⟩;rw[this];simp;have I:(h.getD 0).toNat=0:=by omega
      have a3:(m.getD 0).toNat=0:=by omega
      simp[I,a3]
     ·cases a
    ·rename_i a2 aq p;simp only at a;split at a
     ·rename_i v;obtain⟨rfl,q,r⟩:=v;generalize B:ρ x=an at s;generalize Q:al.Z=E at s a;cases s with
      | sl c n cap a2 aq p A b8 bb be bv bt a8 b0 ba a4 br =>
       have a0:∀(i z:Nat) (ab:Bool),(l.getD 0).toNat≤i→i≤p.length→i≤z→z≤cap→(ab=true→z=i)→O g (.slice (if z=(l.getD 0).toNat then some c else(some c).map (·.add ((l.getD 0).toNat*E))) (i - (l.getD 0).toNat) (z - (l.getD 0).toNat)) (.sl E ab ((p.take i).drop (l.getD 0).toNat)):=by
        intro i z ab bi a5 b2 b4 bd;generalize b3:(l.getD 0).toNat=j at bi;have a9:∃F,(if z=j then some c else(some c).map (·.add (j*E)))=some F∧F.block=c.block∧(j<i→F.off=c.off+j*E∧(c.spot=none→F.spot=none)):=by
         split
         ·exact⟨c,rfl,rfl,λe=>by omega⟩
         ·refine⟨c.add (j*E),rfl,?_,λ_=>?_⟩
          ·unfold Addr.add;split<;>rfl
          ·unfold Addr.add;split
           ·rename_i bw;simp[bw]
           ·simp
        obtain⟨F,a7,au,ax⟩:=a9;rw[a7];have ag:∀(o:Nat) (f:List D),((p.take i).drop j)[o]?=some f→p[j+o]?=some f∧j+o<i:=λo f hi=>by
         rw[hC,dX]at hi;split at hi
         ·rename_i ah;exact⟨hi,ah⟩
         ·cases hi
        refine .sl F (i - j) (z - j) E ab _ (by simp;omega) (by omega) (by omega) (λe=>by have:=bd e;omega) bv (λf bu=>bt f (fm (hF bu))) (λbo=>?_) (λo C=>b0 (j+o) C) (λo f hi C H K=>?_) (λo f hi C H K=>?_) (λo f hi C H K=>?_)
        ·have ah:j<i:=by
           rcases ez j i with e|e
           ·exact e
           ·exfalso;apply bo;apply sF;simp;omega
         have bp:p≠[]:=λe=>by subst e;simp at a5;omega
         obtain⟨bx,bz⟩:=a8 bp;exact⟨(ax ah).2 bx,by rw[au];exact bz⟩
        ·obtain⟨R,az⟩:=ag o f hi;have:=ba _ f R C H K;rw[au,(ax (by omega)).1];rw[dD]at this;rw[← this];congr 2;omega
        ·obtain⟨R,az⟩:=ag o f hi;exact a4 _ f R C H K
        ·obtain⟨R,az⟩:=ag o f hi;exact br _ f R C H K
       split at a
       ·split at a
        ·rename_i u;injection a with a;subst a;have:=dV (some c) n cap B q (by rw[← A];exact r) (by simp;rw[← A];omega) (by simp);simp only[sT,Q]at this;rw[← A]at this;refine⟨_,this,?_⟩;have:=a0 (h.getD p.length).toNat cap (aq&&decide (h.getD p.length=p.length)) (by omega) (by omega) (by omega) (aX _) (λe=>by
          simp at e;have:=be e.1;omega)
         simpa using this
        ·cases a
       ·rename_i am;split at a
        ·rename_i u;obtain⟨u,ar⟩:=u;injection a with a;subst a;have:=dV (some c) n cap B q (by rw[← A];exact r) (by simp;rw[← A];omega) (by simp;omega);simp only[kt,Q]at this;rw[← A]at this;refine⟨_,this,?_⟩;exact a0 (h.getD p.length).toNat am.toNat (decide (h.getD p.length=am)) (by omega) (by omega) (by omega) (by omega) (λe=>by
          simp at e;omega)
        ·cases a
     ·cases a
    ·rename_i a2 a1 G n;simp only at a;split at a
     ·rename_i v;obtain⟨rfl,aj,q,r,u⟩:=v;generalize B:ρ x=an at s;generalize Q:al.Z=E at s a aj;cases s with
      | aC a1 G n cap k bl A b7 b6 bb =>
       split at a
       ·have M:=dV (some ⟨k.b,G*k.Z,none⟩) n cap B q r (by simp;omega) (by simp);simp only[sT,Q]at M;refine⟨_,M,?_⟩;split at a
        ·rename_i L;injection a with a;subst a;have a6:(if((cap:Int)).toNat=(l.getD 0).toNat then(some ⟨k.b,G*k.Z,none⟩:Option Addr)else(some (⟨k.b,G*k.Z,none⟩:Addr)).map (·.add ((l.getD 0).toNat*k.Z)))=some ⟨k.b,(G+(l.getD 0).toNat)*k.Z,none⟩:=by
          split
          ·rename_i b5;rcases L with L|L
           ·exfalso;omega
           ·simp[L]
          ·simp[fU,dD]
         rw[a6];have I:((h.getD n).toNat - (l.getD 0).toNat)=(h.getD n - l.getD 0).toNat:=by omega
         rw[I];exact .aC a1 _ _ _ k bl (by omega) (by omega) (by omega) (by omega)
        ·rename_i L;injection a with a;subst a;have I:((h.getD n).toNat - (l.getD 0).toNat)=0:=by omega
         rw[I];have ap:∀(c:Addr) (aa:Nat),aa≤9223372036854775807→O g (.slice (some c) 0 aa) (.sl k.Z false []):=λc aa v =>.sl c 0 aa _ false [] rfl (gK _) v (by simp) aj (by simp) (by simp) (λ_ _=>undef) (by simp) (by simp) (by simp)
         split
         ·exact ap _ _ (by omega)
         ·exact ap _ _ (by omega)
       ·rename_i am;split at a
        ·rename_i e;obtain⟨bh,bf,bk⟩:=e;injection a with a;subst a;have M:=dV (some ⟨k.b,G*k.Z,none⟩) n cap B q r (by simp;omega) (by simp;omega);simp only[kt,Q,bk,bf,bh]at M;refine⟨_,M,?_⟩;exact .sl _ 0 0 _ true [] rfl (gK _) (by omega) (by simp) aj (by simp) (by simp) (λ_ _=>undef) (by simp) (by simp) (by simp)
        ·cases a
     ·cases a
    ·cases a
   ·cases a
  ·cases a
 ·cases a
end ops
end Go.Pi
namespace Go.Eng
abbrev fk:=@List.mem_append
abbrev lf:=@run_newObj
abbrev mX:=@Array.toArray_toList
end Go.Eng
namespace Go.Pi
open Go.Eng
def lp(P:Program)(ρ:Operand→Value)(o:Oper)(g:Gh)(d:D):Prop:=∃c e a,(execOp ρ o).run P g.w = .ok (.value c) e∧a.w=e∧aH g a∧a.ms=g.ms∧a.L=g.L∧(∀b,b<g.w.heap.size→a.w.heap[b]?=g.w.heap[b]?)∧O a c d
theorem dI.g{P:Program}{ρ:Operand→Value}{o:Oper}{g:Gh}{d:D}(h:dI P ρ o g d):lp P ρ o g d:=by
 obtain⟨c,a,b⟩:=h;exact⟨c,g.w,g,a,rfl,aH.refl g,rfl,rfl,λ_ _=>rfl,b⟩
theorem Inv.same{g g':Gh}{h:Y}(hi:Inv g h)(m:aH g g')(c:g'.ms=g.ms)(p:g'.L=g.L)(v:∀b,b<g.w.heap.size→g'.w.heap[b]?=g.w.heap[b]?):Inv g' h:=by
 refine⟨by rw[c];exact hi.len,λe T o n x=>?_,λe B T o r E n D d A f i j k l=>hi.inj e B T o r E n D d A f i (by rw[← c];exact j) (by rw[← c];exact k) l,λb q=>?_,λe d h=>fY (hi.msb e d (by rw[← c];exact h)) m.size⟩
 ·obtain⟨d,s,f,a⟩:=hi.live e T o n x;refine⟨d,s,by rw[c];exact f,?_,a.fI,a.pos,by rw[p];exact a.hL,a.len,a.le,a.room,a.row,λy C i z t j=>?_⟩
  ·rw[v _ (hi.g8 a.hL)];exact a.eA
  ·obtain⟨F,k,l,u⟩:=a.cell y C i z t j;exact⟨F,k,l,u.ext m⟩
 ·rw[p]at q;exact fY (hi.L b q) m.size
def Gh.alloc(g:Gh)(o:Obj):Gh:=⟨g.w.alloc o,g.ms,g.L⟩
def Gh.draw(g:Gh):Gh:=⟨g.w.drew,g.ms,g.L⟩
theorem Gh.tS(g:Gh):aH g g.draw :=.oq ⟨rfl,rfl,rfl,aX _,λ_ _ a=>a,λc b=>⟨b,rfl⟩⟩ rfl rfl λ_ _=>rfl
theorem Gh.yC{g:Gh}{h:Y}(hi:Inv g h):Inv g.draw h:=hi.same g.tS rfl rfl λ_ _=>rfl
theorem j3(w:World)(o:Obj){b:Nat}(h:b<w.heap.size):(w.alloc o).heap[b]?=w.heap[b]?:=Az w o b h
theorem qc(w:World)(o:Obj):(w.alloc o).heap[w.heap.size]?=some o:=by
 show(w.heap.push o)[w.heap.size]?=_;simp
theorem n2(w:World)(o:Obj):(w.alloc o).heap.size=w.heap.size+1:=by
 show(w.heap.push o).size=_;simp
theorem Gh.pA(g:Gh)(o:Obj):(g.alloc o).w.heap.size=g.w.heap.size+1:=n2 g.w o
theorem Gh.nu(g:Gh)(o:Obj):aH g (g.alloc o) :=.oq ⟨rfl,rfl,rfl,by rw[g.pA];omega,λ_ _ c=>c,λb a=>⟨⟨by have:=a.1;rw[g.pA];omega,a.2⟩,j3 g.w o a.1⟩⟩ rfl rfl λb a=>j3 g.w o a
theorem Gh.xn(g:Gh){cs:Array Value}{T:TypeId}{fr:Nat × Nat}(i:Nat):(g.alloc (.cells cs T fr)).w.cell? ⟨g.w.heap.size,i,none⟩=cs[i]?:=by
 have:(g.alloc (.cells cs T fr)).w.heap[g.w.heap.size]?=some (.cells cs T fr):=qc g.w _;simp only[World.cell?,this];simp
section ops
variable {P:Program} {T:aM} {g:Gh} {ρ:Operand→Value} {dst:Option Tmp} {ty:TypeId} {pos:String} {af:Array Edge} {gd:Option (Nat × Bool)}
theorem qT(c:∀b,g.L b→b<g.w.heap.size){vs:List Value}{cs:List D}{E:TypeId}(f:aI g vs cs)(a:∀v∈vs,v.oneCell'=true):At (g.alloc (.cells vs.toArray E)) g.w.heap.size 0 vs cs∧(g.alloc (.cells vs.toArray E)).V g.w.heap.size:=by
 refine⟨⟨λh v e=>?_,a,f.ext (g.nu _)⟩,by rw[g.pA];omega,λd=>?_⟩
 ·rw[dP,g.xn];simpa using e
 ·have:=c _ d;omega
theorem x8(e:∀b,g.L b→b<g.w.heap.size){c:TypeId}{x:Operand}{a:D}(m:O g (ρ x) a)(j:a.ey=true):lp P ρ ⟨dst,.box c x,ty,pos,af,gd⟩ g (.aG (bD a)):=by
 obtain⟨n,l,k,d⟩:=m.cells j;obtain⟨f,i⟩:=qT e (E:=c) k d;exact⟨_,_,g.alloc (.cells n.toArray c),by simp only[execOp,Instr.box,dU,newVar,newRow,lf,dY,fp,l];rfl,rfl,g.nu _,rfl,rfl,λb h=>j3 _ _ h,f.aG λ_=>i⟩
theorem x5(h:aZ P T)(f:∀b,g.L b→b<g.w.heap.size){a:TypeId}{i:TI}(hi:T a=some i):lp P ρ ⟨dst,.alloc a,ty,pos,af,gd⟩ g (.aG i.zero):=by
 obtain⟨d,m,n,o,e⟩:=h.jH hi;have c:=kb g d.cells.toList;rw[← n]at c;obtain⟨j,l⟩:=qT f (E:=a) c e;exact⟨_,_,g.alloc (.cells d.cells.toList.toArray a),by simp only[execOp,Instr.alloc,dU,m g.w,dY,newVar,newRow,lf,fp,mX];rfl,by simp[Gh.alloc],g.nu _,rfl,rfl,λb k=>j3 _ _ k,j.aG λ_=>l⟩
theorem wu{a:List Value}{cs:List D}{vs:List Value}{ds:List D}(h:aI g a cs)(k:aI g vs ds)(off:Nat):aI g (a.take off++vs++a.drop (off+vs.length)) (cH cs off ds):=by
 unfold cH;rw[k.length];exact((h.take off).append k).append (h.drop _)
theorem pW {fs:List (Nat × Nat × Nat)} {place:Nat→Option (Nat × Nat)} (s:∀(i:Nat) o off Z,fs[i]?=some (o,off,Z)→place i=some (off,Z)):∀(j:List Nat) (d:List Value) (ds:List D) (a:List Value) (cs e:List D),aI g a cs→(∀v∈a,v.oneCell'=true)→aI g d ds→j.length=d.length→ho fs cs j ds=some e →
  ∃l,Instr.fill place a.toArray (j.zip d)=some l.toArray∧aI g l e∧∀v∈l,v.oneCell'=true
 | [],d,ds,a,cs,e,h,m,f,n,b=>by
  have:d=[]:=fC (by simpa using n.symm);subst this;cases f;simp[ho]at b;subst b;exact⟨a,by simp[Instr.fill],h,m⟩
 | i :: j, d,ds,a,cs,e,h,m,f,n,b=>by
  cases f with
  |nil=>simp at n
  | cons F f =>
   rename_i v G d ds;simp only[ho]at b;split at b
   ·rename_i o off Z x;split at b
    ·rename_i q;simp only[cY]at q;obtain⟨⟨e4,eN⟩,gp⟩:=q;have e4:=e9 e4;have eN:=cC eN;obtain⟨k,E,t,C⟩:=F.cells gp;have H:=h.length;have I:=t.length;have A:=wu h t off;obtain⟨l,y,z,u⟩:=pW s j d ds (a.take off++k++a.drop (off+k.length)) _ e A (λp c=>by
      simp only[fk]at c;rcases c with(c|c)|c
      ·exact m p (fm c)
      ·exact C p c
      ·exact m p (hF c)) f (by simpa using n) b
     refine⟨l,?_,z,u⟩;simp only[List.zip_cons_cons,Instr.fill,s i o off Z x,E];have w:(decide (k.toArray.size≠Z)||decide (off+k.toArray.size>a.toArray.size))=false:=by
      simp;omega
     simp only[w,dT,cV];have r:=uy k (a.take off) (a.drop off) (by simp;omega);have B:(a.take off).length=off:=by simp;omega
     simp only[B,List.take_append_drop,List.drop_drop]at r;rw[← y];congr 1
     try (rw[← r])
    ·cases b
   ·cases b
end ops
end Go.Pi
namespace Go.Eng
abbrev e7:=@List.mem_cons
abbrev fF:=@Option.bind_some
abbrev gH:=@List.flatten_cons
end Go.Eng
namespace Go.Pi
open Go.Eng
section ops
variable {P:Program} {T:aM} {g:Gh} {ρ:Operand→Value} {dst:Option Tmp} {ty:TypeId} {pos:String} {af:Array Edge} {gd:Option (Nat × Bool)}
theorem rL(ρ:Operand→Value)(ps:Array (Nat × Operand)):(ps.map λx=>(x.1,ρ x.2)).toList=(ps.toList.map (·.1)).zip (ps.toList.map λx=>ρ x.2):=by
 simp only[Array.toList_map]
 induction ps.toList with
 |nil=>rfl
 |cons b c a=>simp[a]
theorem run_places(l:aZ P T){c:Array Field}(g:∀a∈c.toList,a.name ≠ "_" ∧ (P.info? a.type).isSome=true)(w:World):
  (c.mapM λa=>(do pure (a.offset,← sizeOf a.type):Sem (Nat × Nat))).run P w = .ok (c.toList.map λa=>(a.offset,P.cellsOf a.type)).toArray w:=by
 have k:∀(b:List Field),(∀a∈b,a.name ≠ "_" ∧ (P.info? a.type).isSome=true)→(b.mapM λa=>(do pure (a.offset,← sizeOf a.type):Sem (Nat × Nat))).run P w = .ok (b.map λa=>(a.offset,P.cellsOf a.type)) w:=by
  intro b
  induction b with
  |nil=>intro _;simp
  | cons a n j =>
   intro d;have h:=(d a (e8 ..)).2;obtain⟨m,f⟩:=Option.isSome_iff_exists.1 h;have i:(sizeOf a.type).run P w = .ok (P.cellsOf a.type) w:=by simp[sizeOf,typeInfo,f,Program.cellsOf]
   have:=j λa e=>d a (eP _ e)
   simp only[List.mapM_cons,dU,i,dY,fp,this,hD]
 obtain⟨b⟩:=c;have:=k b g;rw[List.mapM_toArray];simp only[Sem.run_map];rw[this];simp
theorem ya (j:aZ P T) {t:TypeId} {ps:Array (Nat × Operand)} {ds:List D} {d:D} (F:aI g (ps.toList.map λx=>ρ x.2) ds) (h:dE T t (ps.toList.map (·.1)) ds=some d):dI P ρ ⟨dst,.build t ps,ty,pos,af,gd⟩ g d:=by
 unfold dE at h;split at h
 ·rename_i b q;obtain⟨B,G,K,R,E⟩:=j.jH q;have s:=kb g B.cells.toList;rw[← K]at s;split at h
  ·rename_i fs p;obtain⟨m,u,rfl,I,_⟩:=j.st q p;cases e:ho (kN P m) b.zero (ps.toList.map (·.1)) ds with
   |none=>rw[e]at h;cases h
   | some n =>
    rw[e]at h;injection h with h;subst h;obtain⟨A,k,r,o⟩:=pW (place:=((m.toList.map λl=>(l.offset,P.cellsOf l.type)).toArray[·]?)) (fs:=kN P m) (λb Q L N a=>by
     unfold kN at a;rw[dK]at a;cases c:m.toList[b]? with
     |none=>rw[c]at a;cases a
     | some l =>
      rw[c]at a;injection a with a;injection a with M f;injection f with f z;simp at c;simp[c,f,z]) _ _ ds B.cells.toList b.zero n s E F (by simp) e
    refine⟨.agg A.toArray,?_,.kZ r o⟩;simp only[mX]at k;simp only[execOp,Instr.build,dU,G g.w,dY,bI u,run_places j I g.w,rL,k,fp]
  ·rename_i y C p;have u:=j.arr q p;split at h
   ·rename_i i H;cases e:ho ((List.range y).map λv=>(C,v*i.Z,i.Z)) b.zero (ps.toList.map (·.1)) ds with
    |none=>rw[e]at h;cases h
    | some n =>
     rw[e]at h;injection h with h;subst h;obtain⟨A,k,r,o⟩:=pW (place:=λb=>some (b*i.Z,i.Z)) (fs:=(List.range y).map λv=>(C,v*i.Z,i.Z)) (λb Q L N a=>by
      rw[dK]at a;cases c:(List.range y)[b]? with
      |none=>rw[c]at a;cases a
      | some l =>
       rw[c]at a;have:=(aP.1 c).2;simp at this;subst this;injection a with a;injection a with M f;injection f with f z;subst z;simp[f]) _ _ ds B.cells.toList b.zero n s E F (by simp) e
     refine⟨.agg A.toArray,?_,.kZ r o⟩;simp only[mX]at k;simp only[execOp,Instr.build,dU,G g.w,dY,bI u,j.size H,rL,k,fp]
   ·cases h
  ·cases h
 ·cases h
theorem vZ {Z:Nat}:∀(k:Nat) (d:List Nat) (a:List Value) (ds:List D) (rows:List (List D)),aI g a ds→d.length=a.length→lS Z k d ds=some rows →
  d.zip a=kJ k a∧(∀v∈a,v.cells.size=Z)∧rows.length=a.length∧(∀r∈rows,r.length=Z)∧aI g (a.flatMap λv=>v.cells.toList) rows.flatten∧(∀v∈a.flatMap λv=>v.cells.toList,v.oneCell'=true)
 | k,[],a,ds,rows,c,e,h=>by
  have:a=[]:=fC (by simpa using e.symm);subst this;cases c;simp[lS]at h;subst h;exact⟨rfl,by simp,rfl,by simp,by simpa using aI.nil,by simp⟩
 | k,q::d,a,ds,rows,c,e,h=>by
  cases c with
  |nil=>simp at e
  | cons p c =>
   rename_i v A a ds;simp only[lS]at h;split at h
   ·rename_i l;simp only[cY]at l;obtain⟨⟨e4,eN⟩,gp⟩:=l;have e4:=e9 e4;have eN:=e9 eN;subst e4;split at h
    ·rename_i z n;injection h with h;subst h;obtain⟨s,t,u,w,x,y⟩:=vZ (q+1) d a ds z c (by simpa using e) n;obtain⟨C,j,m,o⟩:=p.cells gp;have B:=m.length;refine⟨by simp[kJ,s],λf b=>?_,by simp[u],λr i=>?_,?_,λf b=>?_⟩
     ·rcases e7.1 b with rfl|b
      ·rw[j];simp;omega
      ·exact t f b
     ·rcases e7.1 i with rfl|i
      ·exact eN
      ·exact w r i
     ·simp only[lz,gH,j];exact m.append x
     ·simp only[lz,fk,j]at b;rcases b with b|b
      ·exact o f b
      ·exact y f b
    ·cases h
   ·cases h
theorem pY{Z:Nat}:∀(rows:List (List D)) (i j:Nat) (row:List D) (d:D),(∀r∈rows,r.length=Z)→rows[i]?=some row→row[j]?=some d→rows.flatten[i*Z+j]?=some d
 |[],i,j,row,d,_,h,_=>by cases h
 | r::rows,0,j,row,d,c,h,a=>by
  simp at h;subst h;have f:=(aP.1 a).1;simp only[gH,jQ,dP];rw[cU f];exact a
 | r::rows,i+1,j,row,d,c,h,a=>by
  have e:rows[i]?=some row:=by simpa using h
  have b:=c r (e8 ..);have:=pY rows i j row d (λr b=>c r (eP _ b)) e a;simp only[gH];rw[fW (by rw[b,dD];omega)];rw[← this];congr 1;rw[b,dD];omega
theorem gU{Z:Nat}:∀(rows:List (List D)),(∀r∈rows,r.length=Z)→rows.flatten.length=rows.length*Z
 |[],_=>by simp
 | r::rows,h=>by
  have:=gU rows λr a=>h r (eP _ a)
  rw[gH,e6,this,h r (e8 ..),eS,dD];omega
theorem wa (e:aZ P T) {t n:Nat} {ps:Array (Nat × Operand)} {ds:List D} {E Z:Nat} {rows:List (List D)} (q:aI g (ps.toList.map λx=>ρ x.2) ds) (h:iS T t n (ps.toList.map (·.1)) ds=some (E,Z,rows)) :
  ∃vs:List Value,(execOp ρ ⟨dst,.buildSlice t n ps,ty,pos,af,gd⟩).run P g.w = .ok (.value (.slice (some ⟨g.w.heap.size,0,none⟩) n n)) (g.w.alloc (.cells vs.toArray E))∧aI g vs rows.flatten∧(∀v∈vs,v.oneCell'=true)∧rows.length=n∧(∀r∈rows,r.length=Z)∧0<Z∧n*Z≤16777216:=by
 unfold iS at h;split at h
 ·rename_i K o;split at h
  ·rename_i H u;split at h
   ·rename_i b j;split at h
    ·rename_i i;simp only[cY]at i;obtain⟨⟨e4,eN⟩,gp⟩:=i;have e4:=cC e4;have eN:=cC eN;have gp:=e9 gp;split at h
     ·rename_i k s;injection h with h;injection h with m c;injection c with c d;subst m;subst c;subst d;obtain⟨z,A,B,C,F,G⟩:=vZ 0 _ _ ds k q (by simp) s;have p:k.length=n:=by rw[B];simpa using gp
      refine⟨_,?_,F,G,p,C,e4,eN⟩;obtain⟨l,y,_,I,_⟩:=e.jH j;have d:¬(n*b.Z>2 ^ 24):=by omega
      have a:=um (Z:=b.Z) (ps.toList.map λx=>ρ x.2) [] ((Array.range (n*b.Z)).map ((if n*b.Z=0 then #[]else l.cells)[· % (if n*b.Z=0 then #[]else l.cells).size]!)).toList 0 (by simp) (by simp at gp;simp[gp]) A;simp only[nb,mX]at a;rw[← z,← rL]at a;simp only[execOp,Instr.buildSlice,dU,bI (e.sl o u),dY,e.size j,d,cV,fp,newRow,lf];by_cases f:n*b.Z=0
      ·simp only[f,bL,dU,fp,dY]at a ⊢;rw[a];rfl
      ·simp only[f,cV,dU,y g.w,fp,dY]at a ⊢;rw[a];rfl
     ·cases h
    ·cases h
   ·cases h
  ·cases h
 ·cases h
theorem yk(A:aZ P T)(z:∀b,g.L b→b<g.w.heap.size){t n:Nat}{ps:Array (Nat × Operand)}{ds:List D}{E Z:Nat}{rows:List (List D)}(G:aI g (ps.toList.map λx=>ρ x.2) ds)(h:iS T t n (ps.toList.map (·.1)) ds=some (E,Z,rows)):
  lp P ρ ⟨dst,.buildSlice t n ps,ty,pos,af,gd⟩ g (.sl Z true rows):=by
 obtain⟨k,H,y,r,F,p,v,Q⟩:=wa (dst:=dst) (ty:=ty) (pos:=pos) (af:=af) (gd:=gd) A G h;obtain⟨s,C⟩:=qT z (E:=E) y r;have N:n≤n*Z:=Nat.le_mul_of_pos_right n v;have K:=y.length;have I:=gU rows p;have q:∀(a:Nat) (e:List D),rows[a]?=some e→∀(c:Nat) (d:D),e[c]?=some d→∃f,k[a*Z+c]?=some f∧rows.flatten[a*Z+c]?=some d∧k.getD (a*Z+c) undef=f:=λa e j c d i=>by
  have:=pY rows a c e d p j i;have M:=(aP.1 this).1;have u:k[a*Z+c]?=some (k[a*Z+c]'(by omega)):=bX (by omega);exact⟨_,u,this,by rw[m9,u];rfl⟩
 refine⟨_,_,g.alloc (.cells k.toArray E),H,rfl,g.nu _,rfl,rfl,λb B=>j3 _ _ B,?_⟩;refine .sl ⟨g.w.heap.size,0,none⟩ n n Z true rows F (aX _) (by omega) (λ_=>rfl) v p (λ_=>⟨rfl,C⟩) (λa c=>k.getD (a*Z+c) undef) (λa e j c d i=>?_) (λa e j c d i=>?_) (λa e j c d i=>?_)
 ·obtain⟨f,l,o,m⟩:=q a e j c d i;simp only[m];have:=s.1 _ f l;simpa[jO]using this
 ·obtain⟨f,l,o,m⟩:=q a e j c d i;simp only[m];exact r f (dB l)
 ·obtain⟨f,l,o,m⟩:=q a e j c d i;simp only[m];exact s.2.2.get _ f d l o
theorem yn{c:Fn}{a b:Array Operand}{ds:List D}(f:aI g ((a++b).toList.map ρ) ds):dI P ρ ⟨dst,.makeFunc c a b,ty,pos,af,gd⟩ g (.fn c (ds.take a.size) (ds.drop a.size)):=by
 have j:=f.length;simp at j;refine⟨.func c (a.map ρ) (b.map ρ),by simp[execOp,Instr.makeFunc],?_⟩;have d:=f.take a.size;have e:=f.drop a.size;have h:(((a++b).toList.map ρ).take a.size)=(a.map ρ).toList:=by
  simp[ng]
 have i:(((a++b).toList.map ρ).drop a.size)=(b.map ρ).toList:=by
  simp[m7]
 rw[h]at d;rw[i]at e;have:=O.fn (g:=g) c (ds.take a.size) (ds.drop a.size) (a.map ρ).toList (b.map ρ).toList d.length e.length d.get e.get;simpa only[mX]using this
theorem O.mN{v:Value}{Z:Nat}{a:Bool}{rows:List (List D)}(h:O g v (.sl Z a rows)):∃ad cap,v = .slice (some ad) rows.length cap∧(a=true→cap=rows.length):=by
 cases h with
 |sl ad n cap Z a rows b j i c m l e o f d k=>exact⟨ad,cap,by rw[b],λh=>by rw[b];exact c h⟩
theorem O.hW{v:Value}{Z o r n:Nat}(h:O g v (.aC Z o r n)):∃m cap,v = .slice (some ⟨m.b,r*m.Z,none⟩) n cap∧m.Z=Z∧g.ms[o]?=some m∧r+n≤m.len∧m.len≤r+cap∧r+cap≤m.cap∧cap≤9223372036854775807:=by
 cases h with
 |aC o r n cap m e f d c a=>exact⟨m,cap,rfl,rfl,e,f,d,c,a⟩
theorem nC{x:Operand}{k:Array TypeId}{e d:D}(c:O g (ρ x) e)(h:kG e=some d)(n:∃t,k[0]?=some t∧((∃s,e = .str s)→P.underlying t=some .string)∧((¬ ∃s,e = .str s)→∃f,P.underlying t=some (.slice f))):dI P ρ ⟨dst,.call ⟨.builtin .len, #[x],k⟩,ty,pos,af,gd⟩ g d:=by
 obtain⟨t,i,m,j⟩:=n;unfold kG at h;split at h
 ·injection h with h;subst h;have b:=m ⟨_,rfl⟩;rename_i s;have a:ρ x = .string ⟨s.toArray⟩:=by generalize a:ρ x=q at c;cases c;rfl
  exact⟨.int .i64 s.length,by simp[execOp,resolve,invoke,builtin,Builtin.len_,bI b,a,i,goInt,ka],.int _ _⟩
 ·injection h with h;subst h;obtain⟨f,b⟩:=j (by simp);have a:ρ x = .slice none 0 0:=by generalize a:ρ x=q at c;cases c;rfl
  exact⟨.int .i64 0,by simp[execOp,resolve,invoke,builtin,Builtin.len_,bI b,a,i,goInt],.int _ _⟩
 ·injection h with h;subst h;obtain⟨f,b⟩:=j (by simp);rename_i p;obtain⟨r,l,a,_⟩:=c.mN;exact⟨.int .i64 p.length,by simp[execOp,resolve,invoke,builtin,Builtin.len_,bI b,a,i,goInt],.int _ _⟩
 ·injection h with h;subst h;obtain⟨f,b⟩:=j (by simp);rename_i o;obtain⟨u,l,a,_⟩:=c.hW;exact⟨.int .i64 o,by simp[execOp,resolve,invoke,builtin,Builtin.len_,bI b,a,i,goInt],.int _ _⟩
 ·cases h
theorem yb{x:Operand}{k:Array TypeId}{e d:D}(c:O g (ρ x) e)(h:pH e=some d)(l:∃t f,k[0]?=some t∧P.underlying t=some (.slice f)):dI P ρ ⟨dst,.call ⟨.builtin .cap, #[x],k⟩,ty,pos,af,gd⟩ g d:=by
 obtain⟨t,f,i,j⟩:=l;unfold pH at h;split at h
 ·injection h with h;subst h;have a:ρ x = .slice none 0 0:=by generalize a:ρ x=p at c;cases c;rfl
  exact⟨.int .i64 0,by simp[execOp,resolve,invoke,builtin,Builtin.cap_,bI j,a,i,goInt],.int _ _⟩
 ·injection h with h;subst h;rename_i m;obtain⟨n,o,a,b⟩:=c.mN;have b:=b rfl;subst b;exact⟨.int .i64 m.length,by simp[execOp,resolve,invoke,builtin,Builtin.cap_,bI j,a,i,goInt],.int _ _⟩
 ·cases h
theorem yq{x y:Operand}{o:Array TypeId}{c e d:D}(f:O g (ρ x) c)(i:O g (ρ y) e)(h:jq c e=some d):dI P ρ ⟨dst,.call ⟨.builtin .min, #[x,y],o⟩,ty,pos,af,gd⟩ g d:=by
 unfold jq at h;split at h
 ·rename_i j a n b;injection h with h;subst h;have l:ρ x = .int j a:=by generalize k:ρ x=p at f;cases f;rfl
  have m:ρ y = .int n b:=by generalize k:ρ y=p at i;cases i;rfl
  exact⟨.int j (if b<a then b else a),by simp[execOp,resolve,invoke,builtin,Builtin.min_,Builtin.min2,l,m],.int _ _⟩
 ·cases h
theorem yp{x y:Operand}{o:Array TypeId}{c e d:D}(f:O g (ρ x) c)(i:O g (ρ y) e)(h:pR c e=some d):dI P ρ ⟨dst,.call ⟨.builtin .max, #[x,y],o⟩,ty,pos,af,gd⟩ g d:=by
 unfold pR at h;split at h
 ·rename_i j a n b;injection h with h;subst h;have l:ρ x = .int j a:=by generalize k:ρ x=p at f;cases f;rfl
  have m:ρ y = .int n b:=by generalize k:ρ y=p at i;cases i;rfl
  exact⟨.int j (if b>a then b else a),by simp[execOp,resolve,invoke,builtin,Builtin.max_,Builtin.max2,l,m],.int _ _⟩
 ·cases h
theorem k8{vs:List Value}{d:D}(h:aI g vs [d]):∃v,vs=[v]∧O g v d:=by
 cases h with
 |cons h a=>cases a;exact⟨_,rfl,h⟩
theorem vN (i:aZ P T) (ak:∀b,g.L b→b<g.w.heap.size) (o:Oper) {ds:List D} {d:D} (e:aI g (o.op.operands.toList.map ρ) ds) (h:g4 T o.op ds=some d):lp P ρ o g d:=by
 obtain⟨dst,ap,ty,pos,af,gd⟩:=o;simp only at e h;have u:∀{x:Operand},aI g [ρ x] ds→∃c,ds=[c]∧O g (ρ x) c:=λk=>by
  cases k with
  |cons ad f=>cases f;exact⟨_,rfl,ad⟩
 have ag:∀{x y:Operand},aI g [ρ x,ρ y] ds→∃c q,ds=[c,q]∧O g (ρ x) c∧O g (ρ y) q:=λk=>by
  cases k with
  | cons ad f=>cases f with
   |cons aj f=>cases f;exact⟨_,_,rfl,ad,aj⟩
 have an:∀{x y z:Operand},aI g [ρ x,ρ y,ρ z] ds→∃c q ar,ds=[c,q,ar]∧O g (ρ x) c∧O g (ρ y) q∧O g (ρ z) ar:=λk=>by
  cases k with
  | cons ad f=>cases f with
   | cons aj f=>cases f with
    |cons ax f=>cases f;exact⟨_,_,_,rfl,ad,aj,ax⟩
 cases ap<;>simp only[g4]at h
 case move x =>
  obtain⟨c,rfl,a⟩:=u e;injection h with h;subst h;exact dI.g ⟨ρ x,by simp[execOp],a⟩
 case assign x =>
  obtain⟨c,rfl,a⟩:=u e;injection h with h;subst h;exact dI.g ⟨ρ x,by simp[execOp],a⟩
 case pick F v b =>
  obtain⟨N,G,A,rfl,Q,H,B⟩:=an e;exact(yt Q H B h).g
 case nilCheck x =>
  obtain⟨c,rfl,a⟩:=u e;exact(yr i a h).g
 case binOp ap bu x y a2 =>
  obtain⟨c,q,rfl,a,t⟩:=ag e;exact(x7 i a t h).g
 case unOp ap j x =>
  obtain⟨c,rfl,a⟩:=u e;exact(yx a h).g
 case convert av j x =>
  obtain⟨c,rfl,a⟩:=u e;exact(yc i a h).g
 case makeFunc ai v b =>
  injection h with h;subst h;exact(yn e).g
 case fieldAddr j x ai =>
  obtain⟨c,rfl,a⟩:=u e;exact(yg i a h).g
 case field j x ai =>
  obtain⟨c,rfl,a⟩:=u e;exact(yf i a h).g
 case indexAddr j x y =>
  obtain⟨c,q,rfl,a,t⟩:=ag e;exact(yi i a t h).g
 case index j x y =>
  obtain⟨c,q,rfl,a,t⟩:=ag e;exact(yh i a t h).g
 case extract x p =>
  obtain⟨c,rfl,a⟩:=u e;exact(ye a h).g
 case makeInterface j x =>
  obtain⟨c,rfl,a⟩:=u e;split at h
  case h_2=>cases h
  rename_i a4 p R hi;injection R with R;subst R;split at h
  case h_3=>cases h
  ·rename_i r ae;injection h with h;subst h;exact dI.g ⟨.iface j (ρ x),by simp[execOp,Instr.makeInterface,bI (i.ptr hi ae)],.iface _ _ _ a⟩
  ·rename_i r ae;injection h with h;subst h;exact dI.g ⟨.iface j (ρ x),by simp[execOp,Instr.makeInterface,bI (i.int hi ae)],.iface _ _ _ a⟩
 case typeAssert x xt j bb =>
  obtain⟨c,rfl,a⟩:=u e;split at h
  case h_2=>cases h
  rename_i a4 p R hi;injection R with R;subst R;split at h
  case h_2=>cases h
  rename_i r ae;unfold jo at h;split at h
  case h_2=>cases h
  rename_i a2 y;split at h
  case isFalse=>cases h
  rename_i az;subst az;injection h with h;subst h;generalize s:ρ x=aq at a;cases a with
  |iface _ a3 _ a0=>exact dI.g ⟨a3,by simp[execOp,Instr.typeAssert,bI (i.int hi ae),s],a0⟩
 case build j ac =>
  have:(Op.operands (.build j ac)).toList.map ρ=ac.toList.map λx=>ρ x.2:=by simp[Op.operands]
  rw[this]at e;exact(ya i e h).g
 case alloc r =>
  cases hi:T r with
  |none=>rw[hi]at h;cases h
  | some p =>
   rw[hi]at h;injection h with h;subst h;exact x5 i ak hi
 case box r x =>
  obtain⟨c,rfl,a⟩:=u e;simp only at h;split at h
  ·rename_i ay;injection h with h;subst h;exact x8 ak a ay
  ·cases h
 case buildSlice j au ac =>
  have:(Op.operands (.buildSlice j au ac)).toList.map ρ=ac.toList.map λx=>ρ x.2:=by simp[Op.operands]
  rw[this]at e;cases C:iS T j au (ac.toList.map (·.1)) ds with
  |none=>rw[C]at h;cases h
  | some a1 =>
   rw[C]at h;obtain⟨a5,br,bp⟩:=a1;injection h with h;subst h;exact yk i ak e C
 case slice j x lo hi mx =>
  have K:∀{y:Operand} {q:D} {p:Int},O g (ρ y) q→eZ q=some p→∃ao,ρ y = .int ao p:=λ{y q p} t aa=>by
   unfold eZ at aa;split at aa
   ·injection aa with aa;subst aa;generalize s:ρ y=aq at t;cases t;exact⟨_,rfl⟩
   ·cases aa
  cases lo<;>cases hi<;>cases mx<;>simp only[Option.isSome_none,Option.isSome_some]at h
  ·obtain⟨c,rfl,a⟩:=u (x:=x) (by simpa[Op.operands]using e);exact(jY i (lo:=none) (hi:=none) (mx:=none) (l:=none) (h:=none) (m:=none) a trivial trivial trivial (by simp) h).g
  ·unfold ga at h;simp at h
  ·rename_i b;obtain⟨c,A,rfl,a,B⟩:=ag (x:=x) (y:=b) (by simpa[Op.operands]using e);simp only[ga]at h;cases n:eZ A with
   |none=>rw[n]at h;cases h
   | some p =>
    rw[n]at h;exact(jY i (lo:=none) (hi:=(some b)) (mx:=none) (l:=none) (h:=some p) (m:=none) a trivial (K B n) trivial (by simp) h).g
  ·rename_i b F;obtain⟨c,A,N,rfl,a,B,Q⟩:=an (x:=x) (y:=b) (z:=F) (by simpa[Op.operands]using e);simp only[ga]at h;cases n:eZ A with
   |none=>rw[n]at h;cases h
   | some p =>
    rw[n]at h;simp only[fF]at h;cases E:eZ N with
    |none=>rw[E]at h;cases h
    | some ah =>
     rw[E]at h;exact(jY i (lo:=none) (hi:=(some b)) (mx:=(some F)) (l:=none) (h:=some p) (m:=some ah) a trivial (K B n) (K Q E) (by simp) h).g
  ·rename_i v;obtain⟨c,G,rfl,a,H⟩:=ag (x:=x) (y:=v) (by simpa[Op.operands]using e);simp only[ga]at h;cases n:eZ G with
   |none=>rw[n]at h;cases h
   | some p =>
    rw[n]at h;exact(jY i (lo:=(some v)) (hi:=none) (mx:=none) (l:=some p) (h:=none) (m:=none) a (K H n) trivial trivial (by simp) h).g
  ·unfold ga at h;simp at h
  ·rename_i v b;obtain⟨c,G,A,rfl,a,H,B⟩:=an (x:=x) (y:=v) (z:=b) (by simpa[Op.operands]using e);simp only[ga]at h;cases n:eZ G with
   |none=>rw[n]at h;cases h
   | some p =>
    rw[n]at h;simp only[fF]at h;cases E:eZ A with
    |none=>rw[E]at h;cases h
    | some ah =>
     rw[E]at h;exact(jY i (lo:=(some v)) (hi:=(some b)) (mx:=none) (l:=some p) (h:=some ah) (m:=none) a (K H n) (K B E) trivial (by simp) h).g
  ·rename_i v b F;obtain ⟨c,G,A,N,rfl,a,H,B,Q⟩:∃c G A N,ds=[c,G,A,N]∧O g (ρ x) c∧O g (ρ v) G∧O g (ρ b) A∧O g (ρ F) N:=by
    have M:aI g [ρ x,ρ v,ρ b,ρ F] ds:=by simpa[Op.operands]using e
    cases M with
    | cons a f=>cases f with
     | cons H f=>cases f with
      | cons B f=>cases f with
       |cons Q f=>cases f;exact⟨_,_,_,_,rfl,a,H,B,Q⟩
   simp only[ga]at h;cases n:eZ G with
   |none=>rw[n]at h;cases h
   | some p =>
    rw[n]at h;simp only[fF]at h;cases E:eZ A with
    |none=>rw[E]at h;cases h
    | some ah =>
     rw[E]at h;simp only[fF]at h;cases am:eZ N with
     |none=>rw[am]at h;cases h
     | some ao =>
      rw[am]at h;exact(jY i (lo:=some v) (hi:=some b) (mx:=some F) (l:=some p) (h:=some ah) (m:=some ao) a (K H n) (K B E) (K Q am) (by simp) h).g
 case call F =>
  obtain⟨aw,args,bt⟩:=F;simp only at h;cases aw with
  |value ai=>simp at h
  |invoke f m=>simp at h
  | builtin b =>
   have M:aI g (args.toList.map ρ) ds:=by simpa[Op.operands,Call.operands]using e
   cases b<;>simp only at h
   case len =>
    split at h
    ·rename_i c j ab;obtain⟨aq,s,a⟩:=k8 M;obtain⟨x,X⟩:∃x,args = #[x]:=by
      obtain⟨l⟩:=args;cases l with
      |nil=>simp at s
      | cons x l=>cases l with
       |nil=>exact⟨x,rfl⟩
       |cons y l=>simp at s
     subst X;simp at s;subst s;unfold bT at h;split at h
     ·rename_i p hi;split at h
      ·rename_i av I;exact(nC a h ⟨j,ab,λ_=>i.str hi I,λk=>absurd ⟨av,rfl⟩ k⟩).g
      ·rename_i r I;exact(nC a h ⟨j,ab,(λk=>by obtain⟨_,k⟩:=k;cases k),λ_=>⟨r,i.sl hi I⟩⟩).g
      ·rename_i r _ _ _ I;exact(nC a h ⟨j,ab,(λk=>by obtain⟨_,k⟩:=k;cases k),λ_=>⟨r,i.sl hi I⟩⟩).g
      ·rename_i r _ _ _ _ I;exact(nC a h ⟨j,ab,(λk=>by obtain⟨_,k⟩:=k;cases k),λ_=>⟨r,i.sl hi I⟩⟩).g
      ·cases h
     ·cases h
    ·cases h
   case cap =>
    split at h
    ·rename_i c j ab;obtain⟨aq,s,a⟩:=k8 M;obtain⟨x,X⟩:∃x,args = #[x]:=by
      obtain⟨l⟩:=args;cases l with
      |nil=>simp at s
      | cons x l=>cases l with
       |nil=>exact⟨x,rfl⟩
       |cons y l=>simp at s
     subst X;simp at s;subst s;unfold tH at h;split at h
     ·rename_i p hi;split at h
      ·rename_i r I;exact(yb a h ⟨j,r,ab,i.sl hi I⟩).g
      ·cases h
     ·cases h
    ·cases h
   case min =>
    split at h
    ·rename_i c q;obtain⟨x,y,X⟩:∃x y,args = #[x,y]:=by
      have C:=M.length;obtain⟨l⟩:=args;cases l with
      |nil=>simp at C
      | cons x l=>cases l with
       |nil=>simp at C
       | cons y l=>cases l with
        |nil=>exact⟨x,y,rfl⟩
        |cons z l=>simp at C
     subst X;cases M with
     | cons a f=>cases f with
      |cons t f=>exact(yq a t h).g
    ·cases h
   case max =>
    split at h
    ·rename_i c q;obtain⟨x,y,X⟩:∃x y,args = #[x,y]:=by
      have C:=M.length;obtain⟨l⟩:=args;cases l with
      |nil=>simp at C
      | cons x l=>cases l with
       |nil=>simp at C
       | cons y l=>cases l with
        |nil=>exact⟨x,y,rfl⟩
        |cons z l=>simp at C
     subst X;cases M with
     | cons a f=>cases f with
      |cons t f=>exact(yp a t h).g
    ·cases h
   all_goals cases h
 all_goals cases h
end ops
end Go.Pi
namespace Go.Eng
abbrev gw:=@List.length_map
abbrev jP:=@Nat.add_zero
end Go.Eng
namespace Go.Pi
open Go.Eng
section rd
variable {P:Program} {T:aM} {g:Gh} {h:Y}
theorem Live.at{m:Me}{U Z:Nat}{rows:List (List D)}{cs:Array Value}(i:Live g m U Z rows cs){k:Nat}{row:List D}(p:rows[k]?=some row):∃vs,At g m.b (k*Z) vs row:=by
 obtain⟨r,n,_⟩:=i.eA;have o:∀f,g.w.cell? ⟨m.b,f,none⟩=cs[f]?:=λf=>by simp only[World.cell?,n];simp
 refine⟨_,At.of (λa=>cs.getD (k*Z+a) undef) (λa c e=>?_) (λa c e=>?_) (λa c e=>?_)⟩
 all_goals
  obtain⟨q,h,j,l⟩:=i.cell k row p a c e;have d:cs.getD (k*Z+a) undef=q:=by rw[cM,h];rfl
 ·rw[o,h,d]
 ·rw[d];exact j
 ·rw[d];exact l
theorem At.append{b o:Nat}{vs f:List Value}{cs ds:List D}(h:At g b o vs cs)(k:At g b (o+vs.length) f ds):At g b o (vs++f) (cs++ds):=by
 refine⟨λe c d=>?_,λc a=>?_,h.2.2.append k.2.2⟩
 ·rcases ez e vs.length with j|i
  ·rw[cU j]at d;exact h.1 e c d
  ·rw[fW i]at d;have:=k.1 _ c d
   rwa [jO,show vs.length+(e - vs.length)=e from by omega]at this
 ·rcases fk.1 a with a|a
  ·exact h.2.1 c a
  ·exact k.2.1 c a
theorem At.rows{b Z:Nat}:∀(rows:List (List D)) (o:Nat),(∀r∈rows,r.length=Z)→(∀(i:Nat) (row:List D),rows[i]?=some row→∃vs,At g b (o+i*Z) vs row)→∃vs,At g b o vs rows.flatten
 |[],o,_,_=>⟨[],by simp,by simp,by simpa using aI.nil⟩
 | r::rows,o,d,h=>by
  obtain⟨vs,c⟩:=h 0 r rfl;have a:=d r (e8 ..);have f:=c.2.2.length;obtain⟨l,j⟩:=At.rows rows (o+vs.length) (λr a=>d r (eP _ a)) (λi row e=>by
   obtain⟨m,k⟩:=h (i+1) row (by simpa using e);refine⟨m,?_⟩;rw[dD,Nat.one_mul]at k
   rwa [f,a,jO,Nat.add_comm Z]
   )
  rw[jQ,jP]at c;exact⟨vs++l,by rw[gH];exact c.append j⟩
theorem q5 (hi:Inv g h) {v:Value} {d:D} (m:O g v d) {Z:Nat} {rows:List (List D)} (c:gn h Z d=some rows) (an:0<Z) :
  ∃a cap j,v = .slice a rows.length cap∧(∀r∈rows,r.length=Z)∧j.length=rows.length*Z∧aI g j rows.flatten∧(∀U∈j,U.oneCell'=true)∧(rows≠[]→∃b o,a=some ⟨b,o,none⟩∧At g b o j rows.flatten):=by
 unfold gn at c;split at c
 ·injection c with c;subst c;cases m;exact⟨none,0,[],rfl,by simp,by simp,by simpa using aI.nil,by simp,by simp⟩
 ·split at c
  ·rename_i u ai f x;subst x;injection c with c;subst c;cases w:f with
   | nil =>
    subst w;obtain⟨G,cap,n,_⟩:=m.mN;exact⟨some G,cap,[],n,by simp,by simp,by simpa using aI.nil,by simp,by simp⟩
   | cons R ar =>
    rw[← w];have I:f[0]?=some R:=by rw[w];rfl
    obtain⟨b,o,s,cap,au,n,A,_,_,_⟩:=m.oG I;have l:∀r∈f,r.length=u:=λr Q=>by
     obtain⟨E,i⟩:=jM Q;obtain⟨_,_,_,_,_,_,_,_,_,k⟩:=m.oG i;exact k
    obtain⟨j,e⟩:=At.rows (g:=g) (b:=b) f o l (λE T i=>by
     obtain⟨ac,aq,ap,ad,aa,B,_,_,e,_⟩:=m.oG i;rw[n]at B;injection B with p af ag;injection p with p;injection p with p H ah;subst p;subst H;exact⟨aa,e⟩)
    have k:=e.2.2.length;have K:=gU f l;exact⟨some ⟨b,o,none⟩,cap,j,by rw[n,A],l,by omega,e.2.2,e.2.1,λ_=>⟨b,o,rfl,e⟩⟩
  ·cases c
 ·split at c
  ·rename_i u o r s x;subst x;split at c
   ·rename_i F ab f N;injection c with c;subst c;obtain⟨q,cap,n,z,M,A,am,ak,aj⟩:=m.hW;obtain⟨ao,ae,t,k⟩:=hi.live o F ab f N;rw[M]at t;injection t with t;subst t;have C:=k.fI;rw[z]at C;subst C;have L:((f.drop r).take s).length=s:=by have:=k.len;simp;omega
    have l:∀y∈(f.drop r).take s,y.length=u:=λy P=>k.row y (hF (fm P))
    obtain⟨j,e⟩:=At.rows (g:=g) (b:=q.b) ((f.drop r).take s) (r*u) l (λE T i=>by
     rw[dX]at i;split at i
     ·rw[hC]at i;obtain⟨X,e⟩:=k.at i;exact⟨X,by rwa [dD]at e⟩
     ·cases i)
    have al:=e.2.2.length;have K:=gU _ l;refine⟨some ⟨q.b,r*q.Z,none⟩,cap,j,by rw[L];exact n,l,by omega,e.2.2,e.2.1,λ_=>⟨q.b,r*q.Z,rfl,by rw[z];exact e⟩⟩
   ·cases c
  ·cases c
 ·cases c
theorem tp:∀(rows:List (List D)) (s:List UInt8) (b:List Value),lP rows=some s→aI g b rows.flatten→∃c:List Int,b=c.map (λn=>Value.int .u8 n)∧s=c.map λn=>UInt8.ofNat n.toNat
 | [],s,b,h,a=>by
  simp[lP]at h;subst h;cases a;exact⟨[],rfl,rfl⟩
 | row::r,s,b,h,a=>by
  unfold lP at h;split at h
  ·rename_i d;cases d
  ·rename_i n m d;injection d with e f;subst e;subst f;split at h
   ·rename_i l j;injection h with h;subst h;simp only[gH,sD,nb]at a;cases a with
    | cons k a =>
     cases k;obtain⟨c,i,h2⟩:=tp r l _ j a;exact⟨n::c,by simp[i],by simp[h2]⟩
   ·cases h
  ·cases h
theorem zP(a:List Int):∀s:ByteArray,a.foldl (λr n=>r.push (UInt8.ofNat n.toNat)) s=⟨(s.data.toList++a.map λn=>UInt8.ofNat n.toNat).toArray⟩:=by
 induction a with
 |nil=>intro s;simp
 | cons n r b =>
  intro s;rw[o9,b];apply oU;simp[ByteArray.push]
theorem tK (m:aZ P T) (hi:Inv g h) {t:Nat} {v:Value} {l d:D} (p:O g v l) (a:aA T h t l=some d):∃b,(Instr.loadAt t v).run P g.w = .ok b g.w∧O g b d:=by
 unfold aA at a;split at a
 ·rename_i E o;split at a
  ·obtain⟨B,k,A,rfl,_,i⟩:=p.n1;obtain⟨b,e,j⟩:=u7 m o i a;exact⟨b,by simp[Instr.loadAt,Instr.sureAddr,e],j⟩
  ·rename_i k x q;split at a
   ·rename_i H f;unfold Y.row at f;split at f
    ·rename_i r z y u;cases p with
     | ptr k x q F s =>
      obtain⟨G,C,c,n⟩:=hi.live k r z y u;rw[s]at c;injection c with c;subst c;obtain⟨A,i⟩:=n.at f;obtain⟨b,e,j⟩:=u7 m o (i.drop q) a;refine⟨b,?_,j⟩;rw[← n.fI]at e;simp[Instr.loadAt,Instr.sureAddr,e]
    ·cases f
   ·cases a
  ·cases a
 ·cases a
theorem CK (i:aZ P T) (hi:Inv g h) {ρ:Operand→Value} (o:Oper) {ds:List D} {d:D} (m:aI g (o.op.operands.toList.map ρ) ds) (a:h3 T h o.op ds=some d):dI P ρ o g d:=by
 obtain⟨am,ah,aw,ar,al,gd⟩:=o;simp only at m a;cases ah<;>simp only[h3]at a
 case load y z =>
  split at a
  ·obtain⟨q,c,n⟩:=k8 m;simp[Op.operands]at c;subst c;obtain⟨ak,M,ac⟩:=tK i hi n a;exact⟨ak,by simp[execOp,M],ac⟩
  ·cases a
 case convert ai y z =>
  split at a
  ·rename_i ap x N X;split at a
   ·rename_i B aa ab;split at a
    ·rename_i aq E;split at a
     ·rename_i F;split at a
      ·obtain ⟨q, c, n⟩:=k8 m;simp[Op.operands]at c;subst c;unfold tM at a;split at a
       ·rename_i f L;split at a
        ·rename_i aj R;injection a with a;subst a;obtain⟨r,s,ag,c,ao,H,K,an,t⟩:=q5 hi n L (by decide);obtain⟨b,I,Q⟩:=tp f aj ag R K;subst I;subst Q;have k:b.length=f.length:=by simpa using H
         refine⟨.string ⟨(b.map λp=>UInt8.ofNat p.toNat).toArray⟩,?_,.str _⟩;have ad:=i.sl N aa;have ae:=i.str X ab;have af:=i.int E F;have u : (Conv.bytesToString (ρ z)).run P g.w = .ok (.string ⟨(b.map λp=>UInt8.ofNat p.toNat).toArray⟩) g.w:=by
          rw[c,← k];cases r with
          | none =>
           have l:f=[]:=by
            rcases f with _|⟨au,av⟩
            ·rfl
            ·obtain⟨A,o,e,_⟩:=t (by simp);cases e
           subst l;have:b=[]:=fC (by simpa using k);subst this;simp[Conv.bytesToString];rfl
          | some j =>
           have G:(loadCells j b.length).run P g.w = .ok (b.map (Value.int .u8)).toArray g.w:=by
            have:=run_loadCells_list (P:=P) (w:=g.w) j (b.map (Value.int .u8)) (λx q v=>by
             have l:f≠[]:=λe=>by
              subst e;have:b=[]:=fC (by simpa using k);subst this;cases v
             obtain⟨A,o,e,C⟩:=t l;injection e with e;rw[e,fU];exact C.1 x q v)
            rwa [gw]at this
           rw[run_bytesToString g.w j b.length s b G,zP];rfl
         simp only[execOp,dU];rw[c]at u ⊢;rw[run_convert_bytes_string g.w ai y B r _ s ad af ae,u];rfl
        ·cases a
       ·cases a
      ·cases a
     ·cases a
    ·cases a
   ·cases a
  ·cases a
 all_goals cases a
end rd
end Go.Pi
namespace Go.Eng
abbrev g7:=@List.getElem?_set_ne
abbrev hI:=@Nat.lt_trichotomy
abbrev iK:=@List.getElem?_set_self
abbrev jd:=@Array.getElem?_eq_getElem
abbrev rQ:=@Array.getElem?_modify
abbrev rR:=@Array.getElem?_push_lt
end Go.Eng
namespace Go.Pi
open Go.Eng
structure gM (w w':World) (b:Nat) (o:Obj):Prop where
 eA:w'.heap[b]?=some o
 other:∀k,k≠b→w'.heap[k]?=w.heap[k]?
 size:w'.heap.size=w.heap.size
 os:w'.os=w.os
 tape:w'.tape=w.tape
 output:w'.output=w.output
theorem Df(w:World){b i:Nat}{cs:Array Value}{T:TypeId}{fr:Nat × Nat}(a:w.heap[b]?=some (.cells cs T fr))(v:Value):gM w (w.setCell ⟨b,i,none⟩ v) b (.cells (cs.setIfInBounds i v) T fr):=by
 have g:=(je.1 a).1;refine⟨?_,λf d=>?_,by simp[World.setCell],rfl,rfl,rfl⟩
 ·simp[World.setCell,rQ,a]
 ·have e:¬b=f:=λc=>d c.symm
  simp[World.setCell,rQ,e]
theorem gM.trans{w w' e:World}{b:Nat}{o d:Obj}(h:gM w w' b o)(k:gM w' e b d):gM w e b d:=
 ⟨k.eA,λc a=>(k.other c a).trans (h.other c a),k.size.trans h.size,k.os.trans h.os,k.tape.trans h.tape,k.output.trans h.output⟩
theorem gM.self{w:World}{b:Nat}{o:Obj}(h:w.heap[b]?=some o):gM w w b o:=⟨h,λ_ _=>rfl,rfl,rfl,rfl,rfl⟩
theorem kf{P:Program}{T:TypeId}{fr:Nat × Nat}{b i:Nat}:∀(vs:List Value) (w:World) (cs:List Value) (k:Nat),w.heap[b]?=some (.cells cs.toArray T fr)→sy fr cs.length→i+k+vs.length≤cs.length→(∀v∈vs,v.oneCell'=true) →
  ∃w',(storeCells ⟨b,i,none⟩ vs k).run P w = .ok () w'∧gM w w' b (.cells (cs.take (i+k)++vs++cs.drop (i+k+vs.length)).toArray T fr)
 |[],w,cs,k,a,c,e,d=>⟨w,by simp[storeCells],by simpa using gM.self a⟩
 | v::r,w,cs,k,a,c,e,d=>by
  simp only[eS]at e;have o:i+k<cs.length:=by omega
  have m:w.cell? ⟨b,i+k,none⟩=some cs[i+k]:=by
   simp only[World.cell?,a];simp[o]
  have n:w.frozen? ⟨b,i+k,none⟩=false:=by
   simp only[World.frozen?,a];rcases c with rfl|c
   ·simp
   ·simp;omega
  have q:(store ⟨b,i+k,none⟩ v).run P w = .ok () (w.setCell ⟨b,i+k,none⟩ v):=by
   rw[run_store _ _ _ _ _ (d v (e8 ..))];simp[m,n]
  have f:=Df w (i:=i+k) a v;have l:(w.setCell ⟨b,i+k,none⟩ v).heap[b]?=some (.cells (cs.set (i+k) v).toArray T fr):=by
   rw[f.eA];simp
  obtain⟨w',p,s⟩:=kf (i:=i) r (w.setCell ⟨b,i+k,none⟩ v) (cs.set (i+k) v) (k+1) l (by simpa using c) (by simp;omega) (λu t=>d u (eP _ t));refine⟨w',?_,?_⟩
  ·simp only[storeCells,dU,fU,q,dY];exact p
  ·have:=f.trans s;have g:(cs.set (i+k) v).take (i+(k+1))++r++(cs.set (i+k) v).drop (i+(k+1)+r.length)=cs.take (i+k)++v::r++cs.drop (i+k+(v::r).length):=by
    have h:(cs.set (i+k) v).take (i+(k+1))=cs.take (i+k)++[v]:=by
     rw[show i+(k+1)=(i+k)+1 from by omega,List.take_succ_eq_append_getElem (by simp;omega)];simp only[List.getElem_set_self,List.take_set];rw[List.set_eq_of_length_le (by simp;omega)]
    have j:(cs.set (i+k) v).drop (i+(k+1)+r.length)=cs.drop (i+k+(v::r).length):=by
     rw[List.drop_set_of_lt (by omega)];simp only[eS];congr 1;omega
    rw[h,j];simp
   rw[g]at this;exact this
section obj
variable {g:Gh} {h:Y}
theorem k0 (hi:Inv g h) {w':World} {U Z cap:Nat} {rows:List (List D)} {cs:Array Value} {fr:Nat × Nat} (I:w'.heap=g.w.heap.push (.cells cs U fr)) (aj:w'.os=g.w.os) (an:w'.tape=g.w.tape) (ai:w'.output=g.w.output)
  (ag:Fr fr cs.size Z) (ak:0<Z) (ah:rows.length≤cap) (al:cap*Z≤cs.size) (am:∀r∈rows,r.length=Z)
  (ae:∀(i:Nat) (row:List D),rows[i]?=some row→∀(j:Nat) (d:D),row[j]?=some d→∃v,cs[i*Z+j]?=some v∧v.oneCell'=true∧O g v d) :
  ∃g':Gh,g'.w=w'∧aH g g'∧Inv g' (aF h U Z rows)∧g'.ms[h.length]?=some ⟨g.w.heap.size,Z,rows.length,cap⟩:=by
 let g':Gh:=⟨w',g.ms++[⟨g.w.heap.size,Z,rows.length,cap⟩],λf=>g.L f∨f=g.w.heap.size⟩
 have N:∀f,f<g.w.heap.size→w'.heap[f]?=g.w.heap[f]?:=λf e=>by rw[I,rR e,jd e]
 have au:w'.heap.size=g.w.heap.size+1:=by rw[I];simp
 have y:aH g g':=⟨⟨aj,an,ai,by show g.w.heap.size≤w'.heap.size;omega,(λa b c=>by
   show(g.ms++_)[a]?=some b;rw [cU (aP.1 c).1];exact c),λf e=>⟨⟨by show f<w'.heap.size;have:=e.1;omega,λz=>by
    rcases z with z|z
    ·exact e.2 z
    ·have:=e.1;omega⟩,N f e.1⟩⟩,λf e=>⟨⟨by show f<w'.heap.size;have:=e.1;omega,.inl e.2.1,λa b c=>by
     have p:(g.ms++[(⟨g.w.heap.size,Z,rows.length,cap⟩:Me)])[a]?=some b:=c;rcases ez a g.ms.length with l|H
     ·rw[cU l]at p;exact e.2.2 a b p
     ·rw[fW H]at p;have:=dB p;simp at this;subst this;have:=e.1;show g.w.heap.size≠f;omega⟩,N f e.1⟩⟩
 have C:∀a b,g'.ms[a]?=some b→a<h.length→g.ms[a]?=some b:=λa b c l=>by
  have:(g.ms++[(⟨g.w.heap.size,Z,rows.length,cap⟩:Me)])[a]?=some b:=c
  rwa [cU (by rw[hi.len];exact l)]at this
 have B:g'.ms[h.length]?=some ⟨g.w.heap.size,Z,rows.length,cap⟩:=by
  show(g.ms++_)[h.length]?=_;rw[← hi.len];simp
 have A:∀(a:Nat) (E:Ob),(aF h U Z rows)[a]?=some E→(a<h.length∧h[a]?=some E)∨(a=h.length∧E = .row U Z rows):=λa E s=>by
  unfold aF at s;rcases hI a h.length with l|heq|ar
  ·rw[cU l]at s;exact .inl ⟨l,s⟩
  ·subst heq;simp at s;exact .inr ⟨rfl,s.symm⟩
  ·exfalso;have:=(aP.1 s).1;simp at this;omega
 refine⟨g',rfl,y,⟨?_,λa ab aq ap M=>?_,λa t Q X R aa r1 T b P x m n o q=>?_,λf e=>?_,λa b c=>?_⟩,B⟩
 ·show(g.ms++_).length=(h++_).length;simp[hi.len]
 ·rcases A a _ M with⟨l,M⟩|⟨rfl,heq⟩
  ·obtain⟨b,F,c,k⟩:=hi.live a ab aq ap M;refine⟨b,F,y.ms a b c,?_,k.fI,k.pos,.inl k.hL,k.len,k.le,k.room,k.row,λi row m j d n=>?_⟩
   ·have:=N b.b (hi.g8 k.hL);show ∃fr,w'.heap[b.b]?=_∧_;rw[this];exact k.eA
   ·obtain⟨v,o,q,G⟩:=k.cell i row m j d n;exact⟨v,o,q,G.ext y⟩
  ·injection heq with u ac ad;subst u;subst ac;subst ad;refine⟨_,cs,B,⟨fr,?_,ag⟩,rfl,ak,.inr rfl,rfl,ah,al,am,λi row m j d n=>?_⟩
   ·show w'.heap[g.w.heap.size]?=_;rw[I];simp
   ·obtain⟨v,o,q,G⟩:=ae i row m j d n;exact⟨v,o,q,G.ext y⟩
 ·rcases A a _ x with⟨l,x⟩|⟨rfl,heq⟩
  ·rcases A t _ m with⟨K,m⟩|⟨rfl,af⟩
   ·exact hi.inj a t Q X R aa r1 T b P x m (C a b n l) (C t P o K) q
   ·exfalso;obtain⟨ao,F,c,k⟩:=hi.live a Q X r1 x;have u:=C a b n l;rw[u]at c;injection c with c;subst c;rw[B]at o;injection o with o;subst o;have:=hi.g8 k.hL;rw[q]at this;simp at this
  ·rcases A t _ m with⟨K,m⟩|⟨rfl,af⟩
   ·exfalso;obtain⟨ao,F,c,k⟩:=hi.live t R aa T m;have u:=C t P o K;rw[u]at c;injection c with c;subst c;rw[B]at n;injection n with n;subst n;have:=hi.g8 k.hL;rw[← q]at this;simp at this
   ·rfl
 ·show f<w'.heap.size;rcases e with e|e
  ·have:=hi.L f e;omega
  ·omega
 ·show b.b<w'.heap.size;have p:(g.ms++[(⟨g.w.heap.size,Z,rows.length,cap⟩:Me)])[a]?=some b:=c;rcases ez a g.ms.length with l|H
  ·rw[cU l]at p;have:=hi.msb a b p;omega
  ·rw[fW H]at p;have:=dB p;simp at this;subst this;show g.w.heap.size<w'.heap.size;omega
theorem wm(hi:Inv g h){w':World}{o U Z:Nat}{rows rows':List (List D)}{m:Me}{cs u:Array Value}{fr:Nat × Nat}(M:h[o]?=some (.row U Z rows))(I:g.ms[o]?=some m)(s:Live g m U Z rows cs)
  (c:gM g.w w' m.b (.cells u U fr)) (ag:Fr fr u.size Z) (ak:u.size=cs.size) (ah:rows'.length=rows.length) (aj:∀r∈rows',r.length=Z)
  (af:∀(i:Nat) (row:List D),rows'[i]?=some row→∀(j:Nat) (d:D),row[j]?=some d→∃v,u[i*Z+j]?=some v∧v.oneCell'=true∧O g v d) :
  ∃g':Gh,g'.w=w'∧aH g g'∧Inv g' (h.set o (.row U Z rows'))∧g'.ms=g.ms:=by
 let g':Gh:=⟨w',g.ms,g.L⟩
 have G:aH g g':=⟨⟨c.os,c.tape,c.output,by show g.w.heap.size≤w'.heap.size;rw[c.size];exact aX _,λ_ _ k=>k,λf e=>by
  have K:f≠m.b:=λk=>e.2 (k▸s.hL)
  exact⟨⟨by show f<w'.heap.size;rw[c.size];exact e.1,e.2⟩,c.other f K⟩⟩,λf e=>⟨⟨by show f<w'.heap.size;rw[c.size];exact e.1,e.2.1,e.2.2⟩,c.other f λk=>e.2.2 o m I k.symm⟩⟩
 have R:∀(a:Nat) (A:Ob),(h.set o (.row U Z rows'))[a]?=some A→(a=o∧A = .row U Z rows')∨(a≠o∧h[a]?=some A):=λa A b=>by
  by_cases N:a=o
  ·subst N;have ai:=(aP.1 M).1;rw[iK ai]at b;injection b with b;exact .inl ⟨rfl,b.symm⟩
  ·rw[g7 (λk=>N k.symm)]at b;exact .inr ⟨N,b⟩
 have T:∀(a:Nat) (n p:Nat) (r1:List (List D)),(h.set o (.row U Z rows'))[a]?=some (.row n p r1)→∃P,h[a]?=some (.row n p P):=λa n p r1 b=>by
  rcases R a _ b with⟨rfl,H⟩|⟨_,b⟩
  ·injection H with B C Q;subst B;subst C;exact⟨rows,M⟩
  ·exact⟨r1,b⟩
 refine⟨g',rfl,G,⟨by show g.ms.length=_;simp[hi.len],λa n p r1 b=>?_,λa ab n p ac an r1 ao t al E q x y z=>?_,λf e=>?_,λa aa b=>by show aa.b<w'.heap.size;rw[c.size];exact hi.msb a aa b⟩,rfl⟩
 ·rcases R a _ b with⟨rfl,H⟩|⟨K,b⟩
  ·injection H with B C Q;subst B;subst C;subst Q;refine⟨m,u,I,⟨fr,c.eA,ag⟩,s.fI,s.pos,s.hL,by rw[ah];exact s.len,s.le,by rw[ak];exact s.room,aj,λi row q j d x=>?_⟩;obtain⟨v,y,z,F⟩:=af i row q j d x;exact⟨v,y,z,F.ext G⟩
  ·obtain⟨t,ad,X,l⟩:=hi.live a n p r1 b;have ae:t.b≠m.b:=λk=>K (hi.inj a o n p U Z r1 rows t m b M X I k)
   refine⟨t,ad,X,?_,l.fI,l.pos,l.hL,l.len,l.le,l.room,l.row,λi row q j d x=>?_⟩
   ·have:=c.other t.b ae;show ∃fr,w'.heap[t.b]?=_∧_;rw[this];exact l.eA
   ·obtain⟨v,y,z,F⟩:=l.cell i row q j d x;exact⟨v,y,z,F.ext G⟩
 ·obtain⟨P,E⟩:=T a _ _ _ E;obtain⟨am,q⟩:=T ab _ _ _ q;exact hi.inj a ab n p ac an P am t al E q x y z
 ·show f<w'.heap.size;rw[c.size];exact hi.L f e
theorem uS(hi:Inv g h){o U Z:Nat}{rows:List (List D)}{m:Me}(u:h[o]?=some (.row U Z rows))(t:g.ms[o]?=some m):
  ∃g':Gh,g'.w=g.w∧aH g g'∧Inv g' (h.set o .dead)∧g'.ms=g.ms∧g'.V m.b∧(∀b,g'.L b→g.L b):=by
 let g':Gh:=⟨g.w,g.ms,λb=>g.L b∧b≠m.b⟩
 obtain⟨ab,aa,l,H⟩:=hi.live o U Z rows u;rw[t]at l;injection l with l;subst l;have x:aH g g':=⟨⟨rfl,rfl,rfl,aX _,λ_ _ d=>d,λb c=>⟨⟨c.1,λd=>c.2 d.1⟩,rfl⟩⟩,λb c=>⟨⟨c.1,⟨c.2.1,λd=>c.2.2 o m t d.symm⟩,c.2.2⟩,rfl⟩⟩
 have s:∀(a i j:Nat) (r1:List (List D)),(h.set o .dead)[a]?=some (.row i j r1)→a≠o∧h[a]?=some (.row i j r1):=λa i j r1 e=>by
  by_cases v:a=o
  ·subst v;have I:=(aP.1 u).1;rw[iK I]at e;injection e with e;cases e
  ·rw[g7 (λd=>v d.symm)]at e;exact⟨v,e⟩
 refine⟨g',rfl,x,⟨by show g.ms.length=_;simp[hi.len],λa i j r1 e=>?_,λa z i j A T r1 Q k P E n p q r=>?_,λb c=>?_,hi.msb⟩,rfl,⟨hi.g8 H.hL,λd=>d.2 rfl⟩,λb c=>c.1⟩
 ·obtain⟨K,e⟩:=s a _ _ _ e;obtain⟨k,B,y,f⟩:=hi.live a i j r1 e;have G:k.b≠m.b:=λd=>K (hi.inj a o i j U Z r1 rows k m e u y t d)
  exact⟨k,B,y,f.eA,f.fI,f.pos,⟨f.hL,G⟩,f.len,f.le,f.room,f.row,λM R n N C p=>by
   obtain⟨X,q,r,F⟩:=f.cell M R n N C p;exact⟨X,q,r,F.ext x⟩⟩
 ·exact hi.inj a z i j A T r1 Q k P (s a _ _ _ E).2 (s z _ _ _ n).2 p q r
 ·exact hi.L b c.1
end obj
end Go.Pi
namespace Go.Eng
abbrev ic:=@List.flatten_append
abbrev na:=@List.getElem?_eq_none
abbrev pd:=@List.replicate_succ
abbrev sC:=@List.append_assoc
abbrev sH:=@List.ext_getElem?
abbrev sI:=@List.getElem?_append
abbrev sK:=@List.getElem?_toArray
abbrev sM:=@List.mem_flatten
abbrev sN:=@List.mem_or_eq_of_mem_set
abbrev sO:=@List.mem_replicate
end Go.Eng
namespace Go.Pi
open Go.Eng
theorem lY{Z:Nat}:∀(rows:List (List D)) (n:Nat),(∀r∈rows,r.length=Z)→(rows.take n).flatten=rows.flatten.take (n*Z)
 |[],n,_=>by simp
 |r::rows,0,_=>by simp
 | r::rows,n+1,h=>by
  have a:=h r (e8 ..);have c:=lY rows n λr a=>h r (eP _ a)
  have b:(n+1)*Z=Z+n*Z:=by rw[dD];omega
  rw[List.take_succ_cons,gH,gH,c,b,ng,fE (l:=r) (by omega),a];congr 2;omega
theorem nI{Z:Nat}:∀(rows:List (List D)) (n:Nat),(∀r∈rows,r.length=Z)→(rows.drop n).flatten=rows.flatten.drop (n*Z)
 |[],n,_=>by simp
 |r::rows,0,_=>by simp
 | r::rows,n+1,h=>by
  have a:=h r (e8 ..);have c:=nI rows n λr a=>h r (eP _ a)
  have b:(n+1)*Z=Z+n*Z:=by rw[dD];omega
  rw[ly,gH,c,b,m7,List.drop_of_length_le (l:=r) (by omega),a];simp
theorem zI{Z:Nat}{rows:List (List D)}{k off:Nat}{row ds:List D}(c:∀r∈rows,r.length=Z)(b:rows[k]?=some row)(j:off+ds.length≤Z):(rows.set k (cH row off ds)).flatten=cH rows.flatten (k*Z+off) ds:=by
 have f:=(aP.1 b).1;have h:=(aP.1 b).2;have m:row.length=Z:=c row (dB b);have i:rows.flatten=(rows.take k).flatten++row++(rows.drop (k+1)).flatten:=by
  have:rows=rows.take k++row::rows.drop (k+1):=by
   rw[← h];simp
  conv=>lhs;rw[this]
  simp
 have d:(rows.take k).flatten.length=k*Z:=by
  rw[gU _ λr g=>c r (fm g),lA,Nat.min_eq_left (by omega)]
 rw[List.set_eq_take_append_cons_drop,bB f,ic,gH,i];unfold cH;generalize (rows.take k).flatten=a at d;generalize (rows.drop (k+1)).flatten=e;rw[sC a row e,ng,m7,d];rw[fE (l:=a) (by omega),List.drop_of_length_le (l:=a) (by omega)];rw[show k*Z+off - k*Z=off from by omega,show k*Z+off+ds.length - k*Z=off+ds.length from by omega];rw[ng,m7];rw[show off - row.length=0 from by omega,show off+ds.length - row.length=0 from by omega];simp
section wr
variable {P:Program} {T:aM} {g:Gh} {h:Y}
theorem jn{vs:List Value}{rows:List (List D)}{Z:Nat}{cs:Array Value}(c:aI g vs rows.flatten)(e:∀v∈vs,v.oneCell'=true)(l:∀r∈rows,r.length=Z)(k:∀(j:Nat) (v:Value),vs[j]?=some v→cs[j]?=some v):
  ∀(i:Nat) (row:List D),rows[i]?=some row→∀(j:Nat) (d:D),row[j]?=some d→∃v,cs[i*Z+j]?=some v∧v.oneCell'=true∧O g v d:=λi row h j d f=>by
 have b:=pY rows i j row d l h f;have m:=c.length;have n:=(aP.1 b).1;have a:vs[i*Z+j]?=some (vs[i*Z+j]'(by omega)):=bX (by omega);exact⟨_,k _ _ a,e _ (dB a),c.get _ _ d a b⟩
theorem Live.flat{m:Me}{U Z:Nat}{rows:List (List D)}{cs:Array Value}(d:Live g m U Z rows cs):∃vs,aI g vs rows.flatten∧(∀v∈vs,v.oneCell'=true)∧(∀(j:Nat) (v:Value),vs[j]?=some v→cs[j]?=some v):=by
 obtain⟨l,e,_⟩:=d.eA;have f:∀a,g.w.cell? ⟨m.b,a,none⟩=cs[a]?:=λa=>by simp only[World.cell?,e];simp
 obtain⟨vs,c⟩:=At.rows (g:=g) (b:=m.b) rows 0 d.row (λa row i=>by
  obtain⟨vs,h⟩:=d.at i;exact⟨vs,by rwa [dP]⟩)
 exact⟨vs,c.2.2,c.2.1,λj v k=>by
  have:=c.1 j v k
  rwa [dP,f]at this⟩
theorem oF(hi:Inv g h){w':World}{o U Z:Nat}{rows rows':List (List D)}{m:Me}{cs:Array Value}{fr:Nat × Nat}(C:h[o]?=some (.row U Z rows))(B:g.ms[o]?=some m)(d:Live g m U Z rows cs)(z:Fr fr cs.size Z)
  {p:Nat} {vs:List Value} {ds:List D} (q:aI g vs ds) (i:∀v∈vs,v.oneCell'=true) (P:p+ds.length≤rows.flatten.length) (y:rows'.flatten=cH rows.flatten p ds) (A:rows'.length=rows.length) (s:∀r∈rows',r.length=Z)
  (E:gM g.w w' m.b (.cells (cs.toList.take p++vs++cs.toList.drop (p+vs.length)).toArray U fr)) :
  ∃g':Gh,g'.w=w'∧aH g g'∧Inv g' (h.set o (.row U Z rows'))∧g'.ms=g.ms:=by
 obtain⟨G,k,l,n⟩:=d.flat;have N:=k.length;have Q:=q.length;have M:rows.flatten.length≤cs.size:=by
  have i:=gU rows d.row;have H:=d.room;have I:=d.len;have K:=d.le;have L:rows.length*Z≤m.cap*Z:=gj _ (by omega);omega
 have t:(cs.toList.take p++vs++cs.toList.drop (p+vs.length)).toArray.size=cs.size:=by
  simp;omega
 refine wm hi C B d E (by rw[t];exact z) t A s ?_;have j:=wu k q p;rw[← y]at j;refine jn j (λv c=>?_) s λF v a=>?_
 ·simp only[fk]at c;rcases c with(c|c)|c
  ·exact l v (fm c)
  ·exact i v c
  ·exact l v (hF c)
 ·simp only[sC]at a ⊢;rw[sI]at a;rw[sK,sI];have u:(G.take p).length=p:=by simp;omega
  have x:(cs.toList.take p).length=p:=by simp;omega
  rw[u]at a;rw[x];split at a
  ·rename_i e;rw[bB e];rw[dX,bB e]at a ⊢;have:=n F v a;simpa using this
  ·rename_i e;rw[bO e];rw[sI]at a ⊢;split at a
   ·rename_i f;rw[bB f];exact a
   ·rename_i f;rw[bO f];rw[hC]at a ⊢;have:=n _ v a;simpa using this
def h8(P:Program)(ρ:Operand→Value)(o:Oper)(g:Gh)(h':Y)(d:D):Prop:=∃b e a,(execOp ρ o).run P g.w = .ok b e∧a.w=e∧aH g a∧Inv a h'∧((∃c,b = .value c∧O a c d)∨(b = .skip∧d = .bF))
variable {ρ:Operand→Value} {dst:Option Tmp} {ty:TypeId} {pos:String} {af:Array Edge} {gd:Option (Nat × Bool)}
theorem yu (H:aZ P T) (hi:Inv g h) {t:TypeId} {x y:Operand} {p f:D} {h':Y} (B:O g (ρ x) p) (ae:O g (ρ y) f) (a:bU T h t p f=some h'):h8 P ρ ⟨dst,.store t x y,ty,pos,af,gd⟩ g h' .bF:=by
 unfold bU at a;split at a
 ·rename_i i E k off aa;split at a
  ·rename_i n d e u;split at a
   ·rename_i ah m;split at a
    ·rename_i q;injection a with a;subst a;simp only[cY]at q;obtain⟨⟨e4,eN⟩,gp⟩:=q;have e4:=e9 e4;have eN:=cC eN;obtain⟨F,ac,A,z⟩:=ae.cells gp;have ar:=A.length;generalize ab:ρ x=av at B;cases B with
     | ptr E k off C s =>
      obtain⟨au,o,j,c⟩:=hi.live E n d e u;rw[s]at j;injection j with j;subst j;obtain⟨fr,I,r⟩:=c.eA;have ap:=c.row ah (dB m);have M:=zI c.row m (off:=off) (ds:=bD f) (by omega);have an:=(aP.1 m).1;have L:=gU e c.row;have U:k*d+off+(bD f).length≤e.flatten.length:=by
       rw[L];have:(k+1)*d≤e.length*d:=gj _ (by omega);rw[dD]at this;omega
      have aq:e.flatten.length≤o.size:=by
       have aj:=c.room;have ak:=c.len;have al:=c.le;have am:e.length*d≤C.cap*d:=gj _ (by omega);omega
      obtain⟨ai,X,v⟩:=kf (P:=P) (i:=k*d+off) F g.w o.toList 0 (T:=n) (fr:=fr) (b:=C.b) (by simpa using I) (by simpa using r.mS) (by simp;omega) z;simp only[jP]at v;obtain⟨G,ad,K,N,ao⟩:=oF hi u s c r A z U M (by simp) (λag l=>by
       rcases sN l with l|rfl
       ·exact c.row ag l
       ·simp[cH];omega) v
      refine⟨.skip,ai,G,?_,ad,K,N,.inr ⟨rfl,rfl⟩⟩;have Q:F.length=i.Z:=by omega
      have R:=c.fI;subst R;simp[execOp,Instr.storeAt,Instr.sureAddr,storeVar,ab,ac,H.size aa,Q,X]
    ·cases a
   ·cases a
  ·cases a
 ·cases a
theorem x6(d:aZ P T)(hi:Inv g h){a:TypeId}{i:TI}(f:T a=some i)(o:0<i.Z):h8 P ρ ⟨dst,.alloc a,ty,pos,af,gd⟩ g (aF h a i.Z [i.zero]) (.ptr h.length 0 0):=by
 obtain⟨b,q,r,s,k⟩:=d.jH f;have e:=kb g b.cells.toList;rw[← r]at e;have j:=d.wM f;obtain⟨c,p,l,m,n⟩:=k0 hi (w':=g.w.alloc (.cells b.cells a)) (U:=a) (Z:=i.Z) (cap:=1) (rows:=[i.zero]) (cs:=b.cells) (fr:=(0,0)) rfl rfl rfl rfl (.inl rfl) o (by simp) (by omega) (by simpa using j)
  (jn (vs:=b.cells.toList) (by simpa using e) k (by simpa using j) (by simp))
 refine⟨_,_,c,by simp only[execOp,Instr.alloc,dU,q g.w,dY,newVar,newRow,lf,fp];rfl,p,l,m,.inl ⟨_,rfl,?_⟩⟩;have:=O.ptr (g:=c) h.length 0 0 _ n;simpa using this
theorem x9(q:aZ P T)(hi:Inv g h){b:TypeId}{x:Operand}{a:D}{Z:Nat}(p:O g (ρ x) a)(k:a.ey=true)(d:(bD a).length=Z)(m:0<Z):h8 P ρ ⟨dst,.box b x,ty,pos,af,gd⟩ g (aF h b Z [bD a]) (.ptr h.length 0 0):=by
 obtain⟨vs,n,e,f⟩:=p.cells k;have r:=e.length;obtain⟨c,o,i,j,l⟩:=k0 hi (w':=g.w.alloc (.cells vs.toArray b)) (U:=b) (Z:=Z) (cap:=1) (rows:=[bD a]) (cs:=vs.toArray) (fr:=(0,0)) rfl rfl rfl rfl (.inl rfl) m (by simp) (by simp;omega) (by simpa using d)
  (jn (vs:=vs) (by simpa using e) f (by simpa using d) (by simp))
 refine⟨_,_,c,by simp only[execOp,Instr.box,dU,newVar,newRow,lf,dY,fp,n];rfl,o,i,j,.inl ⟨_,rfl,?_⟩⟩;have:=O.ptr (g:=c) h.length 0 0 _ l;simpa using this
theorem yl(f:aZ P T)(hi:Inv g h){t n:Nat}{ps:Array (Nat × Operand)}{ds:List D}{E Z:Nat}{rows:List (List D)}(o:aI g (ps.toList.map λx=>ρ x.2) ds)(i:iS T t n (ps.toList.map (·.1)) ds=some (E,Z,rows)):
  h8 P ρ ⟨dst,.buildSlice t n ps,ty,pos,af,gd⟩ g (aF h E Z rows) (.aC Z h.length 0 rows.length):=by
 obtain⟨vs,p,d,e,m,a,c,u⟩:=wa (dst:=dst) (ty:=ty) (pos:=pos) (af:=af) (gd:=gd) f o i;have v:=d.length;have r:=gU rows a;obtain⟨b,q,j,k,l⟩:=k0 hi (w':=g.w.alloc (.cells vs.toArray E)) (U:=E) (Z:=Z) (cap:=rows.length) (rows:=rows) (cs:=vs.toArray) (fr:=(0,0)) rfl rfl rfl rfl (.inl rfl) c (aX _) (by simp;omega) a
  (jn (vs:=vs) d e a (by simp))
 have s:n≤n*Z:=Nat.le_mul_of_pos_right n c;refine⟨_,_,b,p,q,j,k,.inl ⟨_,rfl,?_⟩⟩;have:=O.aC (g:=b) h.length 0 rows.length rows.length _ l (by simp) (by simp) (by simp) (by omega);rw[m]at this ⊢;simpa using this
theorem vV{z:List Value}{Z:Nat}(f:z.length=Z)(n:Nat):((Array.range (n*Z)).map (z.toArray[· % z.toArray.size]!)).toList=(List.replicate n z).flatten:=by
 apply sH;intro a;rcases ez a (n*Z)with d|d
 ·have m:0<Z:=by
    rcases nh Z with h|h
    ·subst h;simp at d
    ·exact h
  have k:a % Z<Z:=Nat.mod_lt _ m;have g:a / Z<n:=Nat.div_lt_of_lt_mul (by rw[Nat.mul_comm];exact d);have l:a=a / Z*Z+a % Z:=by rw[Nat.mul_comm];exact(Nat.div_add_mod a Z).symm
  have p:∀(n b c:Nat),b<n→c<Z→((List.replicate n z).flatten)[b*Z+c]?=z[c]?:=by
   intro n
   induction n with
   |zero=>intro b c j;omega
   | succ n o =>
    intro b c j i;rw[pd,gH];cases b with
    |zero=>rw[jQ,dP,cU (by omega)]
    | succ b =>
     rw[fW (by rw[dD];omega),← o b c (by omega) i];congr 1;rw[dD];omega
  have e:=p n (a / Z) (a % Z) g k;rw[← l]at e;rw[e];simp[d,f,bX (show a % Z<z.length by omega)]
 ·rw[na (by simp;omega),na];simp[f];omega
theorem wK{z:List Value}{Z:Nat}(a:z.length=Z)(n:Nat):(Builtin.zeroCells z.toArray n).toList=(List.replicate n z).flatten:=by
 rw[← vV a n];simp[Builtin.zeroCells,a]
theorem mG{z:List Value}{ds:List D}(a:aI g z ds):∀n,aI g (List.replicate n z).flatten (List.replicate n ds).flatten
 |0=>by simpa using aI.nil
 | n+1=>by
  rw[pd,pd,gH,gH];exact a.append (mG a n)
theorem ym (s:aZ P T) (hi:Inv g h) {t:TypeId} {x y:Operand} {p q d:D} {h':Y} (z:O g (ρ x) p) (A:O g (ρ y) q) (f:lR T h t p q=some (d,h')):h8 P ρ ⟨dst,.makeSlice t x y,ty,pos,af,gd⟩ g h' d:=by
 unfold lR at f;split at f
 ·rename_i au e b ad;have ah:ρ x = .int .i64 e:=by generalize i:ρ x=l at z;cases z;rfl
  have ai:ρ y = .int .i64 b:=by generalize i:ρ y=l at A;cases A;rfl
  split at f
  ·rename_i m ae;split at f
   ·rename_i o j;split at f
    ·rename_i I;obtain⟨G,ac,n,u⟩:=I;injection f with f;injection f with L M;subst L;subst M;simp only[bH,cY]at n;have X:=cC n.1;have ao:=cC n.2;obtain⟨c,ax,a,aj,aw,ak,rfl,al,am,_⟩:=s.get j;obtain⟨B⟩:∃B,B=a.cells.toList:=⟨_,rfl⟩
     have v:=kb g a.cells.toList;have k:a.cells.toList.length=c.size:=by simpa using al
     have aq:IntKind.i64.wrap e=e:=mT (by omega) (by omega);have ar:IntKind.i64.wrap b=b:=mT (by omega) (by omega);have K:=vV k b.toNat;simp only at u X;have ap:=mG v b.toNat;have aa:((Array.range (b.toNat*c.size)).map (a.cells[· % a.cells.size]!)).size=b.toNat*c.size:=by simp
     have an:(List.replicate e.toNat (a.cells.toList.map hY)).flatten.length=e.toNat*c.size:=by simp[k]
     obtain⟨r,ag,N,Q,ab⟩:=k0 hi (w':=g.w.alloc (.cells ((Array.range (b.toNat*c.size)).map (a.cells[· % a.cells.size]!)) m)) (U:=m) (Z:=c.size) (cap:=b.toNat) (rows:=List.replicate e.toNat (a.cells.toList.map hY)) (cs:=(Array.range (b.toNat*c.size)).map (a.cells[· % a.cells.size]!)) (fr:=(0,0)) rfl rfl rfl rfl (.inl rfl) u (by simp;omega) (by rw[aa];exact aX _) (by simp[k])
      (jn (vs:=(List.replicate e.toNat a.cells.toList).flatten) (mG v e.toNat) (λl i=>by
       obtain⟨av,R,i⟩:=sM.1 i;have:=(sO.1 R).2;subst this;exact am l i) (by simp[k]) (λo l j=>by
       have C:((Array.range (b.toNat*c.size)).map (a.cells[· % a.cells.size]!))[o]?=(((Array.range (b.toNat*c.size)).map (a.cells[· % a.cells.size]!)).toList)[o]?:=(Array.getElem?_toList ..).symm;rw[C];have E:((Array.range (b.toNat*c.size)).map (a.cells[· % a.cells.size]!)).toList=(List.replicate b.toNat a.cells.toList).flatten:=by
        have:=K;simpa using this
       rw[E];have F:List.replicate b.toNat a.cells.toList=List.replicate e.toNat a.cells.toList++List.replicate (b.toNat - e.toNat) a.cells.toList:=by
        rw[List.replicate_append_replicate];congr 1;omega
       rw[F,ic,cU (aP.1 j).1];exact j))
     refine⟨.value (.slice (some ⟨g.w.heap.size,0,none⟩) e.toNat b.toNat),_,r,?_,ag,N,Q,.inl ⟨_,rfl,?_⟩⟩
     ·have H:(c.bytes:Int)*b≤281474976710656:=by
        have:(c.bytes:Int)*b=((b.toNat*c.bytes:Nat):Int):=by
         rw[Nat.mul_comm]
         push_cast
         congr 1;omega
        rw[this];omega
      have:=run_make (P:=P) g.w t m c a (s.sl ad ae) aj ak .i64 .i64 e b G ac H (by omega);simp only[execOp,ah,ai,dU,this,dY,fp];rfl
     ·have:=O.aC (g:=r) h.length 0 e.toNat b.toNat _ ab (by simp) (by simp;omega) (by simp) (by omega);simpa using this
    ·cases f
   ·cases f
  ·cases f
 ·cases f
end wr
end Go.Pi
namespace Go.Eng
abbrev rO:=@Array.append_assoc
abbrev v8:=@run_firstCells_some
end Go.Eng
namespace Go.Pi
open Go.Eng
section ap
variable {P:Program} {T:aM} {g:Gh} {h:Y}
structure nr (P:Program) (u e Z:Nat) (y:Value) (w:World) (m:Nat) (news:List Value):Prop where
 len:news.length=m*Z
 nz:∃d,P.underlying u=some d∧((d = .string∨(∃e',d = .slice e'))∧(∀w1,(Builtin.lenOf y).run P w1 = .ok m w1)∧(∀(k:Nat) (w1:World),k≤m→w1.heap=w.heap→(Builtin.firstCells Z k y).run P w1 = .ok (news.take (k*Z)).toArray w1)
  ∨ (∃k,d = .int k)∧y = .int .i64 (m:Int)∧(∃inf z,P.info? e=some inf∧inf.zero=some z∧m*inf.bytes≤281474976710656∧(m:Int)≤9223372036854775807∧(m*Z≠0→Builtin.zeroCells z.cells m=news.toArray)))
theorem q7{r e Z m n cap:Nat}{t ty:TypeId}{y:Value}{w:World}{l:List Value}{ad:Addr}{a:TypeInfo}(i:P.underlying t=some (.slice e))(hi:P.info? e=some a)(x:a.size=Z)(g:nr P r e Z y w m l)(h:n+m≤cap):
  (Builtin.append_ #[t,r] ty #[.slice (some ad) n cap,y]).run P w=((storeCells (ad.add (n*Z)) l).run P w).andThen λ_ w' =>.ok (.slice (some ad) (n+m) cap) w':=by
 subst x;obtain⟨A,j,u⟩:=g.nz;rcases u with⟨f,s,c⟩|⟨⟨G,f⟩,rfl,F,H,d,z,D,C,k⟩
 ·have c:=c _ w (aX _) rfl;rw[fE (by rw[g.len];exact aX _)]at c;rcases f with rfl|⟨B,rfl⟩<;>simp[Builtin.append_,bI i,bI j,sizeOf,typeInfo,hi,s,h,c]
 ·subst f;rw[hi]at d;injection d with d;subst d;have q:IntKind.i64.wrap (m:Int)=m:=mT (by omega) (by omega);have E:¬((m:Int)*(a.bytes:Int)>2 ^ 48):=by
   have:(m:Int)*(a.bytes:Int)=((m*a.bytes:Nat):Int):=by push_cast;rfl
   rw[this];omega
  have o:¬(281474976710656<(m:Int)*(a.bytes:Int)):=by omega
  have p:¬((m:Int)<0):=by omega
  by_cases b:m*a.size=0
  ·have v:l=[]:=fC (by rw[g.len];exact b);subst v;simp[Builtin.append_,bI i,bI j,sizeOf,typeInfo,hi,asInt,asIntOf,q,p,o,h,b,storeCells]
  ·have k:=k b;simp[Builtin.append_,bI i,bI j,sizeOf,typeInfo,hi,asInt,asIntOf,q,p,o,h,b,zeroValue,z,k]
theorem q6{E b Z m n cap:Nat}{t ty:TypeId}{y:Value}{w:World}{olds v:List Value}{a:Option Addr}{d:TypeInfo}{z:Value}(r:P.underlying t=some (.slice b))(hi:P.info? b=some d)(h:d.zero=some z)(N:d.size=Z)(o:nr P E b Z y w m v)(M:cap<n+m)
  (K:∀x:World,x.heap=w.heap→(Builtin.firstCells Z n (.slice a n cap)).run P x = .ok olds.toArray x) (T:n+m≤9223372036854775807) (G:(n+m)*d.bytes≤140737488355328) :
  ∃c,n+m≤c∧c≤9223372036854775807∧(Builtin.append_ #[t,E] ty #[.slice a n cap,y]).run P w = .ok (.slice (some ⟨w.heap.size,0,none⟩) (n+m) c) (w.drew.alloc (.cells (olds.toArray++v.toArray++Builtin.zeroCells z.cells (c - (n+m))) b)):=by
 subst N;obtain⟨Q,s,H⟩:=o.nz;have ab:=growslice_fits M G;have l:¬(281474976710656<Builtin.nextslicecap (n+m) cap*d.bytes):=by omega
 have j:¬(9223372036854775807<((n:Int)+(m:Int))):=by omega
 have q:¬(n+m≤cap):=by omega
 have B:n+m≤grownCap w (n+m) cap b∧grownCap w (n+m) cap b≤9223372036854775807:=by
  show n+m≤(n+m)+w.tape w.drawn (.appendCap (n+m) cap b) % (2 ^ 63 - (n+m))∧(n+m)+w.tape w.drawn (.appendCap (n+m) cap b) % (2 ^ 63 - (n+m))≤9223372036854775807;have L:0<2 ^ 63 - (n+m):=by omega
  have:=Nat.mod_lt (w.tape w.drawn (.appendCap (n+m) cap b)) L;generalize w.tape w.drawn (.appendCap (n+m) cap b) % (2 ^ 63 - (n+m))=ae at this;omega
 refine⟨grownCap w (n+m) cap b,B.1,B.2,?_⟩;have p:=K w.drew rfl;rcases H with⟨k,F,f⟩|⟨⟨ad,k⟩,rfl,ac,af,g,i,aa,X,u⟩
 ·have f:=f _ w.drew (aX _) rfl;rw[fE (by rw[o.len];exact aX _)]at f;rcases k with rfl|⟨R,rfl⟩<;>simp[Builtin.append_,bI r,bI s,sizeOf,typeInfo,zeroValue,hi,h,F,q,j,l,Question.forced,p,f,newRow,grownCap]<;>(rw[← rO];simp)
 ·subst k;rw[hi]at g;injection g with g;subst g;rw[h]at i;injection i with i;subst i;have D:IntKind.i64.wrap (m:Int)=m:=mT (by omega) (by omega);have A:¬(281474976710656<(m:Int)*(d.bytes:Int)):=by
   have:(m:Int)*(d.bytes:Int)=((m*d.bytes:Nat):Int):=by push_cast;rfl
   rw[this];omega
  have C:¬((m:Int)<0):=by omega
  by_cases e:m*d.size=0
  ·have I:v=[]:=fC (by rw[o.len];exact e);subst I;simp[Builtin.append_,bI r,bI s,sizeOf,typeInfo,zeroValue,hi,h,asInt,asIntOf,D,C,A,q,j,l,Question.forced,p,e,newRow,grownCap]
  ·have u:=u e;simp[Builtin.append_,bI r,bI s,sizeOf,typeInfo,zeroValue,hi,h,asInt,asIntOf,D,C,A,q,j,l,Question.forced,p,e,u,newRow,grownCap];rw[← rO];simp
theorem CT{m d Z n cap:Nat}{t ty:TypeId}{y:Value}{w:World}{h:List Value}{a:Option Addr}{l:TypeInfo}(g:P.underlying t=some (.slice d))(hi:P.info? d=some l)(i:l.size=Z)(b:nr P m d Z y w 0 h)(f:n≤cap):
  (Builtin.append_ #[t,m] ty #[.slice a n cap,y]).run P w = .ok (.slice a n cap) w:=by
 cases a with
 | some s =>
  rw[q7 g hi i b f];have:h=[]:=fC (by rw[b.len];simp);subst this;simp[storeCells]
 | none =>
  subst i;have q:h=[]:=fC (by rw[b.len];simp);subst q;obtain⟨u,j,p⟩:=b.nz;rcases p with⟨e,o,c⟩|⟨⟨E,e⟩,rfl,D,F,A,B,z,x,C⟩
  ·have c:=c _ w (aX _) rfl;rw[fE (by rw[b.len];exact aX _)]at c;rcases e with rfl|⟨v,rfl⟩<;>simp[Builtin.append_,bI g,bI j,sizeOf,typeInfo,hi,o,f,c]
  ·subst e;have k:IntKind.i64.wrap (((0:Nat):Int))=0:=mT (by omega) (by omega);simp only[Int.natCast_zero]at k;have r:IntKind.i64.wrap 0=0:=by simpa using k
   simp[Builtin.append_,bI g,bI j,sizeOf,typeInfo,hi,asInt,asIntOf,r,f]
theorem tn(s:List UInt8):aI g (s.map λb=>Value.int .u8 b.toNat) (hK s).flatten:=by
 unfold hK
 induction s with
 |nil=>simpa using aI.nil
 |cons a d c=>simpa using aI.cons (.int .u8 a.toNat) c
theorem rm (p:aZ P T) (hi:Inv g h) {X I:Nat} {R j:TI} (A:T X=some R) (af:T I=some j) {y:Value} {H:D} (B:O g y H) {ys:List (List D)} (a:iw h R j H=some ys) (N:0<j.Z) :
  ∃c,nr P X I j.Z y g.w ys.length c∧aI g c ys.flatten∧(∀v∈c,v.oneCell'=true)∧(∀r∈ys,r.length=j.Z):=by
 unfold iw at a;split at a
 ·rename_i k;split at a
  ·rename_i n aq;split at a
   ·rename_i z;injection a with a;subst a;have C:y = .string ⟨n.toArray⟩:=by cases B;rfl
    subst C;refine⟨n.map λd=>Value.int .u8 d.toNat,⟨by simp[hK,z],.string,p.str A k,.inl ⟨.inl rfl,λo=>by simp[Builtin.lenOf,hK,ka],λb o M _=>?_⟩⟩,tn n,λv l=>?_,λr i=>?_⟩
    ·simp only[Builtin.firstCells];have:(ByteArray.mk n.toArray).extract 0 b=ByteArray.mk (n.take b).toArray:=by
      apply oU;simp
     simp[this,z,List.map_take]
    ·obtain⟨d,_,rfl⟩:=eE.1 l;rfl
    ·obtain⟨d,_,rfl⟩:=eE.1 i;simp[z]
   ·cases a
  ·cases a
 ·rename_i K k;obtain⟨aa,ac,c,rfl,aj,x,ai,ad,L⟩:=q5 hi B a N;refine⟨c,⟨x,.slice K,p.sl A k,.inl ⟨.inr ⟨K,rfl⟩,λo=>by simp[Builtin.lenOf],λb o M ak=>?_⟩⟩,ai,ad,aj⟩;cases aa with
  | none =>
   have u:ys=[]:=by
    rcases ys with _|⟨aw,ax⟩
    ·rfl
    ·obtain⟨d,F,e,_⟩:=L (by simp);cases e
   subst u;have:c=[]:=fC (by simpa using x);subst this;simp[Builtin.firstCells]
  | some ab =>
   refine v8 o j.Z b ab _ ac (c.take (b*j.Z)) (by
    have:b*j.Z≤ys.length*j.Z:=gj _ M;simp;omega) λG v f=>?_
   rw[dX]at f;split at f
   case isFalse=>cases f
   have u:ys≠[]:=λe=>by
    subst e;have:c=[]:=fC (by simpa using x);subst this;cases f
   obtain⟨d,F,e,ae⟩:=L u;injection e with e;rw[e,fU];have:=ae.1 G v f;have s:o.cell? ⟨d,F+G,none⟩=g.w.cell? ⟨d,F+G,none⟩:=s6 (by rw[ak]);rw[s];exact this
 ·rename_i b k;split at a
  ·rename_i m;split at a
   ·rename_i s;obtain⟨ap,t⟩:=s;injection a with a;subst a;simp only[bH,cY]at t;have ah:=cC t.1;have ar:=cC t.2;obtain⟨Q,ay,q,al,av,am,rfl,an,ao,_⟩:=p.get af;simp only at N ah;have E:q.cells.toList.length=Q.size:=by simpa using an
    have i:=kb g q.cells.toList;have C:y = .int .i64 ((m.toNat:Nat):Int):=by
     have:((m.toNat:Nat):Int)=m:=by omega
     rw[this];cases B;rfl
    refine⟨(List.replicate m.toNat q.cells.toList).flatten,⟨by simp[E],.int b,p.int A k,.inr ⟨⟨b,rfl⟩,by simpa using C,Q,q,al,am,by simp;omega,by simp;omega,λ_=>?_⟩⟩,mG i _,λv l=>?_,λr i=>?_⟩
    ·have:=wK E m.toNat;simp only[List.length_replicate];rw[← this]
    ·obtain⟨au,ag,l⟩:=sM.1 l;have:=(sO.1 ag).2;subst this;exact ao v l
    ·have:=(sO.1 i).2;subst this;simpa using E
   ·cases a
  ·cases a
 ·cases a
end ap
end Go.Pi
namespace Go.Eng
abbrev oT:=@Array.getElem?_append_left
abbrev pe:=@List.size_toArray
end Go.Eng
namespace Go.Pi
open Go.Eng
section ap
variable {P:Program} {T:aM} {g:Gh} {h:Y}
theorem z6(hi:Inv g h){w':World}{o U Z:Nat}{rows rows':List (List D)}{m:Me}{cs F:Array Value}{fr:Nat × Nat}(N:h[o]?=some (.row U Z rows))(u:g.ms[o]?=some m)(I:Live g m U Z rows cs)
  (f:gM g.w w' m.b (.cells F U fr)) (aq:Fr fr F.size Z) (ax:F.size=cs.size) (ar:rows'.length≤m.cap) (aw:∀r∈rows',r.length=Z)
  (ap:∀(i:Nat) (row:List D),rows'[i]?=some row→∀(j:Nat) (d:D),row[j]?=some d→∃v,F[i*Z+j]?=some v∧v.oneCell'=true∧O g v d) :
  ∃g':Gh,g'.w=w'∧aH g g'∧Inv g' (aF (h.set o .dead) U Z rows')∧g'.ms[h.length]?=some ⟨m.b,Z,rows'.length,m.cap⟩:=by
 let g':Gh:=⟨w',g.ms++[⟨m.b,Z,rows'.length,m.cap⟩],g.L⟩
 have G:aH g g':=⟨⟨f.os,f.tape,f.output,by show g.w.heap.size≤w'.heap.size;rw[f.size];exact aX _,(λa m u=>by
   show(g.ms++_)[a]?=some m;rw[cU (aP.1 u).1];exact u),λs k=>by
  have au:s≠m.b:=λz=>k.2 (z▸I.hL)
  exact⟨⟨by show s<w'.heap.size;rw[f.size];exact k.1,k.2⟩,f.other s au⟩⟩,λs k=>⟨⟨by show s<w'.heap.size;rw[f.size];exact k.1,k.2.1,λa c C=>by
   have x:(g.ms++[(⟨m.b,Z,rows'.length,m.cap⟩:Me)])[a]?=some c:=C;rcases ez a g.ms.length with e|R
   ·rw[cU e]at x;exact k.2.2 a c x
   ·rw[fW R]at x;have:=dB x;simp at this;subst this;exact k.2.2 o m u⟩,f.other s λz=>k.2.2 o m u z.symm⟩⟩
 have av:=(aP.1 N).1;have T:(h.set o .dead).length=h.length:=by simp
 have K:g'.ms[h.length]?=some ⟨m.b,Z,rows'.length,m.cap⟩:=by
  show(g.ms++_)[h.length]?=_;rw[← hi.len];simp
 have H:∀(a l q:Nat) (r1:List (List D)),(aF (h.set o .dead) U Z rows')[a]?=some (.row l q r1)→(a=h.length∧l=U∧q=Z∧r1=rows')∨(a<h.length∧a≠o∧h[a]?=some (.row l q r1)):=λa l q r1 b=>by
  unfold aF at b;rcases hI a h.length with e|heq|a1
  ·rw[cU (by rw[T];exact e)]at b;by_cases A:a=o
   ·subst A;rw[iK av]at b;injection b with b;cases b
   ·rw[g7 (λz=>A z.symm)]at b;exact .inr ⟨e,A,b⟩
  ·subst heq;rw[fW (by rw[T];exact aX _),T]at b;simp at b;obtain⟨rfl,rfl,rfl⟩:=b;exact .inl ⟨rfl,rfl,rfl,rfl⟩
  ·exfalso;have:=(aP.1 b).1;simp at this;omega
 have M:∀a c,g'.ms[a]?=some c→a<h.length→g.ms[a]?=some c:=λa c C e=>by
  have:(g.ms++[(⟨m.b,Z,rows'.length,m.cap⟩:Me)])[a]?=some c:=C
  rwa [cU (by rw[hi.len];exact e)]at this
 refine⟨g',rfl,G,⟨?_,λa l q r1 b=>?_,λa E l q ac ah r1 ag c P an B n p y=>?_,λs k=>?_,λa ab b=>?_⟩,K⟩
 ·show(g.ms++[_]).length=(h.set o .dead++[_]).length;simp[hi.len]
 ·rcases H a _ _ _ b with⟨rfl,rfl,rfl,rfl⟩|⟨e,A,b⟩
  ·refine⟨_,F,K,⟨fr,f.eA,aq⟩,rfl,I.pos,I.hL,rfl,ar,by rw[ax];exact I.room,aw,λi row B j d n=>?_⟩;obtain⟨v,p,y,Q⟩:=ap i row B j d n;exact⟨v,p,y,Q.ext G⟩
  ·obtain⟨c,ai,C,t⟩:=hi.live a l q r1 b;have ao:c.b≠m.b:=λz=>A (hi.inj a o l q U Z r1 rows c m b N C u z)
   refine⟨c,ai,G.ms _ _ C,?_,t.fI,t.pos,t.hL,t.len,t.le,t.room,t.row,λi row B j d n=>?_⟩
   ·have:=f.other c.b ao;show ∃fr,w'.heap[c.b]?=_∧_;rw[this];exact t.eA
   ·obtain⟨v,p,y,Q⟩:=t.cell i row B j d n;exact⟨v,p,y,Q.ext G⟩
 ·rcases H a _ _ _ an with⟨aj,ay,az,a0⟩|⟨e,A,af⟩
  ·rcases H E _ _ _ B with⟨ad,ak,al,am⟩|⟨X,ae,aa⟩
   ·omega
   ·exfalso;rw[aj,K]at n;injection n with n;subst n;exact ae (hi.inj E o ac ah U Z ag rows P m aa N (M E P p X) u y.symm)
  ·rcases H E _ _ _ B with⟨ad,ak,al,am⟩|⟨X,ae,aa⟩
   ·exfalso;rw[ad,K]at p;injection p with p;subst p;exact A (hi.inj a o l q U Z r1 rows c m af N (M a c n e) u y)
   ·exact hi.inj a E l q ac ah r1 ag c P af aa (M a c n e) (M E P p X) y
 ·show s<w'.heap.size;rw[f.size];exact hi.L s k
 ·show ab.b<w'.heap.size;rw[f.size];have x:(g.ms++[(⟨m.b,Z,rows'.length,m.cap⟩:Me)])[a]?=some ab:=b;rcases ez a g.ms.length with e|R
  ·rw[cU e]at x;exact hi.msb a ab x
  ·rw[fW R]at x;have:=dB x;simp at this;subst this;exact hi.msb o m u
theorem nJ{rows ys:List (List D)}{Z:Nat}(b:∀r∈rows,r.length=Z)(h2:∀r∈ys,r.length=Z):∀r∈rows++ys,r.length=Z:=λr a=>by
 rcases fk.1 a with a|a
 ·exact b r a
 ·exact h2 r a
theorem qb(o:aZ P T)(hi:Inv g h){a:Nat}{j:TI}(d:T a=some j){b:TypeInfo}{z:Value}(t:P.info? a=some b)(B:b.zero=some z)(k:0<j.Z){rows:List (List D)}{vs:List Value}(l:aI g vs rows.flatten)(n:∀v∈vs,v.oneCell'=true)(e:∀r∈rows,r.length=j.Z)
  {c:Nat} (p:rows.length≤c) (eN:c≤9223372036854775807):∃g':Gh,g'.w=g.w.drew.alloc (.cells (vs.toArray++Builtin.zeroCells z.cells (c - rows.length)) a)∧aH g g'∧Inv g' (aF h a j.Z rows)∧O g' (.slice (some ⟨g.w.heap.size,0,none⟩) rows.length c) (.aC j.Z h.length 0 rows.length):=by
 obtain⟨G,K,L,f,H,i,rfl,m,I,_⟩:=o.get d;rw[t]at f;injection f with f;subst f;rw[B]at i;injection i with i;subst i;have F:z.cells.toList.length=b.size:=by simpa using m
 simp only at k e;have y:=l.length;have s:=gU rows e;have C:(Builtin.zeroCells z.cells (c - rows.length)).size=(c - rows.length)*b.size:=by simp[Builtin.zeroCells,m]
 have E:(vs.toArray++Builtin.zeroCells z.cells (c - rows.length)).size=c*b.size:=by
  rw[Array.size_append,C];simp only[pe];rw[y,s,← dD];congr 1;omega
 obtain⟨g',A,q,u,x⟩:=k0 hi (w':=g.w.drew.alloc (.cells (vs.toArray++Builtin.zeroCells z.cells (c - rows.length)) a)) (U:=a) (Z:=b.size) (cap:=c) (rows:=rows) (cs:=vs.toArray++Builtin.zeroCells z.cells (c - rows.length)) (fr:=(0,0)) rfl rfl rfl rfl (.inl rfl) k p (by omega) e
  (jn l n e (λj v d=>by
   rw[oT (by simpa using(aP.1 d).1)];simpa using d))
 refine⟨g',A,q,u,?_⟩;have:=O.aC (g:=g') h.length 0 rows.length c _ x (by simp) (by simp;omega) (by simp) eN;simpa using this
variable {ρ:Operand→Value} {dst:Option Tmp} {ty:TypeId} {pos:String} {af:Array Edge} {gd:Option (Nat × Bool)}
theorem xr (N:aZ P T) (hi:Inv g h) {t bb:Nat} {x bc:Value} {be bf d:D} {h':Y} (A:O g x be) (bt:O g bc bf) (e:dM T h t bb be bf=some (d,h')) :
  ∃v w' g',(Builtin.append_ #[t,bb] ty #[x,bc]).run P g.w = .ok v w'∧g'.w=w'∧aH g g'∧Inv g' h'∧O g' v d:=by
 unfold dM at e;split at e
 ·rename_i i cr cd bq;split at e
  ·rename_i ch ce;have ai:=N.sl cd ce;split at e
   ·rename_i j ac;obtain⟨bu,cz,z,E,ct,ak,bk,cu,cw,_⟩:=N.get ac;have ah:bu.size=j.Z:=by rw[bk]
    have a3:bu.bytes=j.ft:=by rw[bk]
    split at e
    ·rename_i a2 a8;have U:0<j.Z:=cC a2;obtain⟨aa,L,_⟩:=rm N hi bq ac bt a8 U;have bd:∀(a:Option Addr) (n cap:Nat),x = .slice a n cap→n≤cap→(Builtin.append_ #[t,bb] ty #[x,bc]).run P g.w = .ok x g.w:=λa n cap f aw=>by
      subst f;exact CT ai E ah L aw
     split at e
     ·injection e with e;injection e with o q;subst o;subst q;have f:x = .slice none 0 0:=by cases A;rfl
      exact⟨x,g.w,g,bd none 0 0 f (aX _),rfl,aH.refl g,hi,A⟩
     ·injection e with e;injection e with o q;subst o;subst q;have:∃a n cap,x = .slice a n cap∧n≤cap:=by
       cases A;rename_i ad n cap _ aw _ _ _ _ _ _ _ _ _;exact⟨_,_,_,rfl,by assumption⟩
      obtain⟨a,n,cap,f,aw⟩:=this;exact⟨x,g.w,g,bd a n cap f aw,rfl,aH.refl g,hi,A⟩
     ·injection e with e;injection e with o q;subst o;subst q;obtain⟨l,cap,f,_,_,b9,bm,_⟩:=A.hW;exact⟨x,g.w,g,bd _ _ cap f (by omega),rfl,aH.refl g,hi,A⟩
     ·cases e
    ·rename_i k ca a2 a8;have U:0<j.Z:=cC a2;obtain⟨aa,L,af,R,X⟩:=rm N hi bq ac bt a8 U;have cp:0<k.length:=by
      rcases k with _|⟨c0,c1⟩
      ·exact(ca rfl).elim
      ·simp
     have cm:=L.len;split at e
     ·
      split at e
      ·rename_i r;injection e with e;injection e with o q;subst o;subst q;simp only[bH,cY]at r;have al:=cC r.1;have bl:=cC r.2;have f:x = .slice none 0 0:=by cases A;rfl
       subst f;obtain⟨c,e4,eN,y⟩:=q6 (P:=P) (n:=0) (cap:=0) (a:=none) (olds:=[]) (ty:=ty) (z:=z) ai E ak ah L (by omega) (λF _=>by simp[Builtin.firstCells]) (by omega) (by rw[a3];simpa using al);simp only[dP]at y e4;obtain⟨g',u,B,C,K⟩:=qb N hi ac E ak U af R X e4 eN;exact⟨_,_,g',by simpa using y,by rw[u],B,C,K⟩
      ·cases e
     ·
      rename_i Z rows;split at e
      ·rename_i a4;obtain⟨rfl,r⟩:=a4;injection e with e;injection e with o q;subst o;subst q;simp only[bH,cY]at r;have al:=cC r.1;have bl:=cC r.2;obtain⟨a,cap,olds,f,cc,ag,ao,ay,bg⟩:=q5 (Z:=j.Z) (rows:=rows) hi A (by simp[gn]) U;have aq:cap=rows.length:=by
        obtain⟨cf,cg,br,b0⟩:=A.mN;rw[f]at br;injection br with ci cj bv;rw[bv];exact b0 rfl
       subst f;obtain ⟨c,e4,eN,y⟩:=q6 (P:=P) (n:=rows.length) (cap:=cap) (a:=a) (olds:=olds) (ty:=ty) (z:=z) ai E ak ah L (by omega) (λF aj=>by
        cases a with
        | none =>
         have a7:rows=[]:=by
          rcases rows with _|⟨cx,cy⟩
          ·rfl
          ·obtain⟨b,ab,Q,_⟩:=bg (by simp);cases Q
         subst a7;have:olds=[]:=fC (by simpa using ag);subst this;simp[Builtin.firstCells]
        | some ad =>
         refine v8 F j.Z rows.length ad _ cap olds ag λM v s=>?_
         have a7:rows≠[]:=λQ=>by
          subst Q;have:olds=[]:=fC (by simpa using ag);subst this;cases s
         obtain⟨b,ab,Q,bw⟩:=bg a7;injection Q with Q;rw[Q,fU];have:=bw.1 M v s;have bx:F.cell? ⟨b,ab+M,none⟩=g.w.cell? ⟨b,ab+M,none⟩:=s6 (by rw[aj]);rw[bx];exact this) (by omega) (by rw[a3];exact al)
       have H:=ao.append af;rw[← ic]at H;have ae:(rows++k).length=rows.length+k.length:=by simp
       obtain⟨g',u,B,C,K⟩:=qb (c:=c) N hi ac E ak U H (λv f=>by
        rcases fk.1 f with f|f
        ·exact ay v f
        ·exact R v f) (nJ cc X) (by omega) eN
       rw[ae]at u K;exact⟨_,_,g',y,by rw[u];simp,B,C,K⟩
      ·cases e
     ·
      rename_i Z ab n;split at e
      ·rename_i a0 c2 rows ax;split at e
       ·rename_i a4;obtain⟨rfl,rfl,rfl,cn,r⟩:=a4;simp only[bH,cY]at r;have al:=cC r.1;have bl:=cC r.2;obtain⟨l,cap,f,b8,am,b9,bm,b2,bh⟩:=A.hW;obtain⟨cs,G,au,m⟩:=hi.live ab a0 j.Z rows ax;rw[am]at au;injection au with au;subst au;subst f;obtain⟨fr,a1,ar⟩:=m.eA;obtain⟨az,ao,ay,bn⟩:=m.flat;have ag:=ao.length;have a6:=gU rows m.row;have bj:=gU k X;have cl:=m.len;have co:=m.room;have cq:=af.length;split at e
        ·
         rename_i an;injection e with e;injection e with o q;subst o;subst q;by_cases aq:n+k.length≤cap
         ·
          have y:=q7 (P:=P) (ty:=ty) (ad:=⟨l.b,0*l.Z,none⟩) ai E ah L aq;have a5:n*j.Z+aa.length≤G.size:=by
           have:(n+k.length)*j.Z≤l.cap*j.Z:=gj _ (by omega);rw[dD]at this;omega
          obtain⟨w',a9,ap⟩:=kf (P:=P) (i:=n*j.Z) aa g.w G.toList 0 (T:=a0) (fr:=fr) (b:=l.b) (by simpa using a1) (by simpa using ar.mS) (by simpa using a5) R;simp only[jP]at ap;have bo:(G.toList.take (n*j.Z)++aa++G.toList.drop (n*j.Z+aa.length)).toArray.size=G.size:=by
           simp;omega
          have H:=ao.append af;rw[← ic]at H;have cb:az.length=n*j.Z:=by rw[ag,a6,an]
          obtain⟨g',u,B,C,av⟩:=z6 (rows':=rows++k) hi ax am m ap (by rw[bo];exact ar) bo (by simp;omega) (nJ m.row X)
           (jn H (λv f=>by
            rcases fk.1 f with f|f
            ·exact ay v f
            ·exact R v f) (nJ m.row X) (λM v s=>by
            rw[sC];rw[sK];rcases ez M (n*j.Z)with b7|b1
            ·rw[cU (by omega)]at s;rw[cU (by simp;omega),dX,bB b7];have:=bn M v s;simpa using this
            ·rw[fW (by omega)]at s;have bp:(G.toList.take (n*j.Z)).length=n*j.Z:=by simp;omega
             rw[fW (by rw[bp];exact b1),bp];rw[cb]at s;rw[cU (aP.1 s).1];exact s))
          refine⟨.slice (some ⟨l.b,0*l.Z,none⟩) (n+k.length) cap,w',g',?_,u,B,C,?_⟩
          ·rw[y];simp only[jQ,fU,dP,a9,dY]
          ·have ae:(rows++k).length=n+k.length:=by simp[an]
           rw[ae]at av;have:=O.aC (g:=g') h.length 0 (n+k.length) cap _ av (by simp) (by simp;omega) (by simp;omega) bh;simpa using this
         ·
          have bz:∀F:World,F.heap=g.w.heap→(Builtin.firstCells j.Z n (.slice (some ⟨l.b,0*l.Z,none⟩) n cap)).run P F = .ok az.toArray F:=λF aj=>by
           refine v8 F j.Z n _ _ cap az (by rw[ag,a6,an]) λM v s=>?_
           rw[jQ,fU,dP];have:=bn M v s;simp only[World.cell?,aj,a1];simpa using this
          obtain⟨c,e4,eN,y⟩:=q6 (P:=P) (n:=n) (cap:=cap) (olds:=az) (ty:=ty) (z:=z) ai E ak ah L (by omega) bz (by omega) (by rw[a3];exact al);obtain⟨ck,aj,bi,b5,_,_,_⟩:=uS hi ax am;have H:=(ao.append af).ext bi;rw[← ic]at H;have ae:(rows++k).length=n+k.length:=by simp[an]
          obtain⟨g',u,B,C,K⟩:=qb (c:=c) N b5 ac E ak U H (λv f=>by
           rcases fk.1 f with f|f
           ·exact ay v f
           ·exact R v f) (nJ m.row X) (by omega) eN
          rw[ae,aj]at u;rw[ae,aj]at K;have b6:(h.set ab .dead).length=h.length:=by simp
          rw[b6]at K;exact⟨_,_,g',y,by rw[u];simp,bi.trans B,C,K⟩
        ·split at e
         ·
          rename_i an b3;injection e with e;injection e with o q;subst o;subst q;have aq:n+k.length≤cap:=by omega
          have y:=q7 (P:=P) (ty:=ty) (ad:=⟨l.b,0*l.Z,none⟩) ai E ah L aq;have b4:n*j.Z+k.length*j.Z≤rows.length*j.Z:=by
           rw[← dD];exact gj _ b3
          have a5:n*j.Z+aa.length≤G.size:=by
           have:rows.length*j.Z≤l.cap*j.Z:=gj _ (by have:=m.le;omega);omega
          obtain⟨w',a9,ap⟩:=kf (P:=P) (i:=n*j.Z) aa g.w G.toList 0 (T:=a0) (fr:=fr) (b:=l.b) (by simpa using a1) (by simpa using ar.mS) (by simpa using a5) R;simp only[jP]at ap;obtain⟨g',u,B,C,av⟩:=oF (rows':=rows.take n++k++rows.drop (n+k.length)) hi ax am m ar af R (p:=n*j.Z) (by rw[a6,bj];exact b4) (by
           unfold cH;rw[ic,ic,lY rows n m.row,nI rows _ m.row,bj,dD]) (by simp;omega) (λba I=>by
            simp only[fk]at I;rcases I with(I|I)|I
            ·exact m.row ba (fm I)
            ·exact X ba I
            ·exact m.row ba (hF I)) ap
          refine⟨.slice (some ⟨l.b,0*l.Z,none⟩) (n+k.length) cap,w',g',?_,u,B,C,?_⟩
          ·rw[y];simp only[jQ,fU,dP,a9,dY]
          ·rw[← b8];exact O.aC (g:=g') ab 0 (n+k.length) cap l (by rw[av];exact am) (by omega) bm b2 bh
         ·cases e
       ·cases e
      ·cases e
     ·cases e
    ·cases e
   ·cases e
  ·cases e
 ·cases e
end ap
end Go.Pi
namespace Go.Eng
abbrev ik:=@and_self
abbrev iz:=@decide_true
abbrev kq:=@List.drop_zero
abbrev sG:=@List.eq_of_mem_replicate
end Go.Eng
namespace Go.Pi
open Go.Eng
section wr
variable {P:Program} {T:aM} {g:Gh} {h:Y} {ty:TypeId}
theorem x0 (r:aZ P T) (hi:Inv g h) {t am:Nat} {H z:Value} {L M d:D} {h':Y} (ai:O g H L) (a9:O g z M) (c:pK T h t am L M=some (d,h')) :
  ∃v w' g',(Builtin.copy_ #[t,am] ty #[H,z]).run P g.w = .ok v w'∧g'.w=w'∧aH g g'∧Inv g' h'∧O g' v d:=by
 unfold pK at c;split at c
 ·rename_i i br a5 ah;split at c
  ·rename_i bf a7 a0;have ae:=r.sl a5 a7;split at c
   ·rename_i f E;split at c
    ·rename_i a ap a3;have a2:0<f.Z:=cC ap;obtain⟨y,af,a1,aa,aj⟩:=rm r hi ah E a9 a3 a2;obtain⟨be,u,au⟩:=af.nz;have ax:(∀q,(Builtin.lenOf z).run P q = .ok a.length q)∧(∀(x:Nat) (q:World),x≤a.length→q.heap=g.w.heap→(Builtin.firstCells f.Z x z).run P q = .ok (y.take (x*f.Z)).toArray q):=by
      rcases au with⟨_,n,an⟩|⟨⟨x,rfl⟩,_⟩
      ·exact⟨n,an⟩
      ·exfalso;obtain⟨bq,bx,bc,bu,bb,bv,rfl,_⟩:=r.get ah;rw[bb]at u;injection u with u;subst u;simp[vA,gf]at a0
     obtain⟨U,Q⟩:=ax;have bn:=af.len;split at c
     ·injection c with c;injection c with A B;subst A;subst B;have m:H = .slice none 0 0:=by cases ai;rfl
      subst m;have C:=Q 0 g.w (gK _) rfl;have F:Nat.min a.length 0=0:=by simp
      exact⟨.int .i64 0,g.w,g,by simp[Builtin.copy_,bI ae,r.size E,U,F,C,goInt],rfl,aH.refl g,hi,.int _ _⟩
     ·rename_i bw ba o e;split at c
      ·rename_i I bc k ab;split at c
       ·rename_i ar;obtain⟨rfl,rfl⟩:=ar;injection c with c;injection c with A B;subst A;subst B;obtain⟨al,bd,m,az,X,bm,bk,bi,bg⟩:=ai.hW;obtain⟨bt,K,s,j⟩:=hi.live ba I f.Z k ab;rw[X]at s;injection s with s;subst s;subst m;obtain⟨fr,ao,R⟩:=j.eA;have aw:=gU k j.row;have bo:=j.room;have bj:=j.len;have N:min a.length e≤a.length:=Nat.min_le_left _ _;have C:=Q (min a.length e) g.w N rfl;have ag:(y.take (min a.length e*f.Z)).length=min a.length e*f.Z:=by
         have:min a.length e*f.Z≤a.length*f.Z:=gj _ N;simp;omega
        have aq:o*f.Z+min a.length e*f.Z≤k.length*f.Z:=by
         rw[← dD];exact gj _ (by omega)
        have bh:k.length*f.Z≤K.size:=by
         have:k.length*f.Z≤al.cap*f.Z:=gj _ (by have:=j.le;omega);omega
        obtain⟨w',a4,ad⟩:=kf (P:=P) (i:=o*f.Z) (y.take (min a.length e*f.Z)) g.w K.toList 0 (T:=I) (fr:=fr) (b:=al.b) (by simpa using ao) (by simpa using R.mS) (by rw[ag];simp;omega) (λv m=>aa v (fm m));simp only[jP]at ad;have a6:a.take e=a.take (min a.length e):=by
         rcases Nat.le_total a.length e with n|n
         ·rw[Nat.min_eq_left n,fE n,fE (aX _)]
         ·rw[Nat.min_eq_right n]
        have ac:aI g (y.take (min a.length e*f.Z)) (a.take e).flatten:=by
         rw[a6,lY a _ aj];exact a1.take _
        have ak:(a.take e).flatten.length=min a.length e*f.Z:=by
         rw[← ac.length];exact ag
        have bp:(a.take e).length=min a.length e:=by simp;omega
        obtain⟨g',a8,av,ay,bl⟩:=oF (rows':=k.take o++a.take e++k.drop (o+min a.length e)) hi ab X j R ac (λv m=>aa v (fm m)) (p:=o*f.Z) (by rw[aw,ak];exact aq) (by
         unfold cH;rw[ic,ic,lY k o j.row,nI k _ j.row,ak,dD]) (by simp;omega) (λG l=>by
          simp only[fk]at l;rcases l with(l|l)|l
          ·exact j.row G (fm l)
          ·exact aj G (fm l)
          ·exact j.row G (hF l)) ad
        refine⟨.int .i64 ((min a.length e:Nat):Int),w',g',?_,a8,av,ay,.int _ _⟩;have F:Nat.min a.length e=min a.length e:=rfl;rw[az];simp only[Builtin.copy_,dU];simp[bI ae,r.size E,U,F,C,a4,goInt]
       ·cases c
      ·cases c
     ·cases c
    ·cases c
   ·cases c
  ·cases c
 ·cases c
theorem xW(K:aZ P T)(hi:Inv g h){t:Nat}{af:Value}{H d:D}{h':Y}(q:O g af H)(a:pJ T h t H=some (d,h')):
  ∃v w' g',(Builtin.clear_ #[t] ty #[af]).run P g.w = .ok v w'∧g'.w=w'∧aH g g'∧Inv g' h'∧O g' v d:=by
 unfold pJ at a;split at a
 case h_2=>cases a
 rename_i i av;split at a
 case h_2=>cases a
 rename_i a2 aw;have R:=K.sl av aw;split at a
 case h_2=>cases a
 rename_i c ap;have done:∀(x:Value),(x = .slice none 0 0∨∃E F,x = .slice (some E) 0 F)→∃v w' g',(Builtin.clear_ #[t] ty #[x]).run P g.w = .ok v w'∧g'.w=w'∧aH g g'∧Inv g' h∧O g' v (.bR []):=λx q=>by
  refine⟨.tuple #[],g.w,g,?_,rfl,aH.refl g,hi,O.bR [] [] rfl (by simp)⟩;rcases q with rfl|⟨E,F,rfl⟩<;>simp[Builtin.clear_,bI R]
 split at a
 ·injection a with a;injection a with l m;subst l;subst m;exact done _ (.inl (by cases q;rfl))
 ·injection a with a;injection a with l m;subst l;subst m;obtain⟨ag,s,n,_⟩:=q.mN;exact done _ (.inr ⟨ag,s,by simpa using n⟩)
 ·injection a with a;injection a with l m;subst l;subst m;obtain⟨B,s,n,_⟩:=q.hW;exact done _ (.inr ⟨_,s,n⟩)
 ·rename_i bf a1 r e ar aj;have bb:0<c.Z:=cC aj;split at a
  case h_2=>cases a
  rename_i C bg j N;split at a
  case isFalse=>cases a
  rename_i al;obtain⟨rfl,rfl⟩:=al;injection a with a;injection a with l m;subst l;subst m;obtain⟨B,s,n,aq,M,a9,a7,a5,a3⟩:=q.hW;obtain⟨be,G,u,f⟩:=hi.live a1 C c.Z j N;rw[M]at u;injection u with u;subst u;subst n;obtain⟨fr,ai,L⟩:=f.eA;have an:=gU j f.row;have bc:=f.room;have a6:=f.len;obtain⟨o,ay,ad,a0,az⟩:=K.jH ap;have z:o.cells.toList.length=c.Z:=by simpa using a0
  have ac:aI g (List.replicate e o.cells.toList).flatten (List.replicate e c.zero).flatten:=by
   rw[ad];exact mG (kb g _) e
  have U:∀v∈(List.replicate e o.cells.toList).flatten,v.oneCell'=true:=λv n=>by
   obtain⟨bd,ah,I⟩:=sM.1 n;rw[sG ah]at I;exact az v I
  have aa:(List.replicate e o.cells.toList).flatten.length=e*c.Z:=by simp[z]
  have ab:(List.replicate e c.zero).flatten.length=e*c.Z:=by rw[← ac.length];exact aa
  have ak:r*c.Z+e*c.Z≤j.length*c.Z:=by
   rw[← dD];exact gj _ (by omega)
  have a4:j.length*c.Z≤G.size:=by
   have:j.length*c.Z≤B.cap*c.Z:=gj _ (by have:=f.le;omega);omega
  obtain⟨w',au,Q⟩:=kf (P:=P) (i:=r*c.Z) (List.replicate e o.cells.toList).flatten g.w G.toList 0 (T:=C) (fr:=fr) (b:=B.b) (by simpa using ai) (by simpa using L.mS) (by rw[aa];simp;omega) U;simp only[jP]at Q;obtain⟨g',ax,am,ao,a8⟩:=oF (rows':=j.take r++List.replicate e c.zero++j.drop (r+e)) hi N M f L ac U (p:=r*c.Z) (by rw[an,ab];exact ak) (by
   unfold cH;rw[ic,ic,lY j r f.row,nI j _ f.row,ab,dD]) (by simp;omega) (λae k=>by
    simp only[fk]at k;rcases k with(k|k)|k
    ·exact f.row ae (fm k)
    ·rw[sG k,ad,gw];exact z
    ·exact f.row ae (hF k)) Q
  refine⟨.tuple #[],w',g',?_,ax,am,ao,O.bR [] [] rfl (by simp)⟩;have ba:e≠0:=ar;obtain⟨A,rfl⟩:∃A,e=A+1:=⟨e - 1,by omega⟩
  have X:=wK z (A+1);rw[show o.cells.toList.toArray=o.cells by simp]at X;rw[aq];simp only[Builtin.clear_,dU];simp[bI R,ay,X,au]
 ·cases a
variable {ρ:Operand→Value} {dst:Option Tmp} {pos:String} {af:Array Edge} {gd:Option (Nat × Bool)}
theorem yw(n:aZ P T)(hi:Inv g h){s t b:Nat}{x:Operand}{l:List UInt8}(y:O g (ρ x) (.str l)){i j k:TI}(L:T s=some i)(N:i.td = .str)(M:T t=some j)(Q:j.td = .sl b)(F:T b=some k)(G:k.td = .int .u8)(o:bH l.length 1=true):
  h8 P ρ ⟨dst,.convert s t x,ty,pos,af,gd⟩ g (aF h b 1 (hK l)) (.aC 1 h.length 0 l.length):=by
 simp only[bH,cY]at o;have ae:=cC o.1;have ag:=cC o.2;have f:ρ x = .string ⟨l.toArray⟩:=by generalize f:ρ x=A at y;cases y;rfl
 have R:=n.str L N;have X:=n.sl M Q;have aa:=n.int F G;have e:=run_bytes_of_string (P:=P) g.w s t b ⟨l.toArray⟩ R X aa;rw[ka]at e;obtain⟨a,q⟩:∃a,a=grownCap g.w l.length 0 b:=⟨_,rfl⟩
 rw[← q]at e;have C:l.length≤a∧a≤9223372036854775807:=by
  subst q;show l.length≤l.length+g.w.tape g.w.drawn (.appendCap l.length 0 b) % (2 ^ 63 - l.length)∧l.length+g.w.tape g.w.drawn (.appendCap l.length 0 b) % (2 ^ 63 - l.length)≤9223372036854775807;have I:0<2 ^ 63 - l.length:=by omega
  have:=Nat.mod_lt (g.w.tape g.w.drawn (.appendCap l.length 0 b)) I;generalize g.w.tape g.w.drawn (.appendCap l.length 0 b) % (2 ^ 63 - l.length)=ac at this;omega
 have B:bytesRow ⟨l.toArray⟩ a=(l.map λd=>Value.int .u8 d.toNat).toArray++Array.replicate (a - l.length) (.int .u8 0):=by
  simp[bytesRow,ka]
 rw[B]at e;have H:(hK l).length=l.length:=by simp[hK]
 have v:∀z∈hK l,z.length=1:=λz K=>by
  obtain⟨d,_,rfl⟩:=eE.1 K;rfl
 obtain⟨c,m⟩:∃c:Array Value,c=(l.map λd:UInt8=>Value.int .u8 d.toNat).toArray++Array.replicate (a - l.length) (Value.int .u8 0):=⟨_,rfl⟩
 rw[← m]at e;have ad:c.size=a:=by rw[m];simp;omega
 obtain⟨p,ab,D,E,r⟩:=k0 hi (w':=g.w.drew.alloc (.cells c b (c.size,c.size+1))) (U:=b) (Z:=1) (cap:=a) (rows:=hK l) rfl rfl rfl rfl (.inr ⟨aX _,rfl⟩) (by decide) (by omega) (by omega) v
  (jn (tn l) (λA f=>by
   obtain⟨d,_,rfl⟩:=eE.1 f;rfl) v (λac A u=>by
   rw[m,oT (by simpa using(aP.1 u).1)];simpa using u))
 rw[H]at r;refine⟨.value (.slice (some ⟨g.w.heap.size,0,none⟩) l.length a),_,p,?_,ab,D,E,.inl ⟨_,rfl,?_⟩⟩
 ·simp only[execOp,dU,f,e,dY,fp]
 ·have:=O.aC (g:=p) h.length 0 l.length a _ r (by simp) (by simp;omega) (by simp) C.2;simpa using this
theorem yo (u:aZ P T) (hi:Inv g h) {s t:Nat} {x:Operand} {r:D} (C:O g (ρ x) r) {d:D} {h':Y} (c:pQ T h s t r=some (d,h')) :
  h8 P ρ ⟨dst,.convert s t x,ty,pos,af,gd⟩ g h' d:=by
 unfold pQ at c;split at c
 ·rename_i az ai;split at c
  ·rename_i ap i a2 a1 aj;split at c
   ·rename_i E j F q m;split at c
    ·rename_i ab;split at c
     ·rename_i ah;injection c with c;injection c with Q R;subst Q;subst R;subst ah;obtain⟨e,ao,B,ax,z,ay,av,au,aq⟩:=C.hW;obtain⟨a0,a,l,k⟩:=hi.live i j 1 F m;rw[z]at l;injection l with l;subst l;obtain⟨I,o,U⟩:=k.eA;have N:=(je.1 o).1;have ak:=u.sl ai aj;have al:=u.int q ab;obtain ⟨n,X,ae⟩:∃n,Fr n a.size 1∧gM g.w (g.w.freeze ⟨e.b,a.size,none⟩ 1) e.b (.cells a j n):=by
       obtain⟨f,hi⟩:=I;refine⟨if f==hi then(a.size,a.size+1)else(min f a.size,max hi (a.size+1)),?_,?_⟩
       ·split
        ·exact .inr ⟨aX _,rfl⟩
        ·rename_i ac;rcases U with p|⟨p,_⟩
         ·injection p with L M;subst L;subst M;simp at ac
         ·exact .inr ⟨by show a.size≤min f a.size;simp at p;omega,rfl⟩
       ·have aa:g.w.freeze ⟨e.b,a.size,none⟩ 1={ g.w with heap:=g.w.heap.modify e.b fun
            |.cells G H (f,hi) =>.cells G H (if f==hi then(a.size,a.size+1)else(min f a.size,max hi (a.size+1)))
            |i=>i }:=rfl
        rw[aa];refine⟨?_,λE q=>?_,by simp,rfl,rfl,rfl⟩
        ·show(g.w.heap.modify e.b _)[e.b]?=_;rw[jd (by rw[Array.size_modify];exact N),Array.getElem_modify_self];rw[(je.1 o).2]
        ·show(g.w.heap.modify e.b _)[E]?=_;rw[rQ,bO (Ne.symm q)]
      obtain⟨K,am,v,y,aw⟩:=wm hi m z k ae X rfl rfl k.row k.cell;have ad:h.set i (.row j 1 F)=h:=by
       apply sH;intro an;by_cases A:an=i
       ·subst A;rw[iK (aP.1 m).1,m]
       ·rw[g7 (Ne.symm A)]
      rw[ad]at y;have ag:g.w.shape? e.b=some (j,a.size):=by
       unfold World.shape?;rw[o]
      refine⟨.value (ρ x),_,K,?_,am,v,y,.inl ⟨_,rfl,C.ext v⟩⟩;rw[B];simp[execOp,convert,B,bI ak,bI al,markStringish,ag]
     ·cases c
    ·cases c
   ·cases c
  ·cases c
 ·cases c
theorem yd (U:aZ P T) (hi:Inv g h) {ρ:Operand→Value} {dst:Option Tmp} {ty:TypeId} {pos:String} {af:Array Edge} {gd:Option (Nat × Bool)} {t:TypeId} {x:Operand} {lo s:Option Operand} {c:Operand} {ds:List D} {d:D} {h':Y}
  (n:aI g ((Op.operands (.slice t x lo s (some c))).toList.map ρ) ds) (a:pL T h t lo.isSome s.isSome ds=some (d,h')):h8 P ρ ⟨dst,.slice t x lo s (some c),ty,pos,af,gd⟩ g h' d:=by
 unfold pL at a;split at a
 ·rename_i aj a3;injection a with a;injection a with I K;subst I;subst K;obtain⟨u,bd,am,H,a8,aa,F,ao,a1,M⟩:=vN U (λae E=>hi.g8 E) ⟨dst,.slice t x lo s (some c),ty,pos,af,gd⟩ n (show g4 T _ ds=some aj from a3);exact⟨_,bd,am,H,a8,aa,hi.same aa F ao a1,.inl ⟨u,rfl,M⟩⟩
 ·split at a
  ·rename_i bu bb r bn f bo ae bq br bt;split at a
   ·rename_i ad bv j o ac a4;split at a
    ·rename_i be a5;split at a
     ·rename_i q az;split at a
      ·rename_i ar;obtain⟨rfl,rfl,rfl,an,bg,bm⟩:=ar;injection a with a;injection a with I K;subst I;subst K;have a0:lo=none:=by cases lo<;>simp_all
       obtain⟨C,rfl⟩:∃i,s=some i:=by cases s<;>simp_all
       subst a0;have a2:(Op.operands (.slice t x none (some C) (some c))).toList.map ρ=[ρ x,ρ C,ρ c]:=by simp[Op.operands]
       rw[a2]at n;cases n with
       | cons a9 n=>cases n with
        | cons E n=>cases n with
         | cons X n =>
          obtain⟨m,ai,a7,bk,F,bl,bj,bh,av⟩:=a9.hW;obtain⟨bp,R,G,p⟩:=hi.live bb ad q.Z j ac;rw[F]at G;injection G with G;subst G;obtain⟨z,N,ab,ay,_,ax,_⟩:=uS hi ac F;obtain⟨bf,aq,_⟩:=p.eA;have au:∀o,z.w.cell? ⟨m.b,o,none⟩=R[o]?:=λo=>by rw[N];simp only[World.cell?,aq];simp
          have bi:=p.len;have L:∀(o:Nat) (b:List D),(j.take r)[o]?=some b→j[o]?=some b:=λo b k=>by
           rw[dX]at k;split at k
           ·exact k
           ·cases k
          have ba:O z (ρ x) (.sl q.Z false (j.take r)):=by
           rw[a7];refine O.sl _ r ai q.Z false (j.take r) (by simp;omega) (by omega) av (λk=>by cases k) p.pos (λb k=>p.row b (fm k)) (λ_=>⟨rfl,ax⟩) (λe i=>(R[e*q.Z+i]?).getD undef) ?_ ?_ ?_
           ·intro e b B i y A;obtain⟨u,v,_,_⟩:=p.cell e b (L e b B) i y A;show z.w.cell? ⟨m.b,0*m.Z+e*q.Z+i,none⟩=_;rw[au,jQ,dP,v];rfl
           ·intro e b B i y A;obtain⟨u,v,ag,_⟩:=p.cell e b (L e b B) i y A;rw[v];exact ag
           ·intro e b B i y A;obtain⟨u,v,_,ah⟩:=p.cell e b (L e b B) i y A;rw[v];exact ah.ext ab
          have ak:∃Q,ρ C = .int Q f:=by
           generalize ρ C=bc at E;cases E;exact⟨_,rfl⟩
          have al:∃Q,ρ c = .int Q f:=by
           generalize ρ c=bc at X;cases X;exact⟨_,rfl⟩
          have aw:hq T t (.sl q.Z false (j.take r)) none (some f) (some f)=some (.sl q.Z true (j.take f.toNat)):=by
           have ap:f≤((j.take r).length:Int):=by simp;omega
           have a6:(j.take r).take f.toNat=j.take f.toNat:=by
            rw[List.take_take];congr 1;omega
           simp only[hq,a4,a5,az,kt,sT,true_and,Int.le_refl,an,ap,ik,bL,iz,Int.toNat_zero,kq,a6]
          obtain⟨u,H,M⟩:=jY (g:=z) (ρ:=ρ) (dst:=dst) (ty:=ty) (pos:=pos) (af:=af) (gd:=gd) U (lo:=none) (hi:=some C) (mx:=some c) (l:=none) (h:=some f) (m:=some f) ba trivial ak al (by simp) aw;rw[N]at H;exact⟨_,g.w,z,H,N,ab,ay,.inl ⟨u,rfl,M⟩⟩
      ·cases a
     ·cases a
    ·cases a
   ·cases a
  ·cases a
theorem oQ (j:aZ P T) (hi:Inv g h) (o:Oper) {ds:List D} {d:D} {h':Y} (p:aI g (o.op.operands.toList.map ρ) ds) (a:jG T h o.op ds=some (d,h')):h8 P ρ o g h' d:=by
 obtain⟨dst,ar,ty,pos,af,gd⟩:=o;simp only at p a;have ad:∀{b k:Operand} {X aa:D},aI g [ρ b,ρ k] [X,aa]→O g (ρ b) X∧O g (ρ k) aa:=λaj=>by
  cases aj with
  | cons H s=>cases s with
   |cons I s=>exact⟨H,I⟩
 cases ar<;>simp only[jG]at a
 case store e b k =>
  split at a
  ·rename_i au i;obtain⟨c,q⟩:=ad p;cases A:bU T h e au i with
   |none=>rw[A]at a;cases a
   | some H =>
    rw[A]at a;injection a with a;injection a with m n;subst m;subst n;exact yu j hi c q A
  ·cases a
 case alloc ab =>
  split at a
  ·rename_i ac L;split at a
   ·rename_i an;injection a with a;injection a with m n;subst m;subst n;exact x6 j hi L an
   ·cases a
  ·cases a
 case box ab b =>
  split at a
  ·rename_i ac r L;obtain⟨i,B,c⟩:=k8 p;simp[Op.operands]at B;subst B;split at a
   ·rename_i ai;obtain⟨e4,eN,gp⟩:=ai;injection a with a;injection a with m n;subst m;subst n;exact x9 j hi c e4 eN gp
   ·cases a
  ·cases a
 case buildSlice e N Q =>
  have:(Op.operands (.buildSlice e N Q)).toList.map ρ=Q.toList.map λb=>ρ b.2:=by simp[Op.operands]
  rw[this]at p;cases l:iS T e N (Q.toList.map (·.1)) ds with
  |none=>rw[l]at a;cases a
  | some R =>
   rw[l]at a;obtain⟨av,bc,a9⟩:=R;injection a with a;injection a with m n;subst m;subst n;exact yl j hi p l
 case slice e b a6 a3 aq =>
  cases aq with
  |none=>cases a
  |some M=>exact yd j hi p a
 case makeSlice e N M =>
  split at a
  ·obtain⟨c,q⟩:=ad p;exact ym j hi c q a
  ·cases a
 case convert ba e b =>
  split at a
  ·rename_i ac a4 f A L;obtain⟨i,B,c⟩:=k8 p;simp[Op.operands]at B;subst B;split at a
   ·rename_i ab ao ap;split at a
    ·rename_i a5 ak;split at a
     ·rename_i al;split at a
      ·rename_i f;split at a
       ·rename_i am;injection a with a;injection a with m n;subst m;subst n;exact yw j hi c A ao L ap ak al am
       ·cases a
      ·cases a
     ·cases a
    ·cases a
   ·exact yo j hi c a
   ·cases a
  ·cases a
 case call M =>
  obtain⟨ah,args,E⟩:=M;simp only at a;cases ah with
  |value a2=>simp at a
  |invoke s a7=>simp at a
  | builtin ag =>
   have K:aI g (args.toList.map ρ) ds:=by simpa[Op.operands,Call.operands]using p
   have ae:∀{r u:D} {e F:Nat},ds=[r,u]→E.toList=[e,F]→∃b k,args = #[b,k]∧E = #[e,F]∧O g (ρ b) r∧O g (ρ k) u:=λ{r u e F} H I=>by
    subst H;have l:=K.length;obtain⟨f⟩:=args;obtain⟨R⟩:=E;simp only at I;subst I;cases f with
    |nil=>simp at l
    | cons b f=>cases f with
     |nil=>simp at l
     | cons k f=>cases f with
      | nil =>
       cases K with
       | cons c s=>cases s with
        |cons q s=>exact⟨b,k,rfl,rfl,c,q⟩
      |cons bd f=>simp at l
   cases ag<;>simp only at a
   case append =>
    split at a
    ·rename_i r u e F t;obtain⟨b,k,rfl,rfl,c,q⟩:=ae rfl t;obtain⟨i,G,v,z,C,w,x,y⟩:=xr (ty:=ty) j hi c q a;exact⟨.value i,G,v,by simp[execOp,resolve,invoke,builtin,z],C,w,x,.inl ⟨i,rfl,y⟩⟩
    ·cases a
   case copy =>
    split at a
    ·rename_i r u e F t;obtain⟨b,k,rfl,rfl,c,q⟩:=ae rfl t;obtain⟨i,G,v,z,C,w,x,y⟩:=x0 (ty:=ty) j hi c q a;exact⟨.value i,G,v,by simp[execOp,resolve,invoke,builtin,z],C,w,x,.inl ⟨i,rfl,y⟩⟩
    ·cases a
   case clear =>
    split at a
    ·rename_i r e t;obtain⟨b,rfl,rfl,c⟩:∃b,args = #[b]∧E = #[e]∧O g (ρ b) r:=by
      have l:=K.length;obtain⟨f⟩:=args;obtain⟨R⟩:=E;simp only at t;subst t;cases f with
      |nil=>simp at l
      | cons b f=>cases f with
       | nil =>
        cases K with
        |cons c s=>exact⟨b,rfl,rfl,c⟩
       |cons k f=>simp at l
     obtain⟨i,G,v,z,C,w,x,y⟩:=xW (ty:=ty) j hi c a;exact⟨.value i,G,v,by simp[execOp,resolve,invoke,builtin,z],C,w,x,.inl ⟨i,rfl,y⟩⟩
    ·cases a
   all_goals cases a
 all_goals cases a
end wr
def j2:Unit:=()
def e4:Unit:=j2
def eN:Unit:=e4
def gp:Unit:=eN
def As:Unit:=gp
def Au:Unit:=As
def Av:Unit:=Au
def Aw:Unit:=Av
def Ax:Unit:=Aw
def Ay:Unit:=Ax
def z7:Unit:=Ay
def z8:Unit:=z7
def z9:Unit:=z8
def Aa:Unit:=z9
def Ab:Unit:=Aa
def Ac:Unit:=Ab
def Ad:Unit:=Ac
def Ae:Unit:=Ad
def Af:Unit:=Ae
def Ag:Unit:=Af
def Ah:Unit:=Ag
def Ai:Unit:=Ah
def Aj:Unit:=Ai
def Ak:Unit:=Aj
def Al:Unit:=Ak
def Am:Unit:=Al
def An:Unit:=Am
def Ao:Unit:=An
def Ap:Unit:=Ao
def Aq:Unit:=Ap
def Ar:Unit:=Aq
def n3{b:Sort _}(a:b):b:=(λ_:Unit=>a) Ar
theorem qd{b:Sort _}(a:b):n3 a=a:=rfl
abbrev bC:=FuncId→List D→Y→Option (D × Y)
structure Cx where
 T:aM
 gl:Nat→Option D
 xt:bC
def fw(X:Cx)(a:DE):Operand→Option D
 |.tmp t=>aQ a t
 |.const v=>some (ofConst v)
 |.global i=>X.gl i
 |.func b=>some (.fn (.func b) [] [])
def gT(X:Cx)(a:DE):List Operand→Option (List D)
 |[]=>some []
 | x::r=>match fw X a x with
  | some d=>match gT X a r with
   |some ds=>some (d::ds)
   |none=>none
  |none=>none
def gd(g:D)(b:Bool)(x:Option D):Option D:=match g with
 | .bool a=>match a==b with
  |true=>x
  |false=>some .bF
 |.bF=>some .bF
 |_=>none
def fc(g:D)(b:Bool)(h:Y)(x:Option (D × Y)):Option (D × Y):=match g with
 | .bool a=>match a==b with
  |true=>x
  |false=>some (.bF,h)
 |.bF=>some (.bF,h)
 |_=>none
def aW (n0:Nat) (h:Y):Nat→D→D
 |0,d=>d
 | n+1,d=>match d with
  | .aC Z o r k=>match Nat.ble n0 o with
   | true=>match h[o]? with
    |some (.row _ _ rows) =>.sl Z false (((rows.drop r).take k).map λrow=>row.map (aW n0 h n))
    |_ =>.aC Z o r k
   |false =>.aC Z o r k
  |.agg cs =>.agg (cs.map (aW n0 h n))
  |.bR cs =>.bR (cs.map (aW n0 h n))
  |.sl Z a rows =>.sl Z a (rows.map λrow=>row.map (aW n0 h n))
  |d=>d
def snap(h:Y):Nat→D→D
 |0,d=>d
 | n+1,d=>match d with
  | .aC Z o r k=>match h[o]? with
   |some (.row _ _ rows) =>.sl Z false (((rows.drop r).take k).map λrow=>row.map (snap h n))
   |_ =>.aC Z o r k
  |.agg cs =>.agg (cs.map (snap h n))
  |d=>d
def D.lg:D→Bool
 |.bool _|.int _ _|.str _|.e5|.J|.bF=>true
 |_=>false
def D.rb:D→Bool
 |.bR ds=>ds.all D.lg
 |d=>d.lg
def hN(b:bC)(c:FuncId)(args:List D)(h:Y):Option (D × Y):=match b c (args.map (snap h 3)) (h.map λ_ =>.dead)with
 | some (a,_)=>match a.rb with
  |true=>some (a,h)
  |false=>none
 |none=>none
def tv(a:bC)(b:FuncId)(args:List D)(h:Y):Option (D × Y):=a b (args.map (aW 0 h 3)) (h.map λ_ =>.dead)
def eU(T:aM)(b:bC)(m:String)(ds:List D)(h:Y):Option (D × Y):=match ds with
 | .iface e c::a=>match my T e m with
  |some d=>b d (c::a) h
  |none=>none
 |_=>none
def calls(c:Nat)(a:bC)(b:FuncId)(args:List D)(h:Y):Option (D × Y):=match c with
 |0=>a b args h
 |1=>hN a b args h
 |_=>tv a b args h
def gN(T:aM)(a:bC)(g:Nat)(o:Op)(ds:List D)(h:Y):Option (D × Y):=n3 (match o with
 | .call c=>match c.callee with
  | .value _=>match ds with
   |.fn (.func e) first d::b=>calls g a e (first++b++d) h
   |_=>none
  |.invoke _ f=>eU T a f ds h
  |_=>none
 |_=>none)
def j7(n0:Nat)(h:Y):Y:=h.take n0++(h.drop n0).map λ_ =>.dead
def ta(p:D × Y):D × Y:=match p.1 with
 |.aC _ a _ _=>(aW a p.2 3 p.1,j7 a p.2)
 |_=>p
def s9(n0:Nat)(p:D × Y):D × Y:=match p.1 with
 |.aC d b c a=>(aW n0 p.2 3 (.aC d b c a),j7 n0 p.2)
 |_=>p
def km(c:Nat)(T:aM)(h:Y)(a:Op)(ds:List D):Option (D × Y):=match c with
 |2=>jG T (h.map λ_ =>.dead) a (ds.map (aW 0 h 3))
 |3=>(jG T h a ds).bind λb=>some (ta b)
 |d+4=>(jG T h a ds).bind λb=>some (s9 d b)
 |_=>jG T h a ds
def iE (o:Option Nat) (l:List Nat):Nat:=match o with
 | some a=>match l.any (Nat.beq a)with
  |true=>1
  | false=>match l.any (Nat.beq (a+1000000))with
   |true=>2
   | false=>match l.any (Nat.beq (a+2000000))with
    |true=>3
    | false=>match l.find? (λb=>Nat.ble 3000000 b&&Nat.beq ((b - 3000000) % 10000) a)with
     |some b=>(b - 3000000) / 10000+4
     |none=>0
 |none=>0
section
variable {R:Type}
def fe(e:Nat)(dst:Option Nat)(d:D)(b:DE)(h:Y)(a:DE→Y→Option R):Option R:=match dst with
 |none=>a b h
 | some c=>match Nat.blt c e with
  |true=>a ((c,d)::b) h
  |false=>none
def oo(b:Op)(ds:List D):Option D:=match b,ds with
 |.move _,[a]=>some a
 |.assign _,[a]=>some a
 |_,_=>none
def gZ (X:Cx) (k:bC) (e:Nat) (V i:List Nat) (l:List Oper) (o:Oper) (a:DE) (h:Y) (d:DE→Y→Option R):Option R:=
 match gT X a o.op.operands.toList with
 |none=>none
 | some f=>match o.guard with
  | none=>match oo o.op f with
   |some b=>fe e o.dst b a h d
   | none=>match cG X.T V o with
    |.pure=>(g4 X.T o.op f).bind λb=>fe e o.dst b a h d
    |.read=>(h3 X.T h o.op f).bind λb=>fe e o.dst b a h d
    |.write=>(km (iE o.dst i) X.T h o.op f).bind λc=>fe e o.dst c.1 a c.2 d
    |.call=>(gN X.T k (iE o.dst i) o.op f h).bind λc=>fe e o.dst c.1 a c.2 d
    |.dQ=>(mj X.T o.op).bind λb=>fe e o.dst b a h d
  | some (m,g)=>match(l[m]?).bind (·.dst)with
   |none=>none
   | some n=>match aQ a n with
    |none=>none
    | some j=>match cG X.T V o with
     |.pure=>(gd j g (g4 X.T o.op f)).bind λb=>fe e o.dst b a h d
     |.read=>(gd j g (h3 X.T h o.op f)).bind λb=>fe e o.dst b a h d
     |.write=>(fc j g h (km (iE o.dst i) X.T h o.op f)).bind λc=>fe e o.dst c.1 a c.2 d
     |.call=>(fc j g h (gN X.T k (iE o.dst i) o.op f h)).bind λc=>fe e o.dst c.1 a c.2 d
     |.dQ=>none
def kO(V:List Nat)(o p:Oper):Option (Nat × Nat × Operand):=match o.op,o.dst,o.guard,p.op,p.dst,p.guard with
 | .alloc b,some a,none,.store e (.tmp d) c,none,none=>match Nat.beq b e&&Nat.beq a d&&V.any (Nat.beq a)&&(match c with
  |.tmp f => !(Nat.beq f a)
  |_=>true)with
  |true=>some (b,a,c)
  |false=>none
 |_,_,_,_,_,_=>none
def hh(Z:Nat)(v:D):Option D:=match v.ey&&Nat.beq (bD v).length Z with
 |true=>some (.aG (bD v))
 |false=>none
def eX(X:Cx)(f:bC)(c:Nat)(V e:List Nat)(l:List Oper):List Oper→DE→Y→(DE→Y→Option R)→Option R
 |[],a,h,b=>b a h
 |[o],a,h,b=>gZ X f c V e l o a h b
 | o::p::r,a,h,b=>match kO V o p with
  | some (E,d,x)=>match fw X a x,X.T E with
   |some v,some i=>(hh i.Z v).bind λg=>fe c (some d) g a h λe' h'=>eX X f c V e l r e' h' b
   |_,_=>none
  |none=>gZ X f c V e l o a h λe' h'=>eX X f c V e l (p::r) e' h' b
def eV(T:aM)(V:List Nat)(o:Oper):Bool:=match cG T V o with
 |.write|.call=>true
 |_=>false
def iV(T:aM)(V:List Nat)(o:Oper):Bool:=match cG T V o with
 |.read=>true
 |_=>false
def bV(T:aM)(V:List Nat)(l:List Oper)(i:Nat):Bool:=match l[i]? with
 |some a=>eV T V a
 |none=>false
def iG(X:Cx)(e:bC)(f:Nat)(V d:List Nat)(l:List Oper):List Oper→DE→Y→List Y→(DE→Y→List Y→Option R)→Option R
 |[],c,h,a,b=>b c h a
 | o::r,c,h,a,b=>gZ X e f V d l o c h λe' h'=>iG X e f V d l r e' h' (match eV X.T V o with
  |true=>a++[h']
  |false=>a) b
def fG(l:List Oper):List Nat:=(Region.before l.toArray).toList
def fy(bs:List Nat)(i j:Nat):Bool:=(bs.getD i 0).testBit j
def fA(l:List Oper)(o:Oper):List Nat:=(o.op.operands.toList.filterMap fun|.tmp b=>some b|_=>none)++(match o.guard with
 |some (a,_)=>((l[a]?).bind (·.dst)).toList
 |none=>[])
def cI(l:List Oper):Nat:=(List.range l.length).foldr (λa b=>match Nat.beq b (a+1)&&(List.range a).all (λc=>gX c (gB l.toArray a))with
 |true=>a
 |false=>b) l.length
def qE(T:aM)(V:List Nat)(l:List Oper)(j:Nat):Bool:=match l[j]? with
 | some a=>(match cG T V a with
  |.pure=>true
  |_=>false)&&(match a.guard with
  |none=>true
  |some _=>false)&&(match a.dst with
  |some _=>true
  |none=>false)
 |none=>false
def x1(T:aM)(V:List Nat)(l:List Oper):Nat:=
 let bs:=fG l
 (List.range (cI l)).foldr (λa c=>match Nat.beq c (a+1)&&(List.range a).all (λb=>fy bs a b||qE T V l b)with
 |true=>a
 |false=>c) (cI l)
def CO(l:List Oper):Bool:=(List.range (cI l)).any λa=>match l[a]? with
 | some b=>(match b.op,b.dst with
  | .assign _,some e=>(List.range a).any λc=>match l[c]? with
   |some d=>gX e (fA l d)
   |none=>false
  |_,_=>false)
 |none=>false
def early(V:List Nat)(l:List Oper):Bool:=(l.take (cI l)).any λa=>match a.op with
 |.store _ (.tmp b) _=>V.any (Nat.beq (b+1000000))
 |_=>false
def Dl(T:aM)(V:List Nat)(l:List Oper):Nat:=match early V l||CO l with
 |true=>x1 T V l
 |false=>cI l
def gV(m:Nat)(l:List Oper)(j:Nat):Bool:=(List.range (cI l)).any λa => !(Nat.blt a m) && !(fy (fG l) a j)
def vB(l:List Oper)(k j:Nat):Bool:=match l[k]?,l[j]? with
 | some a,some b=>(match a.dst with
  |some c => !(gX c (fA l b))
  |none=>true)
 |_,_=>true
def wL(m:Nat)(l:List Oper)(j:Nat):Bool:=match l[j]? with
 | some c=>(fA l c).all λe=>(List.range m).all λa=>match l[a]? with
  | some d=>(match d.dst with
   |some b => !(Nat.beq b e) || !(gV m l a)
   |none=>true)
  |none=>true
 |none=>true
def vz(V:List Nat)(l:List Oper)(k:Nat):Bool:=match l[k]?,l[k+1]? with
 | some a,some b=>(match kO V a b with
  |some _=>false
  |none=>true)
 |_,_=>true
def mg(T:aM)(V:List Nat)(m:Nat)(l:List Oper):Bool:=
 ((List.range (cI l)).all λb=>Nat.blt b m||(List.range b).all λa=>gX a (gB l.toArray b)||(Nat.blt a m&&vB l b a)) &&
 ((List.range m).all λa => !(gV m l a)||(qE T V l a&&wL m l a)) &&
 ((List.range (cI l)).all λb=>Nat.blt b m||vz V l b)
def tR (T:aM) (V:List Nat) (e m:Nat) (l:List Oper):Bool:=
 let bs:=fG l
 let c:=(List.range m).filter (bV T V l)
 Nat.ble m (cI l)&&Nat.ble (cI l) l.length&&jB e l&&ru (cI l) l &&
 ((List.range (cI l)).all λa=>match l[a]? with
  | some f=>(fA l f).all λh=>(List.range m).all λb=>match l[b]? with
   | some g=>(match g.dst with
    |some d => !(Nat.beq d h)||fy bs a b
    |none=>true)
   |none=>true
  |none=>true) &&
 (c.all λb=>c.all λa => !(Nat.blt a b)||fy bs b a) &&
 (Nat.beq m (cI l)||mg T V m l)
def oO (T:aM) (V:List Nat) (m:Nat) (l:List Oper):List (Nat × Nat):=
 let bs:=fG l
 let d:=(List.range m).filter (bV T V l)
 (List.range m).flatMap λa=>match l[a]? with
  | some g=>match iV T V g with
   | true =>
    let f:=(d.filter λb=>fy bs a b).length
    let e:=(d.filter λb => !(fy bs b a)).length
    let own:=(d.filter λb=>Nat.blt b a).length
    ((List.range (e+1)).filter λc=>Nat.ble f c && !(Nat.beq c own)).map λc=>(a,c)
   |false=>[]
  |none=>[]
def again(X:Cx)(l:List Oper)(o:Oper)(a:DE)(h:Y):Prop:=match gT X a o.op.operands.toList,o.dst with
 | some b,some c=>match o.guard with
  |none=>h3 X.T h o.op b=aQ a c
  | some (f,d)=>match(l[f]?).bind (·.dst)with
   |none=>False
   | some g=>match aQ a g with
    |none=>False
    |some e=>gd e d (h3 X.T h o.op b)=aQ a c
 |_,_=>False
open Classical in
noncomputable def cZ(p:Prop)(x:Option R):Option R:=if p then x else none
noncomputable def hO(X:Cx)(l:List Oper)(a:DE)(b:List Y):List (Nat × Nat)→Option R→Option R
 |[],x=>x
 | (i,k)::r,x=>match l[i]? with
  |some o=>cZ (again X l o a (b.getD k [])) (hO X l a b r x)
  |none=>none
def gD(X:Cx)(V:List Nat):List Oper→DE→Y→(DE→Y→Option R)→Option R
 |[],b,h,a=>a b h
 | o::r,b,h,a=>match cG X.T V o,o.op,o.dst with
  | .dQ,.alloc E,some t=>match X.T E with
   |some i=>gD X V r ((t,.ptr h.length 0 0)::b) (aF h E i.Z [i.zero]) a
   |none=>none
  |_,_,_=>gD X V r b h a
noncomputable def iA(X:Cx)(c:bC)(a:Nat)(V b:List Nat)(m:Nat)(l:List Oper)(f:DE)(h:Y)(e:DE→Y→Option R):Option R:=
 match tR X.T V a m l with
 |false=>none
 |true=>iG X c a V b l (l.take m) f h [h] λd i k=>hO X l d k (oO X.T V m l) (gD X V (l.take m) d i λg j=>eX X c a V b l (l.drop m) g j e)
end
inductive Ex where
 |aS|ext (id:Nat)|ret
def dG:Code→List Nat
 |.region _ c _=>c.toList.filterMap (·.dst)
 |.seq a b=>dG a++dG b
 |.cond _ a b=>dG a++dG b
 |.block _ b=>dG b
 |.loop b=>dG b
 |.scope b=>dG b
 |.rangeFunc _ ps a b=>ps.toList++dG a++dG b
 |_=>[]
def kB:Code→Bool
 |.exit _=>false
 |.ret=>false
 |.seq a b=>kB a&&kB b
 |.cond _ a b=>kB a||kB b
 |.loop _=>false
 |_=>true
def ju(id:Nat):Code→Bool
 |.exit i=>Nat.beq i id
 |.seq a b=>ju id a||ju id b
 |.cond _ a b=>ju id a||ju id b
 |.block _ b=>ju id b
 |.loop b=>ju id b
 |.scope b=>ju id b
 |_=>false
def eW(a:List Nat)(c:Code):List Nat:=a.filter λb=>gX b (dG c)
def jD(a:DE):List Nat→DE
 |[]=>[]
 | t::r=>match aQ a t with
  |some d=>(t,d)::jD a r
  |none=>jD a r
def h5(b:List Nat)(c:Code)(a:DE):DE:=jD a (b.filter λd => !(gX d (dG c)))
def fM(a:DE):List Nat→List D
 |[]=>[]
 | t::r=>(match aQ a t with
  |some d=>d
  |none =>.any)::fM a r
def l9:List D→D
 |d::_=>d
 |[] =>.any
def mP:List D→List D
 |_::r=>r
 |[]=>[]
def eY:List Nat→List D→DE→DE
 |[],_,a=>a
 |t::b,ds,a=>(t,l9 ds)::eY b (mP ds) a
def cL(id:Nat):Ex→Ex
 | .ext i=>match Nat.beq i id with
  |true =>.aS
  |false =>.ext i
 |x=>x
abbrev cS:=Ex × List D × Y
abbrev gi:=(List D→Y→Option cS)→List D→Y→Option cS
def bG{R:Type}(c:D)(a b:Option R):Option R:=match c with
 |.bool true=>a
 |.bool false=>b
 |_=>none
def dS{R:Type}(x:Ex)(n:Option R)(k:Ex→Option R):Option R:=n3 (match x with
 |.aS=>n
 |x=>k x)
def fa{R:Type}(x:Ex)(r:Option R):Option R:=n3 (match x with
 |.ext _=>none
 |_=>r)
structure jI where
 nt:Nat
 aO:List Nat
 V:List Nat
 dL:List Nat
noncomputable def cK(X:Cx)(j:bC)(k:gi)(e:jI):Code→DE→Y→(R:Type)→(Ex→DE→Y→Option R)→Option R
 |.skip,f,h,R,g=>g .aS f h
 |.label _,f,h,R,g=>g .aS f h
 |.ret,f,h,R,g=>g .ret f h
 |.exit i,f,h,R,g=>g (.ext i) f h
 | .region _ l m,f,h,R,g=>match m with
  |false=>eX X j e.nt e.V e.dL l.toList l.toList f h (g .aS)
  |true=>iA X j e.nt e.V e.dL (Dl X.T e.V l.toList) l.toList f h (g .aS)
 |.seq a b,f,h,R,g=>cK X j k e a f h R λx e' h'=>dS x (cK X j k e b e' h' R g) λx=>g x e' h'
 | .cond c a b,f,h,R,g=>match fw X f c with
  |none=>none
  | some d=>match kB a&&kB b with
   |true=>(bG d (cK X j k e a f h cS λx e' h'=>some (x,fM e' (eW e.aO (.cond c a b)),h')) (cK X j k e b f h cS λx e' h'=>some (x,fM e' (eW e.aO (.cond c a b)),h'))).bind λr =>
     g r.1 (eY (eW e.aO (.cond c a b)) r.2.1 (h5 e.aO (.cond c a b) f)) r.2.2
   |false=>bG d (cK X j k e a f h R g) (cK X j k e b f h R g)
 | .block id b,f,h,R,g=>match ju id b with
  |true=>(cK X j k e b f h cS λx e' h'=>some (cL id x,fM e' (eW e.aO b),h')).bind λr=>g r.1 (eY (eW e.aO b) r.2.1 (h5 e.aO b f)) r.2.2
  |false=>cK X j k e b f h R λx e' h'=>g (cL id x) e' h'
 |.loop b,f,h,R,g=>(k (λds h'=>cK X j k e b (eY (eW e.aO b) ds (h5 e.aO b f)) h' cS λx e' n=>some (x,fM e' (eW e.aO b),n)) (fM f (eW e.aO b)) h).bind λr =>
   g r.1 (eY (eW e.aO b) r.2.1 (h5 e.aO b f)) r.2.2
 |_,_,_,_,_=>none
end Go.Pi
namespace Go.Eng
abbrev cQ:=@Option.bind_assoc
abbrev jR:=@Oper.upon_value
abbrev kr:=@List.getElem?_cons_zero
abbrev lC:=@List.mem_append_left
abbrev ph:=@Prod.mk.injEq
end Go.Eng
namespace Go.Pi
open Go.Eng
def eO (X:Cx) (f:bC) (V d:List Nat) (l:List Oper) (o:Oper) (g:DE) (h:Y):Option (D × Y):=
 match gT X g o.op.operands.toList with
 |none=>none
 | some b=>match o.guard with
  | none=>match cG X.T V o with
   |.pure=>(g4 X.T o.op b).bind λa=>some (a,h)
   |.read=>(h3 X.T h o.op b).bind λa=>some (a,h)
   |.write=>km (iE o.dst d) X.T h o.op b
   |.call=>gN X.T f (iE o.dst d) o.op b h
   |.dQ=>(mj X.T o.op).bind λa=>some (a,h)
  | some (i,c)=>match(l[i]?).bind (·.dst)with
   |none=>none
   | some j=>match aQ g j with
    |none=>none
    | some e=>match cG X.T V o with
     |.pure=>(gd e c (g4 X.T o.op b)).bind λa=>some (a,h)
     |.read=>(gd e c (h3 X.T h o.op b)).bind λa=>some (a,h)
     |.write=>fc e c h (km (iE o.dst d) X.T h o.op b)
     |.call=>fc e c h (gN X.T f (iE o.dst d) o.op b h)
     |.dQ=>none
theorem Cm{T:aM}{V:List Nat}{o:Oper}{ds:List D}{d:D}(h:oo o.op ds=some d):cG T V o = .pure∧g4 T o.op ds=some d:=by
 unfold oo at h;split at h
 ·rename_i a;injection h with h;subst h;simp only[cG,g4,a,ik]
 ·rename_i a;injection h with h;subst h;simp only[cG,g4,a,ik]
 ·cases h
theorem ot{R:Type}(X:Cx)(d:bC)(e:Nat)(V c:List Nat)(l:List Oper)(o:Oper)(a:DE)(h:Y)(b:DE→Y→Option R):
  gZ X d e V c l o a h b=(eO X d V c l o a h).bind λp=>fe e o.dst p.1 a p.2 b:=by
 unfold gZ eO;cases gT X a o.op.operands.toList with
 |none=>rfl
 | some f =>
  simp only[];cases o.guard with
  | none =>
   simp only[];cases j:oo o.op f with
   | some r =>
    obtain⟨g,i⟩:=Cm (T:=X.T) (V:=V) j;simp only[g,i,fF]
   | none =>
    simp only[];cases cG X.T V o<;>simp only[cQ,fF,Option.bind_none]
  | some m =>
   obtain⟨k,q⟩:=m;simp only[];cases(l[k]?).bind (·.dst)with
   |none=>rfl
   | some n =>
    simp only[];cases aQ a n with
    |none=>rfl
    | some s =>
     simp only[];cases cG X.T V o<;>simp only[cQ,fF,Option.bind_none]
section
variable {P:Program} {X:Cx}
def eC(g:Gh)(gl:Nat→Option D):Prop:=∀b a,gl b=some a→O g (.pointer (some ⟨b,0,none⟩)) a
theorem eC.ext{g g':Gh}{gl:Nat→Option D}(h:eC g gl)(c:aH g g'):eC g' gl:=λd a b=>(h d a b).ext c
theorem eC.fx{g g':Gh}{gl:Nat→Option D}(h:eC g gl)(c:fV g g'):eC g' gl:=λd a b=>(h d a b).fx c
def jK(P:Program)(b:FuncId)(vs:List Value)(g:Gh)(h':Y)(d:D):Prop:=
 ((callFunc b vs.toArray).run P g.w = .ok (.enter b vs.toArray) g.w∧h6 P b vs.toArray g.w λc e=>∃a,a.w=e∧aH g a∧Inv a h'∧O a c d) ∨
 ∃c a,(callFunc b vs.toArray).run P g.w = .ok (.value c) a.w∧aH g a∧Inv a h'∧O a c d
def eH(P:Program)(X:Cx)(g:bC):Prop:=∀c args d b e,g c args d=some (b,e)→∀a f,Inv a d→eC a X.gl→aI a f args→jK P c f a e b
theorem lU{g:Gh}{b:DE}{a:Act}(e:eC g X.gl){x:Operand}{d:D}(f:∀t d,x = .tmp t→aQ b t=some d→O g (a.tmps.getD t undef) d)(h:fw X b x=some d):O g (a.eval x) d:=by
 cases x with
 |tmp t=>exact f t d rfl h
 | const j =>
  simp only[fw,iN]at h;subst h;exact CN g j
 |global i=>exact e i d h
 | func c =>
  simp only[fw,iN]at h;subst h;have:=O.fn (g:=g) (.func c) [] [] [] [] rfl rfl (by simp) (by simp);simpa[Act.eval]using this
theorem ud{g:Gh}{c:DE}{a:Act}(e:eC g X.gl):∀{xs:List Operand} {ds:List D},(∀t d,.tmp t∈xs→aQ c t=some d→O g (a.tmps.getD t undef) d)→gT X c xs=some ds→aI g (xs.map a.eval) ds
 | [],ds,_,h=>by
  simp only[gT,iN]at h;subst h;exact .nil
 | x::r,ds,f,h=>by
  simp only[gT]at h;split at h
  ·rename_i d j;split at h
   ·rename_i k i;injection h with h;subst h;exact .cons (lU e (λt d b=>f t d (b▸e8 ..)) j) (ud e (λt d b=>f t d (eP _ b)) i)
   ·cases h
  ·cases h
theorem Dk {g:Gh} {h:Y} (hi:Inv g h) {g1:Gh} (m:g1.w=g.w) (ad:g1.ms=g.ms) (N:∀b,¬g1.L b):∀(n:Nat) (v:Value) (d:D),O g v d→O g1 v (snap h n d):=by
 have G:fV g g1:=⟨by rw[m],by rw[m],by rw[m],by rw[m];exact aX _,λR z I=>by rw[ad];exact I,λb B=>⟨⟨by rw[m];exact B.1,N b⟩,by rw[m]⟩⟩
 intro n
 induction n with
 |zero=>intro v d s;exact s.fx G
 | succ n Q =>
  intro v d s;unfold snap;split
  ·rename_i aj R q E;split
   ·rename_i T M A af;obtain⟨z,U,rfl,ae,I,ao,an,al,ab⟩:=s.hW;obtain⟨ap,o,C,r⟩:=hi.live R T M A af;rw[I]at C;injection C with C;subst C;have ai:=r.fI;have am:=r.len;obtain⟨ak,B,_⟩:=r.eA;have aa:∀a,g1.w.cell? ⟨z.b,a,none⟩=o[a]?:=λa=>by rw[m];simp only[World.cell?,B];simp
    have ac:∀(a:Nat) (c:List D),(((A.drop q).take E).map λc=>c.map (snap h n))[a]?=some c→∃k,A[q+a]?=some k∧c=k.map (snap h n):=λa c i=>by
     rw[dK]at i;cases e:((A.drop q).take E)[a]? with
     |none=>rw[e]at i;cases i
     | some k =>
      rw[e]at i;injection i with i;rw[dX]at e;split at e
      ·rw[hC]at e;exact⟨k,e,i.symm⟩
      ·cases e
    have F:∀(a:Nat) (c:List D),(((A.drop q).take E).map λc=>c.map (snap h n))[a]?=some c→∀(f:Nat) (d:D),c[f]?=some d→∃v,o[(q+a)*M+f]?=some v∧v.oneCell'=true∧O g1 v d:=λa c i f d j=>by
     obtain⟨k,u,rfl⟩:=ac a c i;rw[dK]at j;cases e:k[f]? with
     |none=>rw[e]at j;cases j
     | some t =>
      rw[e]at j;injection j with j;subst j;obtain⟨v,l,x,y⟩:=r.cell _ k u f t e;exact⟨v,l,x,Q v t y⟩
    have H:∀{K:Nat} {v:Value},o[K]?=some v→o.getD K undef=v:=λ{K v} e=>by rw[cM,e];rfl
    have X:z.b<g1.w.heap.size:=by rw[m];exact(je.1 B).1
    refine .sl ⟨z.b,q*z.Z,none⟩ E U aj false _ (by simp;omega) (by omega) ab (by simp) (by have:=r.pos;omega) (λc ag=>?_) (λ_=>⟨rfl,X,N _⟩) (λa f=>o.getD ((q+a)*M+f) undef) (λa c i f d j=>?_) (λa c i f d j=>?_) (λa c i f d j=>?_)
    ·obtain⟨k,u,rfl⟩:=eE.1 ag;rw[gw,r.row k (hF (fm u))];omega
    ·obtain⟨v,l,x,y⟩:=F a c i f d j;rw[H l,aa];rw[← l];congr 1;rw[← ae,ai,dD]
    ·obtain⟨v,l,x,y⟩:=F a c i f d j;rw[H l];exact x
    ·obtain⟨v,l,x,y⟩:=F a c i f d j;rw[H l];exact y
   ·exact s.fx G
  ·rename_i o;obtain⟨aq,rfl,P,u⟩:=s.jU;refine .kZ (.of (by simp[P.length]) λf v d ah p=>?_) u;rw[dK]at p;cases e:o[f]? with
   |none=>rw[e]at p;cases p
   | some t =>
    rw[e]at p;injection p with p;subst p;exact Q v t (P.get f v t ah e)
  ·exact s.fx G
theorem lg{g g':Gh}{v:Value}{d:D}(h:O g v d)(a:d.lg=true):O g' v d:=by
 cases h<;>first|exact .bool _|exact .int _ _|exact .str _|exact .e5|exact .J|exact .bF|(cases a)
theorem Dc{g g':Gh}{v:Value}{d:D}(h:O g v d)(a:d.rb=true):O g' v d:=by
 unfold D.rb at a;split at a
 ·rename_i i;obtain⟨j,rfl,c⟩:=h.rF;exact .om (.of c.length λf v d e b=>lg (c.get f v d e b) ((eD.1 a) d (dB b)))
 ·exact lg h a
theorem qa {g:Gh} {h:Y} (hi:Inv g h) {n0:Nat} {g1:Gh} (t:g1.w=g.w) (aw:g1.ms=g.ms) (ag:∀b,g1.L b→g.L b∧((∃(o:Nat) (m:Me),o<n0∧g.ms[o]?=some m∧m.b=b∧∃T Z rows,h[o]?=some (.row T Z rows))∨∀(o:Nat) (m:Me),g.ms[o]?=some m→m.b≠b)):∀(n:Nat) (v:Value) (d:D),O g v d→O g1 v (aW n0 h n d):=by
 have F:fV g g1:=⟨by rw[t],by rw[t],by rw[t],by rw[t];exact aX _,λo m H=>by rw[aw];exact H,λb E=>⟨⟨by rw[t];exact E.1,λG=>E.2 (ag b G).1⟩,by rw[t]⟩⟩
 intro n
 induction n with
 |zero=>intro v d s;exact s.fx F
 | succ n P =>
  intro v d s;unfold aW;split
  ·rename_i Z o z Q;split
   ·rename_i ap;split
    ·rename_i af R rows ak;have bg:=cC ap;obtain⟨m,U,rfl,ax,H,ai,bf,bd,X⟩:=s.hW;obtain⟨bi,r,N,A⟩:=hi.live o af R rows ak;rw[H]at N;injection N with N;subst N;have a6:=A.fI;have be:=A.len;obtain⟨bb,E,_⟩:=A.eA;have av:¬g1.L m.b:=λG=>by
      rcases(ag m.b G).2 with⟨M,a7,bh,a1,a2,al,ba,a9,a3⟩|a0
      ·have:=hi.inj M o al ba af R a9 rows a7 m a3 ak a1 H a2;omega
      ·exact a0 o m H rfl
     have ar:∀a,g1.w.cell? ⟨m.b,a,none⟩=r[a]?:=λa=>by rw[t];simp only[World.cell?,E];simp
     have ab:∀(a:Nat) (c:List D),(((rows.drop z).take Q).map λc=>c.map (aW n0 h n))[a]?=some c→∃j,rows[z+a]?=some j∧c=j.map (aW n0 h n):=λa c f=>by
      rw[dK]at f;cases i:((rows.drop z).take Q)[a]? with
      |none=>rw[i]at f;cases f
      | some j =>
       rw[i]at f;injection f with f;rw[dX]at i;split at i
       ·rw[hC]at i;exact⟨j,i,f.symm⟩
       ·cases i
     have x:∀(a:Nat) (c:List D),(((rows.drop z).take Q).map λc=>c.map (aW n0 h n))[a]?=some c→∀(e:Nat) (d:D),c[e]?=some d→∃v,r[(z+a)*R+e]?=some v∧v.oneCell'=true∧O g1 v d:=λa c f e d k=>by
      obtain⟨j,q,rfl⟩:=ab a c f;rw[dK]at k;cases i:j[e]? with
      |none=>rw[i]at k;cases k
      | some l =>
       rw[i]at k;injection k with k;subst k;obtain⟨v,u,B,C⟩:=A.cell _ j q e l i;exact⟨v,u,B,P v l C⟩
     have aa:∀{M:Nat} {v:Value},r[M]?=some v→r.getD M undef=v:=λ{M v} i=>by rw[cM,i];rfl
     have ao:m.b<g1.w.heap.size:=by rw[t];exact(je.1 E).1
     refine .sl ⟨m.b,z*m.Z,none⟩ Q U Z false _ (by simp;omega) (by omega) X (by simp) (by have:=A.pos;omega) (λc ac=>?_) (λ_=>⟨rfl,ao,av⟩) (λa e=>r.getD ((z+a)*R+e) undef) (λa c f e d k=>?_) (λa c f e d k=>?_) (λa c f e d k=>?_)
     ·obtain⟨j,q,rfl⟩:=eE.1 ac;rw[gw,A.row j (hF (fm q))];omega
     ·obtain⟨v,u,B,C⟩:=x a c f e d k;rw[aa u,ar];rw[← u];congr 1;rw[← ax,a6,dD]
     ·obtain⟨v,u,B,C⟩:=x a c f e d k;rw[aa u];exact B
     ·obtain⟨v,u,B,C⟩:=x a c f e d k;rw[aa u];exact C
    ·exact s.fx F
   ·exact s.fx F
  ·rename_i r;obtain⟨ae,rfl,y,q⟩:=s.jU;refine .kZ (.of (by simp[y.length]) λe v d ad p=>?_) q;rw[dK]at p;cases i:r[e]? with
   |none=>rw[i]at p;cases p
   | some l =>
    rw[i]at p;injection p with p;subst p;exact P v l (y.get e v l ad i)
  ·rename_i r;obtain⟨ae,rfl,y⟩:=s.rF;refine .om (.of (by simp[y.length]) λe v d ad p=>?_);rw[dK]at p;cases i:r[e]? with
   |none=>rw[i]at p;cases p
   | some l =>
    rw[i]at p;injection p with p;subst p;exact P v l (y.get e v l ad i)
  ·rename_i Z an rows;cases s with
   | sl am a8 U Z bc rows ai ay X au a5 ac ah ae aq q y =>
    have ab:∀(a:Nat) (c:List D),(rows.map λc=>c.map (aW n0 h n))[a]?=some c→∃j,rows[a]?=some j∧c=j.map (aW n0 h n):=λa c f=>by
     rw[dK]at f;cases i:rows[a]? with
     |none=>rw[i]at f;cases f
     | some j =>
      rw[i]at f;injection f with f;exact⟨j,rfl,f.symm⟩
    have x:∀(a:Nat) (c:List D),(rows.map λc=>c.map (aW n0 h n))[a]?=some c→∀(e:Nat) (d:D),c[e]?=some d→∃j l,rows[a]?=some j∧j[e]?=some l∧d=aW n0 h n l:=λa c f e d k=>by
     obtain⟨j,q,rfl⟩:=ab a c f;rw[dK]at k;cases i:j[e]? with
     |none=>rw[i]at k;cases k
     | some l =>
      rw[i]at k;injection k with k;exact⟨j,l,q,i,k.symm⟩
    refine .sl am a8 U Z an _ (by simpa using ai) ay X au a5 (λc a4=>?_) (λaz=>?_) ae (λa c f e d k=>?_) (λa c f e d k=>?_) (λa c f e d k=>?_)
    ·obtain⟨j,q,rfl⟩:=eE.1 a4;rw[gw];exact ac j q
    ·have aj:rows≠[]:=λG=>az (by rw[G];rfl)
     exact⟨(ah aj).1,(F.V _ (ah aj).2).1⟩
    ·obtain⟨j,l,I,K,rfl⟩:=x a c f e d k;rw[t];exact aq a j I e l K
    ·obtain⟨j,l,I,K,rfl⟩:=x a c f e d k;exact q a j I e l K
    ·obtain⟨j,l,I,K,rfl⟩:=x a c f e d k;exact P _ l (y a j I e l K)
  ·exact s.fx F
theorem xM{z:bC}(M:eH P X z){C:FuncId}{args:List D}{h h':Y}{d:D}(l:hN z C args h=some (d,h')):∀g vs,Inv g h→eC g X.gl→aI g vs args→jK P C vs g h' d:=by
 unfold hN at l;split at l
 ·rename_i A f N;split at l
  ·rename_i ae;injection l with l;injection l with Q R;subst Q;subst R;intro g vs s aa H
   let g1:Gh:=⟨g.w,g.ms,λ_=>False⟩
   have T:fV g g1:=⟨rfl,rfl,rfl,aX _,λm ao u=>u,λb i=>⟨⟨i.1,λr=>r⟩,rfl⟩⟩
   have F:∀(m n q:Nat) (r1:List (List D)),(h.map λ_=>Ob.dead)[m]?≠some (.row n q r1):=λm n q r1 a=>by
    rw[dK]at a;cases I:h[m]? with
    |none=>rw[I]at a;cases a
    |some al=>rw[I]at a;injection a with a;cases a
   have ab:Inv g1 (h.map λ_ =>.dead):=⟨by show g.ms.length=_;simp[s.len],λm n q r1 a=>absurd a (F m n q r1),λm ar n q am av r1 au ap aq t=>absurd t (F m n q r1),λb i=>i.elim,s.msb⟩
   have ac:aI g1 vs (args.map (snap h 3)) :=.of (by simp[H.length]) λK j al t f=>by
    rw[dK]at f;cases a:args[K]? with
    |none=>rw[a]at f;cases f
    | some B =>
     rw[a]at f;injection f with f;subst f;exact Dk (g1:=g1) s rfl rfl (λ_ r=>r) 3 j B (H.get K j B t a)
   have E:∀(j:Value) (c:World),(∃k:Gh,k.w=c∧aH g1 k∧Inv k f∧O k j A)→∃e:Gh,e.w=c∧aH g e∧Inv e h∧O e j A:=by
    intro j c ⟨k,p,o,an,ad⟩;have v:∀b,b<g.w.heap.size→c.heap[b]?=g.w.heap[b]?:=λb i=>by
     rw[← p];exact(o.V b ⟨i,λr=>r⟩).2
    let e:Gh:=⟨c,g.ms,g.L⟩
    have G:aH g e :=.oq ⟨by show c.os=_;rw[← p];exact o.os,by show c.tape=_;rw[← p];exact o.tape,by show c.output=_;rw[← p];exact o.output,by show _≤c.heap.size;rw[← p];exact o.size,λ_ _ u=>u,λb i=>⟨⟨by show b<c.heap.size;rw[← p];exact fY i.1 o.size,i.2⟩,v b i.1⟩⟩ rfl rfl v;exact⟨e,rfl,G,s.same G rfl rfl v,Dc ad ae⟩
   rcases M _ _ _ _ _ N g1 vs ab (aa.fx T) ac with⟨x,y⟩|⟨j,k,x,y,af,ag⟩
   ·exact .inl ⟨x,y.mono E⟩
   ·obtain⟨e,ah,ai,aj,ak⟩:=E j k.w ⟨k,rfl,y,af,ag⟩;exact .inr ⟨j,e,by rw[ah];exact x,ai,aj,ak⟩
  ·cases l
 ·cases l
theorem vO{g:Gh}{h:Y}(hi:Inv g h):∃g1:Gh,g1.w=g.w∧aH g g1∧Inv g1 (h.map λ_ =>.dead)∧∀n v d,O g v d→O g1 v (aW 0 h n d):=by
 let g1:Gh:=⟨g.w,g.ms,λe=>g.L e∧∀(c:Nat) (l:Me),g.ms[c]?=some l→l.b≠e⟩
 have j:∀(c f i:Nat) (r1:List (List D)),(h.map λ_=>Ob.dead)[c]?≠some (.row f i r1):=λc f i r1 b=>by
  rw[dK]at b;cases k:h[c]? with
  |none=>rw[k]at b;cases b
  |some z=>rw[k]at b;injection b with b;cases b
 refine⟨g1,rfl,⟨⟨rfl,rfl,rfl,aX _,λ_ _ p=>p,λe a=>⟨⟨a.1,λo=>a.2 o.1⟩,rfl⟩⟩,λe a=>⟨⟨a.1,⟨a.2.1,a.2.2⟩,a.2.2⟩,rfl⟩⟩,
  ⟨by show g.ms.length=_;simp[hi.len],λc f i r1 b=>absurd b (j c f i r1),λc u f i r y r1 x s t m=>absurd m (j c f i r1),λe a=>hi.L e a.1,hi.msb⟩,λn v d q=>?_⟩
 exact qa (g1:=g1) hi rfl rfl (λe a=>⟨a.1,.inr a.2⟩) n v d q
theorem qV{n0:Nat}{h:Y}{o T Z:Nat}{rows:List (List D)}(a:(j7 n0 h)[o]?=some (.row T Z rows)):o<n0∧h[o]?=some (.row T Z rows):=by
 unfold j7 at a;by_cases d:o<(h.take n0).length
 ·rw[cU d,dX]at a;split at a
  ·rename_i c;exact⟨c,a⟩
  ·cases a
 ·rw[fW (by omega),dK]at a;cases b:(h.drop n0)[o - (h.take n0).length]? with
  |none=>rw[b]at a;cases a
  |some e=>rw[b]at a;injection a with a;cases a
theorem vR{g:Gh}{h:Y}(hi:Inv g h)(n0:Nat):∃g1:Gh,g1.w=g.w∧aH g g1∧Inv g1 (j7 n0 h)∧∀n v d,O g v d→O g1 v (aW n0 h n d):=by
 let g1:Gh:=⟨g.w,g.ms,λe=>g.L e∧((∃(b:Nat) (f:Me),b<n0∧g.ms[b]?=some f∧f.b=e∧∃p P M,h[b]?=some (.row p P M))∨∀(b:Nat) (f:Me),g.ms[b]?=some f→f.b≠e)⟩
 have A:(j7 n0 h).length=h.length:=by simp[j7];omega
 have o:aH g g1:=⟨⟨rfl,rfl,rfl,aX _,λ_ _ i=>i,λe a=>⟨⟨a.1,λz=>a.2 z.1⟩,rfl⟩⟩,λe a=>⟨⟨a.1,⟨a.2.1,.inr a.2.2⟩,a.2.2⟩,rfl⟩⟩
 refine⟨g1,rfl,o,
  ⟨by show g.ms.length=_;rw[A];exact hi.len,λb k m r1 j=>?_,λb H k m q N r1 I F G s l=>hi.inj b H k m q N r1 I F G (qV s).2 (qV l).2,λe a=>hi.L e a.1,hi.msb⟩,λn v d C=>?_⟩
 ·obtain⟨B,j⟩:=qV j;obtain⟨f,r,i,c⟩:=hi.live b k m r1 j;refine⟨f,r,i,c.eA,c.fI,c.pos,⟨c.hL,.inl ⟨b,f,B,i,rfl,_,_,_,j⟩⟩,c.len,c.le,c.room,c.row,λD K l E d t=>?_⟩;obtain⟨v,u,x,y⟩:=c.cell D K l E d t;exact⟨v,u,x,y.ext o⟩
 ·exact qa (g1:=g1) hi rfl rfl (λe a=>a) n v d C
theorem vU{g g1:Gh}{h:Y}(c:∀n v d,O g v d→O g1 v (aW 0 h n d)){vs:List Value}{ds:List D}(b:aI g vs ds):aI g1 vs (ds.map (aW 0 h 3)):=by
 induction b with
 |nil=>exact .nil
 |cons a _ e=>exact .cons (c 3 _ _ a) e
theorem xS{f:bC}(l:eH P X f){i:FuncId}{args:List D}{h h':Y}{d:D}(m:tv f i args h=some (d,h')):∀g vs,Inv g h→eC g X.gl→aI g vs args→jK P i vs g h' d:=by
 intro g vs o n q;obtain⟨k,r,b,p,s⟩:=vO o;have:=l _ _ _ _ _ m k vs p (n.ext b) (vU s q);unfold jK at this ⊢;rw[r]at this;rcases this with⟨c,e⟩|⟨j,a,c,e,t,u⟩
 ·exact .inl ⟨c,e.mono λj z ⟨a,v,w,x,y⟩=>⟨a,v,b.trans w,x,y⟩⟩
 ·exact .inr ⟨j,a,c,b.trans e,t,u⟩
theorem xU{c:bC}(b:eH P X c){f:Nat}{e:FuncId}{args:List D}{h h':Y}{d:D}(a:calls f c e args h=some (d,h')):∀g vs,Inv g h→eC g X.gl→aI g vs args→jK P e vs g h' d:=by
 unfold calls at a;split at a
 ·exact b _ _ _ _ _ a
 ·exact xM b a
 ·exact xS b a
theorem DT(v:aZ P X.T){g:Gh}{h h':Y}(hi:Inv g h){ρ:Operand→Value}{F:Nat}(o:Oper){ds:List D}{d:D}(w:aI g (o.op.operands.toList.map ρ) ds)(a:km F X.T h o.op ds=some (d,h')):h8 P ρ o g h' d:=by
 unfold km at a;split at a
 ·obtain⟨u,r,p,q,s⟩:=vO hi;obtain⟨k,l,m,b,j,c,e,i⟩:=oQ v q o (vU s w) a;rw[r]at b;exact⟨k,l,m,b,j,p.trans c,e,i⟩
 ·cases f:jG X.T h o.op ds with
  |none=>rw[f]at a;cases a
  | some z =>
   rw[f]at a;obtain⟨C,E⟩:=z;simp only[fF,iN]at a;obtain⟨k,l,m,b,j,c,e,i⟩:=oQ v hi o w f;unfold ta at a;split at a
   ·rename_i I B r1 H n;simp only[ph]at a;obtain⟨rfl,rfl⟩:=a;obtain⟨u,r,p,q,s⟩:=vR e B;refine⟨k,l,u,b,by rw[r];exact j,c.trans p,q,?_⟩;rcases i with⟨A,t,y⟩|⟨t,x⟩
    ·exact .inl ⟨A,t,s 3 _ _ y⟩
    ·simp only at n;rw[n]at x;cases x
   ·simp only[ph]at a;obtain⟨rfl,rfl⟩:=a;exact⟨k,l,m,b,j,c,e,i⟩
 ·rename_i G;cases f:jG X.T h o.op ds with
  |none=>rw[f]at a;cases a
  | some z =>
   rw[f]at a;obtain⟨C,E⟩:=z;simp only[fF,iN]at a;obtain⟨k,l,m,b,j,c,e,i⟩:=oQ v hi o w f;unfold s9 at a;split at a
   ·rename_i I B r1 H n;simp only[ph]at a;obtain⟨rfl,rfl⟩:=a;obtain⟨u,r,p,q,s⟩:=vR e G;refine⟨k,l,u,b,by rw[r];exact j,c.trans p,q,?_⟩;simp only at n;subst n;rcases i with⟨A,t,y⟩|⟨t,x⟩
    ·exact .inl ⟨A,t,s 3 _ _ y⟩
    ·cases x
   ·simp only[ph]at a;obtain⟨rfl,rfl⟩:=a;exact⟨k,l,m,b,j,c,e,i⟩
 ·exact oQ v hi o w a
theorem Cl(c:aZ P X.T){t:Nat}{m:String}{a:FuncId}(f:my X.T t m=some a){v:Value}{w:World}:(method (P.types.size+Made.depth) t v m).run P w = .ok (a,v) w:=by
 obtain⟨k,n,j,b,d,h,i,g⟩:=vw c f;obtain⟨l,e⟩:=vv P;simp only[dU,run_program,dY,e,method,typeInfo,b,gk,d,h,follow,fp,i,receiverAt,bI g,Place.get]
theorem rH{o:Oper}{y:Nat→Option Bool}(h:o.guard=none):Region.wanted o y=true:=by simp[Region.wanted,h]
theorem DZ{d:Array Oper}{a:Array Value}{j t:Nat}{c:Bool}(e:(d[j]?).bind (·.dst)=some t)(h:a.getD t undef = .bool c):yielded d a j=some c:=by
 simp only[yielded,e,fF];rw[cM]at h;cases b:a[t]? with
 |none=>rw[b]at h;cases h
 |some f=>rw[b]at h;simp at h;subst h;rfl
theorem D0{b:Array Oper}{a:Array Value}{j t:Nat}(c:(b[j]?).bind (·.dst)=some t)(h:a.getD t undef=undef):yielded b a j=none:=by
 simp only[yielded,c,fF];rw[cM]at h;cases d:a[t]? with
 |none=>rfl
 |some e=>rw[d]at h;simp at h;subst h;rfl
def ky(P:Program)(b:Array Oper)(Q:Exit→Act→World→Prop)(o:Oper)(a:Act)(g:Gh)(next:Act→World→Prop):Prop:=
 (Region.wanted o (yielded b a.tmps)=true∧o.wp P a g.w next Q)∨(Region.wanted o (yielded b a.tmps)=false∧next (a.put o.dst undef) g.w)
def Zb(g:Gh)(b:Nat)(E:TypeId)(i:TI):Prop:=∃a:Array Value,g.w.heap[b]?=some (.cells a E (0,0))∧a.size=i.Z∧∀(e:Nat) (d:D),i.zero[e]?=some d→∃c,a[e]?=some c∧c.oneCell'=true∧∀g,O g c d
def ih(T:aM)(d g':Gh)(o:Oper)(v:Value):Prop:=∃b c a,o.op = .alloc b∧T b=some c∧0<c.Z∧v = .pointer (some ⟨a,0,none⟩)∧d.w.heap.size≤a∧g'.bH a∧Zb g' a b c
theorem ih.ext{T:aM}{b g g':Gh}{o:Oper}{v:Value}(h:ih T b g o v)(d:aH g g'):ih T b g' o v:=by
 obtain⟨e,r,a,i,j,k,l,m,c,f,n,p,q⟩:=h;exact⟨e,r,a,i,j,k,l,m,(d.bH a c).1,f,(d.bH a c).2.trans n,p,q⟩
theorem ih.Cu{T:aM}{a g g':Gh}{o:Oper}{v:Value}(h:ih T g g' o v)(l:a.w.heap.size≤g.w.heap.size):ih T a g' o v:=by
 obtain⟨b,m,c,d,e,f,i,j,k⟩:=h;exact⟨b,m,c,d,e,f,i,g9 l j,k⟩
theorem A8(N:aZ P X.T){g:Gh}{h:Y}(hi:Inv g h){o:Oper}{d:D}(a:mj X.T o.op=some d)(ρ:Operand→Value):d = .any∧∃v w' g',(execOp ρ o).run P g.w = .ok (.value v) w'∧g'.w=w'∧aH g g'∧Inv g' h∧ih X.T g g' o v:=by
 unfold mj at a;split at a
 case h_2=>cases a
 rename_i y C;split at a
 case h_2=>cases a
 rename_i p z;split at a
 case h_2=>cases a
 rename_i b;injection a with a;have R:0<p.Z:=cC b;obtain⟨s,aa,ac,ab,F⟩:=N.jH z;obtain⟨af,ah,aj,ai,ae,gd⟩:=o;simp only at C;subst C
 let g':Gh:=⟨g.w.alloc (.cells s.cells y),g.ms,λc=>g.L c∨c=g.w.heap.size⟩
 have j:g'.w.heap.size=g.w.heap.size+1:=n2 g.w _;have u:∀c,c<g.w.heap.size→g'.w.heap[c]?=g.w.heap[c]?:=λc b=>j3 _ _ b
 have Q:fV g g':=⟨rfl,rfl,rfl,by rw[j];omega,λ_ _ t=>t,λc b=>⟨⟨by rw[j];have:=b.1;omega,λn=>by
  rcases n with n|n
  ·exact b.2 n
  ·have:=b.1;omega⟩,u c b.1⟩⟩
 have B:aH g g':=⟨Q,λc b=>⟨⟨by rw[j];have:=b.1;omega,.inl b.2.1,b.2.2⟩,u c b.1⟩⟩
 have ag:∀(i:Nat) (l r:Nat) (r1:List (List D)) (k:Me) (m:Array Value),Live g k l r r1 m→k.b<g.w.heap.size:=λi l r r1 k m a=>hi.g8 a.hL
 refine⟨a.symm,_,_,g',by simp only[execOp,Instr.alloc,dU,aa g.w,dY,newVar,newRow,lf,fp];rfl,rfl,B,⟨hi.len,λi l r r1 e=>?_,hi.inj,λc b=>?_,λi x e=>by rw[j];have:=hi.msb i x e;omega⟩,?_⟩
 ·obtain⟨k,m,t,a⟩:=hi.live i l r r1 e;refine⟨k,m,t,?_,a.fI,a.pos,.inl a.hL,a.len,a.le,a.room,a.row,λp ad G q d H=>?_⟩
  ·rw[u k.b (hi.g8 a.hL)];exact a.eA
  ·obtain⟨v,I,K,M⟩:=a.cell p ad G q d H;exact⟨v,I,K,M.ext B⟩
 ·rw[j];rcases b with b|b
  ·have:=hi.L c b;omega
  ·omega
 ·refine⟨y,p,g.w.heap.size,rfl,z,R,rfl,aX _,⟨by rw[j];omega,.inr rfl,λi x e=>by have:=hi.msb i x e;omega⟩,s.cells,qc g.w _,ab,λq d f=>?_⟩;rw[ac,dK]at f;cases e:s.cells.toList[q]? with
  |none=>rw[e]at f;cases f
  | some v =>
   rw[e]at f;injection f with f;refine⟨v,by simpa using e,F v (dB e),λE=>?_⟩;exact(kb E s.cells.toList).get q v d e (by rw[dK,e,← f];rfl)
theorem mB (B:aZ P X.T) {af:bC} (a1:eH P X af) {V ad:List Nat} {l:List Oper} {o:Oper} {az:DE} {h h':Y} {d:D} (c:eO X af V ad l o az h=some (d,h')) {g:Gh} {a:Act} (hi:Inv g h) (al:eC g X.gl)
  (a2:∀t d,t∈fA l o→aQ az t=some d→O g (a.tmps.getD t undef) d) {Q:Exit→Act→World→Prop} {next:Act→World→Prop}
  (y:∀g' v,aH g g'→Inv g' h'→O g' v d→(cG X.T V o = .dQ→ih X.T g g' o v)→next (a.put o.dst v) g'.w):ky P l.toArray Q o a g next:=by
 unfold eO at c;split at c
 ·cases c
 rename_i r a8;have G:aI g (o.op.operands.toList.map a.eval) r:=ud al (λt d aa c=>a2 t d (lC _ (gI.2 ⟨.tmp t,aa,rfl⟩)) c) a8;have aw:cG X.T V o ≠ .dQ→g4 X.T o.op r=some d→h'=h→o.wp P a g.w next Q:=λf b am=>by
  subst am;obtain⟨v,ac,g',p,k,n,an,a5,bb,s⟩:=vN B (λK C=>hi.g8 C) o G b;unfold Oper.wp;rw[p,jR];rw[← k];exact y g' v n (hi.same n an a5 bb) s (λh=>absurd h f)
 have ax:cG X.T V o ≠ .dQ→h3 X.T h o.op r=some d→h'=h→o.wp P a g.w next Q:=λf b am=>by
  subst am;obtain⟨v,p,s⟩:=CK B hi o G b;unfold Oper.wp;rw[p,jR];exact y g v (aH.refl g) hi s (λh=>absurd h f)
 have ay:cG X.T V o ≠ .dQ→km (iE o.dst ad) X.T h o.op r=some (d,h')→o.wp P a g.w next Q:=λf b=>by
  obtain⟨bq,ac,g',p,k,n,x,z⟩:=DT B hi o G b;unfold Oper.wp;rw[p];rcases z with⟨v,rfl,s⟩|⟨rfl,rfl⟩
  ·rw[jR,← k];exact y g' v n x s (λh=>absurd h f)
  ·rw[Oper.upon_skip,← k];exact y g' undef n x .bF (λh=>absurd h f)
 have au:cG X.T V o ≠ .dQ→∀(u:FuncId) (ar:List Value),(execOp a.eval o).run P g.w=(callFunc u ar.toArray).run P g.w→jK P u ar g h' d→o.wp P a g.w next Q:=λf u ar p a6=>by
  unfold Oper.wp;rcases a6 with⟨ap,bh⟩|⟨v,g',ap,n,x,s⟩
  ·rw[p,ap,Oper.upon_enter];refine Calls.mono bh ?_;rintro _ ac ⟨v,rfl,g',k,n,x,s⟩;show next (a.put o.dst v) ac;rw[← k];exact y g' v n x s (λh=>absurd h f)
  ·rw[p,ap,jR];exact y g' v n x s (λh=>absurd h f)
 have av:cG X.T V o ≠ .dQ→gN X.T af (iE o.dst ad) o.op r h=some (d,h')→o.wp P a g.w next Q:=λf b=>by
  obtain⟨bm,br,bv,bt,bk,gd⟩:=o;unfold gN at b;rw[qd]at b;split at b
  case h_2=>cases b
  rename_i ae bc;subst bc;obtain⟨bl,args,bu⟩:=ae;split at b
  case h_3=>cases b
  ·rename_i a0 E;split at b
   case h_2=>cases b
   rename_i u first ag I
   simp only at E;subst E;have ao:aI g (a.eval a0::args.toList.map a.eval) (.fn (.func u) first ag::I):=by simpa[Op.operands,Call.operands]using G
   cases ao with
   | cons F ai =>
    generalize z:a.eval a0=H at F;cases F with
    | fn bn first ag H aq i j bj bi =>
     have be:aI g (H++args.toList.map a.eval++aq) (first++I++ag):=((aI.of i bj).append ai).append (.of j bi);refine au f u _ ?_ (xU a1 b g _ hi al be);have aj:H.toArray++(Array.map a.eval args++aq.toArray)=(H++args.toList.map a.eval++aq).toArray:=by simp
     simp only[execOp,resolve,invoke,z,Deferred.ofValue,dU,fp,dY,rO];rw[aj]
  ·rename_i a4 bp E;simp only at E;subst E;unfold eU at b;split at b
   case h_2=>cases b
   rename_i t q I;split at b
   case h_2=>cases b
   rename_i u an;have ao:aI g (a.eval a4::args.toList.map a.eval) (.iface t q::I):=by simpa[Op.operands,Call.operands]using G
   cases ao with
   | cons F ai =>
    generalize z:a.eval a4=H at F;cases F with
    | iface t v q e =>
     refine au f u (v::args.toList.map a.eval) ?_ (a1 _ _ _ _ _ b g _ hi al (.cons e ai));have aj : #[v]++Array.map a.eval args=(v::args.toList.map a.eval).toArray:=by simp
     have ba:=Cl B an (v:=v) (w:=g.w);simp only[execOp,resolve,invoke,z,dU,fp,dY];simp only[Array.getElem?_append,pe,List.length_singleton,Nat.lt_one_iff,bL,Nat.zero_lt_one,sK,kr,callMethod,dU];have a9:(#[Value.iface t v]++Array.map a.eval args).extract 1 (#[Value.iface t v]++Array.map a.eval args).size=Array.map a.eval args:=by
      apply Array.ext';simp;exact fE (by simp)
     simp only[run_program,dY,ba,a9,aj]
 have skip:cG X.T V o ≠ .dQ→d = .bF→h'=h→next (a.put o.dst undef) g.w:=λf i j=>by
  subst i;subst j;exact y g undef (aH.refl g) hi .bF (λh=>absurd h f)
 split at c
 ·rename_i A;refine .inl ⟨rH A,?_⟩;split at c
  ·rename_i m;cases b:g4 X.T o.op r with
   |none=>rw[b]at c;cases c
   | some M =>
    rw[b]at c;injection c with c;injection c with i j;subst i;exact aw (by rw[m];intro h;cases h) b j.symm
  ·rename_i m;cases b:h3 X.T h o.op r with
   |none=>rw[b]at c;cases c
   | some M =>
    rw[b]at c;injection c with c;injection c with i j;subst i;exact ax (by rw[m];intro h;cases h) b j.symm
  ·rename_i m;exact ay (by rw[m];intro h;cases h) c
  ·rename_i m;exact av (by rw[m];intro h;cases h) c
  ·cases b:mj X.T o.op with
   |none=>rw[b]at c;cases c
   | some M =>
    rw[b]at c;injection c with c;injection c with i j;subst i;obtain⟨rfl,v,ac,g',p,k,n,x,bd⟩:=A8 B hi b a.eval;unfold Oper.wp;rw[p,jR,← k];subst j;exact y g' v n x (.any v) (λ_=>bd)
 ·rename_i bg K A;split at c
  ·cases c
  rename_i t aa;split at c
  ·cases c
  rename_i N a7;have bf:t∈fA l o:=by
   unfold fA;rw[A];exact List.mem_append_right _ (by simp[aa])
  have R:=a2 t N bf a7;have a3:(l.toArray[bg]?).bind (·.dst)=some t:=by simpa using aa
  have L:∀{q:Option (D × Y)},fc N K h q=some (d,h')→(Region.wanted o (yielded l.toArray a.tmps)=true∧q=some (d,h'))∨(Region.wanted o (yielded l.toArray a.tmps)=false∧d = .bF∧h'=h):=λ{q} e=>by
   unfold fc at e;split at e
   ·rename_i ae;have C:a.tmps.getD t undef = .bool ae:=by
     generalize z:a.tmps.getD t undef=v at R;cases R;rfl
    have ab:=DZ a3 C;split at e
    ·rename_i ak;exact .inl ⟨by simpa[Region.wanted,A,ab]using ak,e⟩
    ·rename_i ak;injection e with e;injection e with i j;exact .inr ⟨by simpa[Region.wanted,A,ab]using ak,i.symm,j.symm⟩
   ·have C:a.tmps.getD t undef=undef:=by
      generalize z:a.tmps.getD t undef=v at R;cases R;rfl
    have ab:=D0 a3 C;injection e with e;injection e with i j;exact .inr ⟨by simp[Region.wanted,A,ab],i.symm,j.symm⟩
   ·cases e
  have conv:∀{q:Option D},((gd N K q).bind λd=>some (d,h))=fc N K h (q.bind λd=>some (d,h)):=λ{q}=>by
   unfold gd fc;split
   ·split<;>rfl
   ·rfl
   ·rfl
  split at c
  ·rename_i m;have f:cG X.T V o ≠ .dQ:=by rw[m];intro h;cases h
   rw[conv]at c;rcases L c with⟨k,e⟩|⟨k,i,j⟩
   ·cases b:g4 X.T o.op r with
    |none=>rw[b]at e;cases e
    | some M =>
     rw[b]at e;injection e with e;injection e with i j;subst i;exact .inl ⟨k,aw f b j.symm⟩
   ·exact .inr ⟨k,skip f i j⟩
  ·rename_i m;have f:cG X.T V o ≠ .dQ:=by rw[m];intro h;cases h
   rw[conv]at c;rcases L c with⟨k,e⟩|⟨k,i,j⟩
   ·cases b:h3 X.T h o.op r with
    |none=>rw[b]at e;cases e
    | some M =>
     rw[b]at e;injection e with e;injection e with i j;subst i;exact .inl ⟨k,ax f b j.symm⟩
   ·exact .inr ⟨k,skip f i j⟩
  ·rename_i m;have f:cG X.T V o ≠ .dQ:=by rw[m];intro h;cases h
   rcases L c with⟨k,e⟩|⟨k,i,j⟩
   ·exact .inl ⟨k,ay f e⟩
   ·exact .inr ⟨k,skip f i j⟩
  ·rename_i m;have f:cG X.T V o ≠ .dQ:=by rw[m];intro h;cases h
   rcases L c with⟨k,e⟩|⟨k,i,j⟩
   ·exact .inl ⟨k,av f e⟩
   ·exact .inr ⟨k,skip f i j⟩
  ·cases c
end
end Go.Pi
namespace Go.Eng
abbrev ff:=@Option.bind_eq_some_iff
abbrev fD:=@List.length_nil
abbrev ib:=@List.filter_cons
abbrev jg:=@List.filterMap_cons
abbrev kp:=@Function.comp_def
abbrev lB:=@List.map_map
end Go.Eng
namespace Go.Pi
open Go.Eng
section
variable {P:Program} {X:Cx} {R:Type}
theorem q0{e:Nat}{dst:Option Nat}{d:D}{c:DE}{h:Y}{b:DE→Y→Option R}{r:R}(a:fe e dst d c h b=some r):(dst=none∧b c h=some r)∨(∃t,dst=some t∧t<e∧b ((t,d)::c) h=some r):=by
 unfold fe at a;split at a
 ·exact .inl ⟨rfl,a⟩
 ·rename_i t;split at a
  ·rename_i f;exact .inr ⟨t,rfl,cC f,a⟩
  ·cases a
theorem ou{f:bC}{i:Nat}{V e:List Nat}{l:List Oper}{o:Oper}{a:DE}{h:Y}{c:DE→Y→Option R}{r:R}(b:gZ X f i V e l o a h c=some r):
  ∃d h',eO X f V e l o a h=some (d,h')∧((o.dst=none∧c a h'=some r)∨(∃t,o.dst=some t∧t<i∧c ((t,d)::a) h'=some r)):=by
 rw[ot]at b;cases g:eO X f V e l o a h with
 |none=>rw[g]at b;cases b
 | some j =>
  rw[g]at b;obtain⟨d,h'⟩:=j;exact⟨d,h',rfl,q0 b⟩
theorem zU{V:List Nat}{o p:Oper}{E d:Nat}{x:Operand}(h:kO V o p=some (E,d,x)):o.op = .alloc E∧o.dst=some d∧o.guard=none∧p.op = .store E (.tmp d) x∧p.dst=none∧p.guard=none∧x ≠ .tmp d:=by
 unfold kO at h;split at h
 ·rename_i u s v t w g i j k l m;split at h
  ·rename_i e;injection h with h;injection h with q c;injection c with c r;subst q;subst c;subst r;simp only[cY]at e;obtain⟨⟨⟨a,b⟩,_⟩,f⟩:=e;have a:=e9 a;have b:=e9 b;subst a;subst b;refine⟨g,i,j,k,l,m,λn=>?_⟩;subst n;simp at f
  ·cases h
 ·cases h
theorem zV(G:aZ P X.T){g:Gh}{h:Y}{z:Nat}{q:DE}{a:Act}(hi:Inv g h)(ah:eC g X.gl)(y:dC z g q a){E d:Nat}{x:Operand}{v A:D}{i:TI}(a1:fw X q x=some v)(F:X.T E=some i)(k:hh i.Z v=some A)(H:d<z)(al:x ≠ .tmp d)
  {Q:Exit→Act→World→Prop} {l:List Oper} {r:List Oper} {o p:Oper} (an:o.op = .alloc E∧o.dst=some d∧o.guard=none∧p.op = .store E (.tmp d) x∧p.dst=none∧p.guard=none∧x ≠ .tmp d)
  (ak:∀g' B,aH g g'→Inv g' h→dC z g' ((d,A)::q) B→wpList P l.toArray Q r B g'.w):wpList P l.toArray Q (o::p::r) a g.w:=by
 obtain⟨N,R,aa,ab,ac,ad,_⟩:=an;unfold hh at k;split at k
 case h_2=>cases k
 rename_i c;injection k with k;subst k;simp only[cY]at c;obtain⟨ao,I⟩:=c;have I:=e9 I;obtain⟨f,a2,_,a7,_⟩:=G.jH F;have aw:O g (a.eval x) v:=lU ah (λa3 C _ az=>y.get a3 C az) a1;obtain⟨m,a0,M,K⟩:=aw.cells ao;have a6:=M.length;have au:(execOp a.eval o).run P g.w = .ok (.value (.pointer (some ⟨g.w.heap.size,0,none⟩))) (g.w.alloc (.cells f.cells E)):=by
  simp only[execOp,N,Instr.alloc,dU,a2 g.w,dY,newVar,newRow,lf,fp];rfl
 have ap:(a.put (some d) (.pointer (some ⟨g.w.heap.size,0,none⟩))).eval (.tmp d) = .pointer (some ⟨g.w.heap.size,0,none⟩):=by
  simp[Act.put,Act.eval,y.size,H]
 have aq:(a.put (some d) (.pointer (some ⟨g.w.heap.size,0,none⟩))).eval x=a.eval x:=Act.eval_put (λC s t=>al (by injection s with s;rw[s];exact t));have am:(g.w.alloc (.cells f.cells E)).heap[g.w.heap.size]?=some (.cells f.cells.toList.toArray E (0,0)):=by
  rw[qc]
 obtain⟨e,ax,j⟩:=kf (P:=P) (i:=0) m (g.w.alloc (.cells f.cells E)) f.cells.toList 0 am (.inl rfl) (by simp;omega) K;have ag:f.cells.toList.take (0+0)++m++f.cells.toList.drop (0+0+m.length)=m:=by
  simp;omega
 rw[ag]at j;have ay:m.length=i.Z:=by omega
 have av:(execOp (a.put (some d) (.pointer (some ⟨g.w.heap.size,0,none⟩))).eval p).run P (g.w.alloc (.cells f.cells E)) = .ok .skip e:=by
  simp[execOp,ab,Instr.storeAt,Instr.sureAddr,storeVar,ap,aq,a0,G.size F,ay,ax]
 have u:∀b,b<g.w.heap.size→e.heap[b]?=g.w.heap[b]?:=λb c=>by
  rw[j.other b (by omega)];exact j3 _ _ c
 have a5:e.heap.size=g.w.heap.size+1:=by rw[j.size];exact n2 _ _
 let g':Gh:=⟨e,g.ms,g.L⟩
 have n:aH g g' :=.oq ⟨j.os,j.tape,j.output,by show g.w.heap.size≤e.heap.size;omega,λ_ _ aj=>aj,λb c=>⟨⟨by show b<e.heap.size;have:=c.1;omega,c.2⟩,u b c.1⟩⟩ rfl rfl u;have ae:At g' g.w.heap.size 0 m (bD v):=⟨λa8 A ai=>by
  show e.cell? _=_;simp only[World.cell?,j.eA,dP];simpa using ai,K,M.ext n⟩
 have ar:O g' (.pointer (some ⟨g.w.heap.size,0,none⟩)) (.aG (bD v)):=ae.aG λ_=>⟨by show _<e.heap.size;omega,λt=>by
  have:=hi.g8 (show g.L g.w.heap.size from t);omega⟩
 have af:=ak g' (a.put (some d) (.pointer (some ⟨g.w.heap.size,0,none⟩))) n (hi.same n rfl rfl u) ((y.ext n).put H ar);unfold wpList;rw[bB (rH aa)];refine .inl ?_;unfold Oper.wp;rw[au,jR,R];unfold wpList;rw[bB (rH ad)];refine .inl ?_;unfold Oper.wp;rw[av,Oper.upon_skip,ac];exact af
def pw(P:Program)(X:Cx)(o:bC)(j:Nat)(V n:List Nat)(l:List Oper)(Q:Exit→Act→World→Prop)(r:R)(k:List Oper)(g:DE)(h:Y)(m:DE→Y→Option R):Prop:=
 ∀(a:Gh) (e:Act),Inv a h→eC a X.gl→dC j a g e→(∀c i b f,m c i=some r→(∀d,d∉dF k→aQ c d=aQ g d)→aH a b→Inv b i→dC j b c f→Q .normal f b.w)→wpList P l.toArray Q k e a.w
theorem wk(M:aZ P X.T){e:bC}(N:eH P X e){z:Nat}{V j:List Nat}{l:List Oper}{Q:Exit→Act→World→Prop}{r:R}{o:Oper}{A:List Oper}{a:DE}{h:Y}{E D:DE→Y→Option R}(ac:gZ X e z V j l o a h E=some r)
  (rec:∀(a:DE) (h:Y),E a h=some r→pw P X e z V j l Q r A a h D):pw P X e z V j l Q r (o::A) a h D:=by
 intro L g ab v x K;obtain⟨F,H,af,aa⟩:=ou ac;have ah:ky P l.toArray Q o g L (wpList P l.toArray Q A):=by
  refine mB M N af ab v (λB F _ ai=>x.get B F ai) λG ak b I ag _=>?_
  rcases aa with⟨c,w⟩|⟨B,c,ad,w⟩
  ·rw[c];refine rec a H w G g I (v.ext b) (x.ext b) λk n m i p q s t u=>K k n m i p (λC d=>q C λf=>d ?_) (b.trans s) t u
   simp only[dF,jg,c]at f ⊢;exact f
  ·rw[c];refine rec _ H w G (g.put (some B) ak) I (v.ext b) ((x.ext b).put ad ag) λk n m i p q s t u=>K k n m i p (λC d=>?_) (b.trans s) t u
   simp only[dF,jg,c,e7,not_or]at d;rw[q C d.2,fJ,bO (λf=>d.1 f.symm)]
 unfold wpList;rcases ah with⟨y,aj⟩|⟨y,ae⟩
 ·rw[bB y];exact .inl aj
 ·rw[bO (by simp[y])];exact ae
theorem oD(i:aZ P X.T){t:bC}(n:eH P X t){y:Nat}{V v:List Nat}{l:List Oper}{Q:Exit→Act→World→Prop}{r:R}:∀(m:List Oper) (c:DE) (h:Y) (e:DE→Y→Option R),eX X t y V v l m c h e=some r→pw P X t y V v l Q r m c h e
 |[],c,h,e,b=>λg a hi s k j=>j c h g a b (λ_ _=>rfl) (aH.refl g) hi k
 |[o],c,h,e,b=>wk i n b λc h b g a hi s k j=>j c h g a b (λ_ _=>rfl) (aH.refl g) hi k
 | o::p::m,c,h,e,b=>by
  simp only[eX]at b;split at b
  ·rename_i E d x aa;have q:=zU aa;split at b
   ·rename_i ai ag af N;obtain⟨ah,ae,b⟩:=ff.1 b;rcases q0 b with⟨u,_⟩|⟨z,f,ac,b⟩
    ·cases u
    ·injection f with f;subst f;intro g a hi s k j;refine zV i hi s k af N ae ac q.2.2.2.2.2.2 q λD A w ab ad=>oD i n m _ h e b D A ab (s.ext w) ad λC G F B H I K L M=>j C G F B H (λz f=>?_) (w.trans K) L M
     simp only[dF,jg,q.2.1,q.2.2.2.2.1,e7,not_or]at f;rw[I z f.2,fJ,bO (λu=>f.1 u.symm)]
   ·cases b
  ·exact wk i n b λc h b=>oD i n (p::m) c h e b
theorem wj{w:bC}{s:Nat}{V v:List Nat}{l:List Oper}{r:R}:∀(a:List Oper) (c:DE) (h:Y) (g:List Y) (k:DE→Y→List Y→Option R),iG X w s V v l a c h g k=some r →
  ∃(e:Nat→DE) (f:Nat→Y) (u:Nat→D),e 0=c∧f 0=h∧(∀(i:Nat) (o:Oper),a[i]?=some o→eO X w V v l o (e i) (f i)=some (u i,f (i+1))∧(o.dst=none→e (i+1)=e i)∧(∀t,o.dst=some t→t<s∧e (i+1)=(t,u i)::e i)) ∧
   k (e a.length) (f a.length) (g++((List.range a.length).filter (bV X.T V a)).map λi=>f (i+1))=some r
 |[],c,h,g,k,x=>⟨λ_=>c,λ_=>h,λ_ =>.any,rfl,rfl,by simp,by simpa[iG]using x⟩
 | o::a,c,h,g,k,x=>by
  obtain⟨d,h',H,E⟩:=ou x;obtain⟨n,p,A,y⟩:∃n,iG X w s V v l a n h' (match eV X.T V o with|true=>g++[h']|false=>g) k=some r∧((o.dst=none→n=c)∧∀t,o.dst=some t→n=(t,d)::c)∧(∀t,o.dst=some t→t<s):=by
   rcases E with⟨m,p⟩|⟨t,m,y,p⟩
   ·exact⟨c,p,⟨λ_=>rfl,(λt b=>by rw[m]at b;cases b)⟩,(λt b=>by rw[m]at b;cases b)⟩
   ·exact⟨_,p,⟨(λb=>by rw[m]at b;cases b),(λN j=>by rw[m]at j;injection j with j;subst j;rfl)⟩,(λN j=>by rw[m]at j;injection j with j;subst j;exact y)⟩
  obtain⟨e,f,u,K,B,L,M⟩:=wj a n h' _ k p;refine⟨λi=>match i with|0=>c|i+1=>e i,λi=>match i with|0=>h|i+1=>f i,λi=>match i with|0=>d|i+1=>u i,rfl,rfl,λi I z=>?_,?_⟩
  ·cases i with
   | zero =>
    simp at z;subst z;simp only[K,B];exact⟨H,A.1,λt b=>⟨y t b,A.2 t b⟩⟩
   |succ i=>exact L i I (by simpa using z)
  ·simp only[eS];rw[← M];have F:((List.range a.length).map Nat.succ).filter (bV X.T V (o::a))=((List.range a.length).filter (bV X.T V a)).map Nat.succ:=by
    rw[List.filter_map];congr 1
   have G:(g++((List.range (a.length+1)).filter (bV X.T V (o::a))).map λi=>f i)=(match eV X.T V o with|true=>g++[h']|false=>g)++((List.range a.length).filter (bV X.T V a)).map λi=>f (i+1):=by
    have C:bV X.T V (o::a) 0=eV X.T V o:=rfl;rw[List.range_succ_eq_map,ib,F,C];by_cases q:eV X.T V o=true
    ·rw[bB q,q];simp[B,lB,kp]
    ·rw[bO q];simp only[Bool.not_eq_true]at q;rw[q];simp[lB,kp]
   rw[← G]
def hJ(c:Array Nat)(o:Oper):Nat:=o.after.foldl (λb a=>if Region.binds .any a then b ||| 2 ^ a.on ||| c.getD a.on 0 else b) 0
theorem xE(b:Array Oper):Region.before b=b.toList.foldl (λa o=>a.push (hJ a o)) #[]:=by
 unfold Region.before hJ;rw[← rP]
theorem xD {c:Array Nat} {o:Oper} {j:Nat} (h:(hJ c o).testBit j=true):∃x∈o.after.toList,Region.binds .any x=true∧(x.on=j∨(c.getD x.on 0).testBit j=true):=by
 unfold hJ at h;rw[← rP]at h;have k:∀ (d:List Edge) (b:Nat),(d.foldl (λb e=>if Region.binds .any e then b ||| 2 ^ e.on ||| c.getD e.on 0 else b) b).testBit j=true→b.testBit j=true∨∃x∈d,Region.binds .any x=true∧(x.on=j∨(c.getD x.on 0).testBit j=true):=by
  intro d
  induction d with
  |nil=>intro b h;exact .inl h
  | cons x m i =>
   intro b h;rw[o9]at h;rcases i _ h with a|⟨l,g,a⟩
   ·split at a
    ·rename_i f;simp only[Nat.testBit_or,kn]at a;rcases a with(a|a)|a
     ·exact .inl a
     ·refine .inr ⟨x,e8 ..,f,.inl ?_⟩;rw[Nat.testBit_two_pow]at a;simpa using a
     ·exact .inr ⟨x,e8 ..,f,.inr a⟩
    ·exact .inl a
   ·exact .inr ⟨l,eP _ g,a⟩
 rcases k _ 0 h with a|a
 ·simp at a
 ·exact a
theorem ux:∀(l:List Oper) (a:Array Nat),(∀k,k<a.size→(l.foldl (λa o=>a.push (hJ a o)) a)[k]?=a[k]?)∧(l.foldl (λa o=>a.push (hJ a o)) a).size=a.size+l.length ∧
  ∀(i:Nat) (o:Oper),l[i]?=some o→∃b:Array Nat,b.size=a.size+i∧(∀k,k<b.size→(l.foldl (λa o=>a.push (hJ a o)) a)[k]?=b[k]?)∧(l.foldl (λa o=>a.push (hJ a o)) a)[a.size+i]?=some (hJ b o)
 |[],a=>⟨λ_ _=>rfl,by simp,λi o h=>by cases h⟩
 | p::l,a=>by
  obtain⟨d,h2,f⟩:=ux l (a.push (hJ a p));simp only[o9];simp only[Array.size_push]at d h2 f;refine⟨λk c=>?_,by rw[h2];simp;omega,λi o e=>?_⟩
  ·rw[d k (by omega),rR c,jd c]
  ·cases i with
   | zero =>
    simp at e;subst e;refine⟨a,rfl,λk c=>?_,?_⟩
    ·rw[d k (by omega),rR c,jd c]
    ·rw[jP,d _ (by omega)];simp
   | succ i =>
    obtain⟨b,m,g,j⟩:=f i o (by simpa using e);exact⟨b,by omega,g,by rw[← j];congr 1;omega⟩
theorem xF{l:List Oper}{i j:Nat}{o:Oper}(k:l[i]?=some o)(h:fy (fG l) i j=true):∃x∈o.after.toList,Region.binds .any x=true∧(x.on=j∨(x.on<i∧fy (fG l) x.on j=true)):=by
 obtain⟨_,t,m⟩:=ux l #[];obtain⟨r,p,q,e⟩:=m i o k;simp only[pe,fD,dP]at p e;have d:∀b:Nat,(fG l).getD b 0=((l.foldl (λc o=>c.push (hJ c o)) #[])[b]?).getD 0:=λb=>by
  unfold fG;rw[xE];simp[m9]
 unfold fy at h ⊢;rw[d i,e]at h;obtain⟨x,n,f,a⟩:=xD h;refine⟨x,n,f,?_⟩;rcases a with a|a
 ·exact .inl a
 ·rcases ez x.on i with g|s
  ·refine .inr ⟨g,?_⟩;rw[d x.on,q _ (by omega)]
   rwa [cM]at a
  ·rw[cM,Array.getElem?_eq_none (by omega)]at a;simp at a
theorem kz{l:List Oper}{S:Nat→Prop}(d:∀(i:Nat) (o:Oper),S i→l[i]?=some o→∀x∈o.after.toList,Region.binds .any x=true→S x.on):∀(n i j:Nat) (o:Oper),i<n→l[i]?=some o→(∀x∈o.after.toList,Region.binds .any x=true→S x.on)→(∀k,S k→∃p,l[k]?=some p)→fy (fG l) i j=true→S j
 |0,i,j,o,m,_,_,_,_=>by omega
 | n+1,i,j,o,m,q,g,e,h=>by
  obtain⟨x,r,b,c⟩:=xF q h;have a:=g x r b;rcases c with rfl|⟨u,c⟩
  ·exact a
  ·obtain⟨p,f⟩:=e _ a;exact kz d n x.on j p (by omega) f (λt s b=>d x.on p a f t s b) e c
theorem pC{r:Nat}{l:List Oper}(n:jB r l=true){i j:Nat}{o:Oper}(g:l[i]?=some o)(h:fy (fG l) i j=true):j<i:=by
 have s:=(aP.1 g).1;have m:∀(a:Nat) (c:Oper),l[a]?=some c→∀b∈c.after.toList,Region.binds .any b=true→b.on<a:=λa c e b k f=>by
  simp only[jB,cY]at n;have d:=(aP.1 e).1;have:=(eD.1 n.2) a (by simp[d]);have p:b.on∈gB l.toArray a:=by
   unfold gB;have q:l.toArray[a]?=some c:=by simpa using e
   rw[q];simp only[eE,eQ];exact⟨b,⟨k,f⟩,rfl⟩
  exact cC ((eD.1 this) _ p)
 refine kz (S:=λa=>a<i) (λa c d e b k f=>Nat.lt_trans (m a c e b k f) d) (i+1) i j o (by omega) g (m i o g) (λa d=>⟨_,bX (show a<l.length by omega)⟩) h
end
end Go.Pi
namespace Go.Eng
abbrev gJ:=@Nat.ble_eq_true_of_le
abbrev g6:=@List.filter_append
abbrev hG:=@List.mem_range
abbrev jN:=@List.range_succ
abbrev o7:=@List.filter_congr
abbrev o8:=@List.filter_eq_self
abbrev pf:=@Nat.lt_succ_self
end Go.Eng
namespace Go.Pi
open Go.Eng
theorem uq(p:Nat→Bool):∀(m i:Nat),i<m→p i=true→((List.range m).filter p)[((List.range i).filter p).length]?=some i
 |0,i,h,_=>by omega
 | m+1,i,h,hp=>by
  rw[jN,g6];rcases ez i m with a|b
  ·have:=uq p m i a hp;rw[cU (aP.1 this).1];exact this
  ·have:i=m:=by omega
   subst this;rw[fW (aX _),Nat.sub_self];simp[hp]
theorem nH(p:Nat→Bool):∀(m i:Nat),i≤m→(((List.range m).filter p).filter λw=>Nat.blt w i).length=((List.range i).filter p).length
 | 0,i,h=>by
  have:i=0:=by omega
  subst this;rfl
 | m+1,i,h=>by
  rw[jN,g6,g6,e6];rcases ez m i with g|e
  ·have:i=m+1:=by omega
   subst this;rw[jN,g6,e6];have d:∀(a:Nat),a≤m+1→((List.range a).filter p).filter (λw=>Nat.blt w (m+1))=(List.range a).filter p:=λa j=>by
    rw[o8];intro w b;have:=(eQ.1 b).1;simp at this;exact gJ (by omega)
   rw[d m (by omega)];congr 1;by_cases c:p m=true
   ·simp[c,Nat.blt]
   ·simp[c]
  ·rw[nH p m i e];have:(([m].filter p).filter λw=>Nat.blt w i)=[]:=by
    rw[m8];intro w b;have:=(eQ.1 b).1;simp at this;subst this;intro f;have:=cC f;omega
   rw[this];rfl
theorem uo{p a:Nat→Bool}(l:List Nat)(h:∀x∈l,p x=true→a x=true):(l.filter p).length≤(l.filter a).length:=by
 induction l with
 |nil=>simp
 | cons x f d =>
  have:=d λe c=>h e (eP _ c)
  rw[ib,ib];by_cases hp:p x=true
  ·have b:=h x (e8 ..) hp;rw[bB hp,bB b];simpa using this
  ·rw[bO hp];split
   ·simp;omega
   ·exact this
section
variable {P:Program} {X:Cx} {R:Type}
theorem tz{l:List Oper}{e:DE}{c:List Y}:∀{ps:List (Nat × Nat)} {x:Option R} {r:R},hO X l e c ps x=some r→(∀a∈ps,∃o,l[a.1]?=some o∧again X l o e (c.getD a.2 []))∧x=some r
 |[],x,r,h=>⟨by simp,h⟩
 | (i, k)::ps,x,r,h=>by
  simp only[hO]at h;split at h
  ·rename_i o g;unfold cZ at h;split at h
   ·rename_i f;obtain⟨d,h2⟩:=tz h;refine⟨λa b=>?_,h2⟩;rcases e7.1 b with rfl|b
    ·exact⟨o,g,f⟩
    ·exact d a b
   ·cases h
  ·cases h
theorem vE{call:bC}{V dL:List Nat}{l:List Oper}{o:Oper}{e:DE}{h h':Y}{d:D}(b:eV X.T V o=false)(a:eO X call V dL l o e h=some (d,h')):h'=h:=by
 unfold eO at a;unfold eV at b;split at a
 ·cases a
 have f:∀{i:Option D},(i.bind λd=>some (d,h))=some (d,h')→h'=h:=λ{i} j=>by
  obtain⟨k,_,g⟩:=ff.1 j;injection g with g;injection g with _ g;exact g.symm
 split at a
 ·split at a
  ·exact f a
  ·exact f a
  ·rename_i c;rw[c]at b;cases b
  ·rename_i c;rw[c]at b;cases b
  ·exact f a
 ·split at a
  ·cases a
  split at a
  ·cases a
  split at a
  ·exact f a
  ·exact f a
  ·rename_i c;rw[c]at b;cases b
  ·rename_i c;rw[c]at b;cases b
  ·cases a
theorem uc{e e':DE}:∀{xs:List Operand},(∀t,.tmp t∈xs→aQ e t=aQ e' t)→gT X e xs=gT X e' xs
 |[],_=>rfl
 | x::r,h=>by
  have b:fw X e x=fw X e' x:=by
   cases x with
   |tmp t=>exact h t (e8 ..)
   |const f=>rfl
   |global d=>rfl
   |func c=>rfl
  simp only[gT,b,uc λt a=>h t (eP _ a)]
theorem Cv{call:bC}{V dL:List Nat}{l:List Oper}{o:Oper}{e e':DE}{h:Y}(b:∀t,t∈fA l o→aQ e t=aQ e' t):eO X call V dL l o e h=eO X call V dL l o e' h:=by
 unfold eO;rw[uc λt a=>b t (lC _ (gI.2 ⟨.tmp t,a,rfl⟩))];cases gT X e' o.op.operands.toList with
 |none=>rfl
 | some i =>
  simp only[];cases c:o.guard with
  |none=>rfl
  | some f =>
   obtain⟨d,g⟩:=f;simp only[];cases a:(l[d]?).bind (·.dst)with
   |none=>rfl
   | some t =>
    simp only[];rw[b t (by unfold fA;rw[c];exact List.mem_append_right _ (by simp[a]))]
theorem vD {call:bC} {V dL:List Nat} {l:List Oper} {o:Oper} {e:DE} {h h' h2:Y} {d:D} (b:eV X.T V o=false) (a:eO X call V dL l o e h=some (d,h')) (q:iV X.T V o=true→again X l o e h2∧∀t,o.dst=some t→aQ e t=some d):eO X call V dL l o e h2=some (d,h2):=by
 unfold eO at a ⊢;have n:∀{u:Option D},(u.bind λd=>some (d,h))=some (d,h')→(u.bind λd=>some (d,h2))=some (d,h2):=λ{u} x=>by
  obtain⟨G,y,j⟩:=ff.1 x;injection j with j;injection j with j _;subst j;rw[y];rfl
 have v:iV X.T V o=true→∃t,o.dst=some t:=λw=>by
  have:=(q w).1;unfold again at this;split at this
  ·rename_i t _ g;exact⟨t,g⟩
  ·exact this.elim
 cases k:gT X e o.op.operands.toList with
 |none=>rw[k]at a;cases a
 | some E =>
  rw[k]at a;simp only[]at a ⊢;cases m:o.guard with
  | none =>
   rw[m]at a;simp only[]at a ⊢;cases c:cG X.T V o with
   |pure=>rw[c]at a;exact n a
   | read =>
    have i:iV X.T V o=true:=by unfold iV;rw[c]
    obtain⟨t,g⟩:=v i;obtain⟨f,p⟩:=q i;unfold again at f;rw[k,g,m]at f;simp only[]at f ⊢;rw[f,p t g];rfl
   |write=>unfold eV at b;rw[c]at b;cases b
   |call=>unfold eV at b;rw[c]at b;cases b
   |dQ=>rw[c]at a;exact n a
  | some A =>
   obtain⟨z,C⟩:=A;rw[m]at a;simp only[]at a ⊢;cases r:(l[z]?).bind (·.dst)with
   |none=>rw[r]at a;cases a
   | some B =>
    rw[r]at a;simp only[]at a ⊢;cases s:aQ e B with
    |none=>rw[s]at a;cases a
    | some F =>
     rw[s]at a;simp only[]at a ⊢;cases c:cG X.T V o with
     |pure=>rw[c]at a;exact n a
     | read =>
      have i:iV X.T V o=true:=by unfold iV;rw[c]
      obtain⟨t,g⟩:=v i;obtain⟨f,p⟩:=q i;unfold again at f;rw[k,g,m]at f;simp only[r,s]at f ⊢;rw[f,p t g];rfl
     |write=>unfold eV at b;rw[c]at b;cases b
     |call=>unfold eV at b;rw[c]at b;cases b
     |dQ=>rw[c]at a;cases a
structure Tr (X:Cx) (call:bC) (nt:Nat) (V dL:List Nat) (l:List Oper) (m:Nat) (e:DE) (h:Y) (en:Nat→DE) (hp:Nat→Y) (va:Nat→D) (HK:Nat→Y):Prop where
 e0:en 0=e
 mM:m≤cI l
 Ml:cI l≤l.length
 j9:jB nt l=true
 tail:ru (cI l) l=true
 step:∀(i:Nat) (o:Oper),i<m→l[i]?=some o→eO X call V dL l o (en i) (hp i)=some (va i,hp (i+1))∧(o.dst=none→en (i+1)=en i)∧(∀t,o.dst=some t→t<nt∧en (i+1)=(t,va i)::en i)
 u9:∀(i j:Nat) (o p:Oper) (t:Nat),i<cI l→j<m→l[i]?=some o→l[j]?=some p→t∈fA l o→p.dst=some t→fy (fG l) i j=true
 uF:HK 0=h
 AB:hp 0=h
 AA:∀(i:Nat) (o:Oper),i<m→l[i]?=some o→eV X.T V o=true→HK (((List.range i).filter (bV X.T V l)).length+1)=hp (i+1)
 chain:∀(i j:Nat) (o p:Oper),i<j→j<m→l[i]?=some o→l[j]?=some p→eV X.T V o=true→eV X.T V p=true→fy (fG l) j i=true
 DR:∀(i k:Nat) (o:Oper),(i,k)∈oO X.T V m l→l[i]?=some o→again X l o (en m) (HK k)
 late:m=cI l∨mg X.T V m l=true
theorem yB{call:bC}{nt:Nat}{V dL:List Nat}{m:Nat}{l:List Oper}{e:DE}{h:Y}{u:DE→Y→Option R}{r:R}(k:iA X call nt V dL m l e h u=some r):
  ∃en hp va HK,Tr X call nt V dL l m e h en hp va HK∧(gD X V (l.take m) (en m) (hp m) λe h=>eX X call nt V dL l (l.drop m) e h u)=some r:=by
 unfold iA at k;split at k
 ·cases k
 rename_i q;unfold tR at q;simp only[cY]at q;obtain⟨⟨⟨⟨⟨⟨n,j⟩,L⟩,N⟩,I⟩,B⟩,G⟩:=q;have n:=cC n;have j:=cC j;have ah:m≤l.length:=g9 n j;obtain⟨en,hp,va,ac,ad,ae,z⟩:=wj _ e h [h] _ k;have H:(l.take m).length=m:=by simp;omega
 rw[H]at z;obtain⟨w,F⟩:=tz z;have x:∀a,a<m→(l.take m)[a]?=l[a]?:=λa b=>by rw[dX,bB b]
 have A:(List.range m).filter (bV X.T V (l.take m))=(List.range m).filter (bV X.T V l):=by
  apply o7;intro a b;simp at b;unfold bV;rw[x a b]
 rw[A]at w;refine⟨en,hp,va,λt=>(h::((List.range m).filter (bV X.T V l)).map λa=>hp (a+1)).getD t [],⟨ac,n,j,L,N,λa g b c=>ae a g (by rw[x a b];exact c),λa f g ab af b y c s M K=>?_,by simp,ad,λa g b c P=>?_,λa f g ab ag y c s Q aa=>?_,λa t g D c=>?_,by simpa using G⟩,F⟩
 ·have i:=(eD.1 I) a (by simp[b]);rw[c]at i;have o:=(eD.1 i) af M;have p:=(eD.1 o) f (by simp[y]);rw[s]at p;simp only[K]at p;simpa using p
 ·have:=uq (bV X.T V l) m a b (by unfold bV;rw[c];exact P);simp only[List.getD_cons_succ];rw[m9,dK,this];rfl
 ·have C:a∈(List.range m).filter (bV X.T V l):=eQ.2 ⟨by simp;omega,by unfold bV;rw[c];exact Q⟩;have E:f∈(List.range m).filter (bV X.T V l):=eQ.2 ⟨by simp;omega,by unfold bV;rw[s];exact aa⟩;have i:=(eD.1 B) f E;have o:=(eD.1 i) a C;have:Nat.blt a f=true:=gJ (by omega);simpa[this]using o
 ·obtain⟨ai,d,v⟩:=w (a,t) D;simp only at d v;rw[c]at d;injection d with d;subst d;simpa using v
section tr
variable {call:bC} {nt:Nat} {V dL:List Nat} {l:List Oper} {m:Nat} {e:DE} {h:Y} {en:Nat→DE} {hp:Nat→Y} {va:Nat→D} {HK:Nat→Y} (tr:Tr X call nt V dL l m e h en hp va HK)
include tr
theorem Tr.ml:m≤l.length:=g9 tr.mM tr.Ml
theorem Tr.look(i j:Nat)(o p:Oper)(t:Nat)(hi:i<m)(b:j<m)(c:l[i]?=some o)(hp:l[j]?=some p)(d:t∈fA l o)(a:p.dst=some t):fy (fG l) i j=true:=tr.u9 i j o p t (fY hi tr.mM) b c hp d a
theorem Tr.get{i:Nat}(hi:i<m):∃o,l[i]?=some o:=⟨_,bX (fY hi tr.ml)⟩
theorem Tr.aO{t:Nat}:∀(i j:Nat),i≤j→j≤m→(∀a o,i≤a→a<j→l[a]?=some o→o.dst≠some t)→aQ (en j) t=aQ (en i) t
 | i,0,n,p,_=>by
  have:i=0:=by omega
  subst this;rfl
 | i,j+1,n,p,f=>by
  rcases ez j i with r|e
  ·have:i=j+1:=by omega
   subst this;rfl
  ·obtain⟨o,g⟩:=tr.get (i:=j) (by omega);obtain⟨_,b,d⟩:=tr.step j o (by omega) g;have h:=Tr.aO i j e (by omega) λa o b d=>f a o b (by omega)
   cases c:o.dst with
   |none=>rw[b c];exact h
   | some q =>
    rw[(d q c).2,fJ,bO]
    ·exact h
    ·intro k;exact f j o e (by omega) g (by rw[c,k])
theorem Tr.js{i j:Nat}{o p:Oper}{t:Nat}(b:l[i]?=some o)(c:l[j]?=some p)(a:o.dst=some t)(h2:p.dst=some t):i=j:=by
 have:=tr.j9;simp only[jB,cY]at this;exact tP this.1.1 b c a h2
theorem Tr.val{i:Nat}{o:Oper}{t:Nat}(hi:i<m)(b:l[i]?=some o)(a:o.dst=some t){j:Nat}(c:i<j)(d:j≤m):aQ (en j) t=some (va i):=by
 have:=tr.aO (t:=t) (i+1) j c d λn k g h f e=>by
  have:=tr.js b f a e;omega
 rw[this,((tr.step i o hi b).2.2 t a).2,fJ,bB rfl]
theorem Tr.Bf{i:Nat}{o:Oper}(hi:i<m)(a:l[i]?=some o){t:Nat}(e:t∈fA l o):aQ (en m) t=aQ (en i) t:=
 tr.aO i m (by omega) (aX _) λg f h b d c=>by
  have:=pC tr.j9 a (tr.look i g o f t hi b a d e c);omega
theorem Tr.ma:∀(i:Nat),i≤m→HK ((List.range i).filter (bV X.T V l)).length=hp i
 |0,_=>by simp[tr.uF,tr.AB]
 | i+1,hi=>by
  obtain⟨o,a⟩:=tr.get (i:=i) (by omega);have d:=Tr.ma i (by omega);rw[jN,g6,e6];cases b:eV X.T V o with
  | true =>
   have c:bV X.T V l i=true:=by unfold bV;rw[a];exact b
   have:=tr.AA i o (by omega) a b;simpa[c]using this
  | false =>
   have c:bV X.T V l i=false:=by unfold bV;rw[a];exact b
   have:=vE b (tr.step i o (by omega) a).1;rw[this];simpa[c]using d
structure ia (P:Program) (X:Cx) (nt:Nat) (V:List Nat) (l:List Oper) (m:Nat) (e:DE) (va:Nat→D) (HK:Nat→Y) (g0:Gh) (L:Array Bool) (c:Nat) (a:Act) (g:Gh):Prop where
 size:a.tmps.size=nt
 defers:a.defers=[]
 fQ:L.size=l.length
 cl:∀(i:Nat) (o:Oper),L[i]?=some true→l[i]?=some o→∀x∈o.after.toList,Region.binds .any x=true→L[x.on]?=some true
 main:∀i,L[i]?=some true→i<m
 kD:((List.range m).filter λi=>L.getD i false).length=c
 ext:aH g0 g
 inv:Inv g (HK (((List.range m).filter (bV X.T V l)).filter λi=>L.getD i false).length)
 base:∀t d,t∉dF (l.take m)→aQ e t=some d→O g (a.tmps.getD t undef) d
 done:∀(i:Nat) (o:Oper) (t:Nat),L[i]?=some true→l[i]?=some o→o.dst=some t→O g (a.tmps.getD t undef) (va i)
 qZ:∀(i:Nat) (o:Oper) (t:Nat),L[i]?=some true→l[i]?=some o→cG X.T V o = .dQ→o.dst=some t→ih X.T g0 g o (a.tmps.getD t undef)
 tO:∀(i j:Nat) (o p:Oper) (t u:Nat),L[i]?=some true→L[j]?=some true→l[i]?=some o→l[j]?=some p→cG X.T V o = .dQ→cG X.T V p = .dQ→o.dst=some t→p.dst=some u→i≠j→a.tmps.getD t undef≠a.tmps.getD u undef
theorem ia.step(bq:aZ P X.T)(br:eH P X call){an:Gh}(bu:eC an X.gl){f:Array Bool}{c:Nat}{a:Act}{g:Gh}(q:ia P X nt V l m e va HK an f c a g){i:Nat}{o:Oper}(hi:i<m)(s:l[i]?=some o)(aq:f[i]?=some false)
  (bd:∀x∈o.after.toList,Region.binds .any x=true→f[x.on]?=some true) {Q:Exit→Act→World→Prop} {next:Act→World→Prop}
  (bz:∀a0 g',ia P X nt V l m e va HK an (f.setIfInBounds i true) (c+1) a0 g'→next a0 g'.w):ky P l.toArray Q o a g next:=by
 have a7:i<f.size:=by rw[q.fQ];exact fY hi tr.ml
 have gd:∀d,f.getD d false=true↔f[d]?=some true:=λd=>by
  rw[cM];cases f[d]? with
  |none=>simp
  |some bl=>simp
 have a1:f.getD i false=false:=by rw[cM,aq];rfl
 have a5:∀K,f[K]?=some true→∃j,l[K]?=some j:=λK C=>tr.get (q.main K C)
 have al:∀I,fy (fG l) i I=true→f[I]?=some true:=λI G=>kz (S:=λK=>f[K]?=some true) q.cl (i+1) i I o (by omega) s bd a5 G
 have bi:∀b j,l[b]?=some j→f[b]?=some true→fy (fG l) b i=false:=λb j E ar=>by
  cases n:fy (fG l) b i with
  |false=>rfl
  | true =>
   exfalso;have:=kz (S:=λK=>f[K]?=some true) q.cl (b+1) b i j (by omega) E (q.cl b j ar E) a5 n;rw[aq]at this;cases this
 obtain⟨aa,cb,a4⟩:=tr.step i o hi s;have b4:∀t B,t∈fA l o→aQ (en i) t=some B→O g (a.tmps.getD t undef) B:=λt B w F=>by
  by_cases af:t∈dF (l.take m)
  ·unfold dF at af;rw[gI]at af;obtain⟨j,b1,A⟩:=af;obtain⟨I,G⟩:=jM b1;rw[dX]at G;split at G
   ·rename_i ba;have n:=tr.look i I o j t hi ba s G w A;have bw:=pC tr.j9 s n;have ak:=tr.val ba G A bw (Nat.le_of_lt hi);rw[F]at ak;injection ak with ak;rw[ak];exact q.done I j t (al I n) G A
   ·cases G
  ·have:=tr.aO (t:=t) 0 i (gK _) (by omega) λd j k u r D=>af (by
     unfold dF;rw[gI];exact⟨j,dB (by rw[dX,bB (show d<m by omega)];exact r),D⟩)
   rw[this,tr.e0]at F;exact q.base t B af F
 have av:∀b,b∈(List.range m).filter (bV X.T V l)↔b<m∧bV X.T V l b=true:=λb=>by simp[eQ]
 obtain ⟨ao,b3,bn⟩:∃ao,eO X call V dL l o (en i) (HK (((List.range m).filter (bV X.T V l)).filter λb=>f.getD b false).length)=some (va i,ao)∧ao=HK (((List.range m).filter (bV X.T V l)).filter λb=>(f.setIfInBounds i true).getD b false).length:=by
  have bk:∀b,(f.setIfInBounds i true).getD b false=(f.getD b false||Nat.beq b i):=λb=>by
   by_cases N:i=b
   ·subst N;rw[cM,mW a7];simp
   ·rw[cM,hA N,← cM];have:Nat.beq b i=false:=by
     cases n:Nat.beq b i with
     |false=>rfl
     |true=>exact absurd (e9 n).symm N
    rw[this,Bool.or_false]
  cases E:eV X.T V o with
  | true =>
   have N:bV X.T V l i=true:=by unfold bV;rw[s];exact E
   have a8:∀b,b∈(List.range m).filter (bV X.T V l)→(f.getD b false=Nat.blt b i):=λb H=>by
    obtain⟨k,u⟩:=(av b).1 H;obtain⟨j,h⟩:=tr.get k;have bg:eV X.T V j=true:=by unfold bV at u;rw[h]at u;exact u
    rcases hI b i with R|heq|a6
    ·have:=al b (tr.chain b i j o R hi h s bg E);rw[(gd b).2 this];exact(gJ (by omega)).symm
    ·subst heq;rw[a1];cases n:Nat.blt b b with
     |false=>rfl
     |true=>have:=cC n;omega
    ·have a3:=tr.chain i b o j a6 k s h E bg;cases bo:f.getD b false with
     | false =>
      cases n:Nat.blt b i with
      |false=>rfl
      |true=>have:=cC n;omega
     | true =>
      have:=bi b j h ((gd b).1 bo);rw[this]at a3;cases a3
   have am:(((List.range m).filter (bV X.T V l)).filter λb=>f.getD b false)=(((List.range m).filter (bV X.T V l)).filter λb=>Nat.blt b i):=o7 a8;have ab:(((List.range m).filter (bV X.T V l)).filter λb=>(f.setIfInBounds i true).getD b false)=(((List.range m).filter (bV X.T V l)).filter λb=>Nat.blt b (i+1)):=o7 λb H=>by
    rw[bk,a8 b H];rcases hI b i with R|heq|a6
    ·have k:Nat.blt b i=true:=gJ (by omega);have u:Nat.blt b (i+1)=true:=gJ (by omega);rw[k,u];rfl
    ·subst heq;have u:Nat.blt b (b+1)=true:=gJ (by omega);rw[u];simp
    ·have k:Nat.blt b i=false:=by
       cases n:Nat.blt b i with
       |false=>rfl
       |true=>have:=cC n;omega
     have u:Nat.blt b (i+1)=false:=by
      cases n:Nat.blt b (i+1)with
      |false=>rfl
      |true=>have:=cC n;omega
     have ap:Nat.beq b i=false:=by
      cases n:Nat.beq b i with
      |false=>rfl
      |true=>have:=e9 n;omega
     rw[k,u,ap];rfl
   rw[am,ab,nH _ m i (by omega),nH _ m (i+1) (by omega),tr.ma i (by omega),tr.ma (i+1) (by omega)];exact⟨_,aa,rfl⟩
  | false =>
   have N:bV X.T V l i=false:=by unfold bV;rw[s];exact E
   have ab:(((List.range m).filter (bV X.T V l)).filter λb=>(f.setIfInBounds i true).getD b false)=(((List.range m).filter (bV X.T V l)).filter λb=>f.getD b false):=o7 λb H=>by
    rw[bk];have:Nat.beq b i=false:=by
     cases n:Nat.beq b i with
     |false=>rfl
     | true =>
      have:=e9 n;subst this;rw[((av b).1 H).2]at N;cases N
    rw[this,Bool.or_false]
   rw[ab];refine⟨_,?_,rfl⟩;have bt:∀u,eO X call V dL l o (en i) u=eO X call V dL l o (en m) u:=λu=>Cv λt w=>(tr.Bf hi s w).symm
   rw[bt]at aa ⊢;by_cases bb:(((List.range m).filter (bV X.T V l)).filter λb=>f.getD b false).length=((List.range i).filter (bV X.T V l)).length
   ·rw[bb,tr.ma i (by omega)];have:=vE E aa;rw[this]at aa;exact aa
   ·refine vD E aa λbp=>⟨tr.DR i _ o ?_ s,λt w=>tr.val hi s w (by omega) (aX _)⟩
    unfold oO;rw[List.mem_flatMap];refine⟨i,by simp[hi],?_⟩;rw[s];simp only[bp];rw[eE];refine⟨_,eQ.2 ⟨hG.2 (Nat.lt_succ_of_le (uo _ λb H ar=>?_)),?_⟩,rfl⟩
    ·obtain⟨j,h⟩:=tr.get ((av b).1 H).1;rw[bi b j h ((gd b).1 ar)];rfl
    ·simp only[cY,iI];refine⟨gJ (uo _ λb H n=>(gd b).2 (al b n)),?_⟩;have b0:(((List.range m).filter (bV X.T V l)).filter λb=>Nat.blt b i).length=((List.range i).filter (bV X.T V l)).length:=nH _ m i (by omega);rw[b0];cases n:Nat.beq _ _ with
     |false=>rfl
     |true=>exact absurd (e9 n) bb
 refine mB bq br b3 q.inv (bu.ext q.ext) b4 λg' L ai bv b2 D=>bz _ g' ?_
 have M:∀d,(f.setIfInBounds i true)[d]?=some true→d=i∨f[d]?=some true:=λd r=>by
  by_cases v:i=d
  ·exact .inl v.symm
  ·rw[hA v]at r;exact .inr r
 have a2:∀d,f[d]?=some true→(f.setIfInBounds i true)[d]?=some true:=λd r=>by
  by_cases v:i=d
  ·subst v;rw[aq]at r;cases r
  ·rw[hA v];exact r
 have aj:∀t,o.dst≠some t→(a.put o.dst L).tmps.getD t undef=a.tmps.getD t undef:=λt w=>by
  cases ac:o.dst with
  |none=>rfl
  | some y =>
   have az:y≠t:=λp=>w (by rw[ac,p])
   simp only[Act.put,cM];rw[hA az]
 have ax:∀t,o.dst=some t→(a.put o.dst L).tmps.getD t undef=L:=λt w=>by
  have R:=(a4 t w).1;rw[w];simp[Act.put,Array.getD,q.size,R]
 have bf:∀(d:Nat) (j:Oper) (y:Nat),f[d]?=some true→l[d]?=some j→cG X.T V j = .dQ→j.dst=some y→cG X.T V o = .dQ→L≠a.tmps.getD y undef:=λd j y r h C ae bx p=>by
  obtain⟨_,_,bl,_,_,_,bm,ca,_,_⟩:=D bx;obtain⟨_,_,b9,_,_,_,b6,_,b7,_⟩:=q.qZ d j y r h C ae;rw[bm,b6]at p;injection p with p;injection p with p;injection p with p;have:=b7.1;omega
 have be:∀t,o.dst≠some t→∀B,O g (a.tmps.getD t undef) B→O g' ((a.put o.dst L).tmps.getD t undef) B:=λt w B F=>by
  cases ac:o.dst with
  |none=>exact F.ext ai
  | some y =>
   have az:y≠t:=λp=>w (by rw[ac,p])
   have:(a.put (some y) L).tmps.getD t undef=a.tmps.getD t undef:=by
    simp only[Act.put,cM];rw[hA az]
   rw[this];exact F.ext ai
 refine⟨by cases ac:o.dst<;>simp[Act.put,q.size],by cases ac:o.dst<;>simp[Act.put,q.defers],by simp[q.fQ],λd j r h x bh n=>?_,λd r=>?_,?_,q.ext.trans ai,by rw[← bn];exact bv,λt B w F=>?_,λd j t r h D=>?_,λd j t r h C ae=>?_,λd ag j bj t y r bc h A C au ah ad aw=>?_⟩
 ·rcases M d r with rfl|r
  ·rw[s]at h;injection h with h;subst h;exact a2 _ (bd x bh n)
  ·exact a2 _ (q.cl d j r h x bh n)
 ·rcases M d r with rfl|r
  ·exact hi
  ·exact q.main d r
 ·have b8:∀(z:Nat),((List.range z).filter λd=>(f.setIfInBounds i true).getD d false).length=((List.range z).filter λd=>f.getD d false).length+(if i<z then 1 else 0):=by
    intro z
    induction z with
    |zero=>simp
    | succ z b5 =>
     rw[jN,g6,g6,e6,e6,b5];by_cases a9:i=z
     ·subst a9;have k:(f.setIfInBounds i true).getD i false=true:=by
       rw[cM,mW a7];rfl
      have am:([i].filter λd=>(f.setIfInBounds i true).getD d false)=[i]:=by rw[ib,k];rfl
      have ab:([i].filter λd=>f.getD d false)=[]:=by rw[ib,a1];rfl
      rw[am,ab,bO (Nat.lt_irrefl _),bB (pf _)];simp
     ·have k:(f.setIfInBounds i true).getD z false=f.getD z false:=by
        rw[cM,hA a9,← cM]
      have u:(i<z+1)↔(i<z):=by omega
      simp only[u];have ap:([z].filter λd=>(f.setIfInBounds i true).getD d false)=([z].filter λd=>f.getD d false):=by
       rw[ib,ib,k];rfl
      rw[ap];omega
  rw[b8 m,bB hi,q.kD]
 ·refine be t (λp=>w ?_) B (q.base t B w F);unfold dF;rw[gI];exact⟨o,dB (by rw[dX,bB hi];exact s),p⟩
 ·by_cases v:d=i
  ·subst v;rw[s]at h;injection h with h;subst h;have R:=(a4 t D).1;rw[D];have:(a.put (some t) L).tmps.getD t undef=L:=by simp[Act.put,Array.getD,q.size,R]
   rw[this];exact b2
  ·rcases M d r with k|k
   ·exact absurd k v
   ·exact be t (λp=>v (tr.js h s D p)) _ (q.done d j t k h D)
 ·by_cases v:d=i
  ·subst v;rw[s]at h;injection h with h;subst h;rw[ax t ae];exact(D C).Cu q.ext.size
  ·rcases M d r with k|k
   ·exact absurd k v
   ·rw[aj t λp=>v (tr.js h s ae p)];exact(q.qZ d j t k h C ae).ext ai
 ·by_cases v:d=i
  ·subst v;rw[s]at h;injection h with h;subst h;rcases M ag bc with k|k
   ·exact absurd k.symm aw
   ·rw[ax t ah,aj y λp=>aw (tr.js s A p ad)];exact bf ag bj y k A au ad C
  ·rcases M d r with k|k
   ·exact absurd k v
   ·rw [aj t λp=>v (tr.js h s ah p)];by_cases ay:ag=i
    ·subst ay;rw[s]at A;injection A with A;subst A;rw[ax y ad];exact λp=>bf d j t k h C ah au p.symm
    ·rcases M ag bc with u|u
     ·exact absurd u ay
     ·rw[aj y λp=>ay (tr.js A s ad p)];exact q.tO d ag j bj t y k u h A C au ah ad aw
end tr
end
end Go.Pi
