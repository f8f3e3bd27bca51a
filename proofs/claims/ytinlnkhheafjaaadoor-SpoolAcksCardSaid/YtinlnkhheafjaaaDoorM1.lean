/- Part 1 of the texts that the theorem needs: an interpreter on data, proved sound; the functions on data; laws about them. -/
import Derived.WalkKit
import Derived.Orders
import Derived.Deep.LoopGhost
import Derived.KernelRfl
import Derived.Laws.StructEq
import Derived.Laws.IdiomStrings
set_option linter.unusedSimpArgs false
set_option linter.unusedVariables false
set_option linter.unnecessarySimpa false
namespace Go.Eng
abbrev aM:=@if_true
abbrev aZ:=@List.getElem?_eq_some_iff
abbrev bE:=@if_pos
abbrev bV:=@if_neg
abbrev dL:=@Nat.le_of_ble_eq_true
abbrev dS:=@Array.getD_eq_getD_getElem?
abbrev ff:=@List.all_eq_true
abbrev gF:=@Nat.eq_of_beq_eq_true
abbrev il:=@Nat.zero_le
abbrev j4:=@Array.getElem?_setIfInBounds_ne
abbrev kC:=@Bool.not_eq_true'
abbrev kI:=@List.cons_append
abbrev mS:=@Calls.mono
abbrev n4:=@Bool.or_eq_true
abbrev zZ:=@List.any_eq_true
end Go.Eng
namespace Go.Eng
abbrev dG:=List (Nat × Value)
def lk:dG→Nat→Option Value
 |[],_=>none
 | (k,v)::r,t=>match Nat.beq k t with
  |true=>some v
  |false=>lk r t
def ev(e:dG):Operand→Option Value
 |.tmp t=>lk e t
 |.const v=>some v
 |.global g=>some (.pointer (some ⟨g,0,none⟩))
 |.func f=>some (.func (.func f) #[] #[])
structure l4 (n:Nat) (e:dG) (a:Act):Prop where
 size:a.tmps.size=n
 defers:a.defers=[]
 get:∀t v,lk e t=some v→a.tmps.getD t undef=v
def uC(e:dG)(ρ:Operand→Value):Prop:=∀x v,ev e x=some v→ρ x=v
section
variable {n:Nat} {e:dG} {a:Act}
theorem lL(k:Nat)(v:Value)(r:dG)(t:Nat):lk ((k,v)::r) t=if k=t then some v else lk r t:=by
 simp only[lk];by_cases a:k=t
 ·subst a;simp
 ·have:Nat.beq k t=false:=by
    cases b:Nat.beq k t with
    |true=>exact absurd (gF b) a
    |false=>rfl
  rw[this,bV a]
theorem l4.put(h:l4 n e a){d:Nat}(f:d<n)(v:Value):l4 n ((d,v)::e) (a.put (some d) v):=by
 refine⟨by simp[Act.put,h.size],by simp[Act.put,h.defers],λt g b=>?_⟩;rw[lL]at b;by_cases c:d=t
 ·subst c;rw[bE rfl]at b;injection b with b;subst b;simp[Act.put,Array.getD,h.size,f]
 ·rw[bV c]at b;have:=h.get t g b;rw[← this];simp only[Act.put,dS];rw[j4 (by omega)]
end
def Sub(e' e:dG):Prop:=∀t v,lk e' t=some v→lk e t=some v
theorem Sub.nil{e:dG}:Sub [] e:=λ_ _ a=>by cases a
theorem Sub.cons{t:Nat}{v:Value}{r e:dG}(h:lk e t=some v)(c:Sub r e):Sub ((t,v)::r) e:=by
 intro b x hx;rw[lL]at hx;by_cases a:t=b
 ·subst a;rw[bE rfl]at hx;injection hx with hx;rw[← hx];exact h
 ·rw[bV a]at hx;exact c b x hx
theorem Sub.refl(e:dG):Sub e e:=λ_ _ a=>a
theorem Sub.trans{a b c:dG}(h:Sub a b)(k:Sub b c):Sub a c:=λt v x=>k t v (h t v x)
theorem Sub.sat{n:Nat}{e e':dG}{a:Act}(h:Sub e' e)(b:l4 n e a):l4 n e' a:=⟨b.size,b.defers,λt v x=>b.get t v (h t v x)⟩
def keys:dG→List Nat
 |[]=>[]
 |(k,_)::r=>k::keys r
theorem CY{e:dG}{t:Nat}(h:t∉keys e):lk e t=none:=by
 induction e with
 |nil=>rfl
 | cons x c b =>
  obtain⟨k,v⟩:=x;simp[keys]at h;rw[lL,bV (λa=>h.1 a.symm)];exact b h.2
theorem CW{e r:dG}{t:Nat}(h:lk e t=none):lk (e++r) t=lk r t:=by
 induction e with
 |nil=>rfl
 | cons x c b =>
  obtain⟨k,v⟩:=x;rw[kI,lL];rw[lL]at h;by_cases a:k=t
  ·rw[bE a]at h;cases h
  ·rw[bV a]at h;rw[bV a];exact b h
theorem Lp{e r:dG}{t:Nat}{v:Value}(h:lk e t=some v):lk (e++r) t=some v:=by
 induction e with
 |nil=>cases h
 | cons x c b =>
  obtain⟨k,d⟩:=x;rw[kI,lL];rw[lL]at h;by_cases a:k=t
  ·rw[bE a]at h;rw[bE a];exact h
  ·rw[bV a]at h;rw[bV a];exact b h
def AA(p:List Nat)(c b:List Nat):Bool:=p.all λk=>c.any (Nat.beq k) || !(b.any (Nat.beq k))
theorem Sub.back{c p b:dG}(l:Sub c (p++b))(f:AA (keys p) (keys c) (keys b)=true):Sub (c++b) (p++b):=by
 intro t v d;cases e:lk c t with
 | some j =>
  rw[Lp e]at d;injection d with d;subst d;exact l t j e
 | none =>
  rw[CW e]at d;by_cases i:t∈keys p
  ·simp only[AA,ff,n4,kC,zZ]at f;rcases f t i with⟨x,hx,g⟩|g
   ·have:=gF g;subst this;exfalso;have:∀{h:dG},t∈keys h→lk h t≠none:=by
     intro h
     induction h with
     |nil=>intro e;cases e
     | cons y o n =>
      obtain⟨k,j⟩:=y;intro a;rw[lL];by_cases f:k=t
      ·rw[bE f];simp
      ·rw[bV f];simp[keys]at a;rcases a with a|a
       ·exact absurd a.symm f
       ·exact n a
    exact this hx e
   ·have m:t∉keys b:=by
      intro a;simp at g;exact g t a rfl
    rw[CY m]at d;cases d
  ·rw[CW (CY i)];exact d
def tW(P:Program)(n:Nat)(c:Code)(Q:Exit→Act→World→Prop)(e:dG)(w:World):Prop:=∀a,l4 n e a→c.wp P Q a w
def yz(P:Program)(n:Nat)(ops:Array Oper)(Q:Exit→Act→World→Prop)(l:List Oper)(e:dG)(w:World):Prop:=∀a,l4 n e a→wpList P ops Q l a w
def pE(n:Nat)(Q:Exit→Act→World→Prop)(x:Exit)(e:dG)(w:World):Prop:=∀a,l4 n e a→Q x a w
def kD(P:Program)(f:FuncId)(args:Array Value)(w:World)(R:Value→World→Prop):Prop:=Calls P f args w λe a=>∃v,e = .returned v∧R v a
theorem kD.mono{P:Program}{f:FuncId}{args:Array Value}{w:World}{R a:Value→World→Prop}(h:kD P f args w R)(b:∀v w',R v w'→a v w'):kD P f args w a:=
 mS h λ_ _ ⟨v,c,h⟩=>⟨v,c,b _ _ h⟩
section code
variable {P:Program} {n:Nat} {Q:Exit→Act→World→Prop} {e:dG} {w:World}
theorem tW.sub{c:Code}{e':dG}(h:tW P n c Q e' w)(d:Sub e' e):tW P n c Q e w:=λa b=>h a (d.sat b)
theorem yz.sub{ops:Array Oper}{l:List Oper}{e':dG}(h:yz P n ops Q l e' w)(c:Sub e' e):yz P n ops Q l e w:=λa b=>h a (c.sat b)
theorem pE.sub{x:Exit}{e':dG}(h:pE n Q x e' w)(c:Sub e' e):pE n Q x e w:=λa b=>h a (c.sat b)
def p9:Nat→List Value→dG
 |_,[]=>[]
 |k,v::r=>(k,v)::p9 (k+1) r
theorem CX:∀(l:List Value) (k t:Nat),lk (p9 k l) t=if k≤t then l[t - k]? else none
 |[],k,t=>by simp[p9,lk]
 | v::r,k,t=>by
  rw[p9,lL,CX r (k+1) t];by_cases h:k=t
  ·subst h;simp
  ·rw[bV h];by_cases a:k+1≤t
   ·rw[bE a,bE (by omega)];obtain⟨d,rfl⟩:∃d,t=k+1+d:=⟨t - (k+1),by omega⟩
    rw[show k+1+d - (k+1)=d from by omega,show k+1+d - k=d+1 from by omega];simp
   ·rw[bV a,bV (by omega)]
theorem enter{f:FuncId}{fn:Func}{c:Code}{args:List Value}{R:Value→World→Prop}(d:P.funcs[f]?=some fn)(b:fn.body=some c)(i:fn.ntmps=n)(g:Nat.ble args.length n=true)
  (h:tW P n c (bodyPost P fn λe w'=>∃v,e = .returned v∧R v w') (p9 0 args) w):kD P f args.toArray w R:=by
 refine calls_of_wp d b (h _ ⟨?_,rfl,λt v a=>?_⟩)
 ·have:=dL g;simp[i];omega
 ·rw[CX]at a;simp only[il,aM,Nat.sub_zero]at a;simp[dS,Array.getElem?_append,(aZ.1 a).1];exact(aZ.1 a).2
def tB(b:Array Value):ResultVar→Sem Value
 |.tmp t=>pure (b.getD t undef)
 |.cell a t=>do loadVar t (← asAddr (b.getD a undef))
theorem Nk(fn:Func)(a:Array Value):results fn a=(do let vs ← fn.results.mapM (tB a);pure (if h:vs.size=1 then vs[0]else .tuple vs)):=by
 unfold results;congr 1
variable {fn:Func} {R:Value→World→Prop}
end code
def uZ(P:Program)(o:Oper)(e:dG)(w:World)(v:Value):Prop:=∀a,uC e a→(execOp a o).run P w = .ok (.value v) w
section steps
variable {P:Program} {n:Nat} {ops:Array Oper} {Q:Exit→Act→World→Prop} {rest:List Oper} {o:Oper} {e:dG} {w:World} {d:Nat} {v:Value}
end steps
section pure_ops
variable {P:Program} {e:dG} {w:World} {d:Option Tmp} {ty:TypeId} {pos:String} {af:Array Edge} {gd:Option (Nat × Bool)}
section ints
variable {t t':TypeId} {x y:Operand} {k:IntKind} {i j:Int} (hx:ev e x=some (.int k i)) (hy:ev e y=some (.int k j))
include hx hy
end ints
theorem rC{z:Int}(a : -9223372036854775808≤z)(b:z≤9223372036854775807):IntKind.i64.wrap z=z:=by rw[IntKind.wrap_i64];omega
section ints64
variable {t t':TypeId} {x y:Operand} {i j:Int} (hx:ev e x=some (.int .i64 i)) (hy:ev e y=some (.int .i64 j))
include hx hy
end ints64
theorem uZ.to{o:Oper}{v:Value}(h:uZ P o e w v)(a:Value)(b:v=a):uZ P o e w a:=by subst b;exact h
section strings
variable {t t':TypeId} {x y:Operand} {a b:ByteArray} (hx:ev e x=some (.string a)) (hy:ev e y=some (.string b))
include hx hy
end strings
end pure_ops
abbrev aS:=@Nat.le_refl
abbrev cA:=@List.getElem?_eq_getElem
abbrev cT:=@Nat.zero_add
abbrev dY:=@List.getElem?_append_left
abbrev eK:=@Nat.add_mul
abbrev eY:=@List.getElem?_take
abbrev gE:=@List.eq_nil_of_length_eq_zero
abbrev gL:=@Array.getElem?_eq_some_iff
abbrev gX:=@Nat.le_trans
abbrev hX:=@Nat.lt_of_lt_of_le
abbrev iC:=@List.getElem?_append_right
abbrev iV:=@Nat.mul_le_mul_right
abbrev jw:=@List.getElem?_drop
abbrev nh:=@Nat.add_assoc
abbrev nj:=@Nat.zero_mul
abbrev oi:=@List.length_take
abbrev pT:=@List.flatMap_cons
abbrev rY:=@Nat.eq_zero_or_pos
abbrev uO:=@Nat.min_eq_left
end Go.Eng
namespace Go.Eng
structure Gw where
 w:World
 F:Nat→Nat
 ok:∀b,w.heap.size≤b→F b=0
structure Ev (M:Nat→Prop) (g g':Gw):Prop where
 os:g'.w.os=g.w.os
 tape:g'.w.tape=g.w.tape
 output:g'.w.output=g.w.output
 size:g.w.heap.size≤g'.w.heap.size
 mono:∀b,g.F b≤g'.F b
 cell:∀b o,o<g.F b→g'.w.cell? ⟨b,o,none⟩=g.w.cell? ⟨b,o,none⟩
 aX:∀b,b<g.w.heap.size→¬M b→g'.w.heap[b]?=g.w.heap[b]?∧g'.F b=g.F b
def Aj:Nat→Prop:=λ_=>False
section
variable {M M':Nat→Prop} {g g' g'':Gw}
theorem Ev.refl(M:Nat→Prop)(g:Gw):Ev M g g:=⟨rfl,rfl,rfl,aS _,λ_=>aS _,λ_ _ _=>rfl,λ_ _ _=>⟨rfl,rfl⟩⟩
theorem Ev.step(h:Ev M g g')(k:Ev M' g' g'')(j:∀b,M' b→M b∨g.w.heap.size≤b):Ev M g g'':=
 ⟨k.os.trans h.os,k.tape.trans h.tape,k.output.trans h.output,gX h.size k.size,λb=>gX (h.mono b) (k.mono b),
  λb e a=>(k.cell b e (hX a (h.mono b))).trans (h.cell b e a),
  λb a d=>by
   obtain⟨f,i⟩:=h.aX b a d;obtain⟨l,m⟩:=k.aX b (hX a h.size) (λc=>by
    rcases j b c with c|c
    ·exact d c
    ·omega)
   exact⟨l.trans f,m.trans i⟩⟩
theorem Ev.trans(h:Ev M g g')(k:Ev M g' g''):Ev M g g'':=h.step k λ_ a =>.inl a
theorem Ev.weaken(h:Ev M g g')(a:∀b,M b→M' b∨g.w.heap.size≤b):Ev M' g g':=(Ev.refl M' g).step h a
theorem Ev.below(h:Ev Aj g g'):RowKit.Below g.w.heap.size g.w g'.w:=⟨h.os,h.tape,h.output,h.size,λb a=>(h.aX b a (λc=>c.elim)).1⟩
end
theorem KD(w:World)(o:Obj)(b:Nat)(h:b<w.heap.size):(w.alloc o).heap[b]?=w.heap[b]?:=RowKit.Below.heap_alloc w o b h
def Gw.push(g:Gw)(o:Obj)(m:Nat):Gw:=⟨g.w.alloc o,λb=>if b=g.w.heap.size then m else g.F b,λb a=>by
 have c:g.w.heap.size+1≤b:=by
  have:(g.w.heap.push o).size≤b:=a;simpa using this
 rw[bV (by omega)];exact g.ok b (by omega)⟩
def Gw.set(g:Gw)(ad:Addr)(v:Value):Gw:=⟨g.w.setCell ad v,g.F,λb a=>g.ok b (by simpa[World.setCell]using a)⟩
def Gw.draw(g:Gw):Gw:=⟨{ g.w with drawn:=g.w.drawn+1 },g.F,g.ok⟩
def Gw.bP(g:Gw)(b m:Nat)(d:b<g.w.heap.size):Gw:=⟨g.w,λa=>if a=b then max m (g.F b)else g.F a,λa c=>by
 rw[bV (by omega)];exact g.ok a c⟩
def gU(g:Gw)(b T:Nat)(cs:List Value):Prop:=g.w.heap[b]?=some (.cells cs.toArray T (0,0))∧g.F b=0
section
variable {M:Nat→Prop} {g g':Gw} {b T:Nat} {cs:List Value}
theorem gU.lt(h:gU g b T cs):b<g.w.heap.size:=(gL.1 h.1).1
theorem gU.cell(h:gU g b T cs)(i:Nat):g.w.cell? ⟨b,i,none⟩=cs[i]?:=by
 have:=h.1;simp[World.cell?,this]
theorem gU.frozen(h:gU g b T cs)(i:Nat):g.w.frozen? ⟨b,i,none⟩=false:=by
 have:=h.1;simp[World.frozen?,this]
theorem gU.ev(h:gU g b T cs)(a:Ev M g g')(c:¬M b):gU g' b T cs:=⟨(a.aX b h.lt c).1.trans h.1,(a.aX b h.lt c).2.trans h.2⟩
theorem gU.new(g:Gw)(T:Nat)(cs:List Value):gU (g.push (.cells cs.toArray T) 0) g.w.heap.size T cs:=⟨heap_alloc_new g.w _,by simp[Gw.push]⟩
end
structure hQ (g:Gw) (a:Option Addr) (n cap V:Nat) (cs:List Value):Prop where
 len:cs.length=n*V
 nc:n≤cap
 cm:cap≤9223372036854775807
 pos:0<n→∃b o,a=some ⟨b,o,none⟩∧o+n*V≤g.F b∧∀j v,cs[j]?=some v→g.w.cell? ⟨b,o+j,none⟩=some v
section
variable {M:Nat→Prop} {g g':Gw} {a:Option Addr} {n cap V:Nat} {cs:List Value}
theorem hQ.ev(h:hQ g a n cap V cs)(d:Ev M g g'):hQ g' a n cap V cs:=
 ⟨h.len,h.nc,h.cm,λl=>by
  obtain⟨b,f,i,j,k⟩:=h.pos l;refine⟨b,f,i,gX j (d.mono b),λc m e=>?_⟩;have o:c<n*V:=by rw[← h.len];exact(aZ.1 e).1
  rw[d.cell b (f+c) (by omega)];exact k c m e⟩
theorem hQ.nil(g:Gw)(a:Option Addr)(cap V:Nat)(c:cap≤9223372036854775807):hQ g a 0 cap V []:=⟨by simp,il _,c,λb=>absurd b (by omega)⟩
theorem hQ.empty(h:hQ g a 0 cap V cs):cs=[]:=gE (by simpa using h.len)
theorem hQ.at_(h:hQ g a n cap V cs)(d:0<n):∃b o,a=some ⟨b,o,none⟩:=by
 obtain⟨b,o,c,_⟩:=h.pos d;exact⟨b,o,c⟩
theorem hQ.cell{b o:Nat}(h:hQ g (some ⟨b,o,none⟩) n cap V cs){j:Nat}{v:Value}(d:cs[j]?=some v):g.w.cell? ⟨b,o+j,none⟩=some v:=by
 have i:j<n*V:=by rw[← h.len];exact(aZ.1 d).1
 have k:0<n:=by
  rcases rY n with c|c
  ·subst c;simp at i
  ·exact c
 obtain⟨l,m,a,_,f⟩:=h.pos k;injection a with a;injection a with a e;subst a;subst e;exact f j v d
theorem hQ.cut(h:hQ g a n cap V cs){l m:Nat}(u:l≤m)(q:m≤n)(c:Nat)(k:m - l≤c)(p:c≤9223372036854775807)(e:Option Addr)(j:∀b o,l<m→a=some ⟨b,o,none⟩→e=some ⟨b,o+l*V,none⟩):
  hQ g e (m - l) c V ((cs.take (m*V)).drop (l*V)):=by
 have r:m*V≤n*V:=iV V q;refine⟨?_,k,p,λv=>?_⟩
 ·rw[List.length_drop,oi,h.len,uO r,Nat.sub_mul]
 ·obtain⟨b,o,f,t,i⟩:=h.pos (by omega);refine⟨b,o+l*V,j b o (by omega) f,?_,λw s d=>?_⟩
  ·have:l*V+(m - l)*V=m*V:=by rw[← eK];congr 1;omega
   omega
  ·rw[nh];refine i _ s ?_;rw[jw]at d;rw[eY]at d;split at d
   ·exact d
   ·cases d
end
theorem Cb{α:Type}{f:α→List Value}{V:Nat}(a:∀x,(f x).length=V):∀(xs:List α) (i j:Nat) (x:α),xs[i]?=some x→j<V→(xs.flatMap f)[i*V+j]?=(f x)[j]?
 |[],i,j,x,h,_=>by simp at h
 | y::ys,0,j,x,h,b=>by
  simp at h;subst h;simp only[nj,cT,pT];rw[dY (by rw[a];exact b)]
 | y::ys,i+1,j,x,h,b=>by
  simp at h;simp only[pT];rw[iC (by rw[a,eK];omega),a,show(i+1)*V+j - V=i*V+j from by rw[eK];omega];exact Cb a ys i j x h b
structure fK {α:Type} (g:Gw) (a:Option Addr) (n cap V:Nat) (f:α→List Value) (xs:List α):Prop where
 sl:hQ g a n cap V (xs.flatMap f)
 num:xs.length=n
 cells:∀x,(f x).length=V
section
variable {α:Type} {M:Nat→Prop} {g g':Gw} {a:Option Addr} {n cap V:Nat} {f:α→List Value} {xs:List α}
theorem fK.ev(h:fK g a n cap V f xs)(b:Ev M g g'):fK g' a n cap V f xs:=⟨h.sl.ev b,h.num,h.cells⟩
theorem fK.cell{b o:Nat}(h:fK g (some ⟨b,o,none⟩) n cap V f xs){i j:Nat}{x:α}{v:Value}(d:xs[i]?=some x)(a:(f x)[j]?=some v):g.w.cell? ⟨b,o+i*V+j,none⟩=some v:=by
 have c:j<V:=by rw[← h.cells x];exact(aZ.1 a).1
 rw[nh];exact h.sl.cell (by rw[Cb h.cells xs i j x d c];exact a)
theorem fK.at_(h:fK g a n cap V f xs)(c:0<n):∃b o,a=some ⟨b,o,none⟩:=h.sl.at_ c
theorem fK.nil(g:Gw)(a:Option Addr)(cap V:Nat)(f:α→List Value)(c:∀x,(f x).length=V)(b:cap≤9223372036854775807):fK g a 0 cap V f []:=⟨hQ.nil g a cap V b,rfl,c⟩
theorem fK.get(h:fK g a n cap V f xs){i:Nat}(hi:i<n):∃x,xs[i]?=some x:=⟨xs[i]'(by rw[h.num];exact hi),cA (by rw[h.num];exact hi)⟩
end
def Own(g:Gw)(base:Nat)(a:Option Addr)(n cap V T:Nat):Prop:=
 (a=none∧n=0∧cap=0)∨∃b c,a=some ⟨b,0,none⟩∧base≤b∧g.w.heap[b]?=some (.cells c T (0,0))∧n≤cap∧cap≤9223372036854775807∧c.size=cap*V∧g.F b=n*V
def qb(a:Option Addr):Nat→Prop:=λb=>a.map (·.block)=some b
section
variable {M:Nat→Prop} {g g':Gw} {base:Nat} {a:Option Addr} {n cap V T:Nat}
theorem Own.nil(g:Gw)(base V T:Nat):Own g base none 0 0 V T :=.inl ⟨rfl,rfl,rfl⟩
theorem Own.ev(h:Own g base a n cap V T)(p:Ev M g g')(m:∀b,qb a b→base≤b→¬M b):Own g' base a n cap V T:=by
 rcases h with h|⟨b,f,c,d,e,i,j,k,l⟩
 ·exact .inl h
 ·have o:b<g.w.heap.size:=(gL.1 e).1;obtain⟨q,r⟩:=p.aX b o (m b (by simp[qb,c]) d);exact .inr ⟨b,f,c,d,q.trans e,i,j,k,r.trans l⟩
theorem Own.weaken{c:Nat}(h:Own g base a n cap V T)(j:c≤base):Own g c a n cap V T:=by
 rcases h with h|⟨b,d,e,i,f⟩
 ·exact .inl h
 ·exact .inr ⟨b,d,e,by omega,f⟩
end
section mem
variable {P:Program} {e:dG} {g:Gw} {d:Option Tmp} {ty:TypeId} {pos:String} {af:Array Edge} {gd:Option (Nat × Bool)}
def One(P:Program)(t:TypeId):Prop:=∀a,(isAgg t).run P a = .ok false a
def EJ(P:Program)(t:TypeId):Prop:=∀a,(isAgg t).run P a = .ok true a
def Fw(P:Program)(t:TypeId)(n:Nat):Prop:=∀a,(sizeOf t).run P a = .ok n a
theorem Lr{t:TypeId}(a:One P t){ad:Addr}{w:World}{v:Value}(b:w.cell? ad=some v):(loadVar t ad).run P w = .ok v w:=by
 unfold loadVar;simp[a w,b]
theorem Lq{t:TypeId}{V:Nat}(a:EJ P t)(d:Fw P t V){ad:Addr}{w:World}{vs:List Value}(c:vs.length=V)(b:∀j v,vs[j]?=some v→w.cell? (ad.add j)=some v):(loadVar t ad).run P w = .ok (.agg vs.toArray) w:=by
 unfold loadVar;have:=run_loadCells_list (P:=P) (w:=w) ad vs b;rw[c]at this;simp[a w,d w,this]
end mem
abbrev dU:=@Bool.and_eq_true
abbrev eB:=@List.mem_of_getElem?
abbrev fB:=@congrArg
abbrev ja:=@List.mem_filterMap
end Go.Eng
namespace Go.Eng
def jh(ops:Array Oper)(k:Nat):List Nat:=match ops[k]? with
 |some o=>(o.after.toList.filter (Region.binds .any ·)).map (·.on)
 |none=>[]
def eO(l:List Oper):List Nat:=l.filterMap (·.dst)
def jM(t:Nat)(l:List Nat):Bool:=l.any (Nat.beq t)
theorem lM{t:Nat}{l:List Nat}:jM t l=true↔t∈l:=by
 simp[jM]
def sg:List Oper→Bool
 |[]=>true
 | o::r=>(match o.dst with
  |some d => !(jM d (eO r))
  |none=>true)&&sg r
theorem De{l:List Oper}{j:Nat}{o:Oper}{d:Nat}(h:l[j]?=some o)(a:o.dst=some d):d∈eO l:=by
 unfold eO;rw[ja];exact⟨o,eB h,a⟩
theorem Bf:∀{l:List Oper},sg l=true→∀{i j:Nat} {o p:Oper} {d:Nat},l[i]?=some o→l[j]?=some p→o.dst=some d→p.dst=some d→i=j
 |[],_,i,_,o,_,_,hi,_,_,_=>by simp at hi
 | x::r,h,i,j,o,p,d,hi,b,c,e=>by
  simp only[sg,dU]at h;obtain⟨a,h2⟩:=h;cases i with
  | zero =>
   simp at hi;subst hi;cases j with
   |zero=>rfl
   | succ j =>
    simp at b;rw[c]at a;simp only[kC]at a;have:=lM.2 (De b e);rw[a]at this;cases this
  | succ i =>
   simp at hi;cases j with
   | zero =>
    simp at b;subst b;rw[e]at a;simp only[kC]at a;have:=lM.2 (De hi c);rw[a]at this;cases this
   | succ j =>
    simp at b;exact fB (· + 1) (Bf h2 hi b c e)
def mD(n:Nat)(l:List Oper):Bool:=
 sg l&&(eO l).all (λd=>Nat.blt d n)&&(List.range l.length).all λa=>(jh l.toArray a).all λb=>Nat.blt b a
section og
variable {P:Program} {n:Nat} {l:List Oper} {Q:Exit→Act→World→Prop} {M:Nat→Prop} {J:Gw→Prop} {T:Nat→Value→Gw→Prop} {e0:dG} {g0:Gw}
end og
section quiet
variable {P:Program} {ops:Array Oper} {M:Nat→Prop} {J:Gw→Prop} {g0:Gw} {K:dG→Prop} {o:Oper} {rest:List Oper} {e:dG} {d:Nat} {v:Value}
end quiet
def r7(b:Nat→Prop)(g:Gw)(R:Value→Gw→Prop)(v:Value)(w':World):Prop:=∃a,a.w=w'∧Ev b g a∧R v a
theorem r7.mono{a c:Nat→Prop}{g:Gw}{R d:Value→Gw→Prop}{v:Value}{w':World}(h:r7 a g R v w')(j:∀b,a b→c b∨g.w.heap.size≤b)(k:∀g',R v g'→d v g'):r7 c g d v w':=by
 obtain⟨g',e,f,i⟩:=h;exact⟨g',e,f.weaken j,k g' i⟩
def Gw.of(w:World):Gw:=⟨w,λ_=>0,λ_ _=>rfl⟩
end Go.Eng
namespace Go.Eng
def EK(T:Nat)(g:Gw)(f:Nat)(c:Option Addr)(a e:Nat)(O:List Int)(i:Nat):Prop:=
 gU g f T [.slice c a e,.int .i64 (i:Int)]∧fK g c a e 1 (λb:Int=>[Value.int .u8 b]) O∧i≤a∧(∀b∈O,0≤b∧b<256)∧(0<a→∀d,qb c d→d<f)
def mT(T:Nat)(g:Gw)(e:Nat):Prop:=∃b d c O a,EK T g e b d c O a
theorem mT.ev{T:Nat}{b:Nat→Prop}{g g':Gw}{a:Nat}(h:mT T g a)(c:Ev b g g')(f:¬b a):mT T g' a:=by
 obtain⟨m,o,n,O,l,d,j,e,k,i⟩:=h;exact⟨m,o,n,O,l,d.ev c f,j.ev c,e,k,i⟩
theorem mT.lt{T:Nat}{g:Gw}{a:Nat}(h:mT T g a):a<g.w.heap.size:=by
 obtain⟨d,f,e,O,c,b,_⟩:=h;exact b.lt
abbrev cV:=@decide_false
abbrev eJ:=@List.mem_map
abbrev e9:=@Nat.lt_or_ge
abbrev fo:=@List.mem_filter
abbrev fU:=@Bool.not_true
abbrev gH:=@Option.map_some
abbrev gP:=@Option.getD_some
abbrev iA:=@Bool.not_false
abbrev j5:=@List.drop_eq_getElem_cons
abbrev ki:=@decide_eq_true
abbrev rE:=@Array.getElem?_setIfInBounds_self_of_lt
abbrev rH:=@Bool.false_or
abbrev rU:=@List.filter_eq_nil_iff
abbrev tZ:=@Array.all_eq_true_iff_forall_mem
abbrev uc:=@Bool.true_and
abbrev z6:=@List.drop_eq_nil_of_le
end Go.Eng
namespace Go.Eng
structure uS (R:Gw→Gw→Prop):Prop where
 refl:∀g,R g g
 trans:∀a b c,R a b→R b c→R a c
theorem Ev.pre(a:Nat→Prop):uS (Ev a):=⟨Ev.refl a,λ_ _ _ b c=>b.trans c⟩
abbrev jq:=Value→Gw→Prop
def yp(m:Nat)(l:List Oper):Bool:=(List.range l.length).all λa=>Nat.blt a m||(List.range a).all λb=>jM b (jh l.toArray a)
def dv(o:Oper)(v:Value):Value:=match o.dst with
 |some _=>v
 |none=>undef
structure pZ (P:Program) (R:Gw→Gw→Prop) (J:Gw→Prop) (T:jq) (o:Oper) (e:dG) (g:Gw):Prop where
 go:∀ρ,uC e ρ →
  (∃v g',(execOp ρ o).run P g.w = .ok (.value v) g'.w∧R g g'∧J g'∧T (dv o v) g')∨(∃f args,(execOp ρ o).run P g.w = .ok (.enter f args) g.w∧kD P f args g.w (λv w'=>∃g',g'.w=w'∧R g g'∧J g'∧T (dv o v) g')) ∨
  (o.dst=none∧∃g',(execOp ρ o).run P g.w = .ok .skip g'.w∧R g g'∧J g'∧T undef g')
def oK:List jq→List Value→Gw→Prop
 |[],[],_=>True
 |T::s,v::vs,g=>T v g∧oK s vs g
 |_,_,_=>False
theorem oK.cons{T:jq}{s:List jq}{vs:List Value}{g:Gw}(h:oK (T::s) vs g):∃v r,vs=v::r∧T v g∧oK s r g:=by
 cases vs with
 |nil=>exact h.elim
 |cons v r=>exact⟨v,r,rfl,h.1,h.2⟩
theorem oK.nil{vs:List Value}{g:Gw}(h:oK [] vs g):vs=[]:=by
 cases vs with
 |nil=>rfl
 |cons b a=>exact h.elim
section og
variable {P:Program} {n:Nat} {Q:Exit→Act→World→Prop} {R:Gw→Gw→Prop} {J:Gw→Prop}
theorem ED {l:List Oper} {m:Nat} (H:mD n l=true) (af:yp m l=true):∀(t:List Oper) (k d:Nat) (f:Array Bool) (a:Act) (w:World),m≤k→l.drop k=t→f.size=l.length→(∀i,i<l.length→f[i]?=some (decide (i<k))) →
  t.length≤d→wpList P l.toArray Q t a w→wpAny P .any l.toArray Q d f a w:=by
 have M:∀k (c:k<l.length),∀b∈l[k].after,Region.binds .any b=true→b.on<k:=by
  intro k c b r o;simp only[mD,dU]at H;have:=(ff.1 H.2) k (by simp[c]);have g:b.on∈jh l.toArray k:=by
   unfold jh;have q:l.toArray[k]?=some l[k]:=by simp[c]
   rw[q];simp only[eJ,fo];exact⟨b,⟨by simpa using r,o⟩,rfl⟩
  have:=dL ((ff.1 this) _ g);omega
 intro t
 induction t with
 | nil =>
  intro k d f a w ab g I j y h;have c:l.length≤k:=by simpa using g
  have x:Region.ready .any l.toArray f=[]:=by
   unfold Region.ready;rw[rU];intro i e;have T:i<l.length:=by simpa using e
   have:=j i T;rw[ki (by omega)]at this;simp[dS,this]
  cases d with
  |zero=>exact⟨x,h⟩
  |succ d=>exact⟨λ_=>h,λi e=>by rw[x]at e;cases e⟩
 | cons ai t ah =>
  intro k d f a w ab g I j y h;cases d with
  |zero=>simp at y
  | succ d =>
   have c:k<l.length:=by
    rcases e9 k l.length with p|p
    ·exact p
    ·rw[z6 p]at g;cases g
   have R:=j5 c;rw[R]at g;injection g with ac N;have ae:∀i,i∈Region.ready .any l.toArray f→i=k:=by
    intro i e;unfold Region.ready at e;rw[fo]at e;obtain⟨X,C⟩:=e;have z:i<l.length:=by simpa using X
    simp only[dU,kC]at C;obtain⟨B,u⟩:=C;rw[dS,j i z]at B;simp at B;rcases e9 k i with F|F
    ·exfalso;have:=(ff.1 af) i (by simp[z]);simp only[n4]at this;rcases this with o|o
     ·have:=dL o;omega
     ·have v:=lM.1 ((ff.1 o) k (by simp[F]));unfold jh at v;have ad:l.toArray[i]?=some l[i]:=by simp[z]
      rw[ad]at u v;simp only[gH,gP]at u;rw[tZ]at u;simp only[eJ,fo]at v;obtain⟨b,⟨r,L⟩,ag⟩:=v;have:=u b (by simpa using r);rw[L]at this;simp only[fU,rH]at this;rw[ag,dS,j k c]at this;simp at this
    ·omega
   refine⟨λx=>?_,λi e=>?_⟩
   ·exfalso;have E:k∈Region.ready .any l.toArray f:=by
     unfold Region.ready;rw[fo];refine⟨by simp[c],?_⟩;rw[dS,j k c];have q:l.toArray[k]?=some l[k]:=by simp[c]
     rw[q];simp only[Nat.lt_irrefl,cV,gP,iA,uc,gH];rw[tZ];intro b r;cases o:Region.binds .any b with
     |false=>simp
     | true =>
      have s:b.on<k∨¬b.on<k:=Decidable.em _;rcases s with s|s
      ·have:=j b.on (by omega);rw[ki s]at this;simp[dS,this]
      ·exfalso;exact s (M k c b (by simpa using r) o)
    rw[x]at E;cases E
   ·have:=ae i e;subst this;unfold wpOp;have q:l.toArray[i]?=some l[i]:=by simp[c]
    rw[q];simp only[];rw[ac];unfold wpList at h;have G:∀a w,wpList P l.toArray Q t a w→wpAny P .any l.toArray Q d (f.setIfInBounds i true) a w:=λa w p=>by
     refine ah (i+1) d _ a w (by omega) N (by simp[I]) (λK aa=>?_) (by simpa using y) p;by_cases D:i=K
     ·subst D;rw[rE (by omega)];simp
     ·rw[j4 D,j K aa];congr 1;simp only[decide_eq_decide];omega
    split at h
    ·rename_i A;rw[bE A];exact h.imp (Oper.wp_mono G) id
    ·rename_i A;rw[bV A];exact G _ _ h
end og
abbrev aR:=@if_false
abbrev bA:=@Bool.false_eq_true
abbrev eF:=@List.length_cons
abbrev fG:=@List.mem_cons_of_mem
abbrev gO:=@List.mem_cons_self
abbrev pU:=@List.foldl_cons
abbrev yE:=@Array.foldl_toList
end Go.Eng
namespace Go.Eng
section
variable {P:Program} {e:dG} {g:Gw} {d:Option Tmp} {ty:TypeId} {pos:String} {af:Array Edge} {gd:Option (Nat × Bool)}
def oF:Nat→List Value→List (Nat × Value)
 |_,[]=>[]
 |k,x::r=>(k,x)::oF (k+1) r
theorem B8(cs:List Value):∀(b d:List Value),cs.length≤d.length →
  (cs.toArray.zipIdx.foldl (λa (c,j)=>a.setIfInBounds (b.length+j) c) (b++d).toArray)=(b++cs++d.drop cs.length).toArray:=by
 have n:∀(cs:List Value) (e:Nat) (b d:List Value),cs.length≤d.length→∀f,b.length=f+e →
   ((cs.zipIdx e).foldl (λ(a:Array Value) (i:Value × Nat)=>a.setIfInBounds (f+i.2) i.1) (b++d).toArray)=(b++cs++d.drop cs.length).toArray:=by
  intro cs
  induction cs with
  |nil=>intro e b d _ f _;simp
  | cons c p m =>
   intro e b d g f l;cases d with
   |nil=>simp at g
   | cons o h =>
    simp only[eF]at g;have:=m (e+1) (b++[c]) h (by omega) f (by simp;omega);simp only[List.zipIdx_cons,pU];have k:(b++o::h).toArray.setIfInBounds (f+e) c=(b++[c]++h).toArray:=by
     rw[← l];simp
    rw[k,this];simp
 intro b d g;have:=n cs 0 b d g b.length (by simp);rw[← this,← yE];simp
def over:List Value→List Value→List Value
 |_::cs,v::vs=>v::over cs vs
 |cs,_=>cs
theorem BP{V:Nat}:∀(vs:List Value) (b a:List Value) (k:Nat),b.length=k*V→a.length=vs.length*V→(∀v∈vs,v.cells.size=V) →
  Instr.fill (λi=>some (i*V,V)) (b++a).toArray (oF k vs)=some (b++vs.flatMap (λv=>v.cells.toList)).toArray
 | [],b,a,k,_,d,_=>by
  have:a=[]:=gE (by simpa using d);subst this;simp[oF,Instr.fill]
 | v::q,b,a,k,f,d,e=>by
  have c:=e v (gO ..);have n:V≤a.length:=by rw[d];simp[eK]
  simp only[oF,Instr.fill];have s:¬(v.cells.size≠V∨k*V+v.cells.size>(b++a).toArray.size):=by
   simp[c];omega
  have j:(decide (v.cells.size≠V)||decide (k*V+v.cells.size>(b++a).toArray.size))=false:=by
   simp[c];omega
  simp only[j,bA,aR];have l:=B8 v.cells.toList b a (by simpa[c]using n);have m:v.cells.zipIdx.foldl (λh (g,p)=>h.setIfInBounds (k*V+p) g) (b++a).toArray=(b++v.cells.toList++a.drop V).toArray:=by
   rw[← f];simpa[c]using l
  rw[m];have:=BP q (b++v.cells.toList) (a.drop V) (k+1) (by simp[f,c,eK]) (by simp[d,eK]) (λr o=>e r (fG _ o));rw[this];simp
theorem fK.of{b:Type}{a:Option Addr}{n cap V:Nat}{cs:List Value}(h:hQ g a n cap V cs)(f:b→List Value)(xs:List b)(d:∀x,(f x).length=V)(c:xs.flatMap f=cs)(e:xs.length=n):fK g a n cap V f xs:=⟨c▸h,e,d⟩
end
section
variable {P:Program} {M:Nat→Prop} {J:Gw→Prop} {T:jq} {o:Oper} {e:dG} {g:Gw} {v:Value}
def BF(a:Value):jq:=λv _=>v=a
def BG(p:Int→Prop):jq:=λv _=>∃a:Int,v = .int .i64 a∧p a
def BH(p:ByteArray→Prop):jq:=λv _=>∃a:ByteArray,v = .string a∧p a
end
section
variable {g:Gw} {M:Nat→Prop} {J:Gw→Prop}
theorem fK.fz{c:Type}{b o n cap V:Nat}{f:c→List Value}{xs:List c}(h:fK g (some ⟨b,o,none⟩) n cap V f xs){i j:Nat}(hi:i<n)(l:j<V):o+i*V+j<g.F b:=by
 obtain⟨e,m,a,k,_⟩:=h.sl.pos (by omega);injection a with a;injection a with a d;subst a;subst d;have:(i+1)*V≤n*V:=iV V (by omega);rw[eK]at this;omega
theorem BF.mk{a:Value}:BF a a g:=rfl
theorem BG.mk{p:Int→Prop}{r:Int}(h:p r):BG p (.int .i64 r) g:=⟨r,rfl,h⟩
theorem BH.mk{p:ByteArray→Prop}{s:ByteArray}(h:p s):BH p (.string s) g:=⟨s,rfl,h⟩
end
section
variable {P:Program} {e:dG} {g:Gw} {d:Option Tmp} {ty:TypeId} {pos:String} {af:Array Edge} {gd:Option (Nat × Bool)}
end
def yI(b T:Nat)(cs:List Value):Gw→Gw→Prop:=λg a=>Ev (· = b) g a∧(gU g b T cs→gU a b T cs)
theorem yI.pre(b T:Nat)(cs:List Value):uS (yI b T cs):=⟨λg=>⟨Ev.refl _ g,λa=>a⟩,λ_ _ _ a c=>⟨a.1.trans c.1,λd=>c.2 (a.2 d)⟩⟩
theorem gU.draw{g:Gw}{b T:Nat}{cs:List Value}(h:gU g b T cs):gU g.draw b T cs:=h
abbrev gh:=@List.length_append
end Go.Eng
namespace Go.Eng
section og
variable {P:Program} {n:Nat} {Q:Exit→Act→World→Prop} {R:Gw→Gw→Prop} {J:Gw→Prop}
def Pb(o:Oper)(e:dG):Option Value:=match o.dst with
 |some d=>lk e d
 | none=>match o.op with
  |.store _ (.tmp a) _=>lk e a
  |_=>some undef
structure rZ (P:Program) (R:Gw→Gw→Prop) (J:Gw→Prop) (T:jq) (o:Oper) (e:dG) (g:Gw):Prop where
 go:∀ρ,uC e ρ →
  (∃v g',o.dst≠none∧(execOp ρ o).run P g.w = .ok (.value v) g'.w∧R g g'∧J g'∧T v g')∨(∃f args,o.dst≠none∧(execOp ρ o).run P g.w = .ok (.enter f args) g.w∧kD P f args g.w (λv w'=>∃g',g'.w=w'∧R g g'∧J g'∧T v g')) ∨
  (o.dst=none∧∃u g',Pb o e=some u∧(execOp ρ o).run P g.w = .ok .skip g'.w∧R g g'∧J g'∧T u g')
theorem pZ.d3{P:Program}{R:Gw→Gw→Prop}{J:Gw→Prop}{T:jq}{o:Oper}{e:dG}{g:Gw}{d:Nat}(h:pZ P R J T o e g)(j:o.dst=some d):rZ P R J T o e g :=.mk λw r=>by
 have f:o.dst≠none:=by rw[j];simp
 have k:∀a,dv o a=a:=λa=>by unfold dv;rw[j]
 rcases h.go w r with⟨a,b,c,n,p,i⟩|⟨l,args,c,q⟩|⟨m,_⟩
 ·rw[k]at i;exact .inl ⟨a,b,f,c,n,p,i⟩
 ·exact .inr (.inl ⟨l,args,f,c,q.mono λa x ⟨b,s,t,u,v⟩=>⟨b,s,t,u,by rwa [k]at v⟩⟩)
 ·exact absurd m f
end og
theorem pZ.imp{P:Program}{R:Gw→Gw→Prop}{J:Gw→Prop}{T i:jq}{o:Oper}{e:dG}{g:Gw}(h:pZ P R J T o e g)(f:∀v g',T v g'→i v g'):pZ P R J i o e g :=.mk λs m=>by
 rcases h.go s m with⟨v,g',a,b,c,d⟩|⟨j,args,a,l⟩|⟨k,g',a,b,c,d⟩
 ·exact .inl ⟨v,g',a,b,c,f _ _ d⟩
 ·exact .inr (.inl ⟨j,args,a,l.mono λv t ⟨g',n,p,q,r⟩=>⟨g',n,p,q,f _ _ r⟩⟩)
 ·exact .inr (.inr ⟨k,g',a,b,c,f _ _ d⟩)
def yJ(b:Nat)(g g':Gw):Prop:=Ev (λa=>b≤a∧0<g.F a) g g'
def n9(d:Nat→Prop)(b c:Nat)(g g':Gw):Prop:=Ev (λa=>d a∨(b≤a∧0<g.F a)∨c≤a) g g'
theorem n9.pre(k:Nat→Prop)(i j:Nat):uS (n9 k i j):=⟨λg=>Ev.refl _ g,λq r s a c=>⟨c.os.trans a.os,c.tape.trans a.tape,c.output.trans a.output,gX a.size c.size,λb=>gX (a.mono b) (c.mono b),
 λb o f=>(c.cell b o (hX f (a.mono b))).trans (a.cell b o f),λb h e=>by
  obtain⟨l,d⟩:=a.aX b h e;obtain⟨n,p⟩:=c.aX b (hX h a.size) (λm=>e (by rw[← d];exact m));exact⟨n.trans l,p.trans d⟩⟩⟩
theorem n9.of{a:Nat→Prop}{b c:Nat}(g g':Gw)(h:Ev a g g'):n9 a b c g g':=h.weaken λ_ d =>.inl (.inl d)
theorem n9.hE{b:Nat→Prop}{d:Nat}{c g1 g':Gw}(h:Ev b c g1)(e:c.w.heap.size≤d)(f:n9 b d g1.w.heap.size g1 g'):Ev b c g':=h.step f λg a=>by
 rcases a with a|a|a
 ·exact .inl a
 ·exact .inr (gX e a.1)
 ·exact .inr (gX h.size a)
theorem yJ.refl{a:Nat}(g:Gw):yJ a g g:=Ev.refl _ g
theorem gU.nz{g:Gw}{b T a:Nat}{cs:List Value}(h:gU g b T cs):¬(a≤b∧0<g.F b):=λc=>by
 have:=h.2;omega
theorem mT.nz{T:Nat}{g:Gw}{a b:Nat}(h:mT T g a):¬(b≤a∧0<g.F a):=by
 obtain⟨e,i,f,O,d,c,_⟩:=h;exact c.nz
section
variable {P:Program} {e:dG} {g:Gw} {d:Nat} {ty:TypeId} {pos:String} {af:Array Edge} {gd:Option (Nat × Bool)} {J:Gw→Prop} {α:Type}
theorem fK.app{g':Gw}{a:Option Addr}{n m cap V:Nat}{f:α→List Value}{xs ys:List α}(c:xs.length=n)(d:ys.length=m)(b:∀x,(f x).length=V)(h:hQ g' a (n+m) cap V (xs.flatMap f++ys.flatMap f)):fK g' a (n+m) cap V f (xs++ys):=
 fK.of h f (xs++ys) b (by rw[List.flatMap_append]) (by rw[gh,c,d])
end
section
variable {P:Program} {R:Gw→Gw→Prop} {J:Gw→Prop} {T:jq} {l:List Oper} {o:Oper} {e:dG} {g:Gw}
theorem rZ.imp{j:jq}(h:rZ P R J T o e g)(i:∀v g',T v g'→j v g'):rZ P R J j o e g :=.mk λu m=>by
 rcases h.go u m with⟨v,g',a,b,c,d,f⟩|⟨k,args,a,b,l⟩|⟨a,t,g',n,b,c,d,f⟩
 ·exact .inl ⟨v,g',a,b,c,d,i _ _ f⟩
 ·exact .inr (.inl ⟨k,args,a,b,l.mono λv w ⟨g',p,q,r,s⟩=>⟨g',p,q,r,i _ _ s⟩⟩)
 ·exact .inr (.inr ⟨a,t,g',n,b,c,d,i _ _ f⟩)
end
abbrev fg:=@Sem.run_bind
abbrev fp:=@Result.andThen_ok
abbrev fw:=@ne_eq
abbrev gW:=@List.take_of_length_le
abbrev hV:=@List.drop_succ_cons
abbrev ih:=@Addr.add_lit
abbrev iO:=@not_false_eq_true
abbrev jx:=@List.nil_append
abbrev rS:=@List.drop_append
abbrev rW:=@List.take_append
abbrev uM:=@List.take_succ_cons
end Go.Eng
namespace Go.Eng
def kG(P:Program)(t:TypeId)(a b:Value)(r:Bool):Prop:=∀d w,(Op.equalIn (d+1) t a b).run P w = .ok r w
section
variable {P:Program}
theorem kG.int{t:TypeId}{k c:IntKind}{a b:Int}(h:P.underlying t=some (.int c)):kG P t (.int k a) (.int k b) (a==b):=λd w=>run_equalIn_int w d t k c a b h
theorem kG.str{t:TypeId}{a b:ByteArray}(h:P.underlying t=some .string):kG P t (.string a) (.string b) (a.toList==b.toList):=λd w=>run_equalIn_string w d t a b h
theorem kG.bool{t:TypeId}{a b:Bool}(h:P.underlying t=some .bool):kG P t (.bool a) (.bool b) (a==b):=λd w=>run_equalIn_bool' w d t a b h
def rJ(P:Program)(xs ys:List Value):List Field→List Bool→Prop
 |[],[]=>True
 |f::fs,r::c=>("_" == f.name)=false∧One P f.type∧(∃a b,xs[f.offset]?=some a∧ys[f.offset]?=some b∧kG P f.type a b r)∧rJ P xs ys fs c
 |_,_=>False
theorem DZ{d:Nat}{xs ys:List Value}{w:World}:∀{fs:List Field} {c:List Bool},rJ P xs ys fs c→(Op.eqFields (d+1) xs.toArray ys.toArray fs).run P w = .ok (c.all id) w
 |[],[],_=>by simp[Op.eqFields]
 |[],_::_,h=>h.elim
 |_::_,[],h=>h.elim
 | f::fs,r::c,⟨e,h2,⟨a,b,i,j,m⟩,g⟩=>by
  have l:f.name ≠ "_" := λk=>by rw[k]at e;simp at e
  have n:(part f.type xs.toArray f.offset).run P w = .ok a w:=by simp[part,h2 w,i]
  have o:(part f.type ys.toArray f.offset).run P w = .ok b w:=by simp[part,h2 w,j]
  simp only[Op.eqFields,l,fw,iO,aM,fg,n,o,m d w,fp,Sem.run_ite];cases r with
  |false=>simp
  |true=>simp[DZ (w:=w) g]
variable {e:dG} {d:Option Tmp} {ty:TypeId} {pos:String} {af:Array Edge} {gd:Option (Nat × Bool)} {w:World}
theorem Nt{t:TypeId}{fs:Array Field}{xs ys:List Value}{c:List Bool}(b:P.underlying t=some (.struct fs))(e:P.stoodInHeld t=false)(d:rJ P xs ys fs.toList c):(Op.equalIn 10000 t (.agg xs.toArray) (.agg ys.toArray)).run P w = .ok (c.all id) w:=by
 have a:P.fieldsOf t=fs:=by simp[Program.fieldsOf,b]
 rw[run_equalIn_struct w 9999 t _ _ (by rw[a];exact b) e,a];exact DZ d
end
theorem Eo{α:Type}{f:α→List Value}{V:Nat}(a:∀x,(f x).length=V):∀(xs:List α) (m:Nat),(xs.take m).flatMap f=(xs.flatMap f).take (m*V)
 |[],m=>by simp
 |x::r,0=>by simp
 | x::r,m+1=>by
  simp only[uM,pT,Eo a r m];rw[rW,gW (l:=f x) (by rw[a,eK];omega),a,show(m+1)*V - V=m*V from by rw[eK];omega]
theorem Bj{α:Type}{f:α→List Value}{V:Nat}(a:∀x,(f x).length=V):∀(xs:List α) (m:Nat),(xs.drop m).flatMap f=(xs.flatMap f).drop (m*V)
 |[],m=>by simp
 |x::r,0=>by simp
 | x::r,m+1=>by
  simp only[hV,pT,Bj a r m];rw[rS,@z6 _ (f x) _ (by rw[a,eK];omega),a,jx,show(m+1)*V - V=m*V from by rw[eK];omega]
section
variable {α:Type} {g:Gw} {a:Option Addr} {n cap V:Nat} {f:α→List Value} {xs:List α}
theorem fK.part(h:fK g a n cap V f xs){l m:Nat}(d:l≤m)(e:m≤n):fK g (if cap=l then a else a.map (·.add (l*V))) (m - l) (cap - l) V f ((xs.take m).drop l):=by
 have k:=h.sl.nc;have c:=h.sl.cut d e (cap - l) (by omega) (by have:=h.sl.cm;omega) (if cap=l then a else a.map (·.add (l*V))) (λi o j b=>by
  rw[bV (by omega),b];simp[ih])
 exact fK.of c f _ h.cells (by rw[Bj h.cells,Eo h.cells]) (by rw[List.length_drop,oi,h.num];omega)
end
section
variable {P:Program} {n:Nat} {ops:Array Oper} {Q:Exit→Act→World→Prop} {o:Oper} {rest:List Oper} {e:dG} {w:World} {d:Nat}
end
section
variable {P:Program} {e:dG} {g:Gw} {d:Option Tmp} {ty:TypeId} {pos:String} {af:Array Edge} {gd:Option (Nat × Bool)} {t t':TypeId} {x y:Operand}
end
theorem fK.lt{α:Type}{g:Gw}{a:Option Addr}{n cap V:Nat}{f:α→List Value}{xs:List α}(h:fK g a n cap V f xs)(i:0<n)(j:0<V):∀b,qb a b→b<g.w.heap.size:=by
 intro b e;obtain⟨d,l,rfl,k,_⟩:=h.sl.pos i;simp[qb]at e;subst e;rcases e9 d g.w.heap.size with c|c
 ·exact c
 ·have:=g.ok d c;have:=Nat.mul_pos i j;omega
abbrev l5:=@World.cell?_of_block
end Go.Eng
namespace Go.Pi
open Go.Eng
inductive D where
 |any|bG
 |bool (b:Bool)|int (k:IntKind) (n:Int)|str (s:List UInt8)
 |gb|ptr (o i off:Nat)|aD (cs:List D)
 |J|sl (V:Nat) (full:Bool) (rows:List (List D))|S (V o r n:Nat)
 |ic|fn (f:Fn) (first caps:List D)
 |iY|iface (t:TypeId) (d:D)
 |agg (cs:List D)|bN (ds:List D)
 |raw (v:Value)
 deriving Inhabited
def D.one:D→Bool
 |.agg _|.bN _|.any|.bG|.raw _=>false
 |_=>true
inductive Ob where
 |row (T:TypeId) (V:Nat) (rows:List (List D))
 |dead
 deriving Inhabited
abbrev Z:=List Ob
structure Me where
 b:Nat
 V:Nat
 len:Nat
 cap:Nat
structure Gh where
 w:World
 ms:List Me
 L:Nat→Prop
def Gh.fz(g:Gh)(b:Nat):Prop:=b<g.w.heap.size∧¬g.L b
structure iB (g g':Gh):Prop where
 os:g'.w.os=g.w.os
 tape:g'.w.tape=g.w.tape
 output:g'.w.output=g.w.output
 size:g.w.heap.size≤g'.w.heap.size
 ms:∀(o:Nat) (m:Me),g.ms[o]?=some m→g'.ms[o]?=some m
 fz:∀b,g.fz b→g'.fz b∧g'.w.heap[b]?=g.w.heap[b]?
def Gh.lim(g:Gh)(b:Nat):Prop:=b<g.w.heap.size∧g.L b∧∀(c:Nat) (a:Me),g.ms[c]?=some a→a.b≠b
structure aT (g g':Gh):Prop extends iB g g' where
 lim:∀b,g.lim b→g'.lim b∧g'.w.heap[b]?=g.w.heap[b]?
theorem aT.refl(g:Gh):aT g g:=⟨⟨rfl,rfl,rfl,aS _,λ_ _ a=>a,λ_ a=>⟨a,rfl⟩⟩,λ_ a=>⟨a,rfl⟩⟩
theorem aT.trans{g g' c:Gh}(h:aT g g')(k:aT g' c):aT g c:=
 ⟨⟨k.os.trans h.os,k.tape.trans h.tape,k.output.trans h.output,gX h.size k.size,λe d f=>k.ms e d (h.ms e d f),
  λa b=>⟨(k.fz a (h.fz a b).1).1,(k.fz a (h.fz a b).1).2.trans (h.fz a b).2⟩⟩,λa b=>⟨(k.lim a (h.lim a b).1).1,(k.lim a (h.lim a b).1).2.trans (h.lim a b).2⟩⟩
theorem aT.q9{g g':Gh}(h:iB g g')(e:g'.ms=g.ms)(c:g'.L=g.L)(d:∀b,b<g.w.heap.size→g'.w.heap[b]?=g.w.heap[b]?):aT g g':=
 ⟨h,λb a=>⟨⟨hX a.1 h.size,by rw[c];exact a.2.1,by rw[e];exact a.2.2⟩,d b a.1⟩⟩
inductive aB (g:Gh):Value→D→Prop
 |any (v):aB g v .any
 |bG:aB g undef .bG
 |bool (b):aB g (.bool b) (.bool b)
 |int (k n):aB g (.int k n) (.int k n)
 |str (s:List UInt8):aB g (.string ⟨s.toArray⟩) (.str s)
 |gb:aB g (.pointer none) .gb
 |ptr (o i off:Nat) (m:Me) (hm:g.ms[o]?=some m):aB g (.pointer (some ⟨m.b,i*m.V+off,none⟩)) (.ptr o i off)
 |aD (b o:Nat) (cs:List D) (vs:Nat→Value) (hf:cs≠[]→g.fz b) (hc:∀(j:Nat) (d:D),cs[j]?=some d→g.w.cell? ⟨b,o+j,none⟩=some (vs j))
   (h1:∀(j:Nat) (d:D),cs[j]?=some d→(vs j).oneCell'=true) (hr:∀(j:Nat) (d:D),cs[j]?=some d→aB g (vs j) d):aB g (.pointer (some ⟨b,o,none⟩)) (.aD cs)
 |J:aB g (.slice none 0 0) .J
 |sl (ad:Addr) (n cap V:Nat) (full:Bool) (rows:List (List D)) (hn:rows.length=n) (hnc:n≤cap) (hcm:cap≤9223372036854775807) (hfull:full=true→cap=n) (fR:0<V)
   (hrow:∀row∈rows,row.length=V) (had:rows≠[]→ad.spot=none∧g.fz ad.block) (vs:Nat→Nat→Value)
   (hc:∀(i:Nat) (row:List D),rows[i]?=some row→∀(j:Nat) (d:D),row[j]?=some d→g.w.cell? ⟨ad.block,ad.off+i*V+j,none⟩=some (vs i j))
   (h1:∀(i:Nat) (row:List D),rows[i]?=some row→∀(j:Nat) (d:D),row[j]?=some d→(vs i j).oneCell'=true)
   (hr:∀(i:Nat) (row:List D),rows[i]?=some row→∀(j:Nat) (d:D),row[j]?=some d→aB g (vs i j) d):aB g (.slice (some ad) n cap) (.sl V full rows)
 |S (o r n cap:Nat) (m:Me) (hm:g.ms[o]?=some m) (hn:r+n≤m.len) (hlo:m.len≤r+cap) (hhi:r+cap≤m.cap) (hcm:cap≤9223372036854775807):aB g (.slice (some ⟨m.b,r*m.V,none⟩) n cap) (.S m.V o r n)
 |ic:aB g .nilFunc .ic
 |fn (f:Fn) (first caps:List D) (vf vc:List Value) (hf:vf.length=first.length) (hc:vc.length=caps.length)
   (rf:∀(j:Nat) (v:Value) (d:D),vf[j]?=some v→first[j]?=some d→aB g v d) (rc:∀(j:Nat) (v:Value) (d:D),vc[j]?=some v→caps[j]?=some d→aB g v d):aB g (.func f vf.toArray vc.toArray) (.fn f first caps)
 |iY:aB g .nilIface .iY
 |iface (t:TypeId) (v:Value) (d:D) (h:aB g v d):aB g (.iface t v) (.iface t d)
 |agg (vs:List Value) (cs:List D) (hl:vs.length=cs.length) (h1:∀v∈vs,v.oneCell'=true) (hr:∀(j:Nat) (v:Value) (d:D),vs[j]?=some v→cs[j]?=some d→aB g v d):aB g (.agg vs.toArray) (.agg cs)
 |bN (vs:List Value) (ds:List D) (hl:vs.length=ds.length) (hr:∀(j:Nat) (v:Value) (d:D),vs[j]?=some v→ds[j]?=some d→aB g v d):aB g (.tuple vs.toArray) (.bN ds)
 |raw (v):aB g v (.raw v)
theorem iB.cell{g g':Gh}(h:iB g g'){b i:Nat}(a:g.fz b):g'.w.cell? ⟨b,i,none⟩=g.w.cell? ⟨b,i,none⟩:=l5 (h.fz b a).2
theorem aB.hF{g g':Gh}(e:iB g g'){v:Value}{d:D}(h:aB g v d):aB g' v d:=by
 induction h with
 |any v=>exact .any v
 |bG=>exact .bG
 |bool p=>exact .bool p
 |int X j=>exact .int X j
 |str ad=>exact .str ad
 |gb=>exact .gb
 |ptr k y aa A w=>exact .ptr k y aa A (e.ms _ _ w)
 | aD p k l c m i f x a =>
  refine .aD p k l c (λb=>(e.fz _ (m b)).1) (λz d n=>?_) f a;have b:l≠[]:=λt=>by subst t;cases n
  rw[e.cell (m b)];exact i z d n
 |J=>exact .J
 | sl E j q ae I C b N s K Q P r c i f x a =>
  refine .sl E j q ae I C b N s K Q P (λo=>⟨(r o).1,(e.fz _ (r o).2).1⟩) c (λy ac B z d n=>?_) f a;have o:C≠[]:=λt=>by subst t;cases B
  rw[e.cell (r o).2];exact i y ac B z d n
 |S k ab j q A w b M L s=>exact .S k ab j q A (e.ms _ _ w) b M L s
 |ic=>exact .ic
 |fn H first F ah ag m i aj ai T R=>exact .fn H first F ah ag m i T R
 |iY=>exact .iY
 |iface af v d h a=>exact .iface af v d a
 |agg c l u f x a=>exact .agg c l u f a
 |bN c G u x a=>exact .bN c G u a
 |raw v=>exact .raw v
theorem aB.ext{g g':Gh}(a:aT g g'){v:Value}{d:D}(h:aB g v d):aB g' v d:=h.hF a.toiB
theorem aT.cell{g g':Gh}(h:aT g g'){b i:Nat}(a:g.fz b):g'.w.cell? ⟨b,i,none⟩=g.w.cell? ⟨b,i,none⟩:=h.toiB.cell a
theorem aB.one{g:Gh}{v:Value}{d:D}(h:aB g v d)(a:d.one=true):v.oneCell'=true:=by
 cases h<;>first|rfl|(simp[D.one]at a)
inductive aW (g:Gh):List Value→List D→Prop
 |nil:aW g [] []
 |cons {v d vs ds} (h:aB g v d) (r:aW g vs ds):aW g (v::vs) (d::ds)
theorem aW.ext{g g':Gh}(a:aT g g'){vs:List Value}{ds:List D}(h:aW g vs ds):aW g' vs ds:=by
 induction h with
 |nil=>exact .nil
 |cons h _ b=>exact .cons (h.ext a) b
theorem aW.length{g:Gh}{vs:List Value}{ds:List D}(h:aW g vs ds):vs.length=ds.length:=by
 induction h with
 |nil=>rfl
 |cons _ _ a=>simp[a]
theorem aW.get{g:Gh}{vs:List Value}{ds:List D}(h:aW g vs ds):∀(j:Nat) (v:Value) (d:D),vs[j]?=some v→ds[j]?=some d→aB g v d:=by
 induction h with
 |nil=>intro j v d h;cases h
 | cons h _ c =>
  intro j v d a b;cases j with
  |zero=>simp at a b;subst a;subst b;exact h
  |succ j=>exact c j v d (by simpa using a) (by simpa using b)
theorem aW.of{g:Gh}:∀{vs:List Value} {ds:List D},vs.length=ds.length→(∀(j:Nat) (v:Value) (d:D),vs[j]?=some v→ds[j]?=some d→aB g v d)→aW g vs ds
 |[],[],_,_ =>.nil
 |[],_::_,h,_=>by simp at h
 |_::_,[],h,_=>by simp at h
 |v::vs,d::ds,h,k =>.cons (k 0 v d rfl rfl) (aW.of (by simpa using h) λj v d a h2=>k (j+1) v d (by simpa using a) (by simpa using h2))
theorem aW.append{g:Gh}{vs b:List Value}{ds a:List D}(h:aW g vs ds)(k:aW g b a):aW g (vs++b) (ds++a):=by
 induction h with
 |nil=>exact k
 |cons h _ c=>exact .cons h c
theorem aW.drop{g:Gh}{vs:List Value}{ds:List D}(h:aW g vs ds)(n:Nat):aW g (vs.drop n) (ds.drop n):=by
 refine .of (by simp[h.length]) λd e a b c=>h.get (n+d) e a (by simpa[jw]using b) (by simpa[jw]using c)
theorem aW.take{g:Gh}{vs:List Value}{ds:List D}(h:aW g vs ds)(n:Nat):aW g (vs.take n) (ds.take n):=by
 refine .of (by simp[h.length]) λe f c a b=>?_
 rw[eY]at a b;split at a
 ·rename_i d;rw[bE d]at b;exact h.get e f c a b
 ·cases a
def zW(fr:Nat × Nat)(n:Nat):Prop:=fr=(0,0)∨n≤fr.1
def Fr(fr:Nat × Nat)(n V:Nat):Prop:=fr=(0,0)∨(n≤fr.1∧V=1)
theorem Fr.rA{fr:Nat × Nat}{n V:Nat}(h:Fr fr n V):zW fr n:=h.imp id And.left
structure Live (g:Gh) (m:Me) (T V:Nat) (rows:List (List D)) (cs:Array Value):Prop where
 fy:∃fr,g.w.heap[m.b]?=some (.cells cs T fr)∧Fr fr cs.size V
 fR:m.V=V
 pos:0<V
 hL:g.L m.b
 len:rows.length=m.len
 le:m.len≤m.cap
 room:m.cap*V≤cs.size
 row:∀row∈rows,row.length=V
 cell:∀(i:Nat) (row:List D),rows[i]?=some row→∀(j:Nat) (d:D),row[j]?=some d→∃v,cs[i*V+j]?=some v∧v.oneCell'=true∧aB g v d
structure Inv (g:Gh) (h:Z):Prop where
 len:g.ms.length=h.length
 live:∀(o T V:Nat) (rows:List (List D)),h[o]?=some (.row T V rows)→∃m cs,g.ms[o]?=some m∧Live g m T V rows cs
 inj:∀(o o':Nat) (T V T' sz':Nat) (rows rows':List (List D)) (m m':Me),h[o]?=some (.row T V rows)→h[o']?=some (.row T' sz' rows')→g.ms[o]?=some m→g.ms[o']?=some m'→m.b=m'.b→o=o'
 L:∀b,g.L b→b<g.w.heap.size
 msb:∀(o:Nat) (m:Me),g.ms[o]?=some m→m.b<g.w.heap.size
theorem Inv.jS{g:Gh}{h:Z}(hi:Inv g h){b:Nat}(a:g.L b):b<g.w.heap.size:=hi.L b a
abbrev DE:=List (Nat × D)
def bK:DE→Nat→Option D
 |[],_=>none
 | (k,v)::r,t=>match Nat.beq k t with
  |true=>some v
  |false=>bK r t
theorem ib(k:Nat)(v:D)(r:DE)(t:Nat):bK ((k,v)::r) t=if k=t then some v else bK r t:=by
 simp only[bK];by_cases a:k=t
 ·subst a;simp
 ·have:Nat.beq k t=false:=by
    cases b:Nat.beq k t with
    |true=>exact absurd (gF b) a
    |false=>rfl
  rw[this,bV a]
structure eG (n:Nat) (g:Gh) (e:DE) (a:Act):Prop where
 size:a.tmps.size=n
 defers:a.defers=[]
 get:∀t d,bK e t=some d→aB g (a.tmps.getD t undef) d
theorem eG.ext{n:Nat}{g g':Gh}{e:DE}{a:Act}(h:eG n g e a)(d:aT g g'):eG n g' e a:=⟨h.size,h.defers,λf b c=>(h.get f b c).ext d⟩
theorem eG.put{n:Nat}{g:Gh}{e:DE}{a:Act}(h:eG n g e a){t:Nat}(j:t<n){v:Value}{d:D}(i:aB g v d):eG n g ((t,d)::e) (a.put (some t) v):=by
 refine⟨by simp[Act.put,h.size],by simp[Act.put,h.defers],λc l b=>?_⟩;rw[ib]at b;by_cases f:t=c
 ·subst f;rw[bE rfl]at b;injection b with b;subst b;have:(a.put (some t) v).tmps.getD t undef=v:=by simp[Act.put,Array.getD,h.size,j]
  rw[this];exact i
 ·rw[bV f]at b;have:=h.get c l b;have k:(a.put (some t) v).tmps.getD c undef=a.tmps.getD c undef:=by
   simp only[Act.put,dS];rw[j4 (by omega)]
  rw[k];exact this
def Av(e' e:DE):Prop:=∀a b,bK e' a=some b→bK e a=some b
theorem Av.sat{n:Nat}{g:Gh}{e e':DE}{a:Act}(h:Av e' e)(b:eG n g e a):eG n g e' a:=⟨b.size,b.defers,λc d f=>b.get c d (h c d f)⟩
end Go.Pi
namespace Go.Pi
open Go.Eng
inductive TD where
 |bool|int (k:IntKind)|str|ptr (e:Nat)|sl (e:Nat)|arr (n e:Nat)|st (fs:List (Nat × Nat × Nat))|fn|Ch|rb
structure TI where
 td:TD
 V:Nat
 gA:Nat
 zero:List D
 ms:List (String × Option Nat)
def tb:List (String × Option Nat)→String→Option Nat
 |[],_=>none
 | (k,f)::r,m=>match k==m with
  |true=>f
  |false=>tb r m
def TI.isAgg(i:TI):Bool:=match i.td with
 |.st _|.arr _ _=>true
 |_=>false
abbrev bD:=Nat→Option TI
def cG:D→List D
 |.agg cs=>cs
 |d=>[d]
def D.fk:D→Bool
 |.agg _=>true
 |d=>d.one
def mb(i:TI)(cs:List D):Option D:=match i.isAgg with
 | true=>match Nat.ble i.V cs.length with
  |true=>some (.agg (cs.take i.V))
  |false=>none
 |false=>cs.head?
def dK(cs:List D)(off:Nat)(vs:List D):List D:=cs.take off++vs++cs.drop (off+vs.length)
def cP:D→D→D→Option D
 |.bool true,a,_=>some a
 |.bool false,_,b=>some b
 |_,_,_=>none
def q7(T:bD)(t:Nat)(m:String):Option Nat:=match T t with
 |some a=>tb a.ms m
 |none=>none
def fN(T:bD):D→Option D
 |.ptr o i f=>some (.ptr o i f)
 |.aD cs=>some (.aD cs)
 |.fn (.func f) a b=>some (.fn (.func f) a b)
 | .fn (.method m) [.iface t d] []=>match q7 T t m with
  |some _=>some (.fn (.method m) [.iface t d] [])
  |none=>none
 |.iface t d=>some (.iface t d)
 |_=>none
def gI(c:BinOp)(k:IntKind)(a b:Int):Option D:=match c with
 |.add=>some (.int k (k.wrap (a+b)))
 |.sub=>some (.int k (k.wrap (a - b)))
 |.mul=>some (.int k (k.wrap (a*b)))
 |.quo=>if b=0 then none else some (.int k (k.wrap (a.tdiv b)))
 |.rem=>if b=0 then none else some (.int k (a.tmod b))
 |.and=>some (.int k (k.wrap (BitVec.ofInt k.bits a &&& BitVec.ofInt k.bits b).toNat))
 |.or=>some (.int k (k.wrap (BitVec.ofInt k.bits a ||| BitVec.ofInt k.bits b).toNat))
 |.xor=>some (.int k (k.wrap (BitVec.ofInt k.bits a ^^^ BitVec.ofInt k.bits b).toNat))
 |.andNot=>some (.int k (k.wrap (BitVec.ofInt k.bits a &&& ~~~(BitVec.ofInt k.bits b)).toNat))
 |.eql=>some (.bool (a==b))
 |.neq=>some (.bool (a != b))
 |.lss=>some (.bool (decide (a<b)))
 |.leq=>some (.bool (decide (a≤b)))
 |.gtr=>some (.bool (decide (a>b)))
 |.geq=>some (.bool (decide (a≥b)))
 |_=>none
def oD(c:BinOp)(a b:List UInt8):Option D:=match c with
 |.add=>if a.length+b.length≤9223372036854775807 then some (.str (a++b))else none
 |.eql=>some (.bool (a==b))
 |.neq=>some (.bool (!(a==b)))
 |.lss=>some (.bool (Op.bytesLess a b))
 |.leq=>some (.bool (Op.bytesLess a b||a==b))
 |.gtr=>some (.bool (!(Op.bytesLess a b||a==b)))
 |.geq=>some (.bool (!(Op.bytesLess a b)))
 |_=>none
def PC:D→D→Option Bool
 |.bool a,.bool b=>some (a==b)
 |.int k a,.int c b=>if k=c then some (a==b)else none
 |.str a,.str b=>some (a==b)
 |_,_=>none
def qh(T:bD)(xs ys:List D):List (Nat × Nat × Nat)→Option Bool
 |[]=>some true
 | (t,off,_)::r=>match qh T xs ys r,T t with
  | some c,some i=>match i.td,xs[off]?,ys[off]? with
   |.bool,some (.bool a),some (.bool b)=>some (a==b&&c)
   |.int _,some (.int k a),some (.int d b)=>if k=d then some (a==b&&c)else none
   |.str,some (.str a),some (.str b)=>some (a==b&&c)
   |_,_,_=>none
  |_,_=>none
def oz(T:bD)(e:Nat)(x y:D):Option Bool:=match T e with
 | some d=>match d.td,x,y with
  |.bool,.bool a,.bool b=>some (a==b)
  |.st c,.agg f,.agg g=>qh T f g c
  |.ptr _,.gb,.gb=>some true
  |.ptr _,.gb,.ptr _ _ _=>some false
  |.ptr _,.gb,.aD _=>some false
  |.ptr _,.ptr _ _ _,.gb=>some false
  |.ptr _,.aD _,.gb=>some false
  |.sl _,.J,.J=>some true
  |.sl _,.J,.sl _ _ _=>some false
  |.sl _,.J,.S _ _ _ _=>some false
  |.sl _,.sl _ _ _,.J=>some false
  |.sl _,.S _ _ _ _,.J=>some false
  |.fn,.ic,.ic=>some true
  |.fn,.ic,.fn _ _ _=>some false
  |.fn,.fn _ _ _,.ic=>some false
  |_,_,_=>none
 |none=>none
def U(T:bD)(op:BinOp)(d:Nat)(x y:D):Option D:=match x,y with
 | .int b c,.int e a=>match op with
  |.shl=>if a<0 then none else some (.int b (b.wrap (c*2 ^ (min a.toNat b.bits))))
  |.shr=>if a<0 then none else some (.int b (c.fdiv (2 ^ (min a.toNat b.bits))))
  |op=>if b=e then gI op b c a else none
 |.str c,.str a=>oD op c a
 | x,y=>match op with
  |.eql=>(oz T d x y).bind λa=>some (.bool a)
  |.neq=>(oz T d x y).bind λa=>some (.bool (!a))
  |_=>none
def ft(d:UnOp)(x:D):Option D:=match d,x with
 |.not,.bool c=>some (.bool (!c))
 |.neg,.int a b=>some (.int a (a.wrap (0 - b)))
 |.xor,.int a b=>some (.int a (a.wrap (BitVec.ofInt a.bits (if a.signed then -1 else a.max) ^^^ BitVec.ofInt a.bits b).toNat))
 |_,_=>none
def jF(T:bD)(s t:Nat)(x:D):Option D:=match T s,T t with
 | some b,some c=>match c.td,x with
  |.int a,.int _ d=>some (.int a (a.wrap d))
  | .str,.str s=>match b.td with
   |.str=>some (.str s)
   |_=>none
  |_,_=>none
 |_,_=>none
def sf (T:bD) (t f:Nat):Option (Nat × TI):=match T t with
 | some b=>match b.td with
  | .st a=>match a[f]? with
   | some (e,d,_)=>match T e with
    |some c=>some (d,c)
    |none=>none
   |none=>none
  |_=>none
 |none=>none
def aC(T:bD)(t f:Nat)(x:D):Option D:=match sf T t f with
 | some (a,d)=>match Nat.blt 0 d.V,x with
  | true,.aD b=>match Nat.blt a b.length with
   |true=>some (.aD (b.drop a))
   |false=>none
  |true,.ptr g c e=>some (.ptr g c (e+a))
  |_,_=>none
 |none=>none
def vb(T:bD)(t f:Nat)(x:D):Option D:=match sf T t f with
 | some (c,b)=>match x with
  |.agg a=>mb b (a.drop c)
  |_=>none
 |none=>none
def ma(T:bD)(t:Nat):Option (TI × Option Nat):=match T t with
 | some c=>match c.td with
  | .sl a=>match T a with
   |some b=>some (b,none)
   |none=>none
  | .arr d a=>match T a with
   |some b=>some (b,some d)
   |none=>none
  |_=>none
 |none=>none
def aN(T:bD)(t:Nat)(x y:D):Option D:=match ma T t,y with
 | some (b,none),.int _ a=>match x with
  | .sl e _ k=>if e=b.V∧0≤a then match k[a.toNat]? with
   |some j=>some (.aD j)
   |none=>none
   else none
  |.S e d i c=>if e=b.V∧0≤a∧a<c then some (.ptr d (i+a.toNat) 0)else none
  |_=>none
 | some (b,some c),.int _ a=>if 0≤a∧a<c∧0<b.V then match x with
  |.aD f=>if a.toNat*b.V<f.length then some (.aD (f.drop (a.toNat*b.V)))else none
  |.ptr d h g=>some (.ptr d h (g+a.toNat*b.V))
  |_=>none
  else none
 |_,_=>none
def ny (T:bD) (t:Nat) (x y:D):Option D:=match x,y with
 | .str f,.int _ a=>match T t with
  | some g=>match g.td with
   | .str=>if 0≤a then match f[a.toNat]? with
    |some c=>some (.int .u8 c.toNat)
    |none=>none
    else none
   |_=>none
  |none=>none
 | .agg d,.int _ a=>match ma T t with
  |some (b,some e)=>if 0≤a∧a<e then mb b (d.drop (a.toNat*b.V))else none
  |_=>none
 |_,_=>none
def jg (T:bD) (t:Nat) (x:D) (lo hi mx:Option Int):Option D:=match T t with
 | some m=>match m.td,x with
  | .str,.str g =>
   let a:=hi.getD g.length
   let b:=lo.getD 0
   if mx=none∧0≤b∧b≤a∧a≤g.length then some (.str ((g.take a.toNat).drop b.toNat))else none
  | .sl i,x=>match T i with
   | some f=>match x with
    |.J=>if lo.getD 0=0∧hi.getD 0=0∧mx.getD 0=0 then some .J else none
    | .sl c j d =>
     let a:=hi.getD d.length
     let b:=lo.getD 0
     if c=f.V∧0≤b∧b≤a then match mx with
      |none=>if a≤d.length then some (.sl c (j&&decide (a=d.length)) ((d.take a.toNat).drop b.toNat))else none
      |some e=>if a≤e∧e≤d.length then some (.sl c (decide (a=e)) ((d.take a.toNat).drop b.toNat))else none
     else none
    | .S c k l h =>
     let a:=hi.getD h
     let b:=lo.getD 0
     if c=f.V∧0<f.V∧0≤b∧b≤a∧a≤h then match mx with
      |none=>if b<a∨b=0 then some (.S c k (l+b.toNat) (a - b).toNat)else some (.sl c false [])
      |some e=>if b=0∧a=0∧e=0 then some (.sl c true [])else none
     else none
    |_=>none
   |none=>none
  |_,_=>none
 |none=>none
def fZ:D→Option Int
 |.int _ n=>some n
 |_=>none
def fO(T:bD)(t:Nat)(l h m:Bool)(ds:List D):Option D:=match l,h,m,ds with
 |false,false,false,[c]=>jg T t c none none none
 |true,false,false,[c,a]=>(fZ a).bind λa=>jg T t c (some a) none none
 |false,true,false,[c,a]=>(fZ a).bind λa=>jg T t c none (some a) none
 |true,true,false,[c,a,b]=>(fZ a).bind λa=>(fZ b).bind λb=>jg T t c (some a) (some b) none
 |false,true,true,[c,a,b]=>(fZ a).bind λa=>(fZ b).bind λb=>jg T t c none (some a) (some b)
 |true,true,true,[c,a,b,d]=>(fZ a).bind λa=>(fZ b).bind λb=>(fZ d).bind λd=>jg T t c (some a) (some b) (some d)
 |_,_,_,_=>none
def fH(i:Nat):D→Option D
 |.bN ds=>ds[i]?
 |_=>none
def jV(fs:List (Nat × Nat × Nat)):List D→List Nat→List D→Option (List D)
 |cs,[],[]=>some cs
 | cs,i::a,d::ds=>match fs[i]? with
  | some (_,off,V)=>match Nat.beq (cG d).length V&&Nat.ble (off+V) cs.length&&d.fk with
   |true=>jV fs (dK cs off (cG d)) a ds
   |false=>none
  |none=>none
 |_,_,_=>none
def dZ(T:bD)(t:Nat)(d:List Nat)(ds:List D):Option D:=match T t with
 | some b=>match b.td with
  |.st f=>(jV f b.zero d ds).bind λa=>some (.agg a)
  | .arr h c=>match T c with
   |some e=>(jV ((List.range h).map λg=>(c,g*e.V,e.V)) b.zero d ds).bind λa=>some (.agg a)
   |none=>none
  |_=>none
 |none=>none
def qk(V:Nat):Nat→List Nat→List D→Option (List (List D))
 |_,[],[]=>some []
 | k,i::a,d::ds=>match Nat.beq i k&&Nat.beq (cG d).length V&&d.fk with
  | true=>match qk V (k+1) a ds with
   |some r=>some (cG d::r)
   |none=>none
  |false=>none
 |_,_,_=>none
def lB (T:bD) (t n:Nat) (c:List Nat) (ds:List D):Option (Nat × Nat × List (List D)):=match T t with
 | some d=>match d.td with
  | .sl b=>match T b with
   | some a=>match Nat.blt 0 a.V&&Nat.ble (n*a.V) 16777216&&Nat.beq c.length n with
    | true=>match qk a.V 0 c ds with
     |some e=>some (b,a.V,e)
     |none=>none
    |false=>none
   |none=>none
  |_=>none
 |none=>none
def oA:D→Option D
 |.str s=>some (.int .i64 s.length)
 |.J=>some (.int .i64 0)
 |.sl _ _ rows=>some (.int .i64 rows.length)
 |.S _ _ _ n=>some (.int .i64 n)
 |_=>none
def u6:D→Option D
 |.J=>some (.int .i64 0)
 |.sl _ true rows=>some (.int .i64 rows.length)
 |_=>none
def aV(T:bD)(t:Nat)(x:D):Option D:=match T t with
 | some e=>match e.td,x with
  |.str,.str f=>oA (.str f)
  |.sl _,.J=>oA .J
  |.sl _,.sl a b c=>oA (.sl a b c)
  |.sl _,.S a b c d=>oA (.S a b c d)
  |_,_=>none
 |none=>none
def A7(T:bD)(t:Nat)(x:D):Option D:=match T t with
 | some a=>match a.td with
  |.sl _=>u6 x
  |_=>none
 |none=>none
def oB:D→D→Option D
 |.int k a,.int _ b=>some (.int k (if b<a then b else a))
 |_,_=>none
def vg:D→D→Option D
 |.int k a,.int _ b=>some (.int k (if b>a then b else a))
 |_,_=>none
def l8(t:Nat):D→Option D
 |.iface a x=>if a=t then some x else none
 |_=>none
def jP(T:bD)(g:Op)(ds:List D):Option D:=match g with
 |.move _|.assign _=>match ds with|[i]=>some i|_=>none
 |.pick _ _ _=>match ds with|[e,h,k]=>cP e h k|_=>none
 |.nilCheck _=>match ds with|[i]=>fN T i|_=>none
 |.binOp g u _ _ _=>match ds with|[a,c]=>U T g u a c|_=>none
 |.unOp g _ _=>match ds with|[a]=>ft g a|_=>none
 |.convert s b _=>match ds with|[a]=>jF T s b a|_=>none
 |.makeFunc f h k=>some (.fn f (ds.take h.size) (ds.drop h.size))
 |.slice b _ o n p=>fO T b o.isSome n.isSome p.isSome ds
 |.fieldAddr b _ f=>match ds with|[a]=>aC T b f a|_=>none
 |.field b _ f=>match ds with|[a]=>vb T b f a|_=>none
 |.indexAddr b _ _=>match ds with|[a,c]=>aN T b a c|_=>none
 |.index b _ _=>match ds with|[a,c]=>ny T b a c|_=>none
 |.extract _ d=>match ds with|[a]=>fH d a|_=>none
 |.build b j=>dZ T b (j.toList.map (·.1)) ds
 | .makeInterface b _=>match ds,T b with
  | [a],some d=>(match d.td with
   |.ptr _=>some (.iface b a)
   |.int _=>some (.iface b a)
   |_=>none)
  |_,_=>none
 | .typeAssert _ _ b l=>match ds,T b with
  | [a],some d=>(match d.td,l with
   |.int _,false=>l8 b a
   |_,_=>none)
  |_,_=>none
 |.alloc m=>match T m with|some d=>some (.aD d.zero)|none=>none
 |.box _ _=>match ds with|[a]=>if a.fk then some (.aD (cG a))else none|_=>none
 |.buildSlice b q j=>(lB T b q (j.toList.map (·.1)) ds).bind λ(_,t,r)=>some (.sl t true r)
 | .call e=>match e.callee with
  |.builtin .len=>match ds,e.argTypes[0]? with|[a],some b=>aV T b a|_,_=>none
  |.builtin .cap=>match ds,e.argTypes[0]? with|[a],some b=>A7 T b a|_,_=>none
  |.builtin .min=>match ds with|[a,c]=>oB a c|_=>none
  |.builtin .max=>match ds with|[a,c]=>vg a c|_=>none
  |_=>none
 |_=>none
def Z.row(h:Z)(o i:Nat):Option (List D):=match h[o]? with
 |some (.row _ _ a)=>a[i]?
 |_=>none
def aA(T:bD)(h:Z)(t:Nat)(p:D):Option D:=match T t with
 | some a=>match p with
  |.aD b=>mb a b
  | .ptr d c e=>match h.row d c with
   |some f=>mb a (f.drop e)
   |none=>none
  |_=>none
 |none=>none
def iq(h:Z)(V:Nat):D→Option (List (List D))
 |.J=>some []
 |.sl z _ rows=>if z=V then some rows else none
 | .S z o r n=>if z=V then match h[o]? with
  |some (.row _ _ rows)=>some ((rows.drop r).take n)
  |_=>none
  else none
 |_=>none
def l9:List (List D)→Option (List UInt8)
 |[]=>some []
 | [.int .u8 n]::r=>match l9 r with
  |some s=>some (UInt8.ofNat n.toNat::s)
  |none=>none
 |_=>none
def Bb(h:Z)(x:D):Option D:=match iq h 1 x with
 | some a=>match l9 a with
  |some b=>some (.str b)
  |none=>none
 |none=>none
def ky (T:bD) (h:Z) (f:Op) (ds:List D):Option D:=match f with
 |.load a _=>match ds with|[g]=>aA T h a g|_=>none
 | .convert i a _=>match T i,T a with
  | some c,some d=>match c.td,d.td with
   | .sl b,.str=>match T b with
    | some e=>match e.td with
     |.int .u8=>match ds with|[j]=>Bb h j|_=>none
     |_=>none
    |none=>none
   |_,_=>none
  |_,_=>none
 |_=>none
def aL(h:Z)(T V:Nat)(rows:List (List D)):Z:=h++[.row T V rows]
def bZ (T:bD) (h:Z) (t:Nat) (p v:D):Option Z:=match T t,p with
 | some a,.ptr c b d=>match h[c]? with
  | some (.row g i f)=>match f[b]? with
   | some e=>match Nat.beq (cG v).length a.V&&Nat.ble (d+a.V) e.length&&v.fk with
    |true=>some (h.set c (.row g i (f.set b (dK e d (cG v)))))
    |false=>none
   |none=>none
  |_=>none
 |_,_=>none
def gB(s:List UInt8):List (List D):=s.map λa=>[.int .u8 a.toNat]
def lim(n a:Nat):Bool:=Nat.ble (n*a) 140737488355328&&Nat.ble n 9223372036854775807
def jW(h:Z)(c j:TI)(y:D):Option (List (List D)):=match c.td with
 | .str=>match j.td,y with
  |.int .u8,.str b=>if j.V=1 then some (gB b)else none
  |_,_=>none
 |.sl _=>iq h j.V y
 | .int _=>match y with
  |.int .i64 a=>if 0≤a∧lim a.toNat j.gA=true then some (List.replicate a.toNat j.zero)else none
  |_=>none
 |_=>none
def dM (T:bD) (h:Z) (t q:Nat) (x y:D):Option (D × Z):=match T t,T q with
 | some o, some p=>match o.td with
  | .sl e => match T e with
   | some a=>match Nat.blt 0 a.V,jW h p a y with
    | true,some []=>match x with
     |.J=>some (.J,h)
     |.sl i j k=>some (.sl i j k,h)
     |.S i j k n=>some (.S i j k n,h)
     |_=>none
    | true, some b=>match x with
     |.J=>if lim b.length a.gA=true then some (.S a.V h.length 0 b.length,aL h e a.V b)else none
     |.sl f true c=>if f=a.V∧lim (c.length+b.length) a.gA=true then some (.S a.V h.length 0 (c.length+b.length),aL h e a.V (c++b))else none
     | .S f g 0 d=>match h[g]? with
      | some (.row l m c)=>if f=a.V∧m=f∧l=e∧d≤c.length∧lim (d+b.length) a.gA=true then
        (if d=c.length then some (.S a.V h.length 0 (d+b.length),aL (h.set g .dead) e a.V (c++b))
        else if d+b.length≤c.length then some (.S f g 0 (d+b.length),h.set g (.row l m (c.take d++b++c.drop (d+b.length))))else none)
       else none
      |_=>none
     |_=>none
    |_,_=>none
   |none=>none
  |_=>none
 |_,_=>none
def Dr(i:TI):Bool:=match i.td with
 |.int _=>false
 |_=>true
def u7 (T:bD) (h:Z) (t n:Nat) (x y:D):Option (D × Z):=match T t,T n with
 | some m, some d=>match m.td,Dr d with
  | .sl l,true=>match T l with
   | some a=>match Nat.blt 0 a.V,jW h d a y with
    | true,some c=>match x with
     |.J=>some (.int .i64 0,h)
     | .S i e f b=>match h[e]? with
      |some (.row k j g)=>if i=a.V∧j=i then some (.int .i64 (min c.length b:Nat),h.set e (.row k j (g.take f++c.take b++g.drop (f+min c.length b))))else none
      |_=>none
     |_=>none
    |_,_=>none
   |none=>none
  |_,_=>none
 |_,_=>none
def qj(T:bD)(h:Z)(t:Nat)(n c:D):Option (D × Z):=match T t,n,c with
 | some d,.int .i64 n,.int .i64 c=>match d.td with
  | .sl b=>match T b with
   |some a=>if 0≤n∧n≤c∧lim c.toNat a.gA=true∧0<a.V then some (.S a.V h.length 0 n.toNat,aL h b a.V (List.replicate n.toNat a.zero))else none
   |none=>none
  |_=>none
 |_,_,_=>none
def nx (T:bD) (h:Z) (t:Nat) (x:D):Option (D × Z):=match T t with
 | some k=>match k.td with
  | .sl j=>match T j with
   | some a=>match Nat.blt 0 a.V,x with
    |true,.J=>some (.bN [],h)
    |true,.sl _ _ []=>some (.bN [],h)
    |true,.S _ _ _ 0=>some (.bN [],h)
    | true,.S f c d b=>match h[c]? with
     |some (.row i g e)=>if f=a.V∧g=f then some (.bN [],h.set c (.row i g (e.take d++List.replicate b a.zero++e.drop (d+b))))else none
     |_=>none
    |_,_=>none
   |none=>none
  |_=>none
 |none=>none
def u9 (T:bD) (h:Z) (t:Nat) (l c:Bool) (ds:List D):Option (D × Z):=match fO T t l c true ds with
 |some i=>some (i,h)
 | none=>match l,c,ds with
  | false,true,[.S b e 0 d,.int _ a,.int _ g]=>match h[e]?,T t with
   | some (.row o n f),some k=>match k.td with
    | .sl j=>match T j with
     |some m=>if b=m.V∧n=b∧a=g∧0≤a∧a≤d∧d≤f.length then some (.sl b true (f.take a.toNat),h.set e .dead)else none
     |none=>none
    |_=>none
   |_,_=>none
  |_,_,_=>none
def ve (T:bD) (h:Z) (s t:Nat) (x:D):Option (D × Z):=match T t with
 | some c=>match c.td,x with
  | .sl b,.S 1 a f e=>match T b,h[a]? with
   | some d,some (.row _ 1 _)=>match d.td with
    |.int .u8=>if s=t then some (.S 1 a f e,h)else none
    |_=>none
   |_,_=>none
  |_,_=>none
 |none=>none
def mN (T:bD) (h:Z) (r:Op) (ds:List D):Option (D × Z):=match r with
 |.store a _ _=>match ds with|[s,u]=>(bZ T h a s u).bind λm=>some (.bG,m)|_=>none
 |.alloc c=>match T c with|some d=>if 0<d.V then some (.ptr h.length 0 0,aL h c d.V [d.zero])else none|none=>none
 |.box c _=>match T c,ds with|some d,[b]=>if b.fk=true∧(cG b).length=d.V∧0<d.V then some (.ptr h.length 0 0,aL h c d.V [cG b])else none|_,_=>none
 |.buildSlice a g t=>(lB T a g (t.toList.map (·.1)) ds).bind λ(c,l,k)=>some (.S l h.length 0 k.length,aL h c l k)
 |.makeSlice a _ _=>match ds with|[g,e]=>qj T h a g e|_=>none
 |.slice a _ q n (some _)=>u9 T h a q.isSome n.isSome ds
 | .convert f a _=>match T f,T a,ds with
  | some d,some o,[b]=>match d.td,o.td with
   | .str,.sl c=>match T c with
    | some p=>match p.td with
     | .int .u8=>match b with
      |.str f=>if lim f.length 1=true then some (.S 1 h.length 0 f.length,aL h c 1 (gB f))else none
      |_=>none
     |_=>none
    |none=>none
   |.sl _,.sl _=>ve T h f a b
   |_,_=>none
  |_,_,_=>none
 | .call e=>match e.callee with
  |.builtin .append=>match ds,e.argTypes.toList with|[b,j],[a,i]=>dM T h a i b j|_,_=>none
  |.builtin .copy=>match ds,e.argTypes.toList with|[b,j],[a,i]=>u7 T h a i b j|_,_=>none
  |.builtin .clear=>match ds,e.argTypes.toList with|[b],[a]=>nx T h a b|_,_=>none
  |_=>none
 |_=>none
def qT(T:bD)(c:Op):Option D:=match c with
 | .alloc a=>match T a with
  | some b=>match Nat.blt 0 b.V with
   |true=>some .any
   |false=>none
  |none=>none
 |_=>none
inductive EX where
 |pure|read|write|call|fa
def dP(T:bD)(fz:List Nat)(o:Oper):EX:=match o.op with
 |.load _ _ =>.read
 | .convert e f _=>match T e,T f with
  | some c,some d=>match c.td,d.td with
   |.sl _,.str =>.read
   |.str,.sl _ =>.write
   |.sl _,.sl _ =>.write
   |_,_ =>.pure
  |_,_ =>.pure
 |.store _ _ _|.makeSlice _ _ _ =>.write
 | .slice _ _ _ _ (some _)=>match o.dst with
  |some a=>if fz.any (Nat.beq a)then .pure else .write
  |none =>.write
 | .alloc _=>match o.dst with
  |some a=>if fz.any (Nat.beq a)then .pure else if fz.any (Nat.beq (a+1000000))then .fa else .write
  |none =>.write
 | .box _ _|.buildSlice _ _ _=>match o.dst with
  |some a=>if fz.any (Nat.beq a)then .pure else .write
  |none =>.write
 | .call b=>match b.callee with
  |.builtin .append|.builtin .copy|.builtin .clear =>.write
  |.builtin _ =>.pure
  |_ =>.call
 |_ =>.pure
end Go.Pi
namespace Go.Eng
abbrev cQ:=@run_underlying
abbrev dB:=@List.getElem?_map
abbrev iS:=@List.map_cons
abbrev jT:=@Option.some.injEq
abbrev ud:=@ByteArray.ext
end Go.Eng
namespace Go.Pi
open Go.Eng
def ku:Value→D
 |.bool b =>.bool b
 |.int k n =>.int k n
 |.string s =>.str s.data.toList
 |.pointer none =>.gb
 |.slice none 0 0 =>.J
 |.nilFunc =>.ic
 |.nilIface =>.iY
 |_ =>.any
def ofConst:Value→D
 | .agg cs=>match cs.toList.all (·.oneCell')with
  |true =>.agg (cs.toList.map ku)
  |false =>.any
 |v=>ku v
theorem xW(g:Gh)(v:Value):aB g v (ku v):=by
 unfold ku;split<;>first|exact .any _|exact .bool _|exact .int _ _|exact .str _|exact .gb|exact .J|exact .ic|exact .iY
theorem Ni(g:Gh)(v:Value):aB g v (ofConst v):=by
 unfold ofConst;split
 ·rename_i b;split
  ·rename_i c;have:=aB.agg (g:=g) b.toList (b.toList.map ku) (by simp) (λv e=>(ff.1 c) v e) (λh v f d a=>by
    rw[dB,d]at a;injection a with a;subst a;exact xW g v)
   simpa using this
  ·exact .any _
 ·exact xW g _
theorem nQ(g:Gh)(vs:List Value):aW g vs (vs.map ku) :=.of (by simp) λe c d b a=>by
 rw[dB,b]at a;injection a with a;subst a;exact xW g c
def oS(P:Program)(fs:Array Field):List (Nat × Nat × Nat):=fs.toList.map λa=>(a.type,a.offset,P.cellsOf a.type)
def iP(P:Program):TypeDesc→TD
 |.bool =>.bool
 |.int k =>.int k
 |.string =>.str
 |.pointer e =>.ptr e
 |.slice e =>.sl e
 |.array n e =>.arr n e
 |.struct fs =>.st (oS P fs)
 |.func _ _ _ =>.fn
 |.interface _ =>.Ch
 |_ =>.rb
def Di(i:TypeInfo)(d:TD):List (String × Option Nat):=i.methods.toList.map λa=>(a.name,match d,a.func with
 | .ptr _,some (b,true)=>(match a.path.toList with
  |[]=>some b
  |_=>none)
 |_,_=>none)
def pA(P:Program)(t:Nat):Option TI:=match P.info? t,P.underlying t with
 | some i,some a=>match i.zero with
  |some b=>some ⟨iP P a,i.size,i.bytes,b.cells.toList.map ku,Di i (iP P a)⟩
  |none=>none
 |_,_=>none
def oU(P:Program)(t:Nat):Bool:=match P.info? t,P.underlying t with
 | some i,some d=>(match i.zero with
  |some b=>Nat.beq b.cells.size i.size&&b.cells.toList.all (·.oneCell')
  |none=>false)&&(match d with
  |.struct c=>c.toList.all (λa=>a.name != "_" && (P.info? a.type).isSome) && !P.stoodInHeld t && !P.eqGuardType P.depth t
  |_=>true)
 |_,_=>false
def cC(P:Program)(T:bD):Prop:=∀t i,T t=some i→pA P t=some i∧oU P t=true
section tab
variable {P:Program} {T:bD} (hT:cC P T) {t:Nat} {i:TI} (ht:T t=some i)
include hT ht
theorem cC.get:∃b d z,P.info? t=some b∧P.underlying t=some d∧b.zero=some z∧i=⟨iP P d,b.size,b.bytes,z.cells.toList.map ku,Di b (iP P d)⟩∧z.cells.size=b.size∧(∀v∈z.cells.toList,v.oneCell'=true) ∧
  (∀fs,d = .struct fs→(∀f∈fs.toList,f.name ≠ "_" ∧ (P.info? f.type).isSome=true)∧P.stoodInHeld t=false∧P.eqGuardType P.depth t=false):=by
 obtain⟨a,c⟩:=hT t i ht;unfold pA at a;unfold oU at c;cases g:P.info? t with
 |none=>rw[g]at a;simp at a
 | some b =>
  cases j:P.underlying t with
  |none=>rw[g,j]at a;simp at a
  | some d =>
   rw[g,j]at a c;simp only at a c;cases h:b.zero with
   |none=>rw[h]at a;simp at a
   | some z =>
    rw[h]at a c;simp only[jT]at a;simp only[dU]at c;obtain⟨⟨k,l⟩,e⟩:=c;refine⟨b,d,z,rfl,rfl,h,a.symm,gF k,λv n=>(ff.1 l) v n,λfs m=>?_⟩;subst m;simp only[dU,kC,ff,bne_iff_ne,fw]at e;exact⟨e.1.1,e.1.2,e.2⟩
theorem cC.size(w:World):(sizeOf t).run P w = .ok i.V w:=by
 obtain⟨d,e,f,a,b,c,rfl,_⟩:=hT.get ht;simp[sizeOf,typeInfo,a]
theorem cC.mO:∃z,(∀w,(zeroValue t).run P w = .ok z w)∧i.zero=z.cells.toList.map ku∧z.cells.size=i.V∧∀v∈z.cells.toList,v.oneCell'=true:=by
 obtain⟨f,g,z,a,e,b,rfl,c,d,_⟩:=hT.get ht;exact⟨z,λw=>by simp[zeroValue,typeInfo,a,b],rfl,c,d⟩
theorem cC.EI:i.zero.length=i.V:=by
 obtain⟨c,_,a,b,_⟩:=hT.mO ht;rw[a];simpa using b
theorem cC.u0(w:World):(isAgg t).run P w = .ok i.isAgg w:=by
 obtain⟨e,b,f,c,a,d,rfl,_⟩:=hT.get ht;cases b<;>simp[isAgg,cQ a,TI.isAgg,iP]
theorem cC.bool(h:i.td = .bool):P.underlying t=some .bool:=by
 obtain⟨e,b,f,c,a,d,rfl,_⟩:=hT.get ht;cases b<;>simp[iP]at h;exact a
theorem cC.int{k:IntKind}(h:i.td = .int k):P.underlying t=some (.int k):=by
 obtain⟨e,b,f,c,a,d,rfl,_⟩:=hT.get ht;cases b<;>simp[iP]at h;subst h;exact a
theorem cC.str(h:i.td = .str):P.underlying t=some .string:=by
 obtain⟨e,b,f,c,a,d,rfl,_⟩:=hT.get ht;cases b<;>simp[iP]at h;exact a
theorem cC.ptr{e:Nat}(h:i.td = .ptr e):P.underlying t=some (.pointer e):=by
 obtain⟨f,b,g,c,a,d,rfl,_⟩:=hT.get ht;cases b<;>simp[iP]at h;subst h;exact a
theorem cC.sl{e:Nat}(h:i.td = .sl e):P.underlying t=some (.slice e):=by
 obtain⟨f,b,g,c,a,d,rfl,_⟩:=hT.get ht;cases b<;>simp[iP]at h;subst h;exact a
theorem cC.arr{n e:Nat}(h:i.td = .arr n e):P.underlying t=some (.array n e):=by
 obtain⟨f,b,g,c,a,d,rfl,_⟩:=hT.get ht;cases b<;>simp[iP]at h;obtain⟨rfl,rfl⟩:=h;exact a
theorem cC.fn(h:i.td = .fn):∃a b c,P.underlying t=some (.func a b c):=by
 obtain⟨j,e,k,f,d,g,rfl,_⟩:=hT.get ht;cases e<;>simp[iP]at h;exact⟨_,_,_,d⟩
theorem cC.st{fs:List (Nat × Nat × Nat)}(h:i.td = .st fs):∃a,P.underlying t=some (.struct a)∧fs=oS P a∧(∀f∈a.toList,f.name ≠ "_" ∧ (P.info? f.type).isSome=true)∧P.stoodInHeld t=false∧P.eqGuardType P.depth t=false:=by
 obtain⟨j,d,k,e,b,g,rfl,_,_,c⟩:=hT.get ht;cases d<;>simp[iP]at h;exact⟨_,b,h.symm,c _ rfl⟩
end tab
theorem Dl {P:Program} {T:bD} (hT:cC P T) {t:Nat} {m:String} {f:FuncId} (c:q7 T t m=some f):∃d b e,P.info? t=some d∧d.methods.find? (·.name==m)=some b∧b.path.toList=[]∧b.func=some (f,true)∧P.underlying t=some (.pointer e):=by
 unfold q7 at c;split at c
 case h_2=>cases c
 rename_i i ht;obtain⟨d,o,E,q,A,B,rfl,_⟩:=hT.get ht;simp only at c;have y:∀(g:List Method),tb (g.map λm=>(m.name,match iP P o,m.func with
 | .ptr _,some (f,true)=>(match m.path.toList with
  |[]=>some f
  |_=>none)
 | _, _ => none)) m=some f→∃b e,g.find? (·.name==m)=some b∧b.path.toList=[]∧b.func=some (f,true)∧iP P o = .ptr e:=by
  intro g
  induction g with
  |nil=>intro a;cases a
  | cons p D x =>
   intro a;simp only[iS,tb]at a;split at a
   ·rename_i h;split at a
    ·rename_i e z v s;split at a
     ·rename_i u;injection a with a;subst a;exact⟨p,e,by simp[List.find?_cons,h],u,s,v⟩
     ·cases a
    ·cases a
   ·rename_i h;obtain⟨b,e,j,k,l,n⟩:=x a;exact⟨b,e,by simp[List.find?_cons,h,j],k,l,n⟩
 obtain⟨b,e,j,k,l,n⟩:=y _ c;have w:P.underlying t=some (.pointer e):=hT.ptr ht n;have r:d.methods.find? (·.name==m)=some b:=by rw[← Array.find?_toList];exact j
 exact⟨d,b,e,q,r,k,l,w⟩
theorem Dk(P:Program):∃k,P.types.size+Made.depth=k+1:=by
 have a:0<Made.depth:=by decide
 exact⟨P.types.size+Made.depth - 1,by omega⟩
def eX(P:Program)(ρ:Operand→Value)(o:Oper)(g:Gh)(d:D):Prop:=(∃a,(execOp ρ o).run P g.w = .ok (.value a) g.w∧aB g a d)
section ops
variable {P:Program} {T:bD} (hT:cC P T) {g:Gh} {ρ:Operand→Value} {dst:Option Tmp} {ty:TypeId} {pos:String} {af:Array Edge} {gd:Option (Nat × Bool)}
theorem DO{s:List UInt8}:(ByteArray.mk s.toArray).toList=s:=ByteArray.toList_mk s
theorem nP{s:List UInt8}:(ByteArray.mk s.toArray).size=s.length:=by simp[ByteArray.size]
theorem G4{c a b:Operand}{k i j d:D}(e:aB g (ρ c) k)(l:aB g (ρ a) i)(m:aB g (ρ b) j)(h:cP k i j=some d):eX P ρ ⟨dst,.pick c a b,ty,pos,af,gd⟩ g d:=by
 unfold cP at h;split at h
 ·injection h with h;subst h;generalize f:ρ c=n at e;cases e;exact⟨ρ a,by simp[execOp,f,asBool],l⟩
 ·injection h with h;subst h;generalize f:ρ c=n at e;cases e;exact⟨ρ b,by simp[execOp,f,asBool],m⟩
 ·cases h
theorem G3(hT:cC P T){x:Operand}{e d:D}(a:aB g (ρ x) e)(h:fN T e=some d):eX P ρ ⟨dst,.nilCheck x,ty,pos,af,gd⟩ g d:=by
 unfold fN at h;split at h
 ·injection h with h;subst h;refine⟨ρ x,?_,a⟩;generalize b:ρ x=c at a;cases a;simp[execOp,b]
 ·injection h with h;subst h;refine⟨ρ x,?_,a⟩;generalize b:ρ x=c at a;cases a;simp[execOp,b]
 ·injection h with h;subst h;refine⟨ρ x,?_,a⟩;generalize b:ρ x=c at a;cases a;simp[execOp,b]
 ·rename_i F t L;split at h
  case h_2=>cases h
  rename_i w l;injection h with h;subst h;refine⟨ρ x,?_,a⟩;obtain⟨C,G,u,i,j,n,o,A⟩:=Dl hT l;obtain⟨E,k⟩:=Dk P;generalize b:ρ x=c at a;cases a with
  | fn y first s r K f v p H =>
   match r,f with
   | [q],_ =>
    have m:=p 0 q _ rfl rfl;cases m with
    | iface _ I _ B =>
     simp[execOp,b,run_program,k,nilAhead,typeInfo,i,j,n,followBlind,o]
 ·injection h with h;subst h;refine⟨ρ x,?_,a⟩;generalize b:ρ x=c at a;cases a;simp[execOp,b]
 ·cases h
theorem G8{t:TypeId}{x:Operand}{i:UnOp}{f d:D}(b:aB g (ρ x) f)(h:ft i f=some d):eX P ρ ⟨dst,.unOp i t x,ty,pos,af,gd⟩ g d:=by
 unfold ft at h;split at h
 ·rename_i k;injection h with h;subst h;generalize c:ρ x=j at b;cases b;exact⟨.bool (!k),by simp[execOp,c,Op.unary],.bool _⟩
 ·rename_i a e;injection h with h;subst h;generalize c:ρ x=j at b;cases b;exact⟨.int a (a.wrap (0 - e)),by simp[execOp,c,Op.unary,Op.intArith],.int _ _⟩
 ·rename_i a e;injection h with h;subst h;generalize c:ρ x=j at b;cases b;exact⟨.int a (a.wrap (BitVec.ofInt a.bits (if a.signed then -1 else a.max) ^^^ BitVec.ofInt a.bits e).toNat),by simp[execOp,c,Op.unary,Op.intBits],.int _ _⟩
 ·cases h
theorem GV{c:BinOp}{i ty':TypeId}{x y:Operand}{k:IntKind}{a b:Int}{d:D}(p:ρ x = .int k a)(q:ρ y = .int k b)(l:c ≠ .shl∧c ≠ .shr)(h:gI c k a b=some d):eX P ρ ⟨dst,.binOp c i x y ty',ty,pos,af,gd⟩ g d:=by
 have f:∀j,aB g j d→(binOp c i (.int k a) (.int k b)).run P g.w = .ok j g.w→eX P ρ ⟨dst,.binOp c i x y ty',ty,pos,af,gd⟩ g d:=λj o n=>by
  refine⟨j,?_,o⟩;have m:(eqGuard c i x y (.int k a) (.int k b)).run P g.w = .ok () g.w:=by cases c<;>simp[eqGuard]
  simp[execOp,p,q,m,n]
 cases c
 case shl=>exact absurd rfl l.1
 case shr=>exact absurd rfl l.2
 case quo =>
  by_cases e:b=0
  ·simp[gI,e]at h
  ·simp[gI,e]at h;subst h;exact f _ (.int _ _) (by simp[binOp,Op.intDiv,e])
 case rem =>
  by_cases e:b=0
  ·simp[gI,e]at h
  ·simp[gI,e]at h;subst h;exact f _ (.int _ _) (by simp[binOp,Op.intDiv,e])
 all_goals
  simp only[gI,jT]at h;subst h
  first
   |exact f _ (.int _ _) (by simp[binOp,Op.intArith,Op.intCmp,Op.intBits])
   |exact f _ (.bool _) (by simp[binOp,Op.intArith,Op.intCmp,Op.intBits])
theorem G6{c:BinOp}{e ty':TypeId}{x y:Operand}{a b:List UInt8}{d:D}(q:ρ x = .string ⟨a.toArray⟩)(r:ρ y = .string ⟨b.toArray⟩)(h:oD c a b=some d):eX P ρ ⟨dst,.binOp c e x y ty',ty,pos,af,gd⟩ g d:=by
 have j:∀f,aB g f d→(Op.stringOp c ⟨a.toArray⟩ ⟨b.toArray⟩).run P g.w = .ok f g.w→eX P ρ ⟨dst,.binOp c e x y ty',ty,pos,af,gd⟩ g d:=λf p o=>by
  refine⟨f,?_,p⟩;have n:(eqGuard c e x y (.string ⟨a.toArray⟩) (.string ⟨b.toArray⟩)).run P g.w = .ok () g.w:=by cases c<;>simp[eqGuard]
  have m:binOp c e (.string ⟨a.toArray⟩) (.string ⟨b.toArray⟩)=Op.stringOp c ⟨a.toArray⟩ ⟨b.toArray⟩:=by cases c<;>simp[binOp]
  simp[execOp,q,r,n,m,o]
 cases c
 case add =>
  by_cases i:a.length+b.length≤9223372036854775807
  ·simp[oD,i]at h;subst h;refine j (.string ⟨(a++b).toArray⟩) (.str _) ?_;have k:¬(9223372036854775807:Int)<(a.length:Int)+(b.length:Int):=by omega
   have l:(ByteArray.mk a.toArray++ByteArray.mk b.toArray)=ByteArray.mk (a++b).toArray:=by
    apply ud;simp
   simp[Op.stringOp,nP,k,l]
  ·simp[oD,i]at h
 all_goals first
  |(simp[oD]at h;done)
  | (simp only[oD,jT]at h
     subst h;exact j _ (.bool _) (by simp[Op.stringOp,DO]))
end ops
end Go.Pi
namespace Go.Eng
abbrev gV:=@List.mem_of_mem_take
abbrev j8:=@List.mem_of_mem_drop
abbrev mZ:=@List.getElem?_of_mem
abbrev oh:=@List.getD_eq_getElem?_getD
end Go.Eng
namespace Go.Pi
open Go.Eng
section inv
variable {g:Gh}
theorem aB.nr{v:Value}{cs:List D}(h:aB g v (.agg cs)):∃vs,v = .agg vs.toArray∧aW g vs cs∧∀d∈vs,d.oneCell'=true:=by
 cases h with
 |agg vs cs b a c=>exact⟨vs,rfl,.of b c,a⟩
theorem aB.pg{vs:List Value}{cs:List D}(h:aW g vs cs)(a:∀b∈vs,b.oneCell'=true):aB g (.agg vs.toArray) (.agg cs) :=.agg vs cs h.length a h.get
theorem aB.yv{v:Value}{cs:List D}(h:aB g v (.bN cs)):∃vs,v = .tuple vs.toArray∧aW g vs cs:=by
 cases h with
 |bN vs cs a b=>exact⟨vs,rfl,.of a b⟩
theorem aB.tj{vs:List Value}{cs:List D}(h:aW g vs cs):aB g (.tuple vs.toArray) (.bN cs) :=.bN vs cs h.length h.get
theorem aB.cells{v:Value}{d:D}(h:aB g v d)(f:d.fk=true):∃vs,v.cells=vs.toArray∧aW g vs (cG d)∧∀c∈vs,c.oneCell'=true:=by
 by_cases a:d.one=true
 ·have i:=h.one a;refine⟨[v],?_,?_,?_⟩
  ·cases h<;>first|rfl|(simp[D.one]at a)
  ·have:cG d=[d]:=by cases d<;>first|rfl|(simp[D.one]at a)
   rw[this];exact .cons h .nil
  ·intro c b;simp at b;subst b;exact i
 ·cases d<;>simp[D.fk,D.one]at f a;obtain⟨vs,rfl,j,e⟩:=h.nr;exact⟨vs,rfl,j,e⟩
def At(g:Gh)(b o:Nat)(vs:List Value)(cs:List D):Prop:=(∀(c:Nat) (a:Value),vs[c]?=some a→g.w.cell? ⟨b,o+c,none⟩=some a)∧(∀a∈vs,a.oneCell'=true)∧aW g vs cs
theorem At.drop{b o:Nat}{vs:List Value}{cs:List D}(h:At g b o vs cs)(k:Nat):At g b (o+k) (vs.drop k) (cs.drop k):=
 ⟨(λe a c=>by
  rw[jw]at c;have:=h.1 _ a c
  rwa [← nh]at this),(λa d=>h.2.1 a (j8 d)),h.2.2.drop k⟩
theorem At.take{b o:Nat}{vs:List Value}{cs:List D}(h:At g b o vs cs)(k:Nat):At g b o (vs.take k) (cs.take k):=
 ⟨(λe c a=>by
  rw[eY]at a;split at a
  ·exact h.1 _ c a
  ·cases a),(λc d=>h.2.1 c (gV d)),h.2.2.take k⟩
theorem At.of{b o:Nat}{cs:List D}(vs:Nat→Value)(m:∀(j:Nat) (d:D),cs[j]?=some d→g.w.cell? ⟨b,o+j,none⟩=some (vs j))(l:∀(j:Nat) (d:D),cs[j]?=some d→(vs j).oneCell'=true)
  (p:∀(j:Nat) (d:D),cs[j]?=some d→aB g (vs j) d):At g b o ((List.range cs.length).map vs) cs:=by
 have h:∀(j:Nat) (c:Value),((List.range cs.length).map vs)[j]?=some c→∃d,cs[j]?=some d∧c=vs j:=λj c a=>by
  rw[dB]at a;cases f:(List.range cs.length)[j]? with
  |none=>rw[f]at a;cases a
  | some t =>
   rw[f]at a;have n:=aZ.1 f;obtain⟨i,k⟩:=n;simp at i k;subst k;injection a with a;exact⟨cs[j],cA i,a.symm⟩
 refine⟨λj c a=>?_,λc q=>?_,.of (by simp) λj c d a e=>?_⟩
 ·obtain⟨d,e,rfl⟩:=h j c a;exact m j d e
 ·obtain⟨j,a⟩:=mZ q;obtain⟨d,e,rfl⟩:=h j c a;exact l j d e
 ·obtain⟨r,s,rfl⟩:=h j c a;exact p j d e
theorem At.aD{b o:Nat}{vs:List Value}{cs:List D}(h:At g b o vs cs)(f:cs≠[]→g.fz b):aB g (.pointer (some ⟨b,o,none⟩)) (.aD cs):=by
 have i:=h.2.2.length;have e:∀(a:Nat) (c:D),cs[a]?=some c→vs[a]?=some (vs.getD a undef):=λa c d=>by
  have:=(aZ.1 d).1;rw[oh,cA (by omega)];rfl
 exact .aD b o cs (λa=>vs.getD a undef) f (λa c d=>h.1 a _ (e a c d)) (λa c d=>h.2.1 _ (eB (e a c d))) (λa c d=>h.2.2.get a _ c (e a c d) d)
theorem aB.sU{v:Value}{cs:List D}(h:aB g v (.aD cs)):∃b o vs,v = .pointer (some ⟨b,o,none⟩)∧(cs≠[]→g.fz b)∧At g b o vs cs:=by
 cases h with
 |aD b o cs vs d c a e=>exact⟨b,o,_,rfl,d,At.of vs c a e⟩
theorem aB.tH{v:Value}{V:Nat}{a:Bool}{rows:List (List D)}(h:aB g v (.sl V a rows)){i:Nat}{row:List D}(hi:rows[i]?=some row):
  ∃b o n cap vs,v = .slice (some ⟨b,o,none⟩) n cap∧n=rows.length∧g.fz b∧At g b (o+i*V) vs row∧row.length=V:=by
 cases h with
 | sl f n cap V a rows m u s t w r k vs c j q =>
  have p:rows≠[]:=λl=>by subst l;cases hi
  obtain⟨e,d⟩:=k p;obtain⟨b,o,x⟩:=f;simp only at e d c;subst e;exact⟨b,o,n,cap,_,rfl,m.symm,d,At.of (vs i) (c i row hi) (j i row hi) (q i row hi),r row (eB hi)⟩
end inv
section ops
variable {P:Program} {T:bD} (hT:cC P T) {g:Gh} {ρ:Operand→Value} {dst:Option Tmp} {ty:TypeId} {pos:String} {af:Array Edge} {gd:Option (Nat × Bool)}
theorem C2{t:Nat}{i:TI}(hT:cC P T)(l:T t=some i){b o:Nat}{vs:List Value}{cs:List D}(h:At g b o vs cs){d:D}(a:mb i cs=some d):∃v,(loadVar t ⟨b,o,none⟩).run P g.w = .ok v g.w∧aB g v d:=by
 unfold mb at a;have k:=hT.u0 l;split at a
 ·rename_i f;split at a
  ·rename_i n;injection a with a;subst a;have e:=h.take i.V;have j:(vs.take i.V).length=i.V:=by
    have:=dL n;simp[h.2.2.length];omega
   exact⟨_,Lq (λc=>by rw[k c,f]) (λc=>hT.size l c) j (λp v m=>by rw[ih];exact e.1 p v m),.pg e.2.2 e.2.1⟩
  ·cases a
 ·rename_i f;have j:=h.2.2.length;cases cs with
  |nil=>cases a
  | cons q r =>
   simp at a;subst a;cases vs with
   |nil=>simp at j
   |cons v vs=>exact⟨v,Lr (λc=>by rw[k c,f]) (by simpa using h.1 0 v rfl),h.2.2.get 0 v _ rfl rfl⟩
theorem DB{t:Nat}{i:TI}(hT:cC P T)(m:T t=some i){vs:List Value}{cs:List D}(h:aW g vs cs)(n:∀v∈vs,v.oneCell'=true){off:Nat}{d:D}(a:mb i (cs.drop off)=some d):∃v,(part t vs.toArray off).run P g.w = .ok v g.w∧aB g v d:=by
 unfold mb at a;have k:=hT.u0 m;have c:=h.drop off;split at a
 ·rename_i e;split at a
  ·rename_i s;injection a with a;subst a;refine⟨.agg ((vs.drop off).take i.V).toArray,?_,.pg (c.take _) (λq p=>n q (j8 (gV p)))⟩;simp[part,k,e,hT.size m]
  ·cases a
 ·rename_i e;have l:=c.length;cases b:cs.drop off with
  |nil=>rw[b]at a;cases a
  | cons r u =>
   rw[b]at a;simp at a;subst a;cases f:vs.drop off with
   |nil=>rw[f,b]at l;simp at l
   | cons v x =>
    rw[f,b]at c;have o:vs[off]?=some v:=by
     have:=jw (xs:=vs) (i:=off) (j:=0);rw[f]at this;simpa using this.symm
    exact⟨v,by simp[part,k,e,o],c.get 0 v _ rfl rfl⟩
include hT in
theorem BM {t f:Nat} {off:Nat} {j:TI} (h:sf T t f=some (off,j)):∃c b,P.underlying t=some (.struct c)∧c[f]?=some b∧b.offset=off∧T b.type=some j:=by
 unfold sf at h;split at h
 ·rename_i r m;split at h
  ·rename_i p l;split at h
   ·rename_i w u v a;split at h
    ·rename_i s n;injection h with h;injection h with g i;subst g;subst i;obtain⟨c,o,rfl,_⟩:=hT.st m l;unfold oS at a;rw[dB]at a;cases e:c.toList[f]? with
     |none=>rw[e]at a;cases a
     | some b =>
      rw[e]at a;injection a with a;injection a with k d;injection d with d q;subst k;subst d;exact⟨c,b,o,by simpa using e,rfl,n⟩
    ·cases h
   ·cases h
  ·cases h
 ·cases h
include hT in
theorem GR{t f:Nat}{x:Operand}{l d:D}(e:aB g (ρ x) l)(h:aC T t f l=some d):eX P ρ ⟨dst,.fieldAddr t x f,ty,pos,af,gd⟩ g d:=by
 unfold aC at h;split at h
 ·rename_i B q u;obtain⟨E,a,o,m,rfl,n⟩:=BM hT u;split at h
  ·rename_i C b;split at h
   ·rename_i F;injection h with h;subst h;have i:q.V≠0:=by have:=dL b;omega
    obtain⟨r,k,H,c,v,s⟩:=e.sU;refine⟨.pointer (some ⟨r,k+a.offset,none⟩),?_,(s.drop a.offset).aD λz=>v λw=>z (by rw[w];simp)⟩;simp[execOp,Instr.fieldAt,Instr.sureAddr,cQ o,m,c,fieldPlace,ih,hT.size n,i]
   ·cases h
  ·rename_i k p A b;injection h with h;subst h;have i:q.V≠0:=by have:=dL b;omega
   generalize c:ρ x=G at e;cases e with
   | ptr k p B j y =>
    refine⟨.pointer (some ⟨j.b,p*j.V+(A+a.offset),none⟩),?_,.ptr _ _ _ j y⟩;simp[execOp,Instr.fieldAt,Instr.sureAddr,cQ o,m,c,fieldPlace,ih,hT.size n,i,nh]
  ·cases h
 ·cases h
include hT in
theorem GQ{t f:Nat}{x:Operand}{a d:D}(o:aB g (ρ x) a)(h:vb T t f a=some d):eX P ρ ⟨dst,.field t x f,ty,pos,af,gd⟩ g d:=by
 unfold vb at h;split at h
 ·rename_i u s c;obtain⟨r,q,m,e,rfl,i⟩:=BM hT c;split at h
  ·obtain⟨v,n,k,b⟩:=o.nr;obtain⟨p,j,l⟩:=DB hT i k b h;exact⟨p,by simp[execOp,Instr.field,cQ m,e,n,asAgg,j],l⟩
  ·cases h
 ·cases h
include hT in
theorem Ic{t:Nat}{j:TI}(h:ma T t=some (j,none)):∃e,P.underlying t=some (.slice e)∧T e=some j:=by
 unfold ma at h;split at h
 ·rename_i g d;split at h
  ·rename_i e c;split at h
   ·rename_i i f;injection h with h;injection h with a b;subst a;exact⟨e,hT.sl d c,f⟩
   ·cases h
  ·split at h
   ·injection h with h;injection h with a b;cases b
   ·cases h
  ·cases h
 ·cases h
include hT in
theorem Bq{t n:Nat}{j:TI}(h:ma T t=some (j,some n)):∃e,P.underlying t=some (.array n e)∧T e=some j:=by
 unfold ma at h;split at h
 ·rename_i g d;split at h
  ·split at h
   ·injection h with h;injection h with b a;cases a
   ·cases h
  ·rename_i k e c;split at h
   ·rename_i i f;injection h with h;injection h with b a;subst b;injection a with a;subst a;exact⟨e,hT.arr d c,f⟩
   ·cases h
  ·cases h
 ·cases h
include hT in
theorem GU {t:Nat} {x y:Operand} {A B d:D} (c:aB g (ρ x) A) (p:aB g (ρ y) B) (h:aN T t A B=some d):eX P ρ ⟨dst,.indexAddr t x y,ty,pos,af,gd⟩ g d:=by
 unfold aN at h;split at h
 ·rename_i o w b u;obtain⟨K,m,l⟩:=Ic hT u;have n:ρ y = .int w b:=by generalize a:ρ y=z at p;cases p;rfl
  split at h
  ·rename_i X ac aj;split at h
   ·rename_i k;obtain⟨rfl,i⟩:=k;split at h
    ·rename_i ai E;injection h with h;subst h;obtain⟨r,f,q,I,aa,a,Q,L,s,_⟩:=c.tH E;have j:b<q:=by
      have:=(aZ.1 E).1;omega
     refine⟨.pointer (some ⟨r,f+b.toNat*o.V,none⟩),?_,s.aD λ_=>L⟩;simp[execOp,Instr.indexAt,asIntOf,cQ m,hT.size l,a,n,i,j,ih]
    ·cases h
   ·cases h
  ·rename_i X f H q;split at h
   ·rename_i k;obtain⟨rfl,i,j⟩:=k;injection h with h;subst h;generalize a:ρ x=z at c;generalize F:o.V=ak at c;cases c with
    | S f H q I e v Q ag ae ad =>
     refine⟨.pointer (some ⟨e.b,(H+b.toNat)*e.V+0,none⟩),?_,.ptr _ _ _ e v⟩;simp[execOp,Instr.indexAt,asIntOf,cQ m,hT.size l,a,n,i,j,ih,F,eK]
   ·cases h
  ·cases h
 ·rename_i o q w b u;obtain⟨K,m,l⟩:=Bq hT u;have n:ρ y = .int w b:=by generalize a:ρ y=z at p;cases p;rfl
  split at h
  ·rename_i k;obtain⟨i,j,F⟩:=k;split at h
   ·rename_i ab;split at h
    ·rename_i ah;injection h with h;subst h;obtain⟨r,f,aa,a,M,s⟩:=c.sU;refine⟨.pointer (some ⟨r,f+b.toNat*o.V,none⟩),?_,(s.drop _).aD λR=>M λN=>R (by rw[N];simp)⟩;simp[execOp,Instr.indexAt,Instr.sureAddr,asIntOf,cQ m,hT.size l,a,n,i,j,ih]
    ·cases h
   ·rename_i f G C;injection h with h;subst h;generalize a:ρ x=z at c;cases c with
    | ptr f G C e v =>
     refine⟨.pointer (some ⟨e.b,G*e.V+(C+b.toNat*o.V),none⟩),?_,.ptr _ _ _ e v⟩;simp[execOp,Instr.indexAt,Instr.sureAddr,asIntOf,cQ m,hT.size l,a,n,i,j,ih,nh]
   ·cases h
  ·cases h
 ·cases h
include hT in
theorem GS {t:Nat} {x y:Operand} {p q d:D} (l:aB g (ρ x) p) (e:aB g (ρ y) q) (h:ny T t p q=some d):eX P ρ ⟨dst,.index t x y,ty,pos,af,gd⟩ g d:=by
 unfold ny at h;split at h
 ·rename_i f n a;have m:ρ y = .int n a:=by generalize c:ρ y=i at e;cases e;rfl
  have G:ρ x = .string ⟨f.toArray⟩:=by generalize c:ρ x=i at l;cases l;rfl
  split at h
  ·rename_i M E;split at h
   ·rename_i C;split at h
    ·rename_i j;split at h
     ·rename_i o b;injection h with h;subst h;have u:(ByteArray.mk f.toArray)[a.toNat]?=some o:=by
       have k:=(aZ.1 b).1;have w:a.toNat<(ByteArray.mk f.toArray).size:=by rw[nP];exact k
       rw[getElem?_pos (ByteArray.mk f.toArray) a.toNat w];have:=(aZ.1 b).2;rw[← this];rfl
      exact⟨.int .u8 o.toNat,by simp[execOp,Instr.index,asIntOf,cQ (hT.str E C),G,m,j,u],.int _ _⟩
     ·cases h
    ·cases h
   ·cases h
  ·cases h
 ·rename_i H n a;have m:ρ y = .int n a:=by generalize c:ρ y=i at e;cases e;rfl
  split at h
  ·rename_i K L v;split at h
   ·rename_i b;obtain⟨j,k⟩:=b;obtain⟨I,F,r⟩:=Bq hT v;obtain⟨N,c,A,s⟩:=l.nr;obtain⟨i,z,B⟩:=DB hT r A s h;exact⟨i,by simp[execOp,Instr.index,asIntOf,cQ F,c,m,j,k,hT.size r,z],B⟩
   ·cases h
  ·cases h
 ·cases h
theorem GP{x:Operand}{i:Nat}{a d:D}(j:aB g (ρ x) a)(h:fH i a=some d):eX P ρ ⟨dst,.extract x i,ty,pos,af,gd⟩ g d:=by
 unfold fH at h;split at h
 ·obtain⟨e,f,c⟩:=j.yv;have k:=c.length;have l:=(aZ.1 h).1;have b:e[i]?=some e[i]:=cA (by omega);exact⟨_,by simp only[execOp,Instr.extract,f];simp[b],c.get i _ d b h⟩
 ·cases h
include hT in
theorem GN{s t:Nat}{x:Operand}{e d:D}(a:aB g (ρ x) e)(h:jF T s t e=some d):eX P ρ ⟨dst,.convert s t x,ty,pos,af,gd⟩ g d:=by
 unfold jF at h;split at h
 ·rename_i r u f i;obtain⟨_,v,_,_,n,_⟩:=hT.get f;split at h
  ·rename_i j p k b;injection h with h;subst h;have c:ρ x = .int p k:=by generalize o:ρ x=q at a;cases a;rfl
   refine⟨.int j (j.wrap k),?_,.int _ _⟩;simp[execOp,convert,cQ n,cQ (hT.int i b),c,Conv.intToInt]
  ·rename_i l b;split at h
   ·rename_i m;injection h with h;subst h;have c:ρ x = .string ⟨l.toArray⟩:=by generalize o:ρ x=q at a;cases a;rfl
    refine⟨.string ⟨l.toArray⟩,?_,.str _⟩;simp[execOp,convert,cQ (hT.str f m),cQ (hT.str i b),c]
   ·cases h
  ·cases h
 ·cases h
end ops
section ops
variable {P:Program} {T:bD} {g:Gh} {ρ:Operand→Value} {dst:Option Tmp} {ty:TypeId} {pos:String} {af:Array Edge} {gd:Option (Nat × Bool)}
theorem Bw(k:cC P T){t u:List Value}{xs ys:List D}(B:aW g t xs)(C:aW g u ys):∀(fs:List Field) (v:Bool),(∀f∈fs,f.name ≠ "_" ∧ (P.info? f.type).isSome=true) →
  qh T xs ys (fs.map λf=>(f.type,f.offset,P.cellsOf f.type))=some v→∃j,rJ P t u fs j∧j.all id=v
 | [],v,_,h=>by
  simp[qh]at h;exact⟨[],trivial,by simp[h]⟩
 | f::fs,v,E,h=>by
  simp only[iS,qh]at h;split at h
  ·rename_i Q i N hi;obtain⟨j,A,y⟩:=Bw k B C fs Q (λf H=>E f (fG _ H)) N;have z:("_" == f.name)=false:=by
    have:=(E f (gO ..)).1;simpa using λI=>this I.symm
   have one:i.isAgg=false→One P f.type:=λG R=>by rw[k.u0 hi R,G]
   have x:∀{e:D},xs[f.offset]?=some e→∃d,t[f.offset]?=some d∧aB g d e:=λ{e} l=>by
    have L:=B.length;have M:=(aZ.1 l).1;have m:t[f.offset]?=some t[f.offset]:=cA (by omega);exact⟨_,m,B.get _ _ _ m l⟩
   have w:∀{e:D},ys[f.offset]?=some e→∃d,u[f.offset]?=some d∧aB g d e:=λ{e} l=>by
    have L:=C.length;have M:=(aZ.1 l).1;have m:u[f.offset]?=some u[f.offset]:=cA (by omega);exact⟨_,m,C.get _ _ _ m l⟩
   split at h
   ·rename_i a b c r s;obtain⟨d,q,o⟩:=x r;obtain⟨F,p,n⟩:=w s;cases o;cases n;injection h with h;exact⟨(a==b)::j,⟨z,one (by simp[TI.isAgg,c]),⟨_,_,q,p,kG.bool (k.bool hi c)⟩,A⟩,by simp[y,h]⟩
   ·rename_i ab X a aa b c r s;obtain⟨d,q,o⟩:=x r;obtain⟨F,p,n⟩:=w s;cases o;cases n;split at h
    ·rename_i K;subst K;injection h with h;exact⟨(a==b)::j,⟨z,one (by simp[TI.isAgg,c]),⟨_,_,q,p,kG.int (k.int hi c)⟩,A⟩,by simp[y,h]⟩
    ·cases h
   ·rename_i a b c r s;obtain⟨d,q,o⟩:=x r;obtain⟨F,p,n⟩:=w s;cases o;cases n;injection h with h;refine⟨(a==b)::j,⟨z,one (by simp[TI.isAgg,c]),⟨_,_,q,p,?_⟩,A⟩,by simp[y,h]⟩;have:=kG.str (a:=⟨a.toArray⟩) (b:=⟨b.toArray⟩) (k.str hi c);simpa[DO]using this
   ·cases h
  ·cases h
theorem oG{t:TypeId}{v a:Value}{w:World}{b:Bool}(h:∀d,(Op.equalIn (d+1) t v a).run P w = .ok b w):(Op.equal t v a).run P w = .ok b w:=h 9999
theorem Bg(i:cC P T){m:BinOp}{d ty':TypeId}{x y:Operand}{t u:D}{b:Bool}(n:aB g (ρ x) t)(o:aB g (ρ y) u)(h:oz T d t u=some b)(q:m = .eql∨m = .neq):
  eX P ρ ⟨dst,.binOp m d x y ty',ty,pos,af,gd⟩ g (.bool (if m = .eql then b else !b)):=by
 have r:∀f e,ρ x=f→ρ y=e→(eqGuard m d x y f e).run P g.w = .ok () g.w→(Op.equal d f e).run P g.w = .ok b g.w→(binOp .eql d f e=(do let s ← Op.equal d f e;pure (.bool s):Sem Value))→(binOp .neq d f e=(do let s ← Op.equal d f e;pure (.bool (!s)):Sem Value)) →
   eX P ρ ⟨dst,.binOp m d x y ty',ty,pos,af,gd⟩ g (.bool (if m = .eql then b else !b)):=λf e l k z v E F=>by
  rcases q with rfl|rfl
  ·exact⟨.bool b,by simp[execOp,l,k,z,E,v],by simpa using aB.bool b⟩
  ·exact⟨.bool (!b),by simp[execOp,l,k,z,F,v],by simpa using aB.bool (!b)⟩
 unfold oz at h;split at h
 ·rename_i ab j;split at h
  ·rename_i A B c;injection h with h;subst h;generalize l:ρ x=f at n;generalize k:ρ y=e at o;cases n;cases o;exact r _ _ l k (by rcases q with rfl|rfl<;>simp[eqGuard]) (run_equal_bool g.w d A B (i.bool j c)) (by simp[binOp]) (by simp[binOp])
  ·rename_i aa ag ah c;obtain⟨C,a,rfl,I,N,H⟩:=i.st j c;obtain⟨ad,Q,L,_⟩:=n.nr;obtain⟨ae,R,M,_⟩:=o.nr;obtain⟨ac,K,G⟩:=Bw i L M C.toList b I h;refine r _ _ Q R (run_eqGuard_agg g.w m d x y _ _ H) ?_ (by simp[binOp]) (by simp[binOp]);have:=Nt (w:=g.w) a N K;rw[G]at this;exact this
  all_goals first
   | (rename_i c
      injection h with h;subst h;generalize l:ρ x=f at n;generalize k:ρ y=e at o;cases n;cases o;refine r _ _ l k (by rcases q with rfl|rfl<;>simp[eqGuard]) ?_ (by simp[binOp]) (by simp[binOp])
      first
       |(have a:=i.ptr j c;exact oG λp=>by simp[Op.equalIn,cQ a])
       |(have a:=i.sl j c;exact oG λp=>by simp[Op.equalIn,cQ a])
       |(obtain⟨_,_,_,a⟩:=i.fn j c;exact oG λp=>by simp[Op.equalIn,cQ a]))
   |(cases h;done)
   | (rename_i X c
      injection h with h;subst h;generalize l:ρ x=f at n;generalize k:ρ y=e at o;cases n;cases o;refine r _ _ l k (by rcases q with rfl|rfl<;>simp[eqGuard]) ?_ (by simp[binOp]) (by simp[binOp])
      first
       |(have a:=i.ptr j c;exact oG λp=>by simp[Op.equalIn,cQ a])
       |(have a:=i.sl j c;exact oG λp=>by simp[Op.equalIn,cQ a])
       |(obtain⟨_,_,_,a⟩:=i.fn j c;exact oG λp=>by simp[Op.equalIn,cQ a]))
 ·cases h
end ops
end Go.Pi
namespace Go.Eng
abbrev gZ:=@Sem.run_pure
abbrev r0:=@Option.isSome_none
abbrev uP:=@Option.getD_none
end Go.Eng
namespace Go.Pi
open Go.Eng
section ops
variable {P:Program} {T:bD} {g:Gh} {ρ:Operand→Value} {dst:Option Tmp} {ty:TypeId} {pos:String} {af:Array Edge} {gd:Option (Nat × Bool)}
theorem GI(r:cC P T){s:BinOp}{n ty':TypeId}{x y:Operand}{l m d:D}(c:aB g (ρ x) l)(e:aB g (ρ y) m)(h:U T s n l m=some d):eX P ρ ⟨dst,.binOp s n x y ty',ty,pos,af,gd⟩ g d:=by
 unfold U at h;split at h
 ·rename_i f i z a;have j:ρ x = .int f i:=by generalize p:ρ x=q at c;cases c;rfl
  have k:ρ y = .int z a:=by generalize p:ρ y=q at e;cases e;rfl
  split at h
  ·split at h
   ·cases h
   ·rename_i v;injection h with h;subst h;have:¬a<0:=by omega
    exact⟨.int f (f.wrap (i*2 ^ (min a.toNat f.bits))),by simp[execOp,j,k,eqGuard,binOp,Op.shift,this],.int _ _⟩
  ·split at h
   ·cases h
   ·rename_i v;injection h with h;subst h;have:¬a<0:=by omega
    exact⟨.int f (i.fdiv (2 ^ (min a.toNat f.bits))),by simp[execOp,j,k,eqGuard,binOp,Op.shift,this],.int _ _⟩
  ·rename_i t u;split at h
   ·rename_i w;subst w;exact GV j k ⟨λo=>t o,λo=>u o⟩ h
   ·cases h
 ·rename_i i a;have j:ρ x = .string ⟨i.toArray⟩:=by generalize p:ρ x=q at c;cases c;rfl
  have k:ρ y = .string ⟨a.toArray⟩:=by generalize p:ρ y=q at e;cases e;rfl
  exact G6 j k h
 ·split at h
  ·cases b:oz T n l m with
   |none=>rw[b]at h;cases h
   | some a =>
    rw[b]at h;injection h with h;subst h;have:=Bg (dst:=dst) (ty:=ty) (pos:=pos) (af:=af) (gd:=gd) (ty':=ty') r c e b (.inl rfl);simpa using this
  ·cases b:oz T n l m with
   |none=>rw[b]at h;cases h
   | some a =>
    rw[b]at h;injection h with h;subst h;have:=Bg (dst:=dst) (ty:=ty) (pos:=pos) (af:=af) (gd:=gd) (ty':=ty') r c e b (.inr rfl);simpa using this
  ·cases h
def oW(v:Option Value)(n:Option Int):Prop:=match v,n with
 |none,none=>True
 |some c,some a=>∃b,c = .int b a
 |_,_=>False
theorem pv{k:IntKind}{i:Int}{y:Nat}{c:BoundsCode}{w:World}(a:0≤i)(b:i≤y):(Instr.sliceBound (.int k i) y c).run P w = .ok i.toNat w:=by
 simp[Instr.sliceBound,asIntOf,a,b]
theorem DX {lo hi mx:Option Value} {l h m:Option Int} (a:oW lo l) (g:oW hi h) (o:oW mx m) {n cap:Nat} {b:Bool} (t:mx.isSome=true→hi.isSome=true) (d:0≤l.getD 0) (e:l.getD 0≤h.getD n) (h2:h.getD n≤m.getD cap) (q:m.getD cap≤cap) (w:World) :
  (Instr.sliceBounds b n cap lo hi mx).run P w = .ok ((l.getD 0).toNat,(h.getD n).toNat,(m.getD cap).toNat) w:=by
 cases mx with
 | none =>
  cases m with
  |some m=>exact o.elim
  | none =>
   cases hi with
   | none =>
    cases h with
    |some h=>exact g.elim
    | none =>
     cases lo with
     | none =>
      cases l with
      |some l=>exact a.elim
      |none=>simp[Instr.sliceBounds]
     | some lo =>
      cases l with
      |none=>exact a.elim
      | some l =>
       obtain⟨k,rfl⟩:=a;simp at d e;simp[Instr.sliceBounds,pv (P:=P) (k:=k) (c :=.sliceB) (w:=w) d e]
   | some hi =>
    cases h with
    |none=>exact g.elim
    | some h =>
     obtain⟨p,rfl⟩:=g;simp at e h2;have f:=λc=>pv (P:=P) (k:=p) (c:=c) (w:=w) (i:=h) (y:=cap) (by cases l<;>simp at d e<;>omega) h2
     cases lo with
     | none =>
      cases l with
      |some l=>exact a.elim
      |none=>cases b<;>simp[Instr.sliceBounds,f]
     | some lo =>
      cases l with
      |none=>exact a.elim
      | some l =>
       obtain⟨k,rfl⟩:=a;simp at d e;have j:=pv (P:=P) (k:=k) (c :=.sliceB) (w:=w) (y:=h.toNat) d (by omega);cases b<;>simp[Instr.sliceBounds,f,j]
 | some mx =>
  cases m with
  |none=>exact o.elim
  | some m =>
   obtain⟨u,rfl⟩:=o;cases hi with
   |none=>exact absurd (t rfl) (by simp)
   | some hi =>
    cases h with
    |none=>exact g.elim
    | some h =>
     obtain⟨p,rfl⟩:=g;simp at e h2 q;have s:0≤h:=by cases l<;>simp at d e<;>omega
     have r:=λc=>pv (P:=P) (k:=u) (c:=c) (w:=w) (i:=m) (y:=cap) (by omega) q
     have f:=λc=>pv (P:=P) (k:=p) (c:=c) (w:=w) (i:=h) (y:=m.toNat) s (by omega)
     cases lo with
     | none =>
      cases l with
      |some l=>exact a.elim
      |none=>cases b<;>simp[Instr.sliceBounds,f,r]
     | some lo =>
      cases l with
      |none=>exact a.elim
      | some l =>
       obtain⟨k,rfl⟩:=a;simp at d e;have j:=λc=>pv (P:=P) (k:=k) (c:=c) (w:=w) (i:=l) (y:=h.toNat) d (by omega)
       cases b<;>simp[Instr.sliceBounds,f,r,j]
theorem nA (ac:cC P T) {t:TypeId} {x:Operand} {lo hi mx:Option Operand} {l h m:Option Int} {ao d:D} (s:aB g (ρ x) ao) (aw:oW (lo.map ρ) l) (av:oW (hi.map ρ) h) (ai:oW (mx.map ρ) m)
  (bj:mx.isSome=true→hi.isSome=true) (a:jg T t ao l h m=some d):eX P ρ ⟨dst,.slice t x lo hi mx,ty,pos,af,gd⟩ g d:=by
 have bm:(mx.map ρ).isSome=true→(hi.map ρ).isSome=true:=by simpa using bj
 unfold jg at a;split at a
 ·rename_i b9 ak;split at a
  ·rename_i y ad;have N:ρ x = .string ⟨y.toArray⟩:=by generalize B:ρ x=an at s;cases s;rfl
   simp only at a;split at a
   ·rename_i v;obtain⟨rfl,q,r,u⟩:=v;injection a with a;subst a;have bn:mx.map ρ=none:=by
     cases bq:mx.map ρ with
     |none=>rfl
     |some ca=>rw[bq]at ai;exact ai.elim
    have ae:=DX (P:=P) (b:=false) (n:=y.length) (cap:=y.length) aw av (mx:=none) (m:=none) trivial (by simp) q r (by simpa using u) (by simp) g.w;refine⟨.string ⟨((y.take (h.getD y.length).toNat).drop (l.getD 0).toNat).toArray⟩,?_,.str _⟩;simp only[execOp,Instr.sliceAt,bn,N,fg,cQ (ac.str ak ad),fp];simp only[Instr.slice,fg,cQ (ac.str ak ad),fp,r0,bA,aR,gZ,nP,ae];have bc:(ByteArray.mk y.toArray).extract (l.getD 0).toNat (h.getD y.length).toNat=⟨((y.take (h.getD y.length).toNat).drop (l.getD 0).toNat).toArray⟩:=by
     apply ud;simp[List.extract_eq_take_drop,List.drop_take]
    rw[bc]
   ·cases a
  ·rename_i b1 cb ad;split at a
   ·rename_i al bg;have ay:=ac.sl ak ad;have run:∀(X:Option Addr) (n cap:Nat),ρ x = .slice X n cap→0≤l.getD 0→l.getD 0≤h.getD n→h.getD n≤m.getD cap→m.getD cap≤cap→(execOp ρ ⟨dst,.slice t x lo hi mx,ty,pos,af,gd⟩).run P g.w =
      .ok (.value (.slice (if(m.getD cap).toNat=(l.getD 0).toNat then X else X.map (·.add ((l.getD 0).toNat*al.V))) ((h.getD n).toNat - (l.getD 0).toNat) ((m.getD cap).toNat - (l.getD 0).toNat))) g.w:=λX n cap N q r u ar=>by
     have ae:=DX (P:=P) (b:=true) (n:=n) (cap:=cap) aw av ai bm q r u ar g.w;simp only[execOp,Instr.sliceAt,N,fg,cQ ay,fp];simp only[Instr.slice,fg,cQ ay,fp,ae,ac.size bg,gZ]
    split at a
    ·split at a
     ·rename_i v;obtain⟨q,r,u⟩:=v;injection a with a;subst a;have N:ρ x = .slice none 0 0:=by generalize B:ρ x=an at s;cases s;rfl
      have:=run none 0 0 N (by omega) (by simp;omega) (by simp;omega) (by simp;omega);refine⟨.slice none 0 0,?_,.J⟩;rw[this];simp;have I:(h.getD 0).toNat=0:=by omega
      have a3:(m.getD 0).toNat=0:=by omega
      simp[I,a3]
     ·cases a
    ·rename_i a2 aq p;simp only at a;split at a
     ·rename_i v;obtain⟨rfl,q,r⟩:=v;generalize B:ρ x=an at s;generalize Q:al.V=E at s a;cases s with
      | sl c n cap a2 aq p A b8 bb be bv bt a8 b0 ba a4 br =>
       have a0:∀(i z:Nat) (ab:Bool),(l.getD 0).toNat≤i→i≤p.length→i≤z→z≤cap→(ab=true→z=i)→aB g (.slice (if z=(l.getD 0).toNat then some c else(some c).map (·.add ((l.getD 0).toNat*E))) (i - (l.getD 0).toNat) (z - (l.getD 0).toNat)) (.sl E ab ((p.take i).drop (l.getD 0).toNat)):=by
        intro i z ab bi a5 b2 b4 bd;generalize b3:(l.getD 0).toNat=j at bi;have a9:∃F,(if z=j then some c else(some c).map (·.add (j*E)))=some F∧F.block=c.block∧(j<i→F.off=c.off+j*E∧(c.spot=none→F.spot=none)):=by
         split
         ·exact⟨c,rfl,rfl,λe=>by omega⟩
         ·refine⟨c.add (j*E),rfl,?_,λ_=>?_⟩
          ·unfold Addr.add;split<;>rfl
          ·unfold Addr.add;split
           ·rename_i bw;simp[bw]
           ·simp
        obtain⟨F,a7,au,ax⟩:=a9;rw[a7];have ag:∀(o:Nat) (f:List D),((p.take i).drop j)[o]?=some f→p[j+o]?=some f∧j+o<i:=λo f hi=>by
         rw[jw,eY]at hi;split at hi
         ·rename_i ah;exact⟨hi,ah⟩
         ·cases hi
        refine .sl F (i - j) (z - j) E ab _ (by simp;omega) (by omega) (by omega) (λe=>by have:=bd e;omega) bv (λf bu=>bt f (gV (j8 bu))) (λbo=>?_) (λo C=>b0 (j+o) C) (λo f hi C H K=>?_) (λo f hi C H K=>?_) (λo f hi C H K=>?_)
        ·have ah:j<i:=by
           rcases e9 j i with e|e
           ·exact e
           ·exfalso;apply bo;apply z6;simp;omega
         have bp:p≠[]:=λe=>by subst e;simp at a5;omega
         obtain⟨bx,bz⟩:=a8 bp;exact⟨(ax ah).2 bx,by rw[au];exact bz⟩
        ·obtain⟨R,az⟩:=ag o f hi;have:=ba _ f R C H K;rw[au,(ax (by omega)).1];rw[eK]at this;rw[← this];congr 2;omega
        ·obtain⟨R,az⟩:=ag o f hi;exact a4 _ f R C H K
        ·obtain⟨R,az⟩:=ag o f hi;exact br _ f R C H K
       split at a
       ·split at a
        ·rename_i u;injection a with a;subst a;have:=run (some c) n cap B q (by rw[← A];exact r) (by simp;rw[← A];omega) (by simp);simp only[uP,Q]at this;rw[← A]at this;refine⟨_,this,?_⟩;have:=a0 (h.getD p.length).toNat cap (aq&&decide (h.getD p.length=p.length)) (by omega) (by omega) (by omega) (aS _) (λe=>by
          simp at e;have:=be e.1;omega)
         simpa using this
        ·cases a
       ·rename_i am;split at a
        ·rename_i u;obtain⟨u,ar⟩:=u;injection a with a;subst a;have:=run (some c) n cap B q (by rw[← A];exact r) (by simp;rw[← A];omega) (by simp;omega);simp only[gP,Q]at this;rw[← A]at this;refine⟨_,this,?_⟩;exact a0 (h.getD p.length).toNat am.toNat (decide (h.getD p.length=am)) (by omega) (by omega) (by omega) (by omega) (λe=>by
          simp at e;omega)
        ·cases a
     ·cases a
    ·rename_i a2 a1 G n;simp only at a;split at a
     ·rename_i v;obtain⟨rfl,aj,q,r,u⟩:=v;generalize B:ρ x=an at s;generalize Q:al.V=E at s a aj;cases s with
      | S a1 G n cap k bl A b7 b6 bb =>
       split at a
       ·have M:=run (some ⟨k.b,G*k.V,none⟩) n cap B q r (by simp;omega) (by simp);simp only[uP,Q]at M;refine⟨_,M,?_⟩;split at a
        ·rename_i L;injection a with a;subst a;have a6:(if((cap:Int)).toNat=(l.getD 0).toNat then(some ⟨k.b,G*k.V,none⟩:Option Addr)else(some (⟨k.b,G*k.V,none⟩:Addr)).map (·.add ((l.getD 0).toNat*k.V)))=some ⟨k.b,(G+(l.getD 0).toNat)*k.V,none⟩:=by
          split
          ·rename_i b5;rcases L with L|L
           ·exfalso;omega
           ·simp[L]
          ·simp[ih,eK]
         rw[a6];have I:((h.getD n).toNat - (l.getD 0).toNat)=(h.getD n - l.getD 0).toNat:=by omega
         rw[I];exact .S a1 _ _ _ k bl (by omega) (by omega) (by omega) (by omega)
        ·rename_i L;injection a with a;subst a;have I:((h.getD n).toNat - (l.getD 0).toNat)=0:=by omega
         rw[I];have ap:∀(c:Addr) (aa:Nat),aa≤9223372036854775807→aB g (.slice (some c) 0 aa) (.sl k.V false []):=λc aa v =>.sl c 0 aa _ false [] rfl (il _) v (by simp) aj (by simp) (by simp) (λ_ _=>undef) (by simp) (by simp) (by simp)
         split
         ·exact ap _ _ (by omega)
         ·exact ap _ _ (by omega)
       ·rename_i am;split at a
        ·rename_i e;obtain⟨bh,bf,bk⟩:=e;injection a with a;subst a;have M:=run (some ⟨k.b,G*k.V,none⟩) n cap B q r (by simp;omega) (by simp;omega);simp only[gP,Q,bk,bf,bh]at M;refine⟨_,M,?_⟩;exact .sl _ 0 0 _ true [] rfl (il _) (by omega) (by simp) aj (by simp) (by simp) (λ_ _=>undef) (by simp) (by simp) (by simp)
        ·cases a
     ·cases a
    ·cases a
   ·cases a
  ·cases a
 ·cases a
end ops
end Go.Pi
namespace Go.Eng
abbrev eA:=@List.mem_append
abbrev px:=@run_newObj
abbrev rF:=@Array.toArray_toList
end Go.Eng
namespace Go.Pi
open Go.Eng
def pG(P:Program)(ρ:Operand→Value)(o:Oper)(g:Gh)(d:D):Prop:=∃c e a,(execOp ρ o).run P g.w = .ok (.value c) e∧a.w=e∧aT g a∧a.ms=g.ms∧a.L=g.L∧(∀b,b<g.w.heap.size→a.w.heap[b]?=g.w.heap[b]?)∧aB a c d
theorem eX.g{P:Program}{ρ:Operand→Value}{o:Oper}{g:Gh}{d:D}(h:eX P ρ o g d):pG P ρ o g d:=by
 obtain⟨c,a,b⟩:=h;exact⟨c,g.w,g,a,rfl,aT.refl g,rfl,rfl,λ_ _=>rfl,b⟩
theorem Inv.same{g g':Gh}{h:Z}(hi:Inv g h)(m:aT g g')(c:g'.ms=g.ms)(p:g'.L=g.L)(v:∀b,b<g.w.heap.size→g'.w.heap[b]?=g.w.heap[b]?):Inv g' h:=by
 refine⟨by rw[c];exact hi.len,λe T o n x=>?_,λe B T o r E n D d A f i j k l=>hi.inj e B T o r E n D d A f i (by rw[← c];exact j) (by rw[← c];exact k) l,λb q=>?_,λe d h=>hX (hi.msb e d (by rw[← c];exact h)) m.size⟩
 ·obtain⟨d,s,f,a⟩:=hi.live e T o n x;refine⟨d,s,by rw[c];exact f,?_,a.fR,a.pos,by rw[p];exact a.hL,a.len,a.le,a.room,a.row,λy C i z t j=>?_⟩
  ·rw[v _ (hi.jS a.hL)];exact a.fy
  ·obtain⟨F,k,l,u⟩:=a.cell y C i z t j;exact⟨F,k,l,u.ext m⟩
 ·rw[p]at q;exact hX (hi.L b q) m.size
def Gh.alloc(g:Gh)(o:Obj):Gh:=⟨g.w.alloc o,g.ms,g.L⟩
def Gh.draw(g:Gh):Gh:=⟨g.w.drew,g.ms,g.L⟩
theorem Gh.Bi(g:Gh):aT g g.draw :=.q9 ⟨rfl,rfl,rfl,aS _,λ_ _ a=>a,λc b=>⟨b,rfl⟩⟩ rfl rfl λ_ _=>rfl
theorem Gh.Hd{g:Gh}{h:Z}(hi:Inv g h):Inv g.draw h:=hi.same g.Bi rfl rfl λ_ _=>rfl
theorem nF(w:World)(o:Obj){b:Nat}(h:b<w.heap.size):(w.alloc o).heap[b]?=w.heap[b]?:=KD w o b h
theorem vZ(w:World)(o:Obj):(w.alloc o).heap[w.heap.size]?=some o:=by
 show(w.heap.push o)[w.heap.size]?=_;simp
theorem sX(w:World)(o:Obj):(w.alloc o).heap.size=w.heap.size+1:=by
 show(w.heap.push o).size=_;simp
theorem Gh.u1(g:Gh)(o:Obj):(g.alloc o).w.heap.size=g.w.heap.size+1:=sX g.w o
theorem Gh.sa(g:Gh)(o:Obj):aT g (g.alloc o) :=.q9 ⟨rfl,rfl,rfl,by rw[g.u1];omega,λ_ _ c=>c,λb a=>⟨⟨by have:=a.1;rw[g.u1];omega,a.2⟩,nF g.w o a.1⟩⟩ rfl rfl λb a=>nF g.w o a
theorem Gh.Fy(g:Gh){cs:Array Value}{T:TypeId}{fr:Nat × Nat}(i:Nat):(g.alloc (.cells cs T fr)).w.cell? ⟨g.w.heap.size,i,none⟩=cs[i]?:=by
 have:(g.alloc (.cells cs T fr)).w.heap[g.w.heap.size]?=some (.cells cs T fr):=vZ g.w _;simp only[World.cell?,this];simp
section ops
variable {P:Program} {T:bD} {g:Gh} {ρ:Operand→Value} {dst:Option Tmp} {ty:TypeId} {pos:String} {af:Array Edge} {gd:Option (Nat × Bool)}
theorem xL(c:∀b,g.L b→b<g.w.heap.size){vs:List Value}{cs:List D}{E:TypeId}(f:aW g vs cs)(a:∀v∈vs,v.oneCell'=true):At (g.alloc (.cells vs.toArray E)) g.w.heap.size 0 vs cs∧(g.alloc (.cells vs.toArray E)).fz g.w.heap.size:=by
 refine⟨⟨λh v e=>?_,a,f.ext (g.sa _)⟩,by rw[g.u1];omega,λd=>?_⟩
 ·rw[cT,g.Fy];simpa using e
 ·have:=c _ d;omega
theorem GJ(d:∀b,g.L b→b<g.w.heap.size){e:TypeId}{x:Operand}{a:D}(m:aB g (ρ x) a)(j:a.fk=true):pG P ρ ⟨dst,.box e x,ty,pos,af,gd⟩ g (.aD (cG a)):=by
 obtain⟨n,l,k,c⟩:=m.cells j;obtain⟨f,i⟩:=xL d (E:=e) k c;exact⟨_,_,g.alloc (.cells n.toArray e),by simp only[execOp,Instr.box,fg,newVar,newRow,px,fp,gZ,l];rfl,rfl,g.sa _,rfl,rfl,λb h=>nF _ _ h,f.aD λ_=>i⟩
theorem GG(h:cC P T)(f:∀b,g.L b→b<g.w.heap.size){e:TypeId}{i:TI}(hi:T e=some i):pG P ρ ⟨dst,.alloc e,ty,pos,af,gd⟩ g (.aD i.zero):=by
 obtain⟨c,m,n,o,d⟩:=h.mO hi;have a:=nQ g c.cells.toList;rw[← n]at a;obtain⟨j,l⟩:=xL f (E:=e) a d;exact⟨_,_,g.alloc (.cells c.cells.toList.toArray e),by simp only[execOp,Instr.alloc,fg,m g.w,fp,newVar,newRow,px,gZ,rF];rfl,by simp[Gh.alloc],g.sa _,rfl,rfl,λb k=>nF _ _ k,j.aD λ_=>l⟩
theorem Ek{a:List Value}{cs:List D}{vs:List Value}{ds:List D}(h:aW g a cs)(k:aW g vs ds)(off:Nat):aW g (a.take off++vs++a.drop (off+vs.length)) (dK cs off ds):=by
 unfold dK;rw[k.length];exact((h.take off).append k).append (h.drop _)
theorem vp {fs:List (Nat × Nat × Nat)} {place:Nat→Option (Nat × Nat)} (s:∀(i:Nat) o off V,fs[i]?=some (o,off,V)→place i=some (off,V)):∀(j:List Nat) (d:List Value) (ds:List D) (a:List Value) (cs e:List D),aW g a cs→(∀v∈a,v.oneCell'=true)→aW g d ds→j.length=d.length→jV fs cs j ds=some e →
  ∃l,Instr.fill place a.toArray (j.zip d)=some l.toArray∧aW g l e∧∀v∈l,v.oneCell'=true
 | [],d,ds,a,cs,e,h,m,f,n,b=>by
  have:d=[]:=gE (by simpa using n.symm);subst this;cases f;simp[jV]at b;subst b;exact⟨a,by simp[Instr.fill],h,m⟩
 | i :: j, d,ds,a,cs,e,h,m,f,n,b=>by
  cases f with
  |nil=>simp at n
  | cons F f =>
   rename_i v G d ds;simp only[jV]at b;split at b
   ·rename_i o off V x;split at b
    ·rename_i q;simp only[dU]at q;obtain⟨⟨gm,fu⟩,iX⟩:=q;have gm:=gF gm;have fu:=dL fu;obtain⟨k,E,t,C⟩:=F.cells iX;have H:=h.length;have I:=t.length;have A:=Ek h t off;obtain⟨l,y,z,u⟩:=vp s j d ds (a.take off++k++a.drop (off+k.length)) _ e A (λp c=>by
      simp only[eA]at c;rcases c with(c|c)|c
      ·exact m p (gV c)
      ·exact C p c
      ·exact m p (j8 c)) f (by simpa using n) b
     refine⟨l,?_,z,u⟩;simp only[List.zip_cons_cons,Instr.fill,s i o off V x,E];have w:(decide (k.toArray.size≠V)||decide (off+k.toArray.size>a.toArray.size))=false:=by
      simp;omega
     simp only[w,bA,aR];have r:=B8 k (a.take off) (a.drop off) (by simp;omega);have B:(a.take off).length=off:=by simp;omega
     simp only[B,List.take_append_drop,List.drop_drop]at r;rw[← y];congr 1
     try (rw[← r])
    ·cases b
   ·cases b
end ops
end Go.Pi
namespace Go.Eng
abbrev eI:=@List.mem_cons
abbrev gy:=@Option.bind_some
abbrev jv:=@List.flatten_cons
abbrev uQ:=@Option.isSome_some
abbrev Ak:=@Option.isSome_iff_exists
end Go.Eng
namespace Go.Pi
open Go.Eng
section ops
variable {P:Program} {T:bD} {g:Gh} {ρ:Operand→Value} {dst:Option Tmp} {ty:TypeId} {pos:String} {af:Array Edge} {gd:Option (Nat × Bool)}
theorem yB(ρ:Operand→Value)(ps:Array (Nat × Operand)):(ps.map λx=>(x.1,ρ x.2)).toList=(ps.toList.map (·.1)).zip (ps.toList.map λx=>ρ x.2):=by
 simp only[Array.toList_map]
 induction ps.toList with
 |nil=>rfl
 |cons b c a=>simp[a]
theorem run_places(l:cC P T){b:Array Field}(g:∀f∈b.toList,f.name ≠ "_" ∧ (P.info? f.type).isSome=true)(w:World):
  (b.mapM λf=>(do pure (f.offset,← sizeOf f.type):Sem (Nat × Nat))).run P w = .ok (b.toList.map λf=>(f.offset,P.cellsOf f.type)).toArray w:=by
 have k:∀(a:List Field),(∀f∈a,f.name ≠ "_" ∧ (P.info? f.type).isSome=true)→(a.mapM λf=>(do pure (f.offset,← sizeOf f.type):Sem (Nat × Nat))).run P w = .ok (a.map λf=>(f.offset,P.cellsOf f.type)) w:=by
  intro a
  induction a with
  |nil=>intro _;simp
  | cons f n j =>
   intro c;have h:=(c f (gO ..)).2;obtain⟨m,e⟩:=Ak.1 h;have i:(sizeOf f.type).run P w = .ok (P.cellsOf f.type) w:=by simp[sizeOf,typeInfo,e,Program.cellsOf]
   have:=j λf d=>c f (fG _ d)
   simp only[List.mapM_cons,fg,i,fp,gZ,this,iS]
 obtain⟨a⟩:=b;have:=k a g;rw[List.mapM_toArray];simp only[Sem.run_map];rw[this];simp
theorem GL (j:cC P T) {t:TypeId} {ps:Array (Nat × Operand)} {ds:List D} {d:D} (F:aW g (ps.toList.map λx=>ρ x.2) ds) (h:dZ T t (ps.toList.map (·.1)) ds=some d):eX P ρ ⟨dst,.build t ps,ty,pos,af,gd⟩ g d:=by
 unfold dZ at h;split at h
 ·rename_i b q;obtain⟨B,G,K,R,E⟩:=j.mO q;have s:=nQ g B.cells.toList;rw[← K]at s;split at h
  ·rename_i fs p;obtain⟨m,u,rfl,I,_⟩:=j.st q p;cases e:jV (oS P m) b.zero (ps.toList.map (·.1)) ds with
   |none=>rw[e]at h;cases h
   | some n =>
    rw[e]at h;injection h with h;subst h;obtain⟨A,k,r,o⟩:=vp (place:=((m.toList.map λl=>(l.offset,P.cellsOf l.type)).toArray[·]?)) (fs:=oS P m) (λb Q L N a=>by
     unfold oS at a;rw[dB]at a;cases c:m.toList[b]? with
     |none=>rw[c]at a;cases a
     | some l =>
      rw[c]at a;injection a with a;injection a with M f;injection f with f z;simp at c;simp[c,f,z]) _ _ ds B.cells.toList b.zero n s E F (by simp) e
    refine⟨.agg A.toArray,?_,.pg r o⟩;simp only[rF]at k;simp only[execOp,Instr.build,fg,G g.w,fp,cQ u,run_places j I g.w,yB,k,gZ]
  ·rename_i y C p;have u:=j.arr q p;split at h
   ·rename_i i H;cases e:jV ((List.range y).map λv=>(C,v*i.V,i.V)) b.zero (ps.toList.map (·.1)) ds with
    |none=>rw[e]at h;cases h
    | some n =>
     rw[e]at h;injection h with h;subst h;obtain⟨A,k,r,o⟩:=vp (place:=λb=>some (b*i.V,i.V)) (fs:=(List.range y).map λv=>(C,v*i.V,i.V)) (λb Q L N a=>by
      rw[dB]at a;cases c:(List.range y)[b]? with
      |none=>rw[c]at a;cases a
      | some l =>
       rw[c]at a;have:=(aZ.1 c).2;simp at this;subst this;injection a with a;injection a with M f;injection f with f z;subst z;simp[f]) _ _ ds B.cells.toList b.zero n s E F (by simp) e
     refine⟨.agg A.toArray,?_,.pg r o⟩;simp only[rF]at k;simp only[execOp,Instr.build,fg,G g.w,fp,cQ u,j.size H,yB,k,gZ]
   ·cases h
  ·cases h
 ·cases h
theorem DW {V:Nat}:∀(k:Nat) (d:List Nat) (a:List Value) (ds:List D) (rows:List (List D)),aW g a ds→d.length=a.length→qk V k d ds=some rows →
  d.zip a=oF k a∧(∀v∈a,v.cells.size=V)∧rows.length=a.length∧(∀r∈rows,r.length=V)∧aW g (a.flatMap λv=>v.cells.toList) rows.flatten∧(∀v∈a.flatMap λv=>v.cells.toList,v.oneCell'=true)
 | k,[],a,ds,rows,c,e,h=>by
  have:a=[]:=gE (by simpa using e.symm);subst this;cases c;simp[qk]at h;subst h;exact⟨rfl,by simp,rfl,by simp,by simpa using aW.nil,by simp⟩
 | k,q::d,a,ds,rows,c,e,h=>by
  cases c with
  |nil=>simp at e
  | cons p c =>
   rename_i v A a ds;simp only[qk]at h;split at h
   ·rename_i l;simp only[dU]at l;obtain⟨⟨gm,fu⟩,iX⟩:=l;have gm:=gF gm;have fu:=gF fu;subst gm;split at h
    ·rename_i z n;injection h with h;subst h;obtain⟨s,t,u,w,x,y⟩:=DW (q+1) d a ds z c (by simpa using e) n;obtain⟨C,j,m,o⟩:=p.cells iX;have B:=m.length;refine⟨by simp[oF,s],λf b=>?_,by simp[u],λr i=>?_,?_,λf b=>?_⟩
     ·rcases eI.1 b with rfl|b
      ·rw[j];simp;omega
      ·exact t f b
     ·rcases eI.1 i with rfl|i
      ·exact fu
      ·exact w r i
     ·simp only[pT,jv,j];exact m.append x
     ·simp only[pT,eA,j]at b;rcases b with b|b
      ·exact o f b
      ·exact y f b
    ·cases h
   ·cases h
theorem vr{V:Nat}:∀(rows:List (List D)) (i j:Nat) (row:List D) (d:D),(∀r∈rows,r.length=V)→rows[i]?=some row→row[j]?=some d→rows.flatten[i*V+j]?=some d
 |[],i,j,row,d,_,h,_=>by cases h
 | r::rows,0,j,row,d,c,h,a=>by
  simp at h;subst h;have f:=(aZ.1 a).1;simp only[jv,nj,cT];rw[dY f];exact a
 | r::rows,i+1,j,row,d,c,h,a=>by
  have e:rows[i]?=some row:=by simpa using h
  have b:=c r (gO ..);have:=vr rows i j row d (λr b=>c r (fG _ b)) e a;simp only[jv];rw[iC (by rw[b,eK];omega)];rw[← this];congr 1;rw[b,eK];omega
theorem jJ{V:Nat}:∀(rows:List (List D)),(∀r∈rows,r.length=V)→rows.flatten.length=rows.length*V
 |[],_=>by simp
 | r::rows,h=>by
  have:=jJ rows λr a=>h r (fG _ a)
  rw[jv,gh,this,h r (gO ..),eF,eK];omega
theorem D2 (e:cC P T) {t n:Nat} {ps:Array (Nat × Operand)} {ds:List D} {E V:Nat} {rows:List (List D)} (q:aW g (ps.toList.map λx=>ρ x.2) ds) (h:lB T t n (ps.toList.map (·.1)) ds=some (E,V,rows)) :
  ∃vs:List Value,(execOp ρ ⟨dst,.buildSlice t n ps,ty,pos,af,gd⟩).run P g.w = .ok (.value (.slice (some ⟨g.w.heap.size,0,none⟩) n n)) (g.w.alloc (.cells vs.toArray E))∧aW g vs rows.flatten∧(∀v∈vs,v.oneCell'=true)∧rows.length=n∧(∀r∈rows,r.length=V)∧0<V∧n*V≤16777216:=by
 unfold lB at h;split at h
 ·rename_i K o;split at h
  ·rename_i H u;split at h
   ·rename_i b j;split at h
    ·rename_i i;simp only[dU]at i;obtain⟨⟨gm,fu⟩,iX⟩:=i;have gm:=dL gm;have fu:=dL fu;have iX:=gF iX;split at h
     ·rename_i k s;injection h with h;injection h with m c;injection c with c d;subst m;subst c;subst d;obtain⟨z,A,B,C,F,G⟩:=DW 0 _ _ ds k q (by simp) s;have p:k.length=n:=by rw[B];simpa using iX
      refine⟨_,?_,F,G,p,C,gm,fu⟩;obtain⟨l,y,_,I,_⟩:=e.mO j;have d:¬(n*b.V>2 ^ 24):=by omega
      have a:=BP (V:=b.V) (ps.toList.map λx=>ρ x.2) [] ((Array.range (n*b.V)).map ((if n*b.V=0 then #[]else l.cells)[· % (if n*b.V=0 then #[]else l.cells).size]!)).toList 0 (by simp) (by simp at iX;simp[iX]) A;simp only[jx,rF]at a;rw[← z,← yB]at a;simp only[execOp,Instr.buildSlice,fg,cQ (e.sl o u),fp,e.size j,d,aR,gZ,newRow,px];by_cases f:n*b.V=0
      ·simp only[f,aM,fg,gZ,fp]at a ⊢;rw[a];rfl
      ·simp only[f,aR,fg,y g.w,gZ,fp]at a ⊢;rw[a];rfl
     ·cases h
    ·cases h
   ·cases h
  ·cases h
 ·cases h
theorem GW(A:cC P T)(z:∀b,g.L b→b<g.w.heap.size){t n:Nat}{ps:Array (Nat × Operand)}{ds:List D}{E V:Nat}{rows:List (List D)}(G:aW g (ps.toList.map λx=>ρ x.2) ds)(h:lB T t n (ps.toList.map (·.1)) ds=some (E,V,rows)):
  pG P ρ ⟨dst,.buildSlice t n ps,ty,pos,af,gd⟩ g (.sl V true rows):=by
 obtain⟨k,H,y,r,F,p,v,Q⟩:=D2 (dst:=dst) (ty:=ty) (pos:=pos) (af:=af) (gd:=gd) A G h;obtain⟨s,C⟩:=xL z (E:=E) y r;have N:n≤n*V:=Nat.le_mul_of_pos_right n v;have K:=y.length;have I:=jJ rows p;have q:∀(a:Nat) (e:List D),rows[a]?=some e→∀(c:Nat) (d:D),e[c]?=some d→∃f,k[a*V+c]?=some f∧rows.flatten[a*V+c]?=some d∧k.getD (a*V+c) undef=f:=λa e j c d i=>by
  have:=vr rows a c e d p j i;have M:=(aZ.1 this).1;have u:k[a*V+c]?=some (k[a*V+c]'(by omega)):=cA (by omega);exact⟨_,u,this,by rw[oh,u];rfl⟩
 refine⟨_,_,g.alloc (.cells k.toArray E),H,rfl,g.sa _,rfl,rfl,λb B=>nF _ _ B,?_⟩;refine .sl ⟨g.w.heap.size,0,none⟩ n n V true rows F (aS _) (by omega) (λ_=>rfl) v p (λ_=>⟨rfl,C⟩) (λa c=>k.getD (a*V+c) undef) (λa e j c d i=>?_) (λa e j c d i=>?_) (λa e j c d i=>?_)
 ·obtain⟨f,l,o,m⟩:=q a e j c d i;simp only[m];have:=s.1 _ f l;simpa[nh]using this
 ·obtain⟨f,l,o,m⟩:=q a e j c d i;simp only[m];exact r f (eB l)
 ·obtain⟨f,l,o,m⟩:=q a e j c d i;simp only[m];exact s.2.2.get _ f d l o
theorem GZ{f:Fn}{a b:Array Operand}{ds:List D}(e:aW g ((a++b).toList.map ρ) ds):eX P ρ ⟨dst,.makeFunc f a b,ty,pos,af,gd⟩ g (.fn f (ds.take a.size) (ds.drop a.size)):=by
 have j:=e.length;simp at j;refine⟨.func f (a.map ρ) (b.map ρ),by simp[execOp,Instr.makeFunc],?_⟩;have c:=e.take a.size;have d:=e.drop a.size;have h:(((a++b).toList.map ρ).take a.size)=(a.map ρ).toList:=by
  simp[rW]
 have i:(((a++b).toList.map ρ).drop a.size)=(b.map ρ).toList:=by
  simp[rS]
 rw[h]at c;rw[i]at d;have:=aB.fn (g:=g) f (ds.take a.size) (ds.drop a.size) (a.map ρ).toList (b.map ρ).toList c.length d.length c.get d.get;simpa only[rF]using this
theorem aB.rq{v:Value}{V:Nat}{a:Bool}{rows:List (List D)}(h:aB g v (.sl V a rows)):∃ad cap,v = .slice (some ad) rows.length cap∧(a=true→cap=rows.length):=by
 cases h with
 |sl ad n cap V a rows b j i c m l e o f d k=>exact⟨ad,cap,by rw[b],λh=>by rw[b];exact c h⟩
theorem aB.kr{v:Value}{V o r n:Nat}(h:aB g v (.S V o r n)):∃m cap,v = .slice (some ⟨m.b,r*m.V,none⟩) n cap∧m.V=V∧g.ms[o]?=some m∧r+n≤m.len∧m.len≤r+cap∧r+cap≤m.cap∧cap≤9223372036854775807:=by
 cases h with
 |S o r n cap m e f d c a=>exact⟨m,cap,rfl,rfl,e,f,d,c,a⟩
theorem si{x:Operand}{k:Array TypeId}{f d:D}(c:aB g (ρ x) f)(h:oA f=some d)(n:∃t,k[0]?=some t∧((∃s,f = .str s)→P.underlying t=some .string)∧((¬ ∃s,f = .str s)→∃e,P.underlying t=some (.slice e))):eX P ρ ⟨dst,.call ⟨.builtin .len, #[x],k⟩,ty,pos,af,gd⟩ g d:=by
 obtain⟨t,i,m,j⟩:=n;unfold oA at h;split at h
 ·injection h with h;subst h;have b:=m ⟨_,rfl⟩;rename_i s;have a:ρ x = .string ⟨s.toArray⟩:=by generalize a:ρ x=q at c;cases c;rfl
  exact⟨.int .i64 s.length,by simp[execOp,resolve,invoke,builtin,Builtin.len_,cQ b,a,i,goInt,nP],.int _ _⟩
 ·injection h with h;subst h;obtain⟨e,b⟩:=j (by simp);have a:ρ x = .slice none 0 0:=by generalize a:ρ x=q at c;cases c;rfl
  exact⟨.int .i64 0,by simp[execOp,resolve,invoke,builtin,Builtin.len_,cQ b,a,i,goInt],.int _ _⟩
 ·injection h with h;subst h;obtain⟨e,b⟩:=j (by simp);rename_i p;obtain⟨r,l,a,_⟩:=c.rq;exact⟨.int .i64 p.length,by simp[execOp,resolve,invoke,builtin,Builtin.len_,cQ b,a,i,goInt],.int _ _⟩
 ·injection h with h;subst h;obtain⟨e,b⟩:=j (by simp);rename_i o;obtain⟨u,l,a,_⟩:=c.kr;exact⟨.int .i64 o,by simp[execOp,resolve,invoke,builtin,Builtin.len_,cQ b,a,i,goInt],.int _ _⟩
 ·cases h
theorem GM{x:Operand}{k:Array TypeId}{f d:D}(c:aB g (ρ x) f)(h:u6 f=some d)(l:∃t e,k[0]?=some t∧P.underlying t=some (.slice e)):eX P ρ ⟨dst,.call ⟨.builtin .cap, #[x],k⟩,ty,pos,af,gd⟩ g d:=by
 obtain⟨t,e,i,j⟩:=l;unfold u6 at h;split at h
 ·injection h with h;subst h;have a:ρ x = .slice none 0 0:=by generalize a:ρ x=p at c;cases c;rfl
  exact⟨.int .i64 0,by simp[execOp,resolve,invoke,builtin,Builtin.cap_,cQ j,a,i,goInt],.int _ _⟩
 ·injection h with h;subst h;rename_i m;obtain⟨n,o,a,b⟩:=c.rq;have b:=b rfl;subst b;exact⟨.int .i64 m.length,by simp[execOp,resolve,invoke,builtin,Builtin.cap_,cQ j,a,i,goInt],.int _ _⟩
 ·cases h
theorem G2{x y:Operand}{o:Array TypeId}{c e d:D}(f:aB g (ρ x) c)(i:aB g (ρ y) e)(h:oB c e=some d):eX P ρ ⟨dst,.call ⟨.builtin .min, #[x,y],o⟩,ty,pos,af,gd⟩ g d:=by
 unfold oB at h;split at h
 ·rename_i j a n b;injection h with h;subst h;have l:ρ x = .int j a:=by generalize k:ρ x=p at f;cases f;rfl
  have m:ρ y = .int n b:=by generalize k:ρ y=p at i;cases i;rfl
  exact⟨.int j (if b<a then b else a),by simp[execOp,resolve,invoke,builtin,Builtin.min_,Builtin.min2,l,m],.int _ _⟩
 ·cases h
theorem G1{x y:Operand}{o:Array TypeId}{c e d:D}(f:aB g (ρ x) c)(i:aB g (ρ y) e)(h:vg c e=some d):eX P ρ ⟨dst,.call ⟨.builtin .max, #[x,y],o⟩,ty,pos,af,gd⟩ g d:=by
 unfold vg at h;split at h
 ·rename_i j a n b;injection h with h;subst h;have l:ρ x = .int j a:=by generalize k:ρ x=p at f;cases f;rfl
  have m:ρ y = .int n b:=by generalize k:ρ y=p at i;cases i;rfl
  exact⟨.int j (if b>a then b else a),by simp[execOp,resolve,invoke,builtin,Builtin.max_,Builtin.max2,l,m],.int _ _⟩
 ·cases h
theorem pt{vs:List Value}{d:D}(h:aW g vs [d]):∃v,vs=[v]∧aB g v d:=by
 cases h with
 |cons h a=>cases a;exact⟨_,rfl,h⟩
theorem DF (i:cC P T) (ak:∀b,g.L b→b<g.w.heap.size) (o:Oper) {ds:List D} {d:D} (e:aW g (o.op.operands.toList.map ρ) ds) (h:jP T o.op ds=some d):pG P ρ o g d:=by
 obtain⟨dst,ap,ty,pos,af,gd⟩:=o;simp only at e h;have u:∀{x:Operand},aW g [ρ x] ds→∃c,ds=[c]∧aB g (ρ x) c:=λk=>by
  cases k with
  |cons ad f=>cases f;exact⟨_,rfl,ad⟩
 have ag:∀{x y:Operand},aW g [ρ x,ρ y] ds→∃c q,ds=[c,q]∧aB g (ρ x) c∧aB g (ρ y) q:=λk=>by
  cases k with
  | cons ad f=>cases f with
   |cons aj f=>cases f;exact⟨_,_,rfl,ad,aj⟩
 have an:∀{x y z:Operand},aW g [ρ x,ρ y,ρ z] ds→∃c q ar,ds=[c,q,ar]∧aB g (ρ x) c∧aB g (ρ y) q∧aB g (ρ z) ar:=λk=>by
  cases k with
  | cons ad f=>cases f with
   | cons aj f=>cases f with
    |cons ax f=>cases f;exact⟨_,_,_,rfl,ad,aj,ax⟩
 cases ap<;>simp only[jP]at h
 case move x =>
  obtain⟨c,rfl,a⟩:=u e;injection h with h;subst h;exact eX.g ⟨ρ x,by simp[execOp],a⟩
 case assign x =>
  obtain⟨c,rfl,a⟩:=u e;injection h with h;subst h;exact eX.g ⟨ρ x,by simp[execOp],a⟩
 case pick F v b =>
  obtain⟨N,G,A,rfl,Q,H,B⟩:=an e;exact(G4 Q H B h).g
 case nilCheck x =>
  obtain⟨c,rfl,a⟩:=u e;exact(G3 i a h).g
 case binOp ap bu x y a2 =>
  obtain⟨c,q,rfl,a,t⟩:=ag e;exact(GI i a t h).g
 case unOp ap j x =>
  obtain⟨c,rfl,a⟩:=u e;exact(G8 a h).g
 case convert av j x =>
  obtain⟨c,rfl,a⟩:=u e;exact(GN i a h).g
 case makeFunc ai v b =>
  injection h with h;subst h;exact(GZ e).g
 case fieldAddr j x ai =>
  obtain⟨c,rfl,a⟩:=u e;exact(GR i a h).g
 case field j x ai =>
  obtain⟨c,rfl,a⟩:=u e;exact(GQ i a h).g
 case indexAddr j x y =>
  obtain⟨c,q,rfl,a,t⟩:=ag e;exact(GU i a t h).g
 case index j x y =>
  obtain⟨c,q,rfl,a,t⟩:=ag e;exact(GS i a t h).g
 case extract x p =>
  obtain⟨c,rfl,a⟩:=u e;exact(GP a h).g
 case makeInterface j x =>
  obtain⟨c,rfl,a⟩:=u e;split at h
  case h_2=>cases h
  rename_i a4 p R hi;injection R with R;subst R;split at h
  case h_3=>cases h
  ·rename_i r ae;injection h with h;subst h;exact eX.g ⟨.iface j (ρ x),by simp[execOp,Instr.makeInterface,cQ (i.ptr hi ae)],.iface _ _ _ a⟩
  ·rename_i r ae;injection h with h;subst h;exact eX.g ⟨.iface j (ρ x),by simp[execOp,Instr.makeInterface,cQ (i.int hi ae)],.iface _ _ _ a⟩
 case typeAssert x xt j bb =>
  obtain⟨c,rfl,a⟩:=u e;split at h
  case h_2=>cases h
  rename_i a4 p R hi;injection R with R;subst R;split at h
  case h_2=>cases h
  rename_i r ae;unfold l8 at h;split at h
  case h_2=>cases h
  rename_i a2 y;split at h
  case isFalse=>cases h
  rename_i az;subst az;injection h with h;subst h;generalize s:ρ x=aq at a;cases a with
  |iface _ a3 _ a0=>exact eX.g ⟨a3,by simp[execOp,Instr.typeAssert,cQ (i.int hi ae),s],a0⟩
 case build j ac =>
  have:(Op.operands (.build j ac)).toList.map ρ=ac.toList.map λx=>ρ x.2:=by simp[Op.operands]
  rw[this]at e;exact(GL i e h).g
 case alloc r =>
  cases hi:T r with
  |none=>rw[hi]at h;cases h
  | some p =>
   rw[hi]at h;injection h with h;subst h;exact GG i ak hi
 case box r x =>
  obtain⟨c,rfl,a⟩:=u e;simp only at h;split at h
  ·rename_i ay;injection h with h;subst h;exact GJ ak a ay
  ·cases h
 case buildSlice j au ac =>
  have:(Op.operands (.buildSlice j au ac)).toList.map ρ=ac.toList.map λx=>ρ x.2:=by simp[Op.operands]
  rw[this]at e;cases C:lB T j au (ac.toList.map (·.1)) ds with
  |none=>rw[C]at h;cases h
  | some a1 =>
   rw[C]at h;obtain⟨a5,br,bp⟩:=a1;injection h with h;subst h;exact GW i ak e C
 case slice j x lo hi mx =>
  have K:∀{y:Operand} {q:D} {p:Int},aB g (ρ y) q→fZ q=some p→∃ao,ρ y = .int ao p:=λ{y q p} t aa=>by
   unfold fZ at aa;split at aa
   ·injection aa with aa;subst aa;generalize s:ρ y=aq at t;cases t;exact⟨_,rfl⟩
   ·cases aa
  cases lo<;>cases hi<;>cases mx<;>simp only[r0,uQ]at h
  ·obtain⟨c,rfl,a⟩:=u (x:=x) (by simpa[Op.operands]using e);exact(nA i (lo:=none) (hi:=none) (mx:=none) (l:=none) (h:=none) (m:=none) a trivial trivial trivial (by simp) h).g
  ·unfold fO at h;simp at h
  ·rename_i b;obtain⟨c,A,rfl,a,B⟩:=ag (x:=x) (y:=b) (by simpa[Op.operands]using e);simp only[fO]at h;cases n:fZ A with
   |none=>rw[n]at h;cases h
   | some p =>
    rw[n]at h;exact(nA i (lo:=none) (hi:=(some b)) (mx:=none) (l:=none) (h:=some p) (m:=none) a trivial (K B n) trivial (by simp) h).g
  ·rename_i b F;obtain⟨c,A,N,rfl,a,B,Q⟩:=an (x:=x) (y:=b) (z:=F) (by simpa[Op.operands]using e);simp only[fO]at h;cases n:fZ A with
   |none=>rw[n]at h;cases h
   | some p =>
    rw[n]at h;simp only[gy]at h;cases E:fZ N with
    |none=>rw[E]at h;cases h
    | some ah =>
     rw[E]at h;exact(nA i (lo:=none) (hi:=(some b)) (mx:=(some F)) (l:=none) (h:=some p) (m:=some ah) a trivial (K B n) (K Q E) (by simp) h).g
  ·rename_i v;obtain⟨c,G,rfl,a,H⟩:=ag (x:=x) (y:=v) (by simpa[Op.operands]using e);simp only[fO]at h;cases n:fZ G with
   |none=>rw[n]at h;cases h
   | some p =>
    rw[n]at h;exact(nA i (lo:=(some v)) (hi:=none) (mx:=none) (l:=some p) (h:=none) (m:=none) a (K H n) trivial trivial (by simp) h).g
  ·unfold fO at h;simp at h
  ·rename_i v b;obtain⟨c,G,A,rfl,a,H,B⟩:=an (x:=x) (y:=v) (z:=b) (by simpa[Op.operands]using e);simp only[fO]at h;cases n:fZ G with
   |none=>rw[n]at h;cases h
   | some p =>
    rw[n]at h;simp only[gy]at h;cases E:fZ A with
    |none=>rw[E]at h;cases h
    | some ah =>
     rw[E]at h;exact(nA i (lo:=(some v)) (hi:=(some b)) (mx:=none) (l:=some p) (h:=some ah) (m:=none) a (K H n) (K B E) trivial (by simp) h).g
  ·rename_i v b F;obtain ⟨c,G,A,N,rfl,a,H,B,Q⟩:∃c G A N,ds=[c,G,A,N]∧aB g (ρ x) c∧aB g (ρ v) G∧aB g (ρ b) A∧aB g (ρ F) N:=by
    have M:aW g [ρ x,ρ v,ρ b,ρ F] ds:=by simpa[Op.operands]using e
    cases M with
    | cons a f=>cases f with
     | cons H f=>cases f with
      | cons B f=>cases f with
       |cons Q f=>cases f;exact⟨_,_,_,_,rfl,a,H,B,Q⟩
   simp only[fO]at h;cases n:fZ G with
   |none=>rw[n]at h;cases h
   | some p =>
    rw[n]at h;simp only[gy]at h;cases E:fZ A with
    |none=>rw[E]at h;cases h
    | some ah =>
     rw[E]at h;simp only[gy]at h;cases am:fZ N with
     |none=>rw[am]at h;cases h
     | some ao =>
      rw[am]at h;exact(nA i (lo:=some v) (hi:=some b) (mx:=some F) (l:=some p) (h:=some ah) (m:=some ao) a (K H n) (K B E) (K Q am) (by simp) h).g
 case call F =>
  obtain⟨aw,args,bt⟩:=F;simp only at h;cases aw with
  |value ai=>simp at h
  |invoke f m=>simp at h
  | builtin b =>
   have M:aW g (args.toList.map ρ) ds:=by simpa[Op.operands,Call.operands]using e
   cases b<;>simp only at h
   case len =>
    split at h
    ·rename_i c j ab;obtain⟨aq,s,a⟩:=pt M;obtain⟨x,X⟩:∃x,args = #[x]:=by
      obtain⟨l⟩:=args;cases l with
      |nil=>simp at s
      | cons x l=>cases l with
       |nil=>exact⟨x,rfl⟩
       |cons y l=>simp at s
     subst X;simp at s;subst s;unfold aV at h;split at h
     ·rename_i p hi;split at h
      ·rename_i av I;exact(si a h ⟨j,ab,λ_=>i.str hi I,λk=>absurd ⟨av,rfl⟩ k⟩).g
      ·rename_i r I;exact(si a h ⟨j,ab,(λk=>by obtain⟨_,k⟩:=k;cases k),λ_=>⟨r,i.sl hi I⟩⟩).g
      ·rename_i r _ _ _ I;exact(si a h ⟨j,ab,(λk=>by obtain⟨_,k⟩:=k;cases k),λ_=>⟨r,i.sl hi I⟩⟩).g
      ·rename_i r _ _ _ _ I;exact(si a h ⟨j,ab,(λk=>by obtain⟨_,k⟩:=k;cases k),λ_=>⟨r,i.sl hi I⟩⟩).g
      ·cases h
     ·cases h
    ·cases h
   case cap =>
    split at h
    ·rename_i c j ab;obtain⟨aq,s,a⟩:=pt M;obtain⟨x,X⟩:∃x,args = #[x]:=by
      obtain⟨l⟩:=args;cases l with
      |nil=>simp at s
      | cons x l=>cases l with
       |nil=>exact⟨x,rfl⟩
       |cons y l=>simp at s
     subst X;simp at s;subst s;unfold A7 at h;split at h
     ·rename_i p hi;split at h
      ·rename_i r I;exact(GM a h ⟨j,r,ab,i.sl hi I⟩).g
      ·cases h
     ·cases h
    ·cases h
   case min =>
    split at h
    ·rename_i c q;obtain⟨x,y,X⟩:∃x y,args = #[x,y]:=by
      have C:=M.length;obtain⟨l⟩:=args;cases l with
      |nil=>simp at C
      | cons x l=>cases l with
       |nil=>simp at C
       | cons y l=>cases l with
        |nil=>exact⟨x,y,rfl⟩
        |cons z l=>simp at C
     subst X;cases M with
     | cons a f=>cases f with
      |cons t f=>exact(G2 a t h).g
    ·cases h
   case max =>
    split at h
    ·rename_i c q;obtain⟨x,y,X⟩:∃x y,args = #[x,y]:=by
      have C:=M.length;obtain⟨l⟩:=args;cases l with
      |nil=>simp at C
      | cons x l=>cases l with
       |nil=>simp at C
       | cons y l=>cases l with
        |nil=>exact⟨x,y,rfl⟩
        |cons z l=>simp at C
     subst X;cases M with
     | cons a f=>cases f with
      |cons t f=>exact(G1 a t h).g
    ·cases h
   all_goals cases h
 all_goals cases h
end ops
end Go.Pi
namespace Go.Eng
abbrev gi:=@List.length_map
abbrev ni:=@Nat.add_zero
end Go.Eng
namespace Go.Pi
open Go.Eng
section rd
variable {P:Program} {T:bD} {g:Gh} {h:Z}
theorem Live.at{m:Me}{U V:Nat}{rows:List (List D)}{cs:Array Value}(i:Live g m U V rows cs){k:Nat}{row:List D}(p:rows[k]?=some row):∃vs,At g m.b (k*V) vs row:=by
 obtain⟨r,n,_⟩:=i.fy;have o:∀f,g.w.cell? ⟨m.b,f,none⟩=cs[f]?:=λf=>by simp only[World.cell?,n];simp
 refine⟨_,At.of (λa=>cs.getD (k*V+a) undef) (λa c e=>?_) (λa c e=>?_) (λa c e=>?_)⟩
 all_goals
  obtain⟨q,h,j,l⟩:=i.cell k row p a c e;have d:cs.getD (k*V+a) undef=q:=by rw[dS,h];rfl
 ·rw[o,h,d]
 ·rw[d];exact j
 ·rw[d];exact l
theorem At.append{b o:Nat}{vs f:List Value}{cs ds:List D}(h:At g b o vs cs)(k:At g b (o+vs.length) f ds):At g b o (vs++f) (cs++ds):=by
 refine⟨λe c d=>?_,λc a=>?_,h.2.2.append k.2.2⟩
 ·rcases e9 e vs.length with j|i
  ·rw[dY j]at d;exact h.1 e c d
  ·rw[iC i]at d;have:=k.1 _ c d
   rwa [nh,show vs.length+(e - vs.length)=e from by omega]at this
 ·rcases eA.1 a with a|a
  ·exact h.2.1 c a
  ·exact k.2.1 c a
theorem At.rows{b V:Nat}:∀(rows:List (List D)) (o:Nat),(∀r∈rows,r.length=V)→(∀(i:Nat) (row:List D),rows[i]?=some row→∃vs,At g b (o+i*V) vs row)→∃vs,At g b o vs rows.flatten
 |[],o,_,_=>⟨[],by simp,by simp,by simpa using aW.nil⟩
 | r::rows,o,d,h=>by
  obtain⟨vs,c⟩:=h 0 r rfl;have a:=d r (gO ..);have f:=c.2.2.length;obtain⟨l,j⟩:=At.rows rows (o+vs.length) (λr a=>d r (fG _ a)) (λi row e=>by
   obtain⟨m,k⟩:=h (i+1) row (by simpa using e);refine⟨m,?_⟩;rw[eK,Nat.one_mul]at k
   rwa [f,a,nh,Nat.add_comm V]
   )
  rw[nj,ni]at c;exact⟨vs++l,by rw[jv];exact c.append j⟩
theorem x5 (hi:Inv g h) {v:Value} {d:D} (m:aB g v d) {V:Nat} {rows:List (List D)} (c:iq h V d=some rows) (an:0<V) :
  ∃a cap j,v = .slice a rows.length cap∧(∀r∈rows,r.length=V)∧j.length=rows.length*V∧aW g j rows.flatten∧(∀U∈j,U.oneCell'=true)∧(rows≠[]→∃b o,a=some ⟨b,o,none⟩∧At g b o j rows.flatten):=by
 unfold iq at c;split at c
 ·injection c with c;subst c;cases m;exact⟨none,0,[],rfl,by simp,by simp,by simpa using aW.nil,by simp,by simp⟩
 ·split at c
  ·rename_i u ai f x;subst x;injection c with c;subst c;cases w:f with
   | nil =>
    subst w;obtain⟨G,cap,n,_⟩:=m.rq;exact⟨some G,cap,[],n,by simp,by simp,by simpa using aW.nil,by simp,by simp⟩
   | cons R ar =>
    rw[← w];have I:f[0]?=some R:=by rw[w];rfl
    obtain⟨b,o,s,cap,au,n,A,_,_,_⟩:=m.tH I;have l:∀r∈f,r.length=u:=λr Q=>by
     obtain⟨E,i⟩:=mZ Q;obtain⟨_,_,_,_,_,_,_,_,_,k⟩:=m.tH i;exact k
    obtain⟨j,e⟩:=At.rows (g:=g) (b:=b) f o l (λE T i=>by
     obtain⟨ac,aq,ap,ad,aa,B,_,_,e,_⟩:=m.tH i;rw[n]at B;injection B with p af ag;injection p with p;injection p with p H ah;subst p;subst H;exact⟨aa,e⟩)
    have k:=e.2.2.length;have K:=jJ f l;exact⟨some ⟨b,o,none⟩,cap,j,by rw[n,A],l,by omega,e.2.2,e.2.1,λ_=>⟨b,o,rfl,e⟩⟩
  ·cases c
 ·split at c
  ·rename_i u o r s x;subst x;split at c
   ·rename_i F ab f N;injection c with c;subst c;obtain⟨q,cap,n,z,M,A,am,ak,aj⟩:=m.kr;obtain⟨ao,ae,t,k⟩:=hi.live o F ab f N;rw[M]at t;injection t with t;subst t;have C:=k.fR;rw[z]at C;subst C;have L:((f.drop r).take s).length=s:=by have:=k.len;simp;omega
    have l:∀y∈(f.drop r).take s,y.length=u:=λy P=>k.row y (j8 (gV P))
    obtain⟨j,e⟩:=At.rows (g:=g) (b:=q.b) ((f.drop r).take s) (r*u) l (λE T i=>by
     rw[eY]at i;split at i
     ·rw[jw]at i;obtain⟨X,e⟩:=k.at i;exact⟨X,by rwa [eK]at e⟩
     ·cases i)
    have al:=e.2.2.length;have K:=jJ _ l;refine⟨some ⟨q.b,r*q.V,none⟩,cap,j,by rw[L];exact n,l,by omega,e.2.2,e.2.1,λ_=>⟨q.b,r*q.V,rfl,by rw[z];exact e⟩⟩
   ·cases c
  ·cases c
 ·cases c
theorem AO:∀(rows:List (List D)) (s:List UInt8) (b:List Value),l9 rows=some s→aW g b rows.flatten→∃c:List Int,b=c.map (λn=>Value.int .u8 n)∧s=c.map λn=>UInt8.ofNat n.toNat
 | [],s,b,h,a=>by
  simp[l9]at h;subst h;cases a;exact⟨[],rfl,rfl⟩
 | row::r,s,b,h,a=>by
  unfold l9 at h;split at h
  ·rename_i d;cases d
  ·rename_i n m d;injection d with e f;subst e;subst f;split at h
   ·rename_i l j;injection h with h;subst h;simp only[jv,kI,jx]at a;cases a with
    | cons k a =>
     cases k;obtain⟨c,i,h2⟩:=AO r l _ j a;exact⟨n::c,by simp[i],by simp[h2]⟩
   ·cases h
  ·cases h
theorem JN(a:List Int):∀s:ByteArray,a.foldl (λr n=>r.push (UInt8.ofNat n.toNat)) s=⟨(s.data.toList++a.map λn=>UInt8.ofNat n.toNat).toArray⟩:=by
 induction a with
 |nil=>intro s;simp
 | cons n r b =>
  intro s;rw[pU,b];apply ud;simp[ByteArray.push]
theorem Ba (m:cC P T) (hi:Inv g h) {t:Nat} {v:Value} {l d:D} (p:aB g v l) (a:aA T h t l=some d):∃b,(Instr.loadAt t v).run P g.w = .ok b g.w∧aB g b d:=by
 unfold aA at a;split at a
 ·rename_i E o;split at a
  ·obtain⟨B,k,A,rfl,_,i⟩:=p.sU;obtain⟨b,e,j⟩:=C2 m o i a;exact⟨b,by simp[Instr.loadAt,Instr.sureAddr,e],j⟩
  ·rename_i k x q;split at a
   ·rename_i H f;unfold Z.row at f;split at f
    ·rename_i r z y u;cases p with
     | ptr k x q F s =>
      obtain⟨G,C,c,n⟩:=hi.live k r z y u;rw[s]at c;injection c with c;subst c;obtain⟨A,i⟩:=n.at f;obtain⟨b,e,j⟩:=C2 m o (i.drop q) a;refine⟨b,?_,j⟩;rw[← n.fR]at e;simp[Instr.loadAt,Instr.sureAddr,e]
    ·cases f
   ·cases a
  ·cases a
 ·cases a
theorem Ng (i:cC P T) (hi:Inv g h) {ρ:Operand→Value} (o:Oper) {ds:List D} {d:D} (m:aW g (o.op.operands.toList.map ρ) ds) (a:ky T h o.op ds=some d):eX P ρ o g d:=by
 obtain⟨am,ah,aw,ar,al,gd⟩:=o;simp only at m a;cases ah<;>simp only[ky]at a
 case load y z =>
  split at a
  ·obtain⟨q,c,n⟩:=pt m;simp[Op.operands]at c;subst c;obtain⟨ak,M,ac⟩:=Ba i hi n a;exact⟨ak,by simp[execOp,M],ac⟩
  ·cases a
 case convert ai y z =>
  split at a
  ·rename_i ap x N X;split at a
   ·rename_i B aa ab;split at a
    ·rename_i aq E;split at a
     ·rename_i F;split at a
      ·obtain ⟨q, c, n⟩:=pt m;simp[Op.operands]at c;subst c;unfold Bb at a;split at a
       ·rename_i f L;split at a
        ·rename_i aj R;injection a with a;subst a;obtain⟨r,s,ag,c,ao,H,K,an,t⟩:=x5 hi n L (by decide);obtain⟨b,I,Q⟩:=AO f aj ag R K;subst I;subst Q;have k:b.length=f.length:=by simpa using H
         refine⟨.string ⟨(b.map λp=>UInt8.ofNat p.toNat).toArray⟩,?_,.str _⟩;have ad:=i.sl N aa;have ae:=i.str X ab;have af:=i.int E F;have u : (Conv.bytesToString (ρ z)).run P g.w = .ok (.string ⟨(b.map λp=>UInt8.ofNat p.toNat).toArray⟩) g.w:=by
          rw[c,← k];cases r with
          | none =>
           have l:f=[]:=by
            rcases f with _|⟨au,av⟩
            ·rfl
            ·obtain⟨A,o,e,_⟩:=t (by simp);cases e
           subst l;have:b=[]:=gE (by simpa using k);subst this;simp[Conv.bytesToString];rfl
          | some j =>
           have G:(loadCells j b.length).run P g.w = .ok (b.map (Value.int .u8)).toArray g.w:=by
            have:=run_loadCells_list (P:=P) (w:=g.w) j (b.map (Value.int .u8)) (λx q v=>by
             have l:f≠[]:=λe=>by
              subst e;have:b=[]:=gE (by simpa using k);subst this;cases v
             obtain⟨A,o,e,C⟩:=t l;injection e with e;rw[e,ih];exact C.1 x q v)
            rwa [gi]at this
           rw[run_bytesToString g.w j b.length s b G,JN];rfl
         simp only[execOp,fg];rw[c]at u ⊢;rw[run_convert_bytes_string g.w ai y B r _ s ad af ae,u];rfl
        ·cases a
       ·cases a
      ·cases a
     ·cases a
    ·cases a
   ·cases a
  ·cases a
 all_goals cases a
end rd
end Go.Pi
namespace Go.Eng
abbrev gD:=@run_store
abbrev iD:=@List.getElem?_set_ne
abbrev jR:=@List.getElem?_set_self
abbrev ka:=@Nat.lt_trichotomy
abbrev ln:=@Array.getElem?_eq_getElem
abbrev ub:=@Array.getElem?_modify
abbrev yF:=@Array.getElem?_push_lt
abbrev EZ:=@List.take_succ_eq_append_getElem
end Go.Eng
namespace Go.Pi
open Go.Eng
structure jC (w w':World) (b:Nat) (o:Obj):Prop where
 fy:w'.heap[b]?=some o
 other:∀k,k≠b→w'.heap[k]?=w.heap[k]?
 size:w'.heap.size=w.heap.size
 os:w'.os=w.os
 tape:w'.tape=w.tape
 output:w'.output=w.output
theorem Og(w:World){b i:Nat}{cs:Array Value}{T:TypeId}{fr:Nat × Nat}(a:w.heap[b]?=some (.cells cs T fr))(v:Value):jC w (w.setCell ⟨b,i,none⟩ v) b (.cells (cs.setIfInBounds i v) T fr):=by
 have g:=(gL.1 a).1;refine⟨?_,λf d=>?_,by simp[World.setCell],rfl,rfl,rfl⟩
 ·simp[World.setCell,ub,a]
 ·have e:¬b=f:=λc=>d c.symm
  simp[World.setCell,ub,e]
theorem jC.trans{w w' e:World}{b:Nat}{o d:Obj}(h:jC w w' b o)(k:jC w' e b d):jC w e b d:=
 ⟨k.fy,λc a=>(k.other c a).trans (h.other c a),k.size.trans h.size,k.os.trans h.os,k.tape.trans h.tape,k.output.trans h.output⟩
theorem jC.self{w:World}{b:Nat}{o:Obj}(h:w.heap[b]?=some o):jC w w b o:=⟨h,λ_ _=>rfl,rfl,rfl,rfl,rfl⟩
theorem nR{P:Program}{T:TypeId}{fr:Nat × Nat}{b i:Nat}:∀(vs:List Value) (w:World) (cs:List Value) (k:Nat),w.heap[b]?=some (.cells cs.toArray T fr)→zW fr cs.length→i+k+vs.length≤cs.length→(∀v∈vs,v.oneCell'=true) →
  ∃w',(storeCells ⟨b,i,none⟩ vs k).run P w = .ok () w'∧jC w w' b (.cells (cs.take (i+k)++vs++cs.drop (i+k+vs.length)).toArray T fr)
 |[],w,cs,k,a,c,e,d=>⟨w,by simp[storeCells],by simpa using jC.self a⟩
 | v::r,w,cs,k,a,c,e,d=>by
  simp only[eF]at e;have o:i+k<cs.length:=by omega
  have m:w.cell? ⟨b,i+k,none⟩=some cs[i+k]:=by
   simp only[World.cell?,a];simp[o]
  have n:w.frozen? ⟨b,i+k,none⟩=false:=by
   simp only[World.frozen?,a];rcases c with rfl|c
   ·simp
   ·simp;omega
  have q:(store ⟨b,i+k,none⟩ v).run P w = .ok () (w.setCell ⟨b,i+k,none⟩ v):=by
   rw[gD _ _ _ _ _ (d v (gO ..))];simp[m,n]
  have f:=Og w (i:=i+k) a v;have l:(w.setCell ⟨b,i+k,none⟩ v).heap[b]?=some (.cells (cs.set (i+k) v).toArray T fr):=by
   rw[f.fy];simp
  obtain⟨w',p,s⟩:=nR (i:=i) r (w.setCell ⟨b,i+k,none⟩ v) (cs.set (i+k) v) (k+1) l (by simpa using c) (by simp;omega) (λu t=>d u (fG _ t));refine⟨w',?_,?_⟩
  ·simp only[storeCells,fg,ih,q,fp];exact p
  ·have:=f.trans s;have g:(cs.set (i+k) v).take (i+(k+1))++r++(cs.set (i+k) v).drop (i+(k+1)+r.length)=cs.take (i+k)++v::r++cs.drop (i+k+(v::r).length):=by
    have h:(cs.set (i+k) v).take (i+(k+1))=cs.take (i+k)++[v]:=by
     rw[show i+(k+1)=(i+k)+1 from by omega,EZ (by simp;omega)];simp only[List.getElem_set_self,List.take_set];rw[List.set_eq_of_length_le (by simp;omega)]
    have j:(cs.set (i+k) v).drop (i+(k+1)+r.length)=cs.drop (i+k+(v::r).length):=by
     rw[List.drop_set_of_lt (by omega)];simp only[eF];congr 1;omega
    rw[h,j];simp
   rw[g]at this;exact this
section obj
variable {g:Gh} {h:Z}
theorem ph (hi:Inv g h) {w':World} {U V cap:Nat} {rows:List (List D)} {cs:Array Value} {fr:Nat × Nat} (I:w'.heap=g.w.heap.push (.cells cs U fr)) (aj:w'.os=g.w.os) (an:w'.tape=g.w.tape) (ai:w'.output=g.w.output)
  (ag:Fr fr cs.size V) (ak:0<V) (ah:rows.length≤cap) (al:cap*V≤cs.size) (am:∀r∈rows,r.length=V)
  (ae:∀(i:Nat) (row:List D),rows[i]?=some row→∀(j:Nat) (d:D),row[j]?=some d→∃v,cs[i*V+j]?=some v∧v.oneCell'=true∧aB g v d) :
  ∃g':Gh,g'.w=w'∧aT g g'∧Inv g' (aL h U V rows)∧g'.ms[h.length]?=some ⟨g.w.heap.size,V,rows.length,cap⟩:=by
 let g':Gh:=⟨w',g.ms++[⟨g.w.heap.size,V,rows.length,cap⟩],λf=>g.L f∨f=g.w.heap.size⟩
 have N:∀f,f<g.w.heap.size→w'.heap[f]?=g.w.heap[f]?:=λf e=>by rw[I,yF e,ln e]
 have au:w'.heap.size=g.w.heap.size+1:=by rw[I];simp
 have y:aT g g':=⟨⟨aj,an,ai,by show g.w.heap.size≤w'.heap.size;omega,(λa b c=>by
   show(g.ms++_)[a]?=some b;rw [dY (aZ.1 c).1];exact c),λf e=>⟨⟨by show f<w'.heap.size;have:=e.1;omega,λz=>by
    rcases z with z|z
    ·exact e.2 z
    ·have:=e.1;omega⟩,N f e.1⟩⟩,λf e=>⟨⟨by show f<w'.heap.size;have:=e.1;omega,.inl e.2.1,λa b c=>by
     have p:(g.ms++[(⟨g.w.heap.size,V,rows.length,cap⟩:Me)])[a]?=some b:=c;rcases e9 a g.ms.length with l|H
     ·rw[dY l]at p;exact e.2.2 a b p
     ·rw[iC H]at p;have:=eB p;simp at this;subst this;have:=e.1;show g.w.heap.size≠f;omega⟩,N f e.1⟩⟩
 have C:∀a b,g'.ms[a]?=some b→a<h.length→g.ms[a]?=some b:=λa b c l=>by
  have:(g.ms++[(⟨g.w.heap.size,V,rows.length,cap⟩:Me)])[a]?=some b:=c
  rwa [dY (by rw[hi.len];exact l)]at this
 have B:g'.ms[h.length]?=some ⟨g.w.heap.size,V,rows.length,cap⟩:=by
  show(g.ms++_)[h.length]?=_;rw[← hi.len];simp
 have A:∀(a:Nat) (E:Ob),(aL h U V rows)[a]?=some E→(a<h.length∧h[a]?=some E)∨(a=h.length∧E = .row U V rows):=λa E s=>by
  unfold aL at s;rcases ka a h.length with l|heq|ar
  ·rw[dY l]at s;exact .inl ⟨l,s⟩
  ·subst heq;simp at s;exact .inr ⟨rfl,s.symm⟩
  ·exfalso;have:=(aZ.1 s).1;simp at this;omega
 refine⟨g',rfl,y,⟨?_,λa ab aq ap M=>?_,λa t Q X R aa r1 T b P x m n o q=>?_,λf e=>?_,λa b c=>?_⟩,B⟩
 ·show(g.ms++_).length=(h++_).length;simp[hi.len]
 ·rcases A a _ M with⟨l,M⟩|⟨rfl,heq⟩
  ·obtain⟨b,F,c,k⟩:=hi.live a ab aq ap M;refine⟨b,F,y.ms a b c,?_,k.fR,k.pos,.inl k.hL,k.len,k.le,k.room,k.row,λi row m j d n=>?_⟩
   ·have:=N b.b (hi.jS k.hL);show ∃fr,w'.heap[b.b]?=_∧_;rw[this];exact k.fy
   ·obtain⟨v,o,q,G⟩:=k.cell i row m j d n;exact⟨v,o,q,G.ext y⟩
  ·injection heq with u ac ad;subst u;subst ac;subst ad;refine⟨_,cs,B,⟨fr,?_,ag⟩,rfl,ak,.inr rfl,rfl,ah,al,am,λi row m j d n=>?_⟩
   ·show w'.heap[g.w.heap.size]?=_;rw[I];simp
   ·obtain⟨v,o,q,G⟩:=ae i row m j d n;exact⟨v,o,q,G.ext y⟩
 ·rcases A a _ x with⟨l,x⟩|⟨rfl,heq⟩
  ·rcases A t _ m with⟨K,m⟩|⟨rfl,af⟩
   ·exact hi.inj a t Q X R aa r1 T b P x m (C a b n l) (C t P o K) q
   ·exfalso;obtain⟨ao,F,c,k⟩:=hi.live a Q X r1 x;have u:=C a b n l;rw[u]at c;injection c with c;subst c;rw[B]at o;injection o with o;subst o;have:=hi.jS k.hL;rw[q]at this;simp at this
  ·rcases A t _ m with⟨K,m⟩|⟨rfl,af⟩
   ·exfalso;obtain⟨ao,F,c,k⟩:=hi.live t R aa T m;have u:=C t P o K;rw[u]at c;injection c with c;subst c;rw[B]at n;injection n with n;subst n;have:=hi.jS k.hL;rw[← q]at this;simp at this
   ·rfl
 ·show f<w'.heap.size;rcases e with e|e
  ·have:=hi.L f e;omega
  ·omega
 ·show b.b<w'.heap.size;have p:(g.ms++[(⟨g.w.heap.size,V,rows.length,cap⟩:Me)])[a]?=some b:=c;rcases e9 a g.ms.length with l|H
  ·rw[dY l]at p;have:=hi.msb a b p;omega
  ·rw[iC H]at p;have:=eB p;simp at this;subst this;show g.w.heap.size<w'.heap.size;omega
theorem Eg(hi:Inv g h){w':World}{o U V:Nat}{rows rows':List (List D)}{m:Me}{cs u:Array Value}{fr:Nat × Nat}(M:h[o]?=some (.row U V rows))(I:g.ms[o]?=some m)(s:Live g m U V rows cs)
  (c:jC g.w w' m.b (.cells u U fr)) (ag:Fr fr u.size V) (ak:u.size=cs.size) (ah:rows'.length=rows.length) (aj:∀r∈rows',r.length=V)
  (af:∀(i:Nat) (row:List D),rows'[i]?=some row→∀(j:Nat) (d:D),row[j]?=some d→∃v,u[i*V+j]?=some v∧v.oneCell'=true∧aB g v d) :
  ∃g':Gh,g'.w=w'∧aT g g'∧Inv g' (h.set o (.row U V rows'))∧g'.ms=g.ms:=by
 let g':Gh:=⟨w',g.ms,g.L⟩
 have G:aT g g':=⟨⟨c.os,c.tape,c.output,by show g.w.heap.size≤w'.heap.size;rw[c.size];exact aS _,λ_ _ k=>k,λf e=>by
  have K:f≠m.b:=λk=>e.2 (k▸s.hL)
  exact⟨⟨by show f<w'.heap.size;rw[c.size];exact e.1,e.2⟩,c.other f K⟩⟩,λf e=>⟨⟨by show f<w'.heap.size;rw[c.size];exact e.1,e.2.1,e.2.2⟩,c.other f λk=>e.2.2 o m I k.symm⟩⟩
 have R:∀(a:Nat) (A:Ob),(h.set o (.row U V rows'))[a]?=some A→(a=o∧A = .row U V rows')∨(a≠o∧h[a]?=some A):=λa A b=>by
  by_cases N:a=o
  ·subst N;have ai:=(aZ.1 M).1;rw[jR ai]at b;injection b with b;exact .inl ⟨rfl,b.symm⟩
  ·rw[iD (λk=>N k.symm)]at b;exact .inr ⟨N,b⟩
 have T:∀(a:Nat) (n p:Nat) (r1:List (List D)),(h.set o (.row U V rows'))[a]?=some (.row n p r1)→∃P,h[a]?=some (.row n p P):=λa n p r1 b=>by
  rcases R a _ b with⟨rfl,H⟩|⟨_,b⟩
  ·injection H with B C Q;subst B;subst C;exact⟨rows,M⟩
  ·exact⟨r1,b⟩
 refine⟨g',rfl,G,⟨by show g.ms.length=_;simp[hi.len],λa n p r1 b=>?_,λa ab n p ac an r1 ao t al E q x y z=>?_,λf e=>?_,λa aa b=>by show aa.b<w'.heap.size;rw[c.size];exact hi.msb a aa b⟩,rfl⟩
 ·rcases R a _ b with⟨rfl,H⟩|⟨K,b⟩
  ·injection H with B C Q;subst B;subst C;subst Q;refine⟨m,u,I,⟨fr,c.fy,ag⟩,s.fR,s.pos,s.hL,by rw[ah];exact s.len,s.le,by rw[ak];exact s.room,aj,λi row q j d x=>?_⟩;obtain⟨v,y,z,F⟩:=af i row q j d x;exact⟨v,y,z,F.ext G⟩
  ·obtain⟨t,ad,X,l⟩:=hi.live a n p r1 b;have ae:t.b≠m.b:=λk=>K (hi.inj a o n p U V r1 rows t m b M X I k)
   refine⟨t,ad,X,?_,l.fR,l.pos,l.hL,l.len,l.le,l.room,l.row,λi row q j d x=>?_⟩
   ·have:=c.other t.b ae;show ∃fr,w'.heap[t.b]?=_∧_;rw[this];exact l.fy
   ·obtain⟨v,y,z,F⟩:=l.cell i row q j d x;exact⟨v,y,z,F.ext G⟩
 ·obtain⟨P,E⟩:=T a _ _ _ E;obtain⟨am,q⟩:=T ab _ _ _ q;exact hi.inj a ab n p ac an P am t al E q x y z
 ·show f<w'.heap.size;rw[c.size];exact hi.L f e
theorem Cu(hi:Inv g h){o U V:Nat}{rows:List (List D)}{m:Me}(u:h[o]?=some (.row U V rows))(t:g.ms[o]?=some m):
  ∃g':Gh,g'.w=g.w∧aT g g'∧Inv g' (h.set o .dead)∧g'.ms=g.ms∧g'.fz m.b∧(∀b,g'.L b→g.L b):=by
 let g':Gh:=⟨g.w,g.ms,λb=>g.L b∧b≠m.b⟩
 obtain⟨ab,aa,l,H⟩:=hi.live o U V rows u;rw[t]at l;injection l with l;subst l;have x:aT g g':=⟨⟨rfl,rfl,rfl,aS _,λ_ _ d=>d,λb c=>⟨⟨c.1,λd=>c.2 d.1⟩,rfl⟩⟩,λb c=>⟨⟨c.1,⟨c.2.1,λd=>c.2.2 o m t d.symm⟩,c.2.2⟩,rfl⟩⟩
 have s:∀(a i j:Nat) (r1:List (List D)),(h.set o .dead)[a]?=some (.row i j r1)→a≠o∧h[a]?=some (.row i j r1):=λa i j r1 e=>by
  by_cases v:a=o
  ·subst v;have I:=(aZ.1 u).1;rw[jR I]at e;injection e with e;cases e
  ·rw[iD (λd=>v d.symm)]at e;exact⟨v,e⟩
 refine⟨g',rfl,x,⟨by show g.ms.length=_;simp[hi.len],λa i j r1 e=>?_,λa z i j A T r1 Q k P E n p q r=>?_,λb c=>?_,hi.msb⟩,rfl,⟨hi.jS H.hL,λd=>d.2 rfl⟩,λb c=>c.1⟩
 ·obtain⟨K,e⟩:=s a _ _ _ e;obtain⟨k,B,y,f⟩:=hi.live a i j r1 e;have G:k.b≠m.b:=λd=>K (hi.inj a o i j U V r1 rows k m e u y t d)
  exact⟨k,B,y,f.fy,f.fR,f.pos,⟨f.hL,G⟩,f.len,f.le,f.room,f.row,λM R n N C p=>by
   obtain⟨X,q,r,F⟩:=f.cell M R n N C p;exact⟨X,q,r,F.ext x⟩⟩
 ·exact hi.inj a z i j A T r1 Q k P (s a _ _ _ E).2 (s z _ _ _ n).2 p q r
 ·exact hi.L b c.1
end obj
end Go.Pi
namespace Go.Eng
abbrev kJ:=@List.flatten_append
abbrev mY:=@List.getElem?_eq_none
abbrev pQ:=@List.drop_of_length_le
abbrev uL:=@List.replicate_succ
abbrev z1:=@List.append_assoc
abbrev z8:=@List.ext_getElem?
abbrev Aa:=@List.getElem?_append
abbrev Ab:=@List.getElem?_toArray
abbrev Ac:=@List.mem_flatten
abbrev Ad:=@List.mem_or_eq_of_mem_set
abbrev Ae:=@List.mem_replicate
end Go.Eng
namespace Go.Pi
open Go.Eng
theorem qq{V:Nat}:∀(rows:List (List D)) (n:Nat),(∀r∈rows,r.length=V)→(rows.take n).flatten=rows.flatten.take (n*V)
 |[],n,_=>by simp
 |r::rows,0,_=>by simp
 | r::rows,n+1,h=>by
  have a:=h r (gO ..);have c:=qq rows n λr a=>h r (fG _ a)
  have b:(n+1)*V=V+n*V:=by rw[eK];omega
  rw[uM,jv,jv,c,b,rW,gW (l:=r) (by omega),a];congr 2;omega
theorem sr{V:Nat}:∀(rows:List (List D)) (n:Nat),(∀r∈rows,r.length=V)→(rows.drop n).flatten=rows.flatten.drop (n*V)
 |[],n,_=>by simp
 |r::rows,0,_=>by simp
 | r::rows,n+1,h=>by
  have a:=h r (gO ..);have c:=sr rows n λr a=>h r (fG _ a)
  have b:(n+1)*V=V+n*V:=by rw[eK];omega
  rw[hV,jv,c,b,rS,pQ (l:=r) (by omega),a];simp
theorem JI{V:Nat}{rows:List (List D)}{k off:Nat}{row ds:List D}(c:∀r∈rows,r.length=V)(b:rows[k]?=some row)(j:off+ds.length≤V):(rows.set k (dK row off ds)).flatten=dK rows.flatten (k*V+off) ds:=by
 have f:=(aZ.1 b).1;have h:=(aZ.1 b).2;have m:row.length=V:=c row (eB b);have i:rows.flatten=(rows.take k).flatten++row++(rows.drop (k+1)).flatten:=by
  have:rows=rows.take k++row::rows.drop (k+1):=by
   rw[← h];simp
  conv=>lhs;rw[this]
  simp
 have d:(rows.take k).flatten.length=k*V:=by
  rw[jJ _ λr g=>c r (gV g),oi,uO (by omega)]
 rw[List.set_eq_take_append_cons_drop,bE f,kJ,jv,i];unfold dK;generalize (rows.take k).flatten=a at d;generalize (rows.drop (k+1)).flatten=e;rw[z1 a row e,rW,rS,d];rw[gW (l:=a) (by omega),pQ (l:=a) (by omega)];rw[show k*V+off - k*V=off from by omega,show k*V+off+ds.length - k*V=off+ds.length from by omega];rw[rW,rS];rw[show off - row.length=0 from by omega,show off+ds.length - row.length=0 from by omega];simp
section wr
variable {P:Program} {T:bD} {g:Gh} {h:Z}
theorem l7{vs:List Value}{rows:List (List D)}{V:Nat}{cs:Array Value}(c:aW g vs rows.flatten)(e:∀v∈vs,v.oneCell'=true)(l:∀r∈rows,r.length=V)(k:∀(j:Nat) (v:Value),vs[j]?=some v→cs[j]?=some v):
  ∀(i:Nat) (row:List D),rows[i]?=some row→∀(j:Nat) (d:D),row[j]?=some d→∃v,cs[i*V+j]?=some v∧v.oneCell'=true∧aB g v d:=λi row h j d f=>by
 have b:=vr rows i j row d l h f;have m:=c.length;have n:=(aZ.1 b).1;have a:vs[i*V+j]?=some (vs[i*V+j]'(by omega)):=cA (by omega);exact⟨_,k _ _ a,e _ (eB a),c.get _ _ d a b⟩
theorem Live.flat{m:Me}{U V:Nat}{rows:List (List D)}{cs:Array Value}(d:Live g m U V rows cs):∃vs,aW g vs rows.flatten∧(∀v∈vs,v.oneCell'=true)∧(∀(j:Nat) (v:Value),vs[j]?=some v→cs[j]?=some v):=by
 obtain⟨l,e,_⟩:=d.fy;have f:∀a,g.w.cell? ⟨m.b,a,none⟩=cs[a]?:=λa=>by simp only[World.cell?,e];simp
 obtain⟨vs,c⟩:=At.rows (g:=g) (b:=m.b) rows 0 d.row (λa row i=>by
  obtain⟨vs,h⟩:=d.at i;exact⟨vs,by rwa [cT]⟩)
 exact⟨vs,c.2.2,c.2.1,λj v k=>by
  have:=c.1 j v k
  rwa [cT,f]at this⟩
theorem tG(hi:Inv g h){w':World}{o U V:Nat}{rows rows':List (List D)}{m:Me}{cs:Array Value}{fr:Nat × Nat}(C:h[o]?=some (.row U V rows))(B:g.ms[o]?=some m)(d:Live g m U V rows cs)(z:Fr fr cs.size V)
  {p:Nat} {vs:List Value} {ds:List D} (q:aW g vs ds) (i:∀v∈vs,v.oneCell'=true) (P:p+ds.length≤rows.flatten.length) (y:rows'.flatten=dK rows.flatten p ds) (A:rows'.length=rows.length) (s:∀r∈rows',r.length=V)
  (E:jC g.w w' m.b (.cells (cs.toList.take p++vs++cs.toList.drop (p+vs.length)).toArray U fr)) :
  ∃g':Gh,g'.w=w'∧aT g g'∧Inv g' (h.set o (.row U V rows'))∧g'.ms=g.ms:=by
 obtain⟨G,k,l,n⟩:=d.flat;have N:=k.length;have Q:=q.length;have M:rows.flatten.length≤cs.size:=by
  have i:=jJ rows d.row;have H:=d.room;have I:=d.len;have K:=d.le;have L:rows.length*V≤m.cap*V:=iV _ (by omega);omega
 have t:(cs.toList.take p++vs++cs.toList.drop (p+vs.length)).toArray.size=cs.size:=by
  simp;omega
 refine Eg hi C B d E (by rw[t];exact z) t A s ?_;have j:=Ek k q p;rw[← y]at j;refine l7 j (λv c=>?_) s λF v a=>?_
 ·simp only[eA]at c;rcases c with(c|c)|c
  ·exact l v (gV c)
  ·exact i v c
  ·exact l v (j8 c)
 ·simp only[z1]at a ⊢;rw[Aa]at a;rw[Ab,Aa];have u:(G.take p).length=p:=by simp;omega
  have x:(cs.toList.take p).length=p:=by simp;omega
  rw[u]at a;rw[x];split at a
  ·rename_i e;rw[bE e];rw[eY,bE e]at a ⊢;have:=n F v a;simpa using this
  ·rename_i e;rw[bV e];rw[Aa]at a ⊢;split at a
   ·rename_i f;rw[bE f];exact a
   ·rename_i f;rw[bV f];rw[jw]at a ⊢;have:=n _ v a;simpa using this
def kF(P:Program)(ρ:Operand→Value)(o:Oper)(g:Gh)(h':Z)(d:D):Prop:=∃b e a,(execOp ρ o).run P g.w = .ok b e∧a.w=e∧aT g a∧Inv a h'∧((∃c,b = .value c∧aB a c d)∨(b = .skip∧d = .bG))
variable {ρ:Operand→Value} {dst:Option Tmp} {ty:TypeId} {pos:String} {af:Array Edge} {gd:Option (Nat × Bool)}
theorem G5 (H:cC P T) (hi:Inv g h) {t:TypeId} {x y:Operand} {p f:D} {h':Z} (B:aB g (ρ x) p) (ae:aB g (ρ y) f) (a:bZ T h t p f=some h'):kF P ρ ⟨dst,.store t x y,ty,pos,af,gd⟩ g h' .bG:=by
 unfold bZ at a;split at a
 ·rename_i i E k off aa;split at a
  ·rename_i n d e u;split at a
   ·rename_i ah m;split at a
    ·rename_i q;injection a with a;subst a;simp only[dU]at q;obtain⟨⟨gm,fu⟩,iX⟩:=q;have gm:=gF gm;have fu:=dL fu;obtain⟨F,ac,A,z⟩:=ae.cells iX;have ar:=A.length;generalize ab:ρ x=av at B;cases B with
     | ptr E k off C s =>
      obtain⟨au,o,j,c⟩:=hi.live E n d e u;rw[s]at j;injection j with j;subst j;obtain⟨fr,I,r⟩:=c.fy;have ap:=c.row ah (eB m);have M:=JI c.row m (off:=off) (ds:=cG f) (by omega);have an:=(aZ.1 m).1;have L:=jJ e c.row;have U:k*d+off+(cG f).length≤e.flatten.length:=by
       rw[L];have:(k+1)*d≤e.length*d:=iV _ (by omega);rw[eK]at this;omega
      have aq:e.flatten.length≤o.size:=by
       have aj:=c.room;have ak:=c.len;have al:=c.le;have am:e.length*d≤C.cap*d:=iV _ (by omega);omega
      obtain⟨ai,X,v⟩:=nR (P:=P) (i:=k*d+off) F g.w o.toList 0 (T:=n) (fr:=fr) (b:=C.b) (by simpa using I) (by simpa using r.rA) (by simp;omega) z;simp only[ni]at v;obtain⟨G,ad,K,N,ao⟩:=tG hi u s c r A z U M (by simp) (λag l=>by
       rcases Ad l with l|rfl
       ·exact c.row ag l
       ·simp[dK];omega) v
      refine⟨.skip,ai,G,?_,ad,K,N,.inr ⟨rfl,rfl⟩⟩;have Q:F.length=i.V:=by omega
      have R:=c.fR;subst R;simp[execOp,Instr.storeAt,Instr.sureAddr,storeVar,ab,ac,H.size aa,Q,X]
    ·cases a
   ·cases a
  ·cases a
 ·cases a
theorem GH(c:cC P T)(hi:Inv g h){e:TypeId}{i:TI}(f:T e=some i)(o:0<i.V):kF P ρ ⟨dst,.alloc e,ty,pos,af,gd⟩ g (aL h e i.V [i.zero]) (.ptr h.length 0 0):=by
 obtain⟨a,q,r,s,k⟩:=c.mO f;have d:=nQ g a.cells.toList;rw[← r]at d;have j:=c.EI f;obtain⟨b,p,l,m,n⟩:=ph hi (w':=g.w.alloc (.cells a.cells e)) (U:=e) (V:=i.V) (cap:=1) (rows:=[i.zero]) (cs:=a.cells) (fr:=(0,0)) rfl rfl rfl rfl (.inl rfl) o (by simp) (by omega) (by simpa using j)
  (l7 (vs:=a.cells.toList) (by simpa using d) k (by simpa using j) (by simp))
 refine⟨_,_,b,by simp only[execOp,Instr.alloc,fg,q g.w,fp,newVar,newRow,px,gZ];rfl,p,l,m,.inl ⟨_,rfl,?_⟩⟩;have:=aB.ptr (g:=b) h.length 0 0 _ n;simpa using this
theorem GK(q:cC P T)(hi:Inv g h){e:TypeId}{x:Operand}{a:D}{V:Nat}(p:aB g (ρ x) a)(k:a.fk=true)(c:(cG a).length=V)(m:0<V):kF P ρ ⟨dst,.box e x,ty,pos,af,gd⟩ g (aL h e V [cG a]) (.ptr h.length 0 0):=by
 obtain⟨vs,n,d,f⟩:=p.cells k;have r:=d.length;obtain⟨b,o,i,j,l⟩:=ph hi (w':=g.w.alloc (.cells vs.toArray e)) (U:=e) (V:=V) (cap:=1) (rows:=[cG a]) (cs:=vs.toArray) (fr:=(0,0)) rfl rfl rfl rfl (.inl rfl) m (by simp) (by simp;omega) (by simpa using c)
  (l7 (vs:=vs) (by simpa using d) f (by simpa using c) (by simp))
 refine⟨_,_,b,by simp only[execOp,Instr.box,fg,newVar,newRow,px,fp,gZ,n];rfl,o,i,j,.inl ⟨_,rfl,?_⟩⟩;have:=aB.ptr (g:=b) h.length 0 0 _ l;simpa using this
theorem GX(f:cC P T)(hi:Inv g h){t n:Nat}{ps:Array (Nat × Operand)}{ds:List D}{E V:Nat}{rows:List (List D)}(o:aW g (ps.toList.map λx=>ρ x.2) ds)(i:lB T t n (ps.toList.map (·.1)) ds=some (E,V,rows)):
  kF P ρ ⟨dst,.buildSlice t n ps,ty,pos,af,gd⟩ g (aL h E V rows) (.S V h.length 0 rows.length):=by
 obtain⟨vs,p,d,e,m,a,c,u⟩:=D2 (dst:=dst) (ty:=ty) (pos:=pos) (af:=af) (gd:=gd) f o i;have v:=d.length;have r:=jJ rows a;obtain⟨b,q,j,k,l⟩:=ph hi (w':=g.w.alloc (.cells vs.toArray E)) (U:=E) (V:=V) (cap:=rows.length) (rows:=rows) (cs:=vs.toArray) (fr:=(0,0)) rfl rfl rfl rfl (.inl rfl) c (aS _) (by simp;omega) a
  (l7 (vs:=vs) d e a (by simp))
 have s:n≤n*V:=Nat.le_mul_of_pos_right n c;refine⟨_,_,b,p,q,j,k,.inl ⟨_,rfl,?_⟩⟩;have:=aB.S (g:=b) h.length 0 rows.length rows.length _ l (by simp) (by simp) (by simp) (by omega);rw[m]at this ⊢;simpa using this
theorem DQ{z:List Value}{V:Nat}(f:z.length=V)(n:Nat):((Array.range (n*V)).map (z.toArray[· % z.toArray.size]!)).toList=(List.replicate n z).flatten:=by
 apply z8;intro a;rcases e9 a (n*V)with d|d
 ·have m:0<V:=by
    rcases rY V with h|h
    ·subst h;simp at d
    ·exact h
  have k:a % V<V:=Nat.mod_lt _ m;have g:a / V<n:=Nat.div_lt_of_lt_mul (by rw[Nat.mul_comm];exact d);have l:a=a / V*V+a % V:=by rw[Nat.mul_comm];exact(Nat.div_add_mod a V).symm
  have p:∀(n b c:Nat),b<n→c<V→((List.replicate n z).flatten)[b*V+c]?=z[c]?:=by
   intro n
   induction n with
   |zero=>intro b c j;omega
   | succ n o =>
    intro b c j i;rw[uL,jv];cases b with
    |zero=>rw[nj,cT,dY (by omega)]
    | succ b =>
     rw[iC (by rw[eK];omega),← o b c (by omega) i];congr 1;rw[eK];omega
  have e:=p n (a / V) (a % V) g k;rw[← l]at e;rw[e];simp[d,f,cA (show a % V<z.length by omega)]
 ·rw[mY (by simp;omega),mY];simp[f];omega
theorem EG{z:List Value}{V:Nat}(a:z.length=V)(n:Nat):(Builtin.zeroCells z.toArray n).toList=(List.replicate n z).flatten:=by
 rw[← DQ a n];simp[Builtin.zeroCells,a]
theorem ri{z:List Value}{ds:List D}(a:aW g z ds):∀n,aW g (List.replicate n z).flatten (List.replicate n ds).flatten
 |0=>by simpa using aW.nil
 | n+1=>by
  rw[uL,uL,jv,jv];exact a.append (ri a n)
theorem GY (s:cC P T) (hi:Inv g h) {t:TypeId} {x y:Operand} {p q d:D} {h':Z} (z:aB g (ρ x) p) (A:aB g (ρ y) q) (f:qj T h t p q=some (d,h')):kF P ρ ⟨dst,.makeSlice t x y,ty,pos,af,gd⟩ g h' d:=by
 unfold qj at f;split at f
 ·rename_i au e b ad;have ah:ρ x = .int .i64 e:=by generalize i:ρ x=l at z;cases z;rfl
  have ai:ρ y = .int .i64 b:=by generalize i:ρ y=l at A;cases A;rfl
  split at f
  ·rename_i m ae;split at f
   ·rename_i o j;split at f
    ·rename_i I;obtain⟨G,ac,n,u⟩:=I;injection f with f;injection f with L M;subst L;subst M;simp only[lim,dU]at n;have X:=dL n.1;have ao:=dL n.2;obtain⟨c,ax,a,aj,aw,ak,rfl,al,am,_⟩:=s.get j;obtain⟨B⟩:∃B,B=a.cells.toList:=⟨_,rfl⟩
     have v:=nQ g a.cells.toList;have k:a.cells.toList.length=c.size:=by simpa using al
     have aq:IntKind.i64.wrap e=e:=rC (by omega) (by omega);have ar:IntKind.i64.wrap b=b:=rC (by omega) (by omega);have K:=DQ k b.toNat;simp only at u X;have ap:=ri v b.toNat;have aa:((Array.range (b.toNat*c.size)).map (a.cells[· % a.cells.size]!)).size=b.toNat*c.size:=by simp
     have an:(List.replicate e.toNat (a.cells.toList.map ku)).flatten.length=e.toNat*c.size:=by simp[k]
     obtain⟨r,ag,N,Q,ab⟩:=ph hi (w':=g.w.alloc (.cells ((Array.range (b.toNat*c.size)).map (a.cells[· % a.cells.size]!)) m)) (U:=m) (V:=c.size) (cap:=b.toNat) (rows:=List.replicate e.toNat (a.cells.toList.map ku)) (cs:=(Array.range (b.toNat*c.size)).map (a.cells[· % a.cells.size]!)) (fr:=(0,0)) rfl rfl rfl rfl (.inl rfl) u (by simp;omega) (by rw[aa];exact aS _) (by simp[k])
      (l7 (vs:=(List.replicate e.toNat a.cells.toList).flatten) (ri v e.toNat) (λl i=>by
       obtain⟨av,R,i⟩:=Ac.1 i;have:=(Ae.1 R).2;subst this;exact am l i) (by simp[k]) (λo l j=>by
       have C:((Array.range (b.toNat*c.size)).map (a.cells[· % a.cells.size]!))[o]?=(((Array.range (b.toNat*c.size)).map (a.cells[· % a.cells.size]!)).toList)[o]?:=(Array.getElem?_toList ..).symm;rw[C];have E:((Array.range (b.toNat*c.size)).map (a.cells[· % a.cells.size]!)).toList=(List.replicate b.toNat a.cells.toList).flatten:=by
        have:=K;simpa using this
       rw[E];have F:List.replicate b.toNat a.cells.toList=List.replicate e.toNat a.cells.toList++List.replicate (b.toNat - e.toNat) a.cells.toList:=by
        rw[List.replicate_append_replicate];congr 1;omega
       rw[F,kJ,dY (aZ.1 j).1];exact j))
     refine⟨.value (.slice (some ⟨g.w.heap.size,0,none⟩) e.toNat b.toNat),_,r,?_,ag,N,Q,.inl ⟨_,rfl,?_⟩⟩
     ·have H:(c.bytes:Int)*b≤281474976710656:=by
        have:(c.bytes:Int)*b=((b.toNat*c.bytes:Nat):Int):=by
         rw[Nat.mul_comm]
         push_cast
         congr 1;omega
        rw[this];omega
      have:=run_make (P:=P) g.w t m c a (s.sl ad ae) aj ak .i64 .i64 e b G ac H (by omega);simp only[execOp,ah,ai,fg,this,fp,gZ];rfl
     ·have:=aB.S (g:=r) h.length 0 e.toNat b.toNat _ ab (by simp) (by simp;omega) (by simp) (by omega);simpa using this
    ·cases f
   ·cases f
  ·cases f
 ·cases f
end wr
end Go.Pi
namespace Go.Eng
abbrev rV:=@List.map_take
abbrev yD:=@Array.append_assoc
abbrev D0:=@run_firstCells_some
end Go.Eng
namespace Go.Pi
open Go.Eng
section ap
variable {P:Program} {T:bD} {g:Gh} {h:Z}
structure r8 (P:Program) (u e V:Nat) (y:Value) (w:World) (m:Nat) (news:List Value):Prop where
 len:news.length=m*V
 nz:∃d,P.underlying u=some d∧((d = .string∨(∃e',d = .slice e'))∧(∀w1,(Builtin.lenOf y).run P w1 = .ok m w1)∧(∀(k:Nat) (w1:World),k≤m→w1.heap=w.heap→(Builtin.firstCells V k y).run P w1 = .ok (news.take (k*V)).toArray w1)
  ∨ (∃k,d = .int k)∧y = .int .i64 (m:Int)∧(∃inf z,P.info? e=some inf∧inf.zero=some z∧m*inf.bytes≤281474976710656∧(m:Int)≤9223372036854775807∧(m*V≠0→Builtin.zeroCells z.cells m=news.toArray)))
theorem x7{r e V m n cap:Nat}{t ty:TypeId}{y:Value}{w:World}{l:List Value}{ad:Addr}{a:TypeInfo}(i:P.underlying t=some (.slice e))(hi:P.info? e=some a)(x:a.size=V)(g:r8 P r e V y w m l)(h:n+m≤cap):
  (Builtin.append_ #[t,r] ty #[.slice (some ad) n cap,y]).run P w=((storeCells (ad.add (n*V)) l).run P w).andThen λ_ w' =>.ok (.slice (some ad) (n+m) cap) w':=by
 subst x;obtain⟨A,j,u⟩:=g.nz;rcases u with⟨f,s,c⟩|⟨⟨G,f⟩,rfl,F,H,d,z,D,C,k⟩
 ·have c:=c _ w (aS _) rfl;rw[gW (by rw[g.len];exact aS _)]at c;rcases f with rfl|⟨B,rfl⟩<;>simp[Builtin.append_,cQ i,cQ j,sizeOf,typeInfo,hi,s,h,c]
 ·subst f;rw[hi]at d;injection d with d;subst d;have q:IntKind.i64.wrap (m:Int)=m:=rC (by omega) (by omega);have E:¬((m:Int)*(a.bytes:Int)>2 ^ 48):=by
   have:(m:Int)*(a.bytes:Int)=((m*a.bytes:Nat):Int):=by push_cast;rfl
   rw[this];omega
  have o:¬(281474976710656<(m:Int)*(a.bytes:Int)):=by omega
  have p:¬((m:Int)<0):=by omega
  by_cases b:m*a.size=0
  ·have v:l=[]:=gE (by rw[g.len];exact b);subst v;simp[Builtin.append_,cQ i,cQ j,sizeOf,typeInfo,hi,asInt,asIntOf,q,p,o,h,b,storeCells]
  ·have k:=k b;simp[Builtin.append_,cQ i,cQ j,sizeOf,typeInfo,hi,asInt,asIntOf,q,p,o,h,b,zeroValue,z,k]
theorem x6{E e V m n cap:Nat}{t ty:TypeId}{y:Value}{w:World}{olds v:List Value}{a:Option Addr}{b:TypeInfo}{z:Value}(r:P.underlying t=some (.slice e))(hi:P.info? e=some b)(h:b.zero=some z)(N:b.size=V)(o:r8 P E e V y w m v)(M:cap<n+m)
  (K:∀x:World,x.heap=w.heap→(Builtin.firstCells V n (.slice a n cap)).run P x = .ok olds.toArray x) (T:n+m≤9223372036854775807) (G:(n+m)*b.bytes≤140737488355328) :
  ∃c,n+m≤c∧c≤9223372036854775807∧(Builtin.append_ #[t,E] ty #[.slice a n cap,y]).run P w = .ok (.slice (some ⟨w.heap.size,0,none⟩) (n+m) c) (w.drew.alloc (.cells (olds.toArray++v.toArray++Builtin.zeroCells z.cells (c - (n+m))) e)):=by
 subst N;obtain⟨Q,s,H⟩:=o.nz;have ab:=growslice_fits M G;have l:¬(281474976710656<Builtin.nextslicecap (n+m) cap*b.bytes):=by omega
 have j:¬(9223372036854775807<((n:Int)+(m:Int))):=by omega
 have q:¬(n+m≤cap):=by omega
 have B:n+m≤grownCap w (n+m) cap e∧grownCap w (n+m) cap e≤9223372036854775807:=by
  show n+m≤(n+m)+w.tape w.drawn (.appendCap (n+m) cap e) % (2 ^ 63 - (n+m))∧(n+m)+w.tape w.drawn (.appendCap (n+m) cap e) % (2 ^ 63 - (n+m))≤9223372036854775807;have L:0<2 ^ 63 - (n+m):=by omega
  have:=Nat.mod_lt (w.tape w.drawn (.appendCap (n+m) cap e)) L;generalize w.tape w.drawn (.appendCap (n+m) cap e) % (2 ^ 63 - (n+m))=ae at this;omega
 refine⟨grownCap w (n+m) cap e,B.1,B.2,?_⟩;have p:=K w.drew rfl;rcases H with⟨k,F,f⟩|⟨⟨ad,k⟩,rfl,ac,af,g,i,aa,X,u⟩
 ·have f:=f _ w.drew (aS _) rfl;rw[gW (by rw[o.len];exact aS _)]at f;rcases k with rfl|⟨R,rfl⟩<;>simp[Builtin.append_,cQ r,cQ s,sizeOf,typeInfo,zeroValue,hi,h,F,q,j,l,Question.forced,p,f,newRow,grownCap]<;>(rw[← yD];simp)
 ·subst k;rw[hi]at g;injection g with g;subst g;rw[h]at i;injection i with i;subst i;have D:IntKind.i64.wrap (m:Int)=m:=rC (by omega) (by omega);have A:¬(281474976710656<(m:Int)*(b.bytes:Int)):=by
   have:(m:Int)*(b.bytes:Int)=((m*b.bytes:Nat):Int):=by push_cast;rfl
   rw[this];omega
  have C:¬((m:Int)<0):=by omega
  by_cases d:m*b.size=0
  ·have I:v=[]:=gE (by rw[o.len];exact d);subst I;simp[Builtin.append_,cQ r,cQ s,sizeOf,typeInfo,zeroValue,hi,h,asInt,asIntOf,D,C,A,q,j,l,Question.forced,p,d,newRow,grownCap]
  ·have u:=u d;simp[Builtin.append_,cQ r,cQ s,sizeOf,typeInfo,zeroValue,hi,h,asInt,asIntOf,D,C,A,q,j,l,Question.forced,p,d,u,newRow,grownCap];rw[← yD];simp
theorem Ns{m e V n cap:Nat}{t ty:TypeId}{y:Value}{w:World}{h:List Value}{a:Option Addr}{l:TypeInfo}(g:P.underlying t=some (.slice e))(hi:P.info? e=some l)(i:l.size=V)(b:r8 P m e V y w 0 h)(f:n≤cap):
  (Builtin.append_ #[t,m] ty #[.slice a n cap,y]).run P w = .ok (.slice a n cap) w:=by
 cases a with
 | some s =>
  rw[x7 g hi i b f];have:h=[]:=gE (by rw[b.len];simp);subst this;simp[storeCells]
 | none =>
  subst i;have q:h=[]:=gE (by rw[b.len];simp);subst q;obtain⟨u,j,p⟩:=b.nz;rcases p with⟨d,o,c⟩|⟨⟨E,d⟩,rfl,D,F,A,B,z,x,C⟩
  ·have c:=c _ w (aS _) rfl;rw[gW (by rw[b.len];exact aS _)]at c;rcases d with rfl|⟨v,rfl⟩<;>simp[Builtin.append_,cQ g,cQ j,sizeOf,typeInfo,hi,o,f,c]
  ·subst d;have k:IntKind.i64.wrap (((0:Nat):Int))=0:=rC (by omega) (by omega);simp only[Int.natCast_zero]at k;have r:IntKind.i64.wrap 0=0:=by simpa using k
   simp[Builtin.append_,cQ g,cQ j,sizeOf,typeInfo,hi,asInt,asIntOf,r,f]
theorem AN(s:List UInt8):aW g (s.map λb=>Value.int .u8 b.toNat) (gB s).flatten:=by
 unfold gB
 induction s with
 |nil=>simpa using aW.nil
 |cons a d c=>simpa using aW.cons (.int .u8 a.toNat) c
theorem yk (q:cC P T) (hi:Inv g h) {X e:Nat} {R j:TI} (B:T X=some R) (af:T e=some j) {y:Value} {I:D} (C:aB g y I) {ys:List (List D)} (a:jW h R j I=some ys) (N:0<j.V) :
  ∃c,r8 P X e j.V y g.w ys.length c∧aW g c ys.flatten∧(∀v∈c,v.oneCell'=true)∧(∀r∈ys,r.length=j.V):=by
 unfold jW at a;split at a
 ·rename_i l;split at a
  ·rename_i o aq;split at a
   ·rename_i A;injection a with a;subst a;have E:y = .string ⟨o.toArray⟩:=by cases C;rfl
    subst E;refine⟨o.map λd=>Value.int .u8 d.toNat,⟨by simp[gB,A],.string,q.str B l,.inl ⟨.inl rfl,λp=>by simp[Builtin.lenOf,gB,nP],λb p M _=>?_⟩⟩,AN o,λv m=>?_,λr k=>?_⟩
    ·simp only[Builtin.firstCells];have:(ByteArray.mk o.toArray).extract 0 b=ByteArray.mk (o.take b).toArray:=by
      apply ud;simp
     simp[this,A,rV]
    ·obtain⟨d,_,rfl⟩:=eJ.1 m;rfl
    ·obtain⟨d,_,rfl⟩:=eJ.1 k;simp[A]
   ·cases a
  ·cases a
 ·rename_i K l;obtain⟨aa,ac,c,rfl,aj,z,ai,ad,L⟩:=x5 hi C a N;refine⟨c,⟨z,.slice K,q.sl B l,.inl ⟨.inr ⟨K,rfl⟩,λp=>by simp[Builtin.lenOf],λb p M ak=>?_⟩⟩,ai,ad,aj⟩;cases aa with
  | none =>
   have x:ys=[]:=by
    rcases ys with _|⟨aw,ax⟩
    ·rfl
    ·obtain⟨d,G,f,_⟩:=L (by simp);cases f
   subst x;have:c=[]:=gE (by simpa using z);subst this;simp[Builtin.firstCells]
  | some ab =>
   refine D0 p j.V b ab _ ac (c.take (b*j.V)) (by
    have:b*j.V≤ys.length*j.V:=iV _ M;simp;omega) λH v i=>?_
   rw[eY]at i;split at i
   case isFalse=>cases i
   have x:ys≠[]:=λf=>by
    subst f;have:c=[]:=gE (by simpa using z);subst this;cases i
   obtain⟨d,G,f,ae⟩:=L x;injection f with f;rw[f,ih];have:=ae.1 H v i;have t:p.cell? ⟨d,G+H,none⟩=g.w.cell? ⟨d,G+H,none⟩:=l5 (by rw[ak]);rw[t];exact this
 ·rename_i b l;split at a
  ·rename_i n;split at a
   ·rename_i t;obtain⟨ap,u⟩:=t;injection a with a;subst a;simp only[lim,dU]at u;have ah:=dL u.1;have ar:=dL u.2;obtain⟨Q,ay,s,al,av,am,rfl,an,ao,_⟩:=q.get af;simp only at N ah;have F:s.cells.toList.length=Q.size:=by simpa using an
    have k:=nQ g s.cells.toList;have E:y = .int .i64 ((n.toNat:Nat):Int):=by
     have:((n.toNat:Nat):Int)=n:=by omega
     rw[this];cases C;rfl
    refine⟨(List.replicate n.toNat s.cells.toList).flatten,⟨by simp[F],.int b,q.int B l,.inr ⟨⟨b,rfl⟩,by simpa using E,Q,s,al,am,by simp;omega,by simp;omega,λ_=>?_⟩⟩,ri k _,λv m=>?_,λr k=>?_⟩
    ·have:=EG F n.toNat;simp only[List.length_replicate];rw[← this]
    ·obtain⟨au,ag,m⟩:=Ac.1 m;have:=(Ae.1 ag).2;subst this;exact ao v m
    ·have:=(Ae.1 k).2;subst this;simpa using F
   ·cases a
  ·cases a
 ·cases a
end ap
end Go.Pi
namespace Go.Eng
abbrev jy:=@List.size_toArray
abbrev ua:=@Array.getElem?_append_left
end Go.Eng
namespace Go.Pi
open Go.Eng
section ap
variable {P:Program} {T:bD} {g:Gh} {h:Z}
theorem J6(hi:Inv g h){w':World}{o U V:Nat}{rows rows':List (List D)}{m:Me}{cs F:Array Value}{fr:Nat × Nat}(N:h[o]?=some (.row U V rows))(u:g.ms[o]?=some m)(I:Live g m U V rows cs)
  (f:jC g.w w' m.b (.cells F U fr)) (aq:Fr fr F.size V) (ax:F.size=cs.size) (ar:rows'.length≤m.cap) (aw:∀r∈rows',r.length=V)
  (ap:∀(i:Nat) (row:List D),rows'[i]?=some row→∀(j:Nat) (d:D),row[j]?=some d→∃v,F[i*V+j]?=some v∧v.oneCell'=true∧aB g v d) :
  ∃g':Gh,g'.w=w'∧aT g g'∧Inv g' (aL (h.set o .dead) U V rows')∧g'.ms[h.length]?=some ⟨m.b,V,rows'.length,m.cap⟩:=by
 let g':Gh:=⟨w',g.ms++[⟨m.b,V,rows'.length,m.cap⟩],g.L⟩
 have G:aT g g':=⟨⟨f.os,f.tape,f.output,by show g.w.heap.size≤w'.heap.size;rw[f.size];exact aS _,(λa m u=>by
   show(g.ms++_)[a]?=some m;rw[dY (aZ.1 u).1];exact u),λs k=>by
  have au:s≠m.b:=λz=>k.2 (z▸I.hL)
  exact⟨⟨by show s<w'.heap.size;rw[f.size];exact k.1,k.2⟩,f.other s au⟩⟩,λs k=>⟨⟨by show s<w'.heap.size;rw[f.size];exact k.1,k.2.1,λa c C=>by
   have x:(g.ms++[(⟨m.b,V,rows'.length,m.cap⟩:Me)])[a]?=some c:=C;rcases e9 a g.ms.length with e|R
   ·rw[dY e]at x;exact k.2.2 a c x
   ·rw[iC R]at x;have:=eB x;simp at this;subst this;exact k.2.2 o m u⟩,f.other s λz=>k.2.2 o m u z.symm⟩⟩
 have av:=(aZ.1 N).1;have T:(h.set o .dead).length=h.length:=by simp
 have K:g'.ms[h.length]?=some ⟨m.b,V,rows'.length,m.cap⟩:=by
  show(g.ms++_)[h.length]?=_;rw[← hi.len];simp
 have H:∀(a l q:Nat) (r1:List (List D)),(aL (h.set o .dead) U V rows')[a]?=some (.row l q r1)→(a=h.length∧l=U∧q=V∧r1=rows')∨(a<h.length∧a≠o∧h[a]?=some (.row l q r1)):=λa l q r1 b=>by
  unfold aL at b;rcases ka a h.length with e|heq|a1
  ·rw[dY (by rw[T];exact e)]at b;by_cases A:a=o
   ·subst A;rw[jR av]at b;injection b with b;cases b
   ·rw[iD (λz=>A z.symm)]at b;exact .inr ⟨e,A,b⟩
  ·subst heq;rw[iC (by rw[T];exact aS _),T]at b;simp at b;obtain⟨rfl,rfl,rfl⟩:=b;exact .inl ⟨rfl,rfl,rfl,rfl⟩
  ·exfalso;have:=(aZ.1 b).1;simp at this;omega
 have M:∀a c,g'.ms[a]?=some c→a<h.length→g.ms[a]?=some c:=λa c C e=>by
  have:(g.ms++[(⟨m.b,V,rows'.length,m.cap⟩:Me)])[a]?=some c:=C
  rwa [dY (by rw[hi.len];exact e)]at this
 refine⟨g',rfl,G,⟨?_,λa l q r1 b=>?_,λa E l q ac ah r1 ag c P an B n p y=>?_,λs k=>?_,λa ab b=>?_⟩,K⟩
 ·show(g.ms++[_]).length=(h.set o .dead++[_]).length;simp[hi.len]
 ·rcases H a _ _ _ b with⟨rfl,rfl,rfl,rfl⟩|⟨e,A,b⟩
  ·refine⟨_,F,K,⟨fr,f.fy,aq⟩,rfl,I.pos,I.hL,rfl,ar,by rw[ax];exact I.room,aw,λi row B j d n=>?_⟩;obtain⟨v,p,y,Q⟩:=ap i row B j d n;exact⟨v,p,y,Q.ext G⟩
  ·obtain⟨c,ai,C,t⟩:=hi.live a l q r1 b;have ao:c.b≠m.b:=λz=>A (hi.inj a o l q U V r1 rows c m b N C u z)
   refine⟨c,ai,G.ms _ _ C,?_,t.fR,t.pos,t.hL,t.len,t.le,t.room,t.row,λi row B j d n=>?_⟩
   ·have:=f.other c.b ao;show ∃fr,w'.heap[c.b]?=_∧_;rw[this];exact t.fy
   ·obtain⟨v,p,y,Q⟩:=t.cell i row B j d n;exact⟨v,p,y,Q.ext G⟩
 ·rcases H a _ _ _ an with⟨aj,ay,az,a0⟩|⟨e,A,af⟩
  ·rcases H E _ _ _ B with⟨ad,ak,al,am⟩|⟨X,ae,aa⟩
   ·omega
   ·exfalso;rw[aj,K]at n;injection n with n;subst n;exact ae (hi.inj E o ac ah U V ag rows P m aa N (M E P p X) u y.symm)
  ·rcases H E _ _ _ B with⟨ad,ak,al,am⟩|⟨X,ae,aa⟩
   ·exfalso;rw[ad,K]at p;injection p with p;subst p;exact A (hi.inj a o l q U V r1 rows c m af N (M a c n e) u y)
   ·exact hi.inj a E l q ac ah r1 ag c P af aa (M a c n e) (M E P p X) y
 ·show s<w'.heap.size;rw[f.size];exact hi.L s k
 ·show ab.b<w'.heap.size;rw[f.size];have x:(g.ms++[(⟨m.b,V,rows'.length,m.cap⟩:Me)])[a]?=some ab:=b;rcases e9 a g.ms.length with e|R
  ·rw[dY e]at x;exact hi.msb a ab x
  ·rw[iC R]at x;have:=eB x;simp at this;subst this;exact hi.msb o m u
theorem su{rows ys:List (List D)}{V:Nat}(b:∀r∈rows,r.length=V)(h2:∀r∈ys,r.length=V):∀r∈rows++ys,r.length=V:=λr a=>by
 rcases eA.1 a with a|a
 ·exact b r a
 ·exact h2 r a
theorem vY(o:cC P T)(hi:Inv g h){e:Nat}{j:TI}(b:T e=some j){a:TypeInfo}{z:Value}(t:P.info? e=some a)(B:a.zero=some z)(k:0<j.V){rows:List (List D)}{vs:List Value}(l:aW g vs rows.flatten)(n:∀v∈vs,v.oneCell'=true)(d:∀r∈rows,r.length=j.V)
  {c:Nat} (p:rows.length≤c) (fu:c≤9223372036854775807):∃g':Gh,g'.w=g.w.drew.alloc (.cells (vs.toArray++Builtin.zeroCells z.cells (c - rows.length)) e)∧aT g g'∧Inv g' (aL h e j.V rows)∧aB g' (.slice (some ⟨g.w.heap.size,0,none⟩) rows.length c) (.S j.V h.length 0 rows.length):=by
 obtain⟨G,K,L,f,H,i,rfl,m,I,_⟩:=o.get b;rw[t]at f;injection f with f;subst f;rw[B]at i;injection i with i;subst i;have F:z.cells.toList.length=a.size:=by simpa using m
 simp only at k d;have y:=l.length;have s:=jJ rows d;have C:(Builtin.zeroCells z.cells (c - rows.length)).size=(c - rows.length)*a.size:=by simp[Builtin.zeroCells,m]
 have E:(vs.toArray++Builtin.zeroCells z.cells (c - rows.length)).size=c*a.size:=by
  rw[Array.size_append,C];simp only[jy];rw[y,s,← eK];congr 1;omega
 obtain⟨g',A,q,u,x⟩:=ph hi (w':=g.w.drew.alloc (.cells (vs.toArray++Builtin.zeroCells z.cells (c - rows.length)) e)) (U:=e) (V:=a.size) (cap:=c) (rows:=rows) (cs:=vs.toArray++Builtin.zeroCells z.cells (c - rows.length)) (fr:=(0,0)) rfl rfl rfl rfl (.inl rfl) k p (by omega) d
  (l7 l n d (λj v b=>by
   rw[ua (by simpa using(aZ.1 b).1)];simpa using b))
 refine⟨g',A,q,u,?_⟩;have:=aB.S (g:=g') h.length 0 rows.length c _ x (by simp) (by simp;omega) (by simp) fu;simpa using this
variable {ρ:Operand→Value} {dst:Option Tmp} {ty:TypeId} {pos:String} {af:Array Edge} {gd:Option (Nat × Bool)}
theorem FC (N:cC P T) (hi:Inv g h) {t bb:Nat} {x bc:Value} {be bf d:D} {h':Z} (A:aB g x be) (bt:aB g bc bf) (e:dM T h t bb be bf=some (d,h')) :
  ∃v w' g',(Builtin.append_ #[t,bb] ty #[x,bc]).run P g.w = .ok v w'∧g'.w=w'∧aT g g'∧Inv g' h'∧aB g' v d:=by
 unfold dM at e;split at e
 ·rename_i i cr cd bq;split at e
  ·rename_i ch ce;have ai:=N.sl cd ce;split at e
   ·rename_i j ac;obtain⟨bu,cz,z,E,ct,ak,bk,cu,cw,_⟩:=N.get ac;have ah:bu.size=j.V:=by rw[bk]
    have a3:bu.bytes=j.gA:=by rw[bk]
    split at e
    ·rename_i a2 a8;have U:0<j.V:=dL a2;obtain⟨aa,L,_⟩:=yk N hi bq ac bt a8 U;have bd:∀(a:Option Addr) (n cap:Nat),x = .slice a n cap→n≤cap→(Builtin.append_ #[t,bb] ty #[x,bc]).run P g.w = .ok x g.w:=λa n cap f aw=>by
      subst f;exact Ns ai E ah L aw
     split at e
     ·injection e with e;injection e with o q;subst o;subst q;have f:x = .slice none 0 0:=by cases A;rfl
      exact⟨x,g.w,g,bd none 0 0 f (aS _),rfl,aT.refl g,hi,A⟩
     ·injection e with e;injection e with o q;subst o;subst q;have:∃a n cap,x = .slice a n cap∧n≤cap:=by
       cases A;rename_i ad n cap _ aw _ _ _ _ _ _ _ _ _;exact⟨_,_,_,rfl,by assumption⟩
      obtain⟨a,n,cap,f,aw⟩:=this;exact⟨x,g.w,g,bd a n cap f aw,rfl,aT.refl g,hi,A⟩
     ·injection e with e;injection e with o q;subst o;subst q;obtain⟨l,cap,f,_,_,b9,bm,_⟩:=A.kr;exact⟨x,g.w,g,bd _ _ cap f (by omega),rfl,aT.refl g,hi,A⟩
     ·cases e
    ·rename_i k ca a2 a8;have U:0<j.V:=dL a2;obtain⟨aa,L,af,R,X⟩:=yk N hi bq ac bt a8 U;have cp:0<k.length:=by
      rcases k with _|⟨c0,c1⟩
      ·exact(ca rfl).elim
      ·simp
     have cm:=L.len;split at e
     ·
      split at e
      ·rename_i r;injection e with e;injection e with o q;subst o;subst q;simp only[lim,dU]at r;have al:=dL r.1;have bl:=dL r.2;have f:x = .slice none 0 0:=by cases A;rfl
       subst f;obtain⟨c,gm,fu,y⟩:=x6 (P:=P) (n:=0) (cap:=0) (a:=none) (olds:=[]) (ty:=ty) (z:=z) ai E ak ah L (by omega) (λF _=>by simp[Builtin.firstCells]) (by omega) (by rw[a3];simpa using al);simp only[cT]at y gm;obtain⟨g',u,B,C,K⟩:=vY N hi ac E ak U af R X gm fu;exact⟨_,_,g',by simpa using y,by rw[u],B,C,K⟩
      ·cases e
     ·
      rename_i V rows;split at e
      ·rename_i a4;obtain⟨rfl,r⟩:=a4;injection e with e;injection e with o q;subst o;subst q;simp only[lim,dU]at r;have al:=dL r.1;have bl:=dL r.2;obtain⟨a,cap,olds,f,cc,ag,ao,ay,bg⟩:=x5 (V:=j.V) (rows:=rows) hi A (by simp[iq]) U;have aq:cap=rows.length:=by
        obtain⟨cf,cg,br,b0⟩:=A.rq;rw[f]at br;injection br with ci cj bv;rw[bv];exact b0 rfl
       subst f;obtain ⟨c,gm,fu,y⟩:=x6 (P:=P) (n:=rows.length) (cap:=cap) (a:=a) (olds:=olds) (ty:=ty) (z:=z) ai E ak ah L (by omega) (λF aj=>by
        cases a with
        | none =>
         have a7:rows=[]:=by
          rcases rows with _|⟨cx,cy⟩
          ·rfl
          ·obtain⟨b,ab,Q,_⟩:=bg (by simp);cases Q
         subst a7;have:olds=[]:=gE (by simpa using ag);subst this;simp[Builtin.firstCells]
        | some ad =>
         refine D0 F j.V rows.length ad _ cap olds ag λM v s=>?_
         have a7:rows≠[]:=λQ=>by
          subst Q;have:olds=[]:=gE (by simpa using ag);subst this;cases s
         obtain⟨b,ab,Q,bw⟩:=bg a7;injection Q with Q;rw[Q,ih];have:=bw.1 M v s;have bx:F.cell? ⟨b,ab+M,none⟩=g.w.cell? ⟨b,ab+M,none⟩:=l5 (by rw[aj]);rw[bx];exact this) (by omega) (by rw[a3];exact al)
       have H:=ao.append af;rw[← kJ]at H;have ae:(rows++k).length=rows.length+k.length:=by simp
       obtain⟨g',u,B,C,K⟩:=vY (c:=c) N hi ac E ak U H (λv f=>by
        rcases eA.1 f with f|f
        ·exact ay v f
        ·exact R v f) (su cc X) (by omega) fu
       rw[ae]at u K;exact⟨_,_,g',y,by rw[u];simp,B,C,K⟩
      ·cases e
     ·
      rename_i V ab n;split at e
      ·rename_i a0 c2 rows ax;split at e
       ·rename_i a4;obtain⟨rfl,rfl,rfl,cn,r⟩:=a4;simp only[lim,dU]at r;have al:=dL r.1;have bl:=dL r.2;obtain⟨l,cap,f,b8,am,b9,bm,b2,bh⟩:=A.kr;obtain⟨cs,G,au,m⟩:=hi.live ab a0 j.V rows ax;rw[am]at au;injection au with au;subst au;subst f;obtain⟨fr,a1,ar⟩:=m.fy;obtain⟨az,ao,ay,bn⟩:=m.flat;have ag:=ao.length;have a6:=jJ rows m.row;have bj:=jJ k X;have cl:=m.len;have co:=m.room;have cq:=af.length;split at e
        ·
         rename_i an;injection e with e;injection e with o q;subst o;subst q;by_cases aq:n+k.length≤cap
         ·
          have y:=x7 (P:=P) (ty:=ty) (ad:=⟨l.b,0*l.V,none⟩) ai E ah L aq;have a5:n*j.V+aa.length≤G.size:=by
           have:(n+k.length)*j.V≤l.cap*j.V:=iV _ (by omega);rw[eK]at this;omega
          obtain⟨w',a9,ap⟩:=nR (P:=P) (i:=n*j.V) aa g.w G.toList 0 (T:=a0) (fr:=fr) (b:=l.b) (by simpa using a1) (by simpa using ar.rA) (by simpa using a5) R;simp only[ni]at ap;have bo:(G.toList.take (n*j.V)++aa++G.toList.drop (n*j.V+aa.length)).toArray.size=G.size:=by
           simp;omega
          have H:=ao.append af;rw[← kJ]at H;have cb:az.length=n*j.V:=by rw[ag,a6,an]
          obtain⟨g',u,B,C,av⟩:=J6 (rows':=rows++k) hi ax am m ap (by rw[bo];exact ar) bo (by simp;omega) (su m.row X)
           (l7 H (λv f=>by
            rcases eA.1 f with f|f
            ·exact ay v f
            ·exact R v f) (su m.row X) (λM v s=>by
            rw[z1];rw[Ab];rcases e9 M (n*j.V)with b7|b1
            ·rw[dY (by omega)]at s;rw[dY (by simp;omega),eY,bE b7];have:=bn M v s;simpa using this
            ·rw[iC (by omega)]at s;have bp:(G.toList.take (n*j.V)).length=n*j.V:=by simp;omega
             rw[iC (by rw[bp];exact b1),bp];rw[cb]at s;rw[dY (aZ.1 s).1];exact s))
          refine⟨.slice (some ⟨l.b,0*l.V,none⟩) (n+k.length) cap,w',g',?_,u,B,C,?_⟩
          ·rw[y];simp only[nj,ih,cT,a9,fp]
          ·have ae:(rows++k).length=n+k.length:=by simp[an]
           rw[ae]at av;have:=aB.S (g:=g') h.length 0 (n+k.length) cap _ av (by simp) (by simp;omega) (by simp;omega) bh;simpa using this
         ·
          have bz:∀F:World,F.heap=g.w.heap→(Builtin.firstCells j.V n (.slice (some ⟨l.b,0*l.V,none⟩) n cap)).run P F = .ok az.toArray F:=λF aj=>by
           refine D0 F j.V n _ _ cap az (by rw[ag,a6,an]) λM v s=>?_
           rw[nj,ih,cT];have:=bn M v s;simp only[World.cell?,aj,a1];simpa using this
          obtain⟨c,gm,fu,y⟩:=x6 (P:=P) (n:=n) (cap:=cap) (olds:=az) (ty:=ty) (z:=z) ai E ak ah L (by omega) bz (by omega) (by rw[a3];exact al);obtain⟨ck,aj,bi,b5,_,_,_⟩:=Cu hi ax am;have H:=(ao.append af).ext bi;rw[← kJ]at H;have ae:(rows++k).length=n+k.length:=by simp[an]
          obtain⟨g',u,B,C,K⟩:=vY (c:=c) N b5 ac E ak U H (λv f=>by
           rcases eA.1 f with f|f
           ·exact ay v f
           ·exact R v f) (su m.row X) (by omega) fu
          rw[ae,aj]at u;rw[ae,aj]at K;have b6:(h.set ab .dead).length=h.length:=by simp
          rw[b6]at K;exact⟨_,_,g',y,by rw[u];simp,bi.trans B,C,K⟩
        ·split at e
         ·
          rename_i an b3;injection e with e;injection e with o q;subst o;subst q;have aq:n+k.length≤cap:=by omega
          have y:=x7 (P:=P) (ty:=ty) (ad:=⟨l.b,0*l.V,none⟩) ai E ah L aq;have b4:n*j.V+k.length*j.V≤rows.length*j.V:=by
           rw[← eK];exact iV _ b3
          have a5:n*j.V+aa.length≤G.size:=by
           have:rows.length*j.V≤l.cap*j.V:=iV _ (by have:=m.le;omega);omega
          obtain⟨w',a9,ap⟩:=nR (P:=P) (i:=n*j.V) aa g.w G.toList 0 (T:=a0) (fr:=fr) (b:=l.b) (by simpa using a1) (by simpa using ar.rA) (by simpa using a5) R;simp only[ni]at ap;obtain⟨g',u,B,C,av⟩:=tG (rows':=rows.take n++k++rows.drop (n+k.length)) hi ax am m ar af R (p:=n*j.V) (by rw[a6,bj];exact b4) (by
           unfold dK;rw[kJ,kJ,qq rows n m.row,sr rows _ m.row,bj,eK]) (by simp;omega) (λba I=>by
            simp only[eA]at I;rcases I with(I|I)|I
            ·exact m.row ba (gV I)
            ·exact X ba I
            ·exact m.row ba (j8 I)) ap
          refine⟨.slice (some ⟨l.b,0*l.V,none⟩) (n+k.length) cap,w',g',?_,u,B,C,?_⟩
          ·rw[y];simp only[nj,ih,cT,a9,fp]
          ·rw[← b8];exact aB.S (g:=g') ab 0 (n+k.length) cap l (by rw[av];exact am) (by omega) bm b2 bh
         ·cases e
       ·cases e
      ·cases e
     ·cases e
    ·cases e
   ·cases e
  ·cases e
 ·cases e
end ap
end Go.Pi
namespace Go.Eng
abbrev dJ:=@decide_true
abbrev gz:=@and_self
abbrev gN:=@List.drop_zero
abbrev z7:=@List.eq_of_mem_replicate
end Go.Eng
namespace Go.Pi
open Go.Eng
section wr
variable {P:Program} {T:bD} {g:Gh} {h:Z} {ty:TypeId}
theorem Gu (r:cC P T) (hi:Inv g h) {t am:Nat} {H z:Value} {L M d:D} {h':Z} (ai:aB g H L) (a9:aB g z M) (c:u7 T h t am L M=some (d,h')) :
  ∃v w' g',(Builtin.copy_ #[t,am] ty #[H,z]).run P g.w = .ok v w'∧g'.w=w'∧aT g g'∧Inv g' h'∧aB g' v d:=by
 unfold u7 at c;split at c
 ·rename_i i br a5 ah;split at c
  ·rename_i bf a7 a0;have ae:=r.sl a5 a7;split at c
   ·rename_i f E;split at c
    ·rename_i a ap a3;have a2:0<f.V:=dL ap;obtain⟨y,af,a1,aa,aj⟩:=yk r hi ah E a9 a3 a2;obtain⟨be,u,au⟩:=af.nz;have ax:(∀q,(Builtin.lenOf z).run P q = .ok a.length q)∧(∀(x:Nat) (q:World),x≤a.length→q.heap=g.w.heap→(Builtin.firstCells f.V x z).run P q = .ok (y.take (x*f.V)).toArray q):=by
      rcases au with⟨_,n,an⟩|⟨⟨x,rfl⟩,_⟩
      ·exact⟨n,an⟩
      ·exfalso;obtain⟨bq,bx,bc,bu,bb,bv,rfl,_⟩:=r.get ah;rw[bb]at u;injection u with u;subst u;simp[Dr,iP]at a0
     obtain⟨U,Q⟩:=ax;have bn:=af.len;split at c
     ·injection c with c;injection c with A B;subst A;subst B;have m:H = .slice none 0 0:=by cases ai;rfl
      subst m;have C:=Q 0 g.w (il _) rfl;have F:Nat.min a.length 0=0:=by simp
      exact⟨.int .i64 0,g.w,g,by simp[Builtin.copy_,cQ ae,r.size E,U,F,C,goInt],rfl,aT.refl g,hi,.int _ _⟩
     ·rename_i bw ba o e;split at c
      ·rename_i I bc k ab;split at c
       ·rename_i ar;obtain⟨rfl,rfl⟩:=ar;injection c with c;injection c with A B;subst A;subst B;obtain⟨al,bd,m,az,X,bm,bk,bi,bg⟩:=ai.kr;obtain⟨bt,K,s,j⟩:=hi.live ba I f.V k ab;rw[X]at s;injection s with s;subst s;subst m;obtain⟨fr,ao,R⟩:=j.fy;have aw:=jJ k j.row;have bo:=j.room;have bj:=j.len;have N:min a.length e≤a.length:=Nat.min_le_left _ _;have C:=Q (min a.length e) g.w N rfl;have ag:(y.take (min a.length e*f.V)).length=min a.length e*f.V:=by
         have:min a.length e*f.V≤a.length*f.V:=iV _ N;simp;omega
        have aq:o*f.V+min a.length e*f.V≤k.length*f.V:=by
         rw[← eK];exact iV _ (by omega)
        have bh:k.length*f.V≤K.size:=by
         have:k.length*f.V≤al.cap*f.V:=iV _ (by have:=j.le;omega);omega
        obtain⟨w',a4,ad⟩:=nR (P:=P) (i:=o*f.V) (y.take (min a.length e*f.V)) g.w K.toList 0 (T:=I) (fr:=fr) (b:=al.b) (by simpa using ao) (by simpa using R.rA) (by rw[ag];simp;omega) (λv m=>aa v (gV m));simp only[ni]at ad;have a6:a.take e=a.take (min a.length e):=by
         rcases Nat.le_total a.length e with n|n
         ·rw[uO n,gW n,gW (aS _)]
         ·rw[Nat.min_eq_right n]
        have ac:aW g (y.take (min a.length e*f.V)) (a.take e).flatten:=by
         rw[a6,qq a _ aj];exact a1.take _
        have ak:(a.take e).flatten.length=min a.length e*f.V:=by
         rw[← ac.length];exact ag
        have bp:(a.take e).length=min a.length e:=by simp;omega
        obtain⟨g',a8,av,ay,bl⟩:=tG (rows':=k.take o++a.take e++k.drop (o+min a.length e)) hi ab X j R ac (λv m=>aa v (gV m)) (p:=o*f.V) (by rw[aw,ak];exact aq) (by
         unfold dK;rw[kJ,kJ,qq k o j.row,sr k _ j.row,ak,eK]) (by simp;omega) (λG l=>by
          simp only[eA]at l;rcases l with(l|l)|l
          ·exact j.row G (gV l)
          ·exact aj G (gV l)
          ·exact j.row G (j8 l)) ad
        refine⟨.int .i64 ((min a.length e:Nat):Int),w',g',?_,a8,av,ay,.int _ _⟩;have F:Nat.min a.length e=min a.length e:=rfl;rw[az];simp only[Builtin.copy_,fg];simp[cQ ae,r.size E,U,F,C,a4,goInt]
       ·cases c
      ·cases c
     ·cases c
    ·cases c
   ·cases c
  ·cases c
 ·cases c
theorem Gl(K:cC P T)(hi:Inv g h){t:Nat}{af:Value}{H d:D}{h':Z}(q:aB g af H)(a:nx T h t H=some (d,h')):
  ∃v w' g',(Builtin.clear_ #[t] ty #[af]).run P g.w = .ok v w'∧g'.w=w'∧aT g g'∧Inv g' h'∧aB g' v d:=by
 unfold nx at a;split at a
 case h_2=>cases a
 rename_i i av;split at a
 case h_2=>cases a
 rename_i a2 aw;have R:=K.sl av aw;split at a
 case h_2=>cases a
 rename_i c ap;have done:∀(x:Value),(x = .slice none 0 0∨∃E F,x = .slice (some E) 0 F)→∃v w' g',(Builtin.clear_ #[t] ty #[x]).run P g.w = .ok v w'∧g'.w=w'∧aT g g'∧Inv g' h∧aB g' v (.bN []):=λx q=>by
  refine⟨.tuple #[],g.w,g,?_,rfl,aT.refl g,hi,aB.bN [] [] rfl (by simp)⟩;rcases q with rfl|⟨E,F,rfl⟩<;>simp[Builtin.clear_,cQ R]
 split at a
 ·injection a with a;injection a with l m;subst l;subst m;exact done _ (.inl (by cases q;rfl))
 ·injection a with a;injection a with l m;subst l;subst m;obtain⟨ag,s,n,_⟩:=q.rq;exact done _ (.inr ⟨ag,s,by simpa using n⟩)
 ·injection a with a;injection a with l m;subst l;subst m;obtain⟨B,s,n,_⟩:=q.kr;exact done _ (.inr ⟨_,s,n⟩)
 ·rename_i bf a1 r e ar aj;have bb:0<c.V:=dL aj;split at a
  case h_2=>cases a
  rename_i C bg j N;split at a
  case isFalse=>cases a
  rename_i al;obtain⟨rfl,rfl⟩:=al;injection a with a;injection a with l m;subst l;subst m;obtain⟨B,s,n,aq,M,a9,a7,a5,a3⟩:=q.kr;obtain⟨be,G,u,f⟩:=hi.live a1 C c.V j N;rw[M]at u;injection u with u;subst u;subst n;obtain⟨fr,ai,L⟩:=f.fy;have an:=jJ j f.row;have bc:=f.room;have a6:=f.len;obtain⟨o,ay,ad,a0,az⟩:=K.mO ap;have z:o.cells.toList.length=c.V:=by simpa using a0
  have ac:aW g (List.replicate e o.cells.toList).flatten (List.replicate e c.zero).flatten:=by
   rw[ad];exact ri (nQ g _) e
  have U:∀v∈(List.replicate e o.cells.toList).flatten,v.oneCell'=true:=λv n=>by
   obtain⟨bd,ah,I⟩:=Ac.1 n;rw[z7 ah]at I;exact az v I
  have aa:(List.replicate e o.cells.toList).flatten.length=e*c.V:=by simp[z]
  have ab:(List.replicate e c.zero).flatten.length=e*c.V:=by rw[← ac.length];exact aa
  have ak:r*c.V+e*c.V≤j.length*c.V:=by
   rw[← eK];exact iV _ (by omega)
  have a4:j.length*c.V≤G.size:=by
   have:j.length*c.V≤B.cap*c.V:=iV _ (by have:=f.le;omega);omega
  obtain⟨w',au,Q⟩:=nR (P:=P) (i:=r*c.V) (List.replicate e o.cells.toList).flatten g.w G.toList 0 (T:=C) (fr:=fr) (b:=B.b) (by simpa using ai) (by simpa using L.rA) (by rw[aa];simp;omega) U;simp only[ni]at Q;obtain⟨g',ax,am,ao,a8⟩:=tG (rows':=j.take r++List.replicate e c.zero++j.drop (r+e)) hi N M f L ac U (p:=r*c.V) (by rw[an,ab];exact ak) (by
   unfold dK;rw[kJ,kJ,qq j r f.row,sr j _ f.row,ab,eK]) (by simp;omega) (λae k=>by
    simp only[eA]at k;rcases k with(k|k)|k
    ·exact f.row ae (gV k)
    ·rw[z7 k,ad,gi];exact z
    ·exact f.row ae (j8 k)) Q
  refine⟨.tuple #[],w',g',?_,ax,am,ao,aB.bN [] [] rfl (by simp)⟩;have ba:e≠0:=ar;obtain⟨A,rfl⟩:∃A,e=A+1:=⟨e - 1,by omega⟩
  have X:=EG z (A+1);rw[show o.cells.toList.toArray=o.cells by simp]at X;rw[aq];simp only[Builtin.clear_,fg];simp[cQ R,ay,X,au]
 ·cases a
variable {ρ:Operand→Value} {dst:Option Tmp} {pos:String} {af:Array Edge} {gd:Option (Nat × Bool)}
theorem G7(n:cC P T)(hi:Inv g h){s t e:Nat}{x:Operand}{l:List UInt8}(y:aB g (ρ x) (.str l)){i j k:TI}(L:T s=some i)(N:i.td = .str)(M:T t=some j)(Q:j.td = .sl e)(F:T e=some k)(G:k.td = .int .u8)(o:lim l.length 1=true):
  kF P ρ ⟨dst,.convert s t x,ty,pos,af,gd⟩ g (aL h e 1 (gB l)) (.S 1 h.length 0 l.length):=by
 simp only[lim,dU]at o;have ae:=dL o.1;have ag:=dL o.2;have f:ρ x = .string ⟨l.toArray⟩:=by generalize f:ρ x=A at y;cases y;rfl
 have R:=n.str L N;have X:=n.sl M Q;have aa:=n.int F G;have d:=run_bytes_of_string (P:=P) g.w s t e ⟨l.toArray⟩ R X aa;rw[nP]at d;obtain⟨a,q⟩:∃a,a=grownCap g.w l.length 0 e:=⟨_,rfl⟩
 rw[← q]at d;have C:l.length≤a∧a≤9223372036854775807:=by
  subst q;show l.length≤l.length+g.w.tape g.w.drawn (.appendCap l.length 0 e) % (2 ^ 63 - l.length)∧l.length+g.w.tape g.w.drawn (.appendCap l.length 0 e) % (2 ^ 63 - l.length)≤9223372036854775807;have I:0<2 ^ 63 - l.length:=by omega
  have:=Nat.mod_lt (g.w.tape g.w.drawn (.appendCap l.length 0 e)) I;generalize g.w.tape g.w.drawn (.appendCap l.length 0 e) % (2 ^ 63 - l.length)=ac at this;omega
 have B:bytesRow ⟨l.toArray⟩ a=(l.map λc=>Value.int .u8 c.toNat).toArray++Array.replicate (a - l.length) (.int .u8 0):=by
  simp[bytesRow,nP]
 rw[B]at d;have H:(gB l).length=l.length:=by simp[gB]
 have v:∀z∈gB l,z.length=1:=λz K=>by
  obtain⟨c,_,rfl⟩:=eJ.1 K;rfl
 obtain⟨b,m⟩:∃b:Array Value,b=(l.map λc:UInt8=>Value.int .u8 c.toNat).toArray++Array.replicate (a - l.length) (Value.int .u8 0):=⟨_,rfl⟩
 rw[← m]at d;have ad:b.size=a:=by rw[m];simp;omega
 obtain⟨p,ab,D,E,r⟩:=ph hi (w':=g.w.drew.alloc (.cells b e (b.size,b.size+1))) (U:=e) (V:=1) (cap:=a) (rows:=gB l) rfl rfl rfl rfl (.inr ⟨aS _,rfl⟩) (by decide) (by omega) (by omega) v
  (l7 (AN l) (λA f=>by
   obtain⟨c,_,rfl⟩:=eJ.1 f;rfl) v (λac A u=>by
   rw[m,ua (by simpa using(aZ.1 u).1)];simpa using u))
 rw[H]at r;refine⟨.value (.slice (some ⟨g.w.heap.size,0,none⟩) l.length a),_,p,?_,ab,D,E,.inl ⟨_,rfl,?_⟩⟩
 ·simp only[execOp,fg,f,d,fp,gZ]
 ·have:=aB.S (g:=p) h.length 0 l.length a _ r (by simp) (by simp;omega) (by simp) C.2;simpa using this
theorem G0 (u:cC P T) (hi:Inv g h) {s t:Nat} {x:Operand} {r:D} (C:aB g (ρ x) r) {d:D} {h':Z} (c:ve T h s t r=some (d,h')) :
  kF P ρ ⟨dst,.convert s t x,ty,pos,af,gd⟩ g h' d:=by
 unfold ve at c;split at c
 ·rename_i az ai;split at c
  ·rename_i ap i a2 a1 aj;split at c
   ·rename_i E j F q m;split at c
    ·rename_i ab;split at c
     ·rename_i ah;injection c with c;injection c with Q R;subst Q;subst R;subst ah;obtain⟨e,ao,B,ax,z,ay,av,au,aq⟩:=C.kr;obtain⟨a0,a,l,k⟩:=hi.live i j 1 F m;rw[z]at l;injection l with l;subst l;obtain⟨I,o,U⟩:=k.fy;have N:=(gL.1 o).1;have ak:=u.sl ai aj;have al:=u.int q ab;obtain ⟨n,X,ae⟩:∃n,Fr n a.size 1∧jC g.w (g.w.freeze ⟨e.b,a.size,none⟩ 1) e.b (.cells a j n):=by
       obtain⟨f,hi⟩:=I;refine⟨if f==hi then(a.size,a.size+1)else(min f a.size,max hi (a.size+1)),?_,?_⟩
       ·split
        ·exact .inr ⟨aS _,rfl⟩
        ·rename_i ac;rcases U with p|⟨p,_⟩
         ·injection p with L M;subst L;subst M;simp at ac
         ·exact .inr ⟨by show a.size≤min f a.size;simp at p;omega,rfl⟩
       ·have aa:g.w.freeze ⟨e.b,a.size,none⟩ 1={ g.w with heap:=g.w.heap.modify e.b fun
            |.cells G H (f,hi) =>.cells G H (if f==hi then(a.size,a.size+1)else(min f a.size,max hi (a.size+1)))
            |i=>i }:=rfl
        rw[aa];refine⟨?_,λE q=>?_,by simp,rfl,rfl,rfl⟩
        ·show(g.w.heap.modify e.b _)[e.b]?=_;rw[ln (by rw[Array.size_modify];exact N),Array.getElem_modify_self];rw[(gL.1 o).2]
        ·show(g.w.heap.modify e.b _)[E]?=_;rw[ub,bV (Ne.symm q)]
      obtain⟨K,am,v,y,aw⟩:=Eg hi m z k ae X rfl rfl k.row k.cell;have ad:h.set i (.row j 1 F)=h:=by
       apply z8;intro an;by_cases A:an=i
       ·subst A;rw[jR (aZ.1 m).1,m]
       ·rw[iD (Ne.symm A)]
      rw[ad]at y;have ag:g.w.shape? e.b=some (j,a.size):=by
       unfold World.shape?;rw[o]
      refine⟨.value (ρ x),_,K,?_,am,v,y,.inl ⟨_,rfl,C.ext v⟩⟩;rw[B];simp[execOp,convert,B,cQ ak,cQ al,markStringish,ag]
     ·cases c
    ·cases c
   ·cases c
  ·cases c
 ·cases c
theorem GO (U:cC P T) (hi:Inv g h) {ρ:Operand→Value} {dst:Option Tmp} {ty:TypeId} {pos:String} {af:Array Edge} {gd:Option (Nat × Bool)} {t:TypeId} {x:Operand} {lo s:Option Operand} {c:Operand} {ds:List D} {d:D} {h':Z}
  (n:aW g ((Op.operands (.slice t x lo s (some c))).toList.map ρ) ds) (a:u9 T h t lo.isSome s.isSome ds=some (d,h')):kF P ρ ⟨dst,.slice t x lo s (some c),ty,pos,af,gd⟩ g h' d:=by
 unfold u9 at a;split at a
 ·rename_i aj a3;injection a with a;injection a with I K;subst I;subst K;obtain⟨u,bd,am,H,a8,aa,F,ao,a1,M⟩:=DF U (λae E=>hi.jS E) ⟨dst,.slice t x lo s (some c),ty,pos,af,gd⟩ n (show jP T _ ds=some aj from a3);exact⟨_,bd,am,H,a8,aa,hi.same aa F ao a1,.inl ⟨u,rfl,M⟩⟩
 ·split at a
  ·rename_i bu bb r bn f bo ae bq br bt;split at a
   ·rename_i ad bv j o ac a4;split at a
    ·rename_i be a5;split at a
     ·rename_i q az;split at a
      ·rename_i ar;obtain⟨rfl,rfl,rfl,an,bg,bm⟩:=ar;injection a with a;injection a with I K;subst I;subst K;have a0:lo=none:=by cases lo<;>simp_all
       obtain⟨C,rfl⟩:∃i,s=some i:=by cases s<;>simp_all
       subst a0;have a2:(Op.operands (.slice t x none (some C) (some c))).toList.map ρ=[ρ x,ρ C,ρ c]:=by simp[Op.operands]
       rw[a2]at n;cases n with
       | cons a9 n=>cases n with
        | cons E n=>cases n with
         | cons X n =>
          obtain⟨m,ai,a7,bk,F,bl,bj,bh,av⟩:=a9.kr;obtain⟨bp,R,G,p⟩:=hi.live bb ad q.V j ac;rw[F]at G;injection G with G;subst G;obtain⟨z,N,ab,ay,_,ax,_⟩:=Cu hi ac F;obtain⟨bf,aq,_⟩:=p.fy;have au:∀o,z.w.cell? ⟨m.b,o,none⟩=R[o]?:=λo=>by rw[N];simp only[World.cell?,aq];simp
          have bi:=p.len;have L:∀(o:Nat) (b:List D),(j.take r)[o]?=some b→j[o]?=some b:=λo b k=>by
           rw[eY]at k;split at k
           ·exact k
           ·cases k
          have ba:aB z (ρ x) (.sl q.V false (j.take r)):=by
           rw[a7];refine aB.sl _ r ai q.V false (j.take r) (by simp;omega) (by omega) av (λk=>by cases k) p.pos (λb k=>p.row b (gV k)) (λ_=>⟨rfl,ax⟩) (λe i=>(R[e*q.V+i]?).getD undef) ?_ ?_ ?_
           ·intro e b B i y A;obtain⟨u,v,_,_⟩:=p.cell e b (L e b B) i y A;show z.w.cell? ⟨m.b,0*m.V+e*q.V+i,none⟩=_;rw[au,nj,cT,v];rfl
           ·intro e b B i y A;obtain⟨u,v,ag,_⟩:=p.cell e b (L e b B) i y A;rw[v];exact ag
           ·intro e b B i y A;obtain⟨u,v,_,ah⟩:=p.cell e b (L e b B) i y A;rw[v];exact ah.ext ab
          have ak:∃Q,ρ C = .int Q f:=by
           generalize ρ C=bc at E;cases E;exact⟨_,rfl⟩
          have al:∃Q,ρ c = .int Q f:=by
           generalize ρ c=bc at X;cases X;exact⟨_,rfl⟩
          have aw:jg T t (.sl q.V false (j.take r)) none (some f) (some f)=some (.sl q.V true (j.take f.toNat)):=by
           have ap:f≤((j.take r).length:Int):=by simp;omega
           have a6:(j.take r).take f.toNat=j.take f.toNat:=by
            rw[List.take_take];congr 1;omega
           simp only[jg,a4,a5,az,gP,uP,true_and,Int.le_refl,an,ap,gz,aM,dJ,Int.toNat_zero,gN,a6]
          obtain⟨u,H,M⟩:=nA (g:=z) (ρ:=ρ) (dst:=dst) (ty:=ty) (pos:=pos) (af:=af) (gd:=gd) U (lo:=none) (hi:=some C) (mx:=some c) (l:=none) (h:=some f) (m:=some f) ba trivial ak al (by simp) aw;rw[N]at H;exact⟨_,g.w,z,H,N,ab,ay,.inl ⟨u,rfl,M⟩⟩
      ·cases a
     ·cases a
    ·cases a
   ·cases a
  ·cases a
theorem tX (j:cC P T) (hi:Inv g h) (o:Oper) {ds:List D} {d:D} {h':Z} (p:aW g (o.op.operands.toList.map ρ) ds) (a:mN T h o.op ds=some (d,h')):kF P ρ o g h' d:=by
 obtain⟨dst,ar,ty,pos,af,gd⟩:=o;simp only at p a;have ad:∀{b k:Operand} {X aa:D},aW g [ρ b,ρ k] [X,aa]→aB g (ρ b) X∧aB g (ρ k) aa:=λaj=>by
  cases aj with
  | cons H s=>cases s with
   |cons I s=>exact⟨H,I⟩
 cases ar<;>simp only[mN]at a
 case store e b k =>
  split at a
  ·rename_i au i;obtain⟨c,q⟩:=ad p;cases A:bZ T h e au i with
   |none=>rw[A]at a;cases a
   | some H =>
    rw[A]at a;injection a with a;injection a with m n;subst m;subst n;exact G5 j hi c q A
  ·cases a
 case alloc ab =>
  split at a
  ·rename_i ac L;split at a
   ·rename_i an;injection a with a;injection a with m n;subst m;subst n;exact GH j hi L an
   ·cases a
  ·cases a
 case box ab b =>
  split at a
  ·rename_i ac r L;obtain⟨i,B,c⟩:=pt p;simp[Op.operands]at B;subst B;split at a
   ·rename_i ai;obtain⟨gm,fu,iX⟩:=ai;injection a with a;injection a with m n;subst m;subst n;exact GK j hi c gm fu iX
   ·cases a
  ·cases a
 case buildSlice e N Q =>
  have:(Op.operands (.buildSlice e N Q)).toList.map ρ=Q.toList.map λb=>ρ b.2:=by simp[Op.operands]
  rw[this]at p;cases l:lB T e N (Q.toList.map (·.1)) ds with
  |none=>rw[l]at a;cases a
  | some R =>
   rw[l]at a;obtain⟨av,bc,a9⟩:=R;injection a with a;injection a with m n;subst m;subst n;exact GX j hi p l
 case slice e b a6 a3 aq =>
  cases aq with
  |none=>cases a
  |some M=>exact GO j hi p a
 case makeSlice e N M =>
  split at a
  ·obtain⟨c,q⟩:=ad p;exact GY j hi c q a
  ·cases a
 case convert ba e b =>
  split at a
  ·rename_i ac a4 f A L;obtain⟨i,B,c⟩:=pt p;simp[Op.operands]at B;subst B;split at a
   ·rename_i ab ao ap;split at a
    ·rename_i a5 ak;split at a
     ·rename_i al;split at a
      ·rename_i f;split at a
       ·rename_i am;injection a with a;injection a with m n;subst m;subst n;exact G7 j hi c A ao L ap ak al am
       ·cases a
      ·cases a
     ·cases a
    ·cases a
   ·exact G0 j hi c a
   ·cases a
  ·cases a
 case call M =>
  obtain⟨ah,args,E⟩:=M;simp only at a;cases ah with
  |value a2=>simp at a
  |invoke s a7=>simp at a
  | builtin ag =>
   have K:aW g (args.toList.map ρ) ds:=by simpa[Op.operands,Call.operands]using p
   have ae:∀{r u:D} {e F:Nat},ds=[r,u]→E.toList=[e,F]→∃b k,args = #[b,k]∧E = #[e,F]∧aB g (ρ b) r∧aB g (ρ k) u:=λ{r u e F} H I=>by
    subst H;have l:=K.length;obtain⟨f⟩:=args;obtain⟨R⟩:=E;simp only at I;subst I;cases f with
    |nil=>simp at l
    | cons b f=>cases f with
     |nil=>simp at l
     | cons k f=>cases f with
      | nil =>
       cases K with
       | cons c s=>cases s with
        |cons q s=>exact⟨b,k,rfl,rfl,c,q⟩
      |cons bd f=>simp at l
   cases ag<;>simp only at a
   case append =>
    split at a
    ·rename_i r u e F t;obtain⟨b,k,rfl,rfl,c,q⟩:=ae rfl t;obtain⟨i,G,v,z,C,w,x,y⟩:=FC (ty:=ty) j hi c q a;exact⟨.value i,G,v,by simp[execOp,resolve,invoke,builtin,z],C,w,x,.inl ⟨i,rfl,y⟩⟩
    ·cases a
   case copy =>
    split at a
    ·rename_i r u e F t;obtain⟨b,k,rfl,rfl,c,q⟩:=ae rfl t;obtain⟨i,G,v,z,C,w,x,y⟩:=Gu (ty:=ty) j hi c q a;exact⟨.value i,G,v,by simp[execOp,resolve,invoke,builtin,z],C,w,x,.inl ⟨i,rfl,y⟩⟩
    ·cases a
   case clear =>
    split at a
    ·rename_i r e t;obtain⟨b,rfl,rfl,c⟩:∃b,args = #[b]∧E = #[e]∧aB g (ρ b) r:=by
      have l:=K.length;obtain⟨f⟩:=args;obtain⟨R⟩:=E;simp only at t;subst t;cases f with
      |nil=>simp at l
      | cons b f=>cases f with
       | nil =>
        cases K with
        |cons c s=>exact⟨b,rfl,rfl,c⟩
       |cons k f=>simp at l
     obtain⟨i,G,v,z,C,w,x,y⟩:=Gl (ty:=ty) j hi c a;exact⟨.value i,G,v,by simp[execOp,resolve,invoke,builtin,z],C,w,x,.inl ⟨i,rfl,y⟩⟩
    ·cases a
   all_goals cases a
 all_goals cases a
end wr
def lG:Unit:=()
def gm:Unit:=lG
def fu:Unit:=gm
def iX:Unit:=fu
def Ky:Unit:=iX
def Kz:Unit:=Ky
def KA:Unit:=Kz
def KB:Unit:=KA
def KC:Unit:=KB
def sW:Unit:=KC
def Ka:Unit:=sW
def Kb:Unit:=Ka
def Kc:Unit:=Kb
def Ke:Unit:=Kc
def Kf:Unit:=Ke
def Kg:Unit:=Kf
def Kh:Unit:=Kg
def Ki:Unit:=Kh
def Kj:Unit:=Ki
def Kk:Unit:=Kj
def Kl:Unit:=Kk
def Km:Unit:=Kl
def Kn:Unit:=Km
def Ko:Unit:=Kn
def Kq:Unit:=Ko
def Kr:Unit:=Kq
def Kt:Unit:=Kr
def Ku:Unit:=Kt
def Kv:Unit:=Ku
def Kw:Unit:=Kv
def Kx:Unit:=Kw
def sY{b:Sort _}(a:b):b:=(λ_:Unit=>a) Kx
theorem v7{b:Sort _}(a:b):sY a=a:=rfl
abbrev cE:=FuncId→List D→Z→Option (D × Z)
structure Cx where
 T:bD
 gl:Nat→Option D
 xt:cE
def hh(X:Cx)(e:DE):Operand→Option D
 |.tmp t=>bK e t
 |.const v=>some (ofConst v)
 |.global i=>X.gl i
 |.func f=>some (.fn (.func f) [] [])
def jI(X:Cx)(e:DE):List Operand→Option (List D)
 |[]=>some []
 | x::r=>match hh X e x with
  | some d=>match jI X e r with
   |some ds=>some (d::ds)
   |none=>none
  |none=>none
def gd(g:D)(b:Bool)(x:Option D):Option D:=match g with
 | .bool a=>match a==b with
  |true=>x
  |false=>some .bG
 |.bG=>some .bG
 |_=>none
def e7(g:D)(b:Bool)(h:Z)(x:Option (D × Z)):Option (D × Z):=match g with
 | .bool a=>match a==b with
  |true=>x
  |false=>some (.bG,h)
 |.bG=>some (.bG,h)
 |_=>none
def bP (n0:Nat) (h:Z):Nat→D→D
 |0,d=>d
 | n+1,d=>match d with
  | .S V o r k=>match Nat.ble n0 o with
   | true=>match h[o]? with
    |some (.row _ _ rows) =>.sl V false (((rows.drop r).take k).map λrow=>row.map (bP n0 h n))
    |_ =>.S V o r k
   |false =>.S V o r k
  |.agg cs =>.agg (cs.map (bP n0 h n))
  |.bN cs =>.bN (cs.map (bP n0 h n))
  |.sl V f rows =>.sl V f (rows.map λrow=>row.map (bP n0 h n))
  |d=>d
def snap(h:Z):Nat→D→D
 |0,d=>d
 | n+1,d=>match d with
  | .S V o r k=>match h[o]? with
   |some (.row _ _ rows) =>.sl V false (((rows.drop r).take k).map λrow=>row.map (snap h n))
   |_ =>.S V o r k
  |.agg cs =>.agg (cs.map (snap h n))
  |d=>d
def D.py:D→Bool
 |.bool _|.int _ _|.str _|.gb|.J|.bG=>true
 |_=>false
def D.yf:D→Bool
 |.bN ds=>ds.all D.py
 |d=>d.py
def kf(b:cE)(f:FuncId)(args:List D)(h:Z):Option (D × Z):=match b f (args.map (snap h 3)) (h.map λ_ =>.dead)with
 | some (a,_)=>match a.yf with
  |true=>some (a,h)
  |false=>none
 |none=>none
def AW(a:cE)(f:FuncId)(args:List D)(h:Z):Option (D × Z):=a f (args.map (bP 0 h 3)) (h.map λ_ =>.dead)
def gk(T:bD)(b:cE)(m:String)(ds:List D)(h:Z):Option (D × Z):=match ds with
 | .iface e c::a=>match q7 T e m with
  |some d=>b d (c::a) h
  |none=>none
 |_=>none
def calls(b:Nat)(a:cE)(f:FuncId)(args:List D)(h:Z):Option (D × Z):=match b with
 |0=>a f args h
 |1=>kf a f args h
 |_=>AW a f args h
def jD(T:bD)(a:cE)(g:Nat)(o:Op)(ds:List D)(h:Z):Option (D × Z):=sY (match o with
 | .call c=>match c.callee with
  | .value _=>match ds with
   |.fn (.func e) first d::b=>calls g a e (first++b++d) h
   |_=>none
  |.invoke _ f=>gk T a f ds h
  |_=>none
 |_=>none)
def nJ(n0:Nat)(h:Z):Z:=h.take n0++(h.drop n0).map λ_ =>.dead
def Az(p:D × Z):D × Z:=match p.1 with
 |.S _ a _ _=>(bP a p.2 3 p.1,nJ a p.2)
 |_=>p
def Ay(n0:Nat)(p:D × Z):D × Z:=match p.1 with
 |.S d b c a=>(bP n0 p.2 3 (.S d b c a),nJ n0 p.2)
 |_=>p
def nZ(c:Nat)(T:bD)(h:Z)(a:Op)(ds:List D):Option (D × Z):=match c with
 |2=>mN T (h.map λ_ =>.dead) a (ds.map (bP 0 h 3))
 |3=>(mN T h a ds).bind λb=>some (Az b)
 |d+4=>(mN T h a ds).bind λb=>some (Ay d b)
 |_=>mN T h a ds
def k7 (o:Option Nat) (l:List Nat):Nat:=match o with
 | some a=>match l.any (Nat.beq a)with
  |true=>1
  | false=>match l.any (Nat.beq (a+1000000))with
   |true=>2
   | false=>match l.any (Nat.beq (a+2000000))with
    |true=>3
    | false=>match l.find? (λb=>Nat.ble 3000000 b&&Nat.beq ((b - 3000000) % 10000) a)with
     |some b=>(b - 3000000) / 10000+4
     |none=>0
 |none=>0
section
variable {R:Type}
def gJ(c:Nat)(dst:Option Nat)(d:D)(e:DE)(h:Z)(a:DE→Z→Option R):Option R:=match dst with
 |none=>a e h
 | some b=>match Nat.blt b c with
  |true=>a ((b,d)::e) h
  |false=>none
def tm(b:Op)(ds:List D):Option D:=match b,ds with
 |.move _,[a]=>some a
 |.assign _,[a]=>some a
 |_,_=>none
def jN (X:Cx) (k:cE) (d:Nat) (fz i:List Nat) (l:List Oper) (o:Oper) (e:DE) (h:Z) (c:DE→Z→Option R):Option R:=
 match jI X e o.op.operands.toList with
 |none=>none
 | some f=>match o.guard with
  | none=>match tm o.op f with
   |some a=>gJ d o.dst a e h c
   | none=>match dP X.T fz o with
    |.pure=>(jP X.T o.op f).bind λa=>gJ d o.dst a e h c
    |.read=>(ky X.T h o.op f).bind λa=>gJ d o.dst a e h c
    |.write=>(nZ (k7 o.dst i) X.T h o.op f).bind λb=>gJ d o.dst b.1 e b.2 c
    |.call=>(jD X.T k (k7 o.dst i) o.op f h).bind λb=>gJ d o.dst b.1 e b.2 c
    |.fa=>(qT X.T o.op).bind λa=>gJ d o.dst a e h c
  | some (m,g)=>match(l[m]?).bind (·.dst)with
   |none=>none
   | some n=>match bK e n with
    |none=>none
    | some j=>match dP X.T fz o with
     |.pure=>(gd j g (jP X.T o.op f)).bind λa=>gJ d o.dst a e h c
     |.read=>(gd j g (ky X.T h o.op f)).bind λa=>gJ d o.dst a e h c
     |.write=>(e7 j g h (nZ (k7 o.dst i) X.T h o.op f)).bind λb=>gJ d o.dst b.1 e b.2 c
     |.call=>(e7 j g h (jD X.T k (k7 o.dst i) o.op f h)).bind λb=>gJ d o.dst b.1 e b.2 c
     |.fa=>none
def oT(fz:List Nat)(o p:Oper):Option (Nat × Nat × Operand):=match o.op,o.dst,o.guard,p.op,p.dst,p.guard with
 | .alloc b,some a,none,.store e (.tmp d) c,none,none=>match Nat.beq b e&&Nat.beq a d&&fz.any (Nat.beq a)&&(match c with
  |.tmp f => !(Nat.beq f a)
  |_=>true)with
  |true=>some (b,a,c)
  |false=>none
 |_,_,_,_,_,_=>none
def im(V:Nat)(v:D):Option D:=match v.fk&&Nat.beq (cG v).length V with
 |true=>some (.aD (cG v))
 |false=>none
def gv(X:Cx)(f:cE)(b:Nat)(fz c:List Nat)(l:List Oper):List Oper→DE→Z→(DE→Z→Option R)→Option R
 |[],e,h,a=>a e h
 |[o],e,h,a=>jN X f b fz c l o e h a
 | o::p::r,e,h,a=>match oT fz o p with
  | some (E,d,x)=>match hh X e x,X.T E with
   |some v,some i=>(im i.V v).bind λg=>gJ b (some d) g e h λe' h'=>gv X f b fz c l r e' h' a
   |_,_=>none
  |none=>jN X f b fz c l o e h λe' h'=>gv X f b fz c l (p::r) e' h' a
def gn(T:bD)(fz:List Nat)(o:Oper):Bool:=match dP T fz o with
 |.write|.call=>true
 |_=>false
def lH(T:bD)(fz:List Nat)(o:Oper):Bool:=match dP T fz o with
 |.read=>true
 |_=>false
def dD(T:bD)(fz:List Nat)(l:List Oper)(i:Nat):Bool:=match l[i]? with
 |some a=>gn T fz a
 |none=>false
def lg(X:Cx)(d:cE)(f:Nat)(fz c:List Nat)(l:List Oper):List Oper→DE→Z→List Z→(DE→Z→List Z→Option R)→Option R
 |[],e,h,a,b=>b e h a
 | o::r,e,h,a,b=>jN X d f fz c l o e h λe' h'=>lg X d f fz c l r e' h' (match gn X.T fz o with
  |true=>a++[h']
  |false=>a) b
def h9(l:List Oper):List Nat:=(Region.before l.toArray).toList
def hI(O:List Nat)(i j:Nat):Bool:=(O.getD i 0).testBit j
def looks(l:List Oper)(o:Oper):List Nat:=(o.op.operands.toList.filterMap fun|.tmp b=>some b|_=>none)++(match o.guard with
 |some (a,_)=>((l[a]?).bind (·.dst)).toList
 |none=>[])
def dQ(l:List Oper):Nat:=(List.range l.length).foldr (λa b=>match Nat.beq b (a+1)&&(List.range a).all (λc=>jM c (jh l.toArray a))with
 |true=>a
 |false=>b) l.length
def xq(T:bD)(fz:List Nat)(l:List Oper)(j:Nat):Bool:=match l[j]? with
 | some a=>(match dP T fz a with
  |.pure=>true
  |_=>false)&&(match a.guard with
  |none=>true
  |some _=>false)&&(match a.dst with
  |some _=>true
  |none=>false)
 |none=>false
def Gy(T:bD)(fz:List Nat)(l:List Oper):Nat:=
 let O:=h9 l
 (List.range (dQ l)).foldr (λa c=>match Nat.beq c (a+1)&&(List.range a).all (λb=>hI O a b||xq T fz l b)with
 |true=>a
 |false=>c) (dQ l)
def Nj(l:List Oper):Bool:=(List.range (dQ l)).any λa=>match l[a]? with
 | some b=>(match b.op,b.dst with
  | .assign _,some e=>(List.range a).any λc=>match l[c]? with
   |some d=>jM e (looks l d)
   |none=>false
  |_,_=>false)
 |none=>false
def early(fz:List Nat)(l:List Oper):Bool:=(l.take (dQ l)).any λa=>match a.op with
 |.store _ (.tmp b) _=>fz.any (Nat.beq (b+1000000))
 |_=>false
def Oz(T:bD)(fz:List Nat)(l:List Oper):Nat:=match early fz l||Nj l with
 |true=>Gy T fz l
 |false=>dQ l
def jL(m:Nat)(l:List Oper)(j:Nat):Bool:=(List.range (dQ l)).any λa => !(Nat.blt a m) && !(hI (h9 l) a j)
def Ds(l:List Oper)(k j:Nat):Bool:=match l[k]?,l[j]? with
 | some a,some b=>(match a.dst with
  |some c => !(jM c (looks l b))
  |none=>true)
 |_,_=>true
def EH(m:Nat)(l:List Oper)(j:Nat):Bool:=match l[j]? with
 | some c=>(looks l c).all λe=>(List.range m).all λa=>match l[a]? with
  | some d=>(match d.dst with
   |some b => !(Nat.beq b e) || !(jL m l a)
   |none=>true)
  |none=>true
 |none=>true
def Dq(fz:List Nat)(l:List Oper)(k:Nat):Bool:=match l[k]?,l[k+1]? with
 | some a,some b=>(match oT fz a b with
  |some _=>false
  |none=>true)
 |_,_=>true
def qR(T:bD)(fz:List Nat)(m:Nat)(l:List Oper):Bool:=
 ((List.range (dQ l)).all λb=>Nat.blt b m||(List.range b).all λa=>jM a (jh l.toArray b)||(Nat.blt a m&&Ds l b a)) &&
 ((List.range m).all λa => !(jL m l a)||(xq T fz l a&&EH m l a)) &&
 ((List.range (dQ l)).all λb=>Nat.blt b m||Dq fz l b)
def Bh (T:bD) (fz:List Nat) (e m:Nat) (l:List Oper):Bool:=
 let O:=h9 l
 let c:=(List.range m).filter (dD T fz l)
 Nat.ble m (dQ l)&&Nat.ble (dQ l) l.length&&mD e l&&yp (dQ l) l &&
 ((List.range (dQ l)).all λa=>match l[a]? with
  | some f=>(looks l f).all λh=>(List.range m).all λb=>match l[b]? with
   | some g=>(match g.dst with
    |some d => !(Nat.beq d h)||hI O a b
    |none=>true)
   |none=>true
  |none=>true) &&
 (c.all λb=>c.all λa => !(Nat.blt a b)||hI O b a) &&
 (Nat.beq m (dQ l)||qR T fz m l)
def tV (T:bD) (fz:List Nat) (m:Nat) (l:List Oper):List (Nat × Nat):=
 let O:=h9 l
 let d:=(List.range m).filter (dD T fz l)
 (List.range m).flatMap λa=>match l[a]? with
  | some g=>match lH T fz g with
   | true =>
    let f:=(d.filter λb=>hI O a b).length
    let e:=(d.filter λb => !(hI O b a)).length
    let own:=(d.filter λb=>Nat.blt b a).length
    ((List.range (e+1)).filter λc=>Nat.ble f c && !(Nat.beq c own)).map λc=>(a,c)
   |false=>[]
  |none=>[]
def again(X:Cx)(l:List Oper)(o:Oper)(e:DE)(h:Z):Prop:=match jI X e o.op.operands.toList,o.dst with
 | some a,some b=>match o.guard with
  |none=>ky X.T h o.op a=bK e b
  | some (f,c)=>match(l[f]?).bind (·.dst)with
   |none=>False
   | some g=>match bK e g with
    |none=>False
    |some d=>gd d c (ky X.T h o.op a)=bK e b
 |_,_=>False
open Classical in
noncomputable def eL(p:Prop)(x:Option R):Option R:=if p then x else none
noncomputable def kg(X:Cx)(l:List Oper)(e:DE)(a:List Z):List (Nat × Nat)→Option R→Option R
 |[],x=>x
 | (i,k)::r,x=>match l[i]? with
  |some o=>eL (again X l o e (a.getD k [])) (kg X l e a r x)
  |none=>none
def jm(X:Cx)(fz:List Nat):List Oper→DE→Z→(DE→Z→Option R)→Option R
 |[],e,h,a=>a e h
 | o::r,e,h,a=>match dP X.T fz o,o.op,o.dst with
  | .fa,.alloc E,some t=>match X.T E with
   |some i=>jm X fz r ((t,.ptr h.length 0 0)::e) (aL h E i.V [i.zero]) a
   |none=>none
  |_,_,_=>jm X fz r e h a
noncomputable def kS(X:Cx)(c:cE)(a:Nat)(fz b:List Nat)(m:Nat)(l:List Oper)(e:DE)(h:Z)(f:DE→Z→Option R):Option R:=
 match Bh X.T fz a m l with
 |false=>none
 |true=>lg X c a fz b l (l.take m) e h [h] λd i k=>kg X l d k (tV X.T fz m l) (jm X fz (l.take m) d i λg j=>gv X c a fz b l (l.drop m) g j f)
end
inductive Ex where
 |aO|ext (id:Nat)|ret
def eP:Code→List Nat
 |.region _ c _=>c.toList.filterMap (·.dst)
 |.seq a b=>eP a++eP b
 |.cond _ a b=>eP a++eP b
 |.block _ b=>eP b
 |.loop b=>eP b
 |.scope b=>eP b
 |.rangeFunc _ ps a b=>ps.toList++eP a++eP b
 |_=>[]
def ov:Code→Bool
 |.exit _=>false
 |.ret=>false
 |.seq a b=>ov a&&ov b
 |.cond _ a b=>ov a||ov b
 |.loop _=>false
 |_=>true
def mi(id:Nat):Code→Bool
 |.exit i=>Nat.beq i id
 |.seq a b=>mi id a||mi id b
 |.cond _ a b=>mi id a||mi id b
 |.block _ b=>mi id b
 |.loop b=>mi id b
 |.scope b=>mi id b
 |_=>false
def gu(a:List Nat)(c:Code):List Nat:=a.filter λb=>jM b (eP c)
def mH(e:DE):List Nat→DE
 |[]=>[]
 | t::r=>match bK e t with
  |some d=>(t,d)::mH e r
  |none=>mH e r
def kz(a:List Nat)(c:Code)(e:DE):DE:=mH e (a.filter λb => !(jM b (eP c)))
def ie(e:DE):List Nat→List D
 |[]=>[]
 | t::r=>(match bK e t with
  |some d=>d
  |none =>.any)::ie e r
def qJ:List D→D
 |d::_=>d
 |[] =>.any
def rz:List D→List D
 |_::r=>r
 |[]=>[]
def gw:List Nat→List D→DE→DE
 |[],_,e=>e
 |t::a,ds,e=>(t,qJ ds)::gw a (rz ds) e
def bJ(id:Nat):Ex→Ex
 | .ext i=>match Nat.beq i id with
  |true =>.aO
  |false =>.ext i
 |x=>x
abbrev bT:=Ex × List D × Z
abbrev iT:=(List D→Z→Option bT)→List D→Z→Option bT
def aK{R:Type}(c:D)(a b:Option R):Option R:=match c with
 |.bool true=>a
 |.bool false=>b
 |_=>none
def toEnd{R:Type}(x:Ex)(n:Option R)(k:Ex→Option R):Option R:=sY (match x with
 |.aO=>n
 |x=>k x)
def cZ{R:Type}(x:Ex)(r:Option R):Option R:=sY (match x with
 |.ext _=>none
 |_=>r)
structure mP where
 nt:Nat
 aX:List Nat
 fz:List Nat
 eZ:List Nat
noncomputable def cK(X:Cx)(j:cE)(k:iT)(f:mP):Code→DE→Z→(R:Type)→(Ex→DE→Z→Option R)→Option R
 |.skip,e,h,R,g=>g .aO e h
 |.label _,e,h,R,g=>g .aO e h
 |.ret,e,h,R,g=>g .ret e h
 |.exit i,e,h,R,g=>g (.ext i) e h
 | .region _ l m,e,h,R,g=>match m with
  |false=>gv X j f.nt f.fz f.eZ l.toList l.toList e h (g .aO)
  |true=>kS X j f.nt f.fz f.eZ (Oz X.T f.fz l.toList) l.toList e h (g .aO)
 |.seq a b,e,h,R,g=>cK X j k f a e h R λx e' h'=>toEnd x (cK X j k f b e' h' R g) λx=>g x e' h'
 | .cond c a b,e,h,R,g=>match hh X e c with
  |none=>none
  | some d=>match ov a&&ov b with
   |true=>(aK d (cK X j k f a e h bT λx e' h'=>some (x,ie e' (gu f.aX (.cond c a b)),h')) (cK X j k f b e h bT λx e' h'=>some (x,ie e' (gu f.aX (.cond c a b)),h'))).bind λr =>
     g r.1 (gw (gu f.aX (.cond c a b)) r.2.1 (kz f.aX (.cond c a b) e)) r.2.2
   |false=>aK d (cK X j k f a e h R g) (cK X j k f b e h R g)
 | .block id b,e,h,R,g=>match mi id b with
  |true=>(cK X j k f b e h bT λx e' h'=>some (bJ id x,ie e' (gu f.aX b),h')).bind λr=>g r.1 (gw (gu f.aX b) r.2.1 (kz f.aX b e)) r.2.2
  |false=>cK X j k f b e h R λx e' h'=>g (bJ id x) e' h'
 |.loop b,e,h,R,g=>(k (λds h'=>cK X j k f b (gw (gu f.aX b) ds (kz f.aX b e)) h' bT λx e' n=>some (x,ie e' (gu f.aX b),n)) (ie e (gu f.aX b)) h).bind λr =>
   g r.1 (gw (gu f.aX b) r.2.1 (kz f.aX b e)) r.2.2
 |_,_,_,_,_=>none
end Go.Pi
namespace Go.Eng
abbrev bH:=@Option.bind_assoc
abbrev j7:=@List.getElem?_cons_zero
abbrev nk:=@Oper.upon_value
abbrev pW:=@List.mem_append_left
abbrev r2:=@Prod.mk.injEq
end Go.Eng
namespace Go.Pi
open Go.Eng
def fS (X:Cx) (g:cE) (fz d:List Nat) (l:List Oper) (o:Oper) (e:DE) (h:Z):Option (D × Z):=
 match jI X e o.op.operands.toList with
 |none=>none
 | some b=>match o.guard with
  | none=>match dP X.T fz o with
   |.pure=>(jP X.T o.op b).bind λa=>some (a,h)
   |.read=>(ky X.T h o.op b).bind λa=>some (a,h)
   |.write=>nZ (k7 o.dst d) X.T h o.op b
   |.call=>jD X.T g (k7 o.dst d) o.op b h
   |.fa=>(qT X.T o.op).bind λa=>some (a,h)
  | some (i,c)=>match(l[i]?).bind (·.dst)with
   |none=>none
   | some j=>match bK e j with
    |none=>none
    | some f=>match dP X.T fz o with
     |.pure=>(gd f c (jP X.T o.op b)).bind λa=>some (a,h)
     |.read=>(gd f c (ky X.T h o.op b)).bind λa=>some (a,h)
     |.write=>e7 f c h (nZ (k7 o.dst d) X.T h o.op b)
     |.call=>e7 f c h (jD X.T g (k7 o.dst d) o.op b h)
     |.fa=>none
theorem MI{T:bD}{fz:List Nat}{o:Oper}{ds:List D}{d:D}(h:tm o.op ds=some d):dP T fz o = .pure∧jP T o.op ds=some d:=by
 unfold tm at h;split at h
 ·rename_i a;injection h with h;subst h;simp only[dP,jP,a,gz]
 ·rename_i a;injection h with h;subst h;simp only[dP,jP,a,gz]
 ·cases h
theorem tn{R:Type}(X:Cx)(c:cE)(d:Nat)(fz b:List Nat)(l:List Oper)(o:Oper)(e:DE)(h:Z)(a:DE→Z→Option R):
  jN X c d fz b l o e h a=(fS X c fz b l o e h).bind λp=>gJ d o.dst p.1 e p.2 a:=by
 unfold jN fS;cases jI X e o.op.operands.toList with
 |none=>rfl
 | some f =>
  simp only[];cases o.guard with
  | none =>
   simp only[];cases j:tm o.op f with
   | some r =>
    obtain⟨g,i⟩:=MI (T:=X.T) (fz:=fz) j;simp only[g,i,gy]
   | none =>
    simp only[];cases dP X.T fz o<;>simp only[bH,gy,Option.bind_none]
  | some m =>
   obtain⟨k,q⟩:=m;simp only[];cases(l[k]?).bind (·.dst)with
   |none=>rfl
   | some n =>
    simp only[];cases bK e n with
    |none=>rfl
    | some s =>
     simp only[];cases dP X.T fz o<;>simp only[bH,gy,Option.bind_none]
section
variable {P:Program} {X:Cx}
def eR(g:Gh)(gl:Nat→Option D):Prop:=∀b a,gl b=some a→aB g (.pointer (some ⟨b,0,none⟩)) a
theorem eR.ext{g g':Gh}{gl:Nat→Option D}(h:eR g gl)(c:aT g g'):eR g' gl:=λd a b=>(h d a b).ext c
theorem eR.hF{g g':Gh}{gl:Nat→Option D}(h:eR g gl)(c:iB g g'):eR g' gl:=λd a b=>(h d a b).hF c
def jo(P:Program)(f:FuncId)(vs:List Value)(g:Gh)(h':Z)(d:D):Prop:=
 ((callFunc f vs.toArray).run P g.w = .ok (.enter f vs.toArray) g.w∧kD P f vs.toArray g.w λb c=>∃a,a.w=c∧aT g a∧Inv a h'∧aB a b d) ∨
 ∃b a,(callFunc f vs.toArray).run P g.w = .ok (.value b) a.w∧aT g a∧Inv a h'∧aB a b d
def fV(P:Program)(X:Cx)(g:cE):Prop:=∀c args d b e,g c args d=some (b,e)→∀a f,Inv a d→eR a X.gl→aW a f args→jo P c f a e b
theorem qn{g:Gh}{e:DE}{a:Act}(c:eR g X.gl){x:Operand}{d:D}(f:∀t d,x = .tmp t→bK e t=some d→aB g (a.tmps.getD t undef) d)(h:hh X e x=some d):aB g (a.eval x) d:=by
 cases x with
 |tmp t=>exact f t d rfl h
 | const j =>
  simp only[hh,jT]at h;subst h;exact Ni g j
 |global i=>exact c i d h
 | func b =>
  simp only[hh,jT]at h;subst h;have:=aB.fn (g:=g) (.func b) [] [] [] [] rfl rfl (by simp) (by simp);simpa[Act.eval]using this
theorem BE{g:Gh}{e:DE}{a:Act}(c:eR g X.gl):∀{xs:List Operand} {ds:List D},(∀t d,.tmp t∈xs→bK e t=some d→aB g (a.tmps.getD t undef) d)→jI X e xs=some ds→aW g (xs.map a.eval) ds
 | [],ds,_,h=>by
  simp only[jI,jT]at h;subst h;exact .nil
 | x::r,ds,f,h=>by
  simp only[jI]at h;split at h
  ·rename_i d j;split at h
   ·rename_i k i;injection h with h;subst h;exact .cons (qn c (λt d b=>f t d (b▸gO ..)) j) (BE c (λt d b=>f t d (fG _ b)) i)
   ·cases h
  ·cases h
theorem Ot {g:Gh} {h:Z} (hi:Inv g h) {g1:Gh} (m:g1.w=g.w) (ad:g1.ms=g.ms) (N:∀b,¬g1.L b):∀(n:Nat) (v:Value) (d:D),aB g v d→aB g1 v (snap h n d):=by
 have G:iB g g1:=⟨by rw[m],by rw[m],by rw[m],by rw[m];exact aS _,λR z I=>by rw[ad];exact I,λb B=>⟨⟨by rw[m];exact B.1,N b⟩,by rw[m]⟩⟩
 intro n
 induction n with
 |zero=>intro v d s;exact s.hF G
 | succ n Q =>
  intro v d s;unfold snap;split
  ·rename_i aj R q E;split
   ·rename_i T M A af;obtain⟨z,U,rfl,ae,I,ao,an,al,ab⟩:=s.kr;obtain⟨ap,o,C,r⟩:=hi.live R T M A af;rw[I]at C;injection C with C;subst C;have ai:=r.fR;have am:=r.len;obtain⟨ak,B,_⟩:=r.fy;have aa:∀a,g1.w.cell? ⟨z.b,a,none⟩=o[a]?:=λa=>by rw[m];simp only[World.cell?,B];simp
    have ac:∀(a:Nat) (c:List D),(((A.drop q).take E).map λc=>c.map (snap h n))[a]?=some c→∃k,A[q+a]?=some k∧c=k.map (snap h n):=λa c i=>by
     rw[dB]at i;cases e:((A.drop q).take E)[a]? with
     |none=>rw[e]at i;cases i
     | some k =>
      rw[e]at i;injection i with i;rw[eY]at e;split at e
      ·rw[jw]at e;exact⟨k,e,i.symm⟩
      ·cases e
    have F:∀(a:Nat) (c:List D),(((A.drop q).take E).map λc=>c.map (snap h n))[a]?=some c→∀(f:Nat) (d:D),c[f]?=some d→∃v,o[(q+a)*M+f]?=some v∧v.oneCell'=true∧aB g1 v d:=λa c i f d j=>by
     obtain⟨k,u,rfl⟩:=ac a c i;rw[dB]at j;cases e:k[f]? with
     |none=>rw[e]at j;cases j
     | some t =>
      rw[e]at j;injection j with j;subst j;obtain⟨v,l,x,y⟩:=r.cell _ k u f t e;exact⟨v,l,x,Q v t y⟩
    have H:∀{K:Nat} {v:Value},o[K]?=some v→o.getD K undef=v:=λ{K v} e=>by rw[dS,e];rfl
    have X:z.b<g1.w.heap.size:=by rw[m];exact(gL.1 B).1
    refine .sl ⟨z.b,q*z.V,none⟩ E U aj false _ (by simp;omega) (by omega) ab (by simp) (by have:=r.pos;omega) (λc ag=>?_) (λ_=>⟨rfl,X,N _⟩) (λa f=>o.getD ((q+a)*M+f) undef) (λa c i f d j=>?_) (λa c i f d j=>?_) (λa c i f d j=>?_)
    ·obtain⟨k,u,rfl⟩:=eJ.1 ag;rw[gi,r.row k (j8 (gV u))];omega
    ·obtain⟨v,l,x,y⟩:=F a c i f d j;rw[H l,aa];rw[← l];congr 1;rw[← ae,ai,eK]
    ·obtain⟨v,l,x,y⟩:=F a c i f d j;rw[H l];exact x
    ·obtain⟨v,l,x,y⟩:=F a c i f d j;rw[H l];exact y
   ·exact s.hF G
  ·rename_i o;obtain⟨aq,rfl,P,u⟩:=s.nr;refine .pg (.of (by simp[P.length]) λf v d ah p=>?_) u;rw[dB]at p;cases e:o[f]? with
   |none=>rw[e]at p;cases p
   | some t =>
    rw[e]at p;injection p with p;subst p;exact Q v t (P.get f v t ah e)
  ·exact s.hF G
theorem py{g g':Gh}{v:Value}{d:D}(h:aB g v d)(a:d.py=true):aB g' v d:=by
 cases h<;>first|exact .bool _|exact .int _ _|exact .str _|exact .gb|exact .J|exact .bG|(cases a)
theorem Od{g g':Gh}{v:Value}{d:D}(h:aB g v d)(a:d.yf=true):aB g' v d:=by
 unfold D.yf at a;split at a
 ·rename_i i;obtain⟨j,rfl,c⟩:=h.yv;exact .tj (.of c.length λf v d e b=>py (c.get f v d e b) ((ff.1 a) d (eB b)))
 ·exact py h a
theorem vW {g:Gh} {h:Z} (hi:Inv g h) {n0:Nat} {g1:Gh} (t:g1.w=g.w) (aw:g1.ms=g.ms) (ag:∀b,g1.L b→g.L b∧((∃(o:Nat) (m:Me),o<n0∧g.ms[o]?=some m∧m.b=b∧∃T V rows,h[o]?=some (.row T V rows))∨∀(o:Nat) (m:Me),g.ms[o]?=some m→m.b≠b)):∀(n:Nat) (v:Value) (d:D),aB g v d→aB g1 v (bP n0 h n d):=by
 have F:iB g g1:=⟨by rw[t],by rw[t],by rw[t],by rw[t];exact aS _,λo m H=>by rw[aw];exact H,λb E=>⟨⟨by rw[t];exact E.1,λG=>E.2 (ag b G).1⟩,by rw[t]⟩⟩
 intro n
 induction n with
 |zero=>intro v d s;exact s.hF F
 | succ n P =>
  intro v d s;unfold bP;split
  ·rename_i V o z Q;split
   ·rename_i ap;split
    ·rename_i af R rows ak;have bg:=dL ap;obtain⟨m,U,rfl,ax,H,ai,bf,bd,X⟩:=s.kr;obtain⟨bi,r,N,A⟩:=hi.live o af R rows ak;rw[H]at N;injection N with N;subst N;have a6:=A.fR;have be:=A.len;obtain⟨bb,E,_⟩:=A.fy;have av:¬g1.L m.b:=λG=>by
      rcases(ag m.b G).2 with⟨M,a7,bh,a1,a2,al,ba,a9,a3⟩|a0
      ·have:=hi.inj M o al ba af R a9 rows a7 m a3 ak a1 H a2;omega
      ·exact a0 o m H rfl
     have ar:∀a,g1.w.cell? ⟨m.b,a,none⟩=r[a]?:=λa=>by rw[t];simp only[World.cell?,E];simp
     have ab:∀(a:Nat) (c:List D),(((rows.drop z).take Q).map λc=>c.map (bP n0 h n))[a]?=some c→∃j,rows[z+a]?=some j∧c=j.map (bP n0 h n):=λa c f=>by
      rw[dB]at f;cases i:((rows.drop z).take Q)[a]? with
      |none=>rw[i]at f;cases f
      | some j =>
       rw[i]at f;injection f with f;rw[eY]at i;split at i
       ·rw[jw]at i;exact⟨j,i,f.symm⟩
       ·cases i
     have x:∀(a:Nat) (c:List D),(((rows.drop z).take Q).map λc=>c.map (bP n0 h n))[a]?=some c→∀(e:Nat) (d:D),c[e]?=some d→∃v,r[(z+a)*R+e]?=some v∧v.oneCell'=true∧aB g1 v d:=λa c f e d k=>by
      obtain⟨j,q,rfl⟩:=ab a c f;rw[dB]at k;cases i:j[e]? with
      |none=>rw[i]at k;cases k
      | some l =>
       rw[i]at k;injection k with k;subst k;obtain⟨v,u,B,C⟩:=A.cell _ j q e l i;exact⟨v,u,B,P v l C⟩
     have aa:∀{M:Nat} {v:Value},r[M]?=some v→r.getD M undef=v:=λ{M v} i=>by rw[dS,i];rfl
     have ao:m.b<g1.w.heap.size:=by rw[t];exact(gL.1 E).1
     refine .sl ⟨m.b,z*m.V,none⟩ Q U V false _ (by simp;omega) (by omega) X (by simp) (by have:=A.pos;omega) (λc ac=>?_) (λ_=>⟨rfl,ao,av⟩) (λa e=>r.getD ((z+a)*R+e) undef) (λa c f e d k=>?_) (λa c f e d k=>?_) (λa c f e d k=>?_)
     ·obtain⟨j,q,rfl⟩:=eJ.1 ac;rw[gi,A.row j (j8 (gV q))];omega
     ·obtain⟨v,u,B,C⟩:=x a c f e d k;rw[aa u,ar];rw[← u];congr 1;rw[← ax,a6,eK]
     ·obtain⟨v,u,B,C⟩:=x a c f e d k;rw[aa u];exact B
     ·obtain⟨v,u,B,C⟩:=x a c f e d k;rw[aa u];exact C
    ·exact s.hF F
   ·exact s.hF F
  ·rename_i r;obtain⟨ae,rfl,y,q⟩:=s.nr;refine .pg (.of (by simp[y.length]) λe v d ad p=>?_) q;rw[dB]at p;cases i:r[e]? with
   |none=>rw[i]at p;cases p
   | some l =>
    rw[i]at p;injection p with p;subst p;exact P v l (y.get e v l ad i)
  ·rename_i r;obtain⟨ae,rfl,y⟩:=s.yv;refine .tj (.of (by simp[y.length]) λe v d ad p=>?_);rw[dB]at p;cases i:r[e]? with
   |none=>rw[i]at p;cases p
   | some l =>
    rw[i]at p;injection p with p;subst p;exact P v l (y.get e v l ad i)
  ·rename_i V an rows;cases s with
   | sl am a8 U V bc rows ai ay X au a5 ac ah ae aq q y =>
    have ab:∀(a:Nat) (c:List D),(rows.map λc=>c.map (bP n0 h n))[a]?=some c→∃j,rows[a]?=some j∧c=j.map (bP n0 h n):=λa c f=>by
     rw[dB]at f;cases i:rows[a]? with
     |none=>rw[i]at f;cases f
     | some j =>
      rw[i]at f;injection f with f;exact⟨j,rfl,f.symm⟩
    have x:∀(a:Nat) (c:List D),(rows.map λc=>c.map (bP n0 h n))[a]?=some c→∀(e:Nat) (d:D),c[e]?=some d→∃j l,rows[a]?=some j∧j[e]?=some l∧d=bP n0 h n l:=λa c f e d k=>by
     obtain⟨j,q,rfl⟩:=ab a c f;rw[dB]at k;cases i:j[e]? with
     |none=>rw[i]at k;cases k
     | some l =>
      rw[i]at k;injection k with k;exact⟨j,l,q,i,k.symm⟩
    refine .sl am a8 U V an _ (by simpa using ai) ay X au a5 (λc a4=>?_) (λaz=>?_) ae (λa c f e d k=>?_) (λa c f e d k=>?_) (λa c f e d k=>?_)
    ·obtain⟨j,q,rfl⟩:=eJ.1 a4;rw[gi];exact ac j q
    ·have aj:rows≠[]:=λG=>az (by rw[G];rfl)
     exact⟨(ah aj).1,(F.fz _ (ah aj).2).1⟩
    ·obtain⟨j,l,I,K,rfl⟩:=x a c f e d k;rw[t];exact aq a j I e l K
    ·obtain⟨j,l,I,K,rfl⟩:=x a c f e d k;exact q a j I e l K
    ·obtain⟨j,l,I,K,rfl⟩:=x a c f e d k;exact P _ l (y a j I e l K)
  ·exact s.hF F
theorem F8{A:cE}(M:fV P X A){f:FuncId}{args:List D}{h h':Z}{d:D}(m:kf A f args h=some (d,h')):∀g vs,Inv g h→eR g X.gl→aW g vs args→jo P f vs g h' d:=by
 unfold kf at m;split at m
 ·rename_i B i N;split at m
  ·rename_i ae;injection m with m;injection m with Q R;subst Q;subst R;intro g vs t aa H
   let g1:Gh:=⟨g.w,g.ms,λ_=>False⟩
   have T:iB g g1:=⟨rfl,rfl,rfl,aS _,λn ao v=>v,λb j=>⟨⟨j.1,λs=>s⟩,rfl⟩⟩
   have F:∀(n o r:Nat) (r1:List (List D)),(h.map λ_=>Ob.dead)[n]?≠some (.row o r r1):=λn o r r1 a=>by
    rw[dB]at a;cases I:h[n]? with
    |none=>rw[I]at a;cases a
    |some al=>rw[I]at a;injection a with a;cases a
   have ab:Inv g1 (h.map λ_ =>.dead):=⟨by show g.ms.length=_;simp[t.len],λn o r r1 a=>absurd a (F n o r r1),λn ar o r am av r1 au ap aq u=>absurd u (F n o r r1),λb j=>j.elim,t.msb⟩
   have ac:aW g1 vs (args.map (snap h 3)) :=.of (by simp[H.length]) λK k al u i=>by
    rw[dB]at i;cases a:args[K]? with
    |none=>rw[a]at i;cases i
    | some C =>
     rw[a]at i;injection i with i;subst i;exact Ot (g1:=g1) t rfl rfl (λ_ s=>s) 3 k C (H.get K k C u a)
   have E:∀(k:Value) (c:World),(∃l:Gh,l.w=c∧aT g1 l∧Inv l i∧aB l k B)→∃e:Gh,e.w=c∧aT g e∧Inv e h∧aB e k B:=by
    intro k c ⟨l,q,p,an,ad⟩;have x:∀b,b<g.w.heap.size→c.heap[b]?=g.w.heap[b]?:=λb j=>by
     rw[← q];exact(p.fz b ⟨j,λs=>s⟩).2
    let e:Gh:=⟨c,g.ms,g.L⟩
    have G:aT g e :=.q9 ⟨by show c.os=_;rw[← q];exact p.os,by show c.tape=_;rw[← q];exact p.tape,by show c.output=_;rw[← q];exact p.output,by show _≤c.heap.size;rw[← q];exact p.size,λ_ _ v=>v,λb j=>⟨⟨by show b<c.heap.size;rw[← q];exact hX j.1 p.size,j.2⟩,x b j.1⟩⟩ rfl rfl x;exact⟨e,rfl,G,t.same G rfl rfl x,Od ad ae⟩
   rcases M _ _ _ _ _ N g1 vs ab (aa.hF T) ac with⟨y,z⟩|⟨k,l,y,z,af,ag⟩
   ·exact .inl ⟨y,z.mono E⟩
   ·obtain⟨e,ah,ai,aj,ak⟩:=E k l.w ⟨l,rfl,z,af,ag⟩;exact .inr ⟨k,e,by rw[ah];exact y,ai,aj,ak⟩
  ·cases m
 ·cases m
theorem DG{g:Gh}{h:Z}(hi:Inv g h):∃g1:Gh,g1.w=g.w∧aT g g1∧Inv g1 (h.map λ_ =>.dead)∧∀n v d,aB g v d→aB g1 v (bP 0 h n d):=by
 let g1:Gh:=⟨g.w,g.ms,λe=>g.L e∧∀(c:Nat) (l:Me),g.ms[c]?=some l→l.b≠e⟩
 have j:∀(c f i:Nat) (r1:List (List D)),(h.map λ_=>Ob.dead)[c]?≠some (.row f i r1):=λc f i r1 b=>by
  rw[dB]at b;cases k:h[c]? with
  |none=>rw[k]at b;cases b
  |some z=>rw[k]at b;injection b with b;cases b
 refine⟨g1,rfl,⟨⟨rfl,rfl,rfl,aS _,λ_ _ p=>p,λe a=>⟨⟨a.1,λo=>a.2 o.1⟩,rfl⟩⟩,λe a=>⟨⟨a.1,⟨a.2.1,a.2.2⟩,a.2.2⟩,rfl⟩⟩,
  ⟨by show g.ms.length=_;simp[hi.len],λc f i r1 b=>absurd b (j c f i r1),λc u f i r y r1 x s t m=>absurd m (j c f i r1),λe a=>hi.L e a.1,hi.msb⟩,λn v d q=>?_⟩
 exact vW (g1:=g1) hi rfl rfl (λe a=>⟨a.1,.inr a.2⟩) n v d q
theorem xN{n0:Nat}{h:Z}{o T V:Nat}{rows:List (List D)}(a:(nJ n0 h)[o]?=some (.row T V rows)):o<n0∧h[o]?=some (.row T V rows):=by
 unfold nJ at a;by_cases d:o<(h.take n0).length
 ·rw[dY d,eY]at a;split at a
  ·rename_i c;exact⟨c,a⟩
  ·cases a
 ·rw[iC (by omega),dB]at a;cases b:(h.drop n0)[o - (h.take n0).length]? with
  |none=>rw[b]at a;cases a
  |some e=>rw[b]at a;injection a with a;cases a
theorem DJ{g:Gh}{h:Z}(hi:Inv g h)(n0:Nat):∃g1:Gh,g1.w=g.w∧aT g g1∧Inv g1 (nJ n0 h)∧∀n v d,aB g v d→aB g1 v (bP n0 h n d):=by
 let g1:Gh:=⟨g.w,g.ms,λe=>g.L e∧((∃(b:Nat) (f:Me),b<n0∧g.ms[b]?=some f∧f.b=e∧∃p P M,h[b]?=some (.row p P M))∨∀(b:Nat) (f:Me),g.ms[b]?=some f→f.b≠e)⟩
 have A:(nJ n0 h).length=h.length:=by simp[nJ];omega
 have o:aT g g1:=⟨⟨rfl,rfl,rfl,aS _,λ_ _ i=>i,λe a=>⟨⟨a.1,λz=>a.2 z.1⟩,rfl⟩⟩,λe a=>⟨⟨a.1,⟨a.2.1,.inr a.2.2⟩,a.2.2⟩,rfl⟩⟩
 refine⟨g1,rfl,o,
  ⟨by show g.ms.length=_;rw[A];exact hi.len,λb k m r1 j=>?_,λb H k m q N r1 I F G s l=>hi.inj b H k m q N r1 I F G (xN s).2 (xN l).2,λe a=>hi.L e a.1,hi.msb⟩,λn v d C=>?_⟩
 ·obtain⟨B,j⟩:=xN j;obtain⟨f,r,i,c⟩:=hi.live b k m r1 j;refine⟨f,r,i,c.fy,c.fR,c.pos,⟨c.hL,.inl ⟨b,f,B,i,rfl,_,_,_,j⟩⟩,c.len,c.le,c.room,c.row,λD K l E d t=>?_⟩;obtain⟨v,u,x,y⟩:=c.cell D K l E d t;exact⟨v,u,x,y.ext o⟩
 ·exact vW (g1:=g1) hi rfl rfl (λe a=>a) n v d C
theorem DP{g g1:Gh}{h:Z}(c:∀n v d,aB g v d→aB g1 v (bP 0 h n d)){vs:List Value}{ds:List D}(b:aW g vs ds):aW g1 vs (ds.map (bP 0 h 3)):=by
 induction b with
 |nil=>exact .nil
 |cons a _ e=>exact .cons (c 3 _ _ a) e
theorem Gd{i:cE}(l:fV P X i){f:FuncId}{args:List D}{h h':Z}{d:D}(m:AW i f args h=some (d,h')):∀g vs,Inv g h→eR g X.gl→aW g vs args→jo P f vs g h' d:=by
 intro g vs o n q;obtain⟨k,r,b,p,s⟩:=DG o;have:=l _ _ _ _ _ m k vs p (n.ext b) (DP s q);unfold jo at this ⊢;rw[r]at this;rcases this with⟨c,e⟩|⟨j,a,c,e,t,u⟩
 ·exact .inl ⟨c,e.mono λj z ⟨a,v,w,x,y⟩=>⟨a,v,b.trans w,x,y⟩⟩
 ·exact .inr ⟨j,a,c,b.trans e,t,u⟩
theorem Gf{c:cE}(b:fV P X c){e:Nat}{f:FuncId}{args:List D}{h h':Z}{d:D}(a:calls e c f args h=some (d,h')):∀g vs,Inv g h→eR g X.gl→aW g vs args→jo P f vs g h' d:=by
 unfold calls at a;split at a
 ·exact b _ _ _ _ _ a
 ·exact F8 b a
 ·exact Gd b a
theorem Pj(v:cC P X.T){g:Gh}{h h':Z}(hi:Inv g h){ρ:Operand→Value}{F:Nat}(o:Oper){ds:List D}{d:D}(w:aW g (o.op.operands.toList.map ρ) ds)(a:nZ F X.T h o.op ds=some (d,h')):kF P ρ o g h' d:=by
 unfold nZ at a;split at a
 ·obtain⟨u,r,p,q,s⟩:=DG hi;obtain⟨k,l,m,b,j,c,e,i⟩:=tX v q o (DP s w) a;rw[r]at b;exact⟨k,l,m,b,j,p.trans c,e,i⟩
 ·cases f:mN X.T h o.op ds with
  |none=>rw[f]at a;cases a
  | some z =>
   rw[f]at a;obtain⟨C,E⟩:=z;simp only[gy,jT]at a;obtain⟨k,l,m,b,j,c,e,i⟩:=tX v hi o w f;unfold Az at a;split at a
   ·rename_i I B r1 H n;simp only[r2]at a;obtain⟨rfl,rfl⟩:=a;obtain⟨u,r,p,q,s⟩:=DJ e B;refine⟨k,l,u,b,by rw[r];exact j,c.trans p,q,?_⟩;rcases i with⟨A,t,y⟩|⟨t,x⟩
    ·exact .inl ⟨A,t,s 3 _ _ y⟩
    ·simp only at n;rw[n]at x;cases x
   ·simp only[r2]at a;obtain⟨rfl,rfl⟩:=a;exact⟨k,l,m,b,j,c,e,i⟩
 ·rename_i G;cases f:mN X.T h o.op ds with
  |none=>rw[f]at a;cases a
  | some z =>
   rw[f]at a;obtain⟨C,E⟩:=z;simp only[gy,jT]at a;obtain⟨k,l,m,b,j,c,e,i⟩:=tX v hi o w f;unfold Ay at a;split at a
   ·rename_i I B r1 H n;simp only[r2]at a;obtain⟨rfl,rfl⟩:=a;obtain⟨u,r,p,q,s⟩:=DJ e G;refine⟨k,l,u,b,by rw[r];exact j,c.trans p,q,?_⟩;simp only at n;subst n;rcases i with⟨A,t,y⟩|⟨t,x⟩
    ·exact .inl ⟨A,t,s 3 _ _ y⟩
    ·cases x
   ·simp only[r2]at a;obtain⟨rfl,rfl⟩:=a;exact⟨k,l,m,b,j,c,e,i⟩
 ·exact tX v hi o w a
theorem MH(b:cC P X.T){t:Nat}{m:String}{f:FuncId}(e:q7 X.T t m=some f){v:Value}{w:World}:(method (P.types.size+Made.depth) t v m).run P w = .ok (f,v) w:=by
 obtain⟨k,n,j,a,c,h,i,g⟩:=Dl b e;obtain⟨l,d⟩:=Dk P;simp only[fg,run_program,fp,d,method,typeInfo,a,gH,c,h,follow,gZ,i,receiverAt,cQ g,Place.get]
theorem yw{o:Oper}{y:Nat→Option Bool}(h:o.guard=none):Region.wanted o y=true:=by simp[Region.wanted,h]
theorem Ps{d:Array Oper}{a:Array Value}{j t:Nat}{c:Bool}(e:(d[j]?).bind (·.dst)=some t)(h:a.getD t undef = .bool c):yielded d a j=some c:=by
 simp only[yielded,e,gy];rw[dS]at h;cases b:a[t]? with
 |none=>rw[b]at h;cases h
 |some f=>rw[b]at h;simp at h;subst h;rfl
theorem Pt{b:Array Oper}{a:Array Value}{j t:Nat}(c:(b[j]?).bind (·.dst)=some t)(h:a.getD t undef=undef):yielded b a j=none:=by
 simp only[yielded,c,gy];rw[dS]at h;cases d:a[t]? with
 |none=>rfl
 |some e=>rw[d]at h;simp at h;subst h;rfl
def ot(P:Program)(b:Array Oper)(Q:Exit→Act→World→Prop)(o:Oper)(a:Act)(g:Gh)(next:Act→World→Prop):Prop:=
 (Region.wanted o (yielded b a.tmps)=true∧o.wp P a g.w next Q)∨(Region.wanted o (yielded b a.tmps)=false∧next (a.put o.dst undef) g.w)
def Zb(g:Gh)(b:Nat)(E:TypeId)(i:TI):Prop:=∃a:Array Value,g.w.heap[b]?=some (.cells a E (0,0))∧a.size=i.V∧∀(e:Nat) (d:D),i.zero[e]?=some d→∃c,a[e]?=some c∧c.oneCell'=true∧∀g,aB g c d
def kL(T:bD)(d g':Gh)(o:Oper)(v:Value):Prop:=∃b c a,o.op = .alloc b∧T b=some c∧0<c.V∧v = .pointer (some ⟨a,0,none⟩)∧d.w.heap.size≤a∧g'.lim a∧Zb g' a b c
theorem kL.ext{T:bD}{b g g':Gh}{o:Oper}{v:Value}(h:kL T b g o v)(d:aT g g'):kL T b g' o v:=by
 obtain⟨e,r,a,i,j,k,l,m,c,f,n,p,q⟩:=h;exact⟨e,r,a,i,j,k,l,m,(d.lim a c).1,f,(d.lim a c).2.trans n,p,q⟩
theorem kL.MR{T:bD}{a g g':Gh}{o:Oper}{v:Value}(h:kL T g g' o v)(l:a.w.heap.size≤g.w.heap.size):kL T a g' o v:=by
 obtain⟨b,m,c,d,e,f,i,j,k⟩:=h;exact⟨b,m,c,d,e,f,i,gX l j,k⟩
theorem Ll(N:cC P X.T){g:Gh}{h:Z}(hi:Inv g h){o:Oper}{d:D}(a:qT X.T o.op=some d)(ρ:Operand→Value):d = .any∧∃v w' g',(execOp ρ o).run P g.w = .ok (.value v) w'∧g'.w=w'∧aT g g'∧Inv g' h∧kL X.T g g' o v:=by
 unfold qT at a;split at a
 case h_2=>cases a
 rename_i y C;split at a
 case h_2=>cases a
 rename_i p z;split at a
 case h_2=>cases a
 rename_i b;injection a with a;have R:0<p.V:=dL b;obtain⟨s,aa,ac,ab,F⟩:=N.mO z;obtain⟨af,ah,aj,ai,ae,gd⟩:=o;simp only at C;subst C
 let g':Gh:=⟨g.w.alloc (.cells s.cells y),g.ms,λc=>g.L c∨c=g.w.heap.size⟩
 have j:g'.w.heap.size=g.w.heap.size+1:=sX g.w _;have u:∀c,c<g.w.heap.size→g'.w.heap[c]?=g.w.heap[c]?:=λc b=>nF _ _ b
 have Q:iB g g':=⟨rfl,rfl,rfl,by rw[j];omega,λ_ _ t=>t,λc b=>⟨⟨by rw[j];have:=b.1;omega,λn=>by
  rcases n with n|n
  ·exact b.2 n
  ·have:=b.1;omega⟩,u c b.1⟩⟩
 have B:aT g g':=⟨Q,λc b=>⟨⟨by rw[j];have:=b.1;omega,.inl b.2.1,b.2.2⟩,u c b.1⟩⟩
 have ag:∀(i:Nat) (l r:Nat) (r1:List (List D)) (k:Me) (m:Array Value),Live g k l r r1 m→k.b<g.w.heap.size:=λi l r r1 k m a=>hi.jS a.hL
 refine⟨a.symm,_,_,g',by simp only[execOp,Instr.alloc,fg,aa g.w,fp,newVar,newRow,px,gZ];rfl,rfl,B,⟨hi.len,λi l r r1 e=>?_,hi.inj,λc b=>?_,λi x e=>by rw[j];have:=hi.msb i x e;omega⟩,?_⟩
 ·obtain⟨k,m,t,a⟩:=hi.live i l r r1 e;refine⟨k,m,t,?_,a.fR,a.pos,.inl a.hL,a.len,a.le,a.room,a.row,λp ad G q d H=>?_⟩
  ·rw[u k.b (hi.jS a.hL)];exact a.fy
  ·obtain⟨v,I,K,M⟩:=a.cell p ad G q d H;exact⟨v,I,K,M.ext B⟩
 ·rw[j];rcases b with b|b
  ·have:=hi.L c b;omega
  ·omega
 ·refine⟨y,p,g.w.heap.size,rfl,z,R,rfl,aS _,⟨by rw[j];omega,.inr rfl,λi x e=>by have:=hi.msb i x e;omega⟩,s.cells,vZ g.w _,ab,λq d f=>?_⟩;rw[ac,dB]at f;cases e:s.cells.toList[q]? with
  |none=>rw[e]at f;cases f
  | some v =>
   rw[e]at f;injection f with f;refine⟨v,by simpa using e,F v (eB e),λE=>?_⟩;exact(nQ E s.cells.toList).get q v d e (by rw[dB,e,← f];rfl)
theorem ra (C:cC P X.T) {ag:cE} (a1:fV P X ag) {fz ae:List Nat} {l:List Oper} {o:Oper} {e:DE} {h h':Z} {d:D} (c:fS X ag fz ae l o e h=some (d,h')) {g:Gh} {a:Act} (hi:Inv g h) (am:eR g X.gl)
  (a2:∀t d,t∈looks l o→bK e t=some d→aB g (a.tmps.getD t undef) d) {Q:Exit→Act→World→Prop} {next:Act→World→Prop}
  (z:∀g' v,aT g g'→Inv g' h'→aB g' v d→(dP X.T fz o = .fa→kL X.T g g' o v)→next (a.put o.dst v) g'.w):ot P l.toArray Q o a g next:=by
 unfold fS at c;split at c
 ·cases c
 rename_i s a8;have H:aW g (o.op.operands.toList.map a.eval) s:=BE am (λt d ab c=>a2 t d (pW _ (ja.2 ⟨.tmp t,ab,rfl⟩)) c) a8;have ax:dP X.T fz o ≠ .fa→jP X.T o.op s=some d→h'=h→o.wp P a g.w next Q:=λi b an=>by
  subst an;obtain⟨v,ad,g',q,m,p,ao,a5,bb,u⟩:=DF C (λL E=>hi.jS E) o H b;unfold Oper.wp;rw[q,nk];rw[← m];exact z g' v p (hi.same p ao a5 bb) u (λh=>absurd h i)
 have ay:dP X.T fz o ≠ .fa→ky X.T h o.op s=some d→h'=h→o.wp P a g.w next Q:=λi b an=>by
  subst an;obtain⟨v,q,u⟩:=Ng C hi o H b;unfold Oper.wp;rw[q,nk];exact z g v (aT.refl g) hi u (λh=>absurd h i)
 have az:dP X.T fz o ≠ .fa→nZ (k7 o.dst ae) X.T h o.op s=some (d,h')→o.wp P a g.w next Q:=λi b=>by
  obtain⟨bq,ad,g',q,m,p,y,A⟩:=Pj C hi o H b;unfold Oper.wp;rw[q];rcases A with⟨v,rfl,u⟩|⟨rfl,rfl⟩
  ·rw[nk,← m];exact z g' v p y u (λh=>absurd h i)
  ·rw[Oper.upon_skip,← m];exact z g' undef p y .bG (λh=>absurd h i)
 have av:dP X.T fz o ≠ .fa→∀(x:FuncId) (au:List Value),(execOp a.eval o).run P g.w=(callFunc x au.toArray).run P g.w→jo P x au g h' d→o.wp P a g.w next Q:=λi x au q a6=>by
  unfold Oper.wp;rcases a6 with⟨aq,bh⟩|⟨v,g',aq,p,y,u⟩
  ·rw[q,aq,Oper.upon_enter];refine mS bh ?_;rintro _ ad ⟨v,rfl,g',m,p,y,u⟩;show next (a.put o.dst v) ad;rw[← m];exact z g' v p y u (λh=>absurd h i)
  ·rw[q,aq,nk];exact z g' v p y u (λh=>absurd h i)
 have aw:dP X.T fz o ≠ .fa→jD X.T ag (k7 o.dst ae) o.op s h=some (d,h')→o.wp P a g.w next Q:=λi b=>by
  obtain⟨bm,br,bv,bt,bk,gd⟩:=o;unfold jD at b;rw[v7]at b;split at b
  case h_2=>cases b
  rename_i af bc;subst bc;obtain⟨bl,args,bu⟩:=af;split at b
  case h_3=>cases b
  ·rename_i a0 F;split at b
   case h_2=>cases b
   rename_i x first ah K
   simp only at F;subst F;have ap:aW g (a.eval a0::args.toList.map a.eval) (.fn (.func x) first ah::K):=by simpa[Op.operands,Call.operands]using H
   cases ap with
   | cons G aj =>
    generalize A:a.eval a0=I at G;cases G with
    | fn bn first ah I ar j k bj bi =>
     have be:aW g (I++args.toList.map a.eval++ar) (first++K++ah):=((aW.of j bj).append aj).append (.of k bi);refine av i x _ ?_ (Gf a1 b g _ hi am be);have ak:I.toArray++(Array.map a.eval args++ar.toArray)=(I++args.toList.map a.eval++ar).toArray:=by simp
     simp only[execOp,resolve,invoke,A,Deferred.ofValue,fg,gZ,fp,yD];rw[ak]
  ·rename_i a4 bp F;simp only at F;subst F;unfold gk at b;split at b
   case h_2=>cases b
   rename_i t r K;split at b
   case h_2=>cases b
   rename_i x ao;have ap:aW g (a.eval a4::args.toList.map a.eval) (.iface t r::K):=by simpa[Op.operands,Call.operands]using H
   cases ap with
   | cons G aj =>
    generalize A:a.eval a4=I at G;cases G with
    | iface t v r f =>
     refine av i x (v::args.toList.map a.eval) ?_ (a1 _ _ _ _ _ b g _ hi am (.cons f aj));have ak : #[v]++Array.map a.eval args=(v::args.toList.map a.eval).toArray:=by simp
     have ba:=MH C ao (v:=v) (w:=g.w);simp only[execOp,resolve,invoke,A,fg,gZ,fp];simp only[Array.getElem?_append,jy,List.length_singleton,Nat.lt_one_iff,aM,Nat.zero_lt_one,Ab,j7,callMethod,fg];have a9:(#[Value.iface t v]++Array.map a.eval args).extract 1 (#[Value.iface t v]++Array.map a.eval args).size=Array.map a.eval args:=by
      apply Array.ext';simp;exact gW (by simp)
     simp only[run_program,fp,ba,a9,ak]
 have skip:dP X.T fz o ≠ .fa→d = .bG→h'=h→next (a.put o.dst undef) g.w:=λi j k=>by
  subst j;subst k;exact z g undef (aT.refl g) hi .bG (λh=>absurd h i)
 split at c
 ·rename_i B;refine .inl ⟨yw B,?_⟩;split at c
  ·rename_i n;cases b:jP X.T o.op s with
   |none=>rw[b]at c;cases c
   | some N =>
    rw[b]at c;injection c with c;injection c with j k;subst j;exact ax (by rw[n];intro h;cases h) b k.symm
  ·rename_i n;cases b:ky X.T h o.op s with
   |none=>rw[b]at c;cases c
   | some N =>
    rw[b]at c;injection c with c;injection c with j k;subst j;exact ay (by rw[n];intro h;cases h) b k.symm
  ·rename_i n;exact az (by rw[n];intro h;cases h) c
  ·rename_i n;exact aw (by rw[n];intro h;cases h) c
  ·cases b:qT X.T o.op with
   |none=>rw[b]at c;cases c
   | some N =>
    rw[b]at c;injection c with c;injection c with j k;subst j;obtain⟨rfl,v,ad,g',q,m,p,y,bd⟩:=Ll C hi b a.eval;unfold Oper.wp;rw[q,nk,← m];subst k;exact z g' v p y (.any v) (λ_=>bd)
 ·rename_i bg L B;split at c
  ·cases c
  rename_i t ab;split at c
  ·cases c
  rename_i R a7;have bf:t∈looks l o:=by
   unfold looks;rw[B];exact List.mem_append_right _ (by simp[ab])
  have aa:=a2 t R bf a7;have a3:(l.toArray[bg]?).bind (·.dst)=some t:=by simpa using ab
  have M:∀{r:Option (D × Z)},e7 R L h r=some (d,h')→(Region.wanted o (yielded l.toArray a.tmps)=true∧r=some (d,h'))∨(Region.wanted o (yielded l.toArray a.tmps)=false∧d = .bG∧h'=h):=λ{r} f=>by
   unfold e7 at f;split at f
   ·rename_i af;have E:a.tmps.getD t undef = .bool af:=by
     generalize A:a.tmps.getD t undef=v at aa;cases aa;rfl
    have ac:=Ps a3 E;split at f
    ·rename_i al;exact .inl ⟨by simpa[Region.wanted,B,ac]using al,f⟩
    ·rename_i al;injection f with f;injection f with j k;exact .inr ⟨by simpa[Region.wanted,B,ac]using al,j.symm,k.symm⟩
   ·have E:a.tmps.getD t undef=undef:=by
      generalize A:a.tmps.getD t undef=v at aa;cases aa;rfl
    have ac:=Pt a3 E;injection f with f;injection f with j k;exact .inr ⟨by simp[Region.wanted,B,ac],j.symm,k.symm⟩
   ·cases f
  have conv:∀{r:Option D},((gd R L r).bind λd=>some (d,h))=e7 R L h (r.bind λd=>some (d,h)):=λ{r}=>by
   unfold gd e7;split
   ·split<;>rfl
   ·rfl
   ·rfl
  split at c
  ·rename_i n;have i:dP X.T fz o ≠ .fa:=by rw[n];intro h;cases h
   rw[conv]at c;rcases M c with⟨m,f⟩|⟨m,j,k⟩
   ·cases b:jP X.T o.op s with
    |none=>rw[b]at f;cases f
    | some N =>
     rw[b]at f;injection f with f;injection f with j k;subst j;exact .inl ⟨m,ax i b k.symm⟩
   ·exact .inr ⟨m,skip i j k⟩
  ·rename_i n;have i:dP X.T fz o ≠ .fa:=by rw[n];intro h;cases h
   rw[conv]at c;rcases M c with⟨m,f⟩|⟨m,j,k⟩
   ·cases b:ky X.T h o.op s with
    |none=>rw[b]at f;cases f
    | some N =>
     rw[b]at f;injection f with f;injection f with j k;subst j;exact .inl ⟨m,ay i b k.symm⟩
   ·exact .inr ⟨m,skip i j k⟩
  ·rename_i n;have i:dP X.T fz o ≠ .fa:=by rw[n];intro h;cases h
   rcases M c with⟨m,f⟩|⟨m,j,k⟩
   ·exact .inl ⟨m,az i f⟩
   ·exact .inr ⟨m,skip i j k⟩
  ·rename_i n;have i:dP X.T fz o ≠ .fa:=by rw[n];intro h;cases h
   rcases M c with⟨m,f⟩|⟨m,j,k⟩
   ·exact .inl ⟨m,aw i f⟩
   ·exact .inr ⟨m,skip i j k⟩
  ·cases c
end
end Go.Pi
namespace Go.Eng
abbrev e8:=@List.length_nil
abbrev gG:=@Option.bind_eq_some_iff
abbrev ju:=@List.filter_cons
abbrev mU:=@Function.comp_def
abbrev mW:=@List.filterMap_cons
abbrev pV:=@List.map_map
end Go.Eng
namespace Go.Pi
open Go.Eng
section
variable {P:Program} {X:Cx} {R:Type}
theorem xT{c:Nat}{dst:Option Nat}{d:D}{e:DE}{h:Z}{b:DE→Z→Option R}{r:R}(a:gJ c dst d e h b=some r):(dst=none∧b e h=some r)∨(∃t,dst=some t∧t<c∧b ((t,d)::e) h=some r):=by
 unfold gJ at a;split at a
 ·exact .inl ⟨rfl,a⟩
 ·rename_i t;split at a
  ·rename_i f;exact .inr ⟨t,rfl,dL f,a⟩
  ·cases a
theorem tp{f:cE}{i:Nat}{fz c:List Nat}{l:List Oper}{o:Oper}{e:DE}{h:Z}{b:DE→Z→Option R}{r:R}(a:jN X f i fz c l o e h b=some r):
  ∃d h',fS X f fz c l o e h=some (d,h')∧((o.dst=none∧b e h'=some r)∨(∃t,o.dst=some t∧t<i∧b ((t,d)::e) h'=some r)):=by
 rw[tn]at a;cases g:fS X f fz c l o e h with
 |none=>rw[g]at a;cases a
 | some j =>
  rw[g]at a;obtain⟨d,h'⟩:=j;exact⟨d,h',rfl,xT a⟩
theorem JT{fz:List Nat}{o p:Oper}{E d:Nat}{x:Operand}(h:oT fz o p=some (E,d,x)):o.op = .alloc E∧o.dst=some d∧o.guard=none∧p.op = .store E (.tmp d) x∧p.dst=none∧p.guard=none∧x ≠ .tmp d:=by
 unfold oT at h;split at h
 ·rename_i u s v t w g i j k l m;split at h
  ·rename_i e;injection h with h;injection h with q c;injection c with c r;subst q;subst c;subst r;simp only[dU]at e;obtain⟨⟨⟨a,b⟩,_⟩,f⟩:=e;have a:=gF a;have b:=gF b;subst a;subst b;refine⟨g,i,j,k,l,m,λn=>?_⟩;subst n;simp at f
  ·cases h
 ·cases h
theorem JU(G:cC P X.T){g:Gh}{h:Z}{z:Nat}{e:DE}{a:Act}(hi:Inv g h)(ah:eR g X.gl)(y:eG z g e a){E d:Nat}{x:Operand}{v A:D}{i:TI}(a1:hh X e x=some v)(F:X.T E=some i)(m:im i.V v=some A)(H:d<z)(al:x ≠ .tmp d)
  {Q:Exit→Act→World→Prop} {l:List Oper} {r:List Oper} {o p:Oper} (an:o.op = .alloc E∧o.dst=some d∧o.guard=none∧p.op = .store E (.tmp d) x∧p.dst=none∧p.guard=none∧x ≠ .tmp d)
  (ak:∀g' B,aT g g'→Inv g' h→eG z g' ((d,A)::e) B→wpList P l.toArray Q r B g'.w):wpList P l.toArray Q (o::p::r) a g.w:=by
 obtain⟨N,R,aa,ab,ac,ad,_⟩:=an;unfold im at m;split at m
 case h_2=>cases m
 rename_i c;injection m with m;subst m;simp only[dU]at c;obtain⟨ao,I⟩:=c;have I:=gF I;obtain⟨j,a2,_,a7,_⟩:=G.mO F;have aw:aB g (a.eval x) v:=qn ah (λa3 C _ az=>y.get a3 C az) a1;obtain⟨n,a0,M,K⟩:=aw.cells ao;have a6:=M.length;have au:(execOp a.eval o).run P g.w = .ok (.value (.pointer (some ⟨g.w.heap.size,0,none⟩))) (g.w.alloc (.cells j.cells E)):=by
  simp only[execOp,N,Instr.alloc,fg,a2 g.w,fp,newVar,newRow,px,gZ];rfl
 have ap:(a.put (some d) (.pointer (some ⟨g.w.heap.size,0,none⟩))).eval (.tmp d) = .pointer (some ⟨g.w.heap.size,0,none⟩):=by
  simp[Act.put,Act.eval,y.size,H]
 have aq:(a.put (some d) (.pointer (some ⟨g.w.heap.size,0,none⟩))).eval x=a.eval x:=Act.eval_put (λC s t=>al (by injection s with s;rw[s];exact t));have am:(g.w.alloc (.cells j.cells E)).heap[g.w.heap.size]?=some (.cells j.cells.toList.toArray E (0,0)):=by
  rw[vZ]
 obtain⟨f,ax,k⟩:=nR (P:=P) (i:=0) n (g.w.alloc (.cells j.cells E)) j.cells.toList 0 am (.inl rfl) (by simp;omega) K;have ag:j.cells.toList.take (0+0)++n++j.cells.toList.drop (0+0+n.length)=n:=by
  simp;omega
 rw[ag]at k;have ay:n.length=i.V:=by omega
 have av:(execOp (a.put (some d) (.pointer (some ⟨g.w.heap.size,0,none⟩))).eval p).run P (g.w.alloc (.cells j.cells E)) = .ok .skip f:=by
  simp[execOp,ab,Instr.storeAt,Instr.sureAddr,storeVar,ap,aq,a0,G.size F,ay,ax]
 have u:∀b,b<g.w.heap.size→f.heap[b]?=g.w.heap[b]?:=λb c=>by
  rw[k.other b (by omega)];exact nF _ _ c
 have a5:f.heap.size=g.w.heap.size+1:=by rw[k.size];exact sX _ _
 let g':Gh:=⟨f,g.ms,g.L⟩
 have q:aT g g' :=.q9 ⟨k.os,k.tape,k.output,by show g.w.heap.size≤f.heap.size;omega,λ_ _ aj=>aj,λb c=>⟨⟨by show b<f.heap.size;have:=c.1;omega,c.2⟩,u b c.1⟩⟩ rfl rfl u;have ae:At g' g.w.heap.size 0 n (cG v):=⟨λa8 A ai=>by
  show f.cell? _=_;simp only[World.cell?,k.fy,cT];simpa using ai,K,M.ext q⟩
 have ar:aB g' (.pointer (some ⟨g.w.heap.size,0,none⟩)) (.aD (cG v)):=ae.aD λ_=>⟨by show _<f.heap.size;omega,λt=>by
  have:=hi.jS (show g.L g.w.heap.size from t);omega⟩
 have af:=ak g' (a.put (some d) (.pointer (some ⟨g.w.heap.size,0,none⟩))) q (hi.same q rfl rfl u) ((y.ext q).put H ar);unfold wpList;rw[bE (yw aa)];refine .inl ?_;unfold Oper.wp;rw[au,nk,R];unfold wpList;rw[bE (yw ad)];refine .inl ?_;unfold Oper.wp;rw[av,Oper.upon_skip,ac];exact af
def uX(P:Program)(X:Cx)(o:cE)(j:Nat)(fz n:List Nat)(l:List Oper)(Q:Exit→Act→World→Prop)(r:R)(k:List Oper)(e:DE)(h:Z)(m:DE→Z→Option R):Prop:=
 ∀(a:Gh) (f:Act),Inv a h→eR a X.gl→eG j a e f→(∀c i b g,m c i=some r→(∀d,d∉eO k→bK c d=bK e d)→aT a b→Inv b i→eG j b c g→Q .normal g b.w)→wpList P l.toArray Q k f a.w
theorem Ef(M:cC P X.T){d:cE}(N:fV P X d){z:Nat}{fz j:List Nat}{l:List Oper}{Q:Exit→Act→World→Prop}{r:R}{o:Oper}{A:List Oper}{e:DE}{h:Z}{E D:DE→Z→Option R}(ac:jN X d z fz j l o e h E=some r)
  (rec:∀(e:DE) (h:Z),E e h=some r→uX P X d z fz j l Q r A e h D):uX P X d z fz j l Q r (o::A) e h D:=by
 intro L g ab v x K;obtain⟨F,H,af,aa⟩:=tp ac;have ah:ot P l.toArray Q o g L (wpList P l.toArray Q A):=by
  refine ra M N af ab v (λB F _ ai=>x.get B F ai) λG ak a I ag _=>?_
  rcases aa with⟨b,w⟩|⟨B,b,ad,w⟩
  ·rw[b];refine rec e H w G g I (v.ext a) (x.ext a) λk n m i p q s t u=>K k n m i p (λC c=>q C λf=>c ?_) (a.trans s) t u
   simp only[eO,mW,b]at f ⊢;exact f
  ·rw[b];refine rec _ H w G (g.put (some B) ak) I (v.ext a) ((x.ext a).put ad ag) λk n m i p q s t u=>K k n m i p (λC c=>?_) (a.trans s) t u
   simp only[eO,mW,b,eI,not_or]at c;rw[q C c.2,ib,bV (λf=>c.1 f.symm)]
 unfold wpList;rcases ah with⟨y,aj⟩|⟨y,ae⟩
 ·rw[bE y];exact .inl aj
 ·rw[bV (by simp[y])];exact ae
theorem tE(i:cC P X.T){t:cE}(n:fV P X t){y:Nat}{fz v:List Nat}{l:List Oper}{Q:Exit→Act→World→Prop}{r:R}:∀(m:List Oper) (e:DE) (h:Z) (c:DE→Z→Option R),gv X t y fz v l m e h c=some r→uX P X t y fz v l Q r m e h c
 |[],e,h,c,b=>λg a hi s k j=>j e h g a b (λ_ _=>rfl) (aT.refl g) hi k
 |[o],e,h,c,b=>Ef i n b λe h b g a hi s k j=>j e h g a b (λ_ _=>rfl) (aT.refl g) hi k
 | o::p::m,e,h,c,b=>by
  simp only[gv]at b;split at b
  ·rename_i E d x aa;have q:=JT aa;split at b
   ·rename_i ai ag af N;obtain⟨ah,ae,b⟩:=gG.1 b;rcases xT b with⟨u,_⟩|⟨z,f,ac,b⟩
    ·cases u
    ·injection f with f;subst f;intro g a hi s k j;refine JU i hi s k af N ae ac q.2.2.2.2.2.2 q λD A w ab ad=>tE i n m _ h c b D A ab (s.ext w) ad λC G F B H I K L M=>j C G F B H (λz f=>?_) (w.trans K) L M
     simp only[eO,mW,q.2.1,q.2.2.2.2.1,eI,not_or]at f;rw[I z f.2,ib,bV (λu=>f.1 u.symm)]
   ·cases b
  ·exact Ef i n b λe h b=>tE i n (p::m) e h c b
theorem Ee{w:cE}{s:Nat}{fz v:List Nat}{l:List Oper}{r:R}:∀(a:List Oper) (e:DE) (h:Z) (g:List Z) (k:DE→Z→List Z→Option R),lg X w s fz v l a e h g k=some r →
  ∃(c:Nat→DE) (f:Nat→Z) (u:Nat→D),c 0=e∧f 0=h∧(∀(i:Nat) (o:Oper),a[i]?=some o→fS X w fz v l o (c i) (f i)=some (u i,f (i+1))∧(o.dst=none→c (i+1)=c i)∧(∀t,o.dst=some t→t<s∧c (i+1)=(t,u i)::c i)) ∧
   k (c a.length) (f a.length) (g++((List.range a.length).filter (dD X.T fz a)).map λi=>f (i+1))=some r
 |[],e,h,g,k,x=>⟨λ_=>e,λ_=>h,λ_ =>.any,rfl,rfl,by simp,by simpa[lg]using x⟩
 | o::a,e,h,g,k,x=>by
  obtain⟨d,h',H,E⟩:=tp x;obtain⟨n,p,A,y⟩:∃n,lg X w s fz v l a n h' (match gn X.T fz o with|true=>g++[h']|false=>g) k=some r∧((o.dst=none→n=e)∧∀t,o.dst=some t→n=(t,d)::e)∧(∀t,o.dst=some t→t<s):=by
   rcases E with⟨m,p⟩|⟨t,m,y,p⟩
   ·exact⟨e,p,⟨λ_=>rfl,(λt b=>by rw[m]at b;cases b)⟩,(λt b=>by rw[m]at b;cases b)⟩
   ·exact⟨_,p,⟨(λb=>by rw[m]at b;cases b),(λN j=>by rw[m]at j;injection j with j;subst j;rfl)⟩,(λN j=>by rw[m]at j;injection j with j;subst j;exact y)⟩
  obtain⟨c,f,u,K,B,L,M⟩:=Ee a n h' _ k p;refine⟨λi=>match i with|0=>e|i+1=>c i,λi=>match i with|0=>h|i+1=>f i,λi=>match i with|0=>d|i+1=>u i,rfl,rfl,λi I z=>?_,?_⟩
  ·cases i with
   | zero =>
    simp at z;subst z;simp only[K,B];exact⟨H,A.1,λt b=>⟨y t b,A.2 t b⟩⟩
   |succ i=>exact L i I (by simpa using z)
  ·simp only[eF];rw[← M];have F:((List.range a.length).map Nat.succ).filter (dD X.T fz (o::a))=((List.range a.length).filter (dD X.T fz a)).map Nat.succ:=by
    rw[List.filter_map];congr 1
   have G:(g++((List.range (a.length+1)).filter (dD X.T fz (o::a))).map λi=>f i)=(match gn X.T fz o with|true=>g++[h']|false=>g)++((List.range a.length).filter (dD X.T fz a)).map λi=>f (i+1):=by
    have C:dD X.T fz (o::a) 0=gn X.T fz o:=rfl;rw[List.range_succ_eq_map,ju,F,C];by_cases q:gn X.T fz o=true
    ·rw[bE q,q];simp[B,pV,mU]
    ·rw[bV q];simp only[Bool.not_eq_true]at q;rw[q];simp[pV,mU]
   rw[← G]
def ke(c:Array Nat)(o:Oper):Nat:=o.after.foldl (λb a=>if Region.binds .any a then b ||| 2 ^ a.on ||| c.getD a.on 0 else b) 0
theorem FW(b:Array Oper):Region.before b=b.toList.foldl (λa o=>a.push (ke a o)) #[]:=by
 unfold Region.before ke;rw[← yE]
theorem FV {c:Array Nat} {o:Oper} {j:Nat} (h:(ke c o).testBit j=true):∃x∈o.after.toList,Region.binds .any x=true∧(x.on=j∨(c.getD x.on 0).testBit j=true):=by
 unfold ke at h;rw[← yE]at h;have k:∀ (d:List Edge) (b:Nat),(d.foldl (λb e=>if Region.binds .any e then b ||| 2 ^ e.on ||| c.getD e.on 0 else b) b).testBit j=true→b.testBit j=true∨∃x∈d,Region.binds .any x=true∧(x.on=j∨(c.getD x.on 0).testBit j=true):=by
  intro d
  induction d with
  |nil=>intro b h;exact .inl h
  | cons x m i =>
   intro b h;rw[pU]at h;rcases i _ h with a|⟨l,g,a⟩
   ·split at a
    ·rename_i f;simp only[Nat.testBit_or,n4]at a;rcases a with(a|a)|a
     ·exact .inl a
     ·refine .inr ⟨x,gO ..,f,.inl ?_⟩;rw[Nat.testBit_two_pow]at a;simpa using a
     ·exact .inr ⟨x,gO ..,f,.inr a⟩
    ·exact .inl a
   ·exact .inr ⟨l,fG _ g,a⟩
 rcases k _ 0 h with a|a
 ·simp at a
 ·exact a
theorem B7:∀(l:List Oper) (a:Array Nat),(∀k,k<a.size→(l.foldl (λa o=>a.push (ke a o)) a)[k]?=a[k]?)∧(l.foldl (λa o=>a.push (ke a o)) a).size=a.size+l.length ∧
  ∀(i:Nat) (o:Oper),l[i]?=some o→∃b:Array Nat,b.size=a.size+i∧(∀k,k<b.size→(l.foldl (λa o=>a.push (ke a o)) a)[k]?=b[k]?)∧(l.foldl (λa o=>a.push (ke a o)) a)[a.size+i]?=some (ke b o)
 |[],a=>⟨λ_ _=>rfl,by simp,λi o h=>by cases h⟩
 | p::l,a=>by
  obtain⟨d,h2,f⟩:=B7 l (a.push (ke a p));simp only[pU];simp only[Array.size_push]at d h2 f;refine⟨λk c=>?_,by rw[h2];simp;omega,λi o e=>?_⟩
  ·rw[d k (by omega),yF c,ln c]
  ·cases i with
   | zero =>
    simp at e;subst e;refine⟨a,rfl,λk c=>?_,?_⟩
    ·rw[d k (by omega),yF c,ln c]
    ·rw[ni,d _ (by omega)];simp
   | succ i =>
    obtain⟨b,m,g,j⟩:=f i o (by simpa using e);exact⟨b,by omega,g,by rw[← j];congr 1;omega⟩
theorem FX{l:List Oper}{i j:Nat}{o:Oper}(k:l[i]?=some o)(h:hI (h9 l) i j=true):∃x∈o.after.toList,Region.binds .any x=true∧(x.on=j∨(x.on<i∧hI (h9 l) x.on j=true)):=by
 obtain⟨_,t,m⟩:=B7 l #[];obtain⟨r,p,q,e⟩:=m i o k;simp only[jy,e8,cT]at p e;have d:∀b:Nat,(h9 l).getD b 0=((l.foldl (λc o=>c.push (ke c o)) #[])[b]?).getD 0:=λb=>by
  unfold h9;rw[FW];simp[oh]
 unfold hI at h ⊢;rw[d i,e]at h;obtain⟨x,n,f,a⟩:=FV h;refine⟨x,n,f,?_⟩;rcases a with a|a
 ·exact .inl a
 ·rcases e9 x.on i with g|s
  ·refine .inr ⟨g,?_⟩;rw[d x.on,q _ (by omega)]
   rwa [dS]at a
  ·rw[dS,Array.getElem?_eq_none (by omega)]at a;simp at a
theorem ou{l:List Oper}{S:Nat→Prop}(d:∀(i:Nat) (o:Oper),S i→l[i]?=some o→∀x∈o.after.toList,Region.binds .any x=true→S x.on):∀(n i j:Nat) (o:Oper),i<n→l[i]?=some o→(∀x∈o.after.toList,Region.binds .any x=true→S x.on)→(∀k,S k→∃p,l[k]?=some p)→hI (h9 l) i j=true→S j
 |0,i,j,o,m,_,_,_,_=>by omega
 | n+1,i,j,o,m,q,g,e,h=>by
  obtain⟨x,r,b,c⟩:=FX q h;have a:=g x r b;rcases c with rfl|⟨u,c⟩
  ·exact a
  ·obtain⟨p,f⟩:=e _ a;exact ou d n x.on j p (by omega) f (λt s b=>d x.on p a f t s b) e c
theorem u4{r:Nat}{l:List Oper}(n:mD r l=true){i j:Nat}{o:Oper}(g:l[i]?=some o)(h:hI (h9 l) i j=true):j<i:=by
 have s:=(aZ.1 g).1;have m:∀(a:Nat) (c:Oper),l[a]?=some c→∀b∈c.after.toList,Region.binds .any b=true→b.on<a:=λa c e b k f=>by
  simp only[mD,dU]at n;have d:=(aZ.1 e).1;have:=(ff.1 n.2) a (by simp[d]);have p:b.on∈jh l.toArray a:=by
   unfold jh;have q:l.toArray[a]?=some c:=by simpa using e
   rw[q];simp only[eJ,fo];exact⟨b,⟨k,f⟩,rfl⟩
  exact dL ((ff.1 this) _ p)
 refine ou (S:=λa=>a<i) (λa c d e b k f=>Nat.lt_trans (m a c e b k f) d) (i+1) i j o (by omega) g (m i o g) (λa d=>⟨_,cA (show a<l.length by omega)⟩) h
end
end Go.Pi
namespace Go.Eng
abbrev iU:=@Nat.ble_eq_true_of_le
abbrev j6:=@List.filter_append
abbrev j9:=@List.mem_range
abbrev ng:=@List.range_succ
abbrev pR:=@List.filter_eq_self
abbrev rT:=@List.filter_congr
abbrev uN:=@Nat.lt_succ_self
end Go.Eng
namespace Go.Pi
open Go.Eng
theorem BR(p:Nat→Bool):∀(m i:Nat),i<m→p i=true→((List.range m).filter p)[((List.range i).filter p).length]?=some i
 |0,i,h,_=>by omega
 | m+1,i,h,hp=>by
  rw[ng,j6];rcases e9 i m with a|b
  ·have:=BR p m i a hp;rw[dY (aZ.1 this).1];exact this
  ·have:i=m:=by omega
   subst this;rw[iC (aS _),Nat.sub_self];simp[hp]
theorem sq(p:Nat→Bool):∀(m i:Nat),i≤m→(((List.range m).filter p).filter λw=>Nat.blt w i).length=((List.range i).filter p).length
 | 0,i,h=>by
  have:i=0:=by omega
  subst this;rfl
 | m+1,i,h=>by
  rw[ng,j6,j6,gh];rcases e9 m i with g|e
  ·have:i=m+1:=by omega
   subst this;rw[ng,j6,gh];have d:∀(a:Nat),a≤m+1→((List.range a).filter p).filter (λw=>Nat.blt w (m+1))=(List.range a).filter p:=λa j=>by
    rw[pR];intro w b;have:=(fo.1 b).1;simp at this;exact iU (by omega)
   rw[d m (by omega)];congr 1;by_cases c:p m=true
   ·simp[c,Nat.blt]
   ·simp[c]
  ·rw[sq p m i e];have:(([m].filter p).filter λw=>Nat.blt w i)=[]:=by
    rw[rU];intro w b;have:=(fo.1 b).1;simp at this;subst this;intro f;have:=dL f;omega
   rw[this];rfl
theorem BQ{p a:Nat→Bool}(l:List Nat)(h:∀x∈l,p x=true→a x=true):(l.filter p).length≤(l.filter a).length:=by
 induction l with
 |nil=>simp
 | cons x f d =>
  have:=d λe c=>h e (fG _ c)
  rw[ju,ju];by_cases hp:p x=true
  ·have b:=h x (gO ..) hp;rw[bE hp,bE b];simpa using this
  ·rw[bV hp];split
   ·simp;omega
   ·exact this
section
variable {P:Program} {X:Cx} {R:Type}
theorem AY{l:List Oper}{e:DE}{c:List Z}:∀{ps:List (Nat × Nat)} {x:Option R} {r:R},kg X l e c ps x=some r→(∀a∈ps,∃o,l[a.1]?=some o∧again X l o e (c.getD a.2 []))∧x=some r
 |[],x,r,h=>⟨by simp,h⟩
 | (i, k)::ps,x,r,h=>by
  simp only[kg]at h;split at h
  ·rename_i o g;unfold eL at h;split at h
   ·rename_i f;obtain⟨d,h2⟩:=AY h;refine⟨λa b=>?_,h2⟩;rcases eI.1 b with rfl|b
    ·exact⟨o,g,f⟩
    ·exact d a b
   ·cases h
  ·cases h
theorem Dv{call:cE}{fz eZ:List Nat}{l:List Oper}{o:Oper}{e:DE}{h h':Z}{d:D}(b:gn X.T fz o=false)(a:fS X call fz eZ l o e h=some (d,h')):h'=h:=by
 unfold fS at a;unfold gn at b;split at a
 ·cases a
 have f:∀{i:Option D},(i.bind λd=>some (d,h))=some (d,h')→h'=h:=λ{i} j=>by
  obtain⟨k,_,g⟩:=gG.1 j;injection g with g;injection g with _ g;exact g.symm
 split at a
 ·split at a
  ·exact f a
  ·exact f a
  ·rename_i c;rw[c]at b;cases b
  ·rename_i c;rw[c]at b;cases b
  ·exact f a
 ·split at a
  ·cases a
  split at a
  ·cases a
  split at a
  ·exact f a
  ·exact f a
  ·rename_i c;rw[c]at b;cases b
  ·rename_i c;rw[c]at b;cases b
  ·cases a
theorem BD{e e':DE}:∀{xs:List Operand},(∀t,.tmp t∈xs→bK e t=bK e' t)→jI X e xs=jI X e' xs
 |[],_=>rfl
 | x::r,h=>by
  have b:hh X e x=hh X e' x:=by
   cases x with
   |tmp t=>exact h t (gO ..)
   |const f=>rfl
   |global d=>rfl
   |func c=>rfl
  simp only[jI,b,BD λt a=>h t (fG _ a)]
theorem MS{call:cE}{fz eZ:List Nat}{l:List Oper}{o:Oper}{e e':DE}{h:Z}(b:∀t,t∈looks l o→bK e t=bK e' t):fS X call fz eZ l o e h=fS X call fz eZ l o e' h:=by
 unfold fS;rw[BD λt a=>b t (pW _ (ja.2 ⟨.tmp t,a,rfl⟩))];cases jI X e' o.op.operands.toList with
 |none=>rfl
 | some i =>
  simp only[];cases c:o.guard with
  |none=>rfl
  | some f =>
   obtain⟨d,g⟩:=f;simp only[];cases a:(l[d]?).bind (·.dst)with
   |none=>rfl
   | some t =>
    simp only[];rw[b t (by unfold looks;rw[c];exact List.mem_append_right _ (by simp[a]))]
theorem Du {call:cE} {fz eZ:List Nat} {l:List Oper} {o:Oper} {e:DE} {h h' h2:Z} {d:D} (b:gn X.T fz o=false) (a:fS X call fz eZ l o e h=some (d,h')) (q:lH X.T fz o=true→again X l o e h2∧∀t,o.dst=some t→bK e t=some d):fS X call fz eZ l o e h2=some (d,h2):=by
 unfold fS at a ⊢;have n:∀{u:Option D},(u.bind λd=>some (d,h))=some (d,h')→(u.bind λd=>some (d,h2))=some (d,h2):=λ{u} x=>by
  obtain⟨G,y,j⟩:=gG.1 x;injection j with j;injection j with j _;subst j;rw[y];rfl
 have v:lH X.T fz o=true→∃t,o.dst=some t:=λw=>by
  have:=(q w).1;unfold again at this;split at this
  ·rename_i t _ g;exact⟨t,g⟩
  ·exact this.elim
 cases k:jI X e o.op.operands.toList with
 |none=>rw[k]at a;cases a
 | some E =>
  rw[k]at a;simp only[]at a ⊢;cases m:o.guard with
  | none =>
   rw[m]at a;simp only[]at a ⊢;cases c:dP X.T fz o with
   |pure=>rw[c]at a;exact n a
   | read =>
    have i:lH X.T fz o=true:=by unfold lH;rw[c]
    obtain⟨t,g⟩:=v i;obtain⟨f,p⟩:=q i;unfold again at f;rw[k,g,m]at f;simp only[]at f ⊢;rw[f,p t g];rfl
   |write=>unfold gn at b;rw[c]at b;cases b
   |call=>unfold gn at b;rw[c]at b;cases b
   |fa=>rw[c]at a;exact n a
  | some A =>
   obtain⟨z,C⟩:=A;rw[m]at a;simp only[]at a ⊢;cases r:(l[z]?).bind (·.dst)with
   |none=>rw[r]at a;cases a
   | some B =>
    rw[r]at a;simp only[]at a ⊢;cases s:bK e B with
    |none=>rw[s]at a;cases a
    | some F =>
     rw[s]at a;simp only[]at a ⊢;cases c:dP X.T fz o with
     |pure=>rw[c]at a;exact n a
     | read =>
      have i:lH X.T fz o=true:=by unfold lH;rw[c]
      obtain⟨t,g⟩:=v i;obtain⟨f,p⟩:=q i;unfold again at f;rw[k,g,m]at f;simp only[r,s]at f ⊢;rw[f,p t g];rfl
     |write=>unfold gn at b;rw[c]at b;cases b
     |call=>unfold gn at b;rw[c]at b;cases b
     |fa=>rw[c]at a;cases a
structure Tr (X:Cx) (call:cE) (nt:Nat) (fz eZ:List Nat) (l:List Oper) (m:Nat) (e:DE) (h:Z) (en:Nat→DE) (hp:Nat→Z) (va:Nat→D) (HK:Nat→Z):Prop where
 e0:en 0=e
 mM:m≤dQ l
 Ml:dQ l≤l.length
 nO:mD nt l=true
 tail:yp (dQ l) l=true
 step:∀(i:Nat) (o:Oper),i<m→l[i]?=some o→fS X call fz eZ l o (en i) (hp i)=some (va i,hp (i+1))∧(o.dst=none→en (i+1)=en i)∧(∀t,o.dst=some t→t<nt∧en (i+1)=(t,va i)::en i)
 C3:∀(i j:Nat) (o p:Oper) (t:Nat),i<dQ l→j<m→l[i]?=some o→l[j]?=some p→t∈looks l o→p.dst=some t→hI (h9 l) i j=true
 Cd:HK 0=h
 KF:hp 0=h
 KE:∀(i:Nat) (o:Oper),i<m→l[i]?=some o→gn X.T fz o=true→HK (((List.range i).filter (dD X.T fz l)).length+1)=hp (i+1)
 chain:∀(i j:Nat) (o p:Oper),i<j→j<m→l[i]?=some o→l[j]?=some p→gn X.T fz o=true→gn X.T fz p=true→hI (h9 l) j i=true
 Ph:∀(i k:Nat) (o:Oper),(i,k)∈tV X.T fz m l→l[i]?=some o→again X l o (en m) (HK k)
 late:m=dQ l∨qR X.T fz m l=true
theorem Hc{call:cE}{nt:Nat}{fz eZ:List Nat}{m:Nat}{l:List Oper}{e:DE}{h:Z}{u:DE→Z→Option R}{r:R}(k:kS X call nt fz eZ m l e h u=some r):
  ∃en hp va HK,Tr X call nt fz eZ l m e h en hp va HK∧(jm X fz (l.take m) (en m) (hp m) λe h=>gv X call nt fz eZ l (l.drop m) e h u)=some r:=by
 unfold kS at k;split at k
 ·cases k
 rename_i q;unfold Bh at q;simp only[dU]at q;obtain⟨⟨⟨⟨⟨⟨n,j⟩,L⟩,N⟩,I⟩,B⟩,G⟩:=q;have n:=dL n;have j:=dL j;have ah:m≤l.length:=gX n j;obtain⟨en,hp,va,ac,ad,ae,z⟩:=Ee _ e h [h] _ k;have H:(l.take m).length=m:=by simp;omega
 rw[H]at z;obtain⟨w,F⟩:=AY z;have x:∀a,a<m→(l.take m)[a]?=l[a]?:=λa b=>by rw[eY,bE b]
 have A:(List.range m).filter (dD X.T fz (l.take m))=(List.range m).filter (dD X.T fz l):=by
  apply rT;intro a b;simp at b;unfold dD;rw[x a b]
 rw[A]at w;refine⟨en,hp,va,λt=>(h::((List.range m).filter (dD X.T fz l)).map λa=>hp (a+1)).getD t [],⟨ac,n,j,L,N,λa g b c=>ae a g (by rw[x a b];exact c),λa f g ab af b y c s M K=>?_,by simp,ad,λa g b c P=>?_,λa f g ab ag y c s Q aa=>?_,λa t g D c=>?_,by simpa using G⟩,F⟩
 ·have i:=(ff.1 I) a (by simp[b]);rw[c]at i;have o:=(ff.1 i) af M;have p:=(ff.1 o) f (by simp[y]);rw[s]at p;simp only[K]at p;simpa using p
 ·have:=BR (dD X.T fz l) m a b (by unfold dD;rw[c];exact P);simp only[List.getD_cons_succ];rw[oh,dB,this];rfl
 ·have C:a∈(List.range m).filter (dD X.T fz l):=fo.2 ⟨by simp;omega,by unfold dD;rw[c];exact Q⟩;have E:f∈(List.range m).filter (dD X.T fz l):=fo.2 ⟨by simp;omega,by unfold dD;rw[s];exact aa⟩;have i:=(ff.1 B) f E;have o:=(ff.1 i) a C;have:Nat.blt a f=true:=iU (by omega);simpa[this]using o
 ·obtain⟨ai,d,v⟩:=w (a,t) D;simp only at d v;rw[c]at d;injection d with d;subst d;simpa using v
section tr
variable {call:cE} {nt:Nat} {fz eZ:List Nat} {l:List Oper} {m:Nat} {e:DE} {h:Z} {en:Nat→DE} {hp:Nat→Z} {va:Nat→D} {HK:Nat→Z} (tr:Tr X call nt fz eZ l m e h en hp va HK)
include tr
theorem Tr.ml:m≤l.length:=gX tr.mM tr.Ml
theorem Tr.look(i j:Nat)(o p:Oper)(t:Nat)(hi:i<m)(b:j<m)(c:l[i]?=some o)(hp:l[j]?=some p)(d:t∈looks l o)(a:p.dst=some t):hI (h9 l) i j=true:=tr.C3 i j o p t (hX hi tr.mM) b c hp d a
theorem Tr.get{i:Nat}(hi:i<m):∃o,l[i]?=some o:=⟨_,cA (hX hi tr.ml)⟩
theorem Tr.aX{t:Nat}:∀(i j:Nat),i≤j→j≤m→(∀a o,i≤a→a<j→l[a]?=some o→o.dst≠some t)→bK (en j) t=bK (en i) t
 | i,0,n,p,_=>by
  have:i=0:=by omega
  subst this;rfl
 | i,j+1,n,p,f=>by
  rcases e9 j i with r|e
  ·have:i=j+1:=by omega
   subst this;rfl
  ·obtain⟨o,g⟩:=tr.get (i:=j) (by omega);obtain⟨_,b,d⟩:=tr.step j o (by omega) g;have h:=Tr.aX i j e (by omega) λa o b d=>f a o b (by omega)
   cases c:o.dst with
   |none=>rw[b c];exact h
   | some q =>
    rw[(d q c).2,ib,bV]
    ·exact h
    ·intro k;exact f j o e (by omega) g (by rw[c,k])
theorem Tr.mc{i j:Nat}{o p:Oper}{t:Nat}(b:l[i]?=some o)(c:l[j]?=some p)(a:o.dst=some t)(h2:p.dst=some t):i=j:=by
 have:=tr.nO;simp only[mD,dU]at this;exact Bf this.1.1 b c a h2
theorem Tr.val{i:Nat}{o:Oper}{t:Nat}(hi:i<m)(b:l[i]?=some o)(a:o.dst=some t){j:Nat}(c:i<j)(d:j≤m):bK (en j) t=some (va i):=by
 have:=tr.aX (t:=t) (i+1) j c d λn k g h f e=>by
  have:=tr.mc b f a e;omega
 rw[this,((tr.step i o hi b).2.2 t a).2,ib,bE rfl]
theorem Tr.Ls{i:Nat}{o:Oper}(hi:i<m)(a:l[i]?=some o){t:Nat}(e:t∈looks l o):bK (en m) t=bK (en i) t:=
 tr.aX i m (by omega) (aS _) λg f h b d c=>by
  have:=u4 tr.nO a (tr.look i g o f t hi b a d e c);omega
theorem Tr.qK:∀(i:Nat),i≤m→HK ((List.range i).filter (dD X.T fz l)).length=hp i
 |0,_=>by simp[tr.Cd,tr.KF]
 | i+1,hi=>by
  obtain⟨o,a⟩:=tr.get (i:=i) (by omega);have d:=Tr.qK i (by omega);rw[ng,j6,gh];cases b:gn X.T fz o with
  | true =>
   have c:dD X.T fz l i=true:=by unfold dD;rw[a];exact b
   have:=tr.KE i o (by omega) a b;simpa[c]using this
  | false =>
   have c:dD X.T fz l i=false:=by unfold dD;rw[a];exact b
   have:=Dv b (tr.step i o (by omega) a).1;rw[this];simpa[c]using d
structure kH (P:Program) (X:Cx) (nt:Nat) (fz:List Nat) (l:List Oper) (m:Nat) (e:DE) (va:Nat→D) (HK:Nat→Z) (g0:Gh) (L:Array Bool) (c:Nat) (a:Act) (g:Gh):Prop where
 size:a.tmps.size=nt
 defers:a.defers=[]
 ik:L.size=l.length
 cl:∀(i:Nat) (o:Oper),L[i]?=some true→l[i]?=some o→∀x∈o.after.toList,Region.binds .any x=true→L[x.on]?=some true
 main:∀i,L[i]?=some true→i<m
 lz:((List.range m).filter λi=>L.getD i false).length=c
 ext:aT g0 g
 inv:Inv g (HK (((List.range m).filter (dD X.T fz l)).filter λi=>L.getD i false).length)
 base:∀t d,t∉eO (l.take m)→bK e t=some d→aB g (a.tmps.getD t undef) d
 done:∀(i:Nat) (o:Oper) (t:Nat),L[i]?=some true→l[i]?=some o→o.dst=some t→aB g (a.tmps.getD t undef) (va i)
 xR:∀(i:Nat) (o:Oper) (t:Nat),L[i]?=some true→l[i]?=some o→dP X.T fz o = .fa→o.dst=some t→kL X.T g0 g o (a.tmps.getD t undef)
 Bd:∀(i j:Nat) (o p:Oper) (t u:Nat),L[i]?=some true→L[j]?=some true→l[i]?=some o→l[j]?=some p→dP X.T fz o = .fa→dP X.T fz p = .fa→o.dst=some t→p.dst=some u→i≠j→a.tmps.getD t undef≠a.tmps.getD u undef
theorem kH.step(bq:cC P X.T)(br:fV P X call){an:Gh}(bu:eR an X.gl){f:Array Bool}{c:Nat}{a:Act}{g:Gh}(q:kH P X nt fz l m e va HK an f c a g){i:Nat}{o:Oper}(hi:i<m)(s:l[i]?=some o)(aq:f[i]?=some false)
  (bd:∀x∈o.after.toList,Region.binds .any x=true→f[x.on]?=some true) {Q:Exit→Act→World→Prop} {next:Act→World→Prop}
  (bz:∀a0 g',kH P X nt fz l m e va HK an (f.setIfInBounds i true) (c+1) a0 g'→next a0 g'.w):ot P l.toArray Q o a g next:=by
 have a7:i<f.size:=by rw[q.ik];exact hX hi tr.ml
 have gd:∀d,f.getD d false=true↔f[d]?=some true:=λd=>by
  rw[dS];cases f[d]? with
  |none=>simp
  |some bl=>simp
 have a1:f.getD i false=false:=by rw[dS,aq];rfl
 have a5:∀K,f[K]?=some true→∃j,l[K]?=some j:=λK C=>tr.get (q.main K C)
 have al:∀I,hI (h9 l) i I=true→f[I]?=some true:=λI G=>ou (S:=λK=>f[K]?=some true) q.cl (i+1) i I o (by omega) s bd a5 G
 have bi:∀b j,l[b]?=some j→f[b]?=some true→hI (h9 l) b i=false:=λb j E ar=>by
  cases n:hI (h9 l) b i with
  |false=>rfl
  | true =>
   exfalso;have:=ou (S:=λK=>f[K]?=some true) q.cl (b+1) b i j (by omega) E (q.cl b j ar E) a5 n;rw[aq]at this;cases this
 obtain⟨aa,cb,a4⟩:=tr.step i o hi s;have b4:∀t B,t∈looks l o→bK (en i) t=some B→aB g (a.tmps.getD t undef) B:=λt B w F=>by
  by_cases af:t∈eO (l.take m)
  ·unfold eO at af;rw[ja]at af;obtain⟨j,b1,A⟩:=af;obtain⟨I,G⟩:=mZ b1;rw[eY]at G;split at G
   ·rename_i ba;have n:=tr.look i I o j t hi ba s G w A;have bw:=u4 tr.nO s n;have ak:=tr.val ba G A bw (Nat.le_of_lt hi);rw[F]at ak;injection ak with ak;rw[ak];exact q.done I j t (al I n) G A
   ·cases G
  ·have:=tr.aX (t:=t) 0 i (il _) (by omega) λd j k u r D=>af (by
     unfold eO;rw[ja];exact⟨j,eB (by rw[eY,bE (show d<m by omega)];exact r),D⟩)
   rw[this,tr.e0]at F;exact q.base t B af F
 have av:∀b,b∈(List.range m).filter (dD X.T fz l)↔b<m∧dD X.T fz l b=true:=λb=>by simp[fo]
 obtain ⟨ao,b3,bn⟩:∃ao,fS X call fz eZ l o (en i) (HK (((List.range m).filter (dD X.T fz l)).filter λb=>f.getD b false).length)=some (va i,ao)∧ao=HK (((List.range m).filter (dD X.T fz l)).filter λb=>(f.setIfInBounds i true).getD b false).length:=by
  have bk:∀b,(f.setIfInBounds i true).getD b false=(f.getD b false||Nat.beq b i):=λb=>by
   by_cases N:i=b
   ·subst N;rw[dS,rE a7];simp
   ·rw[dS,j4 N,← dS];have:Nat.beq b i=false:=by
     cases n:Nat.beq b i with
     |false=>rfl
     |true=>exact absurd (gF n).symm N
    rw[this,Bool.or_false]
  cases E:gn X.T fz o with
  | true =>
   have N:dD X.T fz l i=true:=by unfold dD;rw[s];exact E
   have a8:∀b,b∈(List.range m).filter (dD X.T fz l)→(f.getD b false=Nat.blt b i):=λb H=>by
    obtain⟨k,u⟩:=(av b).1 H;obtain⟨j,h⟩:=tr.get k;have bg:gn X.T fz j=true:=by unfold dD at u;rw[h]at u;exact u
    rcases ka b i with R|heq|a6
    ·have:=al b (tr.chain b i j o R hi h s bg E);rw[(gd b).2 this];exact(iU (by omega)).symm
    ·subst heq;rw[a1];cases n:Nat.blt b b with
     |false=>rfl
     |true=>have:=dL n;omega
    ·have a3:=tr.chain i b o j a6 k s h E bg;cases bo:f.getD b false with
     | false =>
      cases n:Nat.blt b i with
      |false=>rfl
      |true=>have:=dL n;omega
     | true =>
      have:=bi b j h ((gd b).1 bo);rw[this]at a3;cases a3
   have am:(((List.range m).filter (dD X.T fz l)).filter λb=>f.getD b false)=(((List.range m).filter (dD X.T fz l)).filter λb=>Nat.blt b i):=rT a8;have ab:(((List.range m).filter (dD X.T fz l)).filter λb=>(f.setIfInBounds i true).getD b false)=(((List.range m).filter (dD X.T fz l)).filter λb=>Nat.blt b (i+1)):=rT λb H=>by
    rw[bk,a8 b H];rcases ka b i with R|heq|a6
    ·have k:Nat.blt b i=true:=iU (by omega);have u:Nat.blt b (i+1)=true:=iU (by omega);rw[k,u];rfl
    ·subst heq;have u:Nat.blt b (b+1)=true:=iU (by omega);rw[u];simp
    ·have k:Nat.blt b i=false:=by
       cases n:Nat.blt b i with
       |false=>rfl
       |true=>have:=dL n;omega
     have u:Nat.blt b (i+1)=false:=by
      cases n:Nat.blt b (i+1)with
      |false=>rfl
      |true=>have:=dL n;omega
     have ap:Nat.beq b i=false:=by
      cases n:Nat.beq b i with
      |false=>rfl
      |true=>have:=gF n;omega
     rw[k,u,ap];rfl
   rw[am,ab,sq _ m i (by omega),sq _ m (i+1) (by omega),tr.qK i (by omega),tr.qK (i+1) (by omega)];exact⟨_,aa,rfl⟩
  | false =>
   have N:dD X.T fz l i=false:=by unfold dD;rw[s];exact E
   have ab:(((List.range m).filter (dD X.T fz l)).filter λb=>(f.setIfInBounds i true).getD b false)=(((List.range m).filter (dD X.T fz l)).filter λb=>f.getD b false):=rT λb H=>by
    rw[bk];have:Nat.beq b i=false:=by
     cases n:Nat.beq b i with
     |false=>rfl
     | true =>
      have:=gF n;subst this;rw[((av b).1 H).2]at N;cases N
    rw[this,Bool.or_false]
   rw[ab];refine⟨_,?_,rfl⟩;have bt:∀u,fS X call fz eZ l o (en i) u=fS X call fz eZ l o (en m) u:=λu=>MS λt w=>(tr.Ls hi s w).symm
   rw[bt]at aa ⊢;by_cases bb:(((List.range m).filter (dD X.T fz l)).filter λb=>f.getD b false).length=((List.range i).filter (dD X.T fz l)).length
   ·rw[bb,tr.qK i (by omega)];have:=Dv E aa;rw[this]at aa;exact aa
   ·refine Du E aa λbp=>⟨tr.Ph i _ o ?_ s,λt w=>tr.val hi s w (by omega) (aS _)⟩
    unfold tV;rw[List.mem_flatMap];refine⟨i,by simp[hi],?_⟩;rw[s];simp only[bp];rw[eJ];refine⟨_,fo.2 ⟨j9.2 (Nat.lt_succ_of_le (BQ _ λb H ar=>?_)),?_⟩,rfl⟩
    ·obtain⟨j,h⟩:=tr.get ((av b).1 H).1;rw[bi b j h ((gd b).1 ar)];rfl
    ·simp only[dU,kC];refine⟨iU (BQ _ λb H n=>(gd b).2 (al b n)),?_⟩;have b0:(((List.range m).filter (dD X.T fz l)).filter λb=>Nat.blt b i).length=((List.range i).filter (dD X.T fz l)).length:=sq _ m i (by omega);rw[b0];cases n:Nat.beq _ _ with
     |false=>rfl
     |true=>exact absurd (gF n) bb
 refine ra bq br b3 q.inv (bu.ext q.ext) b4 λg' L ai bv b2 D=>bz _ g' ?_
 have M:∀d,(f.setIfInBounds i true)[d]?=some true→d=i∨f[d]?=some true:=λd r=>by
  by_cases v:i=d
  ·exact .inl v.symm
  ·rw[j4 v]at r;exact .inr r
 have a2:∀d,f[d]?=some true→(f.setIfInBounds i true)[d]?=some true:=λd r=>by
  by_cases v:i=d
  ·subst v;rw[aq]at r;cases r
  ·rw[j4 v];exact r
 have aj:∀t,o.dst≠some t→(a.put o.dst L).tmps.getD t undef=a.tmps.getD t undef:=λt w=>by
  cases ac:o.dst with
  |none=>rfl
  | some y =>
   have az:y≠t:=λp=>w (by rw[ac,p])
   simp only[Act.put,dS];rw[j4 az]
 have ax:∀t,o.dst=some t→(a.put o.dst L).tmps.getD t undef=L:=λt w=>by
  have R:=(a4 t w).1;rw[w];simp[Act.put,Array.getD,q.size,R]
 have bf:∀(d:Nat) (j:Oper) (y:Nat),f[d]?=some true→l[d]?=some j→dP X.T fz j = .fa→j.dst=some y→dP X.T fz o = .fa→L≠a.tmps.getD y undef:=λd j y r h C ae bx p=>by
  obtain⟨_,_,bl,_,_,_,bm,ca,_,_⟩:=D bx;obtain⟨_,_,b9,_,_,_,b6,_,b7,_⟩:=q.xR d j y r h C ae;rw[bm,b6]at p;injection p with p;injection p with p;injection p with p;have:=b7.1;omega
 have be:∀t,o.dst≠some t→∀B,aB g (a.tmps.getD t undef) B→aB g' ((a.put o.dst L).tmps.getD t undef) B:=λt w B F=>by
  cases ac:o.dst with
  |none=>exact F.ext ai
  | some y =>
   have az:y≠t:=λp=>w (by rw[ac,p])
   have:(a.put (some y) L).tmps.getD t undef=a.tmps.getD t undef:=by
    simp only[Act.put,dS];rw[j4 az]
   rw[this];exact F.ext ai
 refine⟨by cases ac:o.dst<;>simp[Act.put,q.size],by cases ac:o.dst<;>simp[Act.put,q.defers],by simp[q.ik],λd j r h x bh n=>?_,λd r=>?_,?_,q.ext.trans ai,by rw[← bn];exact bv,λt B w F=>?_,λd j t r h D=>?_,λd j t r h C ae=>?_,λd ag j bj t y r bc h A C au ah ad aw=>?_⟩
 ·rcases M d r with rfl|r
  ·rw[s]at h;injection h with h;subst h;exact a2 _ (bd x bh n)
  ·exact a2 _ (q.cl d j r h x bh n)
 ·rcases M d r with rfl|r
  ·exact hi
  ·exact q.main d r
 ·have b8:∀(z:Nat),((List.range z).filter λd=>(f.setIfInBounds i true).getD d false).length=((List.range z).filter λd=>f.getD d false).length+(if i<z then 1 else 0):=by
    intro z
    induction z with
    |zero=>simp
    | succ z b5 =>
     rw[ng,j6,j6,gh,gh,b5];by_cases a9:i=z
     ·subst a9;have k:(f.setIfInBounds i true).getD i false=true:=by
       rw[dS,rE a7];rfl
      have am:([i].filter λd=>(f.setIfInBounds i true).getD d false)=[i]:=by rw[ju,k];rfl
      have ab:([i].filter λd=>f.getD d false)=[]:=by rw[ju,a1];rfl
      rw[am,ab,bV (Nat.lt_irrefl _),bE (uN _)];simp
     ·have k:(f.setIfInBounds i true).getD z false=f.getD z false:=by
        rw[dS,j4 a9,← dS]
      have u:(i<z+1)↔(i<z):=by omega
      simp only[u];have ap:([z].filter λd=>(f.setIfInBounds i true).getD d false)=([z].filter λd=>f.getD d false):=by
       rw[ju,ju,k];rfl
      rw[ap];omega
  rw[b8 m,bE hi,q.lz]
 ·refine be t (λp=>w ?_) B (q.base t B w F);unfold eO;rw[ja];exact⟨o,eB (by rw[eY,bE hi];exact s),p⟩
 ·by_cases v:d=i
  ·subst v;rw[s]at h;injection h with h;subst h;have R:=(a4 t D).1;rw[D];have:(a.put (some t) L).tmps.getD t undef=L:=by simp[Act.put,Array.getD,q.size,R]
   rw[this];exact b2
  ·rcases M d r with k|k
   ·exact absurd k v
   ·exact be t (λp=>v (tr.mc h s D p)) _ (q.done d j t k h D)
 ·by_cases v:d=i
  ·subst v;rw[s]at h;injection h with h;subst h;rw[ax t ae];exact(D C).MR q.ext.size
  ·rcases M d r with k|k
   ·exact absurd k v
   ·rw[aj t λp=>v (tr.mc h s ae p)];exact(q.xR d j t k h C ae).ext ai
 ·by_cases v:d=i
  ·subst v;rw[s]at h;injection h with h;subst h;rcases M ag bc with k|k
   ·exact absurd k.symm aw
   ·rw[ax t ah,aj y λp=>aw (tr.mc s A p ad)];exact bf ag bj y k A au ad C
  ·rcases M d r with k|k
   ·exact absurd k v
   ·rw [aj t λp=>v (tr.mc h s ah p)];by_cases ay:ag=i
    ·subst ay;rw[s]at A;injection A with A;subst A;rw[ax y ad];exact λp=>bf d j t k h C ah au p.symm
    ·rcases M ag bc with u|u
     ·exact absurd u ay
     ·rw[aj y λp=>ay (tr.mc A s ad p)];exact q.Bd d ag j bj t y k u h A C au ah ad aw
end tr
end
end Go.Pi
