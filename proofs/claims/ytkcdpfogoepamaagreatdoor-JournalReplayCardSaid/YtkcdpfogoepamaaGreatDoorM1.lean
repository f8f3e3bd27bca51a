/- Part 1 of the texts that the theorem needs: an interpreter on data, proved sound; the functions on data; laws about them. -/
import Derived.WalkKit
import Derived.Orders
import Derived.Deep.LoopGhost
import Derived.KernelRfl
import Derived.Laws.StructEq
import Derived.Laws.IdiomStrings
set_option linter.unusedSimpArgs false
set_option linter.unusedVariables false
set_option linter.unnecessarySimpa false
namespace Go.Eng
abbrev aN:=@if_true
abbrev bO:=@if_pos
abbrev bR:=@List.getElem?_eq_some_iff
abbrev cC:=@if_neg
abbrev fQ:=@Nat.le_of_ble_eq_true
abbrev gE:=@Array.getD_eq_getD_getElem?
abbrev iL:=@List.all_eq_true
abbrev kI:=@Nat.eq_of_beq_eq_true
abbrev mI:=@Nat.zero_le
abbrev ng:=@Array.getElem?_setIfInBounds_ne
abbrev nk:=@IntKind.wrap_i64
abbrev o4:=@Bool.not_eq_true'
abbrev o5:=@Bool.or_eq_true
abbrev ss:=@List.cons_append
abbrev wH:=@Calls.mono
abbrev BL:=@List.any_eq_true
end Go.Eng
namespace Go.Eng
abbrev fL:=List (Nat × Value)
def lk:fL→Nat→Option Value
 |[],_=>none
 | (k,v)::r,t=>match Nat.beq k t with
  |true=>some v
  |false=>lk r t
def ev(e:fL):Operand→Option Value
 |.tmp t=>lk e t
 |.const v=>some v
 |.global g=>some (.pointer (some ⟨g,0,none⟩))
 |.func f=>some (.func (.func f) #[] #[])
def eX(e:fL):List Operand→Option (List Value)
 |[]=>some []
 | x::r=>match ev e x with
  | some v=>match eX e r with
   |some vs=>some (v::vs)
   |none=>none
  |none=>none
structure qe (n:Nat) (e:fL) (a:Act):Prop where
 size:a.tmps.size=n
 defers:a.defers=[]
 get:∀t v,lk e t=some v→a.tmps.getD t undef=v
def uA(e:fL)(ρ:Operand→Value):Prop:=∀x v,ev e x=some v→ρ x=v
section
variable {n:Nat} {e:fL} {a:Act}
theorem pP(k:Nat)(v:Value)(r:fL)(t:Nat):lk ((k,v)::r) t=if k=t then some v else lk r t:=by
 simp only[lk];by_cases a:k=t
 ·subst a;simp
 ·have:Nat.beq k t=false:=by
    cases b:Nat.beq k t with
    |true=>exact absurd (kI b) a
    |false=>rfl
  rw[this,cC a]
theorem qe.put(h:qe n e a){d:Nat}(f:d<n)(v:Value):qe n ((d,v)::e) (a.put (some d) v):=by
 refine⟨by simp[Act.put,h.size],by simp[Act.put,h.defers],λt g b=>?_⟩;rw[pP]at b;by_cases c:d=t
 ·subst c;rw[bO rfl]at b;injection b with b;subst b;simp[Act.put,Array.getD,h.size,f]
 ·rw[cC c]at b;have:=h.get t g b;rw[← this];simp only[Act.put,gE];rw[ng (by omega)]
theorem uA.eX{ρ:Operand→Value}(h:uA e ρ):∀{xs:List Operand} {vs:List Value},Eng.eX e xs=some vs→xs.map ρ=vs
 | [],vs,a=>by
  simp[Eng.eX]at a;simp[a]
 | x::r,vs,a=>by
  simp only[Eng.eX]at a;split at a
  ·rename_i v hx;split at a
   ·rename_i c b;injection a with a;subst a;simp[h x v hx,h.eX b]
   ·cases a
  ·cases a
end
def Sub(e' e:fL):Prop:=∀t v,lk e' t=some v→lk e t=some v
theorem Sub.nil{e:fL}:Sub [] e:=λ_ _ a=>by cases a
theorem Sub.cons{t:Nat}{v:Value}{r e:fL}(h:lk e t=some v)(c:Sub r e):Sub ((t,v)::r) e:=by
 intro b x hx;rw[pP]at hx;by_cases a:t=b
 ·subst a;rw[bO rfl]at hx;injection hx with hx;rw[← hx];exact h
 ·rw[cC a]at hx;exact c b x hx
theorem Sub.refl(e:fL):Sub e e:=λ_ _ a=>a
theorem Sub.trans{a b c:fL}(h:Sub a b)(k:Sub b c):Sub a c:=λt v x=>k t v (h t v x)
theorem Sub.sat{n:Nat}{e e':fL}{a:Act}(h:Sub e' e)(b:qe n e a):qe n e' a:=⟨b.size,b.defers,λt v x=>b.get t v (h t v x)⟩
def keys:fL→List Nat
 |[]=>[]
 |(k,_)::r=>k::keys r
theorem Pk{e:fL}{t:Nat}(h:t∉keys e):lk e t=none:=by
 induction e with
 |nil=>rfl
 | cons x c b =>
  obtain⟨k,v⟩:=x;simp[keys]at h;rw[pP,cC (λa=>h.1 a.symm)];exact b h.2
theorem Ph{e r:fL}{t:Nat}(h:lk e t=none):lk (e++r) t=lk r t:=by
 induction e with
 |nil=>rfl
 | cons x c b =>
  obtain⟨k,v⟩:=x;rw[ss,pP];rw[pP]at h;by_cases a:k=t
  ·rw[bO a]at h;cases h
  ·rw[cC a]at h;rw[cC a];exact b h
theorem a1I{e r:fL}{t:Nat}{v:Value}(h:lk e t=some v):lk (e++r) t=some v:=by
 induction e with
 |nil=>cases h
 | cons x c b =>
  obtain⟨k,d⟩:=x;rw[ss,pP];rw[pP]at h;by_cases a:k=t
  ·rw[bO a]at h;rw[bO a];exact h
  ·rw[cC a]at h;rw[cC a];exact b h
def LS(p:List Nat)(c b:List Nat):Bool:=p.all λk=>c.any (Nat.beq k) || !(b.any (Nat.beq k))
theorem Sub.back{c p b:fL}(l:Sub c (p++b))(f:LS (keys p) (keys c) (keys b)=true):Sub (c++b) (p++b):=by
 intro t v d;cases e:lk c t with
 | some j =>
  rw[a1I e]at d;injection d with d;subst d;exact l t j e
 | none =>
  rw[Ph e]at d;by_cases i:t∈keys p
  ·simp only[LS,iL,o5,o4,BL]at f;rcases f t i with⟨x,hx,g⟩|g
   ·have:=kI g;subst this;exfalso;have:∀{h:fL},t∈keys h→lk h t≠none:=by
     intro h
     induction h with
     |nil=>intro e;cases e
     | cons y o n =>
      obtain⟨k,j⟩:=y;intro a;rw[pP];by_cases f:k=t
      ·rw[bO f];simp
      ·rw[cC f];simp[keys]at a;rcases a with a|a
       ·exact absurd a.symm f
       ·exact n a
    exact this hx e
   ·have m:t∉keys b:=by
      intro a;simp at g;exact g t a rfl
    rw[Pk m]at d;cases d
  ·rw[Ph (Pk i)];exact d
def Au(P:Program)(n:Nat)(c:Code)(Q:Exit→Act→World→Prop)(e:fL)(w:World):Prop:=∀a,qe n e a→c.wp P Q a w
def Iu(P:Program)(n:Nat)(ops:Array Oper)(Q:Exit→Act→World→Prop)(l:List Oper)(e:fL)(w:World):Prop:=∀a,qe n e a→wpList P ops Q l a w
def pE(n:Nat)(Q:Exit→Act→World→Prop)(x:Exit)(e:fL)(w:World):Prop:=∀a,qe n e a→Q x a w
def n2(P:Program)(f:FuncId)(args:Array Value)(w:World)(R:Value→World→Prop):Prop:=Calls P f args w λe a=>∃v,e = .returned v∧R v a
theorem n2.mono{P:Program}{f:FuncId}{args:Array Value}{w:World}{R a:Value→World→Prop}(h:n2 P f args w R)(b:∀v w',R v w'→a v w'):n2 P f args w a:=
 wH h λ_ _ ⟨v,c,h⟩=>⟨v,c,b _ _ h⟩
section code
variable {P:Program} {n:Nat} {Q:Exit→Act→World→Prop} {e:fL} {w:World}
theorem Au.sub{c:Code}{e':fL}(h:Au P n c Q e' w)(d:Sub e' e):Au P n c Q e w:=λa b=>h a (d.sat b)
theorem Iu.sub{ops:Array Oper}{l:List Oper}{e':fL}(h:Iu P n ops Q l e' w)(c:Sub e' e):Iu P n ops Q l e w:=λa b=>h a (c.sat b)
theorem pE.sub{x:Exit}{e':fL}(h:pE n Q x e' w)(c:Sub e' e):pE n Q x e w:=λa b=>h a (c.sat b)
def uM:Nat→List Value→fL
 |_,[]=>[]
 |k,v::r=>(k,v)::uM (k+1) r
theorem Pj:∀(l:List Value) (k t:Nat),lk (uM k l) t=if k≤t then l[t - k]? else none
 |[],k,t=>by simp[uM,lk]
 | v::r,k,t=>by
  rw[uM,pP,Pj r (k+1) t];by_cases h:k=t
  ·subst h;simp
  ·rw[cC h];by_cases a:k+1≤t
   ·rw[bO a,bO (by omega)];obtain⟨d,rfl⟩:∃d,t=k+1+d:=⟨t - (k+1),by omega⟩
    rw[show k+1+d - (k+1)=d from by omega,show k+1+d - k=d+1 from by omega];simp
   ·rw[cC a,cC (by omega)]
theorem enter{f:FuncId}{fn:Func}{c:Code}{args:List Value}{R:Value→World→Prop}(d:P.funcs[f]?=some fn)(b:fn.body=some c)(i:fn.ntmps=n)(g:Nat.ble args.length n=true)
  (h:Au P n c (bodyPost P fn λe w'=>∃v,e = .returned v∧R v w') (uM 0 args) w):n2 P f args.toArray w R:=by
 refine calls_of_wp d b (h _ ⟨?_,rfl,λt v a=>?_⟩)
 ·have:=fQ g;simp[i];omega
 ·rw[Pj]at a;simp only[mI,aN,Nat.sub_zero]at a;simp[gE,Array.getElem?_append,(bR.1 a).1];exact(bR.1 a).2
def zP(b:Array Value):ResultVar→Sem Value
 |.tmp t=>pure (b.getD t undef)
 |.cell a t=>do loadVar t (← asAddr (b.getD a undef))
theorem a2N(fn:Func)(a:Array Value):results fn a=(do let vs ← fn.results.mapM (zP a);pure (if h:vs.size=1 then vs[0]else .tuple vs)):=by
 unfold results;congr 1
variable {fn:Func} {R:Value→World→Prop}
end code
def Cf(P:Program)(o:Oper)(e:fL)(w:World)(v:Value):Prop:=∀a,uA e a→(execOp a o).run P w = .ok (.value v) w
section steps
variable {P:Program} {n:Nat} {ops:Array Oper} {Q:Exit→Act→World→Prop} {rest:List Oper} {o:Oper} {e:fL} {w:World} {d:Nat} {v:Value}
end steps
section pure_ops
variable {P:Program} {e:fL} {w:World} {d:Option Tmp} {ty:TypeId} {pos:String} {af:Array Edge} {W:Option (Nat × Bool)}
section ints
variable {t t':TypeId} {x y:Operand} {k:IntKind} {i j:Int} (hx:ev e x=some (.int k i)) (hy:ev e y=some (.int k j))
include hx hy
end ints
theorem wB{z:Int}(a : -9223372036854775808≤z)(b:z≤9223372036854775807):IntKind.i64.wrap z=z:=by rw[nk];omega
section ints64
variable {t t':TypeId} {x y:Operand} {i j:Int} (hx:ev e x=some (.int .i64 i)) (hy:ev e y=some (.int .i64 j))
include hx hy
end ints64
theorem Cf.to{o:Oper}{v:Value}(h:Cf P o e w v)(u:Value)(a:v=u):Cf P o e w u:=by subst a;exact h
section strings
variable {t t':TypeId} {x y:Operand} {a b:ByteArray} (hx:ev e x=some (.string a)) (hy:ev e y=some (.string b))
include hx hy
end strings
end pure_ops
abbrev bB:=@Nat.le_refl
abbrev dG:=@List.getElem?_eq_getElem
abbrev eS:=@Nat.zero_add
abbrev fg:=@List.getElem?_append_left
abbrev fD:=@Nat.le_trans
abbrev gw:=@List.getElem?_take
abbrev gK:=@List.length_drop
abbrev gO:=@List.getElem?_append_right
abbrev hg:=@Nat.add_mul
abbrev jz:=@Nat.mul_le_mul_right
abbrev ko:=@List.getElem?_drop
abbrev lq:=@List.length_take
abbrev nr:=@Nat.add_assoc
abbrev nv:=@Nat.lt_of_lt_of_le
abbrev ot:=@Nat.eq_zero_or_pos
abbrev ou:=@Nat.zero_mul
abbrev o3:=@Array.getElem?_eq_some_iff
abbrev sv:=@List.flatMap_cons
abbrev xf:=@Nat.min_eq_left
end Go.Eng
namespace Go.Eng
structure Gw where
 w:World
 F:Nat→Nat
 ok:∀b,w.heap.size≤b→F b=0
structure Ev (M:Nat→Prop) (g g':Gw):Prop where
 os:g'.w.os=g.w.os
 tape:g'.w.tape=g.w.tape
 output:g'.w.output=g.w.output
 size:g.w.heap.size≤g'.w.heap.size
 mono:∀b,g.F b≤g'.F b
 cell:∀b o,o<g.F b→g'.w.cell? ⟨b,o,none⟩=g.w.cell? ⟨b,o,none⟩
 cL:∀b,b<g.w.heap.size→¬M b→g'.w.heap[b]?=g.w.heap[b]?∧g'.F b=g.F b
def B3:Nat→Prop:=λ_=>False
section
variable {M M':Nat→Prop} {g g' g'':Gw}
theorem Ev.refl(M:Nat→Prop)(g:Gw):Ev M g g:=⟨rfl,rfl,rfl,bB _,λ_=>bB _,λ_ _ _=>rfl,λ_ _ _=>⟨rfl,rfl⟩⟩
theorem Ev.step(h:Ev M g g')(k:Ev M' g' g'')(j:∀b,M' b→M b∨g.w.heap.size≤b):Ev M g g'':=
 ⟨k.os.trans h.os,k.tape.trans h.tape,k.output.trans h.output,fD h.size k.size,λb=>fD (h.mono b) (k.mono b),
  λb e a=>(k.cell b e (nv a (h.mono b))).trans (h.cell b e a),
  λb a d=>by
   obtain⟨f,i⟩:=h.cL b a d;obtain⟨l,m⟩:=k.cL b (nv a h.size) (λc=>by
    rcases j b c with c|c
    ·exact d c
    ·omega)
   exact⟨l.trans f,m.trans i⟩⟩
theorem Ev.trans(h:Ev M g g')(k:Ev M g' g''):Ev M g g'':=h.step k λ_ a =>.inl a
theorem Ev.no(h:Ev M g g')(k:Ev B3 g' g''):Ev M g g'':=h.step k λ_ a=>a.elim
theorem Ev.weaken(h:Ev M g g')(a:∀b,M b→M' b∨g.w.heap.size≤b):Ev M' g g':=(Ev.refl M' g).step h a
theorem Ev.below(h:Ev B3 g g'):RowKit.Below g.w.heap.size g.w g'.w:=⟨h.os,h.tape,h.output,h.size,λb a=>(h.cL b a (λc=>c.elim)).1⟩
end
theorem ZS(w:World)(o:Obj)(b:Nat)(h:b<w.heap.size):(w.alloc o).heap[b]?=w.heap[b]?:=RowKit.Below.heap_alloc w o b h
def Gw.push(g:Gw)(o:Obj)(m:Nat):Gw:=⟨g.w.alloc o,λb=>if b=g.w.heap.size then m else g.F b,λb a=>by
 have c:g.w.heap.size+1≤b:=by
  have:(g.w.heap.push o).size≤b:=a;simpa using this
 rw[cC (by omega)];exact g.ok b (by omega)⟩
def Gw.set(g:Gw)(ad:Addr)(v:Value):Gw:=⟨g.w.setCell ad v,g.F,λb a=>g.ok b (by simpa[World.setCell]using a)⟩
def Gw.draw(g:Gw):Gw:=⟨{ g.w with drawn:=g.w.drawn+1 },g.F,g.ok⟩
def Gw.cS(g:Gw)(b m:Nat)(d:b<g.w.heap.size):Gw:=⟨g.w,λa=>if a=b then max m (g.F b)else g.F a,λa c=>by
 rw[cC (by omega)];exact g.ok a c⟩
def fB(g:Gw)(b T:Nat)(cs:List Value):Prop:=g.w.heap[b]?=some (.cells cs.toArray T (0,0))∧g.F b=0
section
variable {M:Nat→Prop} {g g':Gw} {b T:Nat} {cs:List Value}
theorem fB.lt(h:fB g b T cs):b<g.w.heap.size:=(o3.1 h.1).1
theorem fB.cell(h:fB g b T cs)(i:Nat):g.w.cell? ⟨b,i,none⟩=cs[i]?:=by
 have:=h.1;simp[World.cell?,this]
theorem fB.frozen(h:fB g b T cs)(i:Nat):g.w.frozen? ⟨b,i,none⟩=false:=by
 have:=h.1;simp[World.frozen?,this]
theorem fB.ev(h:fB g b T cs)(a:Ev M g g')(c:¬M b):fB g' b T cs:=⟨(a.cL b h.lt c).1.trans h.1,(a.cL b h.lt c).2.trans h.2⟩
theorem fB.new(g:Gw)(T:Nat)(cs:List Value):fB (g.push (.cells cs.toArray T) 0) g.w.heap.size T cs:=⟨heap_alloc_new g.w _,by simp[Gw.push]⟩
theorem fB.ne_{d c:Nat}{e:List Value}(h:fB g b T cs)(h':fB g d c e)(f:Nat.beq T c=false):b≠d:=by
 rintro rfl;have a:=h.1;rw[h'.1]at a;injection a with a;injection a with _ i;subst i;simp at f
end
structure kX (g:Gw) (a:Option Addr) (n cap V:Nat) (cs:List Value):Prop where
 len:cs.length=n*V
 nc:n≤cap
 cm:cap≤9223372036854775807
 pos:0<n→∃b o,a=some ⟨b,o,none⟩∧o+n*V≤g.F b∧∀j v,cs[j]?=some v→g.w.cell? ⟨b,o+j,none⟩=some v
section
variable {M:Nat→Prop} {g g':Gw} {a:Option Addr} {n cap V:Nat} {cs:List Value}
theorem kX.ev(h:kX g a n cap V cs)(d:Ev M g g'):kX g' a n cap V cs:=
 ⟨h.len,h.nc,h.cm,λl=>by
  obtain⟨b,f,i,j,k⟩:=h.pos l;refine⟨b,f,i,fD j (d.mono b),λc m e=>?_⟩;have o:c<n*V:=by rw[← h.len];exact(bR.1 e).1
  rw[d.cell b (f+c) (by omega)];exact k c m e⟩
theorem kX.nil(g:Gw)(a:Option Addr)(cap V:Nat)(c:cap≤9223372036854775807):kX g a 0 cap V []:=⟨by simp,mI _,c,λb=>absurd b (by omega)⟩
theorem kX.at_(h:kX g a n cap V cs)(d:0<n):∃b o,a=some ⟨b,o,none⟩:=by
 obtain⟨b,o,c,_⟩:=h.pos d;exact⟨b,o,c⟩
theorem kX.cell{b o:Nat}(h:kX g (some ⟨b,o,none⟩) n cap V cs){j:Nat}{v:Value}(d:cs[j]?=some v):g.w.cell? ⟨b,o+j,none⟩=some v:=by
 have i:j<n*V:=by rw[← h.len];exact(bR.1 d).1
 have k:0<n:=by
  rcases ot n with c|c
  ·subst c;simp at i
  ·exact c
 obtain⟨l,m,a,_,f⟩:=h.pos k;injection a with a;injection a with a e;subst a;subst e;exact f j v d
theorem kX.cut(h:kX g a n cap V cs){l m:Nat}(u:l≤m)(q:m≤n)(c:Nat)(k:m - l≤c)(p:c≤9223372036854775807)(e:Option Addr)(j:∀b o,l<m→a=some ⟨b,o,none⟩→e=some ⟨b,o+l*V,none⟩):
  kX g e (m - l) c V ((cs.take (m*V)).drop (l*V)):=by
 have r:m*V≤n*V:=jz V q;refine⟨?_,k,p,λv=>?_⟩
 ·rw[gK,lq,h.len,xf r,Nat.sub_mul]
 ·obtain⟨b,o,f,t,i⟩:=h.pos (by omega);refine⟨b,o+l*V,j b o (by omega) f,?_,λw s d=>?_⟩
  ·have:l*V+(m - l)*V=m*V:=by rw[← hg];congr 1;omega
   omega
  ·rw[nr];refine i _ s ?_;rw[ko]at d;rw[gw]at d;split at d
   ·exact d
   ·cases d
end
theorem Of{α:Type}{f:α→List Value}{V:Nat}(a:∀x,(f x).length=V):∀(xs:List α) (i j:Nat) (x:α),xs[i]?=some x→j<V→(xs.flatMap f)[i*V+j]?=(f x)[j]?
 |[],i,j,x,h,_=>by simp at h
 | y::ys,0,j,x,h,b=>by
  simp at h;subst h;simp only[ou,eS,sv];rw[fg (by rw[a];exact b)]
 | y::ys,i+1,j,x,h,b=>by
  simp at h;simp only[sv];rw[gO (by rw[a,hg];omega),a,show(i+1)*V+j - V=i*V+j from by rw[hg];omega];exact Of a ys i j x h b
structure iS {α:Type} (g:Gw) (a:Option Addr) (n cap V:Nat) (f:α→List Value) (xs:List α):Prop where
 sl:kX g a n cap V (xs.flatMap f)
 num:xs.length=n
 cells:∀x,(f x).length=V
section
variable {α:Type} {M:Nat→Prop} {g g':Gw} {a:Option Addr} {n cap V:Nat} {f:α→List Value} {xs:List α}
theorem iS.ev(h:iS g a n cap V f xs)(b:Ev M g g'):iS g' a n cap V f xs:=⟨h.sl.ev b,h.num,h.cells⟩
theorem iS.cell{b o:Nat}(h:iS g (some ⟨b,o,none⟩) n cap V f xs){i j:Nat}{x:α}{v:Value}(d:xs[i]?=some x)(a:(f x)[j]?=some v):g.w.cell? ⟨b,o+i*V+j,none⟩=some v:=by
 have c:j<V:=by rw[← h.cells x];exact(bR.1 a).1
 rw[nr];exact h.sl.cell (by rw[Of h.cells xs i j x d c];exact a)
theorem iS.at_(h:iS g a n cap V f xs)(c:0<n):∃b o,a=some ⟨b,o,none⟩:=h.sl.at_ c
theorem iS.nil(g:Gw)(a:Option Addr)(cap V:Nat)(f:α→List Value)(c:∀x,(f x).length=V)(b:cap≤9223372036854775807):iS g a 0 cap V f []:=⟨kX.nil g a cap V b,rfl,c⟩
theorem iS.get(h:iS g a n cap V f xs){i:Nat}(hi:i<n):∃x,xs[i]?=some x:=⟨xs[i]'(by rw[h.num];exact hi),dG (by rw[h.num];exact hi)⟩
end
def aR(g:Gw)(base:Nat)(a:Option Addr)(n cap V T:Nat):Prop:=
 (a=none∧n=0∧cap=0)∨∃b c,a=some ⟨b,0,none⟩∧base≤b∧g.w.heap[b]?=some (.cells c T (0,0))∧n≤cap∧cap≤9223372036854775807∧c.size=cap*V∧g.F b=n*V
def pe(a:Option Addr):Nat→Prop:=λb=>a.map (·.block)=some b
section
variable {M:Nat→Prop} {g g':Gw} {base:Nat} {a:Option Addr} {n cap V T:Nat}
theorem aR.nil(g:Gw)(base V T:Nat):aR g base none 0 0 V T :=.inl ⟨rfl,rfl,rfl⟩
theorem aR.ev(h:aR g base a n cap V T)(p:Ev M g g')(m:∀b,pe a b→base≤b→¬M b):aR g' base a n cap V T:=by
 rcases h with h|⟨b,f,c,d,e,i,j,k,l⟩
 ·exact .inl h
 ·have o:b<g.w.heap.size:=(o3.1 e).1;obtain⟨q,r⟩:=p.cL b o (m b (by simp[pe,c]) d);exact .inr ⟨b,f,c,d,q.trans e,i,j,k,r.trans l⟩
theorem aR.PB{b e:Nat}{cs:List Value}(h:aR g base a n cap V T)(f:fB g b e cs)(i:Nat.beq e T=false):¬pe a b:=by
 intro d;rcases h with⟨rfl,_⟩|⟨k,l,rfl,m,c,_⟩
 ·simp[pe]at d
 ·simp[pe]at d;subst d;rw[f.1]at c;injection c with c;injection c with _ j;subst j;simp at i
theorem aR.weaken{c:Nat}(h:aR g base a n cap V T)(j:c≤base):aR g c a n cap V T:=by
 rcases h with h|⟨b,d,e,i,f⟩
 ·exact .inl h
 ·exact .inr ⟨b,d,e,by omega,f⟩
end
section mem
variable {P:Program} {e:fL} {g:Gw} {d:Option Tmp} {ty:TypeId} {pos:String} {af:Array Edge} {W:Option (Nat × Bool)}
def One(P:Program)(t:TypeId):Prop:=∀a,(isAgg t).run P a = .ok false a
def RC(P:Program)(t:TypeId):Prop:=∀a,(isAgg t).run P a = .ok true a
def RN(P:Program)(t:TypeId)(n:Nat):Prop:=∀a,(sizeOf t).run P a = .ok n a
theorem a1L{t:TypeId}(a:One P t){ad:Addr}{w:World}{v:Value}(b:w.cell? ad=some v):(loadVar t ad).run P w = .ok v w:=by
 unfold loadVar;simp[a w,b]
theorem a1K{t:TypeId}{V:Nat}(a:RC P t)(d:RN P t V){ad:Addr}{w:World}{vs:List Value}(c:vs.length=V)(b:∀j v,vs[j]?=some v→w.cell? (ad.add j)=some v):(loadVar t ad).run P w = .ok (.agg vs.toArray) w:=by
 unfold loadVar;have:=run_loadCells_list (P:=P) (w:=w) ad vs b;rw[c]at this;simp[a w,d w,this]
end mem
abbrev eW:=@List.mem_of_getElem?
abbrev fR:=@congrArg
abbrev gJ:=@Bool.and_eq_true
abbrev mc:=@List.mem_filterMap
end Go.Eng
namespace Go.Eng
def lS(ops:Array Oper)(k:Nat):List Nat:=match ops[k]? with
 |some o=>(o.after.toList.filter (Region.binds .any ·)).map (·.on)
 |none=>[]
def iz(l:List Oper):List Nat:=l.filterMap (·.dst)
def mu(t:Nat)(l:List Nat):Bool:=l.any (Nat.beq t)
theorem pQ{t:Nat}{l:List Nat}:mu t l=true↔t∈l:=by
 simp[mu]
def xL:List Oper→Bool
 |[]=>true
 | o::r=>(match o.dst with
  |some d => !(mu d (iz r))
  |none=>true)&&xL r
theorem Pv{l:List Oper}{j:Nat}{o:Oper}{d:Nat}(h:l[j]?=some o)(a:o.dst=some d):d∈iz l:=by
 unfold iz;rw[mc];exact⟨o,eW h,a⟩
theorem MX:∀{l:List Oper},xL l=true→∀{i j:Nat} {o p:Oper} {d:Nat},l[i]?=some o→l[j]?=some p→o.dst=some d→p.dst=some d→i=j
 |[],_,i,_,o,_,_,hi,_,_,_=>by simp at hi
 | x::r,h,i,j,o,p,d,hi,b,c,e=>by
  simp only[xL,gJ]at h;obtain⟨a,h2⟩:=h;cases i with
  | zero =>
   simp at hi;subst hi;cases j with
   |zero=>rfl
   | succ j =>
    simp at b;rw[c]at a;simp only[o4]at a;have:=pQ.2 (Pv b e);rw[a]at this;cases this
  | succ i =>
   simp at hi;cases j with
   | zero =>
    simp at b;subst b;rw[e]at a;simp only[o4]at a;have:=pQ.2 (Pv hi c);rw[a]at this;cases this
   | succ j =>
    simp at b;exact fR (· + 1) (MX h2 hi b c e)
def qM(n:Nat)(l:List Oper):Bool:=
 xL l&&(iz l).all (λd=>Nat.blt d n)&&(List.range l.length).all λa=>(lS l.toArray a).all λb=>Nat.blt b a
section og
variable {P:Program} {n:Nat} {l:List Oper} {Q:Exit→Act→World→Prop} {M:Nat→Prop} {J:Gw→Prop} {T:Nat→Value→Gw→Prop} {e0:fL} {g0:Gw}
end og
section quiet
variable {P:Program} {ops:Array Oper} {M:Nat→Prop} {J:Gw→Prop} {g0:Gw} {K:fL→Prop} {o:Oper} {rest:List Oper} {e:fL} {d:Nat} {v:Value}
end quiet
theorem v8{g:Gw}{d:Nat}{a:Option Addr}{n cap V T b c:Nat}{cs:List Value}(h:aR g d a n cap V T)(e:fB g b c cs)(f:Nat.beq c T=false):∀x,pe a x→d≤x→¬x=b:=λx i _ j=>h.PB e f (j▸i)
def xj(M:Nat→Prop)(g:Gw)(R:Value→Gw→Prop)(v:Value)(w':World):Prop:=∃a,a.w=w'∧Ev M g a∧R v a
theorem xj.mono{M a:Nat→Prop}{g:Gw}{R c:Value→Gw→Prop}{v:Value}{w':World}(h:xj M g R v w')(i:∀b,M b→a b∨g.w.heap.size≤b)(j:∀g',R v g'→c v g'):xj a g c v w':=by
 obtain⟨g',d,e,f⟩:=h;exact⟨g',d,e.weaken i,j g' f⟩
def Gw.of(w:World):Gw:=⟨w,λ_=>0,λ_ _=>rfl⟩
end Go.Eng
namespace Go.Eng
def RD(T:Nat)(g:Gw)(f:Nat)(c:Option Addr)(a e:Nat)(bs:List Int)(i:Nat):Prop:=
 fB g f T [.slice c a e,.int .i64 (i:Int)]∧iS g c a e 1 (λb:Int=>[Value.int .u8 b]) bs∧i≤a∧(∀b∈bs,0≤b∧b<256)∧(0<a→∀d,pe c d→d<f)
def o7(T:Nat)(g:Gw)(e:Nat):Prop:=∃b d c bs a,RD T g e b d c bs a
theorem o7.ev{T:Nat}{M:Nat→Prop}{g g':Gw}{a:Nat}(h:o7 T g a)(b:Ev M g g')(e:¬M a):o7 T g' a:=by
 obtain⟨l,n,m,bs,k,c,i,d,j,f⟩:=h;exact⟨l,n,m,bs,k,c.ev b e,i.ev b,d,j,f⟩
theorem o7.lt{T:Nat}{g:Gw}{a:Nat}(h:o7 T g a):a<g.w.heap.size:=by
 obtain⟨d,f,e,bs,c,b,_⟩:=h;exact b.lt
theorem o7.PB{T a b:Nat}{g:Gw}{c:Nat}{cs:List Value}(h:o7 T g c)(d:fB g b a cs)(f:Nat.beq a T=false):b≠c:=by
 obtain⟨j,l,k,bs,i,e,_⟩:=h;exact d.ne_ e f
abbrev bT:=@decide_false
abbrev fy:=@Bool.not_true
abbrev fX:=@decide_eq_true
abbrev gb:=@Bool.not_false
abbrev gG:=@Nat.lt_or_ge
abbrev g8:=@List.mem_map
abbrev hS:=@List.drop_eq_getElem_cons
abbrev hU:=@Option.map_some
abbrev kG:=@List.mem_filter
abbrev mG:=@List.drop_eq_nil_of_le
abbrev sB:=@Option.getD_some
abbrev ui:=@Bool.false_or
abbrev wE:=@Array.getElem?_setIfInBounds_self_of_lt
abbrev wG:=@Bool.true_and
abbrev xa:=@List.filter_eq_nil_iff
abbrev Ax:=@Array.all_eq_true_iff_forall_mem
end Go.Eng
namespace Go.Eng
structure dQ (R:Gw→Gw→Prop):Prop where
 refl:∀g,R g g
 trans:∀a b c,R a b→R b c→R a c
theorem Ev.pre(M:Nat→Prop):dQ (Ev M):=⟨Ev.refl M,λ_ _ _ a b=>a.trans b⟩
abbrev l9:=Value→Gw→Prop
def H3(m:Nat)(l:List Oper):Bool:=(List.range l.length).all λa=>Nat.blt a m||(List.range a).all λb=>mu b (lS l.toArray a)
def dv(o:Oper)(v:Value):Value:=match o.dst with
 |some _=>v
 |none=>undef
structure uE (P:Program) (R:Gw→Gw→Prop) (J:Gw→Prop) (T:l9) (o:Oper) (e:fL) (g:Gw):Prop where
 go:∀ρ,uA e ρ →
  (∃v g',(execOp ρ o).run P g.w = .ok (.value v) g'.w∧R g g'∧J g'∧T (dv o v) g')∨(∃f args,(execOp ρ o).run P g.w = .ok (.enter f args) g.w∧n2 P f args g.w (λv w'=>∃g',g'.w=w'∧R g g'∧J g'∧T (dv o v) g')) ∨
  (o.dst=none∧∃g',(execOp ρ o).run P g.w = .ok .skip g'.w∧R g g'∧J g'∧T undef g')
def sY:List l9→List Value→Gw→Prop
 |[],[],_=>True
 |T::s,v::vs,g=>T v g∧sY s vs g
 |_,_,_=>False
theorem sY.cons{T:l9}{s:List l9}{vs:List Value}{g:Gw}(h:sY (T::s) vs g):∃v r,vs=v::r∧T v g∧sY s r g:=by
 cases vs with
 |nil=>exact h.elim
 |cons v r=>exact⟨v,r,rfl,h.1,h.2⟩
theorem sY.nil{vs:List Value}{g:Gw}(h:sY [] vs g):vs=[]:=by
 cases vs with
 |nil=>rfl
 |cons b a=>exact h.elim
section og
variable {P:Program} {n:Nat} {Q:Exit→Act→World→Prop} {R:Gw→Gw→Prop} {J:Gw→Prop}
theorem Ru {l:List Oper} {m:Nat} (H:qM n l=true) (af:H3 m l=true):∀(t:List Oper) (k d:Nat) (f:Array Bool) (a:Act) (w:World),m≤k→l.drop k=t→f.size=l.length→(∀i,i<l.length→f[i]?=some (decide (i<k))) →
  t.length≤d→wpList P l.toArray Q t a w→wpAny P .any l.toArray Q d f a w:=by
 have M:∀k (c:k<l.length),∀b∈l[k].after,Region.binds .any b=true→b.on<k:=by
  intro k c b r o;simp only[qM,gJ]at H;have:=(iL.1 H.2) k (by simp[c]);have g:b.on∈lS l.toArray k:=by
   unfold lS;have q:l.toArray[k]?=some l[k]:=by simp[c]
   rw[q];simp only[g8,kG];exact⟨b,⟨by simpa using r,o⟩,rfl⟩
  have:=fQ ((iL.1 this) _ g);omega
 intro t
 induction t with
 | nil =>
  intro k d f a w ab g I j y h;have c:l.length≤k:=by simpa using g
  have x:Region.ready .any l.toArray f=[]:=by
   unfold Region.ready;rw[xa];intro i e;have T:i<l.length:=by simpa using e
   have:=j i T;rw[fX (by omega)]at this;simp[gE,this]
  cases d with
  |zero=>exact⟨x,h⟩
  |succ d=>exact⟨λ_=>h,λi e=>by rw[x]at e;cases e⟩
 | cons ai t ah =>
  intro k d f a w ab g I j y h;cases d with
  |zero=>simp at y
  | succ d =>
   have c:k<l.length:=by
    rcases gG k l.length with p|p
    ·exact p
    ·rw[mG p]at g;cases g
   have R:=hS c;rw[R]at g;injection g with ac N;have ae:∀i,i∈Region.ready .any l.toArray f→i=k:=by
    intro i e;unfold Region.ready at e;rw[kG]at e;obtain⟨X,C⟩:=e;have z:i<l.length:=by simpa using X
    simp only[gJ,o4]at C;obtain⟨B,u⟩:=C;rw[gE,j i z]at B;simp at B;rcases gG k i with F|F
    ·exfalso;have:=(iL.1 af) i (by simp[z]);simp only[o5]at this;rcases this with o|o
     ·have:=fQ o;omega
     ·have v:=pQ.1 ((iL.1 o) k (by simp[F]));unfold lS at v;have ad:l.toArray[i]?=some l[i]:=by simp[z]
      rw[ad]at u v;simp only[hU,sB]at u;rw[Ax]at u;simp only[g8,kG]at v;obtain⟨b,⟨r,L⟩,ag⟩:=v;have:=u b (by simpa using r);rw[L]at this;simp only[fy,ui]at this;rw[ag,gE,j k c]at this;simp at this
    ·omega
   refine⟨λx=>?_,λi e=>?_⟩
   ·exfalso;have E:k∈Region.ready .any l.toArray f:=by
     unfold Region.ready;rw[kG];refine⟨by simp[c],?_⟩;rw[gE,j k c];have q:l.toArray[k]?=some l[k]:=by simp[c]
     rw[q];simp only[Nat.lt_irrefl,bT,sB,gb,wG,hU];rw[Ax];intro b r;cases o:Region.binds .any b with
     |false=>simp
     | true =>
      have s:b.on<k∨¬b.on<k:=Decidable.em _;rcases s with s|s
      ·have:=j b.on (by omega);rw[fX s]at this;simp[gE,this]
      ·exfalso;exact s (M k c b (by simpa using r) o)
    rw[x]at E;cases E
   ·have:=ae i e;subst this;unfold wpOp;have q:l.toArray[i]?=some l[i]:=by simp[c]
    rw[q];simp only[];rw[ac];unfold wpList at h;have G:∀a w,wpList P l.toArray Q t a w→wpAny P .any l.toArray Q d (f.setIfInBounds i true) a w:=λa w p=>by
     refine ah (i+1) d _ a w (by omega) N (by simp[I]) (λK aa=>?_) (by simpa using y) p;by_cases D:i=K
     ·subst D;rw[wE (by omega)];simp
     ·rw[ng D,j K aa];congr 1;simp only[decide_eq_decide];omega
    split at h
    ·rename_i A;rw[bO A];exact h.imp (Oper.wp_mono G) id
    ·rename_i A;rw[cC A];exact G _ _ h
end og
abbrev aJ:=@if_false
abbrev aU:=@Bool.false_eq_true
abbrev g7:=@List.length_cons
abbrev hM:=@List.eq_nil_of_length_eq_zero
abbrev kF:=@List.mem_cons_of_mem
abbrev k0:=@List.mem_cons_self
abbrev o9:=@List.foldl_cons
abbrev ID:=@Array.foldl_toList
abbrev LF:=@List.zipIdx_cons
end Go.Eng
namespace Go.Eng
section
variable {P:Program} {e:fL} {g:Gw} {d:Option Tmp} {ty:TypeId} {pos:String} {af:Array Edge} {W:Option (Nat × Bool)}
def sU:Nat→List Value→List (Nat × Value)
 |_,[]=>[]
 |k,x::r=>(k,x)::sU (k+1) r
theorem Oc(cs:List Value):∀(b d:List Value),cs.length≤d.length →
  (cs.toArray.zipIdx.foldl (λa (c,j)=>a.setIfInBounds (b.length+j) c) (b++d).toArray)=(b++cs++d.drop cs.length).toArray:=by
 have n:∀(cs:List Value) (e:Nat) (b d:List Value),cs.length≤d.length→∀f,b.length=f+e →
   ((cs.zipIdx e).foldl (λ(a:Array Value) (i:Value × Nat)=>a.setIfInBounds (f+i.2) i.1) (b++d).toArray)=(b++cs++d.drop cs.length).toArray:=by
  intro cs
  induction cs with
  |nil=>intro e b d _ f _;simp
  | cons c p m =>
   intro e b d g f l;cases d with
   |nil=>simp at g
   | cons o h =>
    simp only[g7]at g;have:=m (e+1) (b++[c]) h (by omega) f (by simp;omega);simp only[LF,o9];have k:(b++o::h).toArray.setIfInBounds (f+e) c=(b++[c]++h).toArray:=by
     rw[← l];simp
    rw[k,this];simp
 intro b d g;have:=n cs 0 b d g b.length (by simp);rw[← this,← ID];simp
def over:List Value→List Value→List Value
 |_::cs,v::vs=>v::over cs vs
 |cs,_=>cs
theorem NX{V:Nat}:∀(vs:List Value) (b a:List Value) (k:Nat),b.length=k*V→a.length=vs.length*V→(∀v∈vs,v.cells.size=V) →
  Instr.fill (λi=>some (i*V,V)) (b++a).toArray (sU k vs)=some (b++vs.flatMap (λv=>v.cells.toList)).toArray
 | [],b,a,k,_,d,_=>by
  have:a=[]:=hM (by simpa using d);subst this;simp[sU,Instr.fill]
 | v::q,b,a,k,f,d,e=>by
  have c:=e v (k0 ..);have n:V≤a.length:=by rw[d];simp[hg]
  simp only[sU,Instr.fill];have s:¬(v.cells.size≠V∨k*V+v.cells.size>(b++a).toArray.size):=by
   simp[c];omega
  have j:(decide (v.cells.size≠V)||decide (k*V+v.cells.size>(b++a).toArray.size))=false:=by
   simp[c];omega
  simp only[j,aU,aJ];have l:=Oc v.cells.toList b a (by simpa[c]using n);have m:v.cells.zipIdx.foldl (λh (g,p)=>h.setIfInBounds (k*V+p) g) (b++a).toArray=(b++v.cells.toList++a.drop V).toArray:=by
   rw[← f];simpa[c]using l
  rw[m];have:=NX q (b++v.cells.toList) (a.drop V) (k+1) (by simp[f,c,hg]) (by simp[d,hg]) (λr o=>e r (kF _ o));rw[this];simp
theorem iS.of{α:Type}{a:Option Addr}{n cap V:Nat}{cs:List Value}(h:kX g a n cap V cs)(f:α→List Value)(xs:List α)(c:∀x,(f x).length=V)(b:xs.flatMap f=cs)(d:xs.length=n):iS g a n cap V f xs:=⟨b▸h,d,c⟩
end
section
variable {P:Program} {M:Nat→Prop} {J:Gw→Prop} {T:l9} {o:Oper} {e:fL} {g:Gw} {v:Value}
def NF(u:Value):l9:=λv _=>v=u
def NI(p:Int→Prop):l9:=λv _=>∃a:Int,v = .int .i64 a∧p a
def NK(p:ByteArray→Prop):l9:=λv _=>∃a:ByteArray,v = .string a∧p a
end
section
variable {g:Gw} {M:Nat→Prop} {J:Gw→Prop}
theorem iS.fz{α:Type}{b o n cap V:Nat}{f:α→List Value}{xs:List α}(h:iS g (some ⟨b,o,none⟩) n cap V f xs){i j:Nat}(hi:i<n)(k:j<V):o+i*V+j<g.F b:=by
 obtain⟨d,l,a,e,_⟩:=h.sl.pos (by omega);injection a with a;injection a with a c;subst a;subst c;have:(i+1)*V≤n*V:=jz V (by omega);rw[hg]at this;omega
theorem NF.mk{u:Value}:NF u u g:=rfl
theorem NI.mk{p:Int→Prop}{r:Int}(h:p r):NI p (.int .i64 r) g:=⟨r,rfl,h⟩
theorem NK.mk{p:ByteArray→Prop}{s:ByteArray}(h:p s):NK p (.string s) g:=⟨s,rfl,h⟩
end
section
variable {P:Program} {e:fL} {g:Gw} {d:Option Tmp} {ty:TypeId} {pos:String} {af:Array Edge} {W:Option (Nat × Bool)}
end
def II(b T:Nat)(cs:List Value):Gw→Gw→Prop:=λg a=>Ev (· = b) g a∧(fB g b T cs→fB a b T cs)
theorem II.pre(b T:Nat)(cs:List Value):dQ (II b T cs):=⟨λg=>⟨Ev.refl _ g,λa=>a⟩,λ_ _ _ a c=>⟨a.1.trans c.1,λd=>c.2 (a.2 d)⟩⟩
theorem fB.draw{g:Gw}{b T:Nat}{cs:List Value}(h:fB g b T cs):fB g.draw b T cs:=h
abbrev bF:=@List.length_append
end Go.Eng
namespace Go.Eng
section og
variable {P:Program} {n:Nat} {Q:Exit→Act→World→Prop} {R:Gw→Gw→Prop} {J:Gw→Prop}
def a6h(o:Oper)(e:fL):Option Value:=match o.dst with
 |some d=>lk e d
 | none=>match o.op with
  |.store _ (.tmp a) _=>lk e a
  |_=>some undef
structure xg (P:Program) (R:Gw→Gw→Prop) (J:Gw→Prop) (T:l9) (o:Oper) (e:fL) (g:Gw):Prop where
 go:∀ρ,uA e ρ →
  (∃v g',o.dst≠none∧(execOp ρ o).run P g.w = .ok (.value v) g'.w∧R g g'∧J g'∧T v g')∨(∃f args,o.dst≠none∧(execOp ρ o).run P g.w = .ok (.enter f args) g.w∧n2 P f args g.w (λv w'=>∃g',g'.w=w'∧R g g'∧J g'∧T v g')) ∨
  (o.dst=none∧∃u g',a6h o e=some u∧(execOp ρ o).run P g.w = .ok .skip g'.w∧R g g'∧J g'∧T u g')
theorem uE.d3{P:Program}{R:Gw→Gw→Prop}{J:Gw→Prop}{T:l9}{o:Oper}{e:fL}{g:Gw}{d:Nat}(h:uE P R J T o e g)(j:o.dst=some d):xg P R J T o e g :=.mk λw r=>by
 have f:o.dst≠none:=by rw[j];simp
 have k:∀a,dv o a=a:=λa=>by unfold dv;rw[j]
 rcases h.go w r with⟨a,b,c,n,p,i⟩|⟨l,args,c,q⟩|⟨m,_⟩
 ·rw[k]at i;exact .inl ⟨a,b,f,c,n,p,i⟩
 ·exact .inr (.inl ⟨l,args,f,c,q.mono λa x ⟨b,s,t,u,v⟩=>⟨b,s,t,u,by rwa [k]at v⟩⟩)
 ·exact absurd m f
end og
theorem uE.imp{P:Program}{R:Gw→Gw→Prop}{J:Gw→Prop}{T i:l9}{o:Oper}{e:fL}{g:Gw}(h:uE P R J T o e g)(f:∀v g',T v g'→i v g'):uE P R J i o e g :=.mk λs m=>by
 rcases h.go s m with⟨v,g',a,b,c,d⟩|⟨j,args,a,l⟩|⟨k,g',a,b,c,d⟩
 ·exact .inl ⟨v,g',a,b,c,f _ _ d⟩
 ·exact .inr (.inl ⟨j,args,a,l.mono λv t ⟨g',n,p,q,r⟩=>⟨g',n,p,q,f _ _ r⟩⟩)
 ·exact .inr (.inr ⟨k,g',a,b,c,f _ _ d⟩)
def IJ(B:Nat)(g g':Gw):Prop:=Ev (λa=>B≤a∧0<g.F a) g g'
def sd(M:Nat→Prop)(B b:Nat)(g g':Gw):Prop:=Ev (λa=>M a∨(B≤a∧0<g.F a)∨b≤a) g g'
theorem sd.pre(M:Nat→Prop)(B i:Nat):dQ (sd M B i):=⟨λg=>Ev.refl _ g,λn p q a c=>⟨c.os.trans a.os,c.tape.trans a.tape,c.output.trans a.output,fD a.size c.size,λb=>fD (a.mono b) (c.mono b),
 λb o f=>(c.cell b o (nv f (a.mono b))).trans (a.cell b o f),λb h e=>by
  obtain⟨j,d⟩:=a.cL b h e;obtain⟨l,m⟩:=c.cL b (nv h a.size) (λk=>e (by rw[← d];exact k));exact⟨l.trans j,m.trans d⟩⟩⟩
theorem sd.of{M:Nat→Prop}{B a:Nat}(g g':Gw)(h:Ev M g g'):sd M B a g g':=h.weaken λ_ b =>.inl (.inl b)
theorem sd.hE{M:Nat→Prop}{B:Nat}{b g1 g':Gw}(h:Ev M b g1)(c:b.w.heap.size≤B)(d:sd M B g1.w.heap.size g1 g'):Ev M b g':=h.step d λe a=>by
 rcases a with a|a|a
 ·exact .inl a
 ·exact .inr (fD c a.1)
 ·exact .inr (fD h.size a)
theorem IJ.refl{B:Nat}(g:Gw):IJ B g g:=Ev.refl _ g
theorem fB.nz{g:Gw}{b T B:Nat}{cs:List Value}(h:fB g b T cs):¬(B≤b∧0<g.F b):=λa=>by
 have:=h.2;omega
theorem o7.nz{T:Nat}{g:Gw}{a B:Nat}(h:o7 T g a):¬(B≤a∧0<g.F a):=by
 obtain⟨d,f,e,bs,c,b,_⟩:=h;exact b.nz
section
variable {P:Program} {e:fL} {g:Gw} {d:Nat} {ty:TypeId} {pos:String} {af:Array Edge} {W:Option (Nat × Bool)} {J:Gw→Prop} {α:Type}
theorem iS.app{g':Gw}{a:Option Addr}{n m cap V:Nat}{f:α→List Value}{xs ys:List α}(c:xs.length=n)(d:ys.length=m)(b:∀x,(f x).length=V)(h:kX g' a (n+m) cap V (xs.flatMap f++ys.flatMap f)):iS g' a (n+m) cap V f (xs++ys):=
 iS.of h f (xs++ys) b (by rw[List.flatMap_append]) (by rw[bF,c,d])
end
section
variable {P:Program} {R:Gw→Gw→Prop} {J:Gw→Prop} {T:l9} {l:List Oper} {o:Oper} {e:fL} {g:Gw}
theorem xg.imp{j:l9}(h:xg P R J T o e g)(i:∀v g',T v g'→j v g'):xg P R J j o e g :=.mk λu m=>by
 rcases h.go u m with⟨v,g',a,b,c,d,f⟩|⟨k,args,a,b,l⟩|⟨a,t,g',n,b,c,d,f⟩
 ·exact .inl ⟨v,g',a,b,c,d,i _ _ f⟩
 ·exact .inr (.inl ⟨k,args,a,b,l.mono λv w ⟨g',p,q,r,s⟩=>⟨g',p,q,r,i _ _ s⟩⟩)
 ·exact .inr (.inr ⟨a,t,g',n,b,c,d,i _ _ f⟩)
end
abbrev dU:=@ne_eq
abbrev fw:=@not_false_eq_true
abbrev hN:=@List.take_of_length_le
abbrev ir:=@Sem.run_bind
abbrev iM:=@Result.andThen_ok
abbrev jS:=@List.drop_succ_cons
abbrev km:=@Addr.add_lit
abbrev kp:=@List.nil_append
abbrev su:=@List.drop_append
abbrev xc:=@List.take_append
abbrev LD:=@List.take_succ_cons
end Go.Eng
namespace Go.Eng
def n9(P:Program)(t:TypeId)(a b:Value)(r:Bool):Prop:=∀d w,(Op.equalIn (d+1) t a b).run P w = .ok r w
section
variable {P:Program}
theorem n9.int{t:TypeId}{k c:IntKind}{a b:Int}(h:P.underlying t=some (.int c)):n9 P t (.int k a) (.int k b) (a==b):=λd w=>run_equalIn_int w d t k c a b h
theorem n9.str{t:TypeId}{a b:ByteArray}(h:P.underlying t=some .string):n9 P t (.string a) (.string b) (a.toList==b.toList):=λd w=>run_equalIn_string w d t a b h
theorem n9.bool{t:TypeId}{a b:Bool}(h:P.underlying t=some .bool):n9 P t (.bool a) (.bool b) (a==b):=λd w=>run_equalIn_bool' w d t a b h
def wI(P:Program)(xs ys:List Value):List Field→List Bool→Prop
 |[],[]=>True
 |f::fs,r::c=>("_" == f.name)=false∧One P f.type∧(∃a b,xs[f.offset]?=some a∧ys[f.offset]?=some b∧n9 P f.type a b r)∧wI P xs ys fs c
 |_,_=>False
theorem Qr{d:Nat}{xs ys:List Value}{w:World}:∀{fs:List Field} {c:List Bool},wI P xs ys fs c→(Op.eqFields (d+1) xs.toArray ys.toArray fs).run P w = .ok (c.all id) w
 |[],[],_=>by simp[Op.eqFields]
 |[],_::_,h=>h.elim
 |_::_,[],h=>h.elim
 | f::fs,r::c,⟨e,h2,⟨a,b,i,j,m⟩,g⟩=>by
  have l:f.name ≠ "_" := λk=>by rw[k]at e;simp at e
  have n:(part f.type xs.toArray f.offset).run P w = .ok a w:=by simp[part,h2 w,i]
  have o:(part f.type ys.toArray f.offset).run P w = .ok b w:=by simp[part,h2 w,j]
  simp only[Op.eqFields,l,dU,fw,aN,ir,n,o,m d w,iM,Sem.run_ite];cases r with
  |false=>simp
  |true=>simp[Qr (w:=w) g]
variable {e:fL} {d:Option Tmp} {ty:TypeId} {pos:String} {af:Array Edge} {W:Option (Nat × Bool)} {w:World}
theorem a2Q{t:TypeId}{fs:Array Field}{xs ys:List Value}{c:List Bool}(b:P.underlying t=some (.struct fs))(e:P.stoodInHeld t=false)(d:wI P xs ys fs.toList c):(Op.equalIn 10000 t (.agg xs.toArray) (.agg ys.toArray)).run P w = .ok (c.all id) w:=by
 have a:P.fieldsOf t=fs:=by simp[Program.fieldsOf,b]
 rw[run_equalIn_struct w 9999 t _ _ (by rw[a];exact b) e,a];exact Qr d
end
theorem Q7{α:Type}{f:α→List Value}{V:Nat}(a:∀x,(f x).length=V):∀(xs:List α) (m:Nat),(xs.take m).flatMap f=(xs.flatMap f).take (m*V)
 |[],m=>by simp
 |x::r,0=>by simp
 | x::r,m+1=>by
  simp only[LD,sv,Q7 a r m];rw[xc,hN (l:=f x) (by rw[a,hg];omega),a,show(m+1)*V - V=m*V from by rw[hg];omega]
theorem M3{α:Type}{f:α→List Value}{V:Nat}(a:∀x,(f x).length=V):∀(xs:List α) (m:Nat),(xs.drop m).flatMap f=(xs.flatMap f).drop (m*V)
 |[],m=>by simp
 |x::r,0=>by simp
 | x::r,m+1=>by
  simp only[jS,sv,M3 a r m];rw[su,@mG _ (f x) _ (by rw[a,hg];omega),a,kp,show(m+1)*V - V=m*V from by rw[hg];omega]
section
variable {α:Type} {g:Gw} {a:Option Addr} {n cap V:Nat} {f:α→List Value} {xs:List α}
theorem iS.part(h:iS g a n cap V f xs){l m:Nat}(d:l≤m)(e:m≤n):iS g (if cap=l then a else a.map (·.add (l*V))) (m - l) (cap - l) V f ((xs.take m).drop l):=by
 have k:=h.sl.nc;have c:=h.sl.cut d e (cap - l) (by omega) (by have:=h.sl.cm;omega) (if cap=l then a else a.map (·.add (l*V))) (λi o j b=>by
  rw[cC (by omega),b];simp[km])
 exact iS.of c f _ h.cells (by rw[M3 h.cells,Q7 h.cells]) (by rw[gK,lq,h.num];omega)
end
section
variable {P:Program} {n:Nat} {ops:Array Oper} {Q:Exit→Act→World→Prop} {o:Oper} {rest:List Oper} {e:fL} {w:World} {d:Nat}
end
section
variable {P:Program} {e:fL} {g:Gw} {d:Option Tmp} {ty:TypeId} {pos:String} {af:Array Edge} {W:Option (Nat × Bool)} {t t':TypeId} {x y:Operand}
end
theorem iS.lt{α:Type}{g:Gw}{a:Option Addr}{n cap V:Nat}{f:α→List Value}{xs:List α}(h:iS g a n cap V f xs)(i:0<n)(j:0<V):∀b,pe a b→b<g.w.heap.size:=by
 intro b e;obtain⟨d,l,rfl,k,_⟩:=h.sl.pos i;simp[pe]at e;subst e;rcases gG d g.w.heap.size with c|c
 ·exact c
 ·have:=g.ok d c;have:=Nat.mul_pos i j;omega
abbrev LL:=@World.cell?_of_block
end Go.Eng
namespace Go.Pi
open Go.Eng
inductive D where
 |any|bA
 |bool (b:Bool)|int (k:IntKind) (n:Int)|str (s:List UInt8)
 |jv|ptr (o i off:Nat)|aE (cs:List D)
 |aA|sl (V:Nat) (full:Bool) (rows:List (List D))|aZ (V o r n:Nat)
 |k8|fn (f:Fn) (first caps:List D)
 |m3|iface (t:TypeId) (d:D)
 |agg (cs:List D)|bD (ds:List D)
 deriving Inhabited
def D.one:D→Bool
 |.agg _|.bD _|.any|.bA=>false
 |_=>true
inductive Ob where
 |row (T:TypeId) (V:Nat) (rows:List (List D))
 |dead
 deriving Inhabited
abbrev J:=List Ob
structure Me where
 b:Nat
 V:Nat
 len:Nat
 cap:Nat
structure Gh where
 w:World
 ms:List Me
 L:Nat→Prop
def Gh.fz(g:Gh)(b:Nat):Prop:=b<g.w.heap.size∧¬g.L b
structure nh (g g':Gh):Prop where
 os:g'.w.os=g.w.os
 tape:g'.w.tape=g.w.tape
 output:g'.w.output=g.w.output
 size:g.w.heap.size≤g'.w.heap.size
 ms:∀(o:Nat) (m:Me),g.ms[o]?=some m→g'.ms[o]?=some m
 fz:∀b,g.fz b→g'.fz b∧g'.w.heap[b]?=g.w.heap[b]?
def Gh.eY(g:Gh)(b:Nat):Prop:=b<g.w.heap.size∧g.L b∧∀(c:Nat) (a:Me),g.ms[c]?=some a→a.b≠b
structure eA (g g':Gh):Prop extends nh g g' where
 eY:∀b,g.eY b→g'.eY b∧g'.w.heap[b]?=g.w.heap[b]?
theorem eA.refl(g:Gh):eA g g:=⟨⟨rfl,rfl,rfl,bB _,λ_ _ a=>a,λ_ a=>⟨a,rfl⟩⟩,λ_ a=>⟨a,rfl⟩⟩
theorem eA.trans{g g' c:Gh}(h:eA g g')(k:eA g' c):eA g c:=
 ⟨⟨k.os.trans h.os,k.tape.trans h.tape,k.output.trans h.output,fD h.size k.size,λe d f=>k.ms e d (h.ms e d f),
  λa b=>⟨(k.fz a (h.fz a b).1).1,(k.fz a (h.fz a b).1).2.trans (h.fz a b).2⟩⟩,λa b=>⟨(k.eY a (h.eY a b).1).1,(k.eY a (h.eY a b).1).2.trans (h.eY a b).2⟩⟩
theorem eA.zx{g g':Gh}(h:nh g g')(e:g'.ms=g.ms)(c:g'.L=g.L)(d:∀b,b<g.w.heap.size→g'.w.heap[b]?=g.w.heap[b]?):eA g g':=
 ⟨h,λb a=>⟨⟨nv a.1 h.size,by rw[c];exact a.2.1,by rw[e];exact a.2.2⟩,d b a.1⟩⟩
inductive aV (g:Gh):Value→D→Prop
 |any (v):aV g v .any
 |bA:aV g undef .bA
 |bool (b):aV g (.bool b) (.bool b)
 |int (k n):aV g (.int k n) (.int k n)
 |str (s:List UInt8):aV g (.string ⟨s.toArray⟩) (.str s)
 |jv:aV g (.pointer none) .jv
 |ptr (o i off:Nat) (m:Me) (hm:g.ms[o]?=some m):aV g (.pointer (some ⟨m.b,i*m.V+off,none⟩)) (.ptr o i off)
 |aE (b o:Nat) (cs:List D) (vs:Nat→Value) (hf:cs≠[]→g.fz b) (hc:∀(j:Nat) (d:D),cs[j]?=some d→g.w.cell? ⟨b,o+j,none⟩=some (vs j))
   (h1:∀(j:Nat) (d:D),cs[j]?=some d→(vs j).oneCell'=true) (hr:∀(j:Nat) (d:D),cs[j]?=some d→aV g (vs j) d):aV g (.pointer (some ⟨b,o,none⟩)) (.aE cs)
 |aA:aV g (.slice none 0 0) .aA
 |sl (ad:Addr) (n cap V:Nat) (full:Bool) (rows:List (List D)) (hn:rows.length=n) (hnc:n≤cap) (hcm:cap≤9223372036854775807) (hfull:full=true→cap=n) (kt:0<V)
   (hrow:∀row∈rows,row.length=V) (had:rows≠[]→ad.spot=none∧g.fz ad.block) (vs:Nat→Nat→Value)
   (hc:∀(i:Nat) (row:List D),rows[i]?=some row→∀(j:Nat) (d:D),row[j]?=some d→g.w.cell? ⟨ad.block,ad.off+i*V+j,none⟩=some (vs i j))
   (h1:∀(i:Nat) (row:List D),rows[i]?=some row→∀(j:Nat) (d:D),row[j]?=some d→(vs i j).oneCell'=true)
   (hr:∀(i:Nat) (row:List D),rows[i]?=some row→∀(j:Nat) (d:D),row[j]?=some d→aV g (vs i j) d):aV g (.slice (some ad) n cap) (.sl V full rows)
 |aZ (o r n cap:Nat) (m:Me) (hm:g.ms[o]?=some m) (hn:r+n≤m.len) (hlo:m.len≤r+cap) (hhi:r+cap≤m.cap) (hcm:cap≤9223372036854775807):aV g (.slice (some ⟨m.b,r*m.V,none⟩) n cap) (.aZ m.V o r n)
 |k8:aV g .nilFunc .k8
 |fn (f:Fn) (first caps:List D) (vf vc:List Value) (hf:vf.length=first.length) (hc:vc.length=caps.length)
   (rf:∀(j:Nat) (v:Value) (d:D),vf[j]?=some v→first[j]?=some d→aV g v d) (rc:∀(j:Nat) (v:Value) (d:D),vc[j]?=some v→caps[j]?=some d→aV g v d):aV g (.func f vf.toArray vc.toArray) (.fn f first caps)
 |m3:aV g .nilIface .m3
 |iface (t:TypeId) (v:Value) (d:D) (h:aV g v d):aV g (.iface t v) (.iface t d)
 |agg (vs:List Value) (cs:List D) (hl:vs.length=cs.length) (h1:∀v∈vs,v.oneCell'=true) (hr:∀(j:Nat) (v:Value) (d:D),vs[j]?=some v→cs[j]?=some d→aV g v d):aV g (.agg vs.toArray) (.agg cs)
 |bD (vs:List Value) (ds:List D) (hl:vs.length=ds.length) (hr:∀(j:Nat) (v:Value) (d:D),vs[j]?=some v→ds[j]?=some d→aV g v d):aV g (.tuple vs.toArray) (.bD ds)
theorem nh.cell{g g':Gh}(h:nh g g'){b i:Nat}(a:g.fz b):g'.w.cell? ⟨b,i,none⟩=g.w.cell? ⟨b,i,none⟩:=LL (h.fz b a).2
theorem aV.lT{g g':Gh}(e:nh g g'){v:Value}{d:D}(h:aV g v d):aV g' v d:=by
 induction h with
 |any v=>exact .any v
 |bA=>exact .bA
 |bool p=>exact .bool p
 |int X j=>exact .int X j
 |str ad=>exact .str ad
 |jv=>exact .jv
 |ptr k y aa A w=>exact .ptr k y aa A (e.ms _ _ w)
 | aE p k l c m i f x a =>
  refine .aE p k l c (λb=>(e.fz _ (m b)).1) (λz d n=>?_) f a;have b:l≠[]:=λt=>by subst t;cases n
  rw[e.cell (m b)];exact i z d n
 |aA=>exact .aA
 | sl E j q ae I C b N s K Q P r c i f x a =>
  refine .sl E j q ae I C b N s K Q P (λo=>⟨(r o).1,(e.fz _ (r o).2).1⟩) c (λy ac B z d n=>?_) f a;have o:C≠[]:=λt=>by subst t;cases B
  rw[e.cell (r o).2];exact i y ac B z d n
 |aZ k ab j q A w b M L s=>exact .aZ k ab j q A (e.ms _ _ w) b M L s
 |k8=>exact .k8
 |fn H first F ah ag m i aj ai T R=>exact .fn H first F ah ag m i T R
 |m3=>exact .m3
 |iface af v d h a=>exact .iface af v d a
 |agg c l u f x a=>exact .agg c l u f a
 |bD c G u x a=>exact .bD c G u a
theorem aV.ext{g g':Gh}(a:eA g g'){v:Value}{d:D}(h:aV g v d):aV g' v d:=h.lT a.tonh
theorem eA.cell{g g':Gh}(h:eA g g'){b i:Nat}(a:g.fz b):g'.w.cell? ⟨b,i,none⟩=g.w.cell? ⟨b,i,none⟩:=h.tonh.cell a
theorem aV.one{g:Gh}{v:Value}{d:D}(h:aV g v d)(a:d.one=true):v.oneCell'=true:=by
 cases h<;>first|rfl|(simp[D.one]at a)
inductive dP (g:Gh):List Value→List D→Prop
 |nil:dP g [] []
 |cons {v d vs ds} (h:aV g v d) (r:dP g vs ds):dP g (v::vs) (d::ds)
theorem dP.ext{g g':Gh}(a:eA g g'){vs:List Value}{ds:List D}(h:dP g vs ds):dP g' vs ds:=by
 induction h with
 |nil=>exact .nil
 |cons h _ b=>exact .cons (h.ext a) b
theorem dP.length{g:Gh}{vs:List Value}{ds:List D}(h:dP g vs ds):vs.length=ds.length:=by
 induction h with
 |nil=>rfl
 |cons _ _ a=>simp[a]
theorem dP.get{g:Gh}{vs:List Value}{ds:List D}(h:dP g vs ds):∀(j:Nat) (v:Value) (d:D),vs[j]?=some v→ds[j]?=some d→aV g v d:=by
 induction h with
 |nil=>intro j v d h;cases h
 | cons h _ c =>
  intro j v d a b;cases j with
  |zero=>simp at a b;subst a;subst b;exact h
  |succ j=>exact c j v d (by simpa using a) (by simpa using b)
theorem dP.of{g:Gh}:∀{vs:List Value} {ds:List D},vs.length=ds.length→(∀(j:Nat) (v:Value) (d:D),vs[j]?=some v→ds[j]?=some d→aV g v d)→dP g vs ds
 |[],[],_,_ =>.nil
 |[],_::_,h,_=>by simp at h
 |_::_,[],h,_=>by simp at h
 |v::vs,d::ds,h,k =>.cons (k 0 v d rfl rfl) (dP.of (by simpa using h) λj v d a h2=>k (j+1) v d (by simpa using a) (by simpa using h2))
theorem dP.append{g:Gh}{vs b:List Value}{ds a:List D}(h:dP g vs ds)(k:dP g b a):dP g (vs++b) (ds++a):=by
 induction h with
 |nil=>exact k
 |cons h _ c=>exact .cons h c
theorem dP.drop{g:Gh}{vs:List Value}{ds:List D}(h:dP g vs ds)(n:Nat):dP g (vs.drop n) (ds.drop n):=by
 refine .of (by simp[h.length]) λd e a b c=>h.get (n+d) e a (by simpa[ko]using b) (by simpa[ko]using c)
theorem dP.take{g:Gh}{vs:List Value}{ds:List D}(h:dP g vs ds)(n:Nat):dP g (vs.take n) (ds.take n):=by
 refine .of (by simp[h.length]) λe f c a b=>?_
 rw[gw]at a b;split at a
 ·rename_i d;rw[bO d]at b;exact h.get e f c a b
 ·cases a
def Ls(fr:Nat × Nat)(n:Nat):Prop:=fr=(0,0)∨n≤fr.1
def Fr(fr:Nat × Nat)(n V:Nat):Prop:=fr=(0,0)∨(n≤fr.1∧V=1)
theorem Fr.ue{fr:Nat × Nat}{n V:Nat}(h:Fr fr n V):Ls fr n:=h.imp id And.left
structure Live (g:Gh) (m:Me) (T V:Nat) (rows:List (List D)) (cs:Array Value):Prop where
 iv:∃fr,g.w.heap[m.b]?=some (.cells cs T fr)∧Fr fr cs.size V
 kt:m.V=V
 pos:0<V
 hL:g.L m.b
 len:rows.length=m.len
 le:m.len≤m.cap
 room:m.cap*V≤cs.size
 row:∀row∈rows,row.length=V
 cell:∀(i:Nat) (row:List D),rows[i]?=some row→∀(j:Nat) (d:D),row[j]?=some d→∃v,cs[i*V+j]?=some v∧v.oneCell'=true∧aV g v d
structure Inv (g:Gh) (h:J):Prop where
 len:g.ms.length=h.length
 live:∀(o T V:Nat) (rows:List (List D)),h[o]?=some (.row T V rows)→∃m cs,g.ms[o]?=some m∧Live g m T V rows cs
 inj:∀(o o':Nat) (T V T' sz':Nat) (rows rows':List (List D)) (m m':Me),h[o]?=some (.row T V rows)→h[o']?=some (.row T' sz' rows')→g.ms[o]?=some m→g.ms[o']?=some m'→m.b=m'.b→o=o'
 L:∀b,g.L b→b<g.w.heap.size
 msb:∀(o:Nat) (m:Me),g.ms[o]?=some m→m.b<g.w.heap.size
theorem Inv.oq{g:Gh}{h:J}(hi:Inv g h){b:Nat}(a:g.L b):b<g.w.heap.size:=hi.L b a
abbrev DE:=List (Nat × D)
def eI:DE→Nat→Option D
 |[],_=>none
 | (k,v)::r,t=>match Nat.beq k t with
  |true=>some v
  |false=>eI r t
theorem lF(k:Nat)(v:D)(r:DE)(t:Nat):eI ((k,v)::r) t=if k=t then some v else eI r t:=by
 simp only[eI];by_cases a:k=t
 ·subst a;simp
 ·have:Nat.beq k t=false:=by
    cases b:Nat.beq k t with
    |true=>exact absurd (kI b) a
    |false=>rfl
  rw[this,cC a]
structure jo (n:Nat) (g:Gh) (e:DE) (a:Act):Prop where
 size:a.tmps.size=n
 defers:a.defers=[]
 get:∀t d,eI e t=some d→aV g (a.tmps.getD t undef) d
theorem jo.ext{n:Nat}{g g':Gh}{e:DE}{a:Act}(h:jo n g e a)(d:eA g g'):jo n g' e a:=⟨h.size,h.defers,λf b c=>(h.get f b c).ext d⟩
theorem jo.put{n:Nat}{g:Gh}{e:DE}{a:Act}(h:jo n g e a){t:Nat}(j:t<n){v:Value}{d:D}(i:aV g v d):jo n g ((t,d)::e) (a.put (some t) v):=by
 refine⟨by simp[Act.put,h.size],by simp[Act.put,h.defers],λc l b=>?_⟩;rw[lF]at b;by_cases f:t=c
 ·subst f;rw[bO rfl]at b;injection b with b;subst b;have:(a.put (some t) v).tmps.getD t undef=v:=by simp[Act.put,Array.getD,h.size,j]
  rw[this];exact i
 ·rw[cC f]at b;have:=h.get c l b;have k:(a.put (some t) v).tmps.getD c undef=a.tmps.getD c undef:=by
   simp only[Act.put,gE];rw[ng (by omega)]
  rw[k];exact this
def LK(e' e:DE):Prop:=∀a b,eI e' a=some b→eI e a=some b
theorem LK.sat{n:Nat}{g:Gh}{e e':DE}{a:Act}(h:LK e' e)(b:jo n g e a):jo n g e' a:=⟨b.size,b.defers,λc d f=>b.get c d (h c d f)⟩
end Go.Pi
namespace Go.Pi
open Go.Eng
inductive TD where
 |bool|int (k:IntKind)|str|ptr (e:Nat)|sl (e:Nat)|arr (n e:Nat)|st (fs:List (Nat × Nat × Nat))|fn|ZW|oth
structure TI where
 td:TD
 V:Nat
 gf:Nat
 zero:List D
 ms:List (String × Option Nat)
def zk:List (String × Option Nat)→String→Option Nat
 |[],_=>none
 | (k,f)::r,m=>match k==m with
  |true=>f
  |false=>zk r m
def TI.isAgg(i:TI):Bool:=match i.td with
 |.st _|.arr _ _=>true
 |_=>false
abbrev dR:=Nat→Option TI
def cX:D→List D
 |.agg cs=>cs
 |d=>[d]
def D.fo:D→Bool
 |.agg _=>true
 |d=>d.one
def ql(i:TI)(cs:List D):Option D:=match i.isAgg with
 | true=>match Nat.ble i.V cs.length with
  |true=>some (.agg (cs.take i.V))
  |false=>none
 |false=>cs.head?
def dZ(cs:List D)(off:Nat)(vs:List D):List D:=cs.take off++vs++cs.drop (off+vs.length)
def cV:D→D→D→Option D
 |.bool true,a,_=>some a
 |.bool false,_,b=>some b
 |_,_,_=>none
def v7(T:dR)(t:Nat)(m:String):Option Nat:=match T t with
 |some a=>zk a.ms m
 |none=>none
def dS(T:dR):D→Option D
 |.ptr o i f=>some (.ptr o i f)
 |.aE cs=>some (.aE cs)
 |.fn (.func f) a b=>some (.fn (.func f) a b)
 | .fn (.method m) [.iface t d] []=>match v7 T t m with
  |some _=>some (.fn (.method m) [.iface t d] [])
  |none=>none
 |.iface t d=>some (.iface t d)
 |_=>none
def jM(c:BinOp)(k:IntKind)(a b:Int):Option D:=match c with
 |.add=>some (.int k (k.wrap (a+b)))
 |.sub=>some (.int k (k.wrap (a - b)))
 |.mul=>some (.int k (k.wrap (a*b)))
 |.quo=>if b=0 then none else some (.int k (k.wrap (a.tdiv b)))
 |.rem=>if b=0 then none else some (.int k (a.tmod b))
 |.and=>some (.int k (k.wrap (BitVec.ofInt k.bits a &&& BitVec.ofInt k.bits b).toNat))
 |.or=>some (.int k (k.wrap (BitVec.ofInt k.bits a ||| BitVec.ofInt k.bits b).toNat))
 |.xor=>some (.int k (k.wrap (BitVec.ofInt k.bits a ^^^ BitVec.ofInt k.bits b).toNat))
 |.andNot=>some (.int k (k.wrap (BitVec.ofInt k.bits a &&& ~~~(BitVec.ofInt k.bits b)).toNat))
 |.eql=>some (.bool (a==b))
 |.neq=>some (.bool (a != b))
 |.lss=>some (.bool (decide (a<b)))
 |.leq=>some (.bool (decide (a≤b)))
 |.gtr=>some (.bool (decide (a>b)))
 |.geq=>some (.bool (decide (a≥b)))
 |_=>none
def sR(c:BinOp)(a b:List UInt8):Option D:=match c with
 |.add=>if a.length+b.length≤9223372036854775807 then some (.str (a++b))else none
 |.eql=>some (.bool (a==b))
 |.neq=>some (.bool (!(a==b)))
 |.lss=>some (.bool (Op.bytesLess a b))
 |.leq=>some (.bool (Op.bytesLess a b||a==b))
 |.gtr=>some (.bool (!(Op.bytesLess a b||a==b)))
 |.geq=>some (.bool (!(Op.bytesLess a b)))
 |_=>none
def a7j:D→D→Option Bool
 |.bool a,.bool b=>some (a==b)
 |.int k a,.int c b=>if k=c then some (a==b)else none
 |.str a,.str b=>some (a==b)
 |_,_=>none
def uU(T:dR)(xs ys:List D):List (Nat × Nat × Nat)→Option Bool
 |[]=>some true
 | (t,off,_)::r=>match uU T xs ys r,T t with
  | some c,some i=>match i.td,xs[off]?,ys[off]? with
   |.bool,some (.bool a),some (.bool b)=>some (a==b&&c)
   |.int _,some (.int k a),some (.int d b)=>if k=d then some (a==b&&c)else none
   |.str,some (.str a),some (.str b)=>some (a==b&&c)
   |_,_,_=>none
  |_,_=>none
def sP(T:dR)(e:Nat)(x y:D):Option Bool:=match T e with
 | some d=>match d.td,x,y with
  |.bool,.bool a,.bool b=>some (a==b)
  |.st c,.agg f,.agg g=>uU T f g c
  |.ptr _,.jv,.jv=>some true
  |.ptr _,.jv,.ptr _ _ _=>some false
  |.ptr _,.jv,.aE _=>some false
  |.ptr _,.ptr _ _ _,.jv=>some false
  |.ptr _,.aE _,.jv=>some false
  |.sl _,.aA,.aA=>some true
  |.sl _,.aA,.sl _ _ _=>some false
  |.sl _,.aA,.aZ _ _ _ _=>some false
  |.sl _,.sl _ _ _,.aA=>some false
  |.sl _,.aZ _ _ _ _,.aA=>some false
  |.fn,.k8,.k8=>some true
  |.fn,.k8,.fn _ _ _=>some false
  |.fn,.fn _ _ _,.k8=>some false
  |_,_,_=>none
 |none=>none
def O(T:dR)(op:BinOp)(d:Nat)(x y:D):Option D:=match x,y with
 | .int b c,.int e a=>match op with
  |.shl=>if a<0 then none else some (.int b (b.wrap (c*2 ^ (min a.toNat b.bits))))
  |.shr=>if a<0 then none else some (.int b (c.fdiv (2 ^ (min a.toNat b.bits))))
  |op=>if b=e then jM op b c a else none
 |.str c,.str a=>sR op c a
 | x,y=>match op with
  |.eql=>(sP T d x y).bind λa=>some (.bool a)
  |.neq=>(sP T d x y).bind λa=>some (.bool (!a))
  |_=>none
def fS(d:UnOp)(x:D):Option D:=match d,x with
 |.not,.bool c=>some (.bool (!c))
 |.neg,.int a b=>some (.int a (a.wrap (0 - b)))
 |.xor,.int a b=>some (.int a (a.wrap (BitVec.ofInt a.bits (if a.signed then -1 else a.max) ^^^ BitVec.ofInt a.bits b).toNat))
 |_,_=>none
def dT(T:dR)(s t:Nat)(x:D):Option D:=match T s,T t with
 | some b,some c=>match c.td,x with
  |.int a,.int _ d=>some (.int a (a.wrap d))
  | .str,.str s=>match b.td with
   |.str=>some (.str s)
   |_=>none
  |_,_=>none
 |_,_=>none
def xJ (T:dR) (t f:Nat):Option (Nat × TI):=match T t with
 | some b=>match b.td with
  | .st a=>match a[f]? with
   | some (e,d,_)=>match T e with
    |some c=>some (d,c)
    |none=>none
   |none=>none
  |_=>none
 |none=>none
def aB(T:dR)(t f:Nat)(x:D):Option D:=match xJ T t f with
 | some (a,d)=>match Nat.blt 0 d.V,x with
  | true,.aE b=>match Nat.blt a b.length with
   |true=>some (.aE (b.drop a))
   |false=>none
  |true,.ptr g c e=>some (.ptr g c (e+a))
  |_,_=>none
 |none=>none
def CH(T:dR)(t f:Nat)(x:D):Option D:=match xJ T t f with
 | some (c,b)=>match x with
  |.agg a=>ql b (a.drop c)
  |_=>none
 |none=>none
def rk(T:dR)(t:Nat):Option (TI × Option Nat):=match T t with
 | some c=>match c.td with
  | .sl a=>match T a with
   |some b=>some (b,none)
   |none=>none
  | .arr d a=>match T a with
   |some b=>some (b,some d)
   |none=>none
  |_=>none
 |none=>none
def aO(T:dR)(t:Nat)(x y:D):Option D:=match rk T t,y with
 | some (b,none),.int _ a=>match x with
  | .sl e _ k=>if e=b.V∧0≤a then match k[a.toNat]? with
   |some j=>some (.aE j)
   |none=>none
   else none
  |.aZ e d i c=>if e=b.V∧0≤a∧a<c then some (.ptr d (i+a.toNat) 0)else none
  |_=>none
 | some (b,some c),.int _ a=>if 0≤a∧a<c∧0<b.V then match x with
  |.aE f=>if a.toNat*b.V<f.length then some (.aE (f.drop (a.toNat*b.V)))else none
  |.ptr d h g=>some (.ptr d h (g+a.toNat*b.V))
  |_=>none
  else none
 |_,_=>none
def mR (T:dR) (t:Nat) (x y:D):Option D:=match x,y with
 | .str f,.int _ a=>match T t with
  | some g=>match g.td with
   | .str=>if 0≤a then match f[a.toNat]? with
    |some c=>some (.int .u8 c.toNat)
    |none=>none
    else none
   |_=>none
  |none=>none
 | .agg d,.int _ a=>match rk T t with
  |some (b,some e)=>if 0≤a∧a<e then ql b (d.drop (a.toNat*b.V))else none
  |_=>none
 |_,_=>none
def kf (T:dR) (t:Nat) (x:D) (lo hi mx:Option Int):Option D:=match T t with
 | some m=>match m.td,x with
  | .str,.str g =>
   let a:=hi.getD g.length
   let b:=lo.getD 0
   if mx=none∧0≤b∧b≤a∧a≤g.length then some (.str ((g.take a.toNat).drop b.toNat))else none
  | .sl i,x=>match T i with
   | some f=>match x with
    |.aA=>if lo.getD 0=0∧hi.getD 0=0∧mx.getD 0=0 then some .aA else none
    | .sl c j d =>
     let a:=hi.getD d.length
     let b:=lo.getD 0
     if c=f.V∧0≤b∧b≤a then match mx with
      |none=>if a≤d.length then some (.sl c (j&&decide (a=d.length)) ((d.take a.toNat).drop b.toNat))else none
      |some e=>if a≤e∧e≤d.length then some (.sl c (decide (a=e)) ((d.take a.toNat).drop b.toNat))else none
     else none
    | .aZ c k l h =>
     let a:=hi.getD h
     let b:=lo.getD 0
     if c=f.V∧0<f.V∧0≤b∧b≤a∧a≤h then match mx with
      |none=>if b<a∨b=0 then some (.aZ c k (l+b.toNat) (a - b).toNat)else some (.sl c false [])
      |some e=>if b=0∧a=0∧e=0 then some (.sl c true [])else none
     else none
    |_=>none
   |none=>none
  |_,_=>none
 |none=>none
def ia:D→Option Int
 |.int _ n=>some n
 |_=>none
def eN(T:dR)(t:Nat)(l h m:Bool)(ds:List D):Option D:=match l,h,m,ds with
 |false,false,false,[c]=>kf T t c none none none
 |true,false,false,[c,a]=>(ia a).bind λa=>kf T t c (some a) none none
 |false,true,false,[c,a]=>(ia a).bind λa=>kf T t c none (some a) none
 |true,true,false,[c,a,b]=>(ia a).bind λa=>(ia b).bind λb=>kf T t c (some a) (some b) none
 |false,true,true,[c,a,b]=>(ia a).bind λa=>(ia b).bind λb=>kf T t c none (some a) (some b)
 |true,true,true,[c,a,b,d]=>(ia a).bind λa=>(ia b).bind λb=>(ia d).bind λd=>kf T t c (some a) (some b) (some d)
 |_,_,_,_=>none
def cT(i:Nat):D→Option D
 |.bD ds=>ds[i]?
 |_=>none
def mQ(fs:List (Nat × Nat × Nat)):List D→List Nat→List D→Option (List D)
 |cs,[],[]=>some cs
 | cs,i::a,d::ds=>match fs[i]? with
  | some (_,off,V)=>match Nat.beq (cX d).length V&&Nat.ble (off+V) cs.length&&d.fo with
   |true=>mQ fs (dZ cs off (cX d)) a ds
   |false=>none
  |none=>none
 |_,_,_=>none
def eD(T:dR)(t:Nat)(d:List Nat)(ds:List D):Option D:=match T t with
 | some b=>match b.td with
  |.st f=>(mQ f b.zero d ds).bind λa=>some (.agg a)
  | .arr h c=>match T c with
   |some e=>(mQ ((List.range h).map λg=>(c,g*e.V,e.V)) b.zero d ds).bind λa=>some (.agg a)
   |none=>none
  |_=>none
 |none=>none
def rl(V:Nat):Nat→List Nat→List D→Option (List (List D))
 |_,[],[]=>some []
 | k,i::a,d::ds=>match Nat.beq i k&&Nat.beq (cX d).length V&&d.fo with
  | true=>match rl V (k+1) a ds with
   |some r=>some (cX d::r)
   |none=>none
  |false=>none
 |_,_,_=>none
def mS (T:dR) (t n:Nat) (c:List Nat) (ds:List D):Option (Nat × Nat × List (List D)):=match T t with
 | some d=>match d.td with
  | .sl b=>match T b with
   | some a=>match Nat.blt 0 a.V&&Nat.ble (n*a.V) 16777216&&Nat.beq c.length n with
    | true=>match rl a.V 0 c ds with
     |some e=>some (b,a.V,e)
     |none=>none
    |false=>none
   |none=>none
  |_=>none
 |none=>none
def sQ:D→Option D
 |.str s=>some (.int .i64 s.length)
 |.aA=>some (.int .i64 0)
 |.sl _ _ rows=>some (.int .i64 rows.length)
 |.aZ _ _ _ n=>some (.int .i64 n)
 |_=>none
def CF:D→Option D
 |.aA=>some (.int .i64 0)
 |.sl _ true rows=>some (.int .i64 rows.length)
 |_=>none
def bC(T:dR)(t:Nat)(x:D):Option D:=match T t with
 | some e=>match e.td,x with
  |.str,.str f=>sQ (.str f)
  |.sl _,.aA=>sQ .aA
  |.sl _,.sl a b c=>sQ (.sl a b c)
  |.sl _,.aZ a b c d=>sQ (.aZ a b c d)
  |_,_=>none
 |none=>none
def uT(T:dR)(t:Nat)(x:D):Option D:=match T t with
 | some a=>match a.td with
  |.sl _=>CF x
  |_=>none
 |none=>none
def nG:D→D→Option D
 |.int k a,.int _ b=>some (.int k (if b<a then b else a))
 |_,_=>none
def CJ:D→D→Option D
 |.int k a,.int _ b=>some (.int k (if b>a then b else a))
 |_,_=>none
def MK(t:Nat):D→Option D
 |.iface a x=>if a=t then some x else none
 |_=>none
def mw(T:dR)(g:Op)(ds:List D):Option D:=match g with
 |.move _|.assign _=>match ds with|[i]=>some i|_=>none
 |.pick _ _ _=>match ds with|[e,h,k]=>cV e h k|_=>none
 |.nilCheck _=>match ds with|[i]=>dS T i|_=>none
 |.binOp g u _ _ _=>match ds with|[a,c]=>O T g u a c|_=>none
 |.unOp g _ _=>match ds with|[a]=>fS g a|_=>none
 |.convert s b _=>match ds with|[a]=>dT T s b a|_=>none
 |.makeFunc f h k=>some (.fn f (ds.take h.size) (ds.drop h.size))
 |.slice b _ o n p=>eN T b o.isSome n.isSome p.isSome ds
 |.fieldAddr b _ f=>match ds with|[a]=>aB T b f a|_=>none
 |.field b _ f=>match ds with|[a]=>CH T b f a|_=>none
 |.indexAddr b _ _=>match ds with|[a,c]=>aO T b a c|_=>none
 |.index b _ _=>match ds with|[a,c]=>mR T b a c|_=>none
 |.extract _ d=>match ds with|[a]=>cT d a|_=>none
 |.build b j=>eD T b (j.toList.map (·.1)) ds
 | .makeInterface b _=>match ds,T b with
  | [a],some d=>(match d.td with
   |.ptr _=>some (.iface b a)
   |.int _=>some (.iface b a)
   |_=>none)
  |_,_=>none
 | .typeAssert _ _ b l=>match ds,T b with
  | [a],some d=>(match d.td,l with
   |.int _,false=>MK b a
   |_,_=>none)
  |_,_=>none
 |.alloc m=>match T m with|some d=>some (.aE d.zero)|none=>none
 |.box _ _=>match ds with|[a]=>if a.fo then some (.aE (cX a))else none|_=>none
 |.buildSlice b q j=>(mS T b q (j.toList.map (·.1)) ds).bind λ(_,t,r)=>some (.sl t true r)
 | .call e=>match e.callee with
  |.builtin .len=>match ds,e.argTypes[0]? with|[a],some b=>bC T b a|_,_=>none
  |.builtin .cap=>match ds,e.argTypes[0]? with|[a],some b=>uT T b a|_,_=>none
  |.builtin .min=>match ds with|[a,c]=>nG a c|_=>none
  |.builtin .max=>match ds with|[a,c]=>CJ a c|_=>none
  |_=>none
 |_=>none
def J.row(h:J)(o i:Nat):Option (List D):=match h[o]? with
 |some (.row _ _ a)=>a[i]?
 |_=>none
def Y(T:dR)(h:J)(t:Nat)(p:D):Option D:=match T t with
 | some a=>match p with
  |.aE b=>ql a b
  | .ptr d c e=>match h.row d c with
   |some f=>ql a (f.drop e)
   |none=>none
  |_=>none
 |none=>none
def gA(h:J)(V:Nat):D→Option (List (List D))
 |.aA=>some []
 |.sl z _ rows=>if z=V then some rows else none
 | .aZ z o r n=>if z=V then match h[o]? with
  |some (.row _ _ rows)=>some ((rows.drop r).take n)
  |_=>none
  else none
 |_=>none
def rj:List (List D)→Option (List UInt8)
 |[]=>some []
 | [.int .u8 n]::r=>match rj r with
  |some s=>some (UInt8.ofNat n.toNat::s)
  |none=>none
 |_=>none
def qm(h:J)(x:D):Option D:=match gA h 1 x with
 | some a=>match rj a with
  |some b=>some (.str b)
  |none=>none
 |none=>none
def nV (T:dR) (h:J) (f:Op) (ds:List D):Option D:=match f with
 |.load a _=>match ds with|[g]=>Y T h a g|_=>none
 | .convert i a _=>match T i,T a with
  | some c,some d=>match c.td,d.td with
   | .sl b,.str=>match T b with
    | some e=>match e.td with
     |.int .u8=>match ds with|[j]=>qm h j|_=>none
     |_=>none
    |none=>none
   |_,_=>none
  |_,_=>none
 |_=>none
def aG(h:J)(T V:Nat)(rows:List (List D)):J:=h++[.row T V rows]
def aS (T:dR) (h:J) (t:Nat) (p v:D):Option J:=match T t,p with
 | some a,.ptr c b d=>match h[c]? with
  | some (.row g i f)=>match f[b]? with
   | some e=>match Nat.beq (cX v).length a.V&&Nat.ble (d+a.V) e.length&&v.fo with
    |true=>some (h.set c (.row g i (f.set b (dZ e d (cX v)))))
    |false=>none
   |none=>none
  |_=>none
 |_,_=>none
def iU(s:List UInt8):List (List D):=s.map λa=>[.int .u8 a.toNat]
def eY(n a:Nat):Bool:=Nat.ble (n*a) 140737488355328&&Nat.ble n 9223372036854775807
def ix(h:J)(u j:TI)(y:D):Option (List (List D)):=match u.td with
 | .str=>match j.td,y with
  |.int .u8,.str b=>if j.V=1 then some (iU b)else none
  |_,_=>none
 |.sl _=>gA h j.V y
 | .int _=>match y with
  |.int .i64 a=>if 0≤a∧eY a.toNat j.gf=true then some (List.replicate a.toNat j.zero)else none
  |_=>none
 |_=>none
def dB (T:dR) (h:J) (t u:Nat) (x y:D):Option (D × J):=match T t,T u with
 | some o, some p=>match o.td with
  | .sl e => match T e with
   | some a=>match Nat.blt 0 a.V,ix h p a y with
    | true,some []=>match x with
     |.aA=>some (.aA,h)
     |.sl i j k=>some (.sl i j k,h)
     |.aZ i j k n=>some (.aZ i j k n,h)
     |_=>none
    | true, some b=>match x with
     |.aA=>if eY b.length a.gf=true then some (.aZ a.V h.length 0 b.length,aG h e a.V b)else none
     |.sl f true c=>if f=a.V∧eY (c.length+b.length) a.gf=true then some (.aZ a.V h.length 0 (c.length+b.length),aG h e a.V (c++b))else none
     | .aZ f g 0 d=>match h[g]? with
      | some (.row l m c)=>if f=a.V∧m=f∧l=e∧d≤c.length∧eY (d+b.length) a.gf=true then
        (if d=c.length then some (.aZ a.V h.length 0 (d+b.length),aG (h.set g .dead) e a.V (c++b))
        else if d+b.length≤c.length then some (.aZ f g 0 (d+b.length),h.set g (.row l m (c.take d++b++c.drop (d+b.length))))else none)
       else none
      |_=>none
     |_=>none
    |_,_=>none
   |none=>none
  |_=>none
 |_,_=>none
def rR(i:TI):Bool:=match i.td with
 |.int _=>false
 |_=>true
def mP (T:dR) (h:J) (t u:Nat) (x y:D):Option (D × J):=match T t,T u with
 | some m, some d=>match m.td,rR d with
  | .sl l,true=>match T l with
   | some a=>match Nat.blt 0 a.V,ix h d a y with
    | true,some c=>match x with
     |.aA=>some (.int .i64 0,h)
     | .aZ i e f b=>match h[e]? with
      |some (.row k j g)=>if i=a.V∧j=i then some (.int .i64 (min c.length b:Nat),h.set e (.row k j (g.take f++c.take b++g.drop (f+min c.length b))))else none
      |_=>none
     |_=>none
    |_,_=>none
   |none=>none
  |_,_=>none
 |_,_=>none
def pk(T:dR)(h:J)(t:Nat)(n c:D):Option (D × J):=match T t,n,c with
 | some d,.int .i64 n,.int .i64 c=>match d.td with
  | .sl b=>match T b with
   |some a=>if 0≤n∧n≤c∧eY c.toNat a.gf=true∧0<a.V then some (.aZ a.V h.length 0 n.toNat,aG h b a.V (List.replicate n.toNat a.zero))else none
   |none=>none
  |_=>none
 |_,_,_=>none
def CG (T:dR) (h:J) (t:Nat) (x:D):Option (D × J):=match T t with
 | some k=>match k.td with
  | .sl j=>match T j with
   | some a=>match Nat.blt 0 a.V,x with
    |true,.aA=>some (.bD [],h)
    |true,.sl _ _ []=>some (.bD [],h)
    |true,.aZ _ _ _ 0=>some (.bD [],h)
    | true,.aZ f c d b=>match h[c]? with
     |some (.row i g e)=>if f=a.V∧g=f then some (.bD [],h.set c (.row i g (e.take d++List.replicate b a.zero++e.drop (d+b))))else none
     |_=>none
    |_,_=>none
   |none=>none
  |_=>none
 |none=>none
def lQ (T:dR) (h:J) (t:Nat) (l c:Bool) (ds:List D):Option (D × J):=match eN T t l c true ds with
 |some i=>some (i,h)
 | none=>match l,c,ds with
  | false,true,[.aZ b e 0 d,.int _ a,.int _ g]=>match h[e]?,T t with
   | some (.row o n f),some k=>match k.td with
    | .sl j=>match T j with
     |some m=>if b=m.V∧n=b∧a=g∧0≤a∧a≤d∧d≤f.length then some (.sl b true (f.take a.toNat),h.set e .dead)else none
     |none=>none
    |_=>none
   |_,_=>none
  |_,_,_=>none
def CI (T:dR) (h:J) (s t:Nat) (x:D):Option (D × J):=match T t with
 | some c=>match c.td,x with
  | .sl b,.aZ 1 a f e=>match T b,h[a]? with
   | some d,some (.row _ 1 _)=>match d.td with
    |.int .u8=>if s=t then some (.aZ 1 a f e,h)else none
    |_=>none
   |_,_=>none
  |_,_=>none
 |none=>none
def qW (T:dR) (h:J) (r:Op) (ds:List D):Option (D × J):=match r with
 |.store a _ _=>match ds with|[s,u]=>(aS T h a s u).bind λm=>some (.bA,m)|_=>none
 |.alloc c=>match T c with|some d=>if 0<d.V then some (.ptr h.length 0 0,aG h c d.V [d.zero])else none|none=>none
 |.box c _=>match T c,ds with|some d,[b]=>if b.fo=true∧(cX b).length=d.V∧0<d.V then some (.ptr h.length 0 0,aG h c d.V [cX b])else none|_,_=>none
 |.buildSlice a g t=>(mS T a g (t.toList.map (·.1)) ds).bind λ(c,l,k)=>some (.aZ l h.length 0 k.length,aG h c l k)
 |.makeSlice a _ _=>match ds with|[g,e]=>pk T h a g e|_=>none
 |.slice a _ q n (some _)=>lQ T h a q.isSome n.isSome ds
 | .convert f a _=>match T f,T a,ds with
  | some d,some o,[b]=>match d.td,o.td with
   | .str,.sl c=>match T c with
    | some p=>match p.td with
     | .int .u8=>match b with
      |.str f=>if eY f.length 1=true then some (.aZ 1 h.length 0 f.length,aG h c 1 (iU f))else none
      |_=>none
     |_=>none
    |none=>none
   |.sl _,.sl _=>CI T h f a b
   |_,_=>none
  |_,_,_=>none
 | .call e=>match e.callee with
  |.builtin .append=>match ds,e.argTypes.toList with|[b,j],[a,i]=>dB T h a i b j|_,_=>none
  |.builtin .copy=>match ds,e.argTypes.toList with|[b,j],[a,i]=>mP T h a i b j|_,_=>none
  |.builtin .clear=>match ds,e.argTypes.toList with|[b],[a]=>CG T h a b|_,_=>none
  |_=>none
 |_=>none
def vV(T:dR)(c:Op):Option D:=match c with
 | .alloc a=>match T a with
  | some b=>match Nat.blt 0 b.V with
   |true=>some .any
   |false=>none
  |none=>none
 |_=>none
inductive RH where
 |pure|read|write|call|h3
def gm(T:dR)(fz:List Nat)(o:Oper):RH:=match o.op with
 |.load _ _ =>.read
 | .convert e f _=>match T e,T f with
  | some c,some d=>match c.td,d.td with
   |.sl _,.str =>.read
   |.str,.sl _ =>.write
   |.sl _,.sl _ =>.write
   |_,_ =>.pure
  |_,_ =>.pure
 |.store _ _ _|.makeSlice _ _ _ =>.write
 | .slice _ _ _ _ (some _)=>match o.dst with
  |some a=>if fz.any (Nat.beq a)then .pure else .write
  |none =>.write
 | .alloc _=>match o.dst with
  |some a=>if fz.any (Nat.beq a)then .pure else if fz.any (Nat.beq (a+1000000))then .h3 else .write
  |none =>.write
 | .box _ _|.buildSlice _ _ _=>match o.dst with
  |some a=>if fz.any (Nat.beq a)then .pure else .write
  |none =>.write
 | .call b=>match b.callee with
  |.builtin .append|.builtin .copy|.builtin .clear =>.write
  |.builtin _ =>.pure
  |_ =>.call
 |_ =>.pure
end Go.Pi
namespace Go.Eng
abbrev eE:=@List.getElem?_map
abbrev eZ:=@run_underlying
abbrev fP:=@List.map_cons
abbrev mJ:=@Option.some.injEq
abbrev AB:=@ByteArray.ext
end Go.Eng
namespace Go.Pi
open Go.Eng
def nS:Value→D
 |.bool b =>.bool b
 |.int k n =>.int k n
 |.string s =>.str s.data.toList
 |.pointer none =>.jv
 |.slice none 0 0 =>.aA
 |.nilFunc =>.k8
 |.nilIface =>.m3
 |_ =>.any
def ofConst:Value→D
 | .agg cs=>match cs.toList.all (·.oneCell')with
  |true =>.agg (cs.toList.map nS)
  |false =>.any
 |v=>nS v
theorem Ho(g:Gh)(v:Value):aV g v (nS v):=by
 unfold nS;split<;>first|exact .any _|exact .bool _|exact .int _ _|exact .str _|exact .jv|exact .aA|exact .k8|exact .m3
theorem a2L(g:Gh)(v:Value):aV g v (ofConst v):=by
 unfold ofConst;split
 ·rename_i b;split
  ·rename_i c;have:=aV.agg (g:=g) b.toList (b.toList.map nS) (by simp) (λv e=>(iL.1 c) v e) (λh v f d a=>by
    rw[eE,d]at a;injection a with a;subst a;exact Ho g v)
   simpa using this
  ·exact .any _
 ·exact Ho g _
theorem rW(g:Gh)(vs:List Value):dP g vs (vs.map nS) :=.of (by simp) λe c d b a=>by
 rw[eE,b]at a;injection a with a;subst a;exact Ho g c
def th(P:Program)(fs:Array Field):List (Nat × Nat × Nat):=fs.toList.map λa=>(a.type,a.offset,P.cellsOf a.type)
def lh(P:Program):TypeDesc→TD
 |.bool =>.bool
 |.int k =>.int k
 |.string =>.str
 |.pointer e =>.ptr e
 |.slice e =>.sl e
 |.array n e =>.arr n e
 |.struct fs =>.st (th P fs)
 |.func _ _ _ =>.fn
 |.interface _ =>.ZW
 |_ =>.oth
def Py(i:TypeInfo)(d:TD):List (String × Option Nat):=i.methods.toList.map λa=>(a.name,match d,a.func with
 | .ptr _,some (b,true)=>(match a.path.toList with
  |[]=>some b
  |_=>none)
 |_,_=>none)
def ua(P:Program)(t:Nat):Option TI:=match P.info? t,P.underlying t with
 | some i,some a=>match i.zero with
  |some b=>some ⟨lh P a,i.size,i.bytes,b.cells.toList.map nS,Py i (lh P a)⟩
  |none=>none
 |_,_=>none
def tj(P:Program)(t:Nat):Bool:=match P.info? t,P.underlying t with
 | some i,some d=>(match i.zero with
  |some b=>Nat.beq b.cells.size i.size&&b.cells.toList.all (·.oneCell')
  |none=>false)&&(match d with
  |.struct c=>c.toList.all (λa=>a.name != "_" && (P.info? a.type).isSome) && !P.stoodInHeld t && !P.eqGuardType P.depth t
  |_=>true)
 |_,_=>false
def eL(P:Program)(T:dR):Prop:=∀t i,T t=some i→ua P t=some i∧tj P t=true
section tab
variable {P:Program} {T:dR} (hT:eL P T) {t:Nat} {i:TI} (ht:T t=some i)
include hT ht
theorem eL.get:∃b u z,P.info? t=some b∧P.underlying t=some u∧b.zero=some z∧i=⟨lh P u,b.size,b.bytes,z.cells.toList.map nS,Py b (lh P u)⟩∧z.cells.size=b.size∧(∀v∈z.cells.toList,v.oneCell'=true) ∧
  (∀fs,u = .struct fs→(∀f∈fs.toList,f.name ≠ "_" ∧ (P.info? f.type).isSome=true)∧P.stoodInHeld t=false∧P.eqGuardType P.depth t=false):=by
 obtain⟨a,c⟩:=hT t i ht;unfold ua at a;unfold tj at c;cases e:P.info? t with
 |none=>rw[e]at a;simp at a
 | some b =>
  cases h:P.underlying t with
  |none=>rw[e,h]at a;simp at a
  | some u =>
   rw[e,h]at a c;simp only at a c;cases g:b.zero with
   |none=>rw[g]at a;simp at a
   | some z =>
    rw[g]at a c;simp only[mJ]at a;simp only[gJ]at c;obtain⟨⟨j,k⟩,d⟩:=c;refine⟨b,u,z,rfl,rfl,g,a.symm,kI j,λv m=>(iL.1 k) v m,λfs l=>?_⟩;subst l;simp only[gJ,o4,iL,bne_iff_ne,dU]at d;exact⟨d.1.1,d.1.2,d.2⟩
theorem eL.size(w:World):(sizeOf t).run P w = .ok i.V w:=by
 obtain⟨d,e,f,a,b,c,rfl,_⟩:=hT.get ht;simp[sizeOf,typeInfo,a]
theorem eL.qY:∃z,(∀w,(zeroValue t).run P w = .ok z w)∧i.zero=z.cells.toList.map nS∧z.cells.size=i.V∧∀v∈z.cells.toList,v.oneCell'=true:=by
 obtain⟨f,g,z,a,e,b,rfl,c,d,_⟩:=hT.get ht;exact⟨z,λw=>by simp[zeroValue,typeInfo,a,b],rfl,c,d⟩
theorem eL.RA:i.zero.length=i.V:=by
 obtain⟨c,_,a,b,_⟩:=hT.qY ht;rw[a];simpa using b
theorem eL.Ci(w:World):(isAgg t).run P w = .ok i.isAgg w:=by
 obtain⟨e,b,f,c,a,d,rfl,_⟩:=hT.get ht;cases b<;>simp[isAgg,eZ a,TI.isAgg,lh]
theorem eL.bool(h:i.td = .bool):P.underlying t=some .bool:=by
 obtain⟨e,b,f,c,a,d,rfl,_⟩:=hT.get ht;cases b<;>simp[lh]at h;exact a
theorem eL.int{k:IntKind}(h:i.td = .int k):P.underlying t=some (.int k):=by
 obtain⟨e,b,f,c,a,d,rfl,_⟩:=hT.get ht;cases b<;>simp[lh]at h;subst h;exact a
theorem eL.str(h:i.td = .str):P.underlying t=some .string:=by
 obtain⟨e,b,f,c,a,d,rfl,_⟩:=hT.get ht;cases b<;>simp[lh]at h;exact a
theorem eL.ptr{e:Nat}(h:i.td = .ptr e):P.underlying t=some (.pointer e):=by
 obtain⟨f,b,g,c,a,d,rfl,_⟩:=hT.get ht;cases b<;>simp[lh]at h;subst h;exact a
theorem eL.sl{e:Nat}(h:i.td = .sl e):P.underlying t=some (.slice e):=by
 obtain⟨f,b,g,c,a,d,rfl,_⟩:=hT.get ht;cases b<;>simp[lh]at h;subst h;exact a
theorem eL.arr{n e:Nat}(h:i.td = .arr n e):P.underlying t=some (.array n e):=by
 obtain⟨f,b,g,c,a,d,rfl,_⟩:=hT.get ht;cases b<;>simp[lh]at h;obtain⟨rfl,rfl⟩:=h;exact a
theorem eL.fn(h:i.td = .fn):∃a b c,P.underlying t=some (.func a b c):=by
 obtain⟨j,e,k,f,d,g,rfl,_⟩:=hT.get ht;cases e<;>simp[lh]at h;exact⟨_,_,_,d⟩
theorem eL.st{fs:List (Nat × Nat × Nat)}(h:i.td = .st fs):∃a,P.underlying t=some (.struct a)∧fs=th P a∧(∀f∈a.toList,f.name ≠ "_" ∧ (P.info? f.type).isSome=true)∧P.stoodInHeld t=false∧P.eqGuardType P.depth t=false:=by
 obtain⟨j,d,k,e,b,g,rfl,_,_,c⟩:=hT.get ht;cases d<;>simp[lh]at h;exact⟨_,b,h.symm,c _ rfl⟩
end tab
theorem PA {P:Program} {T:dR} (hT:eL P T) {t:Nat} {m:String} {f:FuncId} (c:v7 T t m=some f):∃d b e,P.info? t=some d∧d.methods.find? (·.name==m)=some b∧b.path.toList=[]∧b.func=some (f,true)∧P.underlying t=some (.pointer e):=by
 unfold v7 at c;split at c
 case h_2=>cases c
 rename_i i ht;obtain⟨d,o,E,q,A,B,rfl,_⟩:=hT.get ht;simp only at c;have y:∀(g:List Method),zk (g.map λm=>(m.name,match lh P o,m.func with
 | .ptr _,some (f,true)=>(match m.path.toList with
  |[]=>some f
  |_=>none)
 | _, _ => none)) m=some f→∃b e,g.find? (·.name==m)=some b∧b.path.toList=[]∧b.func=some (f,true)∧lh P o = .ptr e:=by
  intro g
  induction g with
  |nil=>intro a;cases a
  | cons p D x =>
   intro a;simp only[fP,zk]at a;split at a
   ·rename_i h;split at a
    ·rename_i e z v s;split at a
     ·rename_i u;injection a with a;subst a;exact⟨p,e,by simp[List.find?_cons,h],u,s,v⟩
     ·cases a
    ·cases a
   ·rename_i h;obtain⟨b,e,j,k,l,n⟩:=x a;exact⟨b,e,by simp[List.find?_cons,h,j],k,l,n⟩
 obtain⟨b,e,j,k,l,n⟩:=y _ c;have w:P.underlying t=some (.pointer e):=hT.ptr ht n;have r:d.methods.find? (·.name==m)=some b:=by rw[← Array.find?_toList];exact j
 exact⟨d,b,e,q,r,k,l,w⟩
theorem Pz(P:Program):∃k,P.types.size+Made.depth=k+1:=by
 have a:0<Made.depth:=by decide
 exact⟨P.types.size+Made.depth - 1,by omega⟩
def hK(P:Program)(ρ:Operand→Value)(o:Oper)(g:Gh)(d:D):Prop:=(∃a,(execOp ρ o).run P g.w = .ok (.value a) g.w∧aV g a d)
section ops
variable {P:Program} {T:dR} (hT:eL P T) {g:Gh} {ρ:Operand→Value} {dst:Option Tmp} {ty:TypeId} {pos:String} {af:Array Edge} {W:Option (Nat × Bool)}
theorem Qb{s:List UInt8}:(ByteArray.mk s.toArray).toList=s:=ByteArray.toList_mk s
theorem rV{s:List UInt8}:(ByteArray.mk s.toArray).size=s.length:=by simp[ByteArray.size]
theorem TW{c a b:Operand}{k i j d:D}(e:aV g (ρ c) k)(l:aV g (ρ a) i)(m:aV g (ρ b) j)(h:cV k i j=some d):hK P ρ ⟨dst,.pick c a b,ty,pos,af,W⟩ g d:=by
 unfold cV at h;split at h
 ·injection h with h;subst h;generalize f:ρ c=n at e;cases e;exact⟨ρ a,by simp[execOp,f,asBool],l⟩
 ·injection h with h;subst h;generalize f:ρ c=n at e;cases e;exact⟨ρ b,by simp[execOp,f,asBool],m⟩
 ·cases h
theorem TV(hT:eL P T){x:Operand}{e d:D}(a:aV g (ρ x) e)(h:dS T e=some d):hK P ρ ⟨dst,.nilCheck x,ty,pos,af,W⟩ g d:=by
 unfold dS at h;split at h
 ·injection h with h;subst h;refine⟨ρ x,?_,a⟩;generalize b:ρ x=c at a;cases a;simp[execOp,b]
 ·injection h with h;subst h;refine⟨ρ x,?_,a⟩;generalize b:ρ x=c at a;cases a;simp[execOp,b]
 ·injection h with h;subst h;refine⟨ρ x,?_,a⟩;generalize b:ρ x=c at a;cases a;simp[execOp,b]
 ·rename_i F t L;split at h
  case h_2=>cases h
  rename_i w l;injection h with h;subst h;refine⟨ρ x,?_,a⟩;obtain⟨C,G,u,i,j,n,o,A⟩:=PA hT l;obtain⟨E,k⟩:=Pz P;generalize b:ρ x=c at a;cases a with
  | fn y first s r K f v p H =>
   match r,f with
   | [q],_ =>
    have m:=p 0 q _ rfl rfl;cases m with
    | iface _ I _ B =>
     simp[execOp,b,run_program,k,nilAhead,typeInfo,i,j,n,followBlind,o]
 ·injection h with h;subst h;refine⟨ρ x,?_,a⟩;generalize b:ρ x=c at a;cases a;simp[execOp,b]
 ·cases h
theorem T0{t:TypeId}{x:Operand}{i:UnOp}{f d:D}(b:aV g (ρ x) f)(h:fS i f=some d):hK P ρ ⟨dst,.unOp i t x,ty,pos,af,W⟩ g d:=by
 unfold fS at h;split at h
 ·rename_i k;injection h with h;subst h;generalize c:ρ x=j at b;cases b;exact⟨.bool (!k),by simp[execOp,c,Op.unary],.bool _⟩
 ·rename_i a e;injection h with h;subst h;generalize c:ρ x=j at b;cases b;exact⟨.int a (a.wrap (0 - e)),by simp[execOp,c,Op.unary,Op.intArith],.int _ _⟩
 ·rename_i a e;injection h with h;subst h;generalize c:ρ x=j at b;cases b;exact⟨.int a (a.wrap (BitVec.ofInt a.bits (if a.signed then -1 else a.max) ^^^ BitVec.ofInt a.bits e).toNat),by simp[execOp,c,Op.unary,Op.intBits],.int _ _⟩
 ·cases h
theorem TN{c:BinOp}{i ty':TypeId}{x y:Operand}{k:IntKind}{a b:Int}{d:D}(p:ρ x = .int k a)(q:ρ y = .int k b)(l:c ≠ .shl∧c ≠ .shr)(h:jM c k a b=some d):hK P ρ ⟨dst,.binOp c i x y ty',ty,pos,af,W⟩ g d:=by
 have f:∀j,aV g j d→(binOp c i (.int k a) (.int k b)).run P g.w = .ok j g.w→hK P ρ ⟨dst,.binOp c i x y ty',ty,pos,af,W⟩ g d:=λj o n=>by
  refine⟨j,?_,o⟩;have m:(eqGuard c i x y (.int k a) (.int k b)).run P g.w = .ok () g.w:=by cases c<;>simp[eqGuard]
  simp[execOp,p,q,m,n]
 cases c
 case shl=>exact absurd rfl l.1
 case shr=>exact absurd rfl l.2
 case quo =>
  by_cases e:b=0
  ·simp[jM,e]at h
  ·simp[jM,e]at h;subst h;exact f _ (.int _ _) (by simp[binOp,Op.intDiv,e])
 case rem =>
  by_cases e:b=0
  ·simp[jM,e]at h
  ·simp[jM,e]at h;subst h;exact f _ (.int _ _) (by simp[binOp,Op.intDiv,e])
 all_goals
  simp only[jM,mJ]at h;subst h
  first
   |exact f _ (.int _ _) (by simp[binOp,Op.intArith,Op.intCmp,Op.intBits])
   |exact f _ (.bool _) (by simp[binOp,Op.intArith,Op.intCmp,Op.intBits])
theorem TY{c:BinOp}{e ty':TypeId}{x y:Operand}{a b:List UInt8}{d:D}(q:ρ x = .string ⟨a.toArray⟩)(r:ρ y = .string ⟨b.toArray⟩)(h:sR c a b=some d):hK P ρ ⟨dst,.binOp c e x y ty',ty,pos,af,W⟩ g d:=by
 have j:∀f,aV g f d→(Op.stringOp c ⟨a.toArray⟩ ⟨b.toArray⟩).run P g.w = .ok f g.w→hK P ρ ⟨dst,.binOp c e x y ty',ty,pos,af,W⟩ g d:=λf p o=>by
  refine⟨f,?_,p⟩;have n:(eqGuard c e x y (.string ⟨a.toArray⟩) (.string ⟨b.toArray⟩)).run P g.w = .ok () g.w:=by cases c<;>simp[eqGuard]
  have m:binOp c e (.string ⟨a.toArray⟩) (.string ⟨b.toArray⟩)=Op.stringOp c ⟨a.toArray⟩ ⟨b.toArray⟩:=by cases c<;>simp[binOp]
  simp[execOp,q,r,n,m,o]
 cases c
 case add =>
  by_cases i:a.length+b.length≤9223372036854775807
  ·simp[sR,i]at h;subst h;refine j (.string ⟨(a++b).toArray⟩) (.str _) ?_;have k:¬(9223372036854775807:Int)<(a.length:Int)+(b.length:Int):=by omega
   have l:(ByteArray.mk a.toArray++ByteArray.mk b.toArray)=ByteArray.mk (a++b).toArray:=by
    apply AB;simp
   simp[Op.stringOp,rV,k,l]
  ·simp[sR,i]at h
 all_goals first
  |(simp[sR]at h;done)
  | (simp only[sR,mJ]at h
     subst h;exact j _ (.bool _) (by simp[Op.stringOp,Qb]))
end ops
end Go.Pi
namespace Go.Eng
abbrev fG:=@List.mem_of_mem_take
abbrev fM:=@List.mem_of_mem_drop
abbrev j7:=@List.getElem?_of_mem
abbrev sw:=@List.getD_eq_getElem?_getD
end Go.Eng
namespace Go.Pi
open Go.Eng
section inv
variable {g:Gh}
theorem aV.q6{v:Value}{cs:List D}(h:aV g v (.agg cs)):∃vs,v = .agg vs.toArray∧dP g vs cs∧∀u∈vs,u.oneCell'=true:=by
 cases h with
 |agg vs cs b a c=>exact⟨vs,rfl,.of b c,a⟩
theorem aV.tD{vs:List Value}{cs:List D}(h:dP g vs cs)(a:∀u∈vs,u.oneCell'=true):aV g (.agg vs.toArray) (.agg cs) :=.agg vs cs h.length a h.get
theorem aV.Ij{v:Value}{cs:List D}(h:aV g v (.bD cs)):∃vs,v = .tuple vs.toArray∧dP g vs cs:=by
 cases h with
 |bD vs cs a b=>exact⟨vs,rfl,.of a b⟩
theorem aV.zp{vs:List Value}{cs:List D}(h:dP g vs cs):aV g (.tuple vs.toArray) (.bD cs) :=.bD vs cs h.length h.get
theorem aV.cells{v:Value}{d:D}(h:aV g v d)(e:d.fo=true):∃vs,v.cells=vs.toArray∧dP g vs (cX d)∧∀u∈vs,u.oneCell'=true:=by
 by_cases a:d.one=true
 ·have f:=h.one a;refine⟨[v],?_,?_,?_⟩
  ·cases h<;>first|rfl|(simp[D.one]at a)
  ·have:cX d=[d]:=by cases d<;>first|rfl|(simp[D.one]at a)
   rw[this];exact .cons h .nil
  ·intro u b;simp at b;subst b;exact f
 ·cases d<;>simp[D.fo,D.one]at e a;obtain⟨vs,rfl,i,c⟩:=h.q6;exact⟨vs,rfl,i,c⟩
def At(g:Gh)(b o:Nat)(vs:List Value)(cs:List D):Prop:=(∀(c:Nat) (a:Value),vs[c]?=some a→g.w.cell? ⟨b,o+c,none⟩=some a)∧(∀a∈vs,a.oneCell'=true)∧dP g vs cs
theorem At.drop{b o:Nat}{vs:List Value}{cs:List D}(h:At g b o vs cs)(k:Nat):At g b (o+k) (vs.drop k) (cs.drop k):=
 ⟨(λe a c=>by
  rw[ko]at c;have:=h.1 _ a c
  rwa [← nr]at this),(λa d=>h.2.1 a (fM d)),h.2.2.drop k⟩
theorem At.take{b o:Nat}{vs:List Value}{cs:List D}(h:At g b o vs cs)(k:Nat):At g b o (vs.take k) (cs.take k):=
 ⟨(λe c a=>by
  rw[gw]at a;split at a
  ·exact h.1 _ c a
  ·cases a),(λc d=>h.2.1 c (fG d)),h.2.2.take k⟩
theorem At.of{b o:Nat}{cs:List D}(vs:Nat→Value)(m:∀(j:Nat) (d:D),cs[j]?=some d→g.w.cell? ⟨b,o+j,none⟩=some (vs j))(l:∀(j:Nat) (d:D),cs[j]?=some d→(vs j).oneCell'=true)
  (p:∀(j:Nat) (d:D),cs[j]?=some d→aV g (vs j) d):At g b o ((List.range cs.length).map vs) cs:=by
 have h:∀(j:Nat) (c:Value),((List.range cs.length).map vs)[j]?=some c→∃d,cs[j]?=some d∧c=vs j:=λj c a=>by
  rw[eE]at a;cases f:(List.range cs.length)[j]? with
  |none=>rw[f]at a;cases a
  | some t =>
   rw[f]at a;have n:=bR.1 f;obtain⟨i,k⟩:=n;simp at i k;subst k;injection a with a;exact⟨cs[j],dG i,a.symm⟩
 refine⟨λj c a=>?_,λc q=>?_,.of (by simp) λj c d a e=>?_⟩
 ·obtain⟨d,e,rfl⟩:=h j c a;exact m j d e
 ·obtain⟨j,a⟩:=j7 q;obtain⟨d,e,rfl⟩:=h j c a;exact l j d e
 ·obtain⟨r,s,rfl⟩:=h j c a;exact p j d e
theorem At.aE{b o:Nat}{vs:List Value}{cs:List D}(h:At g b o vs cs)(f:cs≠[]→g.fz b):aV g (.pointer (some ⟨b,o,none⟩)) (.aE cs):=by
 have i:=h.2.2.length;have e:∀(a:Nat) (c:D),cs[a]?=some c→vs[a]?=some (vs.getD a undef):=λa c d=>by
  have:=(bR.1 d).1;rw[sw,dG (by omega)];rfl
 exact .aE b o cs (λa=>vs.getD a undef) f (λa c d=>h.1 a _ (e a c d)) (λa c d=>h.2.1 _ (eW (e a c d))) (λa c d=>h.2.2.get a _ c (e a c d) d)
theorem aV.yQ{v:Value}{cs:List D}(h:aV g v (.aE cs)):∃b o vs,v = .pointer (some ⟨b,o,none⟩)∧(cs≠[]→g.fz b)∧At g b o vs cs:=by
 cases h with
 |aE b o cs vs d c a e=>exact⟨b,o,_,rfl,d,At.of vs c a e⟩
theorem aV.z3{v:Value}{V:Nat}{a:Bool}{rows:List (List D)}(h:aV g v (.sl V a rows)){i:Nat}{row:List D}(hi:rows[i]?=some row):
  ∃b o n cap vs,v = .slice (some ⟨b,o,none⟩) n cap∧n=rows.length∧g.fz b∧At g b (o+i*V) vs row∧row.length=V:=by
 cases h with
 | sl f n cap V a rows m u s t w r k vs c j q =>
  have p:rows≠[]:=λl=>by subst l;cases hi
  obtain⟨e,d⟩:=k p;obtain⟨b,o,x⟩:=f;simp only at e d c;subst e;exact⟨b,o,n,cap,_,rfl,m.symm,d,At.of (vs i) (c i row hi) (j i row hi) (q i row hi),r row (eW hi)⟩
end inv
section ops
variable {P:Program} {T:dR} (hT:eL P T) {g:Gh} {ρ:Operand→Value} {dst:Option Tmp} {ty:TypeId} {pos:String} {af:Array Edge} {W:Option (Nat × Bool)}
theorem Pq{t:Nat}{i:TI}(hT:eL P T)(l:T t=some i){b o:Nat}{vs:List Value}{cs:List D}(h:At g b o vs cs){d:D}(a:ql i cs=some d):∃v,(loadVar t ⟨b,o,none⟩).run P g.w = .ok v g.w∧aV g v d:=by
 unfold ql at a;have k:=hT.Ci l;split at a
 ·rename_i f;split at a
  ·rename_i n;injection a with a;subst a;have e:=h.take i.V;have j:(vs.take i.V).length=i.V:=by
    have:=fQ n;simp[h.2.2.length];omega
   exact⟨_,a1K (λc=>by rw[k c,f]) (λc=>hT.size l c) j (λp v m=>by rw[km];exact e.1 p v m),.tD e.2.2 e.2.1⟩
  ·cases a
 ·rename_i f;have j:=h.2.2.length;cases cs with
  |nil=>cases a
  | cons q r =>
   simp at a;subst a;cases vs with
   |nil=>simp at j
   |cons v vs=>exact⟨v,a1L (λc=>by rw[k c,f]) (by simpa using h.1 0 v rfl),h.2.2.get 0 v _ rfl rfl⟩
theorem PX{t:Nat}{i:TI}(hT:eL P T)(m:T t=some i){vs:List Value}{cs:List D}(h:dP g vs cs)(n:∀v∈vs,v.oneCell'=true){off:Nat}{d:D}(a:ql i (cs.drop off)=some d):∃v,(part t vs.toArray off).run P g.w = .ok v g.w∧aV g v d:=by
 unfold ql at a;have k:=hT.Ci m;have c:=h.drop off;split at a
 ·rename_i e;split at a
  ·rename_i s;injection a with a;subst a;refine⟨.agg ((vs.drop off).take i.V).toArray,?_,.tD (c.take _) (λq p=>n q (fM (fG p)))⟩;simp[part,k,e,hT.size m]
  ·cases a
 ·rename_i e;have l:=c.length;cases b:cs.drop off with
  |nil=>rw[b]at a;cases a
  | cons r u =>
   rw[b]at a;simp at a;subst a;cases f:vs.drop off with
   |nil=>rw[f,b]at l;simp at l
   | cons v x =>
    rw[f,b]at c;have o:vs[off]?=some v:=by
     have:=ko (xs:=vs) (i:=off) (j:=0);rw[f]at this;simpa using this.symm
    exact⟨v,by simp[part,k,e,o],c.get 0 v _ rfl rfl⟩
include hT in
theorem NW {t f:Nat} {off:Nat} {j:TI} (h:xJ T t f=some (off,j)):∃c b,P.underlying t=some (.struct c)∧c[f]?=some b∧b.offset=off∧T b.type=some j:=by
 unfold xJ at h;split at h
 ·rename_i r m;split at h
  ·rename_i p l;split at h
   ·rename_i w u v a;split at h
    ·rename_i s n;injection h with h;injection h with g i;subst g;subst i;obtain⟨c,o,rfl,_⟩:=hT.st m l;unfold th at a;rw[eE]at a;cases e:c.toList[f]? with
     |none=>rw[e]at a;cases a
     | some b =>
      rw[e]at a;injection a with a;injection a with k d;injection d with d q;subst k;subst d;exact⟨c,b,o,by simpa using e,rfl,n⟩
    ·cases h
   ·cases h
  ·cases h
 ·cases h
include hT in
theorem TK{t f:Nat}{x:Operand}{l d:D}(e:aV g (ρ x) l)(h:aB T t f l=some d):hK P ρ ⟨dst,.fieldAddr t x f,ty,pos,af,W⟩ g d:=by
 unfold aB at h;split at h
 ·rename_i B q u;obtain⟨E,a,o,m,rfl,n⟩:=NW hT u;split at h
  ·rename_i C b;split at h
   ·rename_i F;injection h with h;subst h;have i:q.V≠0:=by have:=fQ b;omega
    obtain⟨r,k,H,c,v,s⟩:=e.yQ;refine⟨.pointer (some ⟨r,k+a.offset,none⟩),?_,(s.drop a.offset).aE λz=>v λw=>z (by rw[w];simp)⟩;simp[execOp,Instr.fieldAt,Instr.sureAddr,eZ o,m,c,fieldPlace,km,hT.size n,i]
   ·cases h
  ·rename_i k p A b;injection h with h;subst h;have i:q.V≠0:=by have:=fQ b;omega
   generalize c:ρ x=G at e;cases e with
   | ptr k p B j y =>
    refine⟨.pointer (some ⟨j.b,p*j.V+(A+a.offset),none⟩),?_,.ptr _ _ _ j y⟩;simp[execOp,Instr.fieldAt,Instr.sureAddr,eZ o,m,c,fieldPlace,km,hT.size n,i,nr]
  ·cases h
 ·cases h
include hT in
theorem TJ{t f:Nat}{x:Operand}{a d:D}(o:aV g (ρ x) a)(h:CH T t f a=some d):hK P ρ ⟨dst,.field t x f,ty,pos,af,W⟩ g d:=by
 unfold CH at h;split at h
 ·rename_i u s c;obtain⟨r,q,m,e,rfl,i⟩:=NW hT c;split at h
  ·obtain⟨v,n,k,b⟩:=o.q6;obtain⟨p,j,l⟩:=PX hT i k b h;exact⟨p,by simp[execOp,Instr.field,eZ m,e,n,asAgg,j],l⟩
  ·cases h
 ·cases h
include hT in
theorem Wm{t:Nat}{j:TI}(h:rk T t=some (j,none)):∃e,P.underlying t=some (.slice e)∧T e=some j:=by
 unfold rk at h;split at h
 ·rename_i g d;split at h
  ·rename_i e c;split at h
   ·rename_i i f;injection h with h;injection h with a b;subst a;exact⟨e,hT.sl d c,f⟩
   ·cases h
  ·split at h
   ·injection h with h;injection h with a b;cases b
   ·cases h
  ·cases h
 ·cases h
include hT in
theorem Nw{t n:Nat}{j:TI}(h:rk T t=some (j,some n)):∃e,P.underlying t=some (.array n e)∧T e=some j:=by
 unfold rk at h;split at h
 ·rename_i g d;split at h
  ·split at h
   ·injection h with h;injection h with b a;cases a
   ·cases h
  ·rename_i k e c;split at h
   ·rename_i i f;injection h with h;injection h with b a;subst b;injection a with a;subst a;exact⟨e,hT.arr d c,f⟩
   ·cases h
  ·cases h
 ·cases h
include hT in
theorem TM {t:Nat} {x y:Operand} {A B d:D} (c:aV g (ρ x) A) (p:aV g (ρ y) B) (h:aO T t A B=some d):hK P ρ ⟨dst,.indexAddr t x y,ty,pos,af,W⟩ g d:=by
 unfold aO at h;split at h
 ·rename_i o w b u;obtain⟨K,m,l⟩:=Wm hT u;have n:ρ y = .int w b:=by generalize a:ρ y=z at p;cases p;rfl
  split at h
  ·rename_i X ac aj;split at h
   ·rename_i k;obtain⟨rfl,i⟩:=k;split at h
    ·rename_i ai E;injection h with h;subst h;obtain⟨r,f,q,I,aa,a,Q,L,s,_⟩:=c.z3 E;have j:b<q:=by
      have:=(bR.1 E).1;omega
     refine⟨.pointer (some ⟨r,f+b.toNat*o.V,none⟩),?_,s.aE λ_=>L⟩;simp[execOp,Instr.indexAt,asIntOf,eZ m,hT.size l,a,n,i,j,km]
    ·cases h
   ·cases h
  ·rename_i X f H q;split at h
   ·rename_i k;obtain⟨rfl,i,j⟩:=k;injection h with h;subst h;generalize a:ρ x=z at c;generalize F:o.V=ak at c;cases c with
    | aZ f H q I e v Q ag ae ad =>
     refine⟨.pointer (some ⟨e.b,(H+b.toNat)*e.V+0,none⟩),?_,.ptr _ _ _ e v⟩;simp[execOp,Instr.indexAt,asIntOf,eZ m,hT.size l,a,n,i,j,km,F,hg]
   ·cases h
  ·cases h
 ·rename_i o q w b u;obtain⟨K,m,l⟩:=Nw hT u;have n:ρ y = .int w b:=by generalize a:ρ y=z at p;cases p;rfl
  split at h
  ·rename_i k;obtain⟨i,j,F⟩:=k;split at h
   ·rename_i ab;split at h
    ·rename_i ah;injection h with h;subst h;obtain⟨r,f,aa,a,M,s⟩:=c.yQ;refine⟨.pointer (some ⟨r,f+b.toNat*o.V,none⟩),?_,(s.drop _).aE λR=>M λN=>R (by rw[N];simp)⟩;simp[execOp,Instr.indexAt,Instr.sureAddr,asIntOf,eZ m,hT.size l,a,n,i,j,km]
    ·cases h
   ·rename_i f G C;injection h with h;subst h;generalize a:ρ x=z at c;cases c with
    | ptr f G C e v =>
     refine⟨.pointer (some ⟨e.b,G*e.V+(C+b.toNat*o.V),none⟩),?_,.ptr _ _ _ e v⟩;simp[execOp,Instr.indexAt,Instr.sureAddr,asIntOf,eZ m,hT.size l,a,n,i,j,km,nr]
   ·cases h
  ·cases h
 ·cases h
include hT in
theorem TL {t:Nat} {x y:Operand} {p q d:D} (l:aV g (ρ x) p) (e:aV g (ρ y) q) (h:mR T t p q=some d):hK P ρ ⟨dst,.index t x y,ty,pos,af,W⟩ g d:=by
 unfold mR at h;split at h
 ·rename_i f n a;have m:ρ y = .int n a:=by generalize c:ρ y=i at e;cases e;rfl
  have G:ρ x = .string ⟨f.toArray⟩:=by generalize c:ρ x=i at l;cases l;rfl
  split at h
  ·rename_i M E;split at h
   ·rename_i C;split at h
    ·rename_i j;split at h
     ·rename_i o b;injection h with h;subst h;have u:(ByteArray.mk f.toArray)[a.toNat]?=some o:=by
       have k:=(bR.1 b).1;have w:a.toNat<(ByteArray.mk f.toArray).size:=by rw[rV];exact k
       rw[getElem?_pos (ByteArray.mk f.toArray) a.toNat w];have:=(bR.1 b).2;rw[← this];rfl
      exact⟨.int .u8 o.toNat,by simp[execOp,Instr.index,asIntOf,eZ (hT.str E C),G,m,j,u],.int _ _⟩
     ·cases h
    ·cases h
   ·cases h
  ·cases h
 ·rename_i H n a;have m:ρ y = .int n a:=by generalize c:ρ y=i at e;cases e;rfl
  split at h
  ·rename_i K L v;split at h
   ·rename_i b;obtain⟨j,k⟩:=b;obtain⟨I,F,r⟩:=Nw hT v;obtain⟨N,c,A,s⟩:=l.q6;obtain⟨i,z,B⟩:=PX hT r A s h;exact⟨i,by simp[execOp,Instr.index,asIntOf,eZ F,c,m,j,k,hT.size r,z],B⟩
   ·cases h
  ·cases h
 ·cases h
theorem TH{x:Operand}{i:Nat}{a d:D}(j:aV g (ρ x) a)(h:cT i a=some d):hK P ρ ⟨dst,.extract x i,ty,pos,af,W⟩ g d:=by
 unfold cT at h;split at h
 ·obtain⟨e,f,c⟩:=j.Ij;have k:=c.length;have l:=(bR.1 h).1;have b:e[i]?=some e[i]:=dG (by omega);exact⟨_,by simp only[execOp,Instr.extract,f];simp[b],c.get i _ d b h⟩
 ·cases h
include hT in
theorem TF{s t:Nat}{x:Operand}{e d:D}(a:aV g (ρ x) e)(h:dT T s t e=some d):hK P ρ ⟨dst,.convert s t x,ty,pos,af,W⟩ g d:=by
 unfold dT at h;split at h
 ·rename_i r u f i;obtain⟨_,v,_,_,n,_⟩:=hT.get f;split at h
  ·rename_i j p k b;injection h with h;subst h;have c:ρ x = .int p k:=by generalize o:ρ x=q at a;cases a;rfl
   refine⟨.int j (j.wrap k),?_,.int _ _⟩;simp[execOp,convert,eZ n,eZ (hT.int i b),c,Conv.intToInt]
  ·rename_i l b;split at h
   ·rename_i m;injection h with h;subst h;have c:ρ x = .string ⟨l.toArray⟩:=by generalize o:ρ x=q at a;cases a;rfl
    refine⟨.string ⟨l.toArray⟩,?_,.str _⟩;simp[execOp,convert,eZ (hT.str f m),eZ (hT.str i b),c]
   ·cases h
  ·cases h
 ·cases h
end ops
section ops
variable {P:Program} {T:dR} {g:Gh} {ρ:Operand→Value} {dst:Option Tmp} {ty:TypeId} {pos:String} {af:Array Edge} {W:Option (Nat × Bool)}
theorem Nz(k:eL P T){t u:List Value}{xs ys:List D}(B:dP g t xs)(C:dP g u ys):∀(fs:List Field) (v:Bool),(∀f∈fs,f.name ≠ "_" ∧ (P.info? f.type).isSome=true) →
  uU T xs ys (fs.map λf=>(f.type,f.offset,P.cellsOf f.type))=some v→∃j,wI P t u fs j∧j.all id=v
 | [],v,_,h=>by
  simp[uU]at h;exact⟨[],trivial,by simp[h]⟩
 | f::fs,v,F,h=>by
  simp only[fP,uU]at h;split at h
  ·rename_i R i Q hi;obtain⟨j,A,y⟩:=Nz k B C fs R (λf I=>F f (kF _ I)) Q;have z:("_" == f.name)=false:=by
    have:=(F f (k0 ..)).1;simpa using λK=>this K.symm
   have E:i.isAgg=false→One P f.type:=λH X=>by rw[k.Ci hi X,H]
   have x:∀{e:D},xs[f.offset]?=some e→∃d,t[f.offset]?=some d∧aV g d e:=λ{e} l=>by
    have M:=B.length;have N:=(bR.1 l).1;have m:t[f.offset]?=some t[f.offset]:=dG (by omega);exact⟨_,m,B.get _ _ _ m l⟩
   have w:∀{e:D},ys[f.offset]?=some e→∃d,u[f.offset]?=some d∧aV g d e:=λ{e} l=>by
    have M:=C.length;have N:=(bR.1 l).1;have m:u[f.offset]?=some u[f.offset]:=dG (by omega);exact⟨_,m,C.get _ _ _ m l⟩
   split at h
   ·rename_i a b c r s;obtain⟨d,q,o⟩:=x r;obtain⟨G,p,n⟩:=w s;cases o;cases n;injection h with h;exact⟨(a==b)::j,⟨z,E (by simp[TI.isAgg,c]),⟨_,_,q,p,n9.bool (k.bool hi c)⟩,A⟩,by simp[y,h]⟩
   ·rename_i ac aa a ab b c r s;obtain⟨d,q,o⟩:=x r;obtain⟨G,p,n⟩:=w s;cases o;cases n;split at h
    ·rename_i L;subst L;injection h with h;exact⟨(a==b)::j,⟨z,E (by simp[TI.isAgg,c]),⟨_,_,q,p,n9.int (k.int hi c)⟩,A⟩,by simp[y,h]⟩
    ·cases h
   ·rename_i a b c r s;obtain⟨d,q,o⟩:=x r;obtain⟨G,p,n⟩:=w s;cases o;cases n;injection h with h;refine⟨(a==b)::j,⟨z,E (by simp[TI.isAgg,c]),⟨_,_,q,p,?_⟩,A⟩,by simp[y,h]⟩;have:=n9.str (a:=⟨a.toArray⟩) (b:=⟨b.toArray⟩) (k.str hi c);simpa[Qb]using this
   ·cases h
  ·cases h
theorem sV{t:TypeId}{v u:Value}{w:World}{b:Bool}(h:∀d,(Op.equalIn (d+1) t v u).run P w = .ok b w):(Op.equal t v u).run P w = .ok b w:=h 9999
theorem MZ(i:eL P T){m:BinOp}{d ty':TypeId}{x y:Operand}{t u:D}{b:Bool}(n:aV g (ρ x) t)(o:aV g (ρ y) u)(h:sP T d t u=some b)(q:m = .eql∨m = .neq):
  hK P ρ ⟨dst,.binOp m d x y ty',ty,pos,af,W⟩ g (.bool (if m = .eql then b else !b)):=by
 have r:∀f e,ρ x=f→ρ y=e→(eqGuard m d x y f e).run P g.w = .ok () g.w→(Op.equal d f e).run P g.w = .ok b g.w→(binOp .eql d f e=(do let s ← Op.equal d f e;pure (.bool s):Sem Value))→(binOp .neq d f e=(do let s ← Op.equal d f e;pure (.bool (!s)):Sem Value)) →
   hK P ρ ⟨dst,.binOp m d x y ty',ty,pos,af,W⟩ g (.bool (if m = .eql then b else !b)):=λf e l k z v E F=>by
  rcases q with rfl|rfl
  ·exact⟨.bool b,by simp[execOp,l,k,z,E,v],by simpa using aV.bool b⟩
  ·exact⟨.bool (!b),by simp[execOp,l,k,z,F,v],by simpa using aV.bool (!b)⟩
 unfold sP at h;split at h
 ·rename_i ab j;split at h
  ·rename_i A B c;injection h with h;subst h;generalize l:ρ x=f at n;generalize k:ρ y=e at o;cases n;cases o;exact r _ _ l k (by rcases q with rfl|rfl<;>simp[eqGuard]) (run_equal_bool g.w d A B (i.bool j c)) (by simp[binOp]) (by simp[binOp])
  ·rename_i aa ag ah c;obtain⟨C,a,rfl,I,N,H⟩:=i.st j c;obtain⟨ad,Q,L,_⟩:=n.q6;obtain⟨ae,R,M,_⟩:=o.q6;obtain⟨ac,K,G⟩:=Nz i L M C.toList b I h;refine r _ _ Q R (run_eqGuard_agg g.w m d x y _ _ H) ?_ (by simp[binOp]) (by simp[binOp]);have:=a2Q (w:=g.w) a N K;rw[G]at this;exact this
  all_goals first
   | (rename_i c
      injection h with h;subst h;generalize l:ρ x=f at n;generalize k:ρ y=e at o;cases n;cases o;refine r _ _ l k (by rcases q with rfl|rfl<;>simp[eqGuard]) ?_ (by simp[binOp]) (by simp[binOp])
      first
       |(have a:=i.ptr j c;exact sV λp=>by simp[Op.equalIn,eZ a])
       |(have a:=i.sl j c;exact sV λp=>by simp[Op.equalIn,eZ a])
       |(obtain⟨_,_,_,a⟩:=i.fn j c;exact sV λp=>by simp[Op.equalIn,eZ a]))
   |(cases h;done)
   | (rename_i X c
      injection h with h;subst h;generalize l:ρ x=f at n;generalize k:ρ y=e at o;cases n;cases o;refine r _ _ l k (by rcases q with rfl|rfl<;>simp[eqGuard]) ?_ (by simp[binOp]) (by simp[binOp])
      first
       |(have a:=i.ptr j c;exact sV λp=>by simp[Op.equalIn,eZ a])
       |(have a:=i.sl j c;exact sV λp=>by simp[Op.equalIn,eZ a])
       |(obtain⟨_,_,_,a⟩:=i.fn j c;exact sV λp=>by simp[Op.equalIn,eZ a]))
 ·cases h
end ops
end Go.Pi
namespace Go.Eng
abbrev ka:=@Sem.run_pure
abbrev od:=@List.drop_take
abbrev B8:=@Option.getD_none
abbrev LJ:=@Option.isSome_none
end Go.Eng
namespace Go.Pi
open Go.Eng
section ops
variable {P:Program} {T:dR} {g:Gh} {ρ:Operand→Value} {dst:Option Tmp} {ty:TypeId} {pos:String} {af:Array Edge} {W:Option (Nat × Bool)}
theorem Ty(r:eL P T){s:BinOp}{n ty':TypeId}{x y:Operand}{l m d:D}(c:aV g (ρ x) l)(e:aV g (ρ y) m)(h:O T s n l m=some d):hK P ρ ⟨dst,.binOp s n x y ty',ty,pos,af,W⟩ g d:=by
 unfold O at h;split at h
 ·rename_i f i z a;have j:ρ x = .int f i:=by generalize p:ρ x=q at c;cases c;rfl
  have k:ρ y = .int z a:=by generalize p:ρ y=q at e;cases e;rfl
  split at h
  ·split at h
   ·cases h
   ·rename_i v;injection h with h;subst h;have:¬a<0:=by omega
    exact⟨.int f (f.wrap (i*2 ^ (min a.toNat f.bits))),by simp[execOp,j,k,eqGuard,binOp,Op.shift,this],.int _ _⟩
  ·split at h
   ·cases h
   ·rename_i v;injection h with h;subst h;have:¬a<0:=by omega
    exact⟨.int f (i.fdiv (2 ^ (min a.toNat f.bits))),by simp[execOp,j,k,eqGuard,binOp,Op.shift,this],.int _ _⟩
  ·rename_i t u;split at h
   ·rename_i w;subst w;exact TN j k ⟨λo=>t o,λo=>u o⟩ h
   ·cases h
 ·rename_i i a;have j:ρ x = .string ⟨i.toArray⟩:=by generalize p:ρ x=q at c;cases c;rfl
  have k:ρ y = .string ⟨a.toArray⟩:=by generalize p:ρ y=q at e;cases e;rfl
  exact TY j k h
 ·split at h
  ·cases b:sP T n l m with
   |none=>rw[b]at h;cases h
   | some a =>
    rw[b]at h;injection h with h;subst h;have:=MZ (dst:=dst) (ty:=ty) (pos:=pos) (af:=af) (W:=W) (ty':=ty') r c e b (.inl rfl);simpa using this
  ·cases b:sP T n l m with
   |none=>rw[b]at h;cases h
   | some a =>
    rw[b]at h;injection h with h;subst h;have:=MZ (dst:=dst) (ty:=ty) (pos:=pos) (af:=af) (W:=W) (ty':=ty') r c e b (.inr rfl);simpa using this
  ·cases h
def tk(v:Option Value)(n:Option Int):Prop:=match v,n with
 |none,none=>True
 |some c,some a=>∃b,c = .int b a
 |_,_=>False
theorem tN{k:IntKind}{i:Int}{y:Nat}{c:BoundsCode}{w:World}(a:0≤i)(b:i≤y):(Instr.sliceBound (.int k i) y c).run P w = .ok i.toNat w:=by
 simp[Instr.sliceBound,asIntOf,a,b]
theorem Qo {lo hi mx:Option Value} {l h m:Option Int} (a:tk lo l) (g:tk hi h) (o:tk mx m) {n cap:Nat} {b:Bool} (t:mx.isSome=true→hi.isSome=true) (d:0≤l.getD 0) (e:l.getD 0≤h.getD n) (h2:h.getD n≤m.getD cap) (q:m.getD cap≤cap) (w:World) :
  (Instr.sliceBounds b n cap lo hi mx).run P w = .ok ((l.getD 0).toNat,(h.getD n).toNat,(m.getD cap).toNat) w:=by
 cases mx with
 | none =>
  cases m with
  |some m=>exact o.elim
  | none =>
   cases hi with
   | none =>
    cases h with
    |some h=>exact g.elim
    | none =>
     cases lo with
     | none =>
      cases l with
      |some l=>exact a.elim
      |none=>simp[Instr.sliceBounds]
     | some lo =>
      cases l with
      |none=>exact a.elim
      | some l =>
       obtain⟨k,rfl⟩:=a;simp at d e;simp[Instr.sliceBounds,tN (P:=P) (k:=k) (c :=.sliceB) (w:=w) d e]
   | some hi =>
    cases h with
    |none=>exact g.elim
    | some h =>
     obtain⟨p,rfl⟩:=g;simp at e h2;have f:=λc=>tN (P:=P) (k:=p) (c:=c) (w:=w) (i:=h) (y:=cap) (by cases l<;>simp at d e<;>omega) h2
     cases lo with
     | none =>
      cases l with
      |some l=>exact a.elim
      |none=>cases b<;>simp[Instr.sliceBounds,f]
     | some lo =>
      cases l with
      |none=>exact a.elim
      | some l =>
       obtain⟨k,rfl⟩:=a;simp at d e;have j:=tN (P:=P) (k:=k) (c :=.sliceB) (w:=w) (y:=h.toNat) d (by omega);cases b<;>simp[Instr.sliceBounds,f,j]
 | some mx =>
  cases m with
  |none=>exact o.elim
  | some m =>
   obtain⟨u,rfl⟩:=o;cases hi with
   |none=>exact absurd (t rfl) (by simp)
   | some hi =>
    cases h with
    |none=>exact g.elim
    | some h =>
     obtain⟨p,rfl⟩:=g;simp at e h2 q;have s:0≤h:=by cases l<;>simp at d e<;>omega
     have r:=λc=>tN (P:=P) (k:=u) (c:=c) (w:=w) (i:=m) (y:=cap) (by omega) q
     have f:=λc=>tN (P:=P) (k:=p) (c:=c) (w:=w) (i:=h) (y:=m.toNat) s (by omega)
     cases lo with
     | none =>
      cases l with
      |some l=>exact a.elim
      |none=>cases b<;>simp[Instr.sliceBounds,f,r]
     | some lo =>
      cases l with
      |none=>exact a.elim
      | some l =>
       obtain⟨k,rfl⟩:=a;simp at d e;have j:=λc=>tN (P:=P) (k:=k) (c:=c) (w:=w) (i:=l) (y:=h.toNat) d (by omega)
       cases b<;>simp[Instr.sliceBounds,f,r,j]
theorem rn (ac:eL P T) {t:TypeId} {x:Operand} {lo hi mx:Option Operand} {l h m:Option Int} {ao d:D} (s:aV g (ρ x) ao) (aw:tk (lo.map ρ) l) (av:tk (hi.map ρ) h) (ai:tk (mx.map ρ) m)
  (bj:mx.isSome=true→hi.isSome=true) (a:kf T t ao l h m=some d):hK P ρ ⟨dst,.slice t x lo hi mx,ty,pos,af,W⟩ g d:=by
 have bm:(mx.map ρ).isSome=true→(hi.map ρ).isSome=true:=by simpa using bj
 unfold kf at a;split at a
 ·rename_i b9 ak;split at a
  ·rename_i y ad;have N:ρ x = .string ⟨y.toArray⟩:=by generalize B:ρ x=an at s;cases s;rfl
   simp only at a;split at a
   ·rename_i v;obtain⟨rfl,q,r,u⟩:=v;injection a with a;subst a;have bn:mx.map ρ=none:=by
     cases bq:mx.map ρ with
     |none=>rfl
     |some ca=>rw[bq]at ai;exact ai.elim
    have ae:=Qo (P:=P) (b:=false) (n:=y.length) (cap:=y.length) aw av (mx:=none) (m:=none) trivial (by simp) q r (by simpa using u) (by simp) g.w;refine⟨.string ⟨((y.take (h.getD y.length).toNat).drop (l.getD 0).toNat).toArray⟩,?_,.str _⟩;simp only[execOp,Instr.sliceAt,bn,N,ir,eZ (ac.str ak ad),iM];simp only[Instr.slice,ir,eZ (ac.str ak ad),iM,LJ,aU,aJ,ka,rV,ae];have bc:(ByteArray.mk y.toArray).extract (l.getD 0).toNat (h.getD y.length).toNat=⟨((y.take (h.getD y.length).toNat).drop (l.getD 0).toNat).toArray⟩:=by
     apply AB;simp[List.extract_eq_take_drop,od]
    rw[bc]
   ·cases a
  ·rename_i b1 cb ad;split at a
   ·rename_i al bg;have ay:=ac.sl ak ad;have iD:∀(X:Option Addr) (n cap:Nat),ρ x = .slice X n cap→0≤l.getD 0→l.getD 0≤h.getD n→h.getD n≤m.getD cap→m.getD cap≤cap→(execOp ρ ⟨dst,.slice t x lo hi mx,ty,pos,af,W⟩).run P g.w =
      .ok (.value (.slice (if(m.getD cap).toNat=(l.getD 0).toNat then X else X.map (·.add ((l.getD 0).toNat*al.V))) ((h.getD n).toNat - (l.getD 0).toNat) ((m.getD cap).toNat - (l.getD 0).toNat))) g.w:=λX n cap N q r u ar=>by
     have ae:=Qo (P:=P) (b:=true) (n:=n) (cap:=cap) aw av ai bm q r u ar g.w;simp only[execOp,Instr.sliceAt,N,ir,eZ ay,iM];simp only[Instr.slice,ir,eZ ay,iM,ae,ac.size bg,ka]
    split at a
    ·split at a
     ·rename_i v;obtain⟨q,r,u⟩:=v;injection a with a;subst a;have N:ρ x = .slice none 0 0:=by generalize B:ρ x=an at s;cases s;rfl
      have:=iD none 0 0 N (by omega) (by simp;omega) (by simp;omega) (by simp;omega);refine⟨.slice none 0 0,?_,.aA⟩;rw[this];simp;have I:(h.getD 0).toNat=0:=by omega
      have a3:(m.getD 0).toNat=0:=by omega
      simp[I,a3]
     ·cases a
    ·rename_i a2 aq p;simp only at a;split at a
     ·rename_i v;obtain⟨rfl,q,r⟩:=v;generalize B:ρ x=an at s;generalize Q:al.V=E at s a;cases s with
      | sl c n cap a2 aq p A b8 bb be bv bt a8 b0 ba a4 br =>
       have a0:∀(i z:Nat) (ab:Bool),(l.getD 0).toNat≤i→i≤p.length→i≤z→z≤cap→(ab=true→z=i)→aV g (.slice (if z=(l.getD 0).toNat then some c else(some c).map (·.add ((l.getD 0).toNat*E))) (i - (l.getD 0).toNat) (z - (l.getD 0).toNat)) (.sl E ab ((p.take i).drop (l.getD 0).toNat)):=by
        intro i z ab bi a5 b2 b4 bd;generalize b3:(l.getD 0).toNat=j at bi;have a9:∃F,(if z=j then some c else(some c).map (·.add (j*E)))=some F∧F.block=c.block∧(j<i→F.off=c.off+j*E∧(c.spot=none→F.spot=none)):=by
         split
         ·exact⟨c,rfl,rfl,λe=>by omega⟩
         ·refine⟨c.add (j*E),rfl,?_,λ_=>?_⟩
          ·unfold Addr.add;split<;>rfl
          ·unfold Addr.add;split
           ·rename_i bw;simp[bw]
           ·simp
        obtain⟨F,a7,au,ax⟩:=a9;rw[a7];have ag:∀(o:Nat) (f:List D),((p.take i).drop j)[o]?=some f→p[j+o]?=some f∧j+o<i:=λo f hi=>by
         rw[ko,gw]at hi;split at hi
         ·rename_i ah;exact⟨hi,ah⟩
         ·cases hi
        refine .sl F (i - j) (z - j) E ab _ (by simp;omega) (by omega) (by omega) (λe=>by have:=bd e;omega) bv (λf bu=>bt f (fG (fM bu))) (λbo=>?_) (λo C=>b0 (j+o) C) (λo f hi C H K=>?_) (λo f hi C H K=>?_) (λo f hi C H K=>?_)
        ·have ah:j<i:=by
           rcases gG j i with e|e
           ·exact e
           ·exfalso;apply bo;apply mG;simp;omega
         have bp:p≠[]:=λe=>by subst e;simp at a5;omega
         obtain⟨bx,bz⟩:=a8 bp;exact⟨(ax ah).2 bx,by rw[au];exact bz⟩
        ·obtain⟨R,az⟩:=ag o f hi;have:=ba _ f R C H K;rw[au,(ax (by omega)).1];rw[hg]at this;rw[← this];congr 2;omega
        ·obtain⟨R,az⟩:=ag o f hi;exact a4 _ f R C H K
        ·obtain⟨R,az⟩:=ag o f hi;exact br _ f R C H K
       split at a
       ·split at a
        ·rename_i u;injection a with a;subst a;have:=iD (some c) n cap B q (by rw[← A];exact r) (by simp;rw[← A];omega) (by simp);simp only[B8,Q]at this;rw[← A]at this;refine⟨_,this,?_⟩;have:=a0 (h.getD p.length).toNat cap (aq&&decide (h.getD p.length=p.length)) (by omega) (by omega) (by omega) (bB _) (λe=>by
          simp at e;have:=be e.1;omega)
         simpa using this
        ·cases a
       ·rename_i am;split at a
        ·rename_i u;obtain⟨u,ar⟩:=u;injection a with a;subst a;have:=iD (some c) n cap B q (by rw[← A];exact r) (by simp;rw[← A];omega) (by simp;omega);simp only[sB,Q]at this;rw[← A]at this;refine⟨_,this,?_⟩;exact a0 (h.getD p.length).toNat am.toNat (decide (h.getD p.length=am)) (by omega) (by omega) (by omega) (by omega) (λe=>by
          simp at e;omega)
        ·cases a
     ·cases a
    ·rename_i a2 a1 G n;simp only at a;split at a
     ·rename_i v;obtain⟨rfl,aj,q,r,u⟩:=v;generalize B:ρ x=an at s;generalize Q:al.V=E at s a aj;cases s with
      | aZ a1 G n cap k bl A b7 b6 bb =>
       split at a
       ·have M:=iD (some ⟨k.b,G*k.V,none⟩) n cap B q r (by simp;omega) (by simp);simp only[B8,Q]at M;refine⟨_,M,?_⟩;split at a
        ·rename_i L;injection a with a;subst a;have a6:(if((cap:Int)).toNat=(l.getD 0).toNat then(some ⟨k.b,G*k.V,none⟩:Option Addr)else(some (⟨k.b,G*k.V,none⟩:Addr)).map (·.add ((l.getD 0).toNat*k.V)))=some ⟨k.b,(G+(l.getD 0).toNat)*k.V,none⟩:=by
          split
          ·rename_i b5;rcases L with L|L
           ·exfalso;omega
           ·simp[L]
          ·simp[km,hg]
         rw[a6];have I:((h.getD n).toNat - (l.getD 0).toNat)=(h.getD n - l.getD 0).toNat:=by omega
         rw[I];exact .aZ a1 _ _ _ k bl (by omega) (by omega) (by omega) (by omega)
        ·rename_i L;injection a with a;subst a;have I:((h.getD n).toNat - (l.getD 0).toNat)=0:=by omega
         rw[I];have ap:∀(c:Addr) (aa:Nat),aa≤9223372036854775807→aV g (.slice (some c) 0 aa) (.sl k.V false []):=λc aa v =>.sl c 0 aa _ false [] rfl (mI _) v (by simp) aj (by simp) (by simp) (λ_ _=>undef) (by simp) (by simp) (by simp)
         split
         ·exact ap _ _ (by omega)
         ·exact ap _ _ (by omega)
       ·rename_i am;split at a
        ·rename_i e;obtain⟨bh,bf,bk⟩:=e;injection a with a;subst a;have M:=iD (some ⟨k.b,G*k.V,none⟩) n cap B q r (by simp;omega) (by simp;omega);simp only[sB,Q,bk,bf,bh]at M;refine⟨_,M,?_⟩;exact .sl _ 0 0 _ true [] rfl (mI _) (by omega) (by simp) aj (by simp) (by simp) (λ_ _=>undef) (by simp) (by simp) (by simp)
        ·cases a
     ·cases a
    ·cases a
   ·cases a
  ·cases a
 ·cases a
end ops
end Go.Pi
namespace Go.Eng
abbrev fp:=@List.mem_append
abbrev h6:=@List.take_append_drop
abbrev mF:=@List.drop_drop
abbrev tP:=@run_newObj
abbrev wF:=@Array.toArray_toList
end Go.Eng
namespace Go.Pi
open Go.Eng
def uj(P:Program)(ρ:Operand→Value)(o:Oper)(g:Gh)(d:D):Prop:=∃c e a,(execOp ρ o).run P g.w = .ok (.value c) e∧a.w=e∧eA g a∧a.ms=g.ms∧a.L=g.L∧(∀b,b<g.w.heap.size→a.w.heap[b]?=g.w.heap[b]?)∧aV a c d
theorem hK.g{P:Program}{ρ:Operand→Value}{o:Oper}{g:Gh}{d:D}(h:hK P ρ o g d):uj P ρ o g d:=by
 obtain⟨c,a,b⟩:=h;exact⟨c,g.w,g,a,rfl,eA.refl g,rfl,rfl,λ_ _=>rfl,b⟩
theorem Inv.same{g g':Gh}{h:J}(hi:Inv g h)(m:eA g g')(c:g'.ms=g.ms)(p:g'.L=g.L)(v:∀b,b<g.w.heap.size→g'.w.heap[b]?=g.w.heap[b]?):Inv g' h:=by
 refine⟨by rw[c];exact hi.len,λe T o n x=>?_,λe B T o r E n D d A f i j k l=>hi.inj e B T o r E n D d A f i (by rw[← c];exact j) (by rw[← c];exact k) l,λb q=>?_,λe d h=>nv (hi.msb e d (by rw[← c];exact h)) m.size⟩
 ·obtain⟨d,s,f,a⟩:=hi.live e T o n x;refine⟨d,s,by rw[c];exact f,?_,a.kt,a.pos,by rw[p];exact a.hL,a.len,a.le,a.room,a.row,λy C i z t j=>?_⟩
  ·rw[v _ (hi.oq a.hL)];exact a.iv
  ·obtain⟨F,k,l,u⟩:=a.cell y C i z t j;exact⟨F,k,l,u.ext m⟩
 ·rw[p]at q;exact nv (hi.L b q) m.size
def Gh.alloc(g:Gh)(o:Obj):Gh:=⟨g.w.alloc o,g.ms,g.L⟩
def Gh.draw(g:Gh):Gh:=⟨g.w.drew,g.ms,g.L⟩
theorem Gh.CQ(g:Gh):eA g g.draw :=.zx ⟨rfl,rfl,rfl,bB _,λ_ _ a=>a,λc b=>⟨b,rfl⟩⟩ rfl rfl λ_ _=>rfl
theorem Gh.M1{g:Gh}{h:J}(hi:Inv g h):Inv g.draw h:=hi.same g.CQ rfl rfl λ_ _=>rfl
theorem rM(w:World)(o:Obj){b:Nat}(h:b<w.heap.size):(w.alloc o).heap[b]?=w.heap[b]?:=ZS w o b h
theorem D0(w:World)(o:Obj):(w.alloc o).heap[w.heap.size]?=some o:=by
 show(w.heap.push o)[w.heap.size]?=_;simp
theorem D1(w:World)(o:Obj):(w.alloc o).heap.size=w.heap.size+1:=by
 show(w.heap.push o).size=_;simp
theorem Gh.Cj(g:Gh)(o:Obj):(g.alloc o).w.heap.size=g.w.heap.size+1:=D1 g.w o
theorem Gh.xn(g:Gh)(o:Obj):eA g (g.alloc o) :=.zx ⟨rfl,rfl,rfl,by rw[g.Cj];omega,λ_ _ c=>c,λb a=>⟨⟨by have:=a.1;rw[g.Cj];omega,a.2⟩,rM g.w o a.1⟩⟩ rfl rfl λb a=>rM g.w o a
theorem Gh.RQ(g:Gh){cs:Array Value}{T:TypeId}{fr:Nat × Nat}(i:Nat):(g.alloc (.cells cs T fr)).w.cell? ⟨g.w.heap.size,i,none⟩=cs[i]?:=by
 have:(g.alloc (.cells cs T fr)).w.heap[g.w.heap.size]?=some (.cells cs T fr):=D0 g.w _;simp only[World.cell?,this];simp
section ops
variable {P:Program} {T:dR} {g:Gh} {ρ:Operand→Value} {dst:Option Tmp} {ty:TypeId} {pos:String} {af:Array Edge} {W:Option (Nat × Bool)}
theorem G6(c:∀b,g.L b→b<g.w.heap.size){vs:List Value}{cs:List D}{E:TypeId}(f:dP g vs cs)(a:∀v∈vs,v.oneCell'=true):At (g.alloc (.cells vs.toArray E)) g.w.heap.size 0 vs cs∧(g.alloc (.cells vs.toArray E)).fz g.w.heap.size:=by
 refine⟨⟨λh v e=>?_,a,f.ext (g.xn _)⟩,by rw[g.Cj];omega,λd=>?_⟩
 ·rw[eS,g.RQ];simpa using e
 ·have:=c _ d;omega
theorem Tz(d:∀b,g.L b→b<g.w.heap.size){e:TypeId}{x:Operand}{a:D}(m:aV g (ρ x) a)(j:a.fo=true):uj P ρ ⟨dst,.box e x,ty,pos,af,W⟩ g (.aE (cX a)):=by
 obtain⟨n,l,k,c⟩:=m.cells j;obtain⟨f,i⟩:=G6 d (E:=e) k c;exact⟨_,_,g.alloc (.cells n.toArray e),by simp only[execOp,Instr.box,ir,newVar,newRow,tP,iM,ka,l];rfl,rfl,g.xn _,rfl,rfl,λb h=>rM _ _ h,f.aE λ_=>i⟩
theorem Tw(h:eL P T)(f:∀b,g.L b→b<g.w.heap.size){e:TypeId}{i:TI}(hi:T e=some i):uj P ρ ⟨dst,.alloc e,ty,pos,af,W⟩ g (.aE i.zero):=by
 obtain⟨c,m,n,o,d⟩:=h.qY hi;have a:=rW g c.cells.toList;rw[← n]at a;obtain⟨j,l⟩:=G6 f (E:=e) a d;exact⟨_,_,g.alloc (.cells c.cells.toList.toArray e),by simp only[execOp,Instr.alloc,ir,m g.w,iM,newVar,newRow,tP,ka,wF];rfl,by simp[Gh.alloc],g.xn _,rfl,rfl,λb k=>rM _ _ k,j.aE λ_=>l⟩
theorem Q3{a:List Value}{cs:List D}{vs:List Value}{ds:List D}(h:dP g a cs)(k:dP g vs ds)(off:Nat):dP g (a.take off++vs++a.drop (off+vs.length)) (dZ cs off ds):=by
 unfold dZ;rw[k.length];exact((h.take off).append k).append (h.drop _)
theorem C9 {fs:List (Nat × Nat × Nat)} {place:Nat→Option (Nat × Nat)} (r:∀(i:Nat) u off V,fs[i]?=some (u,off,V)→place i=some (off,V)):∀(j:List Nat) (d:List Value) (ds:List D) (a:List Value) (cs e:List D),dP g a cs→(∀v∈a,v.oneCell'=true)→dP g d ds→j.length=d.length→mQ fs cs j ds=some e →
  ∃l,Instr.fill place a.toArray (j.zip d)=some l.toArray∧dP g l e∧∀v∈l,v.oneCell'=true
 | [],d,ds,a,cs,e,h,m,f,n,b=>by
  have:d=[]:=hM (by simpa using n.symm);subst this;cases f;simp[mQ]at b;subst b;exact⟨a,by simp[Instr.fill],h,m⟩
 | i :: j, d,ds,a,cs,e,h,m,f,n,b=>by
  cases f with
  |nil=>simp at n
  | cons F f =>
   rename_i v G d ds;simp only[mQ]at b;split at b
   ·rename_i u off V x;split at b
    ·rename_i p;simp only[gJ]at p;obtain⟨⟨jg,g4⟩,jC⟩:=p;have jg:=kI jg;have g4:=fQ g4;obtain⟨k,E,s,C⟩:=F.cells jC;have H:=h.length;have I:=s.length;have A:=Q3 h s off;obtain⟨l,y,z,t⟩:=C9 r j d ds (a.take off++k++a.drop (off+k.length)) _ e A (λo c=>by
      simp only[fp]at c;rcases c with(c|c)|c
      ·exact m o (fG c)
      ·exact C o c
      ·exact m o (fM c)) f (by simpa using n) b
     refine⟨l,?_,z,t⟩;simp only[List.zip_cons_cons,Instr.fill,r i u off V x,E];have w:(decide (k.toArray.size≠V)||decide (off+k.toArray.size>a.toArray.size))=false:=by
      simp;omega
     simp only[w,aU,aJ];have q:=Oc k (a.take off) (a.drop off) (by simp;omega);have B:(a.take off).length=off:=by simp;omega
     simp only[B,h6,mF]at q;rw[← y];congr 1
     try (rw[← q])
    ·cases b
   ·cases b
end ops
end Go.Pi
namespace Go.Eng
abbrev fc:=@List.mem_cons
abbrev kn:=@List.flatten_cons
abbrev kr:=@Option.bind_some
end Go.Eng
namespace Go.Pi
open Go.Eng
section ops
variable {P:Program} {T:dR} {g:Gh} {ρ:Operand→Value} {dst:Option Tmp} {ty:TypeId} {pos:String} {af:Array Edge} {W:Option (Nat × Bool)}
theorem IA(ρ:Operand→Value)(a:Array (Nat × Operand)):(a.map λx=>(x.1,ρ x.2)).toList=(a.toList.map (·.1)).zip (a.toList.map λx=>ρ x.2):=by
 simp only[Array.toList_map]
 induction a.toList with
 |nil=>rfl
 |cons c d b=>simp[b]
theorem run_places(l:eL P T){b:Array Field}(g:∀f∈b.toList,f.name ≠ "_" ∧ (P.info? f.type).isSome=true)(w:World):
  (b.mapM λf=>(do pure (f.offset,← sizeOf f.type):Sem (Nat × Nat))).run P w = .ok (b.toList.map λf=>(f.offset,P.cellsOf f.type)).toArray w:=by
 have k:∀(a:List Field),(∀f∈a,f.name ≠ "_" ∧ (P.info? f.type).isSome=true)→(a.mapM λf=>(do pure (f.offset,← sizeOf f.type):Sem (Nat × Nat))).run P w = .ok (a.map λf=>(f.offset,P.cellsOf f.type)) w:=by
  intro a
  induction a with
  |nil=>intro _;simp
  | cons f n j =>
   intro c;have h:=(c f (k0 ..)).2;obtain⟨m,e⟩:=Option.isSome_iff_exists.1 h;have i:(sizeOf f.type).run P w = .ok (P.cellsOf f.type) w:=by simp[sizeOf,typeInfo,e,Program.cellsOf]
   have:=j λf d=>c f (kF _ d)
   simp only[List.mapM_cons,ir,i,iM,ka,this,fP]
 obtain⟨a⟩:=b;have:=k a g;rw[List.mapM_toArray];simp only[Sem.run_map];rw[this];simp
theorem TB (j:eL P T) {t:TypeId} {l:Array (Nat × Operand)} {ds:List D} {d:D} (G:dP g (l.toList.map λx=>ρ x.2) ds) (h:eD T t (l.toList.map (·.1)) ds=some d):hK P ρ ⟨dst,.build t l,ty,pos,af,W⟩ g d:=by
 unfold eD at h;split at h
 ·rename_i b r;obtain⟨C,H,L,X,F⟩:=j.qY r;have u:=rW g C.cells.toList;rw[← L]at u;split at h
  ·rename_i fs q;obtain⟨n,v,rfl,K,_⟩:=j.st r q;cases e:mQ (th P n) b.zero (l.toList.map (·.1)) ds with
   |none=>rw[e]at h;cases h
   | some o =>
    rw[e]at h;injection h with h;subst h;obtain⟨B,k,s,p⟩:=C9 (place:=((n.toList.map λm=>(m.offset,P.cellsOf m.type)).toArray[·]?)) (fs:=th P n) (λb R M Q a=>by
     unfold th at a;rw[eE]at a;cases c:n.toList[b]? with
     |none=>rw[c]at a;cases a
     | some m =>
      rw[c]at a;injection a with a;injection a with N f;injection f with f A;simp at c;simp[c,f,A]) _ _ ds C.cells.toList b.zero o u F G (by simp) e
    refine⟨.agg B.toArray,?_,.tD s p⟩;simp only[wF]at k;simp only[execOp,Instr.build,ir,H g.w,iM,eZ v,run_places j K g.w,IA,k,ka]
  ·rename_i z E q;have v:=j.arr r q;split at h
   ·rename_i i I;cases e:mQ ((List.range z).map λy=>(E,y*i.V,i.V)) b.zero (l.toList.map (·.1)) ds with
    |none=>rw[e]at h;cases h
    | some o =>
     rw[e]at h;injection h with h;subst h;obtain⟨B,k,s,p⟩:=C9 (place:=λb=>some (b*i.V,i.V)) (fs:=(List.range z).map λy=>(E,y*i.V,i.V)) (λb R M Q a=>by
      rw[eE]at a;cases c:(List.range z)[b]? with
      |none=>rw[c]at a;cases a
      | some m =>
       rw[c]at a;have:=(bR.1 c).2;simp at this;subst this;injection a with a;injection a with N f;injection f with f A;subst A;simp[f]) _ _ ds C.cells.toList b.zero o u F G (by simp) e
     refine⟨.agg B.toArray,?_,.tD s p⟩;simp only[wF]at k;simp only[execOp,Instr.build,ir,H g.w,iM,eZ v,j.size I,IA,k,ka]
   ·cases h
  ·cases h
 ·cases h
theorem Qm {V:Nat}:∀(k:Nat) (d:List Nat) (a:List Value) (ds:List D) (rows:List (List D)),dP g a ds→d.length=a.length→rl V k d ds=some rows →
  d.zip a=sU k a∧(∀v∈a,v.cells.size=V)∧rows.length=a.length∧(∀r∈rows,r.length=V)∧dP g (a.flatMap λv=>v.cells.toList) rows.flatten∧(∀v∈a.flatMap λv=>v.cells.toList,v.oneCell'=true)
 | k,[],a,ds,rows,c,e,h=>by
  have:a=[]:=hM (by simpa using e.symm);subst this;cases c;simp[rl]at h;subst h;exact⟨rfl,by simp,rfl,by simp,by simpa using dP.nil,by simp⟩
 | k,q::d,a,ds,rows,c,e,h=>by
  cases c with
  |nil=>simp at e
  | cons p c =>
   rename_i v A a ds;simp only[rl]at h;split at h
   ·rename_i l;simp only[gJ]at l;obtain⟨⟨jg,g4⟩,jC⟩:=l;have jg:=kI jg;have g4:=kI g4;subst jg;split at h
    ·rename_i z n;injection h with h;subst h;obtain⟨s,t,u,w,x,y⟩:=Qm (q+1) d a ds z c (by simpa using e) n;obtain⟨C,j,m,o⟩:=p.cells jC;have B:=m.length;refine⟨by simp[sU,s],λf b=>?_,by simp[u],λr i=>?_,?_,λf b=>?_⟩
     ·rcases fc.1 b with rfl|b
      ·rw[j];simp;omega
      ·exact t f b
     ·rcases fc.1 i with rfl|i
      ·exact g4
      ·exact w r i
     ·simp only[sv,kn,j];exact m.append x
     ·simp only[sv,fp,j]at b;rcases b with b|b
      ·exact o f b
      ·exact y f b
    ·cases h
   ·cases h
theorem Da{V:Nat}:∀(rows:List (List D)) (i j:Nat) (row:List D) (d:D),(∀r∈rows,r.length=V)→rows[i]?=some row→row[j]?=some d→rows.flatten[i*V+j]?=some d
 |[],i,j,row,d,_,h,_=>by cases h
 | r::rows,0,j,row,d,c,h,a=>by
  simp at h;subst h;have f:=(bR.1 a).1;simp only[kn,ou,eS];rw[fg f];exact a
 | r::rows,i+1,j,row,d,c,h,a=>by
  have e:rows[i]?=some row:=by simpa using h
  have b:=c r (k0 ..);have:=Da rows i j row d (λr b=>c r (kF _ b)) e a;simp only[kn];rw[gO (by rw[b,hg];omega)];rw[← this];congr 1;rw[b,hg];omega
theorem lC{V:Nat}:∀(rows:List (List D)),(∀r∈rows,r.length=V)→rows.flatten.length=rows.length*V
 |[],_=>by simp
 | r::rows,h=>by
  have:=lC rows λr a=>h r (kF _ a)
  rw[kn,bF,this,h r (k0 ..),g7,hg];omega
theorem Qs (f:eL P T) {t n:Nat} {c:Array (Nat × Operand)} {ds:List D} {E V:Nat} {rows:List (List D)} (s:dP g (c.toList.map λx=>ρ x.2) ds) (h:mS T t n (c.toList.map (·.1)) ds=some (E,V,rows)) :
  ∃vs:List Value,(execOp ρ ⟨dst,.buildSlice t n c,ty,pos,af,W⟩).run P g.w = .ok (.value (.slice (some ⟨g.w.heap.size,0,none⟩) n n)) (g.w.alloc (.cells vs.toArray E))∧dP g vs rows.flatten∧(∀v∈vs,v.oneCell'=true)∧rows.length=n∧(∀r∈rows,r.length=V)∧0<V∧n*V≤16777216:=by
 unfold mS at h;split at h
 ·rename_i L p;split at h
  ·rename_i I y;split at h
   ·rename_i b k;split at h
    ·rename_i j;simp only[gJ]at j;obtain⟨⟨jg,g4⟩,jC⟩:=j;have jg:=fQ jg;have g4:=fQ g4;have jC:=kI jC;split at h
     ·rename_i l u;injection h with h;injection h with o d;injection d with d e;subst o;subst d;subst e;obtain⟨A,B,C,F,G,H⟩:=Qm 0 _ _ ds l s (by simp) u;have q:l.length=n:=by rw[C];simpa using jC
      refine⟨_,?_,G,H,q,F,jg,g4⟩;obtain⟨m,z,_,K,_⟩:=f.qY k;have e:¬(n*b.V>2 ^ 24):=by omega
      have a:=NX (V:=b.V) (c.toList.map λx=>ρ x.2) [] ((Array.range (n*b.V)).map ((if n*b.V=0 then #[]else m.cells)[· % (if n*b.V=0 then #[]else m.cells).size]!)).toList 0 (by simp) (by simp at jC;simp[jC]) B;simp only[kp,wF]at a;rw[← A,← IA]at a;simp only[execOp,Instr.buildSlice,ir,eZ (f.sl p y),iM,f.size k,e,aJ,ka,newRow,tP];by_cases i:n*b.V=0
      ·simp only[i,aN,ir,ka,iM]at a ⊢;rw[a];rfl
      ·simp only[i,aJ,ir,z g.w,ka,iM]at a ⊢;rw[a];rfl
     ·cases h
    ·cases h
   ·cases h
  ·cases h
 ·cases h
theorem TO(B:eL P T)(A:∀b,g.L b→b<g.w.heap.size){t n:Nat}{r:Array (Nat × Operand)}{ds:List D}{E V:Nat}{rows:List (List D)}(H:dP g (r.toList.map λx=>ρ x.2) ds)(h:mS T t n (r.toList.map (·.1)) ds=some (E,V,rows)):
  uj P ρ ⟨dst,.buildSlice t n r,ty,pos,af,W⟩ g (.sl V true rows):=by
 obtain⟨k,I,z,s,G,p,y,R⟩:=Qs (dst:=dst) (ty:=ty) (pos:=pos) (af:=af) (W:=W) B H h;obtain⟨u,F⟩:=G6 A (E:=E) z s;have Q:n≤n*V:=Nat.le_mul_of_pos_right n y;have M:=z.length;have K:=lC rows p;have q:∀(a:Nat) (e:List D),rows[a]?=some e→∀(c:Nat) (d:D),e[c]?=some d→∃f,k[a*V+c]?=some f∧rows.flatten[a*V+c]?=some d∧k.getD (a*V+c) undef=f:=λa e j c d i=>by
  have:=Da rows a c e d p j i;have N:=(bR.1 this).1;have v:k[a*V+c]?=some (k[a*V+c]'(by omega)):=dG (by omega);exact⟨_,v,this,by rw[sw,v];rfl⟩
 refine⟨_,_,g.alloc (.cells k.toArray E),I,rfl,g.xn _,rfl,rfl,λb C=>rM _ _ C,?_⟩;refine .sl ⟨g.w.heap.size,0,none⟩ n n V true rows G (bB _) (by omega) (λ_=>rfl) y p (λ_=>⟨rfl,F⟩) (λa c=>k.getD (a*V+c) undef) (λa e j c d i=>?_) (λa e j c d i=>?_) (λa e j c d i=>?_)
 ·obtain⟨f,l,o,m⟩:=q a e j c d i;simp only[m];have:=u.1 _ f l;simpa[nr]using this
 ·obtain⟨f,l,o,m⟩:=q a e j c d i;simp only[m];exact s f (eW l)
 ·obtain⟨f,l,o,m⟩:=q a e j c d i;simp only[m];exact u.2.2.get _ f d l o
theorem TR{f:Fn}{a b:Array Operand}{ds:List D}(e:dP g ((a++b).toList.map ρ) ds):hK P ρ ⟨dst,.makeFunc f a b,ty,pos,af,W⟩ g (.fn f (ds.take a.size) (ds.drop a.size)):=by
 have j:=e.length;simp at j;refine⟨.func f (a.map ρ) (b.map ρ),by simp[execOp,Instr.makeFunc],?_⟩;have c:=e.take a.size;have d:=e.drop a.size;have h:(((a++b).toList.map ρ).take a.size)=(a.map ρ).toList:=by
  simp[xc]
 have i:(((a++b).toList.map ρ).drop a.size)=(b.map ρ).toList:=by
  simp[su]
 rw[h]at c;rw[i]at d;have:=aV.fn (g:=g) f (ds.take a.size) (ds.drop a.size) (a.map ρ).toList (b.map ρ).toList c.length d.length c.get d.get;simpa only[wF]using this
theorem aV.tU{v:Value}{V:Nat}{a:Bool}{rows:List (List D)}(h:aV g v (.sl V a rows)):∃ad cap,v = .slice (some ad) rows.length cap∧(a=true→cap=rows.length):=by
 cases h with
 |sl ad n cap V a rows b j i c m l e o f d k=>exact⟨ad,cap,by rw[b],λh=>by rw[b];exact c h⟩
theorem aV.mv{v:Value}{V o r n:Nat}(h:aV g v (.aZ V o r n)):∃m cap,v = .slice (some ⟨m.b,r*m.V,none⟩) n cap∧m.V=V∧g.ms[o]?=some m∧r+n≤m.len∧m.len≤r+cap∧r+cap≤m.cap∧cap≤9223372036854775807:=by
 cases h with
 |aZ o r n cap m e f d c a=>exact⟨m,cap,rfl,rfl,e,f,d,c,a⟩
theorem xN{x:Operand}{k:Array TypeId}{f d:D}(c:aV g (ρ x) f)(h:sQ f=some d)(n:∃t,k[0]?=some t∧((∃s,f = .str s)→P.underlying t=some .string)∧((¬ ∃s,f = .str s)→∃e,P.underlying t=some (.slice e))):hK P ρ ⟨dst,.call ⟨.builtin .len, #[x],k⟩,ty,pos,af,W⟩ g d:=by
 obtain⟨t,i,m,j⟩:=n;unfold sQ at h;split at h
 ·injection h with h;subst h;have b:=m ⟨_,rfl⟩;rename_i s;have a:ρ x = .string ⟨s.toArray⟩:=by generalize a:ρ x=q at c;cases c;rfl
  exact⟨.int .i64 s.length,by simp[execOp,resolve,invoke,builtin,Builtin.len_,eZ b,a,i,goInt,rV],.int _ _⟩
 ·injection h with h;subst h;obtain⟨e,b⟩:=j (by simp);have a:ρ x = .slice none 0 0:=by generalize a:ρ x=q at c;cases c;rfl
  exact⟨.int .i64 0,by simp[execOp,resolve,invoke,builtin,Builtin.len_,eZ b,a,i,goInt],.int _ _⟩
 ·injection h with h;subst h;obtain⟨e,b⟩:=j (by simp);rename_i p;obtain⟨r,l,a,_⟩:=c.tU;exact⟨.int .i64 p.length,by simp[execOp,resolve,invoke,builtin,Builtin.len_,eZ b,a,i,goInt],.int _ _⟩
 ·injection h with h;subst h;obtain⟨e,b⟩:=j (by simp);rename_i o;obtain⟨u,l,a,_⟩:=c.mv;exact⟨.int .i64 o,by simp[execOp,resolve,invoke,builtin,Builtin.len_,eZ b,a,i,goInt],.int _ _⟩
 ·cases h
theorem TC{x:Operand}{k:Array TypeId}{f d:D}(c:aV g (ρ x) f)(h:CF f=some d)(l:∃t e,k[0]?=some t∧P.underlying t=some (.slice e)):hK P ρ ⟨dst,.call ⟨.builtin .cap, #[x],k⟩,ty,pos,af,W⟩ g d:=by
 obtain⟨t,e,i,j⟩:=l;unfold CF at h;split at h
 ·injection h with h;subst h;have a:ρ x = .slice none 0 0:=by generalize a:ρ x=p at c;cases c;rfl
  exact⟨.int .i64 0,by simp[execOp,resolve,invoke,builtin,Builtin.cap_,eZ j,a,i,goInt],.int _ _⟩
 ·injection h with h;subst h;rename_i m;obtain⟨n,o,a,b⟩:=c.tU;have b:=b rfl;subst b;exact⟨.int .i64 m.length,by simp[execOp,resolve,invoke,builtin,Builtin.cap_,eZ j,a,i,goInt],.int _ _⟩
 ·cases h
theorem TU{x y:Operand}{o:Array TypeId}{c e d:D}(f:aV g (ρ x) c)(i:aV g (ρ y) e)(h:nG c e=some d):hK P ρ ⟨dst,.call ⟨.builtin .min, #[x,y],o⟩,ty,pos,af,W⟩ g d:=by
 unfold nG at h;split at h
 ·rename_i j a n b;injection h with h;subst h;have l:ρ x = .int j a:=by generalize k:ρ x=p at f;cases f;rfl
  have m:ρ y = .int n b:=by generalize k:ρ y=p at i;cases i;rfl
  exact⟨.int j (if b<a then b else a),by simp[execOp,resolve,invoke,builtin,Builtin.min_,Builtin.min2,l,m],.int _ _⟩
 ·cases h
theorem TT{x y:Operand}{o:Array TypeId}{c e d:D}(f:aV g (ρ x) c)(i:aV g (ρ y) e)(h:CJ c e=some d):hK P ρ ⟨dst,.call ⟨.builtin .max, #[x,y],o⟩,ty,pos,af,W⟩ g d:=by
 unfold CJ at h;split at h
 ·rename_i j a n b;injection h with h;subst h;have l:ρ x = .int j a:=by generalize k:ρ x=p at f;cases f;rfl
  have m:ρ y = .int n b:=by generalize k:ρ y=p at i;cases i;rfl
  exact⟨.int j (if b>a then b else a),by simp[execOp,resolve,invoke,builtin,Builtin.max_,Builtin.max2,l,m],.int _ _⟩
 ·cases h
theorem tL{vs:List Value}{d:D}(h:dP g vs [d]):∃v,vs=[v]∧aV g v d:=by
 cases h with
 |cons h a=>cases a;exact⟨_,rfl,h⟩
theorem PZ (i:eL P T) (ak:∀b,g.L b→b<g.w.heap.size) (o:Oper) {ds:List D} {d:D} (e:dP g (o.op.operands.toList.map ρ) ds) (h:mw T o.op ds=some d):uj P ρ o g d:=by
 obtain⟨dst,ap,ty,pos,af,W⟩:=o;simp only at e h;have u:∀{x:Operand},dP g [ρ x] ds→∃c,ds=[c]∧aV g (ρ x) c:=λk=>by
  cases k with
  |cons ad f=>cases f;exact⟨_,rfl,ad⟩
 have ag:∀{x y:Operand},dP g [ρ x,ρ y] ds→∃c q,ds=[c,q]∧aV g (ρ x) c∧aV g (ρ y) q:=λk=>by
  cases k with
  | cons ad f=>cases f with
   |cons aj f=>cases f;exact⟨_,_,rfl,ad,aj⟩
 have an:∀{x y z:Operand},dP g [ρ x,ρ y,ρ z] ds→∃c q ar,ds=[c,q,ar]∧aV g (ρ x) c∧aV g (ρ y) q∧aV g (ρ z) ar:=λk=>by
  cases k with
  | cons ad f=>cases f with
   | cons aj f=>cases f with
    |cons ax f=>cases f;exact⟨_,_,_,rfl,ad,aj,ax⟩
 cases ap<;>simp only[mw]at h
 case move x =>
  obtain⟨c,rfl,a⟩:=u e;injection h with h;subst h;exact hK.g ⟨ρ x,by simp[execOp],a⟩
 case assign x =>
  obtain⟨c,rfl,a⟩:=u e;injection h with h;subst h;exact hK.g ⟨ρ x,by simp[execOp],a⟩
 case pick F v b =>
  obtain⟨N,G,A,rfl,Q,H,B⟩:=an e;exact(TW Q H B h).g
 case nilCheck x =>
  obtain⟨c,rfl,a⟩:=u e;exact(TV i a h).g
 case binOp ap bu x y a2 =>
  obtain⟨c,q,rfl,a,t⟩:=ag e;exact(Ty i a t h).g
 case unOp ap j x =>
  obtain⟨c,rfl,a⟩:=u e;exact(T0 a h).g
 case convert av j x =>
  obtain⟨c,rfl,a⟩:=u e;exact(TF i a h).g
 case makeFunc ai v b =>
  injection h with h;subst h;exact(TR e).g
 case fieldAddr j x ai =>
  obtain⟨c,rfl,a⟩:=u e;exact(TK i a h).g
 case field j x ai =>
  obtain⟨c,rfl,a⟩:=u e;exact(TJ i a h).g
 case indexAddr j x y =>
  obtain⟨c,q,rfl,a,t⟩:=ag e;exact(TM i a t h).g
 case index j x y =>
  obtain⟨c,q,rfl,a,t⟩:=ag e;exact(TL i a t h).g
 case extract x p =>
  obtain⟨c,rfl,a⟩:=u e;exact(TH a h).g
 case makeInterface j x =>
  obtain⟨c,rfl,a⟩:=u e;split at h
  case h_2=>cases h
  rename_i a4 p R hi;injection R with R;subst R;split at h
  case h_3=>cases h
  ·rename_i r ae;injection h with h;subst h;exact hK.g ⟨.iface j (ρ x),by simp[execOp,Instr.makeInterface,eZ (i.ptr hi ae)],.iface _ _ _ a⟩
  ·rename_i r ae;injection h with h;subst h;exact hK.g ⟨.iface j (ρ x),by simp[execOp,Instr.makeInterface,eZ (i.int hi ae)],.iface _ _ _ a⟩
 case typeAssert x xt j bb =>
  obtain⟨c,rfl,a⟩:=u e;split at h
  case h_2=>cases h
  rename_i a4 p R hi;injection R with R;subst R;split at h
  case h_2=>cases h
  rename_i r ae;unfold MK at h;split at h
  case h_2=>cases h
  rename_i a2 y;split at h
  case isFalse=>cases h
  rename_i az;subst az;injection h with h;subst h;generalize s:ρ x=aq at a;cases a with
  |iface _ a3 _ a0=>exact hK.g ⟨a3,by simp[execOp,Instr.typeAssert,eZ (i.int hi ae),s],a0⟩
 case build j ac =>
  have:(Op.operands (.build j ac)).toList.map ρ=ac.toList.map λx=>ρ x.2:=by simp[Op.operands]
  rw[this]at e;exact(TB i e h).g
 case alloc r =>
  cases hi:T r with
  |none=>rw[hi]at h;cases h
  | some p =>
   rw[hi]at h;injection h with h;subst h;exact Tw i ak hi
 case box r x =>
  obtain⟨c,rfl,a⟩:=u e;simp only at h;split at h
  ·rename_i ay;injection h with h;subst h;exact Tz ak a ay
  ·cases h
 case buildSlice j au ac =>
  have:(Op.operands (.buildSlice j au ac)).toList.map ρ=ac.toList.map λx=>ρ x.2:=by simp[Op.operands]
  rw[this]at e;cases C:mS T j au (ac.toList.map (·.1)) ds with
  |none=>rw[C]at h;cases h
  | some a1 =>
   rw[C]at h;obtain⟨a5,br,bp⟩:=a1;injection h with h;subst h;exact TO i ak e C
 case slice j x lo hi mx =>
  have K:∀{y:Operand} {q:D} {p:Int},aV g (ρ y) q→ia q=some p→∃ao,ρ y = .int ao p:=λ{y q p} t aa=>by
   unfold ia at aa;split at aa
   ·injection aa with aa;subst aa;generalize s:ρ y=aq at t;cases t;exact⟨_,rfl⟩
   ·cases aa
  cases lo<;>cases hi<;>cases mx<;>simp only[LJ,Option.isSome_some]at h
  ·obtain⟨c,rfl,a⟩:=u (x:=x) (by simpa[Op.operands]using e);exact(rn i (lo:=none) (hi:=none) (mx:=none) (l:=none) (h:=none) (m:=none) a trivial trivial trivial (by simp) h).g
  ·unfold eN at h;simp at h
  ·rename_i b;obtain⟨c,A,rfl,a,B⟩:=ag (x:=x) (y:=b) (by simpa[Op.operands]using e);simp only[eN]at h;cases n:ia A with
   |none=>rw[n]at h;cases h
   | some p =>
    rw[n]at h;exact(rn i (lo:=none) (hi:=(some b)) (mx:=none) (l:=none) (h:=some p) (m:=none) a trivial (K B n) trivial (by simp) h).g
  ·rename_i b F;obtain⟨c,A,N,rfl,a,B,Q⟩:=an (x:=x) (y:=b) (z:=F) (by simpa[Op.operands]using e);simp only[eN]at h;cases n:ia A with
   |none=>rw[n]at h;cases h
   | some p =>
    rw[n]at h;simp only[kr]at h;cases E:ia N with
    |none=>rw[E]at h;cases h
    | some ah =>
     rw[E]at h;exact(rn i (lo:=none) (hi:=(some b)) (mx:=(some F)) (l:=none) (h:=some p) (m:=some ah) a trivial (K B n) (K Q E) (by simp) h).g
  ·rename_i v;obtain⟨c,G,rfl,a,H⟩:=ag (x:=x) (y:=v) (by simpa[Op.operands]using e);simp only[eN]at h;cases n:ia G with
   |none=>rw[n]at h;cases h
   | some p =>
    rw[n]at h;exact(rn i (lo:=(some v)) (hi:=none) (mx:=none) (l:=some p) (h:=none) (m:=none) a (K H n) trivial trivial (by simp) h).g
  ·unfold eN at h;simp at h
  ·rename_i v b;obtain⟨c,G,A,rfl,a,H,B⟩:=an (x:=x) (y:=v) (z:=b) (by simpa[Op.operands]using e);simp only[eN]at h;cases n:ia G with
   |none=>rw[n]at h;cases h
   | some p =>
    rw[n]at h;simp only[kr]at h;cases E:ia A with
    |none=>rw[E]at h;cases h
    | some ah =>
     rw[E]at h;exact(rn i (lo:=(some v)) (hi:=(some b)) (mx:=none) (l:=some p) (h:=some ah) (m:=none) a (K H n) (K B E) trivial (by simp) h).g
  ·rename_i v b F;obtain ⟨c,G,A,N,rfl,a,H,B,Q⟩:∃c G A N,ds=[c,G,A,N]∧aV g (ρ x) c∧aV g (ρ v) G∧aV g (ρ b) A∧aV g (ρ F) N:=by
    have M:dP g [ρ x,ρ v,ρ b,ρ F] ds:=by simpa[Op.operands]using e
    cases M with
    | cons a f=>cases f with
     | cons H f=>cases f with
      | cons B f=>cases f with
       |cons Q f=>cases f;exact⟨_,_,_,_,rfl,a,H,B,Q⟩
   simp only[eN]at h;cases n:ia G with
   |none=>rw[n]at h;cases h
   | some p =>
    rw[n]at h;simp only[kr]at h;cases E:ia A with
    |none=>rw[E]at h;cases h
    | some ah =>
     rw[E]at h;simp only[kr]at h;cases am:ia N with
     |none=>rw[am]at h;cases h
     | some ao =>
      rw[am]at h;exact(rn i (lo:=some v) (hi:=some b) (mx:=some F) (l:=some p) (h:=some ah) (m:=some ao) a (K H n) (K B E) (K Q am) (by simp) h).g
 case call F =>
  obtain⟨aw,args,bt⟩:=F;simp only at h;cases aw with
  |value ai=>simp at h
  |invoke f m=>simp at h
  | builtin b =>
   have M:dP g (args.toList.map ρ) ds:=by simpa[Op.operands,Call.operands]using e
   cases b<;>simp only at h
   case len =>
    split at h
    ·rename_i c j ab;obtain⟨aq,s,a⟩:=tL M;obtain⟨x,X⟩:∃x,args = #[x]:=by
      obtain⟨l⟩:=args;cases l with
      |nil=>simp at s
      | cons x l=>cases l with
       |nil=>exact⟨x,rfl⟩
       |cons y l=>simp at s
     subst X;simp at s;subst s;unfold bC at h;split at h
     ·rename_i p hi;split at h
      ·rename_i av I;exact(xN a h ⟨j,ab,λ_=>i.str hi I,λk=>absurd ⟨av,rfl⟩ k⟩).g
      ·rename_i r I;exact(xN a h ⟨j,ab,(λk=>by obtain⟨_,k⟩:=k;cases k),λ_=>⟨r,i.sl hi I⟩⟩).g
      ·rename_i r _ _ _ I;exact(xN a h ⟨j,ab,(λk=>by obtain⟨_,k⟩:=k;cases k),λ_=>⟨r,i.sl hi I⟩⟩).g
      ·rename_i r _ _ _ _ I;exact(xN a h ⟨j,ab,(λk=>by obtain⟨_,k⟩:=k;cases k),λ_=>⟨r,i.sl hi I⟩⟩).g
      ·cases h
     ·cases h
    ·cases h
   case cap =>
    split at h
    ·rename_i c j ab;obtain⟨aq,s,a⟩:=tL M;obtain⟨x,X⟩:∃x,args = #[x]:=by
      obtain⟨l⟩:=args;cases l with
      |nil=>simp at s
      | cons x l=>cases l with
       |nil=>exact⟨x,rfl⟩
       |cons y l=>simp at s
     subst X;simp at s;subst s;unfold uT at h;split at h
     ·rename_i p hi;split at h
      ·rename_i r I;exact(TC a h ⟨j,r,ab,i.sl hi I⟩).g
      ·cases h
     ·cases h
    ·cases h
   case min =>
    split at h
    ·rename_i c q;obtain⟨x,y,X⟩:∃x y,args = #[x,y]:=by
      have C:=M.length;obtain⟨l⟩:=args;cases l with
      |nil=>simp at C
      | cons x l=>cases l with
       |nil=>simp at C
       | cons y l=>cases l with
        |nil=>exact⟨x,y,rfl⟩
        |cons z l=>simp at C
     subst X;cases M with
     | cons a f=>cases f with
      |cons t f=>exact(TU a t h).g
    ·cases h
   case max =>
    split at h
    ·rename_i c q;obtain⟨x,y,X⟩:∃x y,args = #[x,y]:=by
      have C:=M.length;obtain⟨l⟩:=args;cases l with
      |nil=>simp at C
      | cons x l=>cases l with
       |nil=>simp at C
       | cons y l=>cases l with
        |nil=>exact⟨x,y,rfl⟩
        |cons z l=>simp at C
     subst X;cases M with
     | cons a f=>cases f with
      |cons t f=>exact(TT a t h).g
    ·cases h
   all_goals cases h
 all_goals cases h
end ops
end Go.Pi
namespace Go.Eng
abbrev fN:=@List.length_map
abbrev ns:=@Nat.add_zero
end Go.Eng
namespace Go.Pi
open Go.Eng
section rd
variable {P:Program} {T:dR} {g:Gh} {h:J}
theorem Live.at{m:Me}{U V:Nat}{rows:List (List D)}{cs:Array Value}(i:Live g m U V rows cs){k:Nat}{row:List D}(p:rows[k]?=some row):∃vs,At g m.b (k*V) vs row:=by
 obtain⟨r,n,_⟩:=i.iv;have o:∀f,g.w.cell? ⟨m.b,f,none⟩=cs[f]?:=λf=>by simp only[World.cell?,n];simp
 refine⟨_,At.of (λa=>cs.getD (k*V+a) undef) (λa c e=>?_) (λa c e=>?_) (λa c e=>?_)⟩
 all_goals
  obtain⟨q,h,j,l⟩:=i.cell k row p a c e;have d:cs.getD (k*V+a) undef=q:=by rw[gE,h];rfl
 ·rw[o,h,d]
 ·rw[d];exact j
 ·rw[d];exact l
theorem At.append{b o:Nat}{vs f:List Value}{cs ds:List D}(h:At g b o vs cs)(k:At g b (o+vs.length) f ds):At g b o (vs++f) (cs++ds):=by
 refine⟨λe c d=>?_,λc a=>?_,h.2.2.append k.2.2⟩
 ·rcases gG e vs.length with j|i
  ·rw[fg j]at d;exact h.1 e c d
  ·rw[gO i]at d;have:=k.1 _ c d
   rwa [nr,show vs.length+(e - vs.length)=e from by omega]at this
 ·rcases fp.1 a with a|a
  ·exact h.2.1 c a
  ·exact k.2.1 c a
theorem At.rows{b V:Nat}:∀(rows:List (List D)) (o:Nat),(∀r∈rows,r.length=V)→(∀(i:Nat) (row:List D),rows[i]?=some row→∃vs,At g b (o+i*V) vs row)→∃vs,At g b o vs rows.flatten
 |[],o,_,_=>⟨[],by simp,by simp,by simpa using dP.nil⟩
 | r::rows,o,d,h=>by
  obtain⟨vs,c⟩:=h 0 r rfl;have a:=d r (k0 ..);have f:=c.2.2.length;obtain⟨l,j⟩:=At.rows rows (o+vs.length) (λr a=>d r (kF _ a)) (λi row e=>by
   obtain⟨m,k⟩:=h (i+1) row (by simpa using e);refine⟨m,?_⟩;rw[hg,Nat.one_mul]at k
   rwa [f,a,nr,Nat.add_comm V]
   )
  rw[ou,ns]at c;exact⟨vs++l,by rw[kn];exact c.append j⟩
theorem Hu (hi:Inv g h) {v:Value} {d:D} (m:aV g v d) {V:Nat} {rows:List (List D)} (c:gA h V d=some rows) (an:0<V) :
  ∃a cap j,v = .slice a rows.length cap∧(∀r∈rows,r.length=V)∧j.length=rows.length*V∧dP g j rows.flatten∧(∀u∈j,u.oneCell'=true)∧(rows≠[]→∃b o,a=some ⟨b,o,none⟩∧At g b o j rows.flatten):=by
 unfold gA at c;split at c
 ·injection c with c;subst c;cases m;exact⟨none,0,[],rfl,by simp,by simp,by simpa using dP.nil,by simp,by simp⟩
 ·split at c
  ·rename_i w ai f y;subst y;injection c with c;subst c;cases x:f with
   | nil =>
    subst x;obtain⟨H,cap,n,_⟩:=m.tU;exact⟨some H,cap,[],n,by simp,by simp,by simpa using dP.nil,by simp,by simp⟩
   | cons T ar =>
    rw[← x];have K:f[0]?=some T:=by rw[x];rfl
    obtain⟨b,o,s,cap,au,n,B,_,_,_⟩:=m.z3 K;have l:∀r∈f,r.length=w:=λr R=>by
     obtain⟨F,i⟩:=j7 R;obtain⟨_,_,_,_,_,_,_,_,_,k⟩:=m.z3 i;exact k
    obtain⟨j,e⟩:=At.rows (g:=g) (b:=b) f o l (λF U i=>by
     obtain⟨ac,aq,ap,ad,aa,C,_,_,e,_⟩:=m.z3 i;rw[n]at C;injection C with p af ag;injection p with p;injection p with p I ah;subst p;subst I;exact⟨aa,e⟩)
    have k:=e.2.2.length;have L:=lC f l;exact⟨some ⟨b,o,none⟩,cap,j,by rw[n,B],l,by omega,e.2.2,e.2.1,λ_=>⟨b,o,rfl,e⟩⟩
  ·cases c
 ·split at c
  ·rename_i w o r s y;subst y;split at c
   ·rename_i G ab f P;injection c with c;subst c;obtain⟨q,cap,n,A,N,B,am,ak,aj⟩:=m.mv;obtain⟨ao,ae,t,k⟩:=hi.live o G ab f P;rw[N]at t;injection t with t;subst t;have E:=k.kt;rw[A]at E;subst E;have M:((f.drop r).take s).length=s:=by have:=k.len;simp;omega
    have l:∀z∈(f.drop r).take s,z.length=w:=λz Q=>k.row z (fM (fG Q))
    obtain⟨j,e⟩:=At.rows (g:=g) (b:=q.b) ((f.drop r).take s) (r*w) l (λF U i=>by
     rw[gw]at i;split at i
     ·rw[ko]at i;obtain⟨X,e⟩:=k.at i;exact⟨X,by rwa [hg]at e⟩
     ·cases i)
    have al:=e.2.2.length;have L:=lC _ l;refine⟨some ⟨q.b,r*q.V,none⟩,cap,j,by rw[M];exact n,l,by omega,e.2.2,e.2.1,λ_=>⟨q.b,r*q.V,rfl,by rw[A];exact e⟩⟩
   ·cases c
  ·cases c
 ·cases c
theorem Mh:∀(rows:List (List D)) (s:List UInt8) (b:List Value),rj rows=some s→dP g b rows.flatten→∃c:List Int,b=c.map (λn=>Value.int .u8 n)∧s=c.map λn=>UInt8.ofNat n.toNat
 | [],s,b,h,a=>by
  simp[rj]at h;subst h;cases a;exact⟨[],rfl,rfl⟩
 | row::r,s,b,h,a=>by
  unfold rj at h;split at h
  ·rename_i d;cases d
  ·rename_i n m d;injection d with e f;subst e;subst f;split at h
   ·rename_i l j;injection h with h;subst h;simp only[kn,ss,kp]at a;cases a with
    | cons k a =>
     cases k;obtain⟨c,i,h2⟩:=Mh r l _ j a;exact⟨n::c,by simp[i],by simp[h2]⟩
   ·cases h
  ·cases h
theorem Y7(a:List Int):∀s:ByteArray,a.foldl (λr n=>r.push (UInt8.ofNat n.toNat)) s=⟨(s.data.toList++a.map λn=>UInt8.ofNat n.toNat).toArray⟩:=by
 induction a with
 |nil=>intro s;simp
 | cons n r b =>
  intro s;rw[o9,b];apply AB;simp[ByteArray.push]
theorem MR (l:eL P T) (hi:Inv g h) {t:Nat} {v:Value} {k d:D} (o:aV g v k) (a:Y T h t k=some d):∃u,(Instr.loadAt t v).run P g.w = .ok u g.w∧aV g u d:=by
 unfold Y at a;split at a
 ·rename_i E n;split at a
  ·obtain⟨B,j,A,rfl,_,f⟩:=o.yQ;obtain⟨u,c,i⟩:=Pq l n f a;exact⟨u,by simp[Instr.loadAt,Instr.sureAddr,c],i⟩
  ·rename_i j x p;split at a
   ·rename_i H e;unfold J.row at e;split at e
    ·rename_i q z y s;cases o with
     | ptr j x p F r =>
      obtain⟨G,C,b,m⟩:=hi.live j q z y s;rw[r]at b;injection b with b;subst b;obtain⟨A,f⟩:=m.at e;obtain⟨u,c,i⟩:=Pq l n (f.drop p) a;refine⟨u,?_,i⟩;rw[← m.kt]at c;simp[Instr.loadAt,Instr.sureAddr,c]
    ·cases e
   ·cases a
  ·cases a
 ·cases a
theorem a2I (i : eL P T) (hi:Inv g h) {ρ:Operand→Value} (o:Oper) {ds:List D} {d:D} (m:dP g (o.op.operands.toList.map ρ) ds) (a:nV T h o.op ds=some d):hK P ρ o g d:=by
 obtain⟨am,ah,aw,ar,al,W⟩:=o;simp only at m a;cases ah<;>simp only[nV]at a
 case load y z =>
  split at a
  ·obtain⟨q,c,n⟩:=tL m;simp[Op.operands]at c;subst c;obtain⟨ak,M,ac⟩:=MR i hi n a;exact⟨ak,by simp[execOp,M],ac⟩
  ·cases a
 case convert ai y z =>
  split at a
  ·rename_i ap x N X;split at a
   ·rename_i B aa ab;split at a
    ·rename_i aq E;split at a
     ·rename_i F;split at a
      ·obtain ⟨q, c, n⟩:=tL m;simp[Op.operands]at c;subst c;unfold qm at a;split at a
       ·rename_i f L;split at a
        ·rename_i aj R;injection a with a;subst a;obtain⟨r,s,ag,c,ao,H,K,an,t⟩:=Hu hi n L (by decide);obtain⟨b,I,Q⟩:=Mh f aj ag R K;subst I;subst Q;have k:b.length=f.length:=by simpa using H
         refine⟨.string ⟨(b.map λp=>UInt8.ofNat p.toNat).toArray⟩,?_,.str _⟩;have ad:=i.sl N aa;have ae:=i.str X ab;have af:=i.int E F;have u : (Conv.bytesToString (ρ z)).run P g.w = .ok (.string ⟨(b.map λp=>UInt8.ofNat p.toNat).toArray⟩) g.w:=by
          rw[c,← k];cases r with
          | none =>
           have l:f=[]:=by
            rcases f with _|⟨au,av⟩
            ·rfl
            ·obtain⟨A,o,e,_⟩:=t (by simp);cases e
           subst l;have:b=[]:=hM (by simpa using k);subst this;simp[Conv.bytesToString];rfl
          | some j =>
           have G:(loadCells j b.length).run P g.w = .ok (b.map (Value.int .u8)).toArray g.w:=by
            have:=run_loadCells_list (P:=P) (w:=g.w) j (b.map (Value.int .u8)) (λx q v=>by
             have l:f≠[]:=λe=>by
              subst e;have:b=[]:=hM (by simpa using k);subst this;cases v
             obtain⟨A,o,e,C⟩:=t l;injection e with e;rw[e,km];exact C.1 x q v)
            rwa [fN]at this
           rw[run_bytesToString g.w j b.length s b G,Y7];rfl
         simp only[execOp,ir];rw[c]at u ⊢;rw[run_convert_bytes_string g.w ai y B r _ s ad af ae,u];rfl
        ·cases a
       ·cases a
      ·cases a
     ·cases a
    ·cases a
   ·cases a
  ·cases a
 all_goals cases a
end rd
end Go.Pi
namespace Go.Eng
abbrev kZ:=@List.getElem?_set_ne
abbrev p0:=@Array.getElem?_eq_getElem
abbrev q2:=@List.getElem?_set_self
abbrev sA:=@Nat.lt_trichotomy
abbrev IF:=@Array.getElem?_modify
abbrev IG:=@Array.getElem?_push_lt
end Go.Eng
namespace Go.Pi
open Go.Eng
structure lO (w w':World) (b:Nat) (o:Obj):Prop where
 iv:w'.heap[b]?=some o
 other:∀k,k≠b→w'.heap[k]?=w.heap[k]?
 size:w'.heap.size=w.heap.size
 os:w'.os=w.os
 tape:w'.tape=w.tape
 output:w'.output=w.output
theorem a4M(w:World){b i:Nat}{cs:Array Value}{T:TypeId}{fr:Nat × Nat}(a:w.heap[b]?=some (.cells cs T fr))(v:Value):lO w (w.setCell ⟨b,i,none⟩ v) b (.cells (cs.setIfInBounds i v) T fr):=by
 have g:=(o3.1 a).1;refine⟨?_,λf d=>?_,by simp[World.setCell],rfl,rfl,rfl⟩
 ·simp[World.setCell,IF,a]
 ·have e:¬b=f:=λc=>d c.symm
  simp[World.setCell,IF,e]
theorem lO.trans{w w' e:World}{b:Nat}{o d:Obj}(h:lO w w' b o)(k:lO w' e b d):lO w e b d:=
 ⟨k.iv,λc a=>(k.other c a).trans (h.other c a),k.size.trans h.size,k.os.trans h.os,k.tape.trans h.tape,k.output.trans h.output⟩
theorem lO.self{w:World}{b:Nat}{o:Obj}(h:w.heap[b]?=some o):lO w w b o:=⟨h,λ_ _=>rfl,rfl,rfl,rfl,rfl⟩
theorem qP{P:Program}{T:TypeId}{fr:Nat × Nat}{b i:Nat}:∀(vs:List Value) (w:World) (cs:List Value) (k:Nat),w.heap[b]?=some (.cells cs.toArray T fr)→Ls fr cs.length→i+k+vs.length≤cs.length→(∀v∈vs,v.oneCell'=true) →
  ∃w',(storeCells ⟨b,i,none⟩ vs k).run P w = .ok () w'∧lO w w' b (.cells (cs.take (i+k)++vs++cs.drop (i+k+vs.length)).toArray T fr)
 |[],w,cs,k,a,c,e,d=>⟨w,by simp[storeCells],by simpa using lO.self a⟩
 | v::r,w,cs,k,a,c,e,d=>by
  simp only[g7]at e;have o:i+k<cs.length:=by omega
  have m:w.cell? ⟨b,i+k,none⟩=some cs[i+k]:=by
   simp only[World.cell?,a];simp[o]
  have n:w.frozen? ⟨b,i+k,none⟩=false:=by
   simp only[World.frozen?,a];rcases c with rfl|c
   ·simp
   ·simp;omega
  have q:(store ⟨b,i+k,none⟩ v).run P w = .ok () (w.setCell ⟨b,i+k,none⟩ v):=by
   rw[run_store _ _ _ _ _ (d v (k0 ..))];simp[m,n]
  have f:=a4M w (i:=i+k) a v;have l:(w.setCell ⟨b,i+k,none⟩ v).heap[b]?=some (.cells (cs.set (i+k) v).toArray T fr):=by
   rw[f.iv];simp
  obtain⟨w',p,s⟩:=qP (i:=i) r (w.setCell ⟨b,i+k,none⟩ v) (cs.set (i+k) v) (k+1) l (by simpa using c) (by simp;omega) (λu t=>d u (kF _ t));refine⟨w',?_,?_⟩
  ·simp only[storeCells,ir,km,q,iM];exact p
  ·have:=f.trans s;have g:(cs.set (i+k) v).take (i+(k+1))++r++(cs.set (i+k) v).drop (i+(k+1)+r.length)=cs.take (i+k)++v::r++cs.drop (i+k+(v::r).length):=by
    have h:(cs.set (i+k) v).take (i+(k+1))=cs.take (i+k)++[v]:=by
     rw[show i+(k+1)=(i+k)+1 from by omega,List.take_succ_eq_append_getElem (by simp;omega)];simp only[List.getElem_set_self,List.take_set];rw[List.set_eq_of_length_le (by simp;omega)]
    have j:(cs.set (i+k) v).drop (i+(k+1)+r.length)=cs.drop (i+k+(v::r).length):=by
     rw[List.drop_set_of_lt (by omega)];simp only[g7];congr 1;omega
    rw[h,j];simp
   rw[g]at this;exact this
section obj
variable {g:Gh} {h:J}
theorem tE (hi:Inv g h) {w':World} {U V cap:Nat} {rows:List (List D)} {cs:Array Value} {fr:Nat × Nat} (I:w'.heap=g.w.heap.push (.cells cs U fr)) (ak:w'.os=g.w.os) (ao:w'.tape=g.w.tape) (aj:w'.output=g.w.output)
  (ah:Fr fr cs.size V) (al:0<V) (ai:rows.length≤cap) (am:cap*V≤cs.size) (an:∀r∈rows,r.length=V)
  (af:∀(i:Nat) (row:List D),rows[i]?=some row→∀(j:Nat) (d:D),row[j]?=some d→∃v,cs[i*V+j]?=some v∧v.oneCell'=true∧aV g v d) :
  ∃g':Gh,g'.w=w'∧eA g g'∧Inv g' (aG h U V rows)∧g'.ms[h.length]?=some ⟨g.w.heap.size,V,rows.length,cap⟩:=by
 let g':Gh:=⟨w',g.ms++[⟨g.w.heap.size,V,rows.length,cap⟩],λf=>g.L f∨f=g.w.heap.size⟩
 have N:∀f,f<g.w.heap.size→w'.heap[f]?=g.w.heap[f]?:=λf e=>by rw[I,IG e,p0 e]
 have av:w'.heap.size=g.w.heap.size+1:=by rw[I];simp
 have y:eA g g':=⟨⟨ak,ao,aj,by show g.w.heap.size≤w'.heap.size;omega,(λa b c=>by
   show(g.ms++_)[a]?=some b;rw [fg (bR.1 c).1];exact c),λf e=>⟨⟨by show f<w'.heap.size;have:=e.1;omega,λz=>by
    rcases z with z|z
    ·exact e.2 z
    ·have:=e.1;omega⟩,N f e.1⟩⟩,λf e=>⟨⟨by show f<w'.heap.size;have:=e.1;omega,.inl e.2.1,λa b c=>by
     have p:(g.ms++[(⟨g.w.heap.size,V,rows.length,cap⟩:Me)])[a]?=some b:=c;rcases gG a g.ms.length with l|H
     ·rw[fg l]at p;exact e.2.2 a b p
     ·rw[gO H]at p;have:=eW p;simp at this;subst this;have:=e.1;show g.w.heap.size≠f;omega⟩,N f e.1⟩⟩
 have C:∀a b,g'.ms[a]?=some b→a<h.length→g.ms[a]?=some b:=λa b c l=>by
  have:(g.ms++[(⟨g.w.heap.size,V,rows.length,cap⟩:Me)])[a]?=some b:=c
  rwa [fg (by rw[hi.len];exact l)]at this
 have B:g'.ms[h.length]?=some ⟨g.w.heap.size,V,rows.length,cap⟩:=by
  show(g.ms++_)[h.length]?=_;rw[← hi.len];simp
 have A:∀(a:Nat) (E:Ob),(aG h U V rows)[a]?=some E→(a<h.length∧h[a]?=some E)∨(a=h.length∧E = .row U V rows):=λa E s=>by
  unfold aG at s;rcases sA a h.length with l|heq|au
  ·rw[fg l]at s;exact .inl ⟨l,s⟩
  ·subst heq;simp at s;exact .inr ⟨rfl,s.symm⟩
  ·exfalso;have:=(bR.1 s).1;simp at this;omega
 refine⟨g',rfl,y,⟨?_,λa ac ar aq M=>?_,λa t Q aa R ab T X b P x m n o q=>?_,λf e=>?_,λa b c=>?_⟩,B⟩
 ·show(g.ms++_).length=(h++_).length;simp[hi.len]
 ·rcases A a _ M with⟨l,M⟩|⟨rfl,heq⟩
  ·obtain⟨b,F,c,k⟩:=hi.live a ac ar aq M;refine⟨b,F,y.ms a b c,?_,k.kt,k.pos,.inl k.hL,k.len,k.le,k.room,k.row,λi row m j d n=>?_⟩
   ·have:=N b.b (hi.oq k.hL);show ∃fr,w'.heap[b.b]?=_∧_;rw[this];exact k.iv
   ·obtain⟨v,o,q,G⟩:=k.cell i row m j d n;exact⟨v,o,q,G.ext y⟩
  ·injection heq with u ad ae;subst u;subst ad;subst ae;refine⟨_,cs,B,⟨fr,?_,ah⟩,rfl,al,.inr rfl,rfl,ai,am,an,λi row m j d n=>?_⟩
   ·show w'.heap[g.w.heap.size]?=_;rw[I];simp
   ·obtain⟨v,o,q,G⟩:=af i row m j d n;exact⟨v,o,q,G.ext y⟩
 ·rcases A a _ x with⟨l,x⟩|⟨rfl,heq⟩
  ·rcases A t _ m with⟨K,m⟩|⟨rfl,ag⟩
   ·exact hi.inj a t Q aa R ab T X b P x m (C a b n l) (C t P o K) q
   ·exfalso;obtain⟨ap,F,c,k⟩:=hi.live a Q aa T x;have u:=C a b n l;rw[u]at c;injection c with c;subst c;rw[B]at o;injection o with o;subst o;have:=hi.oq k.hL;rw[q]at this;simp at this
  ·rcases A t _ m with⟨K,m⟩|⟨rfl,ag⟩
   ·exfalso;obtain⟨ap,F,c,k⟩:=hi.live t R ab X m;have u:=C t P o K;rw[u]at c;injection c with c;subst c;rw[B]at n;injection n with n;subst n;have:=hi.oq k.hL;rw[← q]at this;simp at this
   ·rfl
 ·show f<w'.heap.size;rcases e with e|e
  ·have:=hi.L f e;omega
  ·omega
 ·show b.b<w'.heap.size;have p:(g.ms++[(⟨g.w.heap.size,V,rows.length,cap⟩:Me)])[a]?=some b:=c;rcases gG a g.ms.length with l|H
  ·rw[fg l]at p;have:=hi.msb a b p;omega
  ·rw[gO H]at p;have:=eW p;simp at this;subst this;show g.w.heap.size<w'.heap.size;omega
theorem QY(hi:Inv g h){w':World}{o U V:Nat}{rows rows':List (List D)}{m:Me}{cs x:Array Value}{fr:Nat × Nat}(N:h[o]?=some (.row U V rows))(K:g.ms[o]?=some m)(s:Live g m U V rows cs)
  (c:lO g.w w' m.b (.cells x U fr)) (ah:Fr fr x.size V) (al:x.size=cs.size) (ai:rows'.length=rows.length) (ak:∀r∈rows',r.length=V)
  (ag:∀(i:Nat) (row:List D),rows'[i]?=some row→∀(j:Nat) (d:D),row[j]?=some d→∃v,x[i*V+j]?=some v∧v.oneCell'=true∧aV g v d) :
  ∃g':Gh,g'.w=w'∧eA g g'∧Inv g' (h.set o (.row U V rows'))∧g'.ms=g.ms:=by
 let g':Gh:=⟨w',g.ms,g.L⟩
 have H:eA g g':=⟨⟨c.os,c.tape,c.output,by show g.w.heap.size≤w'.heap.size;rw[c.size];exact bB _,λ_ _ k=>k,λf e=>by
  have M:f≠m.b:=λk=>e.2 (k▸s.hL)
  exact⟨⟨by show f<w'.heap.size;rw[c.size];exact e.1,e.2⟩,c.other f M⟩⟩,λf e=>⟨⟨by show f<w'.heap.size;rw[c.size];exact e.1,e.2.1,e.2.2⟩,c.other f λk=>e.2.2 o m K k.symm⟩⟩
 have T:∀(a:Nat) (B:Ob),(h.set o (.row U V rows'))[a]?=some B→(a=o∧B = .row U V rows')∨(a≠o∧h[a]?=some B):=λa B b=>by
  by_cases P:a=o
  ·subst P;have aj:=(bR.1 N).1;rw[q2 aj]at b;injection b with b;exact .inl ⟨rfl,b.symm⟩
  ·rw[kZ (λk=>P k.symm)]at b;exact .inr ⟨P,b⟩
 have X:∀(a:Nat) (n p:Nat) (u:List (List D)),(h.set o (.row U V rows'))[a]?=some (.row n p u)→∃Q,h[a]?=some (.row n p Q):=λa n p u b=>by
  rcases T a _ b with⟨rfl,I⟩|⟨_,b⟩
  ·injection I with C E R;subst C;subst E;exact⟨rows,N⟩
  ·exact⟨u,b⟩
 refine⟨g',rfl,H,⟨by show g.ms.length=_;simp[hi.len],λa n p u b=>?_,λa ac n p ad ao u ap t am F q y z A=>?_,λf e=>?_,λa ab b=>by show ab.b<w'.heap.size;rw[c.size];exact hi.msb a ab b⟩,rfl⟩
 ·rcases T a _ b with⟨rfl,I⟩|⟨M,b⟩
  ·injection I with C E R;subst C;subst E;subst R;refine⟨m,x,K,⟨fr,c.iv,ah⟩,s.kt,s.pos,s.hL,by rw[ai];exact s.len,s.le,by rw[al];exact s.room,ak,λi row q j d y=>?_⟩;obtain⟨v,z,A,G⟩:=ag i row q j d y;exact⟨v,z,A,G.ext H⟩
  ·obtain⟨t,ae,aa,l⟩:=hi.live a n p u b;have af:t.b≠m.b:=λk=>M (hi.inj a o n p U V u rows t m b N aa K k)
   refine⟨t,ae,aa,?_,l.kt,l.pos,l.hL,l.len,l.le,l.room,l.row,λi row q j d y=>?_⟩
   ·have:=c.other t.b af;show ∃fr,w'.heap[t.b]?=_∧_;rw[this];exact l.iv
   ·obtain⟨v,z,A,G⟩:=l.cell i row q j d y;exact⟨v,z,A,G.ext H⟩
 ·obtain⟨Q,F⟩:=X a _ _ _ F;obtain⟨an,q⟩:=X ac _ _ _ q;exact hi.inj a ac n p ad ao Q an t am F q y z A
 ·show f<w'.heap.size;rw[c.size];exact hi.L f e
theorem GJ(hi:Inv g h){o U V:Nat}{rows:List (List D)}{m:Me}(v:h[o]?=some (.row U V rows))(u:g.ms[o]?=some m):
  ∃g':Gh,g'.w=g.w∧eA g g'∧Inv g' (h.set o .dead)∧g'.ms=g.ms∧g'.fz m.b∧(∀b,g'.L b→g.L b):=by
 let g':Gh:=⟨g.w,g.ms,λb=>g.L b∧b≠m.b⟩
 obtain⟨ac,ab,n,I⟩:=hi.live o U V rows v;rw[u]at n;injection n with n;subst n;have y:eA g g':=⟨⟨rfl,rfl,rfl,bB _,λ_ _ d=>d,λb c=>⟨⟨c.1,λd=>c.2 d.1⟩,rfl⟩⟩,λb c=>⟨⟨c.1,⟨c.2.1,λd=>c.2.2 o m u d.symm⟩,c.2.2⟩,rfl⟩⟩
 have t:∀(a i k:Nat) (j:List (List D)),(h.set o .dead)[a]?=some (.row i k j)→a≠o∧h[a]?=some (.row i k j):=λa i k j e=>by
  by_cases x:a=o
  ·subst x;have K:=(bR.1 v).1;rw[q2 K]at e;injection e with e;cases e
  ·rw[kZ (λd=>x d.symm)]at e;exact⟨x,e⟩
 refine⟨g',rfl,y,⟨by show g.ms.length=_;simp[hi.len],λa i k j e=>?_,λa A i k B X j R l Q F p q r s=>?_,λb c=>?_,hi.msb⟩,rfl,⟨hi.oq I.hL,λd=>d.2 rfl⟩,λb c=>c.1⟩
 ·obtain⟨M,e⟩:=t a _ _ _ e;obtain⟨l,C,z,f⟩:=hi.live a i k j e;have H:l.b≠m.b:=λd=>M (hi.inj a o i k U V j rows l m e v z u d)
  exact⟨l,C,z,f.iv,f.kt,f.pos,⟨f.hL,H⟩,f.len,f.le,f.room,f.row,λN T p P E q=>by
   obtain⟨aa,r,s,G⟩:=f.cell N T p P E q;exact⟨aa,r,s,G.ext y⟩⟩
 ·exact hi.inj a A i k B X j R l Q (t a _ _ _ F).2 (t A _ _ _ p).2 q r s
 ·exact hi.L b c.1
end obj
end Go.Pi
namespace Go.Eng
abbrev gF:=@List.append_assoc
abbrev kD:=@List.drop_of_length_le
abbrev lp:=@List.flatten_append
abbrev qc:=@List.getElem?_eq_none
abbrev uD:=@List.mem_flatten
abbrev BN:=@List.ext_getElem?
abbrev BR:=@List.getElem?_toArray
abbrev BZ:=@List.replicate_succ
abbrev Lx:=@List.getElem?_append
abbrev LA:=@List.mem_replicate
abbrev LB:=@List.set_eq_take_append_cons_drop
end Go.Eng
namespace Go.Pi
open Go.Eng
theorem js{V:Nat}:∀(rows:List (List D)) (n:Nat),(∀r∈rows,r.length=V)→(rows.take n).flatten=rows.flatten.take (n*V)
 |[],n,_=>by simp
 |r::rows,0,_=>by simp
 | r::rows,n+1,h=>by
  have a:=h r (k0 ..);have c:=js rows n λr a=>h r (kF _ a)
  have b:(n+1)*V=V+n*V:=by rw[hg];omega
  rw[LD,kn,kn,c,b,xc,hN (l:=r) (by omega),a];congr 2;omega
theorem u2{V:Nat}:∀(rows:List (List D)) (n:Nat),(∀r∈rows,r.length=V)→(rows.drop n).flatten=rows.flatten.drop (n*V)
 |[],n,_=>by simp
 |r::rows,0,_=>by simp
 | r::rows,n+1,h=>by
  have a:=h r (k0 ..);have c:=u2 rows n λr a=>h r (kF _ a)
  have b:(n+1)*V=V+n*V:=by rw[hg];omega
  rw[jS,kn,c,b,su,kD (l:=r) (by omega),a];simp
theorem Y1{V:Nat}{rows:List (List D)}{k off:Nat}{row ds:List D}(c:∀r∈rows,r.length=V)(b:rows[k]?=some row)(j:off+ds.length≤V):(rows.set k (dZ row off ds)).flatten=dZ rows.flatten (k*V+off) ds:=by
 have f:=(bR.1 b).1;have h:=(bR.1 b).2;have m:row.length=V:=c row (eW b);have i:rows.flatten=(rows.take k).flatten++row++(rows.drop (k+1)).flatten:=by
  have:rows=rows.take k++row::rows.drop (k+1):=by
   rw[← h];simp
  conv=>lhs;rw[this]
  simp
 have d:(rows.take k).flatten.length=k*V:=by
  rw[lC _ λr g=>c r (fG g),lq,xf (by omega)]
 rw[LB,bO f,lp,kn,i];unfold dZ;generalize (rows.take k).flatten=a at d;generalize (rows.drop (k+1)).flatten=e;rw[gF a row e,xc,su,d];rw[hN (l:=a) (by omega),kD (l:=a) (by omega)];rw[show k*V+off - k*V=off from by omega,show k*V+off+ds.length - k*V=off+ds.length from by omega];rw[xc,su];rw[show off - row.length=0 from by omega,show off+ds.length - row.length=0 from by omega];simp
section wr
variable {P:Program} {T:dR} {g:Gh} {h:J}
theorem ph{vs:List Value}{rows:List (List D)}{V:Nat}{cs:Array Value}(c:dP g vs rows.flatten)(e:∀v∈vs,v.oneCell'=true)(l:∀r∈rows,r.length=V)(k:∀(j:Nat) (v:Value),vs[j]?=some v→cs[j]?=some v):
  ∀(i:Nat) (row:List D),rows[i]?=some row→∀(j:Nat) (d:D),row[j]?=some d→∃v,cs[i*V+j]?=some v∧v.oneCell'=true∧aV g v d:=λi row h j d f=>by
 have b:=Da rows i j row d l h f;have m:=c.length;have n:=(bR.1 b).1;have a:vs[i*V+j]?=some (vs[i*V+j]'(by omega)):=dG (by omega);exact⟨_,k _ _ a,e _ (eW a),c.get _ _ d a b⟩
theorem Live.flat{m:Me}{U V:Nat}{rows:List (List D)}{cs:Array Value}(d:Live g m U V rows cs):∃vs,dP g vs rows.flatten∧(∀v∈vs,v.oneCell'=true)∧(∀(j:Nat) (v:Value),vs[j]?=some v→cs[j]?=some v):=by
 obtain⟨l,e,_⟩:=d.iv;have f:∀a,g.w.cell? ⟨m.b,a,none⟩=cs[a]?:=λa=>by simp only[World.cell?,e];simp
 obtain⟨vs,c⟩:=At.rows (g:=g) (b:=m.b) rows 0 d.row (λa row i=>by
  obtain⟨vs,h⟩:=d.at i;exact⟨vs,by rwa [eS]⟩)
 exact⟨vs,c.2.2,c.2.1,λj v k=>by
  have:=c.1 j v k
  rwa [eS,f]at this⟩
theorem zW(hi:Inv g h){w':World}{o U V:Nat}{rows rows':List (List D)}{m:Me}{cs:Array Value}{fr:Nat × Nat}(C:h[o]?=some (.row U V rows))(B:g.ms[o]?=some m)(d:Live g m U V rows cs)(z:Fr fr cs.size V)
  {p:Nat} {vs:List Value} {ds:List D} (q:dP g vs ds) (i:∀v∈vs,v.oneCell'=true) (P:p+ds.length≤rows.flatten.length) (y:rows'.flatten=dZ rows.flatten p ds) (A:rows'.length=rows.length) (s:∀r∈rows',r.length=V)
  (E:lO g.w w' m.b (.cells (cs.toList.take p++vs++cs.toList.drop (p+vs.length)).toArray U fr)) :
  ∃g':Gh,g'.w=w'∧eA g g'∧Inv g' (h.set o (.row U V rows'))∧g'.ms=g.ms:=by
 obtain⟨G,k,l,n⟩:=d.flat;have N:=k.length;have Q:=q.length;have M:rows.flatten.length≤cs.size:=by
  have i:=lC rows d.row;have H:=d.room;have I:=d.len;have K:=d.le;have L:rows.length*V≤m.cap*V:=jz _ (by omega);omega
 have t:(cs.toList.take p++vs++cs.toList.drop (p+vs.length)).toArray.size=cs.size:=by
  simp;omega
 refine QY hi C B d E (by rw[t];exact z) t A s ?_;have j:=Q3 k q p;rw[← y]at j;refine ph j (λv c=>?_) s λF v a=>?_
 ·simp only[fp]at c;rcases c with(c|c)|c
  ·exact l v (fG c)
  ·exact i v c
  ·exact l v (fM c)
 ·simp only[gF]at a ⊢;rw[Lx]at a;rw[BR,Lx];have u:(G.take p).length=p:=by simp;omega
  have x:(cs.toList.take p).length=p:=by simp;omega
  rw[u]at a;rw[x];split at a
  ·rename_i e;rw[bO e];rw[gw,bO e]at a ⊢;have:=n F v a;simpa using this
  ·rename_i e;rw[cC e];rw[Lx]at a ⊢;split at a
   ·rename_i f;rw[bO f];exact a
   ·rename_i f;rw[cC f];rw[ko]at a ⊢;have:=n _ v a;simpa using this
def n8(P:Program)(ρ:Operand→Value)(o:Oper)(g:Gh)(h':J)(d:D):Prop:=∃nx c a,(execOp ρ o).run P g.w = .ok nx c∧a.w=c∧eA g a∧Inv a h'∧((∃b,nx = .value b∧aV a b d)∨(nx = .skip∧d = .bA))
variable {ρ:Operand→Value} {dst:Option Tmp} {ty:TypeId} {pos:String} {af:Array Edge} {W:Option (Nat × Bool)}
theorem TX (H:eL P T) (hi:Inv g h) {t:TypeId} {x y:Operand} {p f:D} {h':J} (B:aV g (ρ x) p) (ae:aV g (ρ y) f) (a:aS T h t p f=some h'):n8 P ρ ⟨dst,.store t x y,ty,pos,af,W⟩ g h' .bA:=by
 unfold aS at a;split at a
 ·rename_i i E k off aa;split at a
  ·rename_i n d e u;split at a
   ·rename_i ah m;split at a
    ·rename_i q;injection a with a;subst a;simp only[gJ]at q;obtain⟨⟨jg,g4⟩,jC⟩:=q;have jg:=kI jg;have g4:=fQ g4;obtain⟨F,ac,A,z⟩:=ae.cells jC;have ar:=A.length;generalize ab:ρ x=av at B;cases B with
     | ptr E k off C s =>
      obtain⟨au,o,j,c⟩:=hi.live E n d e u;rw[s]at j;injection j with j;subst j;obtain⟨fr,I,r⟩:=c.iv;have ap:=c.row ah (eW m);have M:=Y1 c.row m (off:=off) (ds:=cX f) (by omega);have an:=(bR.1 m).1;have L:=lC e c.row;have U:k*d+off+(cX f).length≤e.flatten.length:=by
       rw[L];have:(k+1)*d≤e.length*d:=jz _ (by omega);rw[hg]at this;omega
      have aq:e.flatten.length≤o.size:=by
       have aj:=c.room;have ak:=c.len;have al:=c.le;have am:e.length*d≤C.cap*d:=jz _ (by omega);omega
      obtain⟨ai,X,v⟩:=qP (P:=P) (i:=k*d+off) F g.w o.toList 0 (T:=n) (fr:=fr) (b:=C.b) (by simpa using I) (by simpa using r.ue) (by simp;omega) z;simp only[ns]at v;obtain⟨G,ad,K,N,ao⟩:=zW hi u s c r A z U M (by simp) (λag l=>by
       rcases List.mem_or_eq_of_mem_set l with l|rfl
       ·exact c.row ag l
       ·simp[dZ];omega) v
      refine⟨.skip,ai,G,?_,ad,K,N,.inr ⟨rfl,rfl⟩⟩;have Q:F.length=i.V:=by omega
      have R:=c.kt;subst R;simp[execOp,Instr.storeAt,Instr.sureAddr,storeVar,ab,ac,H.size aa,Q,X]
    ·cases a
   ·cases a
  ·cases a
 ·cases a
theorem Tx(c:eL P T)(hi:Inv g h){e:TypeId}{i:TI}(f:T e=some i)(o:0<i.V):n8 P ρ ⟨dst,.alloc e,ty,pos,af,W⟩ g (aG h e i.V [i.zero]) (.ptr h.length 0 0):=by
 obtain⟨a,q,r,s,k⟩:=c.qY f;have d:=rW g a.cells.toList;rw[← r]at d;have j:=c.RA f;obtain⟨b,p,l,m,n⟩:=tE hi (w':=g.w.alloc (.cells a.cells e)) (U:=e) (V:=i.V) (cap:=1) (rows:=[i.zero]) (cs:=a.cells) (fr:=(0,0)) rfl rfl rfl rfl (.inl rfl) o (by simp) (by omega) (by simpa using j)
  (ph (vs:=a.cells.toList) (by simpa using d) k (by simpa using j) (by simp))
 refine⟨_,_,b,by simp only[execOp,Instr.alloc,ir,q g.w,iM,newVar,newRow,tP,ka];rfl,p,l,m,.inl ⟨_,rfl,?_⟩⟩;have:=aV.ptr (g:=b) h.length 0 0 _ n;simpa using this
theorem TA(q:eL P T)(hi:Inv g h){e:TypeId}{x:Operand}{a:D}{V:Nat}(p:aV g (ρ x) a)(k:a.fo=true)(c:(cX a).length=V)(m:0<V):n8 P ρ ⟨dst,.box e x,ty,pos,af,W⟩ g (aG h e V [cX a]) (.ptr h.length 0 0):=by
 obtain⟨vs,n,d,f⟩:=p.cells k;have r:=d.length;obtain⟨b,o,i,j,l⟩:=tE hi (w':=g.w.alloc (.cells vs.toArray e)) (U:=e) (V:=V) (cap:=1) (rows:=[cX a]) (cs:=vs.toArray) (fr:=(0,0)) rfl rfl rfl rfl (.inl rfl) m (by simp) (by simp;omega) (by simpa using c)
  (ph (vs:=vs) (by simpa using d) f (by simpa using c) (by simp))
 refine⟨_,_,b,by simp only[execOp,Instr.box,ir,newVar,newRow,tP,iM,ka,n];rfl,o,i,j,.inl ⟨_,rfl,?_⟩⟩;have:=aV.ptr (g:=b) h.length 0 0 _ l;simpa using this
theorem TP(i:eL P T)(hi:Inv g h){t n:Nat}{b:Array (Nat × Operand)}{ds:List D}{E V:Nat}{rows:List (List D)}(p:dP g (b.toList.map λx=>ρ x.2) ds)(j:mS T t n (b.toList.map (·.1)) ds=some (E,V,rows)):
  n8 P ρ ⟨dst,.buildSlice t n b,ty,pos,af,W⟩ g (aG h E V rows) (.aZ V h.length 0 rows.length):=by
 obtain⟨vs,q,e,f,o,a,d,v⟩:=Qs (dst:=dst) (ty:=ty) (pos:=pos) (af:=af) (W:=W) i p j;have y:=e.length;have s:=lC rows a;obtain⟨c,r,k,l,m⟩:=tE hi (w':=g.w.alloc (.cells vs.toArray E)) (U:=E) (V:=V) (cap:=rows.length) (rows:=rows) (cs:=vs.toArray) (fr:=(0,0)) rfl rfl rfl rfl (.inl rfl) d (bB _) (by simp;omega) a
  (ph (vs:=vs) e f a (by simp))
 have u:n≤n*V:=Nat.le_mul_of_pos_right n d;refine⟨_,_,c,q,r,k,l,.inl ⟨_,rfl,?_⟩⟩;have:=aV.aZ (g:=c) h.length 0 rows.length rows.length _ m (by simp) (by simp) (by simp) (by omega);rw[o]at this ⊢;simpa using this
theorem Qd{z:List Value}{V:Nat}(f:z.length=V)(n:Nat):((Array.range (n*V)).map (z.toArray[· % z.toArray.size]!)).toList=(List.replicate n z).flatten:=by
 apply BN;intro a;rcases gG a (n*V)with d|d
 ·have m:0<V:=by
    rcases ot V with h|h
    ·subst h;simp at d
    ·exact h
  have k:a % V<V:=Nat.mod_lt _ m;have g:a / V<n:=Nat.div_lt_of_lt_mul (by rw[Nat.mul_comm];exact d);have l:a=a / V*V+a % V:=by rw[Nat.mul_comm];exact(Nat.div_add_mod a V).symm
  have p:∀(n b c:Nat),b<n→c<V→((List.replicate n z).flatten)[b*V+c]?=z[c]?:=by
   intro n
   induction n with
   |zero=>intro b c j;omega
   | succ n o =>
    intro b c j i;rw[BZ,kn];cases b with
    |zero=>rw[ou,eS,fg (by omega)]
    | succ b =>
     rw[gO (by rw[hg];omega),← o b c (by omega) i];congr 1;rw[hg];omega
  have e:=p n (a / V) (a % V) g k;rw[← l]at e;rw[e];simp[d,f,dG (show a % V<z.length by omega)]
 ·rw[qc (by simp;omega),qc];simp[f];omega
theorem Rv{z:List Value}{V:Nat}(a:z.length=V)(n:Nat):(Builtin.zeroCells z.toArray n).toList=(List.replicate n z).flatten:=by
 rw[← Qd a n];simp[Builtin.zeroCells,a]
theorem we{z:List Value}{ds:List D}(a:dP g z ds):∀n,dP g (List.replicate n z).flatten (List.replicate n ds).flatten
 |0=>by simpa using dP.nil
 | n+1=>by
  rw[BZ,BZ,kn,kn];exact a.append (we a n)
theorem TQ (s:eL P T) (hi:Inv g h) {t:TypeId} {x y:Operand} {p q d:D} {h':J} (z:aV g (ρ x) p) (A:aV g (ρ y) q) (f:pk T h t p q=some (d,h')):n8 P ρ ⟨dst,.makeSlice t x y,ty,pos,af,W⟩ g h' d:=by
 unfold pk at f;split at f
 ·rename_i au e b ad;have ah:ρ x = .int .i64 e:=by generalize i:ρ x=l at z;cases z;rfl
  have ai:ρ y = .int .i64 b:=by generalize i:ρ y=l at A;cases A;rfl
  split at f
  ·rename_i m ae;split at f
   ·rename_i o j;split at f
    ·rename_i I;obtain⟨G,ac,n,u⟩:=I;injection f with f;injection f with L M;subst L;subst M;simp only[eY,gJ]at n;have X:=fQ n.1;have ao:=fQ n.2;obtain⟨c,ax,a,aj,aw,ak,rfl,al,am,_⟩:=s.get j;obtain⟨B⟩:∃B,B=a.cells.toList:=⟨_,rfl⟩
     have v:=rW g a.cells.toList;have k:a.cells.toList.length=c.size:=by simpa using al
     have aq:IntKind.i64.wrap e=e:=wB (by omega) (by omega);have ar:IntKind.i64.wrap b=b:=wB (by omega) (by omega);have K:=Qd k b.toNat;simp only at u X;have ap:=we v b.toNat;have aa:((Array.range (b.toNat*c.size)).map (a.cells[· % a.cells.size]!)).size=b.toNat*c.size:=by simp
     have an:(List.replicate e.toNat (a.cells.toList.map nS)).flatten.length=e.toNat*c.size:=by simp[k]
     obtain⟨r,ag,N,Q,ab⟩:=tE hi (w':=g.w.alloc (.cells ((Array.range (b.toNat*c.size)).map (a.cells[· % a.cells.size]!)) m)) (U:=m) (V:=c.size) (cap:=b.toNat) (rows:=List.replicate e.toNat (a.cells.toList.map nS)) (cs:=(Array.range (b.toNat*c.size)).map (a.cells[· % a.cells.size]!)) (fr:=(0,0)) rfl rfl rfl rfl (.inl rfl) u (by simp;omega) (by rw[aa];exact bB _) (by simp[k])
      (ph (vs:=(List.replicate e.toNat a.cells.toList).flatten) (we v e.toNat) (λl i=>by
       obtain⟨av,R,i⟩:=uD.1 i;have:=(LA.1 R).2;subst this;exact am l i) (by simp[k]) (λo l j=>by
       have C:((Array.range (b.toNat*c.size)).map (a.cells[· % a.cells.size]!))[o]?=(((Array.range (b.toNat*c.size)).map (a.cells[· % a.cells.size]!)).toList)[o]?:=(Array.getElem?_toList ..).symm;rw[C];have E:((Array.range (b.toNat*c.size)).map (a.cells[· % a.cells.size]!)).toList=(List.replicate b.toNat a.cells.toList).flatten:=by
        have:=K;simpa using this
       rw[E];have F:List.replicate b.toNat a.cells.toList=List.replicate e.toNat a.cells.toList++List.replicate (b.toNat - e.toNat) a.cells.toList:=by
        rw[List.replicate_append_replicate];congr 1;omega
       rw[F,lp,fg (bR.1 j).1];exact j))
     refine⟨.value (.slice (some ⟨g.w.heap.size,0,none⟩) e.toNat b.toNat),_,r,?_,ag,N,Q,.inl ⟨_,rfl,?_⟩⟩
     ·have H:(c.bytes:Int)*b≤281474976710656:=by
        have:(c.bytes:Int)*b=((b.toNat*c.bytes:Nat):Int):=by
         rw[Nat.mul_comm]
         push_cast
         congr 1;omega
        rw[this];omega
      have:=run_make (P:=P) g.w t m c a (s.sl ad ae) aj ak .i64 .i64 e b G ac H (by omega);simp only[execOp,ah,ai,ir,this,iM,ka];rfl
     ·have:=aV.aZ (g:=r) h.length 0 e.toNat b.toNat _ ab (by simp) (by simp;omega) (by simp) (by omega);simpa using this
    ·cases f
   ·cases f
  ·cases f
 ·cases f
end wr
end Go.Pi
namespace Go.Eng
abbrev nn:=@List.map_take
abbrev zN:=@run_firstCells_some
abbrev BU:=@List.length_replicate
abbrev IC:=@Array.append_assoc
end Go.Eng
namespace Go.Pi
open Go.Eng
section ap
variable {P:Program} {T:dR} {g:Gh} {h:J}
structure xk (P:Program) (u e V:Nat) (y:Value) (w:World) (m:Nat) (news:List Value):Prop where
 len:news.length=m*V
 nz:∃d,P.underlying u=some d∧((d = .string∨(∃e',d = .slice e'))∧(∀w1,(Builtin.lenOf y).run P w1 = .ok m w1)∧(∀(k:Nat) (w1:World),k≤m→w1.heap=w.heap→(Builtin.firstCells V k y).run P w1 = .ok (news.take (k*V)).toArray w1)
  ∨ (∃k,d = .int k)∧y = .int .i64 (m:Int)∧(∃inf z,P.info? e=some inf∧inf.zero=some z∧m*inf.bytes≤281474976710656∧(m:Int)≤9223372036854775807∧(m*V≠0→Builtin.zeroCells z.cells m=news.toArray)))
theorem Hw{u e V m n cap:Nat}{t ty:TypeId}{y:Value}{w:World}{l:List Value}{ad:Addr}{a:TypeInfo}(i:P.underlying t=some (.slice e))(hi:P.info? e=some a)(x:a.size=V)(g:xk P u e V y w m l)(h:n+m≤cap):
  (Builtin.append_ #[t,u] ty #[.slice (some ad) n cap,y]).run P w=((storeCells (ad.add (n*V)) l).run P w).andThen λ_ w' =>.ok (.slice (some ad) (n+m) cap) w':=by
 subst x;obtain⟨A,j,s⟩:=g.nz;rcases s with⟨f,r,c⟩|⟨⟨G,f⟩,rfl,F,H,d,z,D,C,k⟩
 ·have c:=c _ w (bB _) rfl;rw[hN (by rw[g.len];exact bB _)]at c;rcases f with rfl|⟨B,rfl⟩<;>simp[Builtin.append_,eZ i,eZ j,sizeOf,typeInfo,hi,r,h,c]
 ·subst f;rw[hi]at d;injection d with d;subst d;have q:IntKind.i64.wrap (m:Int)=m:=wB (by omega) (by omega);have E:¬((m:Int)*(a.bytes:Int)>2 ^ 48):=by
   have:(m:Int)*(a.bytes:Int)=((m*a.bytes:Nat):Int):=by push_cast;rfl
   rw[this];omega
  have o:¬(281474976710656<(m:Int)*(a.bytes:Int)):=by omega
  have p:¬((m:Int)<0):=by omega
  by_cases b:m*a.size=0
  ·have v:l=[]:=hM (by rw[g.len];exact b);subst v;simp[Builtin.append_,eZ i,eZ j,sizeOf,typeInfo,hi,asInt,asIntOf,q,p,o,h,b,storeCells]
  ·have k:=k b;simp[Builtin.append_,eZ i,eZ j,sizeOf,typeInfo,hi,asInt,asIntOf,q,p,o,h,b,zeroValue,z,k]
theorem zM{u e V m n cap:Nat}{t ty:TypeId}{y:Value}{w:World}{olds x:List Value}{a:Option Addr}{b:TypeInfo}{z:Value}(r:P.underlying t=some (.slice e))(hi:P.info? e=some b)(h:b.zero=some z)(N:b.size=V)(o:xk P u e V y w m x)(M:cap<n+m)
  (K:∀A:World,A.heap=w.heap→(Builtin.firstCells V n (.slice a n cap)).run P A = .ok olds.toArray A) (T:n+m≤9223372036854775807) (G:(n+m)*b.bytes≤140737488355328) :
  ∃c,n+m≤c∧c≤9223372036854775807∧(Builtin.append_ #[t,u] ty #[.slice a n cap,y]).run P w = .ok (.slice (some ⟨w.heap.size,0,none⟩) (n+m) c) (w.drew.alloc (.cells (olds.toArray++x.toArray++Builtin.zeroCells z.cells (c - (n+m))) e)):=by
 subst N;obtain⟨Q,s,H⟩:=o.nz;have ab:=growslice_fits M G;have l:¬(281474976710656<Builtin.nextslicecap (n+m) cap*b.bytes):=by omega
 have j:¬(9223372036854775807<((n:Int)+(m:Int))):=by omega
 have q:¬(n+m≤cap):=by omega
 have C:n+m≤grownCap w (n+m) cap e∧grownCap w (n+m) cap e≤9223372036854775807:=by
  show n+m≤(n+m)+w.tape w.drawn (.appendCap (n+m) cap e) % (2 ^ 63 - (n+m))∧(n+m)+w.tape w.drawn (.appendCap (n+m) cap e) % (2 ^ 63 - (n+m))≤9223372036854775807;have L:0<2 ^ 63 - (n+m):=by omega
  have:=Nat.mod_lt (w.tape w.drawn (.appendCap (n+m) cap e)) L;generalize w.tape w.drawn (.appendCap (n+m) cap e) % (2 ^ 63 - (n+m))=ae at this;omega
 refine⟨grownCap w (n+m) cap e,C.1,C.2,?_⟩;have p:=K w.drew rfl;rcases H with⟨k,F,f⟩|⟨⟨ad,k⟩,rfl,ac,af,g,i,aa,X,v⟩
 ·have f:=f _ w.drew (bB _) rfl;rw[hN (by rw[o.len];exact bB _)]at f;rcases k with rfl|⟨R,rfl⟩<;>simp[Builtin.append_,eZ r,eZ s,sizeOf,typeInfo,zeroValue,hi,h,F,q,j,l,Question.forced,p,f,newRow,grownCap]<;>(rw[← IC];simp)
 ·subst k;rw[hi]at g;injection g with g;subst g;rw[h]at i;injection i with i;subst i;have E:IntKind.i64.wrap (m:Int)=m:=wB (by omega) (by omega);have B:¬(281474976710656<(m:Int)*(b.bytes:Int)):=by
   have:(m:Int)*(b.bytes:Int)=((m*b.bytes:Nat):Int):=by push_cast;rfl
   rw[this];omega
  have D:¬((m:Int)<0):=by omega
  by_cases d:m*b.size=0
  ·have I:x=[]:=hM (by rw[o.len];exact d);subst I;simp[Builtin.append_,eZ r,eZ s,sizeOf,typeInfo,zeroValue,hi,h,asInt,asIntOf,E,D,B,q,j,l,Question.forced,p,d,newRow,grownCap]
  ·have v:=v d;simp[Builtin.append_,eZ r,eZ s,sizeOf,typeInfo,zeroValue,hi,h,asInt,asIntOf,E,D,B,q,j,l,Question.forced,p,d,v,newRow,grownCap];rw[← IC];simp
theorem a2P{u e V n cap:Nat}{t ty:TypeId}{y:Value}{w:World}{h:List Value}{a:Option Addr}{l:TypeInfo}(g:P.underlying t=some (.slice e))(hi:P.info? e=some l)(i:l.size=V)(b:xk P u e V y w 0 h)(f:n≤cap):
  (Builtin.append_ #[t,u] ty #[.slice a n cap,y]).run P w = .ok (.slice a n cap) w:=by
 cases a with
 | some r =>
  rw[Hw g hi i b f];have:h=[]:=hM (by rw[b.len];simp);subst this;simp[storeCells]
 | none =>
  subst i;have p:h=[]:=hM (by rw[b.len];simp);subst p;obtain⟨s,j,o⟩:=b.nz;rcases o with⟨d,m,c⟩|⟨⟨E,d⟩,rfl,D,F,A,B,z,x,C⟩
  ·have c:=c _ w (bB _) rfl;rw[hN (by rw[b.len];exact bB _)]at c;rcases d with rfl|⟨v,rfl⟩<;>simp[Builtin.append_,eZ g,eZ j,sizeOf,typeInfo,hi,m,f,c]
  ·subst d;have k:IntKind.i64.wrap (((0:Nat):Int))=0:=wB (by omega) (by omega);simp only[Int.natCast_zero]at k;have q:IntKind.i64.wrap 0=0:=by simpa using k
   simp[Builtin.append_,eZ g,eZ j,sizeOf,typeInfo,hi,asInt,asIntOf,q,f]
theorem Mg(s:List UInt8):dP g (s.map λb=>Value.int .u8 b.toNat) (iU s).flatten:=by
 unfold iU
 induction s with
 |nil=>simpa using dP.nil
 |cons a d c=>simpa using dP.cons (.int .u8 a.toNat) c
theorem z5 (q:eL P T) (hi:Inv g h) {u e:Nat} {X j:TI} (C:T u=some X) (af:T e=some j) {y:Value} {K:D} (E:aV g y K) {ys:List (List D)} (a:ix h X j K=some ys) (Q:0<j.V) :
  ∃c,xk P u e j.V y g.w ys.length c∧dP g c ys.flatten∧(∀v∈c,v.oneCell'=true)∧(∀r∈ys,r.length=j.V):=by
 unfold ix at a;split at a
 ·rename_i l;split at a
  ·rename_i o aq;split at a
   ·rename_i B;injection a with a;subst a;have F:y = .string ⟨o.toArray⟩:=by cases E;rfl
    subst F;refine⟨o.map λd=>Value.int .u8 d.toNat,⟨by simp[iU,B],.string,q.str C l,.inl ⟨.inl rfl,λp=>by simp[Builtin.lenOf,iU,rV],λb p N _=>?_⟩⟩,Mg o,λv m=>?_,λr k=>?_⟩
    ·simp only[Builtin.firstCells];have:(ByteArray.mk o.toArray).extract 0 b=ByteArray.mk (o.take b).toArray:=by
      apply AB;simp
     simp[this,B,nn]
    ·obtain⟨d,_,rfl⟩:=g8.1 m;rfl
    ·obtain⟨d,_,rfl⟩:=g8.1 k;simp[B]
   ·cases a
  ·cases a
 ·rename_i L l;obtain⟨aa,ac,c,rfl,aj,A,ai,ad,M⟩:=Hu hi E a Q;refine⟨c,⟨A,.slice L,q.sl C l,.inl ⟨.inr ⟨L,rfl⟩,λp=>by simp[Builtin.lenOf],λb p N ak=>?_⟩⟩,ai,ad,aj⟩;cases aa with
  | none =>
   have z:ys=[]:=by
    rcases ys with _|⟨aw,ax⟩
    ·rfl
    ·obtain⟨d,H,f,_⟩:=M (by simp);cases f
   subst z;have:c=[]:=hM (by simpa using A);subst this;simp[Builtin.firstCells]
  | some ab =>
   refine zN p j.V b ab _ ac (c.take (b*j.V)) (by
    have:b*j.V≤ys.length*j.V:=jz _ N;simp;omega) λI v i=>?_
   rw[gw]at i;split at i
   case isFalse=>cases i
   have z:ys≠[]:=λf=>by
    subst f;have:c=[]:=hM (by simpa using A);subst this;cases i
   obtain⟨d,H,f,ae⟩:=M z;injection f with f;rw[f,km];have:=ae.1 I v i;have t:p.cell? ⟨d,H+I,none⟩=g.w.cell? ⟨d,H+I,none⟩:=LL (by rw[ak]);rw[t];exact this
 ·rename_i b l;split at a
  ·rename_i n;split at a
   ·rename_i t;obtain⟨ap,x⟩:=t;injection a with a;subst a;simp only[eY,gJ]at x;have ah:=fQ x.1;have ar:=fQ x.2;obtain⟨R,ay,s,al,av,am,rfl,an,ao,_⟩:=q.get af;simp only at Q ah;have G:s.cells.toList.length=R.size:=by simpa using an
    have k:=rW g s.cells.toList;have F:y = .int .i64 ((n.toNat:Nat):Int):=by
     have:((n.toNat:Nat):Int)=n:=by omega
     rw[this];cases E;rfl
    refine⟨(List.replicate n.toNat s.cells.toList).flatten,⟨by simp[G],.int b,q.int C l,.inr ⟨⟨b,rfl⟩,by simpa using F,R,s,al,am,by simp;omega,by simp;omega,λ_=>?_⟩⟩,we k _,λv m=>?_,λr k=>?_⟩
    ·have:=Rv G n.toNat;simp only[BU];rw[← this]
    ·obtain⟨au,ag,m⟩:=uD.1 m;have:=(LA.1 ag).2;subst this;exact ao v m
    ·have:=(LA.1 k).2;subst this;simpa using G
   ·cases a
  ·cases a
 ·cases a
end ap
end Go.Pi
namespace Go.Eng
abbrev xb:=@List.size_toArray
abbrev IE:=@Array.getElem?_append_left
end Go.Eng
namespace Go.Pi
open Go.Eng
section ap
variable {P:Program} {T:dR} {g:Gh} {h:J}
theorem Ol(hi:Inv g h){w':World}{o U V:Nat}{rows rows':List (List D)}{m:Me}{cs G:Array Value}{fr:Nat × Nat}(P:h[o]?=some (.row U V rows))(x:g.ms[o]?=some m)(K:Live g m U V rows cs)
  (f:lO g.w w' m.b (.cells G U fr)) (ar:Fr fr G.size V) (ay:G.size=cs.size) (au:rows'.length≤m.cap) (ax:∀r∈rows',r.length=V)
  (aq:∀(i:Nat) (row:List D),rows'[i]?=some row→∀(j:Nat) (d:D),row[j]?=some d→∃v,G[i*V+j]?=some v∧v.oneCell'=true∧aV g v d) :
  ∃g':Gh,g'.w=w'∧eA g g'∧Inv g' (aG (h.set o .dead) U V rows')∧g'.ms[h.length]?=some ⟨m.b,V,rows'.length,m.cap⟩:=by
 let g':Gh:=⟨w',g.ms++[⟨m.b,V,rows'.length,m.cap⟩],g.L⟩
 have H:eA g g':=⟨⟨f.os,f.tape,f.output,by show g.w.heap.size≤w'.heap.size;rw[f.size];exact bB _,(λa m x=>by
   show(g.ms++_)[a]?=some m;rw[fg (bR.1 x).1];exact x),λt k=>by
  have av:t≠m.b:=λA=>k.2 (A▸K.hL)
  exact⟨⟨by show t<w'.heap.size;rw[f.size];exact k.1,k.2⟩,f.other t av⟩⟩,λt k=>⟨⟨by show t<w'.heap.size;rw[f.size];exact k.1,k.2.1,λa c E=>by
   have y:(g.ms++[(⟨m.b,V,rows'.length,m.cap⟩:Me)])[a]?=some c:=E;rcases gG a g.ms.length with e|T
   ·rw[fg e]at y;exact k.2.2 a c y
   ·rw[gO T]at y;have:=eW y;simp at this;subst this;exact k.2.2 o m x⟩,f.other t λA=>k.2.2 o m x A.symm⟩⟩
 have aw:=(bR.1 P).1;have X:(h.set o .dead).length=h.length:=by simp
 have M:g'.ms[h.length]?=some ⟨m.b,V,rows'.length,m.cap⟩:=by
  show(g.ms++_)[h.length]?=_;rw[← hi.len];simp
 have I:∀(a l s:Nat) (q:List (List D)),(aG (h.set o .dead) U V rows')[a]?=some (.row l s q)→(a=h.length∧l=U∧s=V∧q=rows')∨(a<h.length∧a≠o∧h[a]?=some (.row l s q)):=λa l s q b=>by
  unfold aG at b;rcases sA a h.length with e|heq|a2
  ·rw[fg (by rw[X];exact e)]at b;by_cases B:a=o
   ·subst B;rw[q2 aw]at b;injection b with b;cases b
   ·rw[kZ (λA=>B A.symm)]at b;exact .inr ⟨e,B,b⟩
  ·subst heq;rw[gO (by rw[X];exact bB _),X]at b;simp at b;obtain⟨rfl,rfl,rfl⟩:=b;exact .inl ⟨rfl,rfl,rfl,rfl⟩
  ·exfalso;have:=(bR.1 b).1;simp at this;omega
 have N:∀a c,g'.ms[a]?=some c→a<h.length→g.ms[a]?=some c:=λa c E e=>by
  have:(g.ms++[(⟨m.b,V,rows'.length,m.cap⟩:Me)])[a]?=some c:=E
  rwa [fg (by rw[hi.len];exact e)]at this
 refine⟨g',rfl,H,⟨?_,λa l s q b=>?_,λa F l s ad ai q ah c Q ao C n p z=>?_,λt k=>?_,λa ac b=>?_⟩,M⟩
 ·show(g.ms++[_]).length=(h.set o .dead++[_]).length;simp[hi.len]
 ·rcases I a _ _ _ b with⟨rfl,rfl,rfl,rfl⟩|⟨e,B,b⟩
  ·refine⟨_,G,M,⟨fr,f.iv,ar⟩,rfl,K.pos,K.hL,rfl,au,by rw[ay];exact K.room,ax,λi row C j d n=>?_⟩;obtain⟨v,p,z,R⟩:=aq i row C j d n;exact⟨v,p,z,R.ext H⟩
  ·obtain⟨c,aj,E,u⟩:=hi.live a l s q b;have ap:c.b≠m.b:=λA=>B (hi.inj a o l s U V q rows c m b P E x A)
   refine⟨c,aj,H.ms _ _ E,?_,u.kt,u.pos,u.hL,u.len,u.le,u.room,u.row,λi row C j d n=>?_⟩
   ·have:=f.other c.b ap;show ∃fr,w'.heap[c.b]?=_∧_;rw[this];exact u.iv
   ·obtain⟨v,p,z,R⟩:=u.cell i row C j d n;exact⟨v,p,z,R.ext H⟩
 ·rcases I a _ _ _ ao with⟨ak,az,a0,a1⟩|⟨e,B,ag⟩
  ·rcases I F _ _ _ C with⟨ae,al,am,an⟩|⟨aa,af,ab⟩
   ·omega
   ·exfalso;rw[ak,M]at n;injection n with n;subst n;exact af (hi.inj F o ad ai U V ah rows Q m ab P (N F Q p aa) x z.symm)
  ·rcases I F _ _ _ C with⟨ae,al,am,an⟩|⟨aa,af,ab⟩
   ·exfalso;rw[ae,M]at p;injection p with p;subst p;exact B (hi.inj a o l s U V q rows c m ag P (N a c n e) x z)
   ·exact hi.inj a F l s ad ai q ah c Q ag ab (N a c n e) (N F Q p aa) z
 ·show t<w'.heap.size;rw[f.size];exact hi.L t k
 ·show ac.b<w'.heap.size;rw[f.size];have y:(g.ms++[(⟨m.b,V,rows'.length,m.cap⟩:Me)])[a]?=some ac:=b;rcases gG a g.ms.length with e|T
  ·rw[fg e]at y;exact hi.msb a ac y
  ·rw[gO T]at y;have:=eW y;simp at this;subst this;exact hi.msb o m x
theorem u3{rows ys:List (List D)}{V:Nat}(b:∀r∈rows,r.length=V)(h2:∀r∈ys,r.length=V):∀r∈rows++ys,r.length=V:=λr a=>by
 rcases fp.1 a with a|a
 ·exact b r a
 ·exact h2 r a
theorem yV(o:eL P T)(hi:Inv g h){e:Nat}{j:TI}(b:T e=some j){a:TypeInfo}{z:Value}(t:P.info? e=some a)(B:a.zero=some z)(k:0<j.V){rows:List (List D)}{vs:List Value}(l:dP g vs rows.flatten)(n:∀v∈vs,v.oneCell'=true)(d:∀r∈rows,r.length=j.V)
  {c:Nat} (p:rows.length≤c) (g4:c≤9223372036854775807):∃g':Gh,g'.w=g.w.drew.alloc (.cells (vs.toArray++Builtin.zeroCells z.cells (c - rows.length)) e)∧eA g g'∧Inv g' (aG h e j.V rows)∧aV g' (.slice (some ⟨g.w.heap.size,0,none⟩) rows.length c) (.aZ j.V h.length 0 rows.length):=by
 obtain⟨G,K,L,f,H,i,rfl,m,I,_⟩:=o.get b;rw[t]at f;injection f with f;subst f;rw[B]at i;injection i with i;subst i;have F:z.cells.toList.length=a.size:=by simpa using m
 simp only at k d;have y:=l.length;have s:=lC rows d;have C:(Builtin.zeroCells z.cells (c - rows.length)).size=(c - rows.length)*a.size:=by simp[Builtin.zeroCells,m]
 have E:(vs.toArray++Builtin.zeroCells z.cells (c - rows.length)).size=c*a.size:=by
  rw[Array.size_append,C];simp only[xb];rw[y,s,← hg];congr 1;omega
 obtain⟨g',A,q,u,x⟩:=tE hi (w':=g.w.drew.alloc (.cells (vs.toArray++Builtin.zeroCells z.cells (c - rows.length)) e)) (U:=e) (V:=a.size) (cap:=c) (rows:=rows) (cs:=vs.toArray++Builtin.zeroCells z.cells (c - rows.length)) (fr:=(0,0)) rfl rfl rfl rfl (.inl rfl) k p (by omega) d
  (ph l n d (λj v b=>by
   rw[IE (by simpa using(bR.1 b).1)];simpa using b))
 refine⟨g',A,q,u,?_⟩;have:=aV.aZ (g:=g') h.length 0 rows.length c _ x (by simp) (by simp;omega) (by simp) g4;simpa using this
variable {ρ:Operand→Value} {dst:Option Tmp} {ty:TypeId} {pos:String} {af:Array Edge} {W:Option (Nat × Bool)}
theorem LY (Q:eL P T) (hi:Inv g h) {t u:Nat} {y bc:Value} {be bf d:D} {h':J} (B:aV g y be) (bt:aV g bc bf) (e:dB T h t u be bf=some (d,h')) :
  ∃v w' g',(Builtin.append_ #[t,u] ty #[y,bc]).run P g.w = .ok v w'∧g'.w=w'∧eA g g'∧Inv g' h'∧aV g' v d:=by
 unfold dB at e;split at e
 ·rename_i i cr cd bq;split at e
  ·rename_i ch ce;have aj:=Q.sl cd ce;split at e
   ·rename_i j ae;obtain⟨bu,cz,z,F,ct,al,bk,cu,cw,_⟩:=Q.get ae;have ai:bu.size=j.V:=by rw[bk]
    have a4:bu.bytes=j.gf:=by rw[bk]
    split at e
    ·rename_i a3 a9;have X:0<j.V:=fQ a3;obtain⟨ab,M,_⟩:=z5 Q hi bq ae bt a9 X;have bd:∀(a:Option Addr) (n cap:Nat),y = .slice a n cap→n≤cap→(Builtin.append_ #[t,u] ty #[y,bc]).run P g.w = .ok y g.w:=λa n cap f ax=>by
      subst f;exact a2P aj F ai M ax
     split at e
     ·injection e with e;injection e with o q;subst o;subst q;have f:y = .slice none 0 0:=by cases B;rfl
      exact⟨y,g.w,g,bd none 0 0 f (bB _),rfl,eA.refl g,hi,B⟩
     ·injection e with e;injection e with o q;subst o;subst q;have:∃a n cap,y = .slice a n cap∧n≤cap:=by
       cases B;rename_i ad n cap _ ax _ _ _ _ _ _ _ _ _;exact⟨_,_,_,rfl,by assumption⟩
      obtain⟨a,n,cap,f,ax⟩:=this;exact⟨y,g.w,g,bd a n cap f ax,rfl,eA.refl g,hi,B⟩
     ·injection e with e;injection e with o q;subst o;subst q;obtain⟨l,cap,f,_,_,b9,bm,_⟩:=B.mv;exact⟨y,g.w,g,bd _ _ cap f (by omega),rfl,eA.refl g,hi,B⟩
     ·cases e
    ·rename_i k ca a3 a9;have X:0<j.V:=fQ a3;obtain⟨ab,M,ag,U,aa⟩:=z5 Q hi bq ae bt a9 X;have cp:0<k.length:=by
      rcases k with _|⟨c0,c1⟩
      ·exact(ca rfl).elim
      ·simp
     have cm:=M.len;split at e
     ·
      split at e
      ·rename_i r;injection e with e;injection e with o q;subst o;subst q;simp only[eY,gJ]at r;have am:=fQ r.1;have bl:=fQ r.2;have f:y = .slice none 0 0:=by cases B;rfl
       subst f;obtain⟨c,jg,g4,A⟩:=zM (P:=P) (n:=0) (cap:=0) (a:=none) (olds:=[]) (ty:=ty) (z:=z) aj F al ai M (by omega) (λG _=>by simp[Builtin.firstCells]) (by omega) (by rw[a4];simpa using am);simp only[eS]at A jg;obtain⟨g',x,C,E,L⟩:=yV Q hi ae F al X ag U aa jg g4;exact⟨_,_,g',by simpa using A,by rw[x],C,E,L⟩
      ·cases e
     ·
      rename_i V rows;split at e
      ·rename_i a5;obtain⟨rfl,r⟩:=a5;injection e with e;injection e with o q;subst o;subst q;simp only[eY,gJ]at r;have am:=fQ r.1;have bl:=fQ r.2;obtain⟨a,cap,olds,f,cc,ah,ap,az,bg⟩:=Hu (V:=j.V) (rows:=rows) hi B (by simp[gA]) X;have ar:cap=rows.length:=by
        obtain⟨cf,cg,br,b0⟩:=B.tU;rw[f]at br;injection br with ci cj bv;rw[bv];exact b0 rfl
       subst f;obtain ⟨c,jg,g4,A⟩:=zM (P:=P) (n:=rows.length) (cap:=cap) (a:=a) (olds:=olds) (ty:=ty) (z:=z) aj F al ai M (by omega) (λG ak=>by
        cases a with
        | none =>
         have a8:rows=[]:=by
          rcases rows with _|⟨cx,cy⟩
          ·rfl
          ·obtain⟨b,ac,R,_⟩:=bg (by simp);cases R
         subst a8;have:olds=[]:=hM (by simpa using ah);subst this;simp[Builtin.firstCells]
        | some ad =>
         refine zN G j.V rows.length ad _ cap olds ah λN v s=>?_
         have a8:rows≠[]:=λR=>by
          subst R;have:olds=[]:=hM (by simpa using ah);subst this;cases s
         obtain⟨b,ac,R,bw⟩:=bg a8;injection R with R;rw[R,km];have:=bw.1 N v s;have bx:G.cell? ⟨b,ac+N,none⟩=g.w.cell? ⟨b,ac+N,none⟩:=LL (by rw[ak]);rw[bx];exact this) (by omega) (by rw[a4];exact am)
       have I:=ap.append ag;rw[← lp]at I;have af:(rows++k).length=rows.length+k.length:=by simp
       obtain⟨g',x,C,E,L⟩:=yV (c:=c) Q hi ae F al X I (λv f=>by
        rcases fp.1 f with f|f
        ·exact az v f
        ·exact U v f) (u3 cc aa) (by omega) g4
       rw[af]at x L;exact⟨_,_,g',A,by rw[x];simp,C,E,L⟩
      ·cases e
     ·
      rename_i V ac n;split at e
      ·rename_i a1 c2 rows ay;split at e
       ·rename_i a5;obtain⟨rfl,rfl,rfl,cn,r⟩:=a5;simp only[eY,gJ]at r;have am:=fQ r.1;have bl:=fQ r.2;obtain⟨l,cap,f,b8,an,b9,bm,b2,bh⟩:=B.mv;obtain⟨cs,H,av,m⟩:=hi.live ac a1 j.V rows ay;rw[an]at av;injection av with av;subst av;subst f;obtain⟨fr,a2,au⟩:=m.iv;obtain⟨a0,ap,az,bn⟩:=m.flat;have ah:=ap.length;have a7:=lC rows m.row;have bj:=lC k aa;have cl:=m.len;have co:=m.room;have cq:=ag.length;split at e
        ·
         rename_i ao;injection e with e;injection e with o q;subst o;subst q;by_cases ar:n+k.length≤cap
         ·
          have A:=Hw (P:=P) (ty:=ty) (ad:=⟨l.b,0*l.V,none⟩) aj F ai M ar;have a6:n*j.V+ab.length≤H.size:=by
           have:(n+k.length)*j.V≤l.cap*j.V:=jz _ (by omega);rw[hg]at this;omega
          obtain⟨w',ba,aq⟩:=qP (P:=P) (i:=n*j.V) ab g.w H.toList 0 (T:=a1) (fr:=fr) (b:=l.b) (by simpa using a2) (by simpa using au.ue) (by simpa using a6) U;simp only[ns]at aq;have bo:(H.toList.take (n*j.V)++ab++H.toList.drop (n*j.V+ab.length)).toArray.size=H.size:=by
           simp;omega
          have I:=ap.append ag;rw[← lp]at I;have cb:a0.length=n*j.V:=by rw[ah,a7,ao]
          obtain⟨g',x,C,E,aw⟩:=Ol (rows':=rows++k) hi ay an m aq (by rw[bo];exact au) bo (by simp;omega) (u3 m.row aa)
           (ph I (λv f=>by
            rcases fp.1 f with f|f
            ·exact az v f
            ·exact U v f) (u3 m.row aa) (λN v s=>by
            rw[gF];rw[BR];rcases gG N (n*j.V)with b7|b1
            ·rw[fg (by omega)]at s;rw[fg (by simp;omega),gw,bO b7];have:=bn N v s;simpa using this
            ·rw[gO (by omega)]at s;have bp:(H.toList.take (n*j.V)).length=n*j.V:=by simp;omega
             rw[gO (by rw[bp];exact b1),bp];rw[cb]at s;rw[fg (bR.1 s).1];exact s))
          refine⟨.slice (some ⟨l.b,0*l.V,none⟩) (n+k.length) cap,w',g',?_,x,C,E,?_⟩
          ·rw[A];simp only[ou,km,eS,ba,iM]
          ·have af:(rows++k).length=n+k.length:=by simp[ao]
           rw[af]at aw;have:=aV.aZ (g:=g') h.length 0 (n+k.length) cap _ aw (by simp) (by simp;omega) (by simp;omega) bh;simpa using this
         ·
          have bz:∀G:World,G.heap=g.w.heap→(Builtin.firstCells j.V n (.slice (some ⟨l.b,0*l.V,none⟩) n cap)).run P G = .ok a0.toArray G:=λG ak=>by
           refine zN G j.V n _ _ cap a0 (by rw[ah,a7,ao]) λN v s=>?_
           rw[ou,km,eS];have:=bn N v s;simp only[World.cell?,ak,a2];simpa using this
          obtain⟨c,jg,g4,A⟩:=zM (P:=P) (n:=n) (cap:=cap) (olds:=a0) (ty:=ty) (z:=z) aj F al ai M (by omega) bz (by omega) (by rw[a4];exact am);obtain⟨ck,ak,bi,b5,_,_,_⟩:=GJ hi ay an;have I:=(ap.append ag).ext bi;rw[← lp]at I;have af:(rows++k).length=n+k.length:=by simp[ao]
          obtain⟨g',x,C,E,L⟩:=yV (c:=c) Q b5 ae F al X I (λv f=>by
           rcases fp.1 f with f|f
           ·exact az v f
           ·exact U v f) (u3 m.row aa) (by omega) g4
          rw[af,ak]at x;rw[af,ak]at L;have b6:(h.set ac .dead).length=h.length:=by simp
          rw[b6]at L;exact⟨_,_,g',A,by rw[x];simp,bi.trans C,E,L⟩
        ·split at e
         ·
          rename_i ao b3;injection e with e;injection e with o q;subst o;subst q;have ar:n+k.length≤cap:=by omega
          have A:=Hw (P:=P) (ty:=ty) (ad:=⟨l.b,0*l.V,none⟩) aj F ai M ar;have b4:n*j.V+k.length*j.V≤rows.length*j.V:=by
           rw[← hg];exact jz _ b3
          have a6:n*j.V+ab.length≤H.size:=by
           have:rows.length*j.V≤l.cap*j.V:=jz _ (by have:=m.le;omega);omega
          obtain⟨w',ba,aq⟩:=qP (P:=P) (i:=n*j.V) ab g.w H.toList 0 (T:=a1) (fr:=fr) (b:=l.b) (by simpa using a2) (by simpa using au.ue) (by simpa using a6) U;simp only[ns]at aq;obtain⟨g',x,C,E,aw⟩:=zW (rows':=rows.take n++k++rows.drop (n+k.length)) hi ay an m au ag U (p:=n*j.V) (by rw[a7,bj];exact b4) (by
           unfold dZ;rw[lp,lp,js rows n m.row,u2 rows _ m.row,bj,hg]) (by simp;omega) (λbb K=>by
            simp only[fp]at K;rcases K with(K|K)|K
            ·exact m.row bb (fG K)
            ·exact aa bb K
            ·exact m.row bb (fM K)) aq
          refine⟨.slice (some ⟨l.b,0*l.V,none⟩) (n+k.length) cap,w',g',?_,x,C,E,?_⟩
          ·rw[A];simp only[ou,km,eS,ba,iM]
          ·rw[← b8];exact aV.aZ (g:=g') ac 0 (n+k.length) cap l (by rw[aw];exact an) (by omega) bm b2 bh
         ·cases e
       ·cases e
      ·cases e
     ·cases e
    ·cases e
   ·cases e
  ·cases e
 ·cases e
end ap
end Go.Pi
namespace Go.Eng
abbrev cM:=@decide_true
abbrev il:=@List.drop_zero
abbrev iG:=@Ne.symm
abbrev jq:=@and_self
abbrev qT:=@true_and
abbrev xe:=@List.take_take
end Go.Eng
namespace Go.Pi
open Go.Eng
section wr
variable {P:Program} {T:dR} {g:Gh} {h:J} {ty:TypeId}
theorem xC (r:eL P T) (hi:Inv g h) {t u:Nat} {I A:Value} {M N d:D} {h':J} (aj:aV g I M) (a9:aV g A N) (c:mP T h t u M N=some (d,h')) :
  ∃v w' g',(Builtin.copy_ #[t,u] ty #[I,A]).run P g.w = .ok v w'∧g'.w=w'∧eA g g'∧Inv g' h'∧aV g' v d:=by
 unfold mP at c;split at c
 ·rename_i i br a5 ai;split at c
  ·rename_i bf a7 a0;have af:=r.sl a5 a7;split at c
   ·rename_i f F;split at c
    ·rename_i a ap a3;have a2:0<f.V:=fQ ap;obtain⟨z,ag,a1,ab,ak⟩:=z5 r hi ai F a9 a3 a2;obtain⟨be,x,au⟩:=ag.nz;have ax:(∀q,(Builtin.lenOf A).run P q = .ok a.length q)∧(∀(y:Nat) (q:World),y≤a.length→q.heap=g.w.heap→(Builtin.firstCells f.V y A).run P q = .ok (z.take (y*f.V)).toArray q):=by
      rcases au with⟨_,n,an⟩|⟨⟨y,rfl⟩,_⟩
      ·exact⟨n,an⟩
      ·exfalso;obtain⟨bq,bx,bc,bu,bb,bv,rfl,_⟩:=r.get ai;rw[bb]at x;injection x with x;subst x;simp[rR,lh]at a0
     obtain⟨X,R⟩:=ax;have bn:=ag.len;split at c
     ·injection c with c;injection c with B C;subst B;subst C;have m:I = .slice none 0 0:=by cases aj;rfl
      subst m;have E:=R 0 g.w (mI _) rfl;have G:Nat.min a.length 0=0:=by simp
      exact⟨.int .i64 0,g.w,g,by simp[Builtin.copy_,eZ af,r.size F,X,G,E,goInt],rfl,eA.refl g,hi,.int _ _⟩
     ·rename_i bw ba o e;split at c
      ·rename_i K bc k ac;split at c
       ·rename_i ar;obtain⟨rfl,rfl⟩:=ar;injection c with c;injection c with B C;subst B;subst C;obtain⟨am,bd,m,az,aa,bm,bk,bi,bg⟩:=aj.mv;obtain⟨bt,L,s,j⟩:=hi.live ba K f.V k ac;rw[aa]at s;injection s with s;subst s;subst m;obtain⟨fr,ao,U⟩:=j.iv;have aw:=lC k j.row;have bo:=j.room;have bj:=j.len;have Q:min a.length e≤a.length:=Nat.min_le_left _ _;have E:=R (min a.length e) g.w Q rfl;have ah:(z.take (min a.length e*f.V)).length=min a.length e*f.V:=by
         have:min a.length e*f.V≤a.length*f.V:=jz _ Q;simp;omega
        have aq:o*f.V+min a.length e*f.V≤k.length*f.V:=by
         rw[← hg];exact jz _ (by omega)
        have bh:k.length*f.V≤L.size:=by
         have:k.length*f.V≤am.cap*f.V:=jz _ (by have:=j.le;omega);omega
        obtain⟨w',a4,ae⟩:=qP (P:=P) (i:=o*f.V) (z.take (min a.length e*f.V)) g.w L.toList 0 (T:=K) (fr:=fr) (b:=am.b) (by simpa using ao) (by simpa using U.ue) (by rw[ah];simp;omega) (λv m=>ab v (fG m));simp only[ns]at ae;have a6:a.take e=a.take (min a.length e):=by
         rcases Nat.le_total a.length e with n|n
         ·rw[xf n,hN n,hN (bB _)]
         ·rw[Nat.min_eq_right n]
        have ad:dP g (z.take (min a.length e*f.V)) (a.take e).flatten:=by
         rw[a6,js a _ ak];exact a1.take _
        have al:(a.take e).flatten.length=min a.length e*f.V:=by
         rw[← ad.length];exact ah
        have bp:(a.take e).length=min a.length e:=by simp;omega
        obtain⟨g',a8,av,ay,bl⟩:=zW (rows':=k.take o++a.take e++k.drop (o+min a.length e)) hi ac aa j U ad (λv m=>ab v (fG m)) (p:=o*f.V) (by rw[aw,al];exact aq) (by
         unfold dZ;rw[lp,lp,js k o j.row,u2 k _ j.row,al,hg]) (by simp;omega) (λH l=>by
          simp only[fp]at l;rcases l with(l|l)|l
          ·exact j.row H (fG l)
          ·exact ak H (fG l)
          ·exact j.row H (fM l)) ae
        refine⟨.int .i64 ((min a.length e:Nat):Int),w',g',?_,a8,av,ay,.int _ _⟩;have G:Nat.min a.length e=min a.length e:=rfl;rw[az];simp only[Builtin.copy_,ir];simp[eZ af,r.size F,X,G,E,a4,goInt]
       ·cases c
      ·cases c
     ·cases c
    ·cases c
   ·cases c
  ·cases c
 ·cases c
theorem SU(K:eL P T)(hi:Inv g h){t:Nat}{af:Value}{H d:D}{h':J}(q:aV g af H)(a:CG T h t H=some (d,h')):
  ∃v w' g',(Builtin.clear_ #[t] ty #[af]).run P g.w = .ok v w'∧g'.w=w'∧eA g g'∧Inv g' h'∧aV g' v d:=by
 unfold CG at a;split at a
 case h_2=>cases a
 rename_i i av;split at a
 case h_2=>cases a
 rename_i a2 aw;have R:=K.sl av aw;split at a
 case h_2=>cases a
 rename_i c ap;have done:∀(x:Value),(x = .slice none 0 0∨∃E F,x = .slice (some E) 0 F)→∃v w' g',(Builtin.clear_ #[t] ty #[x]).run P g.w = .ok v w'∧g'.w=w'∧eA g g'∧Inv g' h∧aV g' v (.bD []):=λx q=>by
  refine⟨.tuple #[],g.w,g,?_,rfl,eA.refl g,hi,aV.bD [] [] rfl (by simp)⟩;rcases q with rfl|⟨E,F,rfl⟩<;>simp[Builtin.clear_,eZ R]
 split at a
 ·injection a with a;injection a with l m;subst l;subst m;exact done _ (.inl (by cases q;rfl))
 ·injection a with a;injection a with l m;subst l;subst m;obtain⟨ag,s,n,_⟩:=q.tU;exact done _ (.inr ⟨ag,s,by simpa using n⟩)
 ·injection a with a;injection a with l m;subst l;subst m;obtain⟨B,s,n,_⟩:=q.mv;exact done _ (.inr ⟨_,s,n⟩)
 ·rename_i bf a1 r e ar aj;have bb:0<c.V:=fQ aj;split at a
  case h_2=>cases a
  rename_i C bg j N;split at a
  case isFalse=>cases a
  rename_i al;obtain⟨rfl,rfl⟩:=al;injection a with a;injection a with l m;subst l;subst m;obtain⟨B,s,n,aq,M,a9,a7,a5,a3⟩:=q.mv;obtain⟨be,G,u,f⟩:=hi.live a1 C c.V j N;rw[M]at u;injection u with u;subst u;subst n;obtain⟨fr,ai,L⟩:=f.iv;have an:=lC j f.row;have bc:=f.room;have a6:=f.len;obtain⟨o,ay,ad,a0,az⟩:=K.qY ap;have z:o.cells.toList.length=c.V:=by simpa using a0
  have ac:dP g (List.replicate e o.cells.toList).flatten (List.replicate e c.zero).flatten:=by
   rw[ad];exact we (rW g _) e
  have U:∀v∈(List.replicate e o.cells.toList).flatten,v.oneCell'=true:=λv n=>by
   obtain⟨bd,ah,I⟩:=uD.1 n;rw[List.eq_of_mem_replicate ah]at I;exact az v I
  have aa:(List.replicate e o.cells.toList).flatten.length=e*c.V:=by simp[z]
  have ab:(List.replicate e c.zero).flatten.length=e*c.V:=by rw[← ac.length];exact aa
  have ak:r*c.V+e*c.V≤j.length*c.V:=by
   rw[← hg];exact jz _ (by omega)
  have a4:j.length*c.V≤G.size:=by
   have:j.length*c.V≤B.cap*c.V:=jz _ (by have:=f.le;omega);omega
  obtain⟨w',au,Q⟩:=qP (P:=P) (i:=r*c.V) (List.replicate e o.cells.toList).flatten g.w G.toList 0 (T:=C) (fr:=fr) (b:=B.b) (by simpa using ai) (by simpa using L.ue) (by rw[aa];simp;omega) U;simp only[ns]at Q;obtain⟨g',ax,am,ao,a8⟩:=zW (rows':=j.take r++List.replicate e c.zero++j.drop (r+e)) hi N M f L ac U (p:=r*c.V) (by rw[an,ab];exact ak) (by
   unfold dZ;rw[lp,lp,js j r f.row,u2 j _ f.row,ab,hg]) (by simp;omega) (λae k=>by
    simp only[fp]at k;rcases k with(k|k)|k
    ·exact f.row ae (fG k)
    ·rw[List.eq_of_mem_replicate k,ad,fN];exact z
    ·exact f.row ae (fM k)) Q
  refine⟨.tuple #[],w',g',?_,ax,am,ao,aV.bD [] [] rfl (by simp)⟩;have ba:e≠0:=ar;obtain⟨A,rfl⟩:∃A,e=A+1:=⟨e - 1,by omega⟩
  have X:=Rv z (A+1);rw[show o.cells.toList.toArray=o.cells by simp]at X;rw[aq];simp only[Builtin.clear_,ir];simp[eZ R,ay,X,au]
 ·cases a
variable {ρ:Operand→Value} {dst:Option Tmp} {pos:String} {af:Array Edge} {W:Option (Nat × Bool)}
theorem TZ(n:eL P T)(hi:Inv g h){s t e:Nat}{x:Operand}{l:List UInt8}(y:aV g (ρ x) (.str l)){i j k:TI}(L:T s=some i)(N:i.td = .str)(M:T t=some j)(Q:j.td = .sl e)(F:T e=some k)(G:k.td = .int .u8)(o:eY l.length 1=true):
  n8 P ρ ⟨dst,.convert s t x,ty,pos,af,W⟩ g (aG h e 1 (iU l)) (.aZ 1 h.length 0 l.length):=by
 simp only[eY,gJ]at o;have ae:=fQ o.1;have ag:=fQ o.2;have f:ρ x = .string ⟨l.toArray⟩:=by generalize f:ρ x=A at y;cases y;rfl
 have R:=n.str L N;have X:=n.sl M Q;have aa:=n.int F G;have d:=run_bytes_of_string (P:=P) g.w s t e ⟨l.toArray⟩ R X aa;rw[rV]at d;obtain⟨a,q⟩:∃a,a=grownCap g.w l.length 0 e:=⟨_,rfl⟩
 rw[← q]at d;have C:l.length≤a∧a≤9223372036854775807:=by
  subst q;show l.length≤l.length+g.w.tape g.w.drawn (.appendCap l.length 0 e) % (2 ^ 63 - l.length)∧l.length+g.w.tape g.w.drawn (.appendCap l.length 0 e) % (2 ^ 63 - l.length)≤9223372036854775807;have I:0<2 ^ 63 - l.length:=by omega
  have:=Nat.mod_lt (g.w.tape g.w.drawn (.appendCap l.length 0 e)) I;generalize g.w.tape g.w.drawn (.appendCap l.length 0 e) % (2 ^ 63 - l.length)=ac at this;omega
 have B:bytesRow ⟨l.toArray⟩ a=(l.map λc=>Value.int .u8 c.toNat).toArray++Array.replicate (a - l.length) (.int .u8 0):=by
  simp[bytesRow,rV]
 rw[B]at d;have H:(iU l).length=l.length:=by simp[iU]
 have v:∀z∈iU l,z.length=1:=λz K=>by
  obtain⟨c,_,rfl⟩:=g8.1 K;rfl
 obtain⟨b,m⟩:∃b:Array Value,b=(l.map λc:UInt8=>Value.int .u8 c.toNat).toArray++Array.replicate (a - l.length) (Value.int .u8 0):=⟨_,rfl⟩
 rw[← m]at d;have ad:b.size=a:=by rw[m];simp;omega
 obtain⟨p,ab,D,E,r⟩:=tE hi (w':=g.w.drew.alloc (.cells b e (b.size,b.size+1))) (U:=e) (V:=1) (cap:=a) (rows:=iU l) rfl rfl rfl rfl (.inr ⟨bB _,rfl⟩) (by decide) (by omega) (by omega) v
  (ph (Mg l) (λA f=>by
   obtain⟨c,_,rfl⟩:=g8.1 f;rfl) v (λac A u=>by
   rw[m,IE (by simpa using(bR.1 u).1)];simpa using u))
 rw[H]at r;refine⟨.value (.slice (some ⟨g.w.heap.size,0,none⟩) l.length a),_,p,?_,ab,D,E,.inl ⟨_,rfl,?_⟩⟩
 ·simp only[execOp,ir,f,d,iM,ka]
 ·have:=aV.aZ (g:=p) h.length 0 l.length a _ r (by simp) (by simp;omega) (by simp) C.2;simpa using this
theorem TS (u:eL P T) (hi:Inv g h) {s t:Nat} {x:Operand} {r:D} (C:aV g (ρ x) r) {d:D} {h':J} (c:CI T h s t r=some (d,h')) :
  n8 P ρ ⟨dst,.convert s t x,ty,pos,af,W⟩ g h' d:=by
 unfold CI at c;split at c
 ·rename_i az ai;split at c
  ·rename_i ap i a2 a1 aj;split at c
   ·rename_i E j F q m;split at c
    ·rename_i ab;split at c
     ·rename_i ah;injection c with c;injection c with Q R;subst Q;subst R;subst ah;obtain⟨e,ao,B,ax,z,ay,av,au,aq⟩:=C.mv;obtain⟨a0,a,l,k⟩:=hi.live i j 1 F m;rw[z]at l;injection l with l;subst l;obtain⟨I,o,U⟩:=k.iv;have N:=(o3.1 o).1;have ak:=u.sl ai aj;have al:=u.int q ab;obtain ⟨n,X,ae⟩:∃n,Fr n a.size 1∧lO g.w (g.w.freeze ⟨e.b,a.size,none⟩ 1) e.b (.cells a j n):=by
       obtain⟨f,hi⟩:=I;refine⟨if f==hi then(a.size,a.size+1)else(min f a.size,max hi (a.size+1)),?_,?_⟩
       ·split
        ·exact .inr ⟨bB _,rfl⟩
        ·rename_i ac;rcases U with p|⟨p,_⟩
         ·injection p with L M;subst L;subst M;simp at ac
         ·exact .inr ⟨by show a.size≤min f a.size;simp at p;omega,rfl⟩
       ·have aa:g.w.freeze ⟨e.b,a.size,none⟩ 1={ g.w with heap:=g.w.heap.modify e.b fun
            |.cells G H (f,hi) =>.cells G H (if f==hi then(a.size,a.size+1)else(min f a.size,max hi (a.size+1)))
            |i=>i }:=rfl
        rw[aa];refine⟨?_,λE q=>?_,by simp,rfl,rfl,rfl⟩
        ·show(g.w.heap.modify e.b _)[e.b]?=_;rw[p0 (by rw[Array.size_modify];exact N),Array.getElem_modify_self];rw[(o3.1 o).2]
        ·show(g.w.heap.modify e.b _)[E]?=_;rw[IF,cC (iG q)]
      obtain⟨K,am,v,y,aw⟩:=QY hi m z k ae X rfl rfl k.row k.cell;have ad:h.set i (.row j 1 F)=h:=by
       apply BN;intro an;by_cases A:an=i
       ·subst A;rw[q2 (bR.1 m).1,m]
       ·rw[kZ (iG A)]
      rw[ad]at y;have ag:g.w.shape? e.b=some (j,a.size):=by
       unfold World.shape?;rw[o]
      refine⟨.value (ρ x),_,K,?_,am,v,y,.inl ⟨_,rfl,C.ext v⟩⟩;rw[B];simp[execOp,convert,B,eZ ak,eZ al,markStringish,ag]
     ·cases c
    ·cases c
   ·cases c
  ·cases c
 ·cases c
theorem TG (U:eL P T) (hi:Inv g h) {ρ:Operand→Value} {dst:Option Tmp} {ty:TypeId} {pos:String} {af:Array Edge} {W:Option (Nat × Bool)} {t:TypeId} {x:Operand} {lo s:Option Operand} {c:Operand} {ds:List D} {d:D} {h':J}
  (n:dP g ((Op.operands (.slice t x lo s (some c))).toList.map ρ) ds) (a:lQ T h t lo.isSome s.isSome ds=some (d,h')):n8 P ρ ⟨dst,.slice t x lo s (some c),ty,pos,af,W⟩ g h' d:=by
 unfold lQ at a;split at a
 ·rename_i aj a3;injection a with a;injection a with I K;subst I;subst K;obtain⟨u,bd,am,H,a8,aa,F,ao,a1,M⟩:=PZ U (λae E=>hi.oq E) ⟨dst,.slice t x lo s (some c),ty,pos,af,W⟩ n (show mw T _ ds=some aj from a3);exact⟨_,bd,am,H,a8,aa,hi.same aa F ao a1,.inl ⟨u,rfl,M⟩⟩
 ·split at a
  ·rename_i bu bb r bn f bo ae bq br bt;split at a
   ·rename_i ad bv j o ac a4;split at a
    ·rename_i be a5;split at a
     ·rename_i q az;split at a
      ·rename_i ar;obtain⟨rfl,rfl,rfl,an,bg,bm⟩:=ar;injection a with a;injection a with I K;subst I;subst K;have a0:lo=none:=by cases lo<;>simp_all
       obtain⟨C,rfl⟩:∃i,s=some i:=by cases s<;>simp_all
       subst a0;have a2:(Op.operands (.slice t x none (some C) (some c))).toList.map ρ=[ρ x,ρ C,ρ c]:=by simp[Op.operands]
       rw[a2]at n;cases n with
       | cons a9 n=>cases n with
        | cons E n=>cases n with
         | cons X n =>
          obtain⟨m,ai,a7,bk,F,bl,bj,bh,av⟩:=a9.mv;obtain⟨bp,R,G,p⟩:=hi.live bb ad q.V j ac;rw[F]at G;injection G with G;subst G;obtain⟨z,N,ab,ay,_,ax,_⟩:=GJ hi ac F;obtain⟨bf,aq,_⟩:=p.iv;have au:∀o,z.w.cell? ⟨m.b,o,none⟩=R[o]?:=λo=>by rw[N];simp only[World.cell?,aq];simp
          have bi:=p.len;have L:∀(o:Nat) (b:List D),(j.take r)[o]?=some b→j[o]?=some b:=λo b k=>by
           rw[gw]at k;split at k
           ·exact k
           ·cases k
          have ba:aV z (ρ x) (.sl q.V false (j.take r)):=by
           rw[a7];refine aV.sl _ r ai q.V false (j.take r) (by simp;omega) (by omega) av (λk=>by cases k) p.pos (λb k=>p.row b (fG k)) (λ_=>⟨rfl,ax⟩) (λe i=>(R[e*q.V+i]?).getD undef) ?_ ?_ ?_
           ·intro e b B i y A;obtain⟨u,v,_,_⟩:=p.cell e b (L e b B) i y A;show z.w.cell? ⟨m.b,0*m.V+e*q.V+i,none⟩=_;rw[au,ou,eS,v];rfl
           ·intro e b B i y A;obtain⟨u,v,ag,_⟩:=p.cell e b (L e b B) i y A;rw[v];exact ag
           ·intro e b B i y A;obtain⟨u,v,_,ah⟩:=p.cell e b (L e b B) i y A;rw[v];exact ah.ext ab
          have ak:∃Q,ρ C = .int Q f:=by
           generalize ρ C=bc at E;cases E;exact⟨_,rfl⟩
          have al:∃Q,ρ c = .int Q f:=by
           generalize ρ c=bc at X;cases X;exact⟨_,rfl⟩
          have aw:kf T t (.sl q.V false (j.take r)) none (some f) (some f)=some (.sl q.V true (j.take f.toNat)):=by
           have ap:f≤((j.take r).length:Int):=by simp;omega
           have a6:(j.take r).take f.toNat=j.take f.toNat:=by
            rw[xe];congr 1;omega
           simp only[kf,a4,a5,az,sB,B8,qT,Int.le_refl,an,ap,jq,aN,cM,Int.toNat_zero,il,a6]
          obtain⟨u,H,M⟩:=rn (g:=z) (ρ:=ρ) (dst:=dst) (ty:=ty) (pos:=pos) (af:=af) (W:=W) U (lo:=none) (hi:=some C) (mx:=some c) (l:=none) (h:=some f) (m:=some f) ba trivial ak al (by simp) aw;rw[N]at H;exact⟨_,g.w,z,H,N,ab,ay,.inl ⟨u,rfl,M⟩⟩
      ·cases a
     ·cases a
    ·cases a
   ·cases a
  ·cases a
theorem Av (j:eL P T) (hi:Inv g h) (o:Oper) {ds:List D} {d:D} {h':J} (p:dP g (o.op.operands.toList.map ρ) ds) (a:qW T h o.op ds=some (d,h')):n8 P ρ o g h' d:=by
 obtain⟨dst,ar,ty,pos,af,W⟩:=o;simp only at p a;have ad:∀{b k:Operand} {X aa:D},dP g [ρ b,ρ k] [X,aa]→aV g (ρ b) X∧aV g (ρ k) aa:=λaj=>by
  cases aj with
  | cons H s=>cases s with
   |cons I s=>exact⟨H,I⟩
 cases ar<;>simp only[qW]at a
 case store e b k =>
  split at a
  ·rename_i au i;obtain⟨c,q⟩:=ad p;cases A:aS T h e au i with
   |none=>rw[A]at a;cases a
   | some H =>
    rw[A]at a;injection a with a;injection a with m n;subst m;subst n;exact TX j hi c q A
  ·cases a
 case alloc ab =>
  split at a
  ·rename_i ac L;split at a
   ·rename_i an;injection a with a;injection a with m n;subst m;subst n;exact Tx j hi L an
   ·cases a
  ·cases a
 case box ab b =>
  split at a
  ·rename_i ac r L;obtain⟨i,B,c⟩:=tL p;simp[Op.operands]at B;subst B;split at a
   ·rename_i ai;obtain⟨jg,g4,jC⟩:=ai;injection a with a;injection a with m n;subst m;subst n;exact TA j hi c jg g4 jC
   ·cases a
  ·cases a
 case buildSlice e N Q =>
  have:(Op.operands (.buildSlice e N Q)).toList.map ρ=Q.toList.map λb=>ρ b.2:=by simp[Op.operands]
  rw[this]at p;cases l:mS T e N (Q.toList.map (·.1)) ds with
  |none=>rw[l]at a;cases a
  | some R =>
   rw[l]at a;obtain⟨av,bc,a9⟩:=R;injection a with a;injection a with m n;subst m;subst n;exact TP j hi p l
 case slice e b a6 a3 aq =>
  cases aq with
  |none=>cases a
  |some M=>exact TG j hi p a
 case makeSlice e N M =>
  split at a
  ·obtain⟨c,q⟩:=ad p;exact TQ j hi c q a
  ·cases a
 case convert ba e b =>
  split at a
  ·rename_i ac a4 f A L;obtain⟨i,B,c⟩:=tL p;simp[Op.operands]at B;subst B;split at a
   ·rename_i ab ao ap;split at a
    ·rename_i a5 ak;split at a
     ·rename_i al;split at a
      ·rename_i f;split at a
       ·rename_i am;injection a with a;injection a with m n;subst m;subst n;exact TZ j hi c A ao L ap ak al am
       ·cases a
      ·cases a
     ·cases a
    ·cases a
   ·exact TS j hi c a
   ·cases a
  ·cases a
 case call M =>
  obtain⟨ah,args,E⟩:=M;simp only at a;cases ah with
  |value a2=>simp at a
  |invoke s a7=>simp at a
  | builtin ag =>
   have K:dP g (args.toList.map ρ) ds:=by simpa[Op.operands,Call.operands]using p
   have ae:∀{r u:D} {e F:Nat},ds=[r,u]→E.toList=[e,F]→∃b k,args = #[b,k]∧E = #[e,F]∧aV g (ρ b) r∧aV g (ρ k) u:=λ{r u e F} H I=>by
    subst H;have l:=K.length;obtain⟨f⟩:=args;obtain⟨R⟩:=E;simp only at I;subst I;cases f with
    |nil=>simp at l
    | cons b f=>cases f with
     |nil=>simp at l
     | cons k f=>cases f with
      | nil =>
       cases K with
       | cons c s=>cases s with
        |cons q s=>exact⟨b,k,rfl,rfl,c,q⟩
      |cons bd f=>simp at l
   cases ag<;>simp only at a
   case append =>
    split at a
    ·rename_i r u e F t;obtain⟨b,k,rfl,rfl,c,q⟩:=ae rfl t;obtain⟨i,G,v,z,C,w,x,y⟩:=LY (ty:=ty) j hi c q a;exact⟨.value i,G,v,by simp[execOp,resolve,invoke,builtin,z],C,w,x,.inl ⟨i,rfl,y⟩⟩
    ·cases a
   case copy =>
    split at a
    ·rename_i r u e F t;obtain⟨b,k,rfl,rfl,c,q⟩:=ae rfl t;obtain⟨i,G,v,z,C,w,x,y⟩:=xC (ty:=ty) j hi c q a;exact⟨.value i,G,v,by simp[execOp,resolve,invoke,builtin,z],C,w,x,.inl ⟨i,rfl,y⟩⟩
    ·cases a
   case clear =>
    split at a
    ·rename_i r e t;obtain⟨b,rfl,rfl,c⟩:∃b,args = #[b]∧E = #[e]∧aV g (ρ b) r:=by
      have l:=K.length;obtain⟨f⟩:=args;obtain⟨R⟩:=E;simp only at t;subst t;cases f with
      |nil=>simp at l
      | cons b f=>cases f with
       | nil =>
        cases K with
        |cons c s=>exact⟨b,rfl,rfl,c⟩
       |cons k f=>simp at l
     obtain⟨i,G,v,z,C,w,x,y⟩:=SU (ty:=ty) j hi c a;exact⟨.value i,G,v,by simp[execOp,resolve,invoke,builtin,z],C,w,x,.inl ⟨i,rfl,y⟩⟩
    ·cases a
   all_goals cases a
 all_goals cases a
end wr
def pD:Unit:=()
def jg:Unit:=pD
def g4:Unit:=jg
def jC:Unit:=g4
def jN:Unit:=jC
def ZN:Unit:=jN
def ZO:Unit:=ZN
def ZP:Unit:=ZO
def ZQ:Unit:=ZP
def ZR:Unit:=ZQ
def Zs:Unit:=ZR
def Zt:Unit:=Zs
def Zu:Unit:=Zt
def Zv:Unit:=Zu
def Zw:Unit:=Zv
def Zx:Unit:=Zw
def Zy:Unit:=Zx
def Zz:Unit:=Zy
def ZA:Unit:=Zz
def ZB:Unit:=ZA
def ZC:Unit:=ZB
def ZD:Unit:=ZC
def ZE:Unit:=ZD
def ZF:Unit:=ZE
def ZG:Unit:=ZF
def ZH:Unit:=ZG
def ZI:Unit:=ZH
def ZJ:Unit:=ZI
def ZK:Unit:=ZJ
def ZL:Unit:=ZK
def ZM:Unit:=ZL
def yX{α:Sort _}(a:α):α:=(λ_:Unit=>a) ZM
theorem D2{α:Sort _}(a:α):yX a=a:=rfl
abbrev fb:=FuncId→List D→J→Option (D × J)
structure Cx where
 T:dR
 gl:Nat→Option D
 xt:fb
def po(X:Cx)(e:DE):Operand→Option D
 |.tmp t=>eI e t
 |.const v=>some (ofConst v)
 |.global i=>X.gl i
 |.func f=>some (.fn (.func f) [] [])
def mg(X:Cx)(e:DE):List Operand→Option (List D)
 |[]=>some []
 | x::r=>match po X e x with
  | some d=>match mg X e r with
   |some ds=>some (d::ds)
   |none=>none
  |none=>none
def W(g:D)(b:Bool)(x:Option D):Option D:=match g with
 | .bool a=>match a==b with
  |true=>x
  |false=>some .bA
 |.bA=>some .bA
 |_=>none
def gQ(g:D)(b:Bool)(h:J)(x:Option (D × J)):Option (D × J):=match g with
 | .bool a=>match a==b with
  |true=>x
  |false=>some (.bA,h)
 |.bA=>some (.bA,h)
 |_=>none
def cS (n0:Nat) (h:J):Nat→D→D
 |0,d=>d
 | n+1,d=>match d with
  | .aZ V o r k=>match Nat.ble n0 o with
   | true=>match h[o]? with
    |some (.row _ _ rows) =>.sl V false (((rows.drop r).take k).map λrow=>row.map (cS n0 h n))
    |_ =>.aZ V o r k
   |false =>.aZ V o r k
  |.agg cs =>.agg (cs.map (cS n0 h n))
  |.bD cs =>.bD (cs.map (cS n0 h n))
  |.sl V f rows =>.sl V f (rows.map λrow=>row.map (cS n0 h n))
  |d=>d
def snap(h:J):Nat→D→D
 |0,d=>d
 | n+1,d=>match d with
  | .aZ V o r k=>match h[o]? with
   |some (.row _ _ rows) =>.sl V false (((rows.drop r).take k).map λrow=>row.map (snap h n))
   |_ =>.aZ V o r k
  |.agg cs =>.agg (cs.map (snap h n))
  |d=>d
def D.tT:D→Bool
 |.bool _|.int _ _|.str _|.jv|.aA|.bA=>true
 |_=>false
def D.HP:D→Bool
 |.bD ds=>ds.all D.tT
 |d=>d.tT
def lP(b:fb)(f:FuncId)(args:List D)(h:J):Option (D × J):=match b f (args.map (snap h 3)) (h.map λ_ =>.dead)with
 | some (a,_)=>match a.HP with
  |true=>some (a,h)
  |false=>none
 |none=>none
def Mo(a:fb)(f:FuncId)(args:List D)(h:J):Option (D × J):=a f (args.map (cS 0 h 3)) (h.map λ_ =>.dead)
def iH(T:dR)(b:fb)(m:String)(ds:List D)(h:J):Option (D × J):=match ds with
 | .iface e c::a=>match v7 T e m with
  |some d=>b d (c::a) h
  |none=>none
 |_=>none
def calls(b:Nat)(a:fb)(f:FuncId)(args:List D)(h:J):Option (D × J):=match b with
 |0=>a f args h
 |1=>lP a f args h
 |_=>Mo a f args h
def mf(T:dR)(a:fb)(g:Nat)(o:Op)(ds:List D)(h:J):Option (D × J):=yX (match o with
 | .call c=>match c.callee with
  | .value _=>match ds with
   |.fn (.func e) first d::b=>calls g a e (first++b++d) h
   |_=>none
  |.invoke _ f=>iH T a f ds h
  |_=>none
 |_=>none)
def rS(n0:Nat)(h:J):J:=h.take n0++(h.drop n0).map λ_ =>.dead
def LO(p:D × J):D × J:=match p.1 with
 |.aZ _ a _ _=>(cS a p.2 3 p.1,rS a p.2)
 |_=>p
def LN(n0:Nat)(p:D × J):D × J:=match p.1 with
 |.aZ d b c a=>(cS n0 p.2 3 (.aZ d b c a),rS n0 p.2)
 |_=>p
def r8(c:Nat)(T:dR)(h:J)(a:Op)(ds:List D):Option (D × J):=match c with
 |2=>qW T (h.map λ_ =>.dead) a (ds.map (cS 0 h 3))
 |3=>(qW T h a ds).bind λb=>some (LO b)
 |d+4=>(qW T h a ds).bind λb=>some (LN d b)
 |_=>qW T h a ds
def oV (o:Option Nat) (l:List Nat):Nat:=match o with
 | some a=>match l.any (Nat.beq a)with
  |true=>1
  | false=>match l.any (Nat.beq (a+1000000))with
   |true=>2
   | false=>match l.any (Nat.beq (a+2000000))with
    |true=>3
    | false=>match l.find? (λb=>Nat.ble 3000000 b&&Nat.beq ((b - 3000000) % 10000) a)with
     |some b=>(b - 3000000) / 10000+4
     |none=>0
 |none=>0
section
variable {R:Type}
def j3(c:Nat)(dst:Option Nat)(d:D)(e:DE)(h:J)(a:DE→J→Option R):Option R:=match dst with
 |none=>a e h
 | some b=>match Nat.blt b c with
  |true=>a ((b,d)::e) h
  |false=>none
def zr(b:Op)(ds:List D):Option D:=match b,ds with
 |.move _,[a]=>some a
 |.assign _,[a]=>some a
 |_,_=>none
def m4 (X:Cx) (k:fb) (d:Nat) (fz i:List Nat) (l:List Oper) (o:Oper) (e:DE) (h:J) (c:DE→J→Option R):Option R:=
 match mg X e o.op.operands.toList with
 |none=>none
 | some f=>match o.guard with
  | none=>match zr o.op f with
   |some a=>j3 d o.dst a e h c
   | none=>match gm X.T fz o with
    |.pure=>(mw X.T o.op f).bind λa=>j3 d o.dst a e h c
    |.read=>(nV X.T h o.op f).bind λa=>j3 d o.dst a e h c
    |.write=>(r8 (oV o.dst i) X.T h o.op f).bind λb=>j3 d o.dst b.1 e b.2 c
    |.call=>(mf X.T k (oV o.dst i) o.op f h).bind λb=>j3 d o.dst b.1 e b.2 c
    |.h3=>(vV X.T o.op).bind λa=>j3 d o.dst a e h c
  | some (m,g)=>match(l[m]?).bind (·.dst)with
   |none=>none
   | some n=>match eI e n with
    |none=>none
    | some j=>match gm X.T fz o with
     |.pure=>(W j g (mw X.T o.op f)).bind λa=>j3 d o.dst a e h c
     |.read=>(W j g (nV X.T h o.op f)).bind λa=>j3 d o.dst a e h c
     |.write=>(gQ j g h (r8 (oV o.dst i) X.T h o.op f)).bind λb=>j3 d o.dst b.1 e b.2 c
     |.call=>(gQ j g h (mf X.T k (oV o.dst i) o.op f h)).bind λb=>j3 d o.dst b.1 e b.2 c
     |.h3=>none
def ti(fz:List Nat)(o p:Oper):Option (Nat × Nat × Operand):=match o.op,o.dst,o.guard,p.op,p.dst,p.guard with
 | .alloc b,some a,none,.store e (.tmp d) c,none,none=>match Nat.beq b e&&Nat.beq a d&&fz.any (Nat.beq a)&&(match c with
  |.tmp f => !(Nat.beq f a)
  |_=>true)with
  |true=>some (b,a,c)
  |false=>none
 |_,_,_,_,_,_=>none
def gM(V:Nat)(v:D):Option D:=match v.fo&&Nat.beq (cX v).length V with
 |true=>some (.aE (cX v))
 |false=>none
def jx(X:Cx)(f:fb)(b:Nat)(fz c:List Nat)(l:List Oper):List Oper→DE→J→(DE→J→Option R)→Option R
 |[],e,h,a=>a e h
 |[o],e,h,a=>m4 X f b fz c l o e h a
 | o::p::r,e,h,a=>match ti fz o p with
  | some (E,d,x)=>match po X e x,X.T E with
   |some v,some i=>(gM i.V v).bind λu=>j3 b (some d) u e h λe' h'=>jx X f b fz c l r e' h' a
   |_,_=>none
  |none=>m4 X f b fz c l o e h λe' h'=>jx X f b fz c l (p::r) e' h' a
def jt(T:dR)(fz:List Nat)(o:Oper):Bool:=match gm T fz o with
 |.write|.call=>true
 |_=>false
def pF(T:dR)(fz:List Nat)(o:Oper):Bool:=match gm T fz o with
 |.read=>true
 |_=>false
def fE(T:dR)(fz:List Nat)(l:List Oper)(i:Nat):Bool:=match l[i]? with
 |some a=>jt T fz a
 |none=>false
def o2(X:Cx)(d:fb)(f:Nat)(fz c:List Nat)(l:List Oper):List Oper→DE→J→List J→(DE→J→List J→Option R)→Option R
 |[],e,h,a,b=>b e h a
 | o::r,e,h,a,b=>m4 X d f fz c l o e h λe' h'=>o2 X d f fz c l r e' h' (match jt X.T fz o with
  |true=>a++[h']
  |false=>a) b
def ks(l:List Oper):List Nat:=(Region.before l.toArray).toList
def kg(bs:List Nat)(i j:Nat):Bool:=(bs.getD i 0).testBit j
def looks(l:List Oper)(o:Oper):List Nat:=(o.op.operands.toList.filterMap fun|.tmp b=>some b|_=>none)++(match o.guard with
 |some (a,_)=>((l[a]?).bind (·.dst)).toList
 |none=>[])
def gv(l:List Oper):Nat:=(List.range l.length).foldr (λa b=>match Nat.beq b (a+1)&&(List.range a).all (λc=>mu c (lS l.toArray a))with
 |true=>a
 |false=>b) l.length
def Gz(T:dR)(fz:List Nat)(l:List Oper)(j:Nat):Bool:=match l[j]? with
 | some a=>(match gm T fz a with
  |.pure=>true
  |_=>false)&&(match a.guard with
  |none=>true
  |some _=>false)&&(match a.dst with
  |some _=>true
  |none=>false)
 |none=>false
def S1(T:dR)(fz:List Nat)(l:List Oper):Nat:=
 let bs:=ks l
 (List.range (gv l)).foldr (λa c=>match Nat.beq c (a+1)&&(List.range a).all (λb=>kg bs a b||Gz T fz l b)with
 |true=>a
 |false=>c) (gv l)
def a2M(l:List Oper):Bool:=(List.range (gv l)).any λa=>match l[a]? with
 | some b=>(match b.op,b.dst with
  | .assign _,some e=>(List.range a).any λc=>match l[c]? with
   |some d=>mu e (looks l d)
   |none=>false
  |_,_=>false)
 |none=>false
def early(fz:List Nat)(l:List Oper):Bool:=(l.take (gv l)).any λa=>match a.op with
 |.store _ (.tmp b) _=>fz.any (Nat.beq (b+1000000))
 |_=>false
def a4W(T:dR)(fz:List Nat)(l:List Oper):Nat:=match early fz l||a2M l with
 |true=>S1 T fz l
 |false=>gv l
def mn(m:Nat)(l:List Oper)(j:Nat):Bool:=(List.range (gv l)).any λa => !(Nat.blt a m) && !(kg (ks l) a j)
def PG(l:List Oper)(k j:Nat):Bool:=match l[k]?,l[j]? with
 | some a,some b=>(match a.dst with
  |some c => !(mu c (looks l b))
  |none=>true)
 |_,_=>true
def Rx(m:Nat)(l:List Oper)(j:Nat):Bool:=match l[j]? with
 | some c=>(looks l c).all λe=>(List.range m).all λa=>match l[a]? with
  | some d=>(match d.dst with
   |some b => !(Nat.beq b e) || !(mn m l a)
   |none=>true)
  |none=>true
 |none=>true
def PF(fz:List Nat)(l:List Oper)(k:Nat):Bool:=match l[k]?,l[k+1]? with
 | some a,some b=>(match ti fz a b with
  |some _=>false
  |none=>true)
 |_,_=>true
def vO(T:dR)(fz:List Nat)(m:Nat)(l:List Oper):Bool:=
 ((List.range (gv l)).all λb=>Nat.blt b m||(List.range b).all λa=>mu a (lS l.toArray b)||(Nat.blt a m&&PG l b a)) &&
 ((List.range m).all λa => !(mn m l a)||(Gz T fz l a&&Rx m l a)) &&
 ((List.range (gv l)).all λb=>Nat.blt b m||PF fz l b)
def M0 (T:dR) (fz:List Nat) (e m:Nat) (l:List Oper):Bool:=
 let bs:=ks l
 let c:=(List.range m).filter (fE T fz l)
 Nat.ble m (gv l)&&Nat.ble (gv l) l.length&&qM e l&&H3 (gv l) l &&
 ((List.range (gv l)).all λa=>match l[a]? with
  | some f=>(looks l f).all λh=>(List.range m).all λb=>match l[b]? with
   | some g=>(match g.dst with
    |some d => !(Nat.beq d h)||kg bs a b
    |none=>true)
   |none=>true
  |none=>true) &&
 (c.all λb=>c.all λa => !(Nat.blt a b)||kg bs b a) &&
 (Nat.beq m (gv l)||vO T fz m l)
def As (T:dR) (fz:List Nat) (m:Nat) (l:List Oper):List (Nat × Nat):=
 let bs:=ks l
 let d:=(List.range m).filter (fE T fz l)
 (List.range m).flatMap λa=>match l[a]? with
  | some g=>match pF T fz g with
   | true =>
    let f:=(d.filter λb=>kg bs a b).length
    let e:=(d.filter λb => !(kg bs b a)).length
    let own:=(d.filter λb=>Nat.blt b a).length
    ((List.range (e+1)).filter λc=>Nat.ble f c && !(Nat.beq c own)).map λc=>(a,c)
   |false=>[]
  |none=>[]
def again(X:Cx)(l:List Oper)(o:Oper)(e:DE)(h:J):Prop:=match mg X e o.op.operands.toList,o.dst with
 | some a,some b=>match o.guard with
  |none=>nV X.T h o.op a=eI e b
  | some (f,c)=>match(l[f]?).bind (·.dst)with
   |none=>False
   | some g=>match eI e g with
    |none=>False
    |some d=>W d c (nV X.T h o.op a)=eI e b
 |_,_=>False
open Classical in
noncomputable def dY(p:Prop)(x:Option R):Option R:=if p then x else none
noncomputable def nD(X:Cx)(l:List Oper)(e:DE)(a:List J):List (Nat × Nat)→Option R→Option R
 |[],x=>x
 | (i,k)::r,x=>match l[i]? with
  |some o=>dY (again X l o e (a.getD k [])) (nD X l e a r x)
  |none=>none
def lZ(X:Cx)(fz:List Nat):List Oper→DE→J→(DE→J→Option R)→Option R
 |[],e,h,a=>a e h
 | o::r,e,h,a=>match gm X.T fz o,o.op,o.dst with
  | .h3,.alloc E,some t=>match X.T E with
   |some i=>lZ X fz r ((t,.ptr h.length 0 0)::e) (aG h E i.V [i.zero]) a
   |none=>none
  |_,_,_=>lZ X fz r e h a
noncomputable def oK(X:Cx)(c:fb)(a:Nat)(fz b:List Nat)(m:Nat)(l:List Oper)(e:DE)(h:J)(f:DE→J→Option R):Option R:=
 match M0 X.T fz a m l with
 |false=>none
 |true=>o2 X c a fz b l (l.take m) e h [h] λd i k=>nD X l d k (As X.T fz m l) (lZ X fz (l.take m) d i λg j=>jx X c a fz b l (l.drop m) g j f)
end
inductive Ex where
 |aQ|ext (id:Nat)|ret
def iA:Code→List Nat
 |.region _ c _=>c.toList.filterMap (·.dst)
 |.seq a b=>iA a++iA b
 |.cond _ a b=>iA a++iA b
 |.block _ b=>iA b
 |.loop b=>iA b
 |.scope b=>iA b
 |.rangeFunc _ d a b=>d.toList++iA a++iA b
 |_=>[]
def sN:Code→Bool
 |.exit _=>false
 |.ret=>false
 |.seq a b=>sN a&&sN b
 |.cond _ a b=>sN a||sN b
 |.loop _=>false
 |_=>true
def qA(id:Nat):Code→Bool
 |.exit i=>Nat.beq i id
 |.seq a b=>qA id a||qA id b
 |.cond _ a b=>qA id a||qA id b
 |.block _ b=>qA id b
 |.loop b=>qA id b
 |.scope b=>qA id b
 |_=>false
def kv(a:List Nat)(c:Code):List Nat:=a.filter λb=>mu b (iA c)
def qO(e:DE):List Nat→DE
 |[]=>[]
 | t::r=>match eI e t with
  |some d=>(t,d)::qO e r
  |none=>qO e r
def qN(a:List Nat)(c:Code)(e:DE):DE:=qO e (a.filter λb => !(mu b (iA c)))
def lf(e:DE):List Nat→List D
 |[]=>[]
 | t::r=>(match eI e t with
  |some d=>d
  |none =>.any)::lf e r
def yW:List D→D
 |d::_=>d
 |[] =>.any
def Al:List D→List D
 |_::r=>r
 |[]=>[]
def kW:List Nat→List D→DE→DE
 |[],_,e=>e
 |t::a,ds,e=>(t,yW ds)::kW a (Al ds) e
def bX(id:Nat):Ex→Ex
 | .ext i=>match Nat.beq i id with
  |true =>.aQ
  |false =>.ext i
 |x=>x
abbrev bK:=Ex × List D × J
abbrev nq:=(List D→J→Option bK)→List D→J→Option bK
def S{R:Type}(c:D)(a b:Option R):Option R:=match c with
 |.bool true=>a
 |.bool false=>b
 |_=>none
def cI{R:Type}(x:Ex)(n:Option R)(k:Ex→Option R):Option R:=yX (match x with
 |.aQ=>n
 |x=>k x)
def dC{R:Type}(x:Ex)(r:Option R):Option R:=yX (match x with
 |.ext _=>none
 |_=>r)
structure ug where
 nt:Nat
 cL:List Nat
 fz:List Nat
 hV:List Nat
noncomputable def cK(X:Cx)(g:fb)(j:nq)(A:ug):Code→DE→J→(R:Type)→(Ex→DE→J→Option R)→Option R
 |.skip,e,h,R,f=>f .aQ e h
 |.label _,e,h,R,f=>f .aQ e h
 |.ret,e,h,R,f=>f .ret e h
 |.exit i,e,h,R,f=>f (.ext i) e h
 | .region _ k l,e,h,R,f=>match l with
  |false=>jx X g A.nt A.fz A.hV k.toList k.toList e h (f .aQ)
  |true=>oK X g A.nt A.fz A.hV (a4W X.T A.fz k.toList) k.toList e h (f .aQ)
 |.seq a b,e,h,R,f=>cK X g j A a e h R λx e' h'=>cI x (cK X g j A b e' h' R f) λx=>f x e' h'
 | .cond c a b,e,h,R,f=>match po X e c with
  |none=>none
  | some d=>match sN a&&sN b with
   |true=>(S d (cK X g j A a e h bK λx e' h'=>some (x,lf e' (kv A.cL (.cond c a b)),h')) (cK X g j A b e h bK λx e' h'=>some (x,lf e' (kv A.cL (.cond c a b)),h'))).bind λr =>
     f r.1 (kW (kv A.cL (.cond c a b)) r.2.1 (qN A.cL (.cond c a b) e)) r.2.2
   |false=>S d (cK X g j A a e h R f) (cK X g j A b e h R f)
 | .block id b,e,h,R,f=>match qA id b with
  |true=>(cK X g j A b e h bK λx e' h'=>some (bX id x,lf e' (kv A.cL b),h')).bind λr=>f r.1 (kW (kv A.cL b) r.2.1 (qN A.cL b e)) r.2.2
  |false=>cK X g j A b e h R λx e' h'=>f (bX id x) e' h'
 |.loop b,e,h,R,f=>(j (λds h'=>cK X g j A b (kW (kv A.cL b) ds (qN A.cL b e)) h' bK λx e' m=>some (x,lf e' (kv A.cL b),m)) (lf e (kv A.cL b)) h).bind λr =>
   f r.1 (kW (kv A.cL b) r.2.1 (qN A.cL b e)) r.2.2
 |_,_,_,_,_=>none
end Go.Pi
namespace Go.Eng
abbrev aL:=@Option.bind_assoc
abbrev fC:=@List.getElem?_cons_zero
abbrev uF:=@Oper.upon_value
abbrev xi:=@Prod.mk.injEq
end Go.Eng
namespace Go.Pi
open Go.Eng
def iY (X:Cx) (g:fb) (fz d:List Nat) (l:List Oper) (o:Oper) (e:DE) (h:J):Option (D × J):=
 match mg X e o.op.operands.toList with
 |none=>none
 | some b=>match o.guard with
  | none=>match gm X.T fz o with
   |.pure=>(mw X.T o.op b).bind λa=>some (a,h)
   |.read=>(nV X.T h o.op b).bind λa=>some (a,h)
   |.write=>r8 (oV o.dst d) X.T h o.op b
   |.call=>mf X.T g (oV o.dst d) o.op b h
   |.h3=>(vV X.T o.op).bind λa=>some (a,h)
  | some (i,c)=>match(l[i]?).bind (·.dst)with
   |none=>none
   | some j=>match eI e j with
    |none=>none
    | some f=>match gm X.T fz o with
     |.pure=>(W f c (mw X.T o.op b)).bind λa=>some (a,h)
     |.read=>(W f c (nV X.T h o.op b)).bind λa=>some (a,h)
     |.write=>gQ f c h (r8 (oV o.dst d) X.T h o.op b)
     |.call=>gQ f c h (mf X.T g (oV o.dst d) o.op b h)
     |.h3=>none
theorem a2n{T:dR}{fz:List Nat}{o:Oper}{ds:List D}{d:D}(h:zr o.op ds=some d):gm T fz o = .pure∧mw T o.op ds=some d:=by
 unfold zr at h;split at h
 ·rename_i a;injection h with h;subst h;simp only[gm,mw,a,jq]
 ·rename_i a;injection h with h;subst h;simp only[gm,mw,a,jq]
 ·cases h
theorem zA{R:Type}(X:Cx)(c:fb)(d:Nat)(fz b:List Nat)(l:List Oper)(o:Oper)(e:DE)(h:J)(a:DE→J→Option R):
  m4 X c d fz b l o e h a=(iY X c fz b l o e h).bind λp=>j3 d o.dst p.1 e p.2 a:=by
 unfold m4 iY;cases mg X e o.op.operands.toList with
 |none=>rfl
 | some f =>
  simp only[];cases o.guard with
  | none =>
   simp only[];cases j:zr o.op f with
   | some r =>
    obtain⟨g,i⟩:=a2n (T:=X.T) (fz:=fz) j;simp only[g,i,kr]
   | none =>
    simp only[];cases gm X.T fz o<;>simp only[aL,kr,Option.bind_none]
  | some m =>
   obtain⟨k,q⟩:=m;simp only[];cases(l[k]?).bind (·.dst)with
   |none=>rfl
   | some n =>
    simp only[];cases eI e n with
    |none=>rfl
    | some s =>
     simp only[];cases gm X.T fz o<;>simp only[aL,kr,Option.bind_none]
section
variable {P:Program} {X:Cx}
def jn(g:Gh)(gl:Nat→Option D):Prop:=∀b a,gl b=some a→aV g (.pointer (some ⟨b,0,none⟩)) a
theorem jn.ext{g g':Gh}{gl:Nat→Option D}(h:jn g gl)(c:eA g g'):jn g' gl:=λd a b=>(h d a b).ext c
theorem jn.lT{g g':Gh}{gl:Nat→Option D}(h:jn g gl)(c:nh g g'):jn g' gl:=λd a b=>(h d a b).lT c
def kB(P:Program)(f:FuncId)(vs:List Value)(g:Gh)(h':J)(d:D):Prop:=
 ((callFunc f vs.toArray).run P g.w = .ok (.enter f vs.toArray) g.w∧n2 P f vs.toArray g.w λb c=>∃a,a.w=c∧eA g a∧Inv a h'∧aV a b d) ∨
 ∃b a,(callFunc f vs.toArray).run P g.w = .ok (.value b) a.w∧eA g a∧Inv a h'∧aV a b d
def j4(P:Program)(X:Cx)(g:fb):Prop:=∀c args d b e,g c args d=some (b,e)→∀a f,Inv a d→jn a X.gl→dP a f args→kB P c f a e b
theorem C0{g:Gh}{e:DE}{a:Act}(c:jn g X.gl){x:Operand}{d:D}(f:∀t d,x = .tmp t→eI e t=some d→aV g (a.tmps.getD t undef) d)(h:po X e x=some d):aV g (a.eval x) d:=by
 cases x with
 |tmp t=>exact f t d rfl h
 | const j =>
  simp only[po,mJ]at h;subst h;exact a2L g j
 |global i=>exact c i d h
 | func b =>
  simp only[po,mJ]at h;subst h;have:=aV.fn (g:=g) (.func b) [] [] [] [] rfl rfl (by simp) (by simp);simpa[Act.eval]using this
theorem NC{g:Gh}{e:DE}{a:Act}(c:jn g X.gl):∀{xs:List Operand} {ds:List D},(∀t d,.tmp t∈xs→eI e t=some d→aV g (a.tmps.getD t undef) d)→mg X e xs=some ds→dP g (xs.map a.eval) ds
 | [],ds,_,h=>by
  simp only[mg,mJ]at h;subst h;exact .nil
 | x::r,ds,f,h=>by
  simp only[mg]at h;split at h
  ·rename_i d j;split at h
   ·rename_i k i;injection h with h;subst h;exact .cons (C0 c (λt d b=>f t d (b▸k0 ..)) j) (NC c (λt d b=>f t d (kF _ b)) i)
   ·cases h
  ·cases h
theorem a4R{g:Gh}{h:J}(hi:Inv g h){g1:Gh}(m:g1.w=g.w)(ad:g1.ms=g.ms)(N:∀b,¬g1.L b):∀(n:Nat) (v:Value) (d:D),aV g v d→aV g1 v (snap h n d):=by
 have G:nh g g1:=⟨by rw[m],by rw[m],by rw[m],by rw[m];exact bB _,λR z I=>by rw[ad];exact I,λb B=>⟨⟨by rw[m];exact B.1,N b⟩,by rw[m]⟩⟩
 intro n
 induction n with
 |zero=>intro v d s;exact s.lT G
 | succ n Q =>
  intro v d s;unfold snap;split
  ·rename_i aj R q E;split
   ·rename_i T M A af;obtain⟨z,U,rfl,ae,I,ao,an,al,ab⟩:=s.mv;obtain⟨ap,o,C,r⟩:=hi.live R T M A af;rw[I]at C;injection C with C;subst C;have ai:=r.kt;have am:=r.len;obtain⟨ak,B,_⟩:=r.iv;have aa:∀a,g1.w.cell? ⟨z.b,a,none⟩=o[a]?:=λa=>by rw[m];simp only[World.cell?,B];simp
    have ac:∀(a:Nat) (c:List D),(((A.drop q).take E).map λc=>c.map (snap h n))[a]?=some c→∃k,A[q+a]?=some k∧c=k.map (snap h n):=λa c i=>by
     rw[eE]at i;cases e:((A.drop q).take E)[a]? with
     |none=>rw[e]at i;cases i
     | some k =>
      rw[e]at i;injection i with i;rw[gw]at e;split at e
      ·rw[ko]at e;exact⟨k,e,i.symm⟩
      ·cases e
    have F:∀(a:Nat) (c:List D),(((A.drop q).take E).map λc=>c.map (snap h n))[a]?=some c→∀(f:Nat) (d:D),c[f]?=some d→∃v,o[(q+a)*M+f]?=some v∧v.oneCell'=true∧aV g1 v d:=λa c i f d j=>by
     obtain⟨k,u,rfl⟩:=ac a c i;rw[eE]at j;cases e:k[f]? with
     |none=>rw[e]at j;cases j
     | some t =>
      rw[e]at j;injection j with j;subst j;obtain⟨v,l,x,y⟩:=r.cell _ k u f t e;exact⟨v,l,x,Q v t y⟩
    have H:∀{K:Nat} {v:Value},o[K]?=some v→o.getD K undef=v:=λ{K v} e=>by rw[gE,e];rfl
    have X:z.b<g1.w.heap.size:=by rw[m];exact(o3.1 B).1
    refine .sl ⟨z.b,q*z.V,none⟩ E U aj false _ (by simp;omega) (by omega) ab (by simp) (by have:=r.pos;omega) (λc ag=>?_) (λ_=>⟨rfl,X,N _⟩) (λa f=>o.getD ((q+a)*M+f) undef) (λa c i f d j=>?_) (λa c i f d j=>?_) (λa c i f d j=>?_)
    ·obtain⟨k,u,rfl⟩:=g8.1 ag;rw[fN,r.row k (fM (fG u))];omega
    ·obtain⟨v,l,x,y⟩:=F a c i f d j;rw[H l,aa];rw[← l];congr 1;rw[← ae,ai,hg]
    ·obtain⟨v,l,x,y⟩:=F a c i f d j;rw[H l];exact x
    ·obtain⟨v,l,x,y⟩:=F a c i f d j;rw[H l];exact y
   ·exact s.lT G
  ·rename_i o;obtain⟨aq,rfl,P,u⟩:=s.q6;refine .tD (.of (by simp[P.length]) λf v d ah p=>?_) u;rw[eE]at p;cases e:o[f]? with
   |none=>rw[e]at p;cases p
   | some t =>
    rw[e]at p;injection p with p;subst p;exact Q v t (P.get f v t ah e)
  ·exact s.lT G
theorem tT{g g':Gh}{v:Value}{d:D}(h:aV g v d)(a:d.tT=true):aV g' v d:=by
 cases h<;>first|exact .bool _|exact .int _ _|exact .str _|exact .jv|exact .aA|exact .bA|(cases a)
theorem a4J{g g':Gh}{v:Value}{d:D}(h:aV g v d)(a:d.HP=true):aV g' v d:=by
 unfold D.HP at a;split at a
 ·rename_i i;obtain⟨j,rfl,c⟩:=h.Ij;exact .zp (.of c.length λf v d e b=>tT (c.get f v d e b) ((iL.1 a) d (eW b)))
 ·exact tT h a
theorem DY {g:Gh} {h:J} (hi:Inv g h) {n0:Nat} {g1:Gh} (t:g1.w=g.w) (aw:g1.ms=g.ms) (ag:∀b,g1.L b→g.L b∧((∃(o:Nat) (m:Me),o<n0∧g.ms[o]?=some m∧m.b=b∧∃T V rows,h[o]?=some (.row T V rows))∨∀(o:Nat) (m:Me),g.ms[o]?=some m→m.b≠b)):∀(n:Nat) (v:Value) (d:D),aV g v d→aV g1 v (cS n0 h n d):=by
 have F:nh g g1:=⟨by rw[t],by rw[t],by rw[t],by rw[t];exact bB _,λo m H=>by rw[aw];exact H,λb E=>⟨⟨by rw[t];exact E.1,λG=>E.2 (ag b G).1⟩,by rw[t]⟩⟩
 intro n
 induction n with
 |zero=>intro v d s;exact s.lT F
 | succ n P =>
  intro v d s;unfold cS;split
  ·rename_i V o z Q;split
   ·rename_i ap;split
    ·rename_i af R rows ak;have bg:=fQ ap;obtain⟨m,U,rfl,ax,H,ai,bf,bd,X⟩:=s.mv;obtain⟨bi,r,N,A⟩:=hi.live o af R rows ak;rw[H]at N;injection N with N;subst N;have a6:=A.kt;have be:=A.len;obtain⟨bb,E,_⟩:=A.iv;have av:¬g1.L m.b:=λG=>by
      rcases(ag m.b G).2 with⟨M,a7,bh,a1,a2,al,ba,a9,a3⟩|a0
      ·have:=hi.inj M o al ba af R a9 rows a7 m a3 ak a1 H a2;omega
      ·exact a0 o m H rfl
     have ar:∀a,g1.w.cell? ⟨m.b,a,none⟩=r[a]?:=λa=>by rw[t];simp only[World.cell?,E];simp
     have ab:∀(a:Nat) (c:List D),(((rows.drop z).take Q).map λc=>c.map (cS n0 h n))[a]?=some c→∃j,rows[z+a]?=some j∧c=j.map (cS n0 h n):=λa c f=>by
      rw[eE]at f;cases i:((rows.drop z).take Q)[a]? with
      |none=>rw[i]at f;cases f
      | some j =>
       rw[i]at f;injection f with f;rw[gw]at i;split at i
       ·rw[ko]at i;exact⟨j,i,f.symm⟩
       ·cases i
     have x:∀(a:Nat) (c:List D),(((rows.drop z).take Q).map λc=>c.map (cS n0 h n))[a]?=some c→∀(e:Nat) (d:D),c[e]?=some d→∃v,r[(z+a)*R+e]?=some v∧v.oneCell'=true∧aV g1 v d:=λa c f e d k=>by
      obtain⟨j,q,rfl⟩:=ab a c f;rw[eE]at k;cases i:j[e]? with
      |none=>rw[i]at k;cases k
      | some l =>
       rw[i]at k;injection k with k;subst k;obtain⟨v,u,B,C⟩:=A.cell _ j q e l i;exact⟨v,u,B,P v l C⟩
     have aa:∀{M:Nat} {v:Value},r[M]?=some v→r.getD M undef=v:=λ{M v} i=>by rw[gE,i];rfl
     have ao:m.b<g1.w.heap.size:=by rw[t];exact(o3.1 E).1
     refine .sl ⟨m.b,z*m.V,none⟩ Q U V false _ (by simp;omega) (by omega) X (by simp) (by have:=A.pos;omega) (λc ac=>?_) (λ_=>⟨rfl,ao,av⟩) (λa e=>r.getD ((z+a)*R+e) undef) (λa c f e d k=>?_) (λa c f e d k=>?_) (λa c f e d k=>?_)
     ·obtain⟨j,q,rfl⟩:=g8.1 ac;rw[fN,A.row j (fM (fG q))];omega
     ·obtain⟨v,u,B,C⟩:=x a c f e d k;rw[aa u,ar];rw[← u];congr 1;rw[← ax,a6,hg]
     ·obtain⟨v,u,B,C⟩:=x a c f e d k;rw[aa u];exact B
     ·obtain⟨v,u,B,C⟩:=x a c f e d k;rw[aa u];exact C
    ·exact s.lT F
   ·exact s.lT F
  ·rename_i r;obtain⟨ae,rfl,y,q⟩:=s.q6;refine .tD (.of (by simp[y.length]) λe v d ad p=>?_) q;rw[eE]at p;cases i:r[e]? with
   |none=>rw[i]at p;cases p
   | some l =>
    rw[i]at p;injection p with p;subst p;exact P v l (y.get e v l ad i)
  ·rename_i r;obtain⟨ae,rfl,y⟩:=s.Ij;refine .zp (.of (by simp[y.length]) λe v d ad p=>?_);rw[eE]at p;cases i:r[e]? with
   |none=>rw[i]at p;cases p
   | some l =>
    rw[i]at p;injection p with p;subst p;exact P v l (y.get e v l ad i)
  ·rename_i V an rows;cases s with
   | sl am a8 U V bc rows ai ay X au a5 ac ah ae aq q y =>
    have ab:∀(a:Nat) (c:List D),(rows.map λc=>c.map (cS n0 h n))[a]?=some c→∃j,rows[a]?=some j∧c=j.map (cS n0 h n):=λa c f=>by
     rw[eE]at f;cases i:rows[a]? with
     |none=>rw[i]at f;cases f
     | some j =>
      rw[i]at f;injection f with f;exact⟨j,rfl,f.symm⟩
    have x:∀(a:Nat) (c:List D),(rows.map λc=>c.map (cS n0 h n))[a]?=some c→∀(e:Nat) (d:D),c[e]?=some d→∃j l,rows[a]?=some j∧j[e]?=some l∧d=cS n0 h n l:=λa c f e d k=>by
     obtain⟨j,q,rfl⟩:=ab a c f;rw[eE]at k;cases i:j[e]? with
     |none=>rw[i]at k;cases k
     | some l =>
      rw[i]at k;injection k with k;exact⟨j,l,q,i,k.symm⟩
    refine .sl am a8 U V an _ (by simpa using ai) ay X au a5 (λc a4=>?_) (λaz=>?_) ae (λa c f e d k=>?_) (λa c f e d k=>?_) (λa c f e d k=>?_)
    ·obtain⟨j,q,rfl⟩:=g8.1 a4;rw[fN];exact ac j q
    ·have aj:rows≠[]:=λG=>az (by rw[G];rfl)
     exact⟨(ah aj).1,(F.fz _ (ah aj).2).1⟩
    ·obtain⟨j,l,I,K,rfl⟩:=x a c f e d k;rw[t];exact aq a j I e l K
    ·obtain⟨j,l,I,K,rfl⟩:=x a c f e d k;exact q a j I e l K
    ·obtain⟨j,l,I,K,rfl⟩:=x a c f e d k;exact P _ l (y a j I e l K)
  ·exact s.lT F
theorem SL{B:fb}(N:j4 P X B){f:FuncId}{args:List D}{h h':J}{d:D}(m:lP B f args h=some (d,h')):∀g vs,Inv g h→jn g X.gl→dP g vs args→kB P f vs g h' d:=by
 unfold lP at m;split at m
 ·rename_i C i Q;split at m
  ·rename_i af;injection m with m;injection m with R T;subst R;subst T;intro g vs u ab I
   let g1:Gh:=⟨g.w,g.ms,λ_=>False⟩
   have aa:nh g g1:=⟨rfl,rfl,rfl,bB _,λn ap x=>x,λb j=>⟨⟨j.1,λt=>t⟩,rfl⟩⟩
   have G:∀(n o s:Nat) (r:List (List D)),(h.map λ_=>Ob.dead)[n]?≠some (.row o s r):=λn o s r a=>by
    rw[eE]at a;cases K:h[n]? with
    |none=>rw[K]at a;cases a
    |some am=>rw[K]at a;injection a with a;cases a
   have ac:Inv g1 (h.map λ_ =>.dead):=⟨by show g.ms.length=_;simp[u.len],λn o s r a=>absurd a (G n o s r),λn au o s an aw r av aq ar v=>absurd v (G n o s r),λb j=>j.elim,u.msb⟩
   have ad:dP g1 vs (args.map (snap h 3)) :=.of (by simp[I.length]) λM k am v i=>by
    rw[eE]at i;cases a:args[M]? with
    |none=>rw[a]at i;cases i
    | some E =>
     rw[a]at i;injection i with i;subst i;exact a4R (g1:=g1) u rfl rfl (λ_ t=>t) 3 k E (I.get M k E v a)
   have F:∀(k:Value) (c:World),(∃l:Gh,l.w=c∧eA g1 l∧Inv l i∧aV l k C)→∃e:Gh,e.w=c∧eA g e∧Inv e h∧aV e k C:=by
    intro k c ⟨l,q,p,ao,ae⟩;have y:∀b,b<g.w.heap.size→c.heap[b]?=g.w.heap[b]?:=λb j=>by
     rw[← q];exact(p.fz b ⟨j,λt=>t⟩).2
    let e:Gh:=⟨c,g.ms,g.L⟩
    have H:eA g e :=.zx ⟨by show c.os=_;rw[← q];exact p.os,by show c.tape=_;rw[← q];exact p.tape,by show c.output=_;rw[← q];exact p.output,by show _≤c.heap.size;rw[← q];exact p.size,λ_ _ x=>x,λb j=>⟨⟨by show b<c.heap.size;rw[← q];exact nv j.1 p.size,j.2⟩,y b j.1⟩⟩ rfl rfl y;exact⟨e,rfl,H,u.same H rfl rfl y,a4J ae af⟩
   rcases N _ _ _ _ _ Q g1 vs ac (ab.lT aa) ad with⟨z,A⟩|⟨k,l,z,A,ag,ah⟩
   ·exact .inl ⟨z,A.mono F⟩
   ·obtain⟨e,ai,aj,ak,al⟩:=F k l.w ⟨l,rfl,A,ag,ah⟩;exact .inr ⟨k,e,by rw[ai];exact z,aj,ak,al⟩
  ·cases m
 ·cases m
theorem P0{g:Gh}{h:J}(hi:Inv g h):∃g1:Gh,g1.w=g.w∧eA g g1∧Inv g1 (h.map λ_ =>.dead)∧∀n v d,aV g v d→aV g1 v (cS 0 h n d):=by
 let g1:Gh:=⟨g.w,g.ms,λe=>g.L e∧∀(c:Nat) (m:Me),g.ms[c]?=some m→m.b≠e⟩
 have k:∀(c f j:Nat) (i:List (List D)),(h.map λ_=>Ob.dead)[c]?≠some (.row f j i):=λc f j i b=>by
  rw[eE]at b;cases l:h[c]? with
  |none=>rw[l]at b;cases b
  |some A=>rw[l]at b;injection b with b;cases b
 refine⟨g1,rfl,⟨⟨rfl,rfl,rfl,bB _,λ_ _ q=>q,λe a=>⟨⟨a.1,λp=>a.2 p.1⟩,rfl⟩⟩,λe a=>⟨⟨a.1,⟨a.2.1,a.2.2⟩,a.2.2⟩,rfl⟩⟩,
  ⟨by show g.ms.length=_;simp[hi.len],λc f j i b=>absurd b (k c f j i),λc x f j s z i y t u o=>absurd o (k c f j i),λe a=>hi.L e a.1,hi.msb⟩,λn v d r=>?_⟩
 exact DY (g1:=g1) hi rfl rfl (λe a=>⟨a.1,.inr a.2⟩) n v d r
theorem Hb{n0:Nat}{h:J}{o T V:Nat}{rows:List (List D)}(a:(rS n0 h)[o]?=some (.row T V rows)):o<n0∧h[o]?=some (.row T V rows):=by
 unfold rS at a;by_cases d:o<(h.take n0).length
 ·rw[fg d,gw]at a;split at a
  ·rename_i c;exact⟨c,a⟩
  ·cases a
 ·rw[gO (by omega),eE]at a;cases b:(h.drop n0)[o - (h.take n0).length]? with
  |none=>rw[b]at a;cases a
  |some e=>rw[b]at a;injection a with a;cases a
theorem P5{g:Gh}{h:J}(hi:Inv g h)(n0:Nat):∃g1:Gh,g1.w=g.w∧eA g g1∧Inv g1 (rS n0 h)∧∀n v d,aV g v d→aV g1 v (cS n0 h n d):=by
 let g1:Gh:=⟨g.w,g.ms,λe=>g.L e∧((∃(b:Nat) (f:Me),b<n0∧g.ms[b]?=some f∧f.b=e∧∃q Q N,h[b]?=some (.row q Q N))∨∀(b:Nat) (f:Me),g.ms[b]?=some f→f.b≠e)⟩
 have B:(rS n0 h).length=h.length:=by simp[rS];omega
 have p:eA g g1:=⟨⟨rfl,rfl,rfl,bB _,λ_ _ i=>i,λe a=>⟨⟨a.1,λA=>a.2 A.1⟩,rfl⟩⟩,λe a=>⟨⟨a.1,⟨a.2.1,.inr a.2.2⟩,a.2.2⟩,rfl⟩⟩
 refine⟨g1,rfl,p,
  ⟨by show g.ms.length=_;rw[B];exact hi.len,λb k o m j=>?_,λb I k o r P m K G H t l=>hi.inj b I k o r P m K G H (Hb t).2 (Hb l).2,λe a=>hi.L e a.1,hi.msb⟩,λn v d D=>?_⟩
 ·obtain⟨C,j⟩:=Hb j;obtain⟨f,s,i,c⟩:=hi.live b k o m j;refine⟨f,s,i,c.iv,c.kt,c.pos,⟨c.hL,.inl ⟨b,f,C,i,rfl,_,_,_,j⟩⟩,c.len,c.le,c.room,c.row,λE M l F d u=>?_⟩;obtain⟨v,x,y,z⟩:=c.cell E M l F d u;exact⟨v,x,y,z.ext p⟩
 ·exact DY (g1:=g1) hi rfl rfl (λe a=>a) n v d D
theorem Qc{g g1:Gh}{h:J}(c:∀n v d,aV g v d→aV g1 v (cS 0 h n d)){vs:List Value}{ds:List D}(b:dP g vs ds):dP g1 vs (ds.map (cS 0 h 3)):=by
 induction b with
 |nil=>exact .nil
 |cons a _ e=>exact .cons (c 3 _ _ a) e
theorem SP{i:fb}(l:j4 P X i){f:FuncId}{args:List D}{h h':J}{d:D}(m:Mo i f args h=some (d,h')):∀g vs,Inv g h→jn g X.gl→dP g vs args→kB P f vs g h' d:=by
 intro g vs o n q;obtain⟨k,r,b,p,s⟩:=P0 o;have:=l _ _ _ _ _ m k vs p (n.ext b) (Qc s q);unfold kB at this ⊢;rw[r]at this;rcases this with⟨c,e⟩|⟨j,a,c,e,t,u⟩
 ·exact .inl ⟨c,e.mono λj z ⟨a,v,w,x,y⟩=>⟨a,v,b.trans w,x,y⟩⟩
 ·exact .inr ⟨j,a,c,b.trans e,t,u⟩
theorem SR{c:fb}(b:j4 P X c){e:Nat}{f:FuncId}{args:List D}{h h':J}{d:D}(a:calls e c f args h=some (d,h')):∀g vs,Inv g h→jn g X.gl→dP g vs args→kB P f vs g h' d:=by
 unfold calls at a;split at a
 ·exact b _ _ _ _ _ a
 ·exact SL b a
 ·exact SP b a
theorem a6Q(u:eL P X.T){g:Gh}{h h':J}(hi:Inv g h){ρ:Operand→Value}{E:Nat}(o:Oper){ds:List D}{d:D}(v:dP g (o.op.operands.toList.map ρ) ds)(a:r8 E X.T h o.op ds=some (d,h')):n8 P ρ o g h' d:=by
 unfold r8 at a;split at a
 ·obtain⟨t,q,n,p,r⟩:=P0 hi;obtain⟨nx,k,l,b,j,c,e,i⟩:=Av u p o (Qc r v) a;rw[q]at b;exact⟨nx,k,l,b,j,n.trans c,e,i⟩
 ·cases f:qW X.T h o.op ds with
  |none=>rw[f]at a;cases a
  | some y =>
   rw[f]at a;obtain⟨B,C⟩:=y;simp only[kr,mJ]at a;obtain⟨nx,k,l,b,j,c,e,i⟩:=Av u hi o v f;unfold LO at a;split at a
   ·rename_i I A H G m;simp only[xi]at a;obtain⟨rfl,rfl⟩:=a;obtain⟨t,q,n,p,r⟩:=P5 e A;refine⟨nx,k,t,b,by rw[q];exact j,c.trans n,p,?_⟩;rcases i with⟨z,s,x⟩|⟨s,w⟩
    ·exact .inl ⟨z,s,r 3 _ _ x⟩
    ·simp only at m;rw[m]at w;cases w
   ·simp only[xi]at a;obtain⟨rfl,rfl⟩:=a;exact⟨nx,k,l,b,j,c,e,i⟩
 ·rename_i F;cases f:qW X.T h o.op ds with
  |none=>rw[f]at a;cases a
  | some y =>
   rw[f]at a;obtain⟨B,C⟩:=y;simp only[kr,mJ]at a;obtain⟨nx,k,l,b,j,c,e,i⟩:=Av u hi o v f;unfold LN at a;split at a
   ·rename_i I A H G m;simp only[xi]at a;obtain⟨rfl,rfl⟩:=a;obtain⟨t,q,n,p,r⟩:=P5 e F;refine⟨nx,k,t,b,by rw[q];exact j,c.trans n,p,?_⟩;simp only at m;subst m;rcases i with⟨z,s,x⟩|⟨s,w⟩
    ·exact .inl ⟨z,s,r 3 _ _ x⟩
    ·cases w
   ·simp only[xi]at a;obtain⟨rfl,rfl⟩:=a;exact⟨nx,k,l,b,j,c,e,i⟩
 ·exact Av u hi o v a
theorem a2m(b:eL P X.T){t:Nat}{m:String}{f:FuncId}(e:v7 X.T t m=some f){v:Value}{w:World}:(method (P.types.size+Made.depth) t v m).run P w = .ok (f,v) w:=by
 obtain⟨k,n,j,a,c,h,i,g⟩:=PA b e;obtain⟨l,d⟩:=Pz P;simp only[ir,run_program,iM,d,method,typeInfo,a,hU,c,h,follow,ka,i,receiverAt,eZ g,Place.get]
theorem Is{o:Oper}{y:Nat→Option Bool}(h:o.guard=none):Region.wanted o y=true:=by simp[Region.wanted,h]
theorem a7d{d:Array Oper}{a:Array Value}{j t:Nat}{c:Bool}(e:(d[j]?).bind (·.dst)=some t)(h:a.getD t undef = .bool c):yielded d a j=some c:=by
 simp only[yielded,e,kr];rw[gE]at h;cases b:a[t]? with
 |none=>rw[b]at h;cases h
 |some f=>rw[b]at h;simp at h;subst h;rfl
theorem a7e{b:Array Oper}{a:Array Value}{j t:Nat}(c:(b[j]?).bind (·.dst)=some t)(h:a.getD t undef=undef):yielded b a j=none:=by
 simp only[yielded,c,kr];rw[gE]at h;cases d:a[t]? with
 |none=>rfl
 |some e=>rw[d]at h;simp at h;subst h;rfl
def uI(P:Program)(b:Array Oper)(Q:Exit→Act→World→Prop)(o:Oper)(a:Act)(g:Gh)(next:Act→World→Prop):Prop:=
 (Region.wanted o (yielded b a.tmps)=true∧o.wp P a g.w next Q)∨(Region.wanted o (yielded b a.tmps)=false∧next (a.put o.dst undef) g.w)
def Zb(g:Gh)(b:Nat)(E:TypeId)(i:TI):Prop:=∃a:Array Value,g.w.heap[b]?=some (.cells a E (0,0))∧a.size=i.V∧∀(e:Nat) (d:D),i.zero[e]?=some d→∃c,a[e]?=some c∧c.oneCell'=true∧∀g,aV g c d
def ox(T:dR)(d g':Gh)(o:Oper)(v:Value):Prop:=∃b c a,o.op = .alloc b∧T b=some c∧0<c.V∧v = .pointer (some ⟨a,0,none⟩)∧d.w.heap.size≤a∧g'.eY a∧Zb g' a b c
theorem ox.ext{T:dR}{b g g':Gh}{o:Oper}{v:Value}(h:ox T b g o v)(d:eA g g'):ox T b g' o v:=by
 obtain⟨e,r,a,i,j,k,l,m,c,f,n,p,q⟩:=h;exact⟨e,r,a,i,j,k,l,m,(d.eY a c).1,f,(d.eY a c).2.trans n,p,q⟩
theorem ox.ji{T:dR}{a g g':Gh}{o:Oper}{v:Value}(h:ox T g g' o v)(l:a.w.heap.size≤g.w.heap.size):ox T a g' o v:=by
 obtain⟨b,m,c,d,e,f,i,j,k⟩:=h;exact⟨b,m,c,d,e,f,i,fD l j,k⟩
theorem a1E(Q:eL P X.T){g:Gh}{h:J}(hi:Inv g h){o:Oper}{d:D}(a:vV X.T o.op=some d)(ρ:Operand→Value):d = .any∧∃v w' g',(execOp ρ o).run P g.w = .ok (.value v) w'∧g'.w=w'∧eA g g'∧Inv g' h∧ox X.T g g' o v:=by
 unfold vV at a;split at a
 case h_2=>cases a
 rename_i z E;split at a
 case h_2=>cases a
 rename_i p A;split at a
 case h_2=>cases a
 rename_i b;injection a with a;have aa:0<p.V:=fQ b;obtain⟨t,ab,ad,ac,G⟩:=Q.qY A;obtain⟨ag,ai,ak,aj,af,W⟩:=o;simp only at E;subst E
 let g':Gh:=⟨g.w.alloc (.cells t.cells z),g.ms,λc=>g.L c∨c=g.w.heap.size⟩
 have j:g'.w.heap.size=g.w.heap.size+1:=D1 g.w _;have x:∀c,c<g.w.heap.size→g'.w.heap[c]?=g.w.heap[c]?:=λc b=>rM _ _ b
 have R:nh g g':=⟨rfl,rfl,rfl,by rw[j];omega,λ_ _ u=>u,λc b=>⟨⟨by rw[j];have:=b.1;omega,λn=>by
  rcases n with n|n
  ·exact b.2 n
  ·have:=b.1;omega⟩,x c b.1⟩⟩
 have C:eA g g':=⟨R,λc b=>⟨⟨by rw[j];have:=b.1;omega,.inl b.2.1,b.2.2⟩,x c b.1⟩⟩
 have ah:∀(i:Nat) (l s:Nat) (r:List (List D)) (k:Me) (m:Array Value),Live g k l s r m→k.b<g.w.heap.size:=λi l s r k m a=>hi.oq a.hL
 refine⟨a.symm,_,_,g',by simp only[execOp,Instr.alloc,ir,ab g.w,iM,newVar,newRow,tP,ka];rfl,rfl,C,⟨hi.len,λi l s r e=>?_,hi.inj,λc b=>?_,λi y e=>by rw[j];have:=hi.msb i y e;omega⟩,?_⟩
 ·obtain⟨k,m,u,a⟩:=hi.live i l s r e;refine⟨k,m,u,?_,a.kt,a.pos,.inl a.hL,a.len,a.le,a.room,a.row,λp ae H q d I=>?_⟩
  ·rw[x k.b (hi.oq a.hL)];exact a.iv
  ·obtain⟨v,K,M,N⟩:=a.cell p ae H q d I;exact⟨v,K,M,N.ext C⟩
 ·rw[j];rcases b with b|b
  ·have:=hi.L c b;omega
  ·omega
 ·refine⟨z,p,g.w.heap.size,rfl,A,aa,rfl,bB _,⟨by rw[j];omega,.inr rfl,λi y e=>by have:=hi.msb i y e;omega⟩,t.cells,D0 g.w _,ac,λq d f=>?_⟩;rw[ad,eE]at f;cases e:t.cells.toList[q]? with
  |none=>rw[e]at f;cases f
  | some v =>
   rw[e]at f;injection f with f;refine⟨v,by simpa using e,G v (eW e),λF=>?_⟩;exact(rW F t.cells.toList).get q v d e (by rw[eE,e,← f];rfl)
theorem zB (C:eL P X.T) {ag:fb} (a1:j4 P X ag) {fz ae:List Nat} {l:List Oper} {o:Oper} {e:DE} {h h':J} {d:D} (c:iY X ag fz ae l o e h=some (d,h')) {g:Gh} {a:Act} (hi:Inv g h) (am:jn g X.gl)
  (a2:∀t d,t∈looks l o→eI e t=some d→aV g (a.tmps.getD t undef) d) {Q:Exit→Act→World→Prop} {next:Act→World→Prop}
  (z:∀g' v,eA g g'→Inv g' h'→aV g' v d→(gm X.T fz o = .h3→ox X.T g g' o v)→next (a.put o.dst v) g'.w):uI P l.toArray Q o a g next:=by
 unfold iY at c;split at c
 ·cases c
 rename_i s a8;have H:dP g (o.op.operands.toList.map a.eval) s:=NC am (λt d ab c=>a2 t d (List.mem_append_left _ (mc.2 ⟨.tmp t,ab,rfl⟩)) c) a8;have ax:gm X.T fz o ≠ .h3→mw X.T o.op s=some d→h'=h→o.wp P a g.w next Q:=λi b an=>by
  subst an;obtain⟨v,ad,g',q,m,p,ao,a5,bb,u⟩:=PZ C (λL E=>hi.oq E) o H b;unfold Oper.wp;rw[q,uF];rw[← m];exact z g' v p (hi.same p ao a5 bb) u (λh=>absurd h i)
 have ay:gm X.T fz o ≠ .h3→nV X.T h o.op s=some d→h'=h→o.wp P a g.w next Q:=λi b an=>by
  subst an;obtain⟨v,q,u⟩:=a2I C hi o H b;unfold Oper.wp;rw[q,uF];exact z g v (eA.refl g) hi u (λh=>absurd h i)
 have az:gm X.T fz o ≠ .h3→r8 (oV o.dst ae) X.T h o.op s=some (d,h')→o.wp P a g.w next Q:=λi b=>by
  obtain⟨nx,ad,g',q,m,p,y,A⟩:=a6Q C hi o H b;unfold Oper.wp;rw[q];rcases A with⟨v,rfl,u⟩|⟨rfl,rfl⟩
  ·rw[uF,← m];exact z g' v p y u (λh=>absurd h i)
  ·rw[Oper.upon_skip,← m];exact z g' undef p y .bA (λh=>absurd h i)
 have av:gm X.T fz o ≠ .h3→∀(x:FuncId) (au:List Value),(execOp a.eval o).run P g.w=(callFunc x au.toArray).run P g.w→kB P x au g h' d→o.wp P a g.w next Q:=λi x au q a6=>by
  unfold Oper.wp;rcases a6 with⟨aq,bh⟩|⟨v,g',aq,p,y,u⟩
  ·rw[q,aq,Oper.upon_enter];refine wH bh ?_;rintro _ ad ⟨v,rfl,g',m,p,y,u⟩;show next (a.put o.dst v) ad;rw[← m];exact z g' v p y u (λh=>absurd h i)
  ·rw[q,aq,uF];exact z g' v p y u (λh=>absurd h i)
 have aw:gm X.T fz o ≠ .h3→mf X.T ag (oV o.dst ae) o.op s h=some (d,h')→o.wp P a g.w next Q:=λi b=>by
  obtain⟨bm,bq,bu,br,bk,W⟩:=o;unfold mf at b;rw[D2]at b;split at b
  case h_2=>cases b
  rename_i af bc;subst bc;obtain⟨bl,args,bt⟩:=af;split at b
  case h_3=>cases b
  ·rename_i a0 F;split at b
   case h_2=>cases b
   rename_i x first ah K
   simp only at F;subst F;have ap:dP g (a.eval a0::args.toList.map a.eval) (.fn (.func x) first ah::K):=by simpa[Op.operands,Call.operands]using H
   cases ap with
   | cons G aj =>
    generalize A:a.eval a0=I at G;cases G with
    | fn bn first ah I ar j k bj bi =>
     have be:dP g (I++args.toList.map a.eval++ar) (first++K++ah):=((dP.of j bj).append aj).append (.of k bi);refine av i x _ ?_ (SR a1 b g _ hi am be);have ak:I.toArray++(Array.map a.eval args++ar.toArray)=(I++args.toList.map a.eval++ar).toArray:=by simp
     simp only[execOp,resolve,invoke,A,Deferred.ofValue,ir,ka,iM,IC];rw[ak]
  ·rename_i a4 bp F;simp only at F;subst F;unfold iH at b;split at b
   case h_2=>cases b
   rename_i t r K;split at b
   case h_2=>cases b
   rename_i x ao;have ap:dP g (a.eval a4::args.toList.map a.eval) (.iface t r::K):=by simpa[Op.operands,Call.operands]using H
   cases ap with
   | cons G aj =>
    generalize A:a.eval a4=I at G;cases G with
    | iface t v r f =>
     refine av i x (v::args.toList.map a.eval) ?_ (a1 _ _ _ _ _ b g _ hi am (.cons f aj));have ak : #[v]++Array.map a.eval args=(v::args.toList.map a.eval).toArray:=by simp
     have ba:=a2m C ao (v:=v) (w:=g.w);simp only[execOp,resolve,invoke,A,ir,ka,iM];simp only[Array.getElem?_append,xb,List.length_singleton,Nat.lt_one_iff,aN,Nat.zero_lt_one,BR,fC,callMethod,ir];have a9:(#[Value.iface t v]++Array.map a.eval args).extract 1 (#[Value.iface t v]++Array.map a.eval args).size=Array.map a.eval args:=by
      apply Array.ext';simp;exact hN (by simp)
     simp only[run_program,iM,ba,a9,ak]
 have skip:gm X.T fz o ≠ .h3→d = .bA→h'=h→next (a.put o.dst undef) g.w:=λi j k=>by
  subst j;subst k;exact z g undef (eA.refl g) hi .bA (λh=>absurd h i)
 split at c
 ·rename_i B;refine .inl ⟨Is B,?_⟩;split at c
  ·rename_i n;cases b:mw X.T o.op s with
   |none=>rw[b]at c;cases c
   | some N =>
    rw[b]at c;injection c with c;injection c with j k;subst j;exact ax (by rw[n];intro h;cases h) b k.symm
  ·rename_i n;cases b:nV X.T h o.op s with
   |none=>rw[b]at c;cases c
   | some N =>
    rw[b]at c;injection c with c;injection c with j k;subst j;exact ay (by rw[n];intro h;cases h) b k.symm
  ·rename_i n;exact az (by rw[n];intro h;cases h) c
  ·rename_i n;exact aw (by rw[n];intro h;cases h) c
  ·cases b:vV X.T o.op with
   |none=>rw[b]at c;cases c
   | some N =>
    rw[b]at c;injection c with c;injection c with j k;subst j;obtain⟨rfl,v,ad,g',q,m,p,y,bd⟩:=a1E C hi b a.eval;unfold Oper.wp;rw[q,uF,← m];subst k;exact z g' v p y (.any v) (λ_=>bd)
 ·rename_i bg L B;split at c
  ·cases c
  rename_i t ab;split at c
  ·cases c
  rename_i R a7;have bf:t∈looks l o:=by
   unfold looks;rw[B];exact List.mem_append_right _ (by simp[ab])
  have aa:=a2 t R bf a7;have a3:(l.toArray[bg]?).bind (·.dst)=some t:=by simpa using ab
  have M:∀{r:Option (D × J)},gQ R L h r=some (d,h')→(Region.wanted o (yielded l.toArray a.tmps)=true∧r=some (d,h'))∨(Region.wanted o (yielded l.toArray a.tmps)=false∧d = .bA∧h'=h):=λ{r} f=>by
   unfold gQ at f;split at f
   ·rename_i af;have E:a.tmps.getD t undef = .bool af:=by
     generalize A:a.tmps.getD t undef=v at aa;cases aa;rfl
    have ac:=a7d a3 E;split at f
    ·rename_i al;exact .inl ⟨by simpa[Region.wanted,B,ac]using al,f⟩
    ·rename_i al;injection f with f;injection f with j k;exact .inr ⟨by simpa[Region.wanted,B,ac]using al,j.symm,k.symm⟩
   ·have E:a.tmps.getD t undef=undef:=by
      generalize A:a.tmps.getD t undef=v at aa;cases aa;rfl
    have ac:=a7e a3 E;injection f with f;injection f with j k;exact .inr ⟨by simp[Region.wanted,B,ac],j.symm,k.symm⟩
   ·cases f
  have conv:∀{r:Option D},((W R L r).bind λd=>some (d,h))=gQ R L h (r.bind λd=>some (d,h)):=λ{r}=>by
   unfold W gQ;split
   ·split<;>rfl
   ·rfl
   ·rfl
  split at c
  ·rename_i n;have i:gm X.T fz o ≠ .h3:=by rw[n];intro h;cases h
   rw[conv]at c;rcases M c with⟨m,f⟩|⟨m,j,k⟩
   ·cases b:mw X.T o.op s with
    |none=>rw[b]at f;cases f
    | some N =>
     rw[b]at f;injection f with f;injection f with j k;subst j;exact .inl ⟨m,ax i b k.symm⟩
   ·exact .inr ⟨m,skip i j k⟩
  ·rename_i n;have i:gm X.T fz o ≠ .h3:=by rw[n];intro h;cases h
   rw[conv]at c;rcases M c with⟨m,f⟩|⟨m,j,k⟩
   ·cases b:nV X.T h o.op s with
    |none=>rw[b]at f;cases f
    | some N =>
     rw[b]at f;injection f with f;injection f with j k;subst j;exact .inl ⟨m,ay i b k.symm⟩
   ·exact .inr ⟨m,skip i j k⟩
  ·rename_i n;have i:gm X.T fz o ≠ .h3:=by rw[n];intro h;cases h
   rcases M c with⟨m,f⟩|⟨m,j,k⟩
   ·exact .inl ⟨m,az i f⟩
   ·exact .inr ⟨m,skip i j k⟩
  ·rename_i n;have i:gm X.T fz o ≠ .h3:=by rw[n];intro h;cases h
   rcases M c with⟨m,f⟩|⟨m,j,k⟩
   ·exact .inl ⟨m,aw i f⟩
   ·exact .inr ⟨m,skip i j k⟩
  ·cases c
end
end Go.Pi
namespace Go.Eng
abbrev e6:=@List.length_nil
abbrev kq:=@Option.bind_eq_some_iff
abbrev kY:=@Function.comp_def
abbrev oh:=@List.filter_cons
abbrev sx:=@List.map_map
abbrev Lw:=@List.filterMap_cons
end Go.Eng
namespace Go.Pi
open Go.Eng
section
variable {P:Program} {X:Cx} {R:Type}
theorem P2{c:Nat}{dst:Option Nat}{d:D}{e:DE}{h:J}{b:DE→J→Option R}{r:R}(a:j3 c dst d e h b=some r):(dst=none∧b e h=some r)∨(∃t,dst=some t∧t<c∧b ((t,d)::e) h=some r):=by
 unfold j3 at a;split at a
 ·exact .inl ⟨rfl,a⟩
 ·rename_i t;split at a
  ·rename_i f;exact .inr ⟨t,rfl,fQ f,a⟩
  ·cases a
theorem Hd{f:fb}{i:Nat}{fz c:List Nat}{l:List Oper}{o:Oper}{e:DE}{h:J}{b:DE→J→Option R}{r:R}(a:m4 X f i fz c l o e h b=some r):
  ∃d h',iY X f fz c l o e h=some (d,h')∧((o.dst=none∧b e h'=some r)∨(∃t,o.dst=some t∧t<i∧b ((t,d)::e) h'=some r)):=by
 rw[zA]at a;cases g:iY X f fz c l o e h with
 |none=>rw[g]at a;cases a
 | some j =>
  rw[g]at a;obtain⟨d,h'⟩:=j;exact⟨d,h',rfl,P2 a⟩
theorem Zf{fz:List Nat}{o p:Oper}{E d:Nat}{x:Operand}(h:ti fz o p=some (E,d,x)):o.op = .alloc E∧o.dst=some d∧o.guard=none∧p.op = .store E (.tmp d) x∧p.dst=none∧p.guard=none∧x ≠ .tmp d:=by
 unfold ti at h;split at h
 ·rename_i u s v t w g i j k l m;split at h
  ·rename_i e;injection h with h;injection h with q c;injection c with c r;subst q;subst c;subst r;simp only[gJ]at e;obtain⟨⟨⟨a,b⟩,_⟩,f⟩:=e;have a:=kI a;have b:=kI b;subst a;subst b;refine⟨g,i,j,k,l,m,λn=>?_⟩;subst n;simp at f
  ·cases h
 ·cases h
theorem Zg(G:eL P X.T){g:Gh}{h:J}{A:Nat}{e:DE}{a:Act}(hi:Inv g h)(ah:jn g X.gl)(z:jo A g e a){E d:Nat}{x:Operand}{v u:D}{i:TI}(a1:po X e x=some v)(F:X.T E=some i)(m:gM i.V v=some u)(H:d<A)(al:x ≠ .tmp d)
  {Q:Exit→Act→World→Prop} {l:List Oper} {r:List Oper} {o p:Oper} (an:o.op = .alloc E∧o.dst=some d∧o.guard=none∧p.op = .store E (.tmp d) x∧p.dst=none∧p.guard=none∧x ≠ .tmp d)
  (ak:∀g' B,eA g g'→Inv g' h→jo A g' ((d,u)::e) B→wpList P l.toArray Q r B g'.w):wpList P l.toArray Q (o::p::r) a g.w:=by
 obtain⟨N,R,aa,ab,ac,ad,_⟩:=an;unfold gM at m;split at m
 case h_2=>cases m
 rename_i c;injection m with m;subst m;simp only[gJ]at c;obtain⟨ao,I⟩:=c;have I:=kI I;obtain⟨j,a2,_,a7,_⟩:=G.qY F;have aw:aV g (a.eval x) v:=C0 ah (λa3 C _ az=>z.get a3 C az) a1;obtain⟨n,a0,M,K⟩:=aw.cells ao;have a6:=M.length;have au:(execOp a.eval o).run P g.w = .ok (.value (.pointer (some ⟨g.w.heap.size,0,none⟩))) (g.w.alloc (.cells j.cells E)):=by
  simp only[execOp,N,Instr.alloc,ir,a2 g.w,iM,newVar,newRow,tP,ka];rfl
 have ap:(a.put (some d) (.pointer (some ⟨g.w.heap.size,0,none⟩))).eval (.tmp d) = .pointer (some ⟨g.w.heap.size,0,none⟩):=by
  simp[Act.put,Act.eval,z.size,H]
 have aq:(a.put (some d) (.pointer (some ⟨g.w.heap.size,0,none⟩))).eval x=a.eval x:=Act.eval_put (λC s t=>al (by injection s with s;rw[s];exact t));have am:(g.w.alloc (.cells j.cells E)).heap[g.w.heap.size]?=some (.cells j.cells.toList.toArray E (0,0)):=by
  rw[D0]
 obtain⟨f,ax,k⟩:=qP (P:=P) (i:=0) n (g.w.alloc (.cells j.cells E)) j.cells.toList 0 am (.inl rfl) (by simp;omega) K;have ag:j.cells.toList.take (0+0)++n++j.cells.toList.drop (0+0+n.length)=n:=by
  simp;omega
 rw[ag]at k;have ay:n.length=i.V:=by omega
 have av:(execOp (a.put (some d) (.pointer (some ⟨g.w.heap.size,0,none⟩))).eval p).run P (g.w.alloc (.cells j.cells E)) = .ok .skip f:=by
  simp[execOp,ab,Instr.storeAt,Instr.sureAddr,storeVar,ap,aq,a0,G.size F,ay,ax]
 have y:∀b,b<g.w.heap.size→f.heap[b]?=g.w.heap[b]?:=λb c=>by
  rw[k.other b (by omega)];exact rM _ _ c
 have a5:f.heap.size=g.w.heap.size+1:=by rw[k.size];exact D1 _ _
 let g':Gh:=⟨f,g.ms,g.L⟩
 have q:eA g g' :=.zx ⟨k.os,k.tape,k.output,by show g.w.heap.size≤f.heap.size;omega,λ_ _ aj=>aj,λb c=>⟨⟨by show b<f.heap.size;have:=c.1;omega,c.2⟩,y b c.1⟩⟩ rfl rfl y;have ae:At g' g.w.heap.size 0 n (cX v):=⟨λa8 u ai=>by
  show f.cell? _=_;simp only[World.cell?,k.iv,eS];simpa using ai,K,M.ext q⟩
 have ar:aV g' (.pointer (some ⟨g.w.heap.size,0,none⟩)) (.aE (cX v)):=ae.aE λ_=>⟨by show _<f.heap.size;omega,λt=>by
  have:=hi.oq (show g.L g.w.heap.size from t);omega⟩
 have af:=ak g' (a.put (some d) (.pointer (some ⟨g.w.heap.size,0,none⟩))) q (hi.same q rfl rfl y) ((z.ext q).put H ar);unfold wpList;rw[bO (Is aa)];refine .inl ?_;unfold Oper.wp;rw[au,uF,R];unfold wpList;rw[bO (Is ad)];refine .inl ?_;unfold Oper.wp;rw[av,Oper.upon_skip,ac];exact af
def Cb(P:Program)(X:Cx)(o:fb)(j:Nat)(fz n:List Nat)(l:List Oper)(Q:Exit→Act→World→Prop)(r:R)(k:List Oper)(e:DE)(h:J)(m:DE→J→Option R):Prop:=
 ∀(a:Gh) (f:Act),Inv a h→jn a X.gl→jo j a e f→(∀c i b g,m c i=some r→(∀d,d∉iz k→eI c d=eI e d)→eA a b→Inv b i→jo j b c g→Q .normal g b.w)→wpList P l.toArray Q k f a.w
theorem QX(M:eL P X.T){d:fb}(N:j4 P X d){z:Nat}{fz j:List Nat}{l:List Oper}{Q:Exit→Act→World→Prop}{r:R}{o:Oper}{A:List Oper}{e:DE}{h:J}{E D:DE→J→Option R}(ac:m4 X d z fz j l o e h E=some r)
  (rec:∀(e:DE) (h:J),E e h=some r→Cb P X d z fz j l Q r A e h D):Cb P X d z fz j l Q r (o::A) e h D:=by
 intro L g ab v x K;obtain⟨F,H,af,aa⟩:=Hd ac;have ah:uI P l.toArray Q o g L (wpList P l.toArray Q A):=by
  refine zB M N af ab v (λB F _ ai=>x.get B F ai) λG ak a I ag _=>?_
  rcases aa with⟨b,w⟩|⟨B,b,ad,w⟩
  ·rw[b];refine rec e H w G g I (v.ext a) (x.ext a) λk n m i p q s t u=>K k n m i p (λC c=>q C λf=>c ?_) (a.trans s) t u
   simp only[iz,Lw,b]at f ⊢;exact f
  ·rw[b];refine rec _ H w G (g.put (some B) ak) I (v.ext a) ((x.ext a).put ad ag) λk n m i p q s t u=>K k n m i p (λC c=>?_) (a.trans s) t u
   simp only[iz,Lw,b,fc,not_or]at c;rw[q C c.2,lF,cC (λf=>c.1 f.symm)]
 unfold wpList;rcases ah with⟨y,aj⟩|⟨y,ae⟩
 ·rw[bO y];exact .inl aj
 ·rw[cC (by simp[y])];exact ae
theorem zU(i:eL P X.T){t:fb}(n:j4 P X t){y:Nat}{fz v:List Nat}{l:List Oper}{Q:Exit→Act→World→Prop}{r:R}:∀(m:List Oper) (e:DE) (h:J) (c:DE→J→Option R),jx X t y fz v l m e h c=some r→Cb P X t y fz v l Q r m e h c
 |[],e,h,c,b=>λg a hi s k j=>j e h g a b (λ_ _=>rfl) (eA.refl g) hi k
 |[o],e,h,c,b=>QX i n b λe h b g a hi s k j=>j e h g a b (λ_ _=>rfl) (eA.refl g) hi k
 | o::p::m,e,h,c,b=>by
  simp only[jx]at b;split at b
  ·rename_i E d x aa;have q:=Zf aa;split at b
   ·rename_i ai ag af N;obtain⟨ah,ae,b⟩:=kq.1 b;rcases P2 b with⟨u,_⟩|⟨z,f,ac,b⟩
    ·cases u
    ·injection f with f;subst f;intro g a hi s k j;refine Zg i hi s k af N ae ac q.2.2.2.2.2.2 q λD A w ab ad=>zU i n m _ h c b D A ab (s.ext w) ad λC G F B H I K L M=>j C G F B H (λz f=>?_) (w.trans K) L M
     simp only[iz,Lw,q.2.1,q.2.2.2.2.1,fc,not_or]at f;rw[I z f.2,lF,cC (λu=>f.1 u.symm)]
   ·cases b
  ·exact QX i n b λe h b=>zU i n (p::m) e h c b
theorem QW{w:fb}{s:Nat}{fz v:List Nat}{l:List Oper}{r:R}:∀(a:List Oper) (e:DE) (h:J) (g:List J) (k:DE→J→List J→Option R),o2 X w s fz v l a e h g k=some r →
  ∃(c:Nat→DE) (f:Nat→J) (u:Nat→D),c 0=e∧f 0=h∧(∀(i:Nat) (o:Oper),a[i]?=some o→iY X w fz v l o (c i) (f i)=some (u i,f (i+1))∧(o.dst=none→c (i+1)=c i)∧(∀t,o.dst=some t→t<s∧c (i+1)=(t,u i)::c i)) ∧
   k (c a.length) (f a.length) (g++((List.range a.length).filter (fE X.T fz a)).map λi=>f (i+1))=some r
 |[],e,h,g,k,x=>⟨λ_=>e,λ_=>h,λ_ =>.any,rfl,rfl,by simp,by simpa[o2]using x⟩
 | o::a,e,h,g,k,x=>by
  obtain⟨d,h',H,E⟩:=Hd x;obtain⟨n,p,A,y⟩:∃n,o2 X w s fz v l a n h' (match jt X.T fz o with|true=>g++[h']|false=>g) k=some r∧((o.dst=none→n=e)∧∀t,o.dst=some t→n=(t,d)::e)∧(∀t,o.dst=some t→t<s):=by
   rcases E with⟨m,p⟩|⟨t,m,y,p⟩
   ·exact⟨e,p,⟨λ_=>rfl,(λt b=>by rw[m]at b;cases b)⟩,(λt b=>by rw[m]at b;cases b)⟩
   ·exact⟨_,p,⟨(λb=>by rw[m]at b;cases b),(λN j=>by rw[m]at j;injection j with j;subst j;rfl)⟩,(λN j=>by rw[m]at j;injection j with j;subst j;exact y)⟩
  obtain⟨c,f,u,K,B,L,M⟩:=QW a n h' _ k p;refine⟨λi=>match i with|0=>e|i+1=>c i,λi=>match i with|0=>h|i+1=>f i,λi=>match i with|0=>d|i+1=>u i,rfl,rfl,λi I z=>?_,?_⟩
  ·cases i with
   | zero =>
    simp at z;subst z;simp only[K,B];exact⟨H,A.1,λt b=>⟨y t b,A.2 t b⟩⟩
   |succ i=>exact L i I (by simpa using z)
  ·simp only[g7];rw[← M];have F:((List.range a.length).map Nat.succ).filter (fE X.T fz (o::a))=((List.range a.length).filter (fE X.T fz a)).map Nat.succ:=by
    rw[List.filter_map];congr 1
   have G:(g++((List.range (a.length+1)).filter (fE X.T fz (o::a))).map λi=>f i)=(match jt X.T fz o with|true=>g++[h']|false=>g)++((List.range a.length).filter (fE X.T fz a)).map λi=>f (i+1):=by
    have C:fE X.T fz (o::a) 0=jt X.T fz o:=rfl;rw[List.range_succ_eq_map,oh,F,C];by_cases q:jt X.T fz o=true
    ·rw[bO q,q];simp[B,sx,kY]
    ·rw[cC q];simp only[Bool.not_eq_true]at q;rw[q];simp[sx,kY]
   rw[← G]
def nA(c:Array Nat)(o:Oper):Nat:=o.after.foldl (λb a=>if Region.binds .any a then b ||| 2 ^ a.on ||| c.getD a.on 0 else b) 0
theorem Sj(b:Array Oper):Region.before b=b.toList.foldl (λa o=>a.push (nA a o)) #[]:=by
 unfold Region.before nA;rw[← ID]
theorem Si {c:Array Nat} {o:Oper} {j:Nat} (h:(nA c o).testBit j=true):∃x∈o.after.toList,Region.binds .any x=true∧(x.on=j∨(c.getD x.on 0).testBit j=true):=by
 unfold nA at h;rw[← ID]at h;have k:∀ (d:List Edge) (b:Nat),(d.foldl (λb e=>if Region.binds .any e then b ||| 2 ^ e.on ||| c.getD e.on 0 else b) b).testBit j=true→b.testBit j=true∨∃x∈d,Region.binds .any x=true∧(x.on=j∨(c.getD x.on 0).testBit j=true):=by
  intro d
  induction d with
  |nil=>intro b h;exact .inl h
  | cons x m i =>
   intro b h;rw[o9]at h;rcases i _ h with a|⟨l,g,a⟩
   ·split at a
    ·rename_i f;simp only[Nat.testBit_or,o5]at a;rcases a with(a|a)|a
     ·exact .inl a
     ·refine .inr ⟨x,k0 ..,f,.inl ?_⟩;rw[Nat.testBit_two_pow]at a;simpa using a
     ·exact .inr ⟨x,k0 ..,f,.inr a⟩
    ·exact .inl a
   ·exact .inr ⟨l,kF _ g,a⟩
 rcases k _ 0 h with a|a
 ·simp at a
 ·exact a
theorem N9:∀(l:List Oper) (a:Array Nat),(∀k,k<a.size→(l.foldl (λa o=>a.push (nA a o)) a)[k]?=a[k]?)∧(l.foldl (λa o=>a.push (nA a o)) a).size=a.size+l.length ∧
  ∀(i:Nat) (o:Oper),l[i]?=some o→∃b:Array Nat,b.size=a.size+i∧(∀k,k<b.size→(l.foldl (λa o=>a.push (nA a o)) a)[k]?=b[k]?)∧(l.foldl (λa o=>a.push (nA a o)) a)[a.size+i]?=some (nA b o)
 |[],a=>⟨λ_ _=>rfl,by simp,λi o h=>by cases h⟩
 | p::l,a=>by
  obtain⟨d,h2,f⟩:=N9 l (a.push (nA a p));simp only[o9];simp only[Array.size_push]at d h2 f;refine⟨λk c=>?_,by rw[h2];simp;omega,λi o e=>?_⟩
  ·rw[d k (by omega),IG c,p0 c]
  ·cases i with
   | zero =>
    simp at e;subst e;refine⟨a,rfl,λk c=>?_,?_⟩
    ·rw[d k (by omega),IG c,p0 c]
    ·rw[ns,d _ (by omega)];simp
   | succ i =>
    obtain⟨b,m,g,j⟩:=f i o (by simpa using e);exact⟨b,by omega,g,by rw[← j];congr 1;omega⟩
theorem Sl{l:List Oper}{i j:Nat}{o:Oper}(k:l[i]?=some o)(h:kg (ks l) i j=true):∃x∈o.after.toList,Region.binds .any x=true∧(x.on=j∨(x.on<i∧kg (ks l) x.on j=true)):=by
 obtain⟨_,t,m⟩:=N9 l #[];obtain⟨r,p,q,e⟩:=m i o k;simp only[xb,e6,eS]at p e;have d:∀b:Nat,(ks l).getD b 0=((l.foldl (λc o=>c.push (nA c o)) #[])[b]?).getD 0:=λb=>by
  unfold ks;rw[Sj];simp[sw]
 unfold kg at h ⊢;rw[d i,e]at h;obtain⟨x,n,f,a⟩:=Si h;refine⟨x,n,f,?_⟩;rcases a with a|a
 ·exact .inl a
 ·rcases gG x.on i with g|s
  ·refine .inr ⟨g,?_⟩;rw[d x.on,q _ (by omega)]
   rwa [gE]at a
  ·rw[gE,Array.getElem?_eq_none (by omega)]at a;simp at a
theorem sK{l:List Oper}{S:Nat→Prop}(d:∀(i:Nat) (o:Oper),S i→l[i]?=some o→∀x∈o.after.toList,Region.binds .any x=true→S x.on):∀(n i j:Nat) (o:Oper),i<n→l[i]?=some o→(∀x∈o.after.toList,Region.binds .any x=true→S x.on)→(∀k,S k→∃p,l[k]?=some p)→kg (ks l) i j=true→S j
 |0,i,j,o,m,_,_,_,_=>by omega
 | n+1,i,j,o,m,q,g,e,h=>by
  obtain⟨x,r,b,c⟩:=Sl q h;have a:=g x r b;rcases c with rfl|⟨u,c⟩
  ·exact a
  ·obtain⟨p,f⟩:=e _ a;exact sK d n x.on j p (by omega) f (λt s b=>d x.on p a f t s b) e c
theorem Cq{r:Nat}{l:List Oper}(n:qM r l=true){i j:Nat}{o:Oper}(g:l[i]?=some o)(h:kg (ks l) i j=true):j<i:=by
 have s:=(bR.1 g).1;have m:∀(a:Nat) (c:Oper),l[a]?=some c→∀b∈c.after.toList,Region.binds .any b=true→b.on<a:=λa c e b k f=>by
  simp only[qM,gJ]at n;have d:=(bR.1 e).1;have:=(iL.1 n.2) a (by simp[d]);have p:b.on∈lS l.toArray a:=by
   unfold lS;have q:l.toArray[a]?=some c:=by simpa using e
   rw[q];simp only[g8,kG];exact⟨b,⟨k,f⟩,rfl⟩
  exact fQ ((iL.1 this) _ p)
 refine sK (S:=λa=>a<i) (λa c d e b k f=>Nat.lt_trans (m a c e b k f) d) (i+1) i j o (by omega) g (m i o g) (λa d=>⟨_,dG (show a<l.length by omega)⟩) h
end
end Go.Pi
