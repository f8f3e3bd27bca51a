/- Part 1 of the texts that the theorem needs: an interpreter on data, proved sound; the functions on data; laws about them. -/
import Derived.WalkKit
import Derived.Orders
import Derived.Deep.LoopGhost
import Derived.KernelRfl
import Derived.Laws.StructEq
import Derived.Laws.IdiomStrings
set_option linter.unusedSimpArgs false
set_option linter.unusedVariables false
set_option linter.unnecessarySimpa false
namespace Go.Eng
abbrev aJ:=@if_true
abbrev bE:=@if_pos
abbrev bO:=@List.getElem?_eq_some_iff
abbrev cH:=@if_neg
abbrev eW:=@Nat.le_of_ble_eq_true
abbrev fg:=@Array.getD_eq_getD_getElem?
abbrev gg:=@List.all_eq_true
abbrev ib:=@Nat.eq_of_beq_eq_true
abbrev jr:=@Nat.zero_le
abbrev lr:=@Bool.not_eq_true'
abbrev lR:=@Array.getElem?_setIfInBounds_ne
abbrev lU:=@List.cons_append
abbrev nG:=@Bool.or_eq_true
abbrev pH:=@Calls.mono
abbrev ye:=@List.any_eq_true
end Go.Eng
namespace Go.Eng
abbrev eU:=List (Nat × Value)
def lk:eU→Nat→Option Value
 |[],_=>none
 | (k,v)::r,t=>match Nat.beq k t with
  |true=>some v
  |false=>lk r t
def ev(e:eU):Operand→Option Value
 |.tmp t=>lk e t
 |.const v=>some v
 |.global g=>some (.pointer (some ⟨g,0,none⟩))
 |.func f=>some (.func (.func f) #[] #[])
structure oD (n:Nat) (e:eU) (a:Act):Prop where
 size:a.tmps.size=n
 defers:a.defers=[]
 get:∀t v,lk e t=some v→a.tmps.getD t undef=v
def yb(e:eU)(ρ:Operand→Value):Prop:=∀x v,ev e x=some v→ρ x=v
section
variable {n:Nat} {e:eU} {a:Act}
theorem oa(k:Nat)(v:Value)(r:eU)(t:Nat):lk ((k,v)::r) t=if k=t then some v else lk r t:=by
 simp only[lk];by_cases a:k=t
 ·subst a;simp
 ·have:Nat.beq k t=false:=by
    cases b:Nat.beq k t with
    |true=>exact absurd (ib b) a
    |false=>rfl
  rw[this,cH a]
theorem oD.put(h:oD n e a){d:Nat}(f:d<n)(v:Value):oD n ((d,v)::e) (a.put (some d) v):=by
 refine⟨by simp[Act.put,h.size],by simp[Act.put,h.defers],λt g b=>?_⟩;rw[oa]at b;by_cases c:d=t
 ·subst c;rw[bE rfl]at b;injection b with b;subst b;simp[Act.put,Array.getD,h.size,f]
 ·rw[cH c]at b;have:=h.get t g b;rw[← this];simp only[Act.put,fg];rw[lR (by omega)]
end
def Sub(e' e:eU):Prop:=∀t v,lk e' t=some v→lk e t=some v
theorem Sub.nil{e:eU}:Sub [] e:=λ_ _ a=>by cases a
theorem Sub.cons{t:Nat}{v:Value}{r e:eU}(h:lk e t=some v)(c:Sub r e):Sub ((t,v)::r) e:=by
 intro b x hx;rw[oa]at hx;by_cases a:t=b
 ·subst a;rw[bE rfl]at hx;injection hx with hx;rw[← hx];exact h
 ·rw[cH a]at hx;exact c b x hx
theorem Sub.refl(e:eU):Sub e e:=λ_ _ a=>a
theorem Sub.trans{a b c:eU}(h:Sub a b)(k:Sub b c):Sub a c:=λt v x=>k t v (h t v x)
theorem Sub.sat{n:Nat}{e e':eU}{a:Act}(h:Sub e' e)(b:oD n e a):oD n e' a:=⟨b.size,b.defers,λt v x=>b.get t v (h t v x)⟩
def keys:eU→List Nat
 |[]=>[]
 |(k,_)::r=>k::keys r
theorem HW{e:eU}{t:Nat}(h:t∉keys e):lk e t=none:=by
 induction e with
 |nil=>rfl
 | cons x c b =>
  obtain⟨k,v⟩:=x;simp[keys]at h;rw[oa,cH (λa=>h.1 a.symm)];exact b h.2
theorem HU{e r:eU}{t:Nat}(h:lk e t=none):lk (e++r) t=lk r t:=by
 induction e with
 |nil=>rfl
 | cons x c b =>
  obtain⟨k,v⟩:=x;rw[lU,oa];rw[oa]at h;by_cases a:k=t
  ·rw[bE a]at h;cases h
  ·rw[cH a]at h;rw[cH a];exact b h
theorem Sf{e r:eU}{t:Nat}{v:Value}(h:lk e t=some v):lk (e++r) t=some v:=by
 induction e with
 |nil=>cases h
 | cons x c b =>
  obtain⟨k,d⟩:=x;rw[lU,oa];rw[oa]at h;by_cases a:k=t
  ·rw[bE a]at h;rw[bE a];exact h
  ·rw[cH a]at h;rw[cH a];exact b h
def Fp(p:List Nat)(c b:List Nat):Bool:=p.all λk=>c.any (Nat.beq k) || !(b.any (Nat.beq k))
theorem Sub.back{c p b:eU}(l:Sub c (p++b))(f:Fp (keys p) (keys c) (keys b)=true):Sub (c++b) (p++b):=by
 intro t v d;cases e:lk c t with
 | some j =>
  rw[Sf e]at d;injection d with d;subst d;exact l t j e
 | none =>
  rw[HU e]at d;by_cases i:t∈keys p
  ·simp only[Fp,gg,nG,lr,ye]at f;rcases f t i with⟨x,hx,g⟩|g
   ·have:=ib g;subst this;exfalso;have:∀{h:eU},t∈keys h→lk h t≠none:=by
     intro h
     induction h with
     |nil=>intro e;cases e
     | cons y o n =>
      obtain⟨k,j⟩:=y;intro a;rw[oa];by_cases f:k=t
      ·rw[bE f];simp
      ·rw[cH f];simp[keys]at a;rcases a with a|a
       ·exact absurd a.symm f
       ·exact n a
    exact this hx e
   ·have m:t∉keys b:=by
      intro a;simp at g;exact g t a rfl
    rw[HW m]at d;cases d
  ·rw[HU (HW i)];exact d
def xo(P:Program)(n:Nat)(c:Code)(Q:Exit→Act→World→Prop)(e:eU)(w:World):Prop:=∀a,oD n e a→c.wp P Q a w
def CV(P:Program)(n:Nat)(ops:Array Oper)(Q:Exit→Act→World→Prop)(l:List Oper)(e:eU)(w:World):Prop:=∀a,oD n e a→wpList P ops Q l a w
def pE(n:Nat)(Q:Exit→Act→World→Prop)(x:Exit)(e:eU)(w:World):Prop:=∀a,oD n e a→Q x a w
def mz(P:Program)(f:FuncId)(args:Array Value)(w:World)(R:Value→World→Prop):Prop:=Calls P f args w λe a=>∃v,e = .returned v∧R v a
theorem mz.mono{P:Program}{f:FuncId}{args:Array Value}{w:World}{R a:Value→World→Prop}(h:mz P f args w R)(b:∀v w',R v w'→a v w'):mz P f args w a:=
 pH h λ_ _ ⟨v,c,h⟩=>⟨v,c,b _ _ h⟩
section code
variable {P:Program} {n:Nat} {Q:Exit→Act→World→Prop} {e:eU} {w:World}
theorem xo.sub{c:Code}{e':eU}(h:xo P n c Q e' w)(d:Sub e' e):xo P n c Q e w:=λa b=>h a (d.sat b)
theorem CV.sub{ops:Array Oper}{l:List Oper}{e':eU}(h:CV P n ops Q l e' w)(c:Sub e' e):CV P n ops Q l e w:=λa b=>h a (c.sat b)
theorem pE.sub{x:Exit}{e':eU}(h:pE n Q x e' w)(c:Sub e' e):pE n Q x e w:=λa b=>h a (c.sat b)
def sY:Nat→List Value→eU
 |_,[]=>[]
 |k,v::r=>(k,v)::sY (k+1) r
theorem HV:∀(l:List Value) (k t:Nat),lk (sY k l) t=if k≤t then l[t - k]? else none
 |[],k,t=>by simp[sY,lk]
 | v::r,k,t=>by
  rw[sY,oa,HV r (k+1) t];by_cases h:k=t
  ·subst h;simp
  ·rw[cH h];by_cases a:k+1≤t
   ·rw[bE a,bE (by omega)];obtain⟨d,rfl⟩:∃d,t=k+1+d:=⟨t - (k+1),by omega⟩
    rw[show k+1+d - (k+1)=d from by omega,show k+1+d - k=d+1 from by omega];simp
   ·rw[cH a,cH (by omega)]
theorem enter{f:FuncId}{fn:Func}{c:Code}{args:List Value}{R:Value→World→Prop}(d:P.funcs[f]?=some fn)(b:fn.body=some c)(i:fn.ntmps=n)(g:Nat.ble args.length n=true)
  (h:xo P n c (bodyPost P fn λe w'=>∃v,e = .returned v∧R v w') (sY 0 args) w):mz P f args.toArray w R:=by
 refine calls_of_wp d b (h _ ⟨?_,rfl,λt v a=>?_⟩)
 ·have:=eW g;simp[i];omega
 ·rw[HV]at a;simp only[jr,aJ,Nat.sub_zero]at a;simp[fg,Array.getElem?_append,(bO.1 a).1];exact(bO.1 a).2
def w5(b:Array Value):ResultVar→Sem Value
 |.tmp t=>pure (b.getD t undef)
 |.cell a t=>do loadVar t (← asAddr (b.getD a undef))
theorem Um(fn:Func)(a:Array Value):results fn a=(do let vs ← fn.results.mapM (w5 a);pure (if h:vs.size=1 then vs[0]else .tuple vs)):=by
 unfold results;congr 1
variable {fn:Func} {R:Value→World→Prop}
end code
def yz(P:Program)(o:Oper)(e:eU)(w:World)(v:Value):Prop:=∀a,yb e a→(execOp a o).run P w = .ok (.value v) w
section steps
variable {P:Program} {n:Nat} {ops:Array Oper} {Q:Exit→Act→World→Prop} {rest:List Oper} {o:Oper} {e:eU} {w:World} {d:Nat} {v:Value}
end steps
section pure_ops
variable {P:Program} {e:eU} {w:World} {d:Option Tmp} {ty:TypeId} {pos:String} {af:Array Edge} {O:Option (Nat × Bool)}
section ints
variable {t t':TypeId} {x y:Operand} {k:IntKind} {i j:Int} (hx:ev e x=some (.int k i)) (hy:ev e y=some (.int k j))
include hx hy
end ints
theorem uH{z:Int}(a : -9223372036854775808≤z)(b:z≤9223372036854775807):IntKind.i64.wrap z=z:=by rw[IntKind.wrap_i64];omega
section ints64
variable {t t':TypeId} {x y:Operand} {i j:Int} (hx:ev e x=some (.int .i64 i)) (hy:ev e y=some (.int .i64 j))
include hx hy
end ints64
theorem yz.to{o:Oper}{v:Value}(h:yz P o e w v)(a:Value)(b:v=a):yz P o e w a:=by subst b;exact h
section strings
variable {t t':TypeId} {x y:Operand} {a b:ByteArray} (hx:ev e x=some (.string a)) (hy:ev e y=some (.string b))
include hx hy
end strings
end pure_ops
abbrev aX:=@Nat.le_refl
abbrev cJ:=@List.getElem?_eq_getElem
abbrev dF:=@Nat.zero_add
abbrev eV:=@List.getElem?_append_left
abbrev fF:=@List.getElem?_take
abbrev fH:=@Nat.add_mul
abbrev fQ:=@List.eq_nil_of_length_eq_zero
abbrev hV:=@List.getElem?_append_right
abbrev hX:=@Nat.le_trans
abbrev iI:=@Array.getElem?_eq_some_iff
abbrev jq:=@Nat.lt_of_lt_of_le
abbrev jG:=@Nat.mul_le_mul_right
abbrev kt:=@List.getElem?_drop
abbrev lV:=@List.length_take
abbrev nM:=@Nat.add_assoc
abbrev pU:=@Nat.eq_zero_or_pos
abbrev pV:=@Nat.zero_mul
abbrev sG:=@List.flatMap_cons
abbrev ym:=@Nat.min_eq_left
abbrev E0:=@List.length_drop
end Go.Eng
namespace Go.Eng
structure Gw where
 w:World
 F:Nat→Nat
 ok:∀b,w.heap.size≤b→F b=0
structure Ev (M:Nat→Prop) (g g':Gw):Prop where
 os:g'.w.os=g.w.os
 tape:g'.w.tape=g.w.tape
 output:g'.w.output=g.w.output
 size:g.w.heap.size≤g'.w.heap.size
 mono:∀b,g.F b≤g'.F b
 cell:∀b o,o<g.F b→g'.w.cell? ⟨b,o,none⟩=g.w.cell? ⟨b,o,none⟩
 bH:∀b,b<g.w.heap.size→¬M b→g'.w.heap[b]?=g.w.heap[b]?∧g'.F b=g.F b
def yl:Nat→Prop:=λ_=>False
section
variable {M M':Nat→Prop} {g g' g'':Gw}
theorem Ev.refl(M:Nat→Prop)(g:Gw):Ev M g g:=⟨rfl,rfl,rfl,aX _,λ_=>aX _,λ_ _ _=>rfl,λ_ _ _=>⟨rfl,rfl⟩⟩
theorem Ev.step(h:Ev M g g')(k:Ev M' g' g'')(j:∀b,M' b→M b∨g.w.heap.size≤b):Ev M g g'':=
 ⟨k.os.trans h.os,k.tape.trans h.tape,k.output.trans h.output,hX h.size k.size,λb=>hX (h.mono b) (k.mono b),
  λb e a=>(k.cell b e (jq a (h.mono b))).trans (h.cell b e a),
  λb a d=>by
   obtain⟨f,i⟩:=h.bH b a d;obtain⟨l,m⟩:=k.bH b (jq a h.size) (λc=>by
    rcases j b c with c|c
    ·exact d c
    ·omega)
   exact⟨l.trans f,m.trans i⟩⟩
theorem Ev.trans(h:Ev M g g')(k:Ev M g' g''):Ev M g g'':=h.step k λ_ a =>.inl a
theorem Ev.no(h:Ev M g g')(k:Ev yl g' g''):Ev M g g'':=h.step k λ_ a=>a.elim
theorem Ev.weaken(h:Ev M g g')(a:∀b,M b→M' b∨g.w.heap.size≤b):Ev M' g g':=(Ev.refl M' g).step h a
theorem Ev.below(h:Ev yl g g'):RowKit.Below g.w.heap.size g.w g'.w:=⟨h.os,h.tape,h.output,h.size,λb a=>(h.bH b a (λc=>c.elim)).1⟩
end
theorem Q8(w:World)(o:Obj)(b:Nat)(h:b<w.heap.size):(w.alloc o).heap[b]?=w.heap[b]?:=RowKit.Below.heap_alloc w o b h
def Gw.push(g:Gw)(o:Obj)(m:Nat):Gw:=⟨g.w.alloc o,λb=>if b=g.w.heap.size then m else g.F b,λb a=>by
 have c:g.w.heap.size+1≤b:=by
  have:(g.w.heap.push o).size≤b:=a;simpa using this
 rw[cH (by omega)];exact g.ok b (by omega)⟩
def Gw.set(g:Gw)(ad:Addr)(v:Value):Gw:=⟨g.w.setCell ad v,g.F,λb a=>g.ok b (by simpa[World.setCell]using a)⟩
def Gw.draw(g:Gw):Gw:=⟨{ g.w with drawn:=g.w.drawn+1 },g.F,g.ok⟩
def Gw.cV(g:Gw)(b m:Nat)(d:b<g.w.heap.size):Gw:=⟨g.w,λa=>if a=b then max m (g.F b)else g.F a,λa c=>by
 rw[cH (by omega)];exact g.ok a c⟩
def fo(g:Gw)(b T:Nat)(cs:List Value):Prop:=g.w.heap[b]?=some (.cells cs.toArray T (0,0))∧g.F b=0
section
variable {M:Nat→Prop} {g g':Gw} {b T:Nat} {cs:List Value}
theorem fo.lt(h:fo g b T cs):b<g.w.heap.size:=(iI.1 h.1).1
theorem fo.cell(h:fo g b T cs)(i:Nat):g.w.cell? ⟨b,i,none⟩=cs[i]?:=by
 have:=h.1;simp[World.cell?,this]
theorem fo.frozen(h:fo g b T cs)(i:Nat):g.w.frozen? ⟨b,i,none⟩=false:=by
 have:=h.1;simp[World.frozen?,this]
theorem fo.ev(h:fo g b T cs)(a:Ev M g g')(c:¬M b):fo g' b T cs:=⟨(a.bH b h.lt c).1.trans h.1,(a.bH b h.lt c).2.trans h.2⟩
theorem fo.new(g:Gw)(T:Nat)(cs:List Value):fo (g.push (.cells cs.toArray T) 0) g.w.heap.size T cs:=⟨heap_alloc_new g.w _,by simp[Gw.push]⟩
end
structure jm (g:Gw) (a:Option Addr) (n cap Y:Nat) (cs:List Value):Prop where
 len:cs.length=n*Y
 nc:n≤cap
 cm:cap≤9223372036854775807
 pos:0<n→∃b o,a=some ⟨b,o,none⟩∧o+n*Y≤g.F b∧∀j v,cs[j]?=some v→g.w.cell? ⟨b,o+j,none⟩=some v
section
variable {M:Nat→Prop} {g g':Gw} {a:Option Addr} {n cap Y:Nat} {cs:List Value}
theorem jm.ev(h:jm g a n cap Y cs)(d:Ev M g g'):jm g' a n cap Y cs:=
 ⟨h.len,h.nc,h.cm,λl=>by
  obtain⟨b,f,i,j,k⟩:=h.pos l;refine⟨b,f,i,hX j (d.mono b),λc m e=>?_⟩;have o:c<n*Y:=by rw[← h.len];exact(bO.1 e).1
  rw[d.cell b (f+c) (by omega)];exact k c m e⟩
theorem jm.nil(g:Gw)(a:Option Addr)(cap Y:Nat)(c:cap≤9223372036854775807):jm g a 0 cap Y []:=⟨by simp,jr _,c,λb=>absurd b (by omega)⟩
theorem jm.empty(h:jm g a 0 cap Y cs):cs=[]:=fQ (by simpa using h.len)
theorem jm.at_(h:jm g a n cap Y cs)(d:0<n):∃b o,a=some ⟨b,o,none⟩:=by
 obtain⟨b,o,c,_⟩:=h.pos d;exact⟨b,o,c⟩
theorem jm.cell{b o:Nat}(h:jm g (some ⟨b,o,none⟩) n cap Y cs){j:Nat}{v:Value}(d:cs[j]?=some v):g.w.cell? ⟨b,o+j,none⟩=some v:=by
 have i:j<n*Y:=by rw[← h.len];exact(bO.1 d).1
 have k:0<n:=by
  rcases pU n with c|c
  ·subst c;simp at i
  ·exact c
 obtain⟨l,m,a,_,f⟩:=h.pos k;injection a with a;injection a with a e;subst a;subst e;exact f j v d
theorem jm.cut(h:jm g a n cap Y cs){l m:Nat}(u:l≤m)(q:m≤n)(c:Nat)(k:m - l≤c)(p:c≤9223372036854775807)(e:Option Addr)(j:∀b o,l<m→a=some ⟨b,o,none⟩→e=some ⟨b,o+l*Y,none⟩):
  jm g e (m - l) c Y ((cs.take (m*Y)).drop (l*Y)):=by
 have r:m*Y≤n*Y:=jG Y q;refine⟨?_,k,p,λv=>?_⟩
 ·rw[E0,lV,h.len,ym r,Nat.sub_mul]
 ·obtain⟨b,o,f,t,i⟩:=h.pos (by omega);refine⟨b,o+l*Y,j b o (by omega) f,?_,λw s d=>?_⟩
  ·have:l*Y+(m - l)*Y=m*Y:=by rw[← fH];congr 1;omega
   omega
  ·rw[nM];refine i _ s ?_;rw[kt]at d;rw[fF]at d;split at d
   ·exact d
   ·cases d
end
theorem G4{α:Type}{f:α→List Value}{Y:Nat}(a:∀x,(f x).length=Y):∀(xs:List α) (i j:Nat) (x:α),xs[i]?=some x→j<Y→(xs.flatMap f)[i*Y+j]?=(f x)[j]?
 |[],i,j,x,h,_=>by simp at h
 | y::ys,0,j,x,h,b=>by
  simp at h;subst h;simp only[pV,dF,sG];rw[eV (by rw[a];exact b)]
 | y::ys,i+1,j,x,h,b=>by
  simp at h;simp only[sG];rw[hV (by rw[a,fH];omega),a,show(i+1)*Y+j - Y=i*Y+j from by rw[fH];omega];exact G4 a ys i j x h b
structure gW {α:Type} (g:Gw) (a:Option Addr) (n cap Y:Nat) (f:α→List Value) (xs:List α):Prop where
 sl:jm g a n cap Y (xs.flatMap f)
 num:xs.length=n
 cells:∀x,(f x).length=Y
section
variable {α:Type} {M:Nat→Prop} {g g':Gw} {a:Option Addr} {n cap Y:Nat} {f:α→List Value} {xs:List α}
theorem gW.ev(h:gW g a n cap Y f xs)(b:Ev M g g'):gW g' a n cap Y f xs:=⟨h.sl.ev b,h.num,h.cells⟩
theorem gW.cell{b o:Nat}(h:gW g (some ⟨b,o,none⟩) n cap Y f xs){i j:Nat}{x:α}{v:Value}(d:xs[i]?=some x)(a:(f x)[j]?=some v):g.w.cell? ⟨b,o+i*Y+j,none⟩=some v:=by
 have c:j<Y:=by rw[← h.cells x];exact(bO.1 a).1
 rw[nM];exact h.sl.cell (by rw[G4 h.cells xs i j x d c];exact a)
theorem gW.at_(h:gW g a n cap Y f xs)(c:0<n):∃b o,a=some ⟨b,o,none⟩:=h.sl.at_ c
theorem gW.nil(g:Gw)(a:Option Addr)(cap Y:Nat)(f:α→List Value)(c:∀x,(f x).length=Y)(b:cap≤9223372036854775807):gW g a 0 cap Y f []:=⟨jm.nil g a cap Y b,rfl,c⟩
theorem gW.get(h:gW g a n cap Y f xs){i:Nat}(hi:i<n):∃x,xs[i]?=some x:=⟨xs[i]'(by rw[h.num];exact hi),cJ (by rw[h.num];exact hi)⟩
end
def Own(g:Gw)(base:Nat)(a:Option Addr)(n cap Y T:Nat):Prop:=
 (a=none∧n=0∧cap=0)∨∃b c,a=some ⟨b,0,none⟩∧base≤b∧g.w.heap[b]?=some (.cells c T (0,0))∧n≤cap∧cap≤9223372036854775807∧c.size=cap*Y∧g.F b=n*Y
def s5(a:Option Addr):Nat→Prop:=λb=>a.map (·.block)=some b
section
variable {M:Nat→Prop} {g g':Gw} {base:Nat} {a:Option Addr} {n cap Y T:Nat}
theorem Own.nil(g:Gw)(base Y T:Nat):Own g base none 0 0 Y T :=.inl ⟨rfl,rfl,rfl⟩
theorem Own.ev(h:Own g base a n cap Y T)(p:Ev M g g')(m:∀b,s5 a b→base≤b→¬M b):Own g' base a n cap Y T:=by
 rcases h with h|⟨b,f,c,d,e,i,j,k,l⟩
 ·exact .inl h
 ·have o:b<g.w.heap.size:=(iI.1 e).1;obtain⟨q,r⟩:=p.bH b o (m b (by simp[s5,c]) d);exact .inr ⟨b,f,c,d,q.trans e,i,j,k,r.trans l⟩
theorem Own.weaken{c:Nat}(h:Own g base a n cap Y T)(j:c≤base):Own g c a n cap Y T:=by
 rcases h with h|⟨b,d,e,i,f⟩
 ·exact .inl h
 ·exact .inr ⟨b,d,e,by omega,f⟩
end
section mem
variable {P:Program} {e:eU} {g:Gw} {d:Option Tmp} {ty:TypeId} {pos:String} {af:Array Edge} {O:Option (Nat × Bool)}
def One(P:Program)(t:TypeId):Prop:=∀a,(isAgg t).run P a = .ok false a
def Kh(P:Program)(t:TypeId):Prop:=∀a,(isAgg t).run P a = .ok true a
def KQ(P:Program)(t:TypeId)(n:Nat):Prop:=∀a,(sizeOf t).run P a = .ok n a
theorem Sh{t:TypeId}(a:One P t){ad:Addr}{w:World}{v:Value}(b:w.cell? ad=some v):(loadVar t ad).run P w = .ok v w:=by
 unfold loadVar;simp[a w,b]
theorem Sg{t:TypeId}{Y:Nat}(a:Kh P t)(d:KQ P t Y){ad:Addr}{w:World}{vs:List Value}(c:vs.length=Y)(b:∀j v,vs[j]?=some v→w.cell? (ad.add j)=some v):(loadVar t ad).run P w = .ok (.agg vs.toArray) w:=by
 unfold loadVar;have:=run_loadCells_list (P:=P) (w:=w) ad vs b;rw[c]at this;simp[a w,d w,this]
end mem
abbrev eO:=@Bool.and_eq_true
abbrev eS:=@List.mem_of_getElem?
abbrev gi:=@congrArg
abbrev kR:=@List.mem_filterMap
end Go.Eng
namespace Go.Eng
def kB(ops:Array Oper)(k:Nat):List Nat:=match ops[k]? with
 |some o=>(o.after.toList.filter (Region.binds .any ·)).map (·.on)
 |none=>[]
def fL(l:List Oper):List Nat:=l.filterMap (·.dst)
def lh(t:Nat)(l:List Nat):Bool:=l.any (Nat.beq t)
theorem oc{t:Nat}{l:List Nat}:lh t l=true↔t∈l:=by
 simp[lh]
def vz:List Oper→Bool
 |[]=>true
 | o::r=>(match o.dst with
  |some d => !(lh d (fL r))
  |none=>true)&&vz r
theorem Ik{l:List Oper}{j:Nat}{o:Oper}{d:Nat}(h:l[j]?=some o)(a:o.dst=some d):d∈fL l:=by
 unfold fL;rw[kR];exact⟨o,eS h,a⟩
theorem F6:∀{l:List Oper},vz l=true→∀{i j:Nat} {o p:Oper} {d:Nat},l[i]?=some o→l[j]?=some p→o.dst=some d→p.dst=some d→i=j
 |[],_,i,_,o,_,_,hi,_,_,_=>by simp at hi
 | x::r,h,i,j,o,p,d,hi,b,c,e=>by
  simp only[vz,eO]at h;obtain⟨a,h2⟩:=h;cases i with
  | zero =>
   simp at hi;subst hi;cases j with
   |zero=>rfl
   | succ j =>
    simp at b;rw[c]at a;simp only[lr]at a;have:=oc.2 (Ik b e);rw[a]at this;cases this
  | succ i =>
   simp at hi;cases j with
   | zero =>
    simp at b;subst b;rw[e]at a;simp only[lr]at a;have:=oc.2 (Ik hi c);rw[a]at this;cases this
   | succ j =>
    simp at b;exact gi (· + 1) (F6 h2 hi b c e)
def po(n:Nat)(l:List Oper):Bool:=
 vz l&&(fL l).all (λd=>Nat.blt d n)&&(List.range l.length).all λa=>(kB l.toArray a).all λb=>Nat.blt b a
section og
variable {P:Program} {n:Nat} {l:List Oper} {Q:Exit→Act→World→Prop} {M:Nat→Prop} {J:Gw→Prop} {T:Nat→Value→Gw→Prop} {e0:eU} {g0:Gw}
end og
section quiet
variable {P:Program} {ops:Array Oper} {M:Nat→Prop} {J:Gw→Prop} {g0:Gw} {K:eU→Prop} {o:Oper} {rest:List Oper} {e:eU} {d:Nat} {v:Value}
end quiet
def vm(M:Nat→Prop)(g:Gw)(R:Value→Gw→Prop)(v:Value)(w':World):Prop:=∃a,a.w=w'∧Ev M g a∧R v a
theorem vm.mono{M a:Nat→Prop}{g:Gw}{R c:Value→Gw→Prop}{v:Value}{w':World}(h:vm M g R v w')(i:∀b,M b→a b∨g.w.heap.size≤b)(j:∀g',R v g'→c v g'):vm a g c v w':=by
 obtain⟨g',d,e,f⟩:=h;exact⟨g',d,e.weaken i,j g' f⟩
def Gw.of(w:World):Gw:=⟨w,λ_=>0,λ_ _=>rfl⟩
end Go.Eng
namespace Go.Eng
def Ki(T:Nat)(g:Gw)(f:Nat)(c:Option Addr)(a e:Nat)(W:List Int)(i:Nat):Prop:=
 fo g f T [.slice c a e,.int .i64 (i:Int)]∧gW g c a e 1 (λb:Int=>[Value.int .u8 b]) W∧i≤a∧(∀b∈W,0≤b∧b<256)∧(0<a→∀d,s5 c d→d<f)
def pK(T:Nat)(g:Gw)(e:Nat):Prop:=∃b d c W a,Ki T g e b d c W a
theorem pK.ev{T:Nat}{M:Nat→Prop}{g g':Gw}{a:Nat}(h:pK T g a)(b:Ev M g g')(e:¬M a):pK T g' a:=by
 obtain⟨l,n,m,W,k,c,i,d,j,f⟩:=h;exact⟨l,n,m,W,k,c.ev b e,i.ev b,d,j,f⟩
theorem pK.lt{T:Nat}{g:Gw}{a:Nat}(h:pK T g a):a<g.w.heap.size:=by
 obtain⟨d,f,e,W,c,b,_⟩:=h;exact b.lt
abbrev bG:=@decide_false
abbrev eY:=@Bool.not_true
abbrev e8:=@List.mem_map
abbrev fm:=@Nat.lt_or_ge
abbrev fO:=@Bool.not_false
abbrev fW:=@Option.map_some
abbrev gh:=@List.mem_filter
abbrev gP:=@Option.getD_some
abbrev hh:=@decide_eq_true
abbrev ia:=@List.drop_eq_getElem_cons
abbrev ot:=@List.drop_eq_nil_of_le
abbrev qL:=@Bool.false_or
abbrev uI:=@Array.getElem?_setIfInBounds_self_of_lt
abbrev uN:=@Bool.true_and
abbrev u5:=@List.filter_eq_nil_iff
abbrev xq:=@Array.all_eq_true_iff_forall_mem
end Go.Eng
namespace Go.Eng
structure dK (R:Gw→Gw→Prop):Prop where
 refl:∀g,R g g
 trans:∀a b c,R a b→R b c→R a c
theorem Ev.pre(M:Nat→Prop):dK (Ev M):=⟨Ev.refl M,λ_ _ _ a b=>a.trans b⟩
abbrev kL:=Value→Gw→Prop
def CK(m:Nat)(l:List Oper):Bool:=(List.range l.length).all λa=>Nat.blt a m||(List.range a).all λb=>lh b (kB l.toArray a)
def dv(o:Oper)(v:Value):Value:=match o.dst with
 |some _=>v
 |none=>undef
structure sM (P:Program) (R:Gw→Gw→Prop) (J:Gw→Prop) (T:kL) (o:Oper) (e:eU) (g:Gw):Prop where
 go:∀ρ,yb e ρ →
  (∃v g',(execOp ρ o).run P g.w = .ok (.value v) g'.w∧R g g'∧J g'∧T (dv o v) g')∨(∃f args,(execOp ρ o).run P g.w = .ok (.enter f args) g.w∧mz P f args g.w (λv w'=>∃g',g'.w=w'∧R g g'∧J g'∧T (dv o v) g')) ∨
  (o.dst=none∧∃g',(execOp ρ o).run P g.w = .ok .skip g'.w∧R g g'∧J g'∧T undef g')
def rD:List kL→List Value→Gw→Prop
 |[],[],_=>True
 |T::s,v::vs,g=>T v g∧rD s vs g
 |_,_,_=>False
theorem rD.cons{T:kL}{s:List kL}{vs:List Value}{g:Gw}(h:rD (T::s) vs g):∃v r,vs=v::r∧T v g∧rD s r g:=by
 cases vs with
 |nil=>exact h.elim
 |cons v r=>exact⟨v,r,rfl,h.1,h.2⟩
theorem rD.nil{vs:List Value}{g:Gw}(h:rD [] vs g):vs=[]:=by
 cases vs with
 |nil=>rfl
 |cons b a=>exact h.elim
section og
variable {P:Program} {n:Nat} {Q:Exit→Act→World→Prop} {R:Gw→Gw→Prop} {J:Gw→Prop}
theorem J8 {l:List Oper} {m:Nat} (H:po n l=true) (af:CK m l=true):∀(t:List Oper) (k d:Nat) (f:Array Bool) (a:Act) (w:World),m≤k→l.drop k=t→f.size=l.length→(∀i,i<l.length→f[i]?=some (decide (i<k))) →
  t.length≤d→wpList P l.toArray Q t a w→wpAny P .any l.toArray Q d f a w:=by
 have M:∀k (c:k<l.length),∀b∈l[k].after,Region.binds .any b=true→b.on<k:=by
  intro k c b r o;simp only[po,eO]at H;have:=(gg.1 H.2) k (by simp[c]);have g:b.on∈kB l.toArray k:=by
   unfold kB;have q:l.toArray[k]?=some l[k]:=by simp[c]
   rw[q];simp only[e8,gh];exact⟨b,⟨by simpa using r,o⟩,rfl⟩
  have:=eW ((gg.1 this) _ g);omega
 intro t
 induction t with
 | nil =>
  intro k d f a w ab g I j y h;have c:l.length≤k:=by simpa using g
  have x:Region.ready .any l.toArray f=[]:=by
   unfold Region.ready;rw[u5];intro i e;have T:i<l.length:=by simpa using e
   have:=j i T;rw[hh (by omega)]at this;simp[fg,this]
  cases d with
  |zero=>exact⟨x,h⟩
  |succ d=>exact⟨λ_=>h,λi e=>by rw[x]at e;cases e⟩
 | cons ai t ah =>
  intro k d f a w ab g I j y h;cases d with
  |zero=>simp at y
  | succ d =>
   have c:k<l.length:=by
    rcases fm k l.length with p|p
    ·exact p
    ·rw[ot p]at g;cases g
   have R:=ia c;rw[R]at g;injection g with ac N;have ae:∀i,i∈Region.ready .any l.toArray f→i=k:=by
    intro i e;unfold Region.ready at e;rw[gh]at e;obtain⟨X,C⟩:=e;have z:i<l.length:=by simpa using X
    simp only[eO,lr]at C;obtain⟨B,u⟩:=C;rw[fg,j i z]at B;simp at B;rcases fm k i with F|F
    ·exfalso;have:=(gg.1 af) i (by simp[z]);simp only[nG]at this;rcases this with o|o
     ·have:=eW o;omega
     ·have v:=oc.1 ((gg.1 o) k (by simp[F]));unfold kB at v;have ad:l.toArray[i]?=some l[i]:=by simp[z]
      rw[ad]at u v;simp only[fW,gP]at u;rw[xq]at u;simp only[e8,gh]at v;obtain⟨b,⟨r,L⟩,ag⟩:=v;have:=u b (by simpa using r);rw[L]at this;simp only[eY,qL]at this;rw[ag,fg,j k c]at this;simp at this
    ·omega
   refine⟨λx=>?_,λi e=>?_⟩
   ·exfalso;have E:k∈Region.ready .any l.toArray f:=by
     unfold Region.ready;rw[gh];refine⟨by simp[c],?_⟩;rw[fg,j k c];have q:l.toArray[k]?=some l[k]:=by simp[c]
     rw[q];simp only[Nat.lt_irrefl,bG,gP,fO,uN,fW];rw[xq];intro b r;cases o:Region.binds .any b with
     |false=>simp
     | true =>
      have s:b.on<k∨¬b.on<k:=Decidable.em _;rcases s with s|s
      ·have:=j b.on (by omega);rw[hh s]at this;simp[fg,this]
      ·exfalso;exact s (M k c b (by simpa using r) o)
    rw[x]at E;cases E
   ·have:=ae i e;subst this;unfold wpOp;have q:l.toArray[i]?=some l[i]:=by simp[c]
    rw[q];simp only[];rw[ac];unfold wpList at h;have G:∀a w,wpList P l.toArray Q t a w→wpAny P .any l.toArray Q d (f.setIfInBounds i true) a w:=λa w p=>by
     refine ah (i+1) d _ a w (by omega) N (by simp[I]) (λK aa=>?_) (by simpa using y) p;by_cases D:i=K
     ·subst D;rw[uI (by omega)];simp
     ·rw[lR D,j K aa];congr 1;simp only[decide_eq_decide];omega
    split at h
    ·rename_i A;rw[bE A];exact h.imp (Oper.wp_mono G) id
    ·rename_i A;rw[cH A];exact G _ _ h
end og
abbrev aL:=@if_false
abbrev aP:=@Bool.false_eq_true
abbrev eP:=@List.length_cons
abbrev gy:=@List.mem_cons_of_mem
abbrev iy:=@List.mem_cons_self
abbrev qV:=@List.foldl_cons
abbrev C1:=@Array.foldl_toList
end Go.Eng
namespace Go.Eng
section
variable {P:Program} {e:eU} {g:Gw} {d:Option Tmp} {ty:TypeId} {pos:String} {af:Array Edge} {O:Option (Nat × Bool)}
def rz:Nat→List Value→List (Nat × Value)
 |_,[]=>[]
 |k,x::r=>(k,x)::rz (k+1) r
theorem GZ(cs:List Value):∀(b d:List Value),cs.length≤d.length →
  (cs.toArray.zipIdx.foldl (λa (c,j)=>a.setIfInBounds (b.length+j) c) (b++d).toArray)=(b++cs++d.drop cs.length).toArray:=by
 have n:∀(cs:List Value) (e:Nat) (b d:List Value),cs.length≤d.length→∀f,b.length=f+e →
   ((cs.zipIdx e).foldl (λ(a:Array Value) (i:Value × Nat)=>a.setIfInBounds (f+i.2) i.1) (b++d).toArray)=(b++cs++d.drop cs.length).toArray:=by
  intro cs
  induction cs with
  |nil=>intro e b d _ f _;simp
  | cons c p m =>
   intro e b d g f l;cases d with
   |nil=>simp at g
   | cons o h =>
    simp only[eP]at g;have:=m (e+1) (b++[c]) h (by omega) f (by simp;omega);simp only[List.zipIdx_cons,qV];have k:(b++o::h).toArray.setIfInBounds (f+e) c=(b++[c]++h).toArray:=by
     rw[← l];simp
    rw[k,this];simp
 intro b d g;have:=n cs 0 b d g b.length (by simp);rw[← this,← C1];simp
def over:List Value→List Value→List Value
 |_::cs,v::vs=>v::over cs vs
 |cs,_=>cs
theorem GJ{Y:Nat}:∀(vs:List Value) (b a:List Value) (k:Nat),b.length=k*Y→a.length=vs.length*Y→(∀v∈vs,v.cells.size=Y) →
  Instr.fill (λi=>some (i*Y,Y)) (b++a).toArray (rz k vs)=some (b++vs.flatMap (λv=>v.cells.toList)).toArray
 | [],b,a,k,_,d,_=>by
  have:a=[]:=fQ (by simpa using d);subst this;simp[rz,Instr.fill]
 | v::q,b,a,k,f,d,e=>by
  have c:=e v (iy ..);have n:Y≤a.length:=by rw[d];simp[fH]
  simp only[rz,Instr.fill];have s:¬(v.cells.size≠Y∨k*Y+v.cells.size>(b++a).toArray.size):=by
   simp[c];omega
  have j:(decide (v.cells.size≠Y)||decide (k*Y+v.cells.size>(b++a).toArray.size))=false:=by
   simp[c];omega
  simp only[j,aP,aL];have l:=GZ v.cells.toList b a (by simpa[c]using n);have m:v.cells.zipIdx.foldl (λh (g,p)=>h.setIfInBounds (k*Y+p) g) (b++a).toArray=(b++v.cells.toList++a.drop Y).toArray:=by
   rw[← f];simpa[c]using l
  rw[m];have:=GJ q (b++v.cells.toList) (a.drop Y) (k+1) (by simp[f,c,fH]) (by simp[d,fH]) (λr o=>e r (gy _ o));rw[this];simp
theorem gW.of{b:Type}{a:Option Addr}{n cap Y:Nat}{cs:List Value}(h:jm g a n cap Y cs)(f:b→List Value)(xs:List b)(d:∀x,(f x).length=Y)(c:xs.flatMap f=cs)(e:xs.length=n):gW g a n cap Y f xs:=⟨c▸h,e,d⟩
end
section
variable {P:Program} {M:Nat→Prop} {J:Gw→Prop} {T:kL} {o:Oper} {e:eU} {g:Gw} {v:Value}
def Gz(a:Value):kL:=λv _=>v=a
def GA(p:Int→Prop):kL:=λv _=>∃a:Int,v = .int .i64 a∧p a
def GB(p:ByteArray→Prop):kL:=λv _=>∃a:ByteArray,v = .string a∧p a
end
section
variable {g:Gw} {M:Nat→Prop} {J:Gw→Prop}
theorem gW.fz{c:Type}{b o n cap Y:Nat}{f:c→List Value}{xs:List c}(h:gW g (some ⟨b,o,none⟩) n cap Y f xs){i j:Nat}(hi:i<n)(l:j<Y):o+i*Y+j<g.F b:=by
 obtain⟨e,m,a,k,_⟩:=h.sl.pos (by omega);injection a with a;injection a with a d;subst a;subst d;have:(i+1)*Y≤n*Y:=jG Y (by omega);rw[fH]at this;omega
theorem Gz.mk{a:Value}:Gz a a g:=rfl
theorem GA.mk{p:Int→Prop}{r:Int}(h:p r):GA p (.int .i64 r) g:=⟨r,rfl,h⟩
theorem GB.mk{p:ByteArray→Prop}{s:ByteArray}(h:p s):GB p (.string s) g:=⟨s,rfl,h⟩
end
section
variable {P:Program} {e:eU} {g:Gw} {d:Option Tmp} {ty:TypeId} {pos:String} {af:Array Edge} {O:Option (Nat × Bool)}
end
def C5(b T:Nat)(cs:List Value):Gw→Gw→Prop:=λg a=>Ev (· = b) g a∧(fo g b T cs→fo a b T cs)
theorem C5.pre(b T:Nat)(cs:List Value):dK (C5 b T cs):=⟨λg=>⟨Ev.refl _ g,λa=>a⟩,λ_ _ _ a c=>⟨a.1.trans c.1,λd=>c.2 (a.2 d)⟩⟩
theorem fo.draw{g:Gw}{b T:Nat}{cs:List Value}(h:fo g b T cs):fo g.draw b T cs:=h
abbrev dL:=@List.length_append
end Go.Eng
namespace Go.Eng
section og
variable {P:Program} {n:Nat} {Q:Exit→Act→World→Prop} {R:Gw→Gw→Prop} {J:Gw→Prop}
def Wi(o:Oper)(e:eU):Option Value:=match o.dst with
 |some d=>lk e d
 | none=>match o.op with
  |.store _ (.tmp a) _=>lk e a
  |_=>some undef
structure vg (P:Program) (R:Gw→Gw→Prop) (J:Gw→Prop) (T:kL) (o:Oper) (e:eU) (g:Gw):Prop where
 go:∀ρ,yb e ρ →
  (∃v g',o.dst≠none∧(execOp ρ o).run P g.w = .ok (.value v) g'.w∧R g g'∧J g'∧T v g')∨(∃f args,o.dst≠none∧(execOp ρ o).run P g.w = .ok (.enter f args) g.w∧mz P f args g.w (λv w'=>∃g',g'.w=w'∧R g g'∧J g'∧T v g')) ∨
  (o.dst=none∧∃u g',Wi o e=some u∧(execOp ρ o).run P g.w = .ok .skip g'.w∧R g g'∧J g'∧T u g')
theorem sM.d3{P:Program}{R:Gw→Gw→Prop}{J:Gw→Prop}{T:kL}{o:Oper}{e:eU}{g:Gw}{d:Nat}(h:sM P R J T o e g)(j:o.dst=some d):vg P R J T o e g :=.mk λw r=>by
 have f:o.dst≠none:=by rw[j];simp
 have k:∀a,dv o a=a:=λa=>by unfold dv;rw[j]
 rcases h.go w r with⟨a,b,c,n,p,i⟩|⟨l,args,c,q⟩|⟨m,_⟩
 ·rw[k]at i;exact .inl ⟨a,b,f,c,n,p,i⟩
 ·exact .inr (.inl ⟨l,args,f,c,q.mono λa x ⟨b,s,t,u,v⟩=>⟨b,s,t,u,by rwa [k]at v⟩⟩)
 ·exact absurd m f
end og
theorem sM.imp{P:Program}{R:Gw→Gw→Prop}{J:Gw→Prop}{T i:kL}{o:Oper}{e:eU}{g:Gw}(h:sM P R J T o e g)(f:∀v g',T v g'→i v g'):sM P R J i o e g :=.mk λs m=>by
 rcases h.go s m with⟨v,g',a,b,c,d⟩|⟨j,args,a,l⟩|⟨k,g',a,b,c,d⟩
 ·exact .inl ⟨v,g',a,b,c,f _ _ d⟩
 ·exact .inr (.inl ⟨j,args,a,l.mono λv t ⟨g',n,p,q,r⟩=>⟨g',n,p,q,f _ _ r⟩⟩)
 ·exact .inr (.inr ⟨k,g',a,b,c,f _ _ d⟩)
def C6(B:Nat)(g g':Gw):Prop:=Ev (λa=>B≤a∧0<g.F a) g g'
def qM(M:Nat→Prop)(B b:Nat)(g g':Gw):Prop:=Ev (λa=>M a∨(B≤a∧0<g.F a)∨b≤a) g g'
theorem qM.pre(M:Nat→Prop)(B i:Nat):dK (qM M B i):=⟨λg=>Ev.refl _ g,λn p q a c=>⟨c.os.trans a.os,c.tape.trans a.tape,c.output.trans a.output,hX a.size c.size,λb=>hX (a.mono b) (c.mono b),
 λb o f=>(c.cell b o (jq f (a.mono b))).trans (a.cell b o f),λb h e=>by
  obtain⟨j,d⟩:=a.bH b h e;obtain⟨l,m⟩:=c.bH b (jq h a.size) (λk=>e (by rw[← d];exact k));exact⟨l.trans j,m.trans d⟩⟩⟩
theorem qM.of{M:Nat→Prop}{B a:Nat}(g g':Gw)(h:Ev M g g'):qM M B a g g':=h.weaken λ_ b =>.inl (.inl b)
theorem qM.hE{M:Nat→Prop}{B:Nat}{b g1 g':Gw}(h:Ev M b g1)(c:b.w.heap.size≤B)(d:qM M B g1.w.heap.size g1 g'):Ev M b g':=h.step d λe a=>by
 rcases a with a|a|a
 ·exact .inl a
 ·exact .inr (hX c a.1)
 ·exact .inr (hX h.size a)
theorem C6.refl{B:Nat}(g:Gw):C6 B g g:=Ev.refl _ g
theorem fo.nz{g:Gw}{b T B:Nat}{cs:List Value}(h:fo g b T cs):¬(B≤b∧0<g.F b):=λa=>by
 have:=h.2;omega
theorem pK.nz{T:Nat}{g:Gw}{a B:Nat}(h:pK T g a):¬(B≤a∧0<g.F a):=by
 obtain⟨d,f,e,W,c,b,_⟩:=h;exact b.nz
section
variable {P:Program} {e:eU} {g:Gw} {d:Nat} {ty:TypeId} {pos:String} {af:Array Edge} {O:Option (Nat × Bool)} {J:Gw→Prop} {α:Type}
theorem gW.app{g':Gw}{a:Option Addr}{n m cap Y:Nat}{f:α→List Value}{xs ys:List α}(c:xs.length=n)(d:ys.length=m)(b:∀x,(f x).length=Y)(h:jm g' a (n+m) cap Y (xs.flatMap f++ys.flatMap f)):gW g' a (n+m) cap Y f (xs++ys):=
 gW.of h f (xs++ys) b (by rw[List.flatMap_append]) (by rw[dL,c,d])
end
section
variable {P:Program} {R:Gw→Gw→Prop} {J:Gw→Prop} {T:kL} {l:List Oper} {o:Oper} {e:eU} {g:Gw}
theorem vg.imp{j:kL}(h:vg P R J T o e g)(i:∀v g',T v g'→j v g'):vg P R J j o e g :=.mk λu m=>by
 rcases h.go u m with⟨v,g',a,b,c,d,f⟩|⟨k,args,a,b,l⟩|⟨a,t,g',n,b,c,d,f⟩
 ·exact .inl ⟨v,g',a,b,c,d,i _ _ f⟩
 ·exact .inr (.inl ⟨k,args,a,b,l.mono λv w ⟨g',p,q,r,s⟩=>⟨g',p,q,r,i _ _ s⟩⟩)
 ·exact .inr (.inr ⟨a,t,g',n,b,c,d,i _ _ f⟩)
end
abbrev dC:=@ne_eq
abbrev fy:=@not_false_eq_true
abbrev gq:=@Sem.run_bind
abbrev gB:=@Result.andThen_ok
abbrev iz:=@List.take_of_length_le
abbrev iJ:=@List.drop_succ_cons
abbrev jl:=@Addr.add_lit
abbrev jE:=@List.nil_append
abbrev sE:=@List.drop_append
abbrev vb:=@List.take_append
abbrev yk:=@List.take_succ_cons
end Go.Eng
namespace Go.Eng
def mD(P:Program)(t:TypeId)(a b:Value)(r:Bool):Prop:=∀d w,(Op.equalIn (d+1) t a b).run P w = .ok r w
section
variable {P:Program}
theorem mD.int{t:TypeId}{k c:IntKind}{a b:Int}(h:P.underlying t=some (.int c)):mD P t (.int k a) (.int k b) (a==b):=λd w=>run_equalIn_int w d t k c a b h
theorem mD.str{t:TypeId}{a b:ByteArray}(h:P.underlying t=some .string):mD P t (.string a) (.string b) (a.toList==b.toList):=λd w=>run_equalIn_string w d t a b h
theorem mD.bool{t:TypeId}{a b:Bool}(h:P.underlying t=some .bool):mD P t (.bool a) (.bool b) (a==b):=λd w=>run_equalIn_bool' w d t a b h
def uO(P:Program)(xs ys:List Value):List Field→List Bool→Prop
 |[],[]=>True
 |f::fs,r::c=>("_" == f.name)=false∧One P f.type∧(∃a b,xs[f.offset]?=some a∧ys[f.offset]?=some b∧mD P f.type a b r)∧uO P xs ys fs c
 |_,_=>False
theorem Jd{d:Nat}{xs ys:List Value}{w:World}:∀{fs:List Field} {c:List Bool},uO P xs ys fs c→(Op.eqFields (d+1) xs.toArray ys.toArray fs).run P w = .ok (c.all id) w
 |[],[],_=>by simp[Op.eqFields]
 |[],_::_,h=>h.elim
 |_::_,[],h=>h.elim
 | f::fs,r::c,⟨e,h2,⟨a,b,i,j,m⟩,g⟩=>by
  have l:f.name ≠ "_" := λk=>by rw[k]at e;simp at e
  have n:(part f.type xs.toArray f.offset).run P w = .ok a w:=by simp[part,h2 w,i]
  have o:(part f.type ys.toArray f.offset).run P w = .ok b w:=by simp[part,h2 w,j]
  simp only[Op.eqFields,l,dC,fy,aJ,gq,n,o,m d w,gB,Sem.run_ite];cases r with
  |false=>simp
  |true=>simp[Jd (w:=w) g]
variable {e:eU} {d:Option Tmp} {ty:TypeId} {pos:String} {af:Array Edge} {O:Option (Nat × Bool)} {w:World}
theorem Ut{t:TypeId}{fs:Array Field}{xs ys:List Value}{c:List Bool}(b:P.underlying t=some (.struct fs))(e:P.stoodInHeld t=false)(d:uO P xs ys fs.toList c):(Op.equalIn 10000 t (.agg xs.toArray) (.agg ys.toArray)).run P w = .ok (c.all id) w:=by
 have a:P.fieldsOf t=fs:=by simp[Program.fieldsOf,b]
 rw[run_equalIn_struct w 9999 t _ _ (by rw[a];exact b) e,a];exact Jd d
end
theorem JU{α:Type}{f:α→List Value}{Y:Nat}(a:∀x,(f x).length=Y):∀(xs:List α) (m:Nat),(xs.take m).flatMap f=(xs.flatMap f).take (m*Y)
 |[],m=>by simp
 |x::r,0=>by simp
 | x::r,m+1=>by
  simp only[yk,sG,JU a r m];rw[vb,iz (l:=f x) (by rw[a,fH];omega),a,show(m+1)*Y - Y=m*Y from by rw[fH];omega]
theorem Gb{α:Type}{f:α→List Value}{Y:Nat}(a:∀x,(f x).length=Y):∀(xs:List α) (m:Nat),(xs.drop m).flatMap f=(xs.flatMap f).drop (m*Y)
 |[],m=>by simp
 |x::r,0=>by simp
 | x::r,m+1=>by
  simp only[iJ,sG,Gb a r m];rw[sE,@ot _ (f x) _ (by rw[a,fH];omega),a,jE,show(m+1)*Y - Y=m*Y from by rw[fH];omega]
section
variable {α:Type} {g:Gw} {a:Option Addr} {n cap Y:Nat} {f:α→List Value} {xs:List α}
theorem gW.part(h:gW g a n cap Y f xs){l m:Nat}(d:l≤m)(e:m≤n):gW g (if cap=l then a else a.map (·.add (l*Y))) (m - l) (cap - l) Y f ((xs.take m).drop l):=by
 have k:=h.sl.nc;have c:=h.sl.cut d e (cap - l) (by omega) (by have:=h.sl.cm;omega) (if cap=l then a else a.map (·.add (l*Y))) (λi o j b=>by
  rw[cH (by omega),b];simp[jl])
 exact gW.of c f _ h.cells (by rw[Gb h.cells,JU h.cells]) (by rw[E0,lV,h.num];omega)
end
section
variable {P:Program} {n:Nat} {ops:Array Oper} {Q:Exit→Act→World→Prop} {o:Oper} {rest:List Oper} {e:eU} {w:World} {d:Nat}
end
section
variable {P:Program} {e:eU} {g:Gw} {d:Option Tmp} {ty:TypeId} {pos:String} {af:Array Edge} {O:Option (Nat × Bool)} {t t':TypeId} {x y:Operand}
end
theorem gW.lt{α:Type}{g:Gw}{a:Option Addr}{n cap Y:Nat}{f:α→List Value}{xs:List α}(h:gW g a n cap Y f xs)(i:0<n)(j:0<Y):∀b,s5 a b→b<g.w.heap.size:=by
 intro b e;obtain⟨d,l,rfl,k,_⟩:=h.sl.pos i;simp[s5]at e;subst e;rcases fm d g.w.heap.size with c|c
 ·exact c
 ·have:=g.ok d c;have:=Nat.mul_pos i j;omega
abbrev oF:=@World.cell?_of_block
end Go.Eng
namespace Go.Pi
open Go.Eng
inductive D where
 |any|bU
 |bool (b:Bool)|int (k:IntKind) (n:Int)|str (s:List UInt8)
 |h9|ptr (o i off:Nat)|aI (cs:List D)
 |aB|sl (Y:Nat) (full:Bool) (rows:List (List D))|aO (Y o r n:Nat)
 |jx|fn (f:Fn) (first caps:List D)
 |ko|iface (t:TypeId) (d:D)
 |agg (cs:List D)|bZ (ds:List D)
 |raw (v:Value)
 deriving Inhabited
def D.one:D→Bool
 |.agg _|.bZ _|.any|.bU|.raw _=>false
 |_=>true
inductive Ob where
 |row (T:TypeId) (Y:Nat) (rows:List (List D))
 |dead
 deriving Inhabited
abbrev J:=List Ob
structure Me where
 b:Nat
 Y:Nat
 len:Nat
 cap:Nat
structure Gh where
 w:World
 ms:List Me
 L:Nat→Prop
def Gh.fz(g:Gh)(b:Nat):Prop:=b<g.w.heap.size∧¬g.L b
structure jQ (g g':Gh):Prop where
 os:g'.w.os=g.w.os
 tape:g'.w.tape=g.w.tape
 output:g'.w.output=g.w.output
 size:g.w.heap.size≤g'.w.heap.size
 ms:∀(o:Nat) (m:Me),g.ms[o]?=some m→g'.ms[o]?=some m
 fz:∀b,g.fz b→g'.fz b∧g'.w.heap[b]?=g.w.heap[b]?
def Gh.lim(g:Gh)(b:Nat):Prop:=b<g.w.heap.size∧g.L b∧∀(c:Nat) (a:Me),g.ms[c]?=some a→a.b≠b
structure cE (g g':Gh):Prop extends jQ g g' where
 lim:∀b,g.lim b→g'.lim b∧g'.w.heap[b]?=g.w.heap[b]?
theorem cE.refl(g:Gh):cE g g:=⟨⟨rfl,rfl,rfl,aX _,λ_ _ a=>a,λ_ a=>⟨a,rfl⟩⟩,λ_ a=>⟨a,rfl⟩⟩
theorem cE.trans{g g' c:Gh}(h:cE g g')(k:cE g' c):cE g c:=
 ⟨⟨k.os.trans h.os,k.tape.trans h.tape,k.output.trans h.output,hX h.size k.size,λe d f=>k.ms e d (h.ms e d f),
  λa b=>⟨(k.fz a (h.fz a b).1).1,(k.fz a (h.fz a b).1).2.trans (h.fz a b).2⟩⟩,λa b=>⟨(k.lim a (h.lim a b).1).1,(k.lim a (h.lim a b).1).2.trans (h.lim a b).2⟩⟩
theorem cE.ui{g g':Gh}(h:jQ g g')(e:g'.ms=g.ms)(c:g'.L=g.L)(d:∀b,b<g.w.heap.size→g'.w.heap[b]?=g.w.heap[b]?):cE g g':=
 ⟨h,λb a=>⟨⟨jq a.1 h.size,by rw[c];exact a.2.1,by rw[e];exact a.2.2⟩,d b a.1⟩⟩
inductive aM (g:Gh):Value→D→Prop
 |any (v):aM g v .any
 |bU:aM g undef .bU
 |bool (b):aM g (.bool b) (.bool b)
 |int (k n):aM g (.int k n) (.int k n)
 |str (s:List UInt8):aM g (.string ⟨s.toArray⟩) (.str s)
 |h9:aM g (.pointer none) .h9
 |ptr (o i off:Nat) (m:Me) (hm:g.ms[o]?=some m):aM g (.pointer (some ⟨m.b,i*m.Y+off,none⟩)) (.ptr o i off)
 |aI (b o:Nat) (cs:List D) (vs:Nat→Value) (hf:cs≠[]→g.fz b) (hc:∀(j:Nat) (d:D),cs[j]?=some d→g.w.cell? ⟨b,o+j,none⟩=some (vs j))
   (h1:∀(j:Nat) (d:D),cs[j]?=some d→(vs j).oneCell'=true) (hr:∀(j:Nat) (d:D),cs[j]?=some d→aM g (vs j) d):aM g (.pointer (some ⟨b,o,none⟩)) (.aI cs)
 |aB:aM g (.slice none 0 0) .aB
 |sl (ad:Addr) (n cap Y:Nat) (full:Bool) (rows:List (List D)) (hn:rows.length=n) (hnc:n≤cap) (hcm:cap≤9223372036854775807) (hfull:full=true→cap=n) (hI:0<Y)
   (hrow:∀row∈rows,row.length=Y) (had:rows≠[]→ad.spot=none∧g.fz ad.block) (vs:Nat→Nat→Value)
   (hc:∀(i:Nat) (row:List D),rows[i]?=some row→∀(j:Nat) (d:D),row[j]?=some d→g.w.cell? ⟨ad.block,ad.off+i*Y+j,none⟩=some (vs i j))
   (h1:∀(i:Nat) (row:List D),rows[i]?=some row→∀(j:Nat) (d:D),row[j]?=some d→(vs i j).oneCell'=true)
   (hr:∀(i:Nat) (row:List D),rows[i]?=some row→∀(j:Nat) (d:D),row[j]?=some d→aM g (vs i j) d):aM g (.slice (some ad) n cap) (.sl Y full rows)
 |aO (o r n cap:Nat) (m:Me) (hm:g.ms[o]?=some m) (hn:r+n≤m.len) (hlo:m.len≤r+cap) (hhi:r+cap≤m.cap) (hcm:cap≤9223372036854775807):aM g (.slice (some ⟨m.b,r*m.Y,none⟩) n cap) (.aO m.Y o r n)
 |jx:aM g .nilFunc .jx
 |fn (f:Fn) (first caps:List D) (vf vc:List Value) (hf:vf.length=first.length) (hc:vc.length=caps.length)
   (rf:∀(j:Nat) (v:Value) (d:D),vf[j]?=some v→first[j]?=some d→aM g v d) (rc:∀(j:Nat) (v:Value) (d:D),vc[j]?=some v→caps[j]?=some d→aM g v d):aM g (.func f vf.toArray vc.toArray) (.fn f first caps)
 |ko:aM g .nilIface .ko
 |iface (t:TypeId) (v:Value) (d:D) (h:aM g v d):aM g (.iface t v) (.iface t d)
 |agg (vs:List Value) (cs:List D) (hl:vs.length=cs.length) (h1:∀v∈vs,v.oneCell'=true) (hr:∀(j:Nat) (v:Value) (d:D),vs[j]?=some v→cs[j]?=some d→aM g v d):aM g (.agg vs.toArray) (.agg cs)
 |bZ (vs:List Value) (ds:List D) (hl:vs.length=ds.length) (hr:∀(j:Nat) (v:Value) (d:D),vs[j]?=some v→ds[j]?=some d→aM g v d):aM g (.tuple vs.toArray) (.bZ ds)
 |raw (v):aM g v (.raw v)
theorem jQ.cell{g g':Gh}(h:jQ g g'){b i:Nat}(a:g.fz b):g'.w.cell? ⟨b,i,none⟩=g.w.cell? ⟨b,i,none⟩:=oF (h.fz b a).2
theorem aM.jf{g g':Gh}(e:jQ g g'){v:Value}{d:D}(h:aM g v d):aM g' v d:=by
 induction h with
 |any v=>exact .any v
 |bU=>exact .bU
 |bool p=>exact .bool p
 |int X j=>exact .int X j
 |str ad=>exact .str ad
 |h9=>exact .h9
 |ptr k y aa A w=>exact .ptr k y aa A (e.ms _ _ w)
 | aI p k l c m i f x a =>
  refine .aI p k l c (λb=>(e.fz _ (m b)).1) (λz d n=>?_) f a;have b:l≠[]:=λt=>by subst t;cases n
  rw[e.cell (m b)];exact i z d n
 |aB=>exact .aB
 | sl E j q ae I C b N s K Q P r c i f x a =>
  refine .sl E j q ae I C b N s K Q P (λo=>⟨(r o).1,(e.fz _ (r o).2).1⟩) c (λy ac B z d n=>?_) f a;have o:C≠[]:=λt=>by subst t;cases B
  rw[e.cell (r o).2];exact i y ac B z d n
 |aO k ab j q A w b M L s=>exact .aO k ab j q A (e.ms _ _ w) b M L s
 |jx=>exact .jx
 |fn H first F ah ag m i aj ai T R=>exact .fn H first F ah ag m i T R
 |ko=>exact .ko
 |iface af v d h a=>exact .iface af v d a
 |agg c l u f x a=>exact .agg c l u f a
 |bZ c G u x a=>exact .bZ c G u a
 |raw v=>exact .raw v
theorem aM.ext{g g':Gh}(a:cE g g'){v:Value}{d:D}(h:aM g v d):aM g' v d:=h.jf a.tojQ
theorem cE.cell{g g':Gh}(h:cE g g'){b i:Nat}(a:g.fz b):g'.w.cell? ⟨b,i,none⟩=g.w.cell? ⟨b,i,none⟩:=h.tojQ.cell a
theorem aM.one{g:Gh}{v:Value}{d:D}(h:aM g v d)(a:d.one=true):v.oneCell'=true:=by
 cases h<;>first|rfl|(simp[D.one]at a)
inductive cC (g:Gh):List Value→List D→Prop
 |nil:cC g [] []
 |cons {v d vs ds} (h:aM g v d) (r:cC g vs ds):cC g (v::vs) (d::ds)
theorem cC.ext{g g':Gh}(a:cE g g'){vs:List Value}{ds:List D}(h:cC g vs ds):cC g' vs ds:=by
 induction h with
 |nil=>exact .nil
 |cons h _ b=>exact .cons (h.ext a) b
theorem cC.length{g:Gh}{vs:List Value}{ds:List D}(h:cC g vs ds):vs.length=ds.length:=by
 induction h with
 |nil=>rfl
 |cons _ _ a=>simp[a]
theorem cC.get{g:Gh}{vs:List Value}{ds:List D}(h:cC g vs ds):∀(j:Nat) (v:Value) (d:D),vs[j]?=some v→ds[j]?=some d→aM g v d:=by
 induction h with
 |nil=>intro j v d h;cases h
 | cons h _ c =>
  intro j v d a b;cases j with
  |zero=>simp at a b;subst a;subst b;exact h
  |succ j=>exact c j v d (by simpa using a) (by simpa using b)
theorem cC.of{g:Gh}:∀{vs:List Value} {ds:List D},vs.length=ds.length→(∀(j:Nat) (v:Value) (d:D),vs[j]?=some v→ds[j]?=some d→aM g v d)→cC g vs ds
 |[],[],_,_ =>.nil
 |[],_::_,h,_=>by simp at h
 |_::_,[],h,_=>by simp at h
 |v::vs,d::ds,h,k =>.cons (k 0 v d rfl rfl) (cC.of (by simpa using h) λj v d a h2=>k (j+1) v d (by simpa using a) (by simpa using h2))
theorem cC.append{g:Gh}{vs b:List Value}{ds a:List D}(h:cC g vs ds)(k:cC g b a):cC g (vs++b) (ds++a):=by
 induction h with
 |nil=>exact k
 |cons h _ c=>exact .cons h c
theorem cC.drop{g:Gh}{vs:List Value}{ds:List D}(h:cC g vs ds)(n:Nat):cC g (vs.drop n) (ds.drop n):=by
 refine .of (by simp[h.length]) λd e a b c=>h.get (n+d) e a (by simpa[kt]using b) (by simpa[kt]using c)
theorem cC.take{g:Gh}{vs:List Value}{ds:List D}(h:cC g vs ds)(n:Nat):cC g (vs.take n) (ds.take n):=by
 refine .of (by simp[h.length]) λe f c a b=>?_
 rw[fF]at a b;split at a
 ·rename_i d;rw[bE d]at b;exact h.get e f c a b
 ·cases a
def EU(fr:Nat × Nat)(n:Nat):Prop:=fr=(0,0)∨n≤fr.1
def Fr(fr:Nat × Nat)(n Y:Nat):Prop:=fr=(0,0)∨(n≤fr.1∧Y=1)
theorem Fr.uG{fr:Nat × Nat}{n Y:Nat}(h:Fr fr n Y):EU fr n:=h.imp id And.left
structure Live (g:Gh) (m:Me) (T Y:Nat) (rows:List (List D)) (cs:Array Value):Prop where
 gH:∃fr,g.w.heap[m.b]?=some (.cells cs T fr)∧Fr fr cs.size Y
 hI:m.Y=Y
 pos:0<Y
 hL:g.L m.b
 len:rows.length=m.len
 le:m.len≤m.cap
 room:m.cap*Y≤cs.size
 row:∀row∈rows,row.length=Y
 cell:∀(i:Nat) (row:List D),rows[i]?=some row→∀(j:Nat) (d:D),row[j]?=some d→∃v,cs[i*Y+j]?=some v∧v.oneCell'=true∧aM g v d
structure Inv (g:Gh) (h:J):Prop where
 len:g.ms.length=h.length
 live:∀(o T Y:Nat) (rows:List (List D)),h[o]?=some (.row T Y rows)→∃m cs,g.ms[o]?=some m∧Live g m T Y rows cs
 inj:∀(o o':Nat) (T Y T' sz':Nat) (rows rows':List (List D)) (m m':Me),h[o]?=some (.row T Y rows)→h[o']?=some (.row T' sz' rows')→g.ms[o]?=some m→g.ms[o']?=some m'→m.b=m'.b→o=o'
 L:∀b,g.L b→b<g.w.heap.size
 msb:∀(o:Nat) (m:Me),g.ms[o]?=some m→m.b<g.w.heap.size
theorem Inv.ly{g:Gh}{h:J}(hi:Inv g h){b:Nat}(a:g.L b):b<g.w.heap.size:=hi.L b a
abbrev DE:=List (Nat × D)
def dB:DE→Nat→Option D
 |[],_=>none
 | (k,v)::r,t=>match Nat.beq k t with
  |true=>some v
  |false=>dB r t
theorem jw(k:Nat)(v:D)(r:DE)(t:Nat):dB ((k,v)::r) t=if k=t then some v else dB r t:=by
 simp only[dB];by_cases a:k=t
 ·subst a;simp
 ·have:Nat.beq k t=false:=by
    cases b:Nat.beq k t with
    |true=>exact absurd (ib b) a
    |false=>rfl
  rw[this,cH a]
structure fG (n:Nat) (g:Gh) (e:DE) (a:Act):Prop where
 size:a.tmps.size=n
 defers:a.defers=[]
 get:∀t d,dB e t=some d→aM g (a.tmps.getD t undef) d
theorem fG.ext{n:Nat}{g g':Gh}{e:DE}{a:Act}(h:fG n g e a)(d:cE g g'):fG n g' e a:=⟨h.size,h.defers,λf b c=>(h.get f b c).ext d⟩
theorem fG.put{n:Nat}{g:Gh}{e:DE}{a:Act}(h:fG n g e a){t:Nat}(j:t<n){v:Value}{d:D}(i:aM g v d):fG n g ((t,d)::e) (a.put (some t) v):=by
 refine⟨by simp[Act.put,h.size],by simp[Act.put,h.defers],λc l b=>?_⟩;rw[jw]at b;by_cases f:t=c
 ·subst f;rw[bE rfl]at b;injection b with b;subst b;have:(a.put (some t) v).tmps.getD t undef=v:=by simp[Act.put,Array.getD,h.size,j]
  rw[this];exact i
 ·rw[cH f]at b;have:=h.get c l b;have k:(a.put (some t) v).tmps.getD c undef=a.tmps.getD c undef:=by
   simp only[Act.put,fg];rw[lR (by omega)]
  rw[k];exact this
def Fh(e' e:DE):Prop:=∀a b,dB e' a=some b→dB e a=some b
theorem Fh.sat{n:Nat}{g:Gh}{e e':DE}{a:Act}(h:Fh e' e)(b:fG n g e a):fG n g e' a:=⟨b.size,b.defers,λc d f=>b.get c d (h c d f)⟩
end Go.Pi
namespace Go.Pi
open Go.Eng
inductive TD where
 |bool|int (k:IntKind)|str|ptr (e:Nat)|sl (e:Nat)|arr (n e:Nat)|st (fs:List (Nat × Nat × Nat))|fn|Hb|uk
structure TI where
 td:TD
 Y:Nat
 gI:Nat
 zero:List D
 ms:List (String × Option Nat)
def wG:List (String × Option Nat)→String→Option Nat
 |[],_=>none
 | (k,f)::r,m=>match k==m with
  |true=>f
  |false=>wG r m
def TI.isAgg(i:TI):Bool:=match i.td with
 |.st _|.arr _ _=>true
 |_=>false
abbrev cT:=Nat→Option TI
def cP:D→List D
 |.agg cs=>cs
 |d=>[d]
def D.fT:D→Bool
 |.agg _=>true
 |d=>d.one
def oL(i:TI)(cs:List D):Option D:=match i.isAgg with
 | true=>match Nat.ble i.Y cs.length with
  |true=>some (.agg (cs.take i.Y))
  |false=>none
 |false=>cs.head?
def dQ(cs:List D)(off:Nat)(vs:List D):List D:=cs.take off++vs++cs.drop (off+vs.length)
def cD:D→D→D→Option D
 |.bool true,a,_=>some a
 |.bool false,_,b=>some b
 |_,_,_=>none
def ug(T:cT)(t:Nat)(m:String):Option Nat:=match T t with
 |some a=>wG a.ms m
 |none=>none
def hd(T:cT):D→Option D
 |.ptr o i f=>some (.ptr o i f)
 |.aI cs=>some (.aI cs)
 |.fn (.func f) a b=>some (.fn (.func f) a b)
 | .fn (.method m) [.iface t d] []=>match ug T t m with
  |some _=>some (.fn (.method m) [.iface t d] [])
  |none=>none
 |.iface t d=>some (.iface t d)
 |_=>none
def iN(c:BinOp)(k:IntKind)(a b:Int):Option D:=match c with
 |.add=>some (.int k (k.wrap (a+b)))
 |.sub=>some (.int k (k.wrap (a - b)))
 |.mul=>some (.int k (k.wrap (a*b)))
 |.quo=>if b=0 then none else some (.int k (k.wrap (a.tdiv b)))
 |.rem=>if b=0 then none else some (.int k (a.tmod b))
 |.and=>some (.int k (k.wrap (BitVec.ofInt k.bits a &&& BitVec.ofInt k.bits b).toNat))
 |.or=>some (.int k (k.wrap (BitVec.ofInt k.bits a ||| BitVec.ofInt k.bits b).toNat))
 |.xor=>some (.int k (k.wrap (BitVec.ofInt k.bits a ^^^ BitVec.ofInt k.bits b).toNat))
 |.andNot=>some (.int k (k.wrap (BitVec.ofInt k.bits a &&& ~~~(BitVec.ofInt k.bits b)).toNat))
 |.eql=>some (.bool (a==b))
 |.neq=>some (.bool (a != b))
 |.lss=>some (.bool (decide (a<b)))
 |.leq=>some (.bool (decide (a≤b)))
 |.gtr=>some (.bool (decide (a>b)))
 |.geq=>some (.bool (decide (a≥b)))
 |_=>none
def ru(c:BinOp)(a b:List UInt8):Option D:=match c with
 |.add=>if a.length+b.length≤9223372036854775807 then some (.str (a++b))else none
 |.eql=>some (.bool (a==b))
 |.neq=>some (.bool (!(a==b)))
 |.lss=>some (.bool (Op.bytesLess a b))
 |.leq=>some (.bool (Op.bytesLess a b||a==b))
 |.gtr=>some (.bool (!(Op.bytesLess a b||a==b)))
 |.geq=>some (.bool (!(Op.bytesLess a b)))
 |_=>none
def WU:D→D→Option Bool
 |.bool a,.bool b=>some (a==b)
 |.int k a,.int c b=>if k=c then some (a==b)else none
 |.str a,.str b=>some (a==b)
 |_,_=>none
def tb(T:cT)(xs ys:List D):List (Nat × Nat × Nat)→Option Bool
 |[]=>some true
 | (t,off,_)::r=>match tb T xs ys r,T t with
  | some c,some i=>match i.td,xs[off]?,ys[off]? with
   |.bool,some (.bool a),some (.bool b)=>some (a==b&&c)
   |.int _,some (.int k a),some (.int d b)=>if k=d then some (a==b&&c)else none
   |.str,some (.str a),some (.str b)=>some (a==b&&c)
   |_,_,_=>none
  |_,_=>none
def rm(T:cT)(e:Nat)(x y:D):Option Bool:=match T e with
 | some d=>match d.td,x,y with
  |.bool,.bool a,.bool b=>some (a==b)
  |.st c,.agg f,.agg g=>tb T f g c
  |.ptr _,.h9,.h9=>some true
  |.ptr _,.h9,.ptr _ _ _=>some false
  |.ptr _,.h9,.aI _=>some false
  |.ptr _,.ptr _ _ _,.h9=>some false
  |.ptr _,.aI _,.h9=>some false
  |.sl _,.aB,.aB=>some true
  |.sl _,.aB,.sl _ _ _=>some false
  |.sl _,.aB,.aO _ _ _ _=>some false
  |.sl _,.sl _ _ _,.aB=>some false
  |.sl _,.aO _ _ _ _,.aB=>some false
  |.fn,.jx,.jx=>some true
  |.fn,.jx,.fn _ _ _=>some false
  |.fn,.fn _ _ _,.jx=>some false
  |_,_,_=>none
 |none=>none
def V(T:cT)(op:BinOp)(d:Nat)(x y:D):Option D:=match x,y with
 | .int b c,.int e a=>match op with
  |.shl=>if a<0 then none else some (.int b (b.wrap (c*2 ^ (min a.toNat b.bits))))
  |.shr=>if a<0 then none else some (.int b (c.fdiv (2 ^ (min a.toNat b.bits))))
  |op=>if b=e then iN op b c a else none
 |.str c,.str a=>ru op c a
 | x,y=>match op with
  |.eql=>(rm T d x y).bind λa=>some (.bool a)
  |.neq=>(rm T d x y).bind λa=>some (.bool (!a))
  |_=>none
def fx(d:UnOp)(x:D):Option D:=match d,x with
 |.not,.bool c=>some (.bool (!c))
 |.neg,.int a b=>some (.int a (a.wrap (0 - b)))
 |.xor,.int a b=>some (.int a (a.wrap (BitVec.ofInt a.bits (if a.signed then -1 else a.max) ^^^ BitVec.ofInt a.bits b).toNat))
 |_,_=>none
def kf(T:cT)(s t:Nat)(x:D):Option D:=match T s,T t with
 | some b,some c=>match c.td,x with
  |.int a,.int _ d=>some (.int a (a.wrap d))
  | .str,.str s=>match b.td with
   |.str=>some (.str s)
   |_=>none
  |_,_=>none
 |_,_=>none
def vy (T:cT) (t f:Nat):Option (Nat × TI):=match T t with
 | some b=>match b.td with
  | .st a=>match a[f]? with
   | some (e,d,_)=>match T e with
    |some c=>some (d,c)
    |none=>none
   |none=>none
  |_=>none
 |none=>none
def aC(T:cT)(t f:Nat)(x:D):Option D:=match vy T t f with
 | some (a,d)=>match Nat.blt 0 d.Y,x with
  | true,.aI b=>match Nat.blt a b.length with
   |true=>some (.aI (b.drop a))
   |false=>none
  |true,.ptr g c e=>some (.ptr g c (e+a))
  |_,_=>none
 |none=>none
def yN(T:cT)(t f:Nat)(x:D):Option D:=match vy T t f with
 | some (c,b)=>match x with
  |.agg a=>oL b (a.drop c)
  |_=>none
 |none=>none
def oK(T:cT)(t:Nat):Option (TI × Option Nat):=match T t with
 | some c=>match c.td with
  | .sl a=>match T a with
   |some b=>some (b,none)
   |none=>none
  | .arr d a=>match T a with
   |some b=>some (b,some d)
   |none=>none
  |_=>none
 |none=>none
def aQ(T:cT)(t:Nat)(x y:D):Option D:=match oK T t,y with
 | some (b,none),.int _ a=>match x with
  | .sl e _ k=>if e=b.Y∧0≤a then match k[a.toNat]? with
   |some j=>some (.aI j)
   |none=>none
   else none
  |.aO e d i c=>if e=b.Y∧0≤a∧a<c then some (.ptr d (i+a.toNat) 0)else none
  |_=>none
 | some (b,some c),.int _ a=>if 0≤a∧a<c∧0<b.Y then match x with
  |.aI f=>if a.toNat*b.Y<f.length then some (.aI (f.drop (a.toNat*b.Y)))else none
  |.ptr d h g=>some (.ptr d h (g+a.toNat*b.Y))
  |_=>none
  else none
 |_,_=>none
def lE (T:cT) (t:Nat) (x y:D):Option D:=match x,y with
 | .str f,.int _ a=>match T t with
  | some g=>match g.td with
   | .str=>if 0≤a then match f[a.toNat]? with
    |some c=>some (.int .u8 c.toNat)
    |none=>none
    else none
   |_=>none
  |none=>none
 | .agg d,.int _ a=>match oK T t with
  |some (b,some e)=>if 0≤a∧a<e then oL b (d.drop (a.toNat*b.Y))else none
  |_=>none
 |_,_=>none
def kg (T:cT) (t:Nat) (x:D) (lo hi mx:Option Int):Option D:=match T t with
 | some m=>match m.td,x with
  | .str,.str g =>
   let a:=hi.getD g.length
   let b:=lo.getD 0
   if mx=none∧0≤b∧b≤a∧a≤g.length then some (.str ((g.take a.toNat).drop b.toNat))else none
  | .sl i,x=>match T i with
   | some f=>match x with
    |.aB=>if lo.getD 0=0∧hi.getD 0=0∧mx.getD 0=0 then some .aB else none
    | .sl c j d =>
     let a:=hi.getD d.length
     let b:=lo.getD 0
     if c=f.Y∧0≤b∧b≤a then match mx with
      |none=>if a≤d.length then some (.sl c (j&&decide (a=d.length)) ((d.take a.toNat).drop b.toNat))else none
      |some e=>if a≤e∧e≤d.length then some (.sl c (decide (a=e)) ((d.take a.toNat).drop b.toNat))else none
     else none
    | .aO c k l h =>
     let a:=hi.getD h
     let b:=lo.getD 0
     if c=f.Y∧0<f.Y∧0≤b∧b≤a∧a≤h then match mx with
      |none=>if b<a∨b=0 then some (.aO c k (l+b.toNat) (a - b).toNat)else some (.sl c false [])
      |some e=>if b=0∧a=0∧e=0 then some (.sl c true [])else none
     else none
    |_=>none
   |none=>none
  |_,_=>none
 |none=>none
def gZ:D→Option Int
 |.int _ n=>some n
 |_=>none
def gj(T:cT)(t:Nat)(l h m:Bool)(ds:List D):Option D:=match l,h,m,ds with
 |false,false,false,[c]=>kg T t c none none none
 |true,false,false,[c,a]=>(gZ a).bind λa=>kg T t c (some a) none none
 |false,true,false,[c,a]=>(gZ a).bind λa=>kg T t c none (some a) none
 |true,true,false,[c,a,b]=>(gZ a).bind λa=>(gZ b).bind λb=>kg T t c (some a) (some b) none
 |false,true,true,[c,a,b]=>(gZ a).bind λa=>(gZ b).bind λb=>kg T t c none (some a) (some b)
 |true,true,true,[c,a,b,d]=>(gZ a).bind λa=>(gZ b).bind λb=>(gZ d).bind λd=>kg T t c (some a) (some b) (some d)
 |_,_,_,_=>none
def eZ(i:Nat):D→Option D
 |.bZ ds=>ds[i]?
 |_=>none
def lD(fs:List (Nat × Nat × Nat)):List D→List Nat→List D→Option (List D)
 |cs,[],[]=>some cs
 | cs,i::a,d::ds=>match fs[i]? with
  | some (_,off,Y)=>match Nat.beq (cP d).length Y&&Nat.ble (off+Y) cs.length&&d.fT with
   |true=>lD fs (dQ cs off (cP d)) a ds
   |false=>none
  |none=>none
 |_,_,_=>none
def eX(T:cT)(t:Nat)(d:List Nat)(ds:List D):Option D:=match T t with
 | some b=>match b.td with
  |.st f=>(lD f b.zero d ds).bind λa=>some (.agg a)
  | .arr h c=>match T c with
   |some e=>(lD ((List.range h).map λg=>(c,g*e.Y,e.Y)) b.zero d ds).bind λa=>some (.agg a)
   |none=>none
  |_=>none
 |none=>none
def p5(Y:Nat):Nat→List Nat→List D→Option (List (List D))
 |_,[],[]=>some []
 | k,i::a,d::ds=>match Nat.beq i k&&Nat.beq (cP d).length Y&&d.fT with
  | true=>match p5 Y (k+1) a ds with
   |some r=>some (cP d::r)
   |none=>none
  |false=>none
 |_,_,_=>none
def mU (T:cT) (t n:Nat) (c:List Nat) (ds:List D):Option (Nat × Nat × List (List D)):=match T t with
 | some d=>match d.td with
  | .sl b=>match T b with
   | some a=>match Nat.blt 0 a.Y&&Nat.ble (n*a.Y) 16777216&&Nat.beq c.length n with
    | true=>match p5 a.Y 0 c ds with
     |some e=>some (b,a.Y,e)
     |none=>none
    |false=>none
   |none=>none
  |_=>none
 |none=>none
def rn:D→Option D
 |.str s=>some (.int .i64 s.length)
 |.aB=>some (.int .i64 0)
 |.sl _ _ rows=>some (.int .i64 rows.length)
 |.aO _ _ _ n=>some (.int .i64 n)
 |_=>none
def yK:D→Option D
 |.aB=>some (.int .i64 0)
 |.sl _ true rows=>some (.int .i64 rows.length)
 |_=>none
def aT(T:cT)(t:Nat)(x:D):Option D:=match T t with
 | some e=>match e.td,x with
  |.str,.str f=>rn (.str f)
  |.sl _,.aB=>rn .aB
  |.sl _,.sl a b c=>rn (.sl a b c)
  |.sl _,.aO a b c d=>rn (.aO a b c d)
  |_,_=>none
 |none=>none
def FX(T:cT)(t:Nat)(x:D):Option D:=match T t with
 | some a=>match a.td with
  |.sl _=>yK x
  |_=>none
 |none=>none
def rp:D→D→Option D
 |.int k a,.int _ b=>some (.int k (if b<a then b else a))
 |_,_=>none
def yQ:D→D→Option D
 |.int k a,.int _ b=>some (.int k (if b>a then b else a))
 |_,_=>none
def oI(t:Nat):D→Option D
 |.iface a x=>if a=t then some x else none
 |_=>none
def ln(T:cT)(g:Op)(ds:List D):Option D:=match g with
 |.move _|.assign _=>match ds with|[i]=>some i|_=>none
 |.pick _ _ _=>match ds with|[e,h,k]=>cD e h k|_=>none
 |.nilCheck _=>match ds with|[i]=>hd T i|_=>none
 |.binOp g u _ _ _=>match ds with|[a,c]=>V T g u a c|_=>none
 |.unOp g _ _=>match ds with|[a]=>fx g a|_=>none
 |.convert s b _=>match ds with|[a]=>kf T s b a|_=>none
 |.makeFunc f h k=>some (.fn f (ds.take h.size) (ds.drop h.size))
 |.slice b _ o n p=>gj T b o.isSome n.isSome p.isSome ds
 |.fieldAddr b _ f=>match ds with|[a]=>aC T b f a|_=>none
 |.field b _ f=>match ds with|[a]=>yN T b f a|_=>none
 |.indexAddr b _ _=>match ds with|[a,c]=>aQ T b a c|_=>none
 |.index b _ _=>match ds with|[a,c]=>lE T b a c|_=>none
 |.extract _ d=>match ds with|[a]=>eZ d a|_=>none
 |.build b j=>eX T b (j.toList.map (·.1)) ds
 | .makeInterface b _=>match ds,T b with
  | [a],some d=>(match d.td with
   |.ptr _=>some (.iface b a)
   |.int _=>some (.iface b a)
   |_=>none)
  |_,_=>none
 | .typeAssert _ _ b l=>match ds,T b with
  | [a],some d=>(match d.td,l with
   |.int _,false=>oI b a
   |_,_=>none)
  |_,_=>none
 |.alloc m=>match T m with|some d=>some (.aI d.zero)|none=>none
 |.box _ _=>match ds with|[a]=>if a.fT then some (.aI (cP a))else none|_=>none
 |.buildSlice b q j=>(mU T b q (j.toList.map (·.1)) ds).bind λ(_,t,r)=>some (.sl t true r)
 | .call e=>match e.callee with
  |.builtin .len=>match ds,e.argTypes[0]? with|[a],some b=>aT T b a|_,_=>none
  |.builtin .cap=>match ds,e.argTypes[0]? with|[a],some b=>FX T b a|_,_=>none
  |.builtin .min=>match ds with|[a,c]=>rp a c|_=>none
  |.builtin .max=>match ds with|[a,c]=>yQ a c|_=>none
  |_=>none
 |_=>none
def J.row(h:J)(o i:Nat):Option (List D):=match h[o]? with
 |some (.row _ _ a)=>a[i]?
 |_=>none
def aA(T:cT)(h:J)(t:Nat)(p:D):Option D:=match T t with
 | some a=>match p with
  |.aI b=>oL a b
  | .ptr d c e=>match h.row d c with
   |some f=>oL a (f.drop e)
   |none=>none
  |_=>none
 |none=>none
def jH(h:J)(Y:Nat):D→Option (List (List D))
 |.aB=>some []
 |.sl z _ rows=>if z=Y then some rows else none
 | .aO z o r n=>if z=Y then match h[o]? with
  |some (.row _ _ rows)=>some ((rows.drop r).take n)
  |_=>none
  else none
 |_=>none
def oJ:List (List D)→Option (List UInt8)
 |[]=>some []
 | [.int .u8 n]::r=>match oJ r with
  |some s=>some (UInt8.ofNat n.toNat::s)
  |none=>none
 |_=>none
def F2(h:J)(x:D):Option D:=match jH h 1 x with
 | some a=>match oJ a with
  |some b=>some (.str b)
  |none=>none
 |none=>none
def mq (T:cT) (h:J) (f:Op) (ds:List D):Option D:=match f with
 |.load a _=>match ds with|[g]=>aA T h a g|_=>none
 | .convert i a _=>match T i,T a with
  | some c,some d=>match c.td,d.td with
   | .sl b,.str=>match T b with
    | some e=>match e.td with
     |.int .u8=>match ds with|[j]=>F2 h j|_=>none
     |_=>none
    |none=>none
   |_,_=>none
  |_,_=>none
 |_=>none
def aZ(h:J)(T Y:Nat)(rows:List (List D)):J:=h++[.row T Y rows]
def bT (T:cT) (h:J) (t:Nat) (p v:D):Option J:=match T t,p with
 | some a,.ptr c b d=>match h[c]? with
  | some (.row g i f)=>match f[b]? with
   | some e=>match Nat.beq (cP v).length a.Y&&Nat.ble (d+a.Y) e.length&&v.fT with
    |true=>some (h.set c (.row g i (f.set b (dQ e d (cP v)))))
    |false=>none
   |none=>none
  |_=>none
 |_,_=>none
def iB(s:List UInt8):List (List D):=s.map λa=>[.int .u8 a.toNat]
def lim(n a:Nat):Bool:=Nat.ble (n*a) 140737488355328&&Nat.ble n 9223372036854775807
def k0(h:J)(c j:TI)(y:D):Option (List (List D)):=match c.td with
 | .str=>match j.td,y with
  |.int .u8,.str b=>if j.Y=1 then some (iB b)else none
  |_,_=>none
 |.sl _=>jH h j.Y y
 | .int _=>match y with
  |.int .i64 a=>if 0≤a∧lim a.toNat j.gI=true then some (List.replicate a.toNat j.zero)else none
  |_=>none
 |_=>none
def cW (T:cT) (h:J) (t q:Nat) (x y:D):Option (D × J):=match T t,T q with
 | some o, some p=>match o.td with
  | .sl e => match T e with
   | some a=>match Nat.blt 0 a.Y,k0 h p a y with
    | true,some []=>match x with
     |.aB=>some (.aB,h)
     |.sl i j k=>some (.sl i j k,h)
     |.aO i j k n=>some (.aO i j k n,h)
     |_=>none
    | true, some b=>match x with
     |.aB=>if lim b.length a.gI=true then some (.aO a.Y h.length 0 b.length,aZ h e a.Y b)else none
     |.sl f true c=>if f=a.Y∧lim (c.length+b.length) a.gI=true then some (.aO a.Y h.length 0 (c.length+b.length),aZ h e a.Y (c++b))else none
     | .aO f g 0 d=>match h[g]? with
      | some (.row l m c)=>if f=a.Y∧m=f∧l=e∧d≤c.length∧lim (d+b.length) a.gI=true then
        (if d=c.length then some (.aO a.Y h.length 0 (d+b.length),aZ (h.set g .dead) e a.Y (c++b))
        else if d+b.length≤c.length then some (.aO f g 0 (d+b.length),h.set g (.row l m (c.take d++b++c.drop (d+b.length))))else none)
       else none
      |_=>none
     |_=>none
    |_,_=>none
   |none=>none
  |_=>none
 |_,_=>none
def IA(i:TI):Bool:=match i.td with
 |.int _=>false
 |_=>true
def yL (T:cT) (h:J) (t n:Nat) (x y:D):Option (D × J):=match T t,T n with
 | some m, some d=>match m.td,IA d with
  | .sl l,true=>match T l with
   | some a=>match Nat.blt 0 a.Y,k0 h d a y with
    | true,some c=>match x with
     |.aB=>some (.int .i64 0,h)
     | .aO i e f b=>match h[e]? with
      |some (.row k j g)=>if i=a.Y∧j=i then some (.int .i64 (min c.length b:Nat),h.set e (.row k j (g.take f++c.take b++g.drop (f+min c.length b))))else none
      |_=>none
     |_=>none
    |_,_=>none
   |none=>none
  |_,_=>none
 |_,_=>none
def p4(T:cT)(h:J)(t:Nat)(n c:D):Option (D × J):=match T t,n,c with
 | some d,.int .i64 n,.int .i64 c=>match d.td with
  | .sl b=>match T b with
   |some a=>if 0≤n∧n≤c∧lim c.toNat a.gI=true∧0<a.Y then some (.aO a.Y h.length 0 n.toNat,aZ h b a.Y (List.replicate n.toNat a.zero))else none
   |none=>none
  |_=>none
 |_,_,_=>none
def p3 (T:cT) (h:J) (t:Nat) (x:D):Option (D × J):=match T t with
 | some k=>match k.td with
  | .sl j=>match T j with
   | some a=>match Nat.blt 0 a.Y,x with
    |true,.aB=>some (.bZ [],h)
    |true,.sl _ _ []=>some (.bZ [],h)
    |true,.aO _ _ _ 0=>some (.bZ [],h)
    | true,.aO f c d b=>match h[c]? with
     |some (.row i g e)=>if f=a.Y∧g=f then some (.bZ [],h.set c (.row i g (e.take d++List.replicate b a.zero++e.drop (d+b))))else none
     |_=>none
    |_,_=>none
   |none=>none
  |_=>none
 |none=>none
def yM (T:cT) (h:J) (t:Nat) (l c:Bool) (ds:List D):Option (D × J):=match gj T t l c true ds with
 |some i=>some (i,h)
 | none=>match l,c,ds with
  | false,true,[.aO b e 0 d,.int _ a,.int _ g]=>match h[e]?,T t with
   | some (.row o n f),some k=>match k.td with
    | .sl j=>match T j with
     |some m=>if b=m.Y∧n=b∧a=g∧0≤a∧a≤d∧d≤f.length then some (.sl b true (f.take a.toNat),h.set e .dead)else none
     |none=>none
    |_=>none
   |_,_=>none
  |_,_,_=>none
def yP (T:cT) (h:J) (s t:Nat) (x:D):Option (D × J):=match T t with
 | some c=>match c.td,x with
  | .sl b,.aO 1 a f e=>match T b,h[a]? with
   | some d,some (.row _ 1 _)=>match d.td with
    |.int .u8=>if s=t then some (.aO 1 a f e,h)else none
    |_=>none
   |_,_=>none
  |_,_=>none
 |none=>none
def pA (T:cT) (h:J) (r:Op) (ds:List D):Option (D × J):=match r with
 |.store a _ _=>match ds with|[s,u]=>(bT T h a s u).bind λm=>some (.bU,m)|_=>none
 |.alloc c=>match T c with|some d=>if 0<d.Y then some (.ptr h.length 0 0,aZ h c d.Y [d.zero])else none|none=>none
 |.box c _=>match T c,ds with|some d,[b]=>if b.fT=true∧(cP b).length=d.Y∧0<d.Y then some (.ptr h.length 0 0,aZ h c d.Y [cP b])else none|_,_=>none
 |.buildSlice a g t=>(mU T a g (t.toList.map (·.1)) ds).bind λ(c,l,k)=>some (.aO l h.length 0 k.length,aZ h c l k)
 |.makeSlice a _ _=>match ds with|[g,e]=>p4 T h a g e|_=>none
 |.slice a _ q n (some _)=>yM T h a q.isSome n.isSome ds
 | .convert f a _=>match T f,T a,ds with
  | some d,some o,[b]=>match d.td,o.td with
   | .str,.sl c=>match T c with
    | some p=>match p.td with
     | .int .u8=>match b with
      |.str f=>if lim f.length 1=true then some (.aO 1 h.length 0 f.length,aZ h c 1 (iB f))else none
      |_=>none
     |_=>none
    |none=>none
   |.sl _,.sl _=>yP T h f a b
   |_,_=>none
  |_,_,_=>none
 | .call e=>match e.callee with
  |.builtin .append=>match ds,e.argTypes.toList with|[b,j],[a,i]=>cW T h a i b j|_,_=>none
  |.builtin .copy=>match ds,e.argTypes.toList with|[b,j],[a,i]=>yL T h a i b j|_,_=>none
  |.builtin .clear=>match ds,e.argTypes.toList with|[b],[a]=>p3 T h a b|_,_=>none
  |_=>none
 |_=>none
def tX(T:cT)(c:Op):Option D:=match c with
 | .alloc a=>match T a with
  | some b=>match Nat.blt 0 b.Y with
   |true=>some .any
   |false=>none
  |none=>none
 |_=>none
inductive Kj where
 |pure|read|write|call|gn
def fb(T:cT)(fz:List Nat)(o:Oper):Kj:=match o.op with
 |.load _ _ =>.read
 | .convert e f _=>match T e,T f with
  | some c,some d=>match c.td,d.td with
   |.sl _,.str =>.read
   |.str,.sl _ =>.write
   |.sl _,.sl _ =>.write
   |_,_ =>.pure
  |_,_ =>.pure
 |.store _ _ _|.makeSlice _ _ _ =>.write
 | .slice _ _ _ _ (some _)=>match o.dst with
  |some a=>if fz.any (Nat.beq a)then .pure else .write
  |none =>.write
 | .alloc _=>match o.dst with
  |some a=>if fz.any (Nat.beq a)then .pure else if fz.any (Nat.beq (a+1000000))then .gn else .write
  |none =>.write
 | .box _ _|.buildSlice _ _ _=>match o.dst with
  |some a=>if fz.any (Nat.beq a)then .pure else .write
  |none =>.write
 | .call b=>match b.callee with
  |.builtin .append|.builtin .copy|.builtin .clear =>.write
  |.builtin _ =>.pure
  |_ =>.call
 |_ =>.pure
end Go.Pi
namespace Go.Eng
abbrev dH:=@List.getElem?_map
abbrev eC:=@run_underlying
abbrev gO:=@List.map_cons
abbrev kU:=@Option.some.injEq
abbrev xv:=@ByteArray.ext
end Go.Eng
namespace Go.Pi
open Go.Eng
def mn:Value→D
 |.bool b =>.bool b
 |.int k n =>.int k n
 |.string s =>.str s.data.toList
 |.pointer none =>.h9
 |.slice none 0 0 =>.aB
 |.nilFunc =>.jx
 |.nilIface =>.ko
 |_ =>.any
def ofConst:Value→D
 | .agg cs=>match cs.toList.all (·.oneCell')with
  |true =>.agg (cs.toList.map mn)
  |false =>.any
 |v=>mn v
theorem Cc(g:Gh)(v:Value):aM g v (mn v):=by
 unfold mn;split<;>first|exact .any _|exact .bool _|exact .int _ _|exact .str _|exact .h9|exact .aB|exact .jx|exact .ko
theorem Uk(g:Gh)(v:Value):aM g v (ofConst v):=by
 unfold ofConst;split
 ·rename_i b;split
  ·rename_i c;have:=aM.agg (g:=g) b.toList (b.toList.map mn) (by simp) (λv e=>(gg.1 c) v e) (λh v f d a=>by
    rw[dH,d]at a;injection a with a;subst a;exact Cc g v)
   simpa using this
  ·exact .any _
 ·exact Cc g _
theorem qA(g:Gh)(vs:List Value):cC g vs (vs.map mn) :=.of (by simp) λe c d b a=>by
 rw[dH,b]at a;injection a with a;subst a;exact Cc g c
def rR(P:Program)(fs:Array Field):List (Nat × Nat × Nat):=fs.toList.map λa=>(a.type,a.offset,P.cellsOf a.type)
def j6(P:Program):TypeDesc→TD
 |.bool =>.bool
 |.int k =>.int k
 |.string =>.str
 |.pointer e =>.ptr e
 |.slice e =>.sl e
 |.array n e =>.arr n e
 |.struct fs =>.st (rR P fs)
 |.func _ _ _ =>.fn
 |.interface _ =>.Hb
 |_ =>.uk
def Iq(i:TypeInfo)(d:TD):List (String × Option Nat):=i.methods.toList.map λa=>(a.name,match d,a.func with
 | .ptr _,some (b,true)=>(match a.path.toList with
  |[]=>some b
  |_=>none)
 |_,_=>none)
def sk(P:Program)(t:Nat):Option TI:=match P.info? t,P.underlying t with
 | some i,some a=>match i.zero with
  |some b=>some ⟨j6 P a,i.size,i.bytes,b.cells.toList.map mn,Iq i (j6 P a)⟩
  |none=>none
 |_,_=>none
def rU(P:Program)(t:Nat):Bool:=match P.info? t,P.underlying t with
 | some i,some d=>(match i.zero with
  |some b=>Nat.beq b.cells.size i.size&&b.cells.toList.all (·.oneCell')
  |none=>false)&&(match d with
  |.struct c=>c.toList.all (λa=>a.name != "_" && (P.info? a.type).isSome) && !P.stoodInHeld t && !P.eqGuardType P.depth t
  |_=>true)
 |_,_=>false
def dO(P:Program)(T:cT):Prop:=∀t i,T t=some i→sk P t=some i∧rU P t=true
section tab
variable {P:Program} {T:cT} (hT:dO P T) {t:Nat} {i:TI} (ht:T t=some i)
include hT ht
theorem dO.get:∃b d z,P.info? t=some b∧P.underlying t=some d∧b.zero=some z∧i=⟨j6 P d,b.size,b.bytes,z.cells.toList.map mn,Iq b (j6 P d)⟩∧z.cells.size=b.size∧(∀v∈z.cells.toList,v.oneCell'=true) ∧
  (∀fs,d = .struct fs→(∀f∈fs.toList,f.name ≠ "_" ∧ (P.info? f.type).isSome=true)∧P.stoodInHeld t=false∧P.eqGuardType P.depth t=false):=by
 obtain⟨a,c⟩:=hT t i ht;unfold sk at a;unfold rU at c;cases g:P.info? t with
 |none=>rw[g]at a;simp at a
 | some b =>
  cases j:P.underlying t with
  |none=>rw[g,j]at a;simp at a
  | some d =>
   rw[g,j]at a c;simp only at a c;cases h:b.zero with
   |none=>rw[h]at a;simp at a
   | some z =>
    rw[h]at a c;simp only[kU]at a;simp only[eO]at c;obtain⟨⟨k,l⟩,e⟩:=c;refine⟨b,d,z,rfl,rfl,h,a.symm,ib k,λv n=>(gg.1 l) v n,λfs m=>?_⟩;subst m;simp only[eO,lr,gg,bne_iff_ne,dC]at e;exact⟨e.1.1,e.1.2,e.2⟩
theorem dO.size(w:World):(sizeOf t).run P w = .ok i.Y w:=by
 obtain⟨d,e,f,a,b,c,rfl,_⟩:=hT.get ht;simp[sizeOf,typeInfo,a]
theorem dO.pC:∃z,(∀w,(zeroValue t).run P w = .ok z w)∧i.zero=z.cells.toList.map mn∧z.cells.size=i.Y∧∀v∈z.cells.toList,v.oneCell'=true:=by
 obtain⟨f,g,z,a,e,b,rfl,c,d,_⟩:=hT.get ht;exact⟨z,λw=>by simp[zeroValue,typeInfo,a,b],rfl,c,d⟩
theorem dO.Kg:i.zero.length=i.Y:=by
 obtain⟨c,_,a,b,_⟩:=hT.pC ht;rw[a];simpa using b
theorem dO.yA(w:World):(isAgg t).run P w = .ok i.isAgg w:=by
 obtain⟨e,b,f,c,a,d,rfl,_⟩:=hT.get ht;cases b<;>simp[isAgg,eC a,TI.isAgg,j6]
theorem dO.bool(h:i.td = .bool):P.underlying t=some .bool:=by
 obtain⟨e,b,f,c,a,d,rfl,_⟩:=hT.get ht;cases b<;>simp[j6]at h;exact a
theorem dO.int{k:IntKind}(h:i.td = .int k):P.underlying t=some (.int k):=by
 obtain⟨e,b,f,c,a,d,rfl,_⟩:=hT.get ht;cases b<;>simp[j6]at h;subst h;exact a
theorem dO.str(h:i.td = .str):P.underlying t=some .string:=by
 obtain⟨e,b,f,c,a,d,rfl,_⟩:=hT.get ht;cases b<;>simp[j6]at h;exact a
theorem dO.ptr{e:Nat}(h:i.td = .ptr e):P.underlying t=some (.pointer e):=by
 obtain⟨f,b,g,c,a,d,rfl,_⟩:=hT.get ht;cases b<;>simp[j6]at h;subst h;exact a
theorem dO.sl{e:Nat}(h:i.td = .sl e):P.underlying t=some (.slice e):=by
 obtain⟨f,b,g,c,a,d,rfl,_⟩:=hT.get ht;cases b<;>simp[j6]at h;subst h;exact a
theorem dO.arr{n e:Nat}(h:i.td = .arr n e):P.underlying t=some (.array n e):=by
 obtain⟨f,b,g,c,a,d,rfl,_⟩:=hT.get ht;cases b<;>simp[j6]at h;obtain⟨rfl,rfl⟩:=h;exact a
theorem dO.fn(h:i.td = .fn):∃a b c,P.underlying t=some (.func a b c):=by
 obtain⟨j,e,k,f,d,g,rfl,_⟩:=hT.get ht;cases e<;>simp[j6]at h;exact⟨_,_,_,d⟩
theorem dO.st{fs:List (Nat × Nat × Nat)}(h:i.td = .st fs):∃a,P.underlying t=some (.struct a)∧fs=rR P a∧(∀f∈a.toList,f.name ≠ "_" ∧ (P.info? f.type).isSome=true)∧P.stoodInHeld t=false∧P.eqGuardType P.depth t=false:=by
 obtain⟨j,d,k,e,b,g,rfl,_,_,c⟩:=hT.get ht;cases d<;>simp[j6]at h;exact⟨_,b,h.symm,c _ rfl⟩
end tab
theorem Iu {P:Program} {T:cT} (hT:dO P T) {t:Nat} {m:String} {f:FuncId} (c:ug T t m=some f):∃d b e,P.info? t=some d∧d.methods.find? (·.name==m)=some b∧b.path.toList=[]∧b.func=some (f,true)∧P.underlying t=some (.pointer e):=by
 unfold ug at c;split at c
 case h_2=>cases c
 rename_i i ht;obtain⟨d,o,E,q,A,B,rfl,_⟩:=hT.get ht;simp only at c;have y:∀(g:List Method),wG (g.map λm=>(m.name,match j6 P o,m.func with
 | .ptr _,some (f,true)=>(match m.path.toList with
  |[]=>some f
  |_=>none)
 | _, _ => none)) m=some f→∃b e,g.find? (·.name==m)=some b∧b.path.toList=[]∧b.func=some (f,true)∧j6 P o = .ptr e:=by
  intro g
  induction g with
  |nil=>intro a;cases a
  | cons p D x =>
   intro a;simp only[gO,wG]at a;split at a
   ·rename_i h;split at a
    ·rename_i e z v s;split at a
     ·rename_i u;injection a with a;subst a;exact⟨p,e,by simp[List.find?_cons,h],u,s,v⟩
     ·cases a
    ·cases a
   ·rename_i h;obtain⟨b,e,j,k,l,n⟩:=x a;exact⟨b,e,by simp[List.find?_cons,h,j],k,l,n⟩
 obtain⟨b,e,j,k,l,n⟩:=y _ c;have w:P.underlying t=some (.pointer e):=hT.ptr ht n;have r:d.methods.find? (·.name==m)=some b:=by rw[← Array.find?_toList];exact j
 exact⟨d,b,e,q,r,k,l,w⟩
theorem Is(P:Program):∃k,P.types.size+Made.depth=k+1:=by
 have a:0<Made.depth:=by decide
 exact⟨P.types.size+Made.depth - 1,by omega⟩
def fU(P:Program)(ρ:Operand→Value)(o:Oper)(g:Gh)(d:D):Prop:=(∃a,(execOp ρ o).run P g.w = .ok (.value a) g.w∧aM g a d)
section ops
variable {P:Program} {T:cT} (hT:dO P T) {g:Gh} {ρ:Operand→Value} {dst:Option Tmp} {ty:TypeId} {pos:String} {af:Array Edge} {O:Option (Nat × Bool)}
theorem I2{s:List UInt8}:(ByteArray.mk s.toArray).toList=s:=ByteArray.toList_mk s
theorem qz{s:List UInt8}:(ByteArray.mk s.toArray).size=s.length:=by simp[ByteArray.size]
theorem Ms{c a b:Operand}{k i j d:D}(e:aM g (ρ c) k)(l:aM g (ρ a) i)(m:aM g (ρ b) j)(h:cD k i j=some d):fU P ρ ⟨dst,.pick c a b,ty,pos,af,O⟩ g d:=by
 unfold cD at h;split at h
 ·injection h with h;subst h;generalize f:ρ c=n at e;cases e;exact⟨ρ a,by simp[execOp,f,asBool],l⟩
 ·injection h with h;subst h;generalize f:ρ c=n at e;cases e;exact⟨ρ b,by simp[execOp,f,asBool],m⟩
 ·cases h
theorem Mr(hT:dO P T){x:Operand}{e d:D}(a:aM g (ρ x) e)(h:hd T e=some d):fU P ρ ⟨dst,.nilCheck x,ty,pos,af,O⟩ g d:=by
 unfold hd at h;split at h
 ·injection h with h;subst h;refine⟨ρ x,?_,a⟩;generalize b:ρ x=c at a;cases a;simp[execOp,b]
 ·injection h with h;subst h;refine⟨ρ x,?_,a⟩;generalize b:ρ x=c at a;cases a;simp[execOp,b]
 ·injection h with h;subst h;refine⟨ρ x,?_,a⟩;generalize b:ρ x=c at a;cases a;simp[execOp,b]
 ·rename_i F t L;split at h
  case h_2=>cases h
  rename_i w l;injection h with h;subst h;refine⟨ρ x,?_,a⟩;obtain⟨C,G,u,i,j,n,o,A⟩:=Iu hT l;obtain⟨E,k⟩:=Is P;generalize b:ρ x=c at a;cases a with
  | fn y first s r K f v p H =>
   match r,f with
   | [q],_ =>
    have m:=p 0 q _ rfl rfl;cases m with
    | iface _ I _ B =>
     simp[execOp,b,run_program,k,nilAhead,typeInfo,i,j,n,followBlind,o]
 ·injection h with h;subst h;refine⟨ρ x,?_,a⟩;generalize b:ρ x=c at a;cases a;simp[execOp,b]
 ·cases h
theorem Mw{t:TypeId}{x:Operand}{i:UnOp}{f d:D}(b:aM g (ρ x) f)(h:fx i f=some d):fU P ρ ⟨dst,.unOp i t x,ty,pos,af,O⟩ g d:=by
 unfold fx at h;split at h
 ·rename_i k;injection h with h;subst h;generalize c:ρ x=j at b;cases b;exact⟨.bool (!k),by simp[execOp,c,Op.unary],.bool _⟩
 ·rename_i a e;injection h with h;subst h;generalize c:ρ x=j at b;cases b;exact⟨.int a (a.wrap (0 - e)),by simp[execOp,c,Op.unary,Op.intArith],.int _ _⟩
 ·rename_i a e;injection h with h;subst h;generalize c:ρ x=j at b;cases b;exact⟨.int a (a.wrap (BitVec.ofInt a.bits (if a.signed then -1 else a.max) ^^^ BitVec.ofInt a.bits e).toNat),by simp[execOp,c,Op.unary,Op.intBits],.int _ _⟩
 ·cases h
theorem Mh{c:BinOp}{i ty':TypeId}{x y:Operand}{k:IntKind}{a b:Int}{d:D}(p:ρ x = .int k a)(q:ρ y = .int k b)(l:c ≠ .shl∧c ≠ .shr)(h:iN c k a b=some d):fU P ρ ⟨dst,.binOp c i x y ty',ty,pos,af,O⟩ g d:=by
 have f:∀j,aM g j d→(binOp c i (.int k a) (.int k b)).run P g.w = .ok j g.w→fU P ρ ⟨dst,.binOp c i x y ty',ty,pos,af,O⟩ g d:=λj o n=>by
  refine⟨j,?_,o⟩;have m:(eqGuard c i x y (.int k a) (.int k b)).run P g.w = .ok () g.w:=by cases c<;>simp[eqGuard]
  simp[execOp,p,q,m,n]
 cases c
 case shl=>exact absurd rfl l.1
 case shr=>exact absurd rfl l.2
 case quo =>
  by_cases e:b=0
  ·simp[iN,e]at h
  ·simp[iN,e]at h;subst h;exact f _ (.int _ _) (by simp[binOp,Op.intDiv,e])
 case rem =>
  by_cases e:b=0
  ·simp[iN,e]at h
  ·simp[iN,e]at h;subst h;exact f _ (.int _ _) (by simp[binOp,Op.intDiv,e])
 all_goals
  simp only[iN,kU]at h;subst h
  first
   |exact f _ (.int _ _) (by simp[binOp,Op.intArith,Op.intCmp,Op.intBits])
   |exact f _ (.bool _) (by simp[binOp,Op.intArith,Op.intCmp,Op.intBits])
theorem Mu{c:BinOp}{e ty':TypeId}{x y:Operand}{a b:List UInt8}{d:D}(q:ρ x = .string ⟨a.toArray⟩)(r:ρ y = .string ⟨b.toArray⟩)(h:ru c a b=some d):fU P ρ ⟨dst,.binOp c e x y ty',ty,pos,af,O⟩ g d:=by
 have j:∀f,aM g f d→(Op.stringOp c ⟨a.toArray⟩ ⟨b.toArray⟩).run P g.w = .ok f g.w→fU P ρ ⟨dst,.binOp c e x y ty',ty,pos,af,O⟩ g d:=λf p o=>by
  refine⟨f,?_,p⟩;have n:(eqGuard c e x y (.string ⟨a.toArray⟩) (.string ⟨b.toArray⟩)).run P g.w = .ok () g.w:=by cases c<;>simp[eqGuard]
  have m:binOp c e (.string ⟨a.toArray⟩) (.string ⟨b.toArray⟩)=Op.stringOp c ⟨a.toArray⟩ ⟨b.toArray⟩:=by cases c<;>simp[binOp]
  simp[execOp,q,r,n,m,o]
 cases c
 case add =>
  by_cases i:a.length+b.length≤9223372036854775807
  ·simp[ru,i]at h;subst h;refine j (.string ⟨(a++b).toArray⟩) (.str _) ?_;have k:¬(9223372036854775807:Int)<(a.length:Int)+(b.length:Int):=by omega
   have l:(ByteArray.mk a.toArray++ByteArray.mk b.toArray)=ByteArray.mk (a++b).toArray:=by
    apply xv;simp
   simp[Op.stringOp,qz,k,l]
  ·simp[ru,i]at h
 all_goals first
  |(simp[ru]at h;done)
  | (simp only[ru,kU]at h
     subst h;exact j _ (.bool _) (by simp[Op.stringOp,I2]))
end ops
end Go.Pi
namespace Go.Eng
abbrev ja:=@List.mem_of_mem_take
abbrev lv:=@List.getElem?_of_mem
abbrev lW:=@List.mem_of_mem_drop
abbrev qW:=@List.getD_eq_getElem?_getD
end Go.Eng
namespace Go.Pi
open Go.Eng
section inv
variable {g:Gh}
theorem aM.pZ{v:Value}{cs:List D}(h:aM g v (.agg cs)):∃vs,v = .agg vs.toArray∧cC g vs cs∧∀d∈vs,d.oneCell'=true:=by
 cases h with
 |agg vs cs b a c=>exact⟨vs,rfl,.of b c,a⟩
theorem aM.r5{vs:List Value}{cs:List D}(h:cC g vs cs)(a:∀b∈vs,b.oneCell'=true):aM g (.agg vs.toArray) (.agg cs) :=.agg vs cs h.length a h.get
theorem aM.CR{v:Value}{cs:List D}(h:aM g v (.bZ cs)):∃vs,v = .tuple vs.toArray∧cC g vs cs:=by
 cases h with
 |bZ vs cs a b=>exact⟨vs,rfl,.of a b⟩
theorem aM.wN{vs:List Value}{cs:List D}(h:cC g vs cs):aM g (.tuple vs.toArray) (.bZ cs) :=.bZ vs cs h.length h.get
theorem aM.cells{v:Value}{d:D}(h:aM g v d)(f:d.fT=true):∃vs,v.cells=vs.toArray∧cC g vs (cP d)∧∀c∈vs,c.oneCell'=true:=by
 by_cases a:d.one=true
 ·have i:=h.one a;refine⟨[v],?_,?_,?_⟩
  ·cases h<;>first|rfl|(simp[D.one]at a)
  ·have:cP d=[d]:=by cases d<;>first|rfl|(simp[D.one]at a)
   rw[this];exact .cons h .nil
  ·intro c b;simp at b;subst b;exact i
 ·cases d<;>simp[D.fT,D.one]at f a;obtain⟨vs,rfl,j,e⟩:=h.pZ;exact⟨vs,rfl,j,e⟩
def At(g:Gh)(b o:Nat)(vs:List Value)(cs:List D):Prop:=(∀(c:Nat) (a:Value),vs[c]?=some a→g.w.cell? ⟨b,o+c,none⟩=some a)∧(∀a∈vs,a.oneCell'=true)∧cC g vs cs
theorem At.drop{b o:Nat}{vs:List Value}{cs:List D}(h:At g b o vs cs)(k:Nat):At g b (o+k) (vs.drop k) (cs.drop k):=
 ⟨(λe a c=>by
  rw[kt]at c;have:=h.1 _ a c
  rwa [← nM]at this),(λa d=>h.2.1 a (lW d)),h.2.2.drop k⟩
theorem At.take{b o:Nat}{vs:List Value}{cs:List D}(h:At g b o vs cs)(k:Nat):At g b o (vs.take k) (cs.take k):=
 ⟨(λe c a=>by
  rw[fF]at a;split at a
  ·exact h.1 _ c a
  ·cases a),(λc d=>h.2.1 c (ja d)),h.2.2.take k⟩
theorem At.of{b o:Nat}{cs:List D}(vs:Nat→Value)(m:∀(j:Nat) (d:D),cs[j]?=some d→g.w.cell? ⟨b,o+j,none⟩=some (vs j))(l:∀(j:Nat) (d:D),cs[j]?=some d→(vs j).oneCell'=true)
  (p:∀(j:Nat) (d:D),cs[j]?=some d→aM g (vs j) d):At g b o ((List.range cs.length).map vs) cs:=by
 have h:∀(j:Nat) (c:Value),((List.range cs.length).map vs)[j]?=some c→∃d,cs[j]?=some d∧c=vs j:=λj c a=>by
  rw[dH]at a;cases f:(List.range cs.length)[j]? with
  |none=>rw[f]at a;cases a
  | some t =>
   rw[f]at a;have n:=bO.1 f;obtain⟨i,k⟩:=n;simp at i k;subst k;injection a with a;exact⟨cs[j],cJ i,a.symm⟩
 refine⟨λj c a=>?_,λc q=>?_,.of (by simp) λj c d a e=>?_⟩
 ·obtain⟨d,e,rfl⟩:=h j c a;exact m j d e
 ·obtain⟨j,a⟩:=lv q;obtain⟨d,e,rfl⟩:=h j c a;exact l j d e
 ·obtain⟨r,s,rfl⟩:=h j c a;exact p j d e
theorem At.aI{b o:Nat}{vs:List Value}{cs:List D}(h:At g b o vs cs)(f:cs≠[]→g.fz b):aM g (.pointer (some ⟨b,o,none⟩)) (.aI cs):=by
 have i:=h.2.2.length;have e:∀(a:Nat) (c:D),cs[a]?=some c→vs[a]?=some (vs.getD a undef):=λa c d=>by
  have:=(bO.1 d).1;rw[qW,cJ (by omega)];rfl
 exact .aI b o cs (λa=>vs.getD a undef) f (λa c d=>h.1 a _ (e a c d)) (λa c d=>h.2.1 _ (eS (e a c d))) (λa c d=>h.2.2.get a _ c (e a c d) d)
theorem aM.wu{v:Value}{cs:List D}(h:aM g v (.aI cs)):∃b o vs,v = .pointer (some ⟨b,o,none⟩)∧(cs≠[]→g.fz b)∧At g b o vs cs:=by
 cases h with
 |aI b o cs vs d c a e=>exact⟨b,o,_,rfl,d,At.of vs c a e⟩
theorem aM.xb{v:Value}{Y:Nat}{a:Bool}{rows:List (List D)}(h:aM g v (.sl Y a rows)){i:Nat}{row:List D}(hi:rows[i]?=some row):
  ∃b o n cap vs,v = .slice (some ⟨b,o,none⟩) n cap∧n=rows.length∧g.fz b∧At g b (o+i*Y) vs row∧row.length=Y:=by
 cases h with
 | sl f n cap Y a rows m u s t w r k vs c j q =>
  have p:rows≠[]:=λl=>by subst l;cases hi
  obtain⟨e,d⟩:=k p;obtain⟨b,o,x⟩:=f;simp only at e d c;subst e;exact⟨b,o,n,cap,_,rfl,m.symm,d,At.of (vs i) (c i row hi) (j i row hi) (q i row hi),r row (eS hi)⟩
end inv
section ops
variable {P:Program} {T:cT} (hT:dO P T) {g:Gh} {ρ:Operand→Value} {dst:Option Tmp} {ty:TypeId} {pos:String} {af:Array Edge} {O:Option (Nat × Bool)}
theorem H2{t:Nat}{i:TI}(hT:dO P T)(l:T t=some i){b o:Nat}{vs:List Value}{cs:List D}(h:At g b o vs cs){d:D}(a:oL i cs=some d):∃v,(loadVar t ⟨b,o,none⟩).run P g.w = .ok v g.w∧aM g v d:=by
 unfold oL at a;have k:=hT.yA l;split at a
 ·rename_i f;split at a
  ·rename_i n;injection a with a;subst a;have e:=h.take i.Y;have j:(vs.take i.Y).length=i.Y:=by
    have:=eW n;simp[h.2.2.length];omega
   exact⟨_,Sg (λc=>by rw[k c,f]) (λc=>hT.size l c) j (λp v m=>by rw[jl];exact e.1 p v m),.r5 e.2.2 e.2.1⟩
  ·cases a
 ·rename_i f;have j:=h.2.2.length;cases cs with
  |nil=>cases a
  | cons q r =>
   simp at a;subst a;cases vs with
   |nil=>simp at j
   |cons v vs=>exact⟨v,Sh (λc=>by rw[k c,f]) (by simpa using h.1 0 v rfl),h.2.2.get 0 v _ rfl rfl⟩
theorem IG{t:Nat}{i:TI}(hT:dO P T)(m:T t=some i){vs:List Value}{cs:List D}(h:cC g vs cs)(n:∀v∈vs,v.oneCell'=true){off:Nat}{d:D}(a:oL i (cs.drop off)=some d):∃v,(part t vs.toArray off).run P g.w = .ok v g.w∧aM g v d:=by
 unfold oL at a;have k:=hT.yA m;have c:=h.drop off;split at a
 ·rename_i e;split at a
  ·rename_i s;injection a with a;subst a;refine⟨.agg ((vs.drop off).take i.Y).toArray,?_,.r5 (c.take _) (λq p=>n q (lW (ja p)))⟩;simp[part,k,e,hT.size m]
  ·cases a
 ·rename_i e;have l:=c.length;cases b:cs.drop off with
  |nil=>rw[b]at a;cases a
  | cons r u =>
   rw[b]at a;simp at a;subst a;cases f:vs.drop off with
   |nil=>rw[f,b]at l;simp at l
   | cons v x =>
    rw[f,b]at c;have o:vs[off]?=some v:=by
     have:=kt (xs:=vs) (i:=off) (j:=0);rw[f]at this;simpa using this.symm
    exact⟨v,by simp[part,k,e,o],c.get 0 v _ rfl rfl⟩
include hT in
theorem GG {t f:Nat} {off:Nat} {j:TI} (h:vy T t f=some (off,j)):∃c b,P.underlying t=some (.struct c)∧c[f]?=some b∧b.offset=off∧T b.type=some j:=by
 unfold vy at h;split at h
 ·rename_i r m;split at h
  ·rename_i p l;split at h
   ·rename_i w u v a;split at h
    ·rename_i s n;injection h with h;injection h with g i;subst g;subst i;obtain⟨c,o,rfl,_⟩:=hT.st m l;unfold rR at a;rw[dH]at a;cases e:c.toList[f]? with
     |none=>rw[e]at a;cases a
     | some b =>
      rw[e]at a;injection a with a;injection a with k d;injection d with d q;subst k;subst d;exact⟨c,b,o,by simpa using e,rfl,n⟩
    ·cases h
   ·cases h
  ·cases h
 ·cases h
include hT in
theorem Md{t f:Nat}{x:Operand}{l d:D}(e:aM g (ρ x) l)(h:aC T t f l=some d):fU P ρ ⟨dst,.fieldAddr t x f,ty,pos,af,O⟩ g d:=by
 unfold aC at h;split at h
 ·rename_i B q u;obtain⟨E,a,o,m,rfl,n⟩:=GG hT u;split at h
  ·rename_i C b;split at h
   ·rename_i F;injection h with h;subst h;have i:q.Y≠0:=by have:=eW b;omega
    obtain⟨r,k,H,c,v,s⟩:=e.wu;refine⟨.pointer (some ⟨r,k+a.offset,none⟩),?_,(s.drop a.offset).aI λz=>v λw=>z (by rw[w];simp)⟩;simp[execOp,Instr.fieldAt,Instr.sureAddr,eC o,m,c,fieldPlace,jl,hT.size n,i]
   ·cases h
  ·rename_i k p A b;injection h with h;subst h;have i:q.Y≠0:=by have:=eW b;omega
   generalize c:ρ x=G at e;cases e with
   | ptr k p B j y =>
    refine⟨.pointer (some ⟨j.b,p*j.Y+(A+a.offset),none⟩),?_,.ptr _ _ _ j y⟩;simp[execOp,Instr.fieldAt,Instr.sureAddr,eC o,m,c,fieldPlace,jl,hT.size n,i,nM]
  ·cases h
 ·cases h
include hT in
theorem Mc{t f:Nat}{x:Operand}{a d:D}(o:aM g (ρ x) a)(h:yN T t f a=some d):fU P ρ ⟨dst,.field t x f,ty,pos,af,O⟩ g d:=by
 unfold yN at h;split at h
 ·rename_i u s c;obtain⟨r,q,m,e,rfl,i⟩:=GG hT c;split at h
  ·obtain⟨v,n,k,b⟩:=o.pZ;obtain⟨p,j,l⟩:=IG hT i k b h;exact⟨p,by simp[execOp,Instr.field,eC m,e,n,asAgg,j],l⟩
  ·cases h
 ·cases h
include hT in
theorem N8{t:Nat}{j:TI}(h:oK T t=some (j,none)):∃e,P.underlying t=some (.slice e)∧T e=some j:=by
 unfold oK at h;split at h
 ·rename_i g d;split at h
  ·rename_i e c;split at h
   ·rename_i i f;injection h with h;injection h with a b;subst a;exact⟨e,hT.sl d c,f⟩
   ·cases h
  ·split at h
   ·injection h with h;injection h with a b;cases b
   ·cases h
  ·cases h
 ·cases h
include hT in
theorem Gl{t n:Nat}{j:TI}(h:oK T t=some (j,some n)):∃e,P.underlying t=some (.array n e)∧T e=some j:=by
 unfold oK at h;split at h
 ·rename_i g d;split at h
  ·split at h
   ·injection h with h;injection h with b a;cases a
   ·cases h
  ·rename_i k e c;split at h
   ·rename_i i f;injection h with h;injection h with b a;subst b;injection a with a;subst a;exact⟨e,hT.arr d c,f⟩
   ·cases h
  ·cases h
 ·cases h
include hT in
theorem Mg {t:Nat} {x y:Operand} {A B d:D} (c:aM g (ρ x) A) (p:aM g (ρ y) B) (h:aQ T t A B=some d):fU P ρ ⟨dst,.indexAddr t x y,ty,pos,af,O⟩ g d:=by
 unfold aQ at h;split at h
 ·rename_i o w b u;obtain⟨K,m,l⟩:=N8 hT u;have n:ρ y = .int w b:=by generalize a:ρ y=z at p;cases p;rfl
  split at h
  ·rename_i X ac aj;split at h
   ·rename_i k;obtain⟨rfl,i⟩:=k;split at h
    ·rename_i ai E;injection h with h;subst h;obtain⟨r,f,q,I,aa,a,Q,L,s,_⟩:=c.xb E;have j:b<q:=by
      have:=(bO.1 E).1;omega
     refine⟨.pointer (some ⟨r,f+b.toNat*o.Y,none⟩),?_,s.aI λ_=>L⟩;simp[execOp,Instr.indexAt,asIntOf,eC m,hT.size l,a,n,i,j,jl]
    ·cases h
   ·cases h
  ·rename_i X f H q;split at h
   ·rename_i k;obtain⟨rfl,i,j⟩:=k;injection h with h;subst h;generalize a:ρ x=z at c;generalize F:o.Y=ak at c;cases c with
    | aO f H q I e v Q ag ae ad =>
     refine⟨.pointer (some ⟨e.b,(H+b.toNat)*e.Y+0,none⟩),?_,.ptr _ _ _ e v⟩;simp[execOp,Instr.indexAt,asIntOf,eC m,hT.size l,a,n,i,j,jl,F,fH]
   ·cases h
  ·cases h
 ·rename_i o q w b u;obtain⟨K,m,l⟩:=Gl hT u;have n:ρ y = .int w b:=by generalize a:ρ y=z at p;cases p;rfl
  split at h
  ·rename_i k;obtain⟨i,j,F⟩:=k;split at h
   ·rename_i ab;split at h
    ·rename_i ah;injection h with h;subst h;obtain⟨r,f,aa,a,M,s⟩:=c.wu;refine⟨.pointer (some ⟨r,f+b.toNat*o.Y,none⟩),?_,(s.drop _).aI λR=>M λN=>R (by rw[N];simp)⟩;simp[execOp,Instr.indexAt,Instr.sureAddr,asIntOf,eC m,hT.size l,a,n,i,j,jl]
    ·cases h
   ·rename_i f G C;injection h with h;subst h;generalize a:ρ x=z at c;cases c with
    | ptr f G C e v =>
     refine⟨.pointer (some ⟨e.b,G*e.Y+(C+b.toNat*o.Y),none⟩),?_,.ptr _ _ _ e v⟩;simp[execOp,Instr.indexAt,Instr.sureAddr,asIntOf,eC m,hT.size l,a,n,i,j,jl,nM]
   ·cases h
  ·cases h
 ·cases h
include hT in
theorem Mf {t:Nat} {x y:Operand} {p q d:D} (l:aM g (ρ x) p) (e:aM g (ρ y) q) (h:lE T t p q=some d):fU P ρ ⟨dst,.index t x y,ty,pos,af,O⟩ g d:=by
 unfold lE at h;split at h
 ·rename_i f n a;have m:ρ y = .int n a:=by generalize c:ρ y=i at e;cases e;rfl
  have G:ρ x = .string ⟨f.toArray⟩:=by generalize c:ρ x=i at l;cases l;rfl
  split at h
  ·rename_i M E;split at h
   ·rename_i C;split at h
    ·rename_i j;split at h
     ·rename_i o b;injection h with h;subst h;have u:(ByteArray.mk f.toArray)[a.toNat]?=some o:=by
       have k:=(bO.1 b).1;have w:a.toNat<(ByteArray.mk f.toArray).size:=by rw[qz];exact k
       rw[getElem?_pos (ByteArray.mk f.toArray) a.toNat w];have:=(bO.1 b).2;rw[← this];rfl
      exact⟨.int .u8 o.toNat,by simp[execOp,Instr.index,asIntOf,eC (hT.str E C),G,m,j,u],.int _ _⟩
     ·cases h
    ·cases h
   ·cases h
  ·cases h
 ·rename_i H n a;have m:ρ y = .int n a:=by generalize c:ρ y=i at e;cases e;rfl
  split at h
  ·rename_i K L v;split at h
   ·rename_i b;obtain⟨j,k⟩:=b;obtain⟨I,F,r⟩:=Gl hT v;obtain⟨N,c,A,s⟩:=l.pZ;obtain⟨i,z,B⟩:=IG hT r A s h;exact⟨i,by simp[execOp,Instr.index,asIntOf,eC F,c,m,j,k,hT.size r,z],B⟩
   ·cases h
  ·cases h
 ·cases h
theorem Mb{x:Operand}{i:Nat}{a d:D}(j:aM g (ρ x) a)(h:eZ i a=some d):fU P ρ ⟨dst,.extract x i,ty,pos,af,O⟩ g d:=by
 unfold eZ at h;split at h
 ·obtain⟨e,f,c⟩:=j.CR;have k:=c.length;have l:=(bO.1 h).1;have b:e[i]?=some e[i]:=cJ (by omega);exact⟨_,by simp only[execOp,Instr.extract,f];simp[b],c.get i _ d b h⟩
 ·cases h
include hT in
theorem L9{s t:Nat}{x:Operand}{e d:D}(a:aM g (ρ x) e)(h:kf T s t e=some d):fU P ρ ⟨dst,.convert s t x,ty,pos,af,O⟩ g d:=by
 unfold kf at h;split at h
 ·rename_i r u f i;obtain⟨_,v,_,_,n,_⟩:=hT.get f;split at h
  ·rename_i j p k b;injection h with h;subst h;have c:ρ x = .int p k:=by generalize o:ρ x=q at a;cases a;rfl
   refine⟨.int j (j.wrap k),?_,.int _ _⟩;simp[execOp,convert,eC n,eC (hT.int i b),c,Conv.intToInt]
  ·rename_i l b;split at h
   ·rename_i m;injection h with h;subst h;have c:ρ x = .string ⟨l.toArray⟩:=by generalize o:ρ x=q at a;cases a;rfl
    refine⟨.string ⟨l.toArray⟩,?_,.str _⟩;simp[execOp,convert,eC (hT.str f m),eC (hT.str i b),c]
   ·cases h
  ·cases h
 ·cases h
end ops
section ops
variable {P:Program} {T:cT} {g:Gh} {ρ:Operand→Value} {dst:Option Tmp} {ty:TypeId} {pos:String} {af:Array Edge} {O:Option (Nat × Bool)}
theorem Gr(k:dO P T){t u:List Value}{xs ys:List D}(B:cC g t xs)(C:cC g u ys):∀(fs:List Field) (v:Bool),(∀f∈fs,f.name ≠ "_" ∧ (P.info? f.type).isSome=true) →
  tb T xs ys (fs.map λf=>(f.type,f.offset,P.cellsOf f.type))=some v→∃j,uO P t u fs j∧j.all id=v
 | [],v,_,h=>by
  simp[tb]at h;exact⟨[],trivial,by simp[h]⟩
 | f::fs,v,E,h=>by
  simp only[gO,tb]at h;split at h
  ·rename_i Q i N hi;obtain⟨j,A,y⟩:=Gr k B C fs Q (λf H=>E f (gy _ H)) N;have z:("_" == f.name)=false:=by
    have:=(E f (iy ..)).1;simpa using λI=>this I.symm
   have one:i.isAgg=false→One P f.type:=λG R=>by rw[k.yA hi R,G]
   have x:∀{e:D},xs[f.offset]?=some e→∃d,t[f.offset]?=some d∧aM g d e:=λ{e} l=>by
    have L:=B.length;have M:=(bO.1 l).1;have m:t[f.offset]?=some t[f.offset]:=cJ (by omega);exact⟨_,m,B.get _ _ _ m l⟩
   have w:∀{e:D},ys[f.offset]?=some e→∃d,u[f.offset]?=some d∧aM g d e:=λ{e} l=>by
    have L:=C.length;have M:=(bO.1 l).1;have m:u[f.offset]?=some u[f.offset]:=cJ (by omega);exact⟨_,m,C.get _ _ _ m l⟩
   split at h
   ·rename_i a b c r s;obtain⟨d,q,o⟩:=x r;obtain⟨F,p,n⟩:=w s;cases o;cases n;injection h with h;exact⟨(a==b)::j,⟨z,one (by simp[TI.isAgg,c]),⟨_,_,q,p,mD.bool (k.bool hi c)⟩,A⟩,by simp[y,h]⟩
   ·rename_i ab X a aa b c r s;obtain⟨d,q,o⟩:=x r;obtain⟨F,p,n⟩:=w s;cases o;cases n;split at h
    ·rename_i K;subst K;injection h with h;exact⟨(a==b)::j,⟨z,one (by simp[TI.isAgg,c]),⟨_,_,q,p,mD.int (k.int hi c)⟩,A⟩,by simp[y,h]⟩
    ·cases h
   ·rename_i a b c r s;obtain⟨d,q,o⟩:=x r;obtain⟨F,p,n⟩:=w s;cases o;cases n;injection h with h;refine⟨(a==b)::j,⟨z,one (by simp[TI.isAgg,c]),⟨_,_,q,p,?_⟩,A⟩,by simp[y,h]⟩;have:=mD.str (a:=⟨a.toArray⟩) (b:=⟨b.toArray⟩) (k.str hi c);simpa[I2]using this
   ·cases h
  ·cases h
theorem rA{t:TypeId}{v a:Value}{w:World}{b:Bool}(h:∀d,(Op.equalIn (d+1) t v a).run P w = .ok b w):(Op.equal t v a).run P w = .ok b w:=h 9999
theorem F8(i:dO P T){m:BinOp}{d ty':TypeId}{x y:Operand}{t u:D}{b:Bool}(n:aM g (ρ x) t)(o:aM g (ρ y) u)(h:rm T d t u=some b)(q:m = .eql∨m = .neq):
  fU P ρ ⟨dst,.binOp m d x y ty',ty,pos,af,O⟩ g (.bool (if m = .eql then b else !b)):=by
 have r:∀f e,ρ x=f→ρ y=e→(eqGuard m d x y f e).run P g.w = .ok () g.w→(Op.equal d f e).run P g.w = .ok b g.w→(binOp .eql d f e=(do let s ← Op.equal d f e;pure (.bool s):Sem Value))→(binOp .neq d f e=(do let s ← Op.equal d f e;pure (.bool (!s)):Sem Value)) →
   fU P ρ ⟨dst,.binOp m d x y ty',ty,pos,af,O⟩ g (.bool (if m = .eql then b else !b)):=λf e l k z v E F=>by
  rcases q with rfl|rfl
  ·exact⟨.bool b,by simp[execOp,l,k,z,E,v],by simpa using aM.bool b⟩
  ·exact⟨.bool (!b),by simp[execOp,l,k,z,F,v],by simpa using aM.bool (!b)⟩
 unfold rm at h;split at h
 ·rename_i ab j;split at h
  ·rename_i A B c;injection h with h;subst h;generalize l:ρ x=f at n;generalize k:ρ y=e at o;cases n;cases o;exact r _ _ l k (by rcases q with rfl|rfl<;>simp[eqGuard]) (run_equal_bool g.w d A B (i.bool j c)) (by simp[binOp]) (by simp[binOp])
  ·rename_i aa ag ah c;obtain⟨C,a,rfl,I,N,H⟩:=i.st j c;obtain⟨ad,Q,L,_⟩:=n.pZ;obtain⟨ae,R,M,_⟩:=o.pZ;obtain⟨ac,K,G⟩:=Gr i L M C.toList b I h;refine r _ _ Q R (run_eqGuard_agg g.w m d x y _ _ H) ?_ (by simp[binOp]) (by simp[binOp]);have:=Ut (w:=g.w) a N K;rw[G]at this;exact this
  all_goals first
   | (rename_i c
      injection h with h;subst h;generalize l:ρ x=f at n;generalize k:ρ y=e at o;cases n;cases o;refine r _ _ l k (by rcases q with rfl|rfl<;>simp[eqGuard]) ?_ (by simp[binOp]) (by simp[binOp])
      first
       |(have a:=i.ptr j c;exact rA λp=>by simp[Op.equalIn,eC a])
       |(have a:=i.sl j c;exact rA λp=>by simp[Op.equalIn,eC a])
       |(obtain⟨_,_,_,a⟩:=i.fn j c;exact rA λp=>by simp[Op.equalIn,eC a]))
   |(cases h;done)
   | (rename_i X c
      injection h with h;subst h;generalize l:ρ x=f at n;generalize k:ρ y=e at o;cases n;cases o;refine r _ _ l k (by rcases q with rfl|rfl<;>simp[eqGuard]) ?_ (by simp[binOp]) (by simp[binOp])
      first
       |(have a:=i.ptr j c;exact rA λp=>by simp[Op.equalIn,eC a])
       |(have a:=i.sl j c;exact rA λp=>by simp[Op.equalIn,eC a])
       |(obtain⟨_,_,_,a⟩:=i.fn j c;exact rA λp=>by simp[Op.equalIn,eC a]))
 ·cases h
end ops
end Go.Pi
namespace Go.Eng
abbrev jc:=@Sem.run_pure
abbrev lZ:=@Option.isSome_none
abbrev sN:=@Option.getD_none
end Go.Eng
namespace Go.Pi
open Go.Eng
section ops
variable {P:Program} {T:cT} {g:Gh} {ρ:Operand→Value} {dst:Option Tmp} {ty:TypeId} {pos:String} {af:Array Edge} {O:Option (Nat × Bool)}
theorem L4(r:dO P T){s:BinOp}{n ty':TypeId}{x y:Operand}{l m d:D}(c:aM g (ρ x) l)(e:aM g (ρ y) m)(h:V T s n l m=some d):fU P ρ ⟨dst,.binOp s n x y ty',ty,pos,af,O⟩ g d:=by
 unfold V at h;split at h
 ·rename_i f i z a;have j:ρ x = .int f i:=by generalize p:ρ x=q at c;cases c;rfl
  have k:ρ y = .int z a:=by generalize p:ρ y=q at e;cases e;rfl
  split at h
  ·split at h
   ·cases h
   ·rename_i v;injection h with h;subst h;have:¬a<0:=by omega
    exact⟨.int f (f.wrap (i*2 ^ (min a.toNat f.bits))),by simp[execOp,j,k,eqGuard,binOp,Op.shift,this],.int _ _⟩
  ·split at h
   ·cases h
   ·rename_i v;injection h with h;subst h;have:¬a<0:=by omega
    exact⟨.int f (i.fdiv (2 ^ (min a.toNat f.bits))),by simp[execOp,j,k,eqGuard,binOp,Op.shift,this],.int _ _⟩
  ·rename_i t u;split at h
   ·rename_i w;subst w;exact Mh j k ⟨λo=>t o,λo=>u o⟩ h
   ·cases h
 ·rename_i i a;have j:ρ x = .string ⟨i.toArray⟩:=by generalize p:ρ x=q at c;cases c;rfl
  have k:ρ y = .string ⟨a.toArray⟩:=by generalize p:ρ y=q at e;cases e;rfl
  exact Mu j k h
 ·split at h
  ·cases b:rm T n l m with
   |none=>rw[b]at h;cases h
   | some a =>
    rw[b]at h;injection h with h;subst h;have:=F8 (dst:=dst) (ty:=ty) (pos:=pos) (af:=af) (O:=O) (ty':=ty') r c e b (.inl rfl);simpa using this
  ·cases b:rm T n l m with
   |none=>rw[b]at h;cases h
   | some a =>
    rw[b]at h;injection h with h;subst h;have:=F8 (dst:=dst) (ty:=ty) (pos:=pos) (af:=af) (O:=O) (ty':=ty') r c e b (.inr rfl);simpa using this
  ·cases h
def rX(v:Option Value)(n:Option Int):Prop:=match v,n with
 |none,none=>True
 |some c,some a=>∃b,c = .int b a
 |_,_=>False
theorem sd{k:IntKind}{i:Int}{y:Nat}{c:BoundsCode}{w:World}(a:0≤i)(b:i≤y):(Instr.sliceBound (.int k i) y c).run P w = .ok i.toNat w:=by
 simp[Instr.sliceBound,asIntOf,a,b]
theorem Jb {lo hi mx:Option Value} {l h m:Option Int} (a:rX lo l) (g:rX hi h) (o:rX mx m) {n cap:Nat} {b:Bool} (t:mx.isSome=true→hi.isSome=true) (d:0≤l.getD 0) (e:l.getD 0≤h.getD n) (h2:h.getD n≤m.getD cap) (q:m.getD cap≤cap) (w:World) :
  (Instr.sliceBounds b n cap lo hi mx).run P w = .ok ((l.getD 0).toNat,(h.getD n).toNat,(m.getD cap).toNat) w:=by
 cases mx with
 | none =>
  cases m with
  |some m=>exact o.elim
  | none =>
   cases hi with
   | none =>
    cases h with
    |some h=>exact g.elim
    | none =>
     cases lo with
     | none =>
      cases l with
      |some l=>exact a.elim
      |none=>simp[Instr.sliceBounds]
     | some lo =>
      cases l with
      |none=>exact a.elim
      | some l =>
       obtain⟨k,rfl⟩:=a;simp at d e;simp[Instr.sliceBounds,sd (P:=P) (k:=k) (c :=.sliceB) (w:=w) d e]
   | some hi =>
    cases h with
    |none=>exact g.elim
    | some h =>
     obtain⟨p,rfl⟩:=g;simp at e h2;have f:=λc=>sd (P:=P) (k:=p) (c:=c) (w:=w) (i:=h) (y:=cap) (by cases l<;>simp at d e<;>omega) h2
     cases lo with
     | none =>
      cases l with
      |some l=>exact a.elim
      |none=>cases b<;>simp[Instr.sliceBounds,f]
     | some lo =>
      cases l with
      |none=>exact a.elim
      | some l =>
       obtain⟨k,rfl⟩:=a;simp at d e;have j:=sd (P:=P) (k:=k) (c :=.sliceB) (w:=w) (y:=h.toNat) d (by omega);cases b<;>simp[Instr.sliceBounds,f,j]
 | some mx =>
  cases m with
  |none=>exact o.elim
  | some m =>
   obtain⟨u,rfl⟩:=o;cases hi with
   |none=>exact absurd (t rfl) (by simp)
   | some hi =>
    cases h with
    |none=>exact g.elim
    | some h =>
     obtain⟨p,rfl⟩:=g;simp at e h2 q;have s:0≤h:=by cases l<;>simp at d e<;>omega
     have r:=λc=>sd (P:=P) (k:=u) (c:=c) (w:=w) (i:=m) (y:=cap) (by omega) q
     have f:=λc=>sd (P:=P) (k:=p) (c:=c) (w:=w) (i:=h) (y:=m.toNat) s (by omega)
     cases lo with
     | none =>
      cases l with
      |some l=>exact a.elim
      |none=>cases b<;>simp[Instr.sliceBounds,f,r]
     | some lo =>
      cases l with
      |none=>exact a.elim
      | some l =>
       obtain⟨k,rfl⟩:=a;simp at d e;have j:=λc=>sd (P:=P) (k:=k) (c:=c) (w:=w) (i:=l) (y:=h.toNat) d (by omega)
       cases b<;>simp[Instr.sliceBounds,f,r,j]
theorem p7 (ac:dO P T) {t:TypeId} {x:Operand} {lo hi mx:Option Operand} {l h m:Option Int} {ao d:D} (s:aM g (ρ x) ao) (aw:rX (lo.map ρ) l) (av:rX (hi.map ρ) h) (ai:rX (mx.map ρ) m)
  (bj:mx.isSome=true→hi.isSome=true) (a:kg T t ao l h m=some d):fU P ρ ⟨dst,.slice t x lo hi mx,ty,pos,af,O⟩ g d:=by
 have bm:(mx.map ρ).isSome=true→(hi.map ρ).isSome=true:=by simpa using bj
 unfold kg at a;split at a
 ·rename_i b9 ak;split at a
  ·rename_i y ad;have N:ρ x = .string ⟨y.toArray⟩:=by generalize B:ρ x=an at s;cases s;rfl
   simp only at a;split at a
   ·rename_i v;obtain⟨rfl,q,r,u⟩:=v;injection a with a;subst a;have bn:mx.map ρ=none:=by
     cases bq:mx.map ρ with
     |none=>rfl
     |some ca=>rw[bq]at ai;exact ai.elim
    have ae:=Jb (P:=P) (b:=false) (n:=y.length) (cap:=y.length) aw av (mx:=none) (m:=none) trivial (by simp) q r (by simpa using u) (by simp) g.w;refine⟨.string ⟨((y.take (h.getD y.length).toNat).drop (l.getD 0).toNat).toArray⟩,?_,.str _⟩;simp only[execOp,Instr.sliceAt,bn,N,gq,eC (ac.str ak ad),gB];simp only[Instr.slice,gq,eC (ac.str ak ad),gB,lZ,aP,aL,jc,qz,ae];have bc:(ByteArray.mk y.toArray).extract (l.getD 0).toNat (h.getD y.length).toNat=⟨((y.take (h.getD y.length).toNat).drop (l.getD 0).toNat).toArray⟩:=by
     apply xv;simp[List.extract_eq_take_drop,List.drop_take]
    rw[bc]
   ·cases a
  ·rename_i b1 cb ad;split at a
   ·rename_i al bg;have ay:=ac.sl ak ad;have run:∀(X:Option Addr) (n cap:Nat),ρ x = .slice X n cap→0≤l.getD 0→l.getD 0≤h.getD n→h.getD n≤m.getD cap→m.getD cap≤cap→(execOp ρ ⟨dst,.slice t x lo hi mx,ty,pos,af,O⟩).run P g.w =
      .ok (.value (.slice (if(m.getD cap).toNat=(l.getD 0).toNat then X else X.map (·.add ((l.getD 0).toNat*al.Y))) ((h.getD n).toNat - (l.getD 0).toNat) ((m.getD cap).toNat - (l.getD 0).toNat))) g.w:=λX n cap N q r u ar=>by
     have ae:=Jb (P:=P) (b:=true) (n:=n) (cap:=cap) aw av ai bm q r u ar g.w;simp only[execOp,Instr.sliceAt,N,gq,eC ay,gB];simp only[Instr.slice,gq,eC ay,gB,ae,ac.size bg,jc]
    split at a
    ·split at a
     ·rename_i v;obtain⟨q,r,u⟩:=v;injection a with a;subst a;have N:ρ x = .slice none 0 0:=by generalize B:ρ x=an at s;cases s;rfl
      have:=run none 0 0 N (by omega) (by simp;omega) (by simp;omega) (by simp;omega);refine⟨.slice none 0 0,?_,.aB⟩;rw[this];simp;have I:(h.getD 0).toNat=0:=by omega
      have a3:(m.getD 0).toNat=0:=by omega
      simp[I,a3]
     ·cases a
    ·rename_i a2 aq p;simp only at a;split at a
     ·rename_i v;obtain⟨rfl,q,r⟩:=v;generalize B:ρ x=an at s;generalize Q:al.Y=E at s a;cases s with
      | sl c n cap a2 aq p A b8 bb be bv bt a8 b0 ba a4 br =>
       have a0:∀(i z:Nat) (ab:Bool),(l.getD 0).toNat≤i→i≤p.length→i≤z→z≤cap→(ab=true→z=i)→aM g (.slice (if z=(l.getD 0).toNat then some c else(some c).map (·.add ((l.getD 0).toNat*E))) (i - (l.getD 0).toNat) (z - (l.getD 0).toNat)) (.sl E ab ((p.take i).drop (l.getD 0).toNat)):=by
        intro i z ab bi a5 b2 b4 bd;generalize b3:(l.getD 0).toNat=j at bi;have a9:∃F,(if z=j then some c else(some c).map (·.add (j*E)))=some F∧F.block=c.block∧(j<i→F.off=c.off+j*E∧(c.spot=none→F.spot=none)):=by
         split
         ·exact⟨c,rfl,rfl,λe=>by omega⟩
         ·refine⟨c.add (j*E),rfl,?_,λ_=>?_⟩
          ·unfold Addr.add;split<;>rfl
          ·unfold Addr.add;split
           ·rename_i bw;simp[bw]
           ·simp
        obtain⟨F,a7,au,ax⟩:=a9;rw[a7];have ag:∀(o:Nat) (f:List D),((p.take i).drop j)[o]?=some f→p[j+o]?=some f∧j+o<i:=λo f hi=>by
         rw[kt,fF]at hi;split at hi
         ·rename_i ah;exact⟨hi,ah⟩
         ·cases hi
        refine .sl F (i - j) (z - j) E ab _ (by simp;omega) (by omega) (by omega) (λe=>by have:=bd e;omega) bv (λf bu=>bt f (ja (lW bu))) (λbo=>?_) (λo C=>b0 (j+o) C) (λo f hi C H K=>?_) (λo f hi C H K=>?_) (λo f hi C H K=>?_)
        ·have ah:j<i:=by
           rcases fm j i with e|e
           ·exact e
           ·exfalso;apply bo;apply ot;simp;omega
         have bp:p≠[]:=λe=>by subst e;simp at a5;omega
         obtain⟨bx,bz⟩:=a8 bp;exact⟨(ax ah).2 bx,by rw[au];exact bz⟩
        ·obtain⟨R,az⟩:=ag o f hi;have:=ba _ f R C H K;rw[au,(ax (by omega)).1];rw[fH]at this;rw[← this];congr 2;omega
        ·obtain⟨R,az⟩:=ag o f hi;exact a4 _ f R C H K
        ·obtain⟨R,az⟩:=ag o f hi;exact br _ f R C H K
       split at a
       ·split at a
        ·rename_i u;injection a with a;subst a;have:=run (some c) n cap B q (by rw[← A];exact r) (by simp;rw[← A];omega) (by simp);simp only[sN,Q]at this;rw[← A]at this;refine⟨_,this,?_⟩;have:=a0 (h.getD p.length).toNat cap (aq&&decide (h.getD p.length=p.length)) (by omega) (by omega) (by omega) (aX _) (λe=>by
          simp at e;have:=be e.1;omega)
         simpa using this
        ·cases a
       ·rename_i am;split at a
        ·rename_i u;obtain⟨u,ar⟩:=u;injection a with a;subst a;have:=run (some c) n cap B q (by rw[← A];exact r) (by simp;rw[← A];omega) (by simp;omega);simp only[gP,Q]at this;rw[← A]at this;refine⟨_,this,?_⟩;exact a0 (h.getD p.length).toNat am.toNat (decide (h.getD p.length=am)) (by omega) (by omega) (by omega) (by omega) (λe=>by
          simp at e;omega)
        ·cases a
     ·cases a
    ·rename_i a2 a1 G n;simp only at a;split at a
     ·rename_i v;obtain⟨rfl,aj,q,r,u⟩:=v;generalize B:ρ x=an at s;generalize Q:al.Y=E at s a aj;cases s with
      | aO a1 G n cap k bl A b7 b6 bb =>
       split at a
       ·have M:=run (some ⟨k.b,G*k.Y,none⟩) n cap B q r (by simp;omega) (by simp);simp only[sN,Q]at M;refine⟨_,M,?_⟩;split at a
        ·rename_i L;injection a with a;subst a;have a6:(if((cap:Int)).toNat=(l.getD 0).toNat then(some ⟨k.b,G*k.Y,none⟩:Option Addr)else(some (⟨k.b,G*k.Y,none⟩:Addr)).map (·.add ((l.getD 0).toNat*k.Y)))=some ⟨k.b,(G+(l.getD 0).toNat)*k.Y,none⟩:=by
          split
          ·rename_i b5;rcases L with L|L
           ·exfalso;omega
           ·simp[L]
          ·simp[jl,fH]
         rw[a6];have I:((h.getD n).toNat - (l.getD 0).toNat)=(h.getD n - l.getD 0).toNat:=by omega
         rw[I];exact .aO a1 _ _ _ k bl (by omega) (by omega) (by omega) (by omega)
        ·rename_i L;injection a with a;subst a;have I:((h.getD n).toNat - (l.getD 0).toNat)=0:=by omega
         rw[I];have ap:∀(c:Addr) (aa:Nat),aa≤9223372036854775807→aM g (.slice (some c) 0 aa) (.sl k.Y false []):=λc aa v =>.sl c 0 aa _ false [] rfl (jr _) v (by simp) aj (by simp) (by simp) (λ_ _=>undef) (by simp) (by simp) (by simp)
         split
         ·exact ap _ _ (by omega)
         ·exact ap _ _ (by omega)
       ·rename_i am;split at a
        ·rename_i e;obtain⟨bh,bf,bk⟩:=e;injection a with a;subst a;have M:=run (some ⟨k.b,G*k.Y,none⟩) n cap B q r (by simp;omega) (by simp;omega);simp only[gP,Q,bk,bf,bh]at M;refine⟨_,M,?_⟩;exact .sl _ 0 0 _ true [] rfl (jr _) (by omega) (by simp) aj (by simp) (by simp) (λ_ _=>undef) (by simp) (by simp) (by simp)
        ·cases a
     ·cases a
    ·cases a
   ·cases a
  ·cases a
 ·cases a
end ops
end Go.Pi
namespace Go.Eng
abbrev eI:=@List.mem_append
abbrev jU:=@List.take_append_drop
abbrev sf:=@run_newObj
abbrev uJ:=@Array.toArray_toList
end Go.Eng
namespace Go.Pi
open Go.Eng
def sv(P:Program)(ρ:Operand→Value)(o:Oper)(g:Gh)(d:D):Prop:=∃c e a,(execOp ρ o).run P g.w = .ok (.value c) e∧a.w=e∧cE g a∧a.ms=g.ms∧a.L=g.L∧(∀b,b<g.w.heap.size→a.w.heap[b]?=g.w.heap[b]?)∧aM a c d
theorem fU.g{P:Program}{ρ:Operand→Value}{o:Oper}{g:Gh}{d:D}(h:fU P ρ o g d):sv P ρ o g d:=by
 obtain⟨c,a,b⟩:=h;exact⟨c,g.w,g,a,rfl,cE.refl g,rfl,rfl,λ_ _=>rfl,b⟩
theorem Inv.same{g g':Gh}{h:J}(hi:Inv g h)(m:cE g g')(c:g'.ms=g.ms)(p:g'.L=g.L)(v:∀b,b<g.w.heap.size→g'.w.heap[b]?=g.w.heap[b]?):Inv g' h:=by
 refine⟨by rw[c];exact hi.len,λe T o n x=>?_,λe B T o r E n D d A f i j k l=>hi.inj e B T o r E n D d A f i (by rw[← c];exact j) (by rw[← c];exact k) l,λb q=>?_,λe d h=>jq (hi.msb e d (by rw[← c];exact h)) m.size⟩
 ·obtain⟨d,s,f,a⟩:=hi.live e T o n x;refine⟨d,s,by rw[c];exact f,?_,a.hI,a.pos,by rw[p];exact a.hL,a.len,a.le,a.room,a.row,λy C i z t j=>?_⟩
  ·rw[v _ (hi.ly a.hL)];exact a.gH
  ·obtain⟨F,k,l,u⟩:=a.cell y C i z t j;exact⟨F,k,l,u.ext m⟩
 ·rw[p]at q;exact jq (hi.L b q) m.size
def Gh.alloc(g:Gh)(o:Obj):Gh:=⟨g.w.alloc o,g.ms,g.L⟩
def Gh.draw(g:Gh):Gh:=⟨g.w.drew,g.ms,g.L⟩
theorem Gh.Ga(g:Gh):cE g g.draw :=.ui ⟨rfl,rfl,rfl,aX _,λ_ _ a=>a,λc b=>⟨b,rfl⟩⟩ rfl rfl λ_ _=>rfl
theorem Gh.MC{g:Gh}{h:J}(hi:Inv g h):Inv g.draw h:=hi.same g.Ga rfl rfl λ_ _=>rfl
theorem qh(w:World)(o:Obj){b:Nat}(h:b<w.heap.size):(w.alloc o).heap[b]?=w.heap[b]?:=Q8 w o b h
theorem zH(w:World)(o:Obj):(w.alloc o).heap[w.heap.size]?=some o:=by
 show(w.heap.push o)[w.heap.size]?=_;simp
theorem wz(w:World)(o:Obj):(w.alloc o).heap.size=w.heap.size+1:=by
 show(w.heap.push o).size=_;simp
theorem Gh.yB(g:Gh)(o:Obj):(g.alloc o).w.heap.size=g.w.heap.size+1:=wz g.w o
theorem Gh.vp(g:Gh)(o:Obj):cE g (g.alloc o) :=.ui ⟨rfl,rfl,rfl,by rw[g.yB];omega,λ_ _ c=>c,λb a=>⟨⟨by have:=a.1;rw[g.yB];omega,a.2⟩,qh g.w o a.1⟩⟩ rfl rfl λb a=>qh g.w o a
theorem Gh.KS(g:Gh){cs:Array Value}{T:TypeId}{fr:Nat × Nat}(i:Nat):(g.alloc (.cells cs T fr)).w.cell? ⟨g.w.heap.size,i,none⟩=cs[i]?:=by
 have:(g.alloc (.cells cs T fr)).w.heap[g.w.heap.size]?=some (.cells cs T fr):=zH g.w _;simp only[World.cell?,this];simp
section ops
variable {P:Program} {T:cT} {g:Gh} {ρ:Operand→Value} {dst:Option Tmp} {ty:TypeId} {pos:String} {af:Array Edge} {O:Option (Nat × Bool)}
theorem BS(c:∀b,g.L b→b<g.w.heap.size){vs:List Value}{cs:List D}{E:TypeId}(f:cC g vs cs)(a:∀v∈vs,v.oneCell'=true):At (g.alloc (.cells vs.toArray E)) g.w.heap.size 0 vs cs∧(g.alloc (.cells vs.toArray E)).fz g.w.heap.size:=by
 refine⟨⟨λh v e=>?_,a,f.ext (g.vp _)⟩,by rw[g.yB];omega,λd=>?_⟩
 ·rw[dF,g.KS];simpa using e
 ·have:=c _ d;omega
theorem L5(d:∀b,g.L b→b<g.w.heap.size){e:TypeId}{x:Operand}{a:D}(m:aM g (ρ x) a)(j:a.fT=true):sv P ρ ⟨dst,.box e x,ty,pos,af,O⟩ g (.aI (cP a)):=by
 obtain⟨n,l,k,c⟩:=m.cells j;obtain⟨f,i⟩:=BS d (E:=e) k c;exact⟨_,_,g.alloc (.cells n.toArray e),by simp only[execOp,Instr.box,gq,newVar,newRow,sf,gB,jc,l];rfl,rfl,g.vp _,rfl,rfl,λb h=>qh _ _ h,f.aI λ_=>i⟩
theorem L2(h:dO P T)(f:∀b,g.L b→b<g.w.heap.size){e:TypeId}{i:TI}(hi:T e=some i):sv P ρ ⟨dst,.alloc e,ty,pos,af,O⟩ g (.aI i.zero):=by
 obtain⟨c,m,n,o,d⟩:=h.pC hi;have a:=qA g c.cells.toList;rw[← n]at a;obtain⟨j,l⟩:=BS f (E:=e) a d;exact⟨_,_,g.alloc (.cells c.cells.toList.toArray e),by simp only[execOp,Instr.alloc,gq,m g.w,gB,newVar,newRow,sf,jc,uJ];rfl,by simp[Gh.alloc],g.vp _,rfl,rfl,λb k=>qh _ _ k,j.aI λ_=>l⟩
theorem JO{a:List Value}{cs:List D}{vs:List Value}{ds:List D}(h:cC g a cs)(k:cC g vs ds)(off:Nat):cC g (a.take off++vs++a.drop (off+vs.length)) (dQ cs off ds):=by
 unfold dQ;rw[k.length];exact((h.take off).append k).append (h.drop _)
theorem y3 {fs:List (Nat × Nat × Nat)} {place:Nat→Option (Nat × Nat)} (s:∀(i:Nat) o off Y,fs[i]?=some (o,off,Y)→place i=some (off,Y)):∀(j:List Nat) (d:List Value) (ds:List D) (a:List Value) (cs e:List D),cC g a cs→(∀v∈a,v.oneCell'=true)→cC g d ds→j.length=d.length→lD fs cs j ds=some e →
  ∃l,Instr.fill place a.toArray (j.zip d)=some l.toArray∧cC g l e∧∀v∈l,v.oneCell'=true
 | [],d,ds,a,cs,e,h,m,f,n,b=>by
  have:d=[]:=fQ (by simpa using n.symm);subst this;cases f;simp[lD]at b;subst b;exact⟨a,by simp[Instr.fill],h,m⟩
 | i :: j, d,ds,a,cs,e,h,m,f,n,b=>by
  cases f with
  |nil=>simp at n
  | cons F f =>
   rename_i v G d ds;simp only[lD]at b;split at b
   ·rename_i o off Y x;split at b
    ·rename_i q;simp only[eO]at q;obtain⟨⟨ih,gE⟩,kj⟩:=q;have ih:=ib ih;have gE:=eW gE;obtain⟨k,E,t,C⟩:=F.cells kj;have H:=h.length;have I:=t.length;have A:=JO h t off;obtain⟨l,y,z,u⟩:=y3 s j d ds (a.take off++k++a.drop (off+k.length)) _ e A (λp c=>by
      simp only[eI]at c;rcases c with(c|c)|c
      ·exact m p (ja c)
      ·exact C p c
      ·exact m p (lW c)) f (by simpa using n) b
     refine⟨l,?_,z,u⟩;simp only[List.zip_cons_cons,Instr.fill,s i o off Y x,E];have w:(decide (k.toArray.size≠Y)||decide (off+k.toArray.size>a.toArray.size))=false:=by
      simp;omega
     simp only[w,aP,aL];have r:=GZ k (a.take off) (a.drop off) (by simp;omega);have B:(a.take off).length=off:=by simp;omega
     simp only[B,jU,List.drop_drop]at r;rw[← y];congr 1
     try (rw[← r])
    ·cases b
   ·cases b
end ops
end Go.Pi
namespace Go.Eng
abbrev dW:=@List.mem_cons
abbrev iA:=@Option.bind_some
abbrev kP:=@List.flatten_cons
abbrev mJ:=@Option.isSome_some
abbrev yn:=@Option.isSome_iff_exists
end Go.Eng
namespace Go.Pi
open Go.Eng
section ops
variable {P:Program} {T:cT} {g:Gh} {ρ:Operand→Value} {dst:Option Tmp} {ty:TypeId} {pos:String} {af:Array Edge} {O:Option (Nat × Bool)}
theorem CY(ρ:Operand→Value)(ps:Array (Nat × Operand)):(ps.map λx=>(x.1,ρ x.2)).toList=(ps.toList.map (·.1)).zip (ps.toList.map λx=>ρ x.2):=by
 simp only[Array.toList_map]
 induction ps.toList with
 |nil=>rfl
 |cons b c a=>simp[a]
theorem run_places(l:dO P T){b:Array Field}(g:∀f∈b.toList,f.name ≠ "_" ∧ (P.info? f.type).isSome=true)(w:World):
  (b.mapM λf=>(do pure (f.offset,← sizeOf f.type):Sem (Nat × Nat))).run P w = .ok (b.toList.map λf=>(f.offset,P.cellsOf f.type)).toArray w:=by
 have k:∀(a:List Field),(∀f∈a,f.name ≠ "_" ∧ (P.info? f.type).isSome=true)→(a.mapM λf=>(do pure (f.offset,← sizeOf f.type):Sem (Nat × Nat))).run P w = .ok (a.map λf=>(f.offset,P.cellsOf f.type)) w:=by
  intro a
  induction a with
  |nil=>intro _;simp
  | cons f n j =>
   intro c;have h:=(c f (iy ..)).2;obtain⟨m,e⟩:=yn.1 h;have i:(sizeOf f.type).run P w = .ok (P.cellsOf f.type) w:=by simp[sizeOf,typeInfo,e,Program.cellsOf]
   have:=j λf d=>c f (gy _ d)
   simp only[List.mapM_cons,gq,i,gB,jc,this,gO]
 obtain⟨a⟩:=b;have:=k a g;rw[List.mapM_toArray];simp only[Sem.run_map];rw[this];simp
theorem L7 (j:dO P T) {t:TypeId} {ps:Array (Nat × Operand)} {ds:List D} {d:D} (F:cC g (ps.toList.map λx=>ρ x.2) ds) (h:eX T t (ps.toList.map (·.1)) ds=some d):fU P ρ ⟨dst,.build t ps,ty,pos,af,O⟩ g d:=by
 unfold eX at h;split at h
 ·rename_i b q;obtain⟨B,G,K,R,E⟩:=j.pC q;have s:=qA g B.cells.toList;rw[← K]at s;split at h
  ·rename_i fs p;obtain⟨m,u,rfl,I,_⟩:=j.st q p;cases e:lD (rR P m) b.zero (ps.toList.map (·.1)) ds with
   |none=>rw[e]at h;cases h
   | some n =>
    rw[e]at h;injection h with h;subst h;obtain⟨A,k,r,o⟩:=y3 (place:=((m.toList.map λl=>(l.offset,P.cellsOf l.type)).toArray[·]?)) (fs:=rR P m) (λb Q L N a=>by
     unfold rR at a;rw[dH]at a;cases c:m.toList[b]? with
     |none=>rw[c]at a;cases a
     | some l =>
      rw[c]at a;injection a with a;injection a with M f;injection f with f z;simp at c;simp[c,f,z]) _ _ ds B.cells.toList b.zero n s E F (by simp) e
    refine⟨.agg A.toArray,?_,.r5 r o⟩;simp only[uJ]at k;simp only[execOp,Instr.build,gq,G g.w,gB,eC u,run_places j I g.w,CY,k,jc]
  ·rename_i y C p;have u:=j.arr q p;split at h
   ·rename_i i H;cases e:lD ((List.range y).map λv=>(C,v*i.Y,i.Y)) b.zero (ps.toList.map (·.1)) ds with
    |none=>rw[e]at h;cases h
    | some n =>
     rw[e]at h;injection h with h;subst h;obtain⟨A,k,r,o⟩:=y3 (place:=λb=>some (b*i.Y,i.Y)) (fs:=(List.range y).map λv=>(C,v*i.Y,i.Y)) (λb Q L N a=>by
      rw[dH]at a;cases c:(List.range y)[b]? with
      |none=>rw[c]at a;cases a
      | some l =>
       rw[c]at a;have:=(bO.1 c).2;simp at this;subst this;injection a with a;injection a with M f;injection f with f z;subst z;simp[f]) _ _ ds B.cells.toList b.zero n s E F (by simp) e
     refine⟨.agg A.toArray,?_,.r5 r o⟩;simp only[uJ]at k;simp only[execOp,Instr.build,gq,G g.w,gB,eC u,j.size H,CY,k,jc]
   ·cases h
  ·cases h
 ·cases h
theorem Ja {Y:Nat}:∀(k:Nat) (d:List Nat) (a:List Value) (ds:List D) (rows:List (List D)),cC g a ds→d.length=a.length→p5 Y k d ds=some rows →
  d.zip a=rz k a∧(∀v∈a,v.cells.size=Y)∧rows.length=a.length∧(∀r∈rows,r.length=Y)∧cC g (a.flatMap λv=>v.cells.toList) rows.flatten∧(∀v∈a.flatMap λv=>v.cells.toList,v.oneCell'=true)
 | k,[],a,ds,rows,c,e,h=>by
  have:a=[]:=fQ (by simpa using e.symm);subst this;cases c;simp[p5]at h;subst h;exact⟨rfl,by simp,rfl,by simp,by simpa using cC.nil,by simp⟩
 | k,q::d,a,ds,rows,c,e,h=>by
  cases c with
  |nil=>simp at e
  | cons p c =>
   rename_i v A a ds;simp only[p5]at h;split at h
   ·rename_i l;simp only[eO]at l;obtain⟨⟨ih,gE⟩,kj⟩:=l;have ih:=ib ih;have gE:=ib gE;subst ih;split at h
    ·rename_i z n;injection h with h;subst h;obtain⟨s,t,u,w,x,y⟩:=Ja (q+1) d a ds z c (by simpa using e) n;obtain⟨C,j,m,o⟩:=p.cells kj;have B:=m.length;refine⟨by simp[rz,s],λf b=>?_,by simp[u],λr i=>?_,?_,λf b=>?_⟩
     ·rcases dW.1 b with rfl|b
      ·rw[j];simp;omega
      ·exact t f b
     ·rcases dW.1 i with rfl|i
      ·exact gE
      ·exact w r i
     ·simp only[sG,kP,j];exact m.append x
     ·simp only[sG,eI,j]at b;rcases b with b|b
      ·exact o f b
      ·exact y f b
    ·cases h
   ·cases h
theorem y8{Y:Nat}:∀(rows:List (List D)) (i j:Nat) (row:List D) (d:D),(∀r∈rows,r.length=Y)→rows[i]?=some row→row[j]?=some d→rows.flatten[i*Y+j]?=some d
 |[],i,j,row,d,_,h,_=>by cases h
 | r::rows,0,j,row,d,c,h,a=>by
  simp at h;subst h;have f:=(bO.1 a).1;simp only[kP,pV,dF];rw[eV f];exact a
 | r::rows,i+1,j,row,d,c,h,a=>by
  have e:rows[i]?=some row:=by simpa using h
  have b:=c r (iy ..);have:=y8 rows i j row d (λr b=>c r (gy _ b)) e a;simp only[kP];rw[hV (by rw[b,fH];omega)];rw[← this];congr 1;rw[b,fH];omega
theorem k6{Y:Nat}:∀(rows:List (List D)),(∀r∈rows,r.length=Y)→rows.flatten.length=rows.length*Y
 |[],_=>by simp
 | r::rows,h=>by
  have:=k6 rows λr a=>h r (gy _ a)
  rw[kP,dL,this,h r (iy ..),eP,fH];omega
theorem Jg (e:dO P T) {t n:Nat} {ps:Array (Nat × Operand)} {ds:List D} {E Y:Nat} {rows:List (List D)} (q:cC g (ps.toList.map λx=>ρ x.2) ds) (h:mU T t n (ps.toList.map (·.1)) ds=some (E,Y,rows)) :
  ∃vs:List Value,(execOp ρ ⟨dst,.buildSlice t n ps,ty,pos,af,O⟩).run P g.w = .ok (.value (.slice (some ⟨g.w.heap.size,0,none⟩) n n)) (g.w.alloc (.cells vs.toArray E))∧cC g vs rows.flatten∧(∀v∈vs,v.oneCell'=true)∧rows.length=n∧(∀r∈rows,r.length=Y)∧0<Y∧n*Y≤16777216:=by
 unfold mU at h;split at h
 ·rename_i K o;split at h
  ·rename_i H u;split at h
   ·rename_i b j;split at h
    ·rename_i i;simp only[eO]at i;obtain⟨⟨ih,gE⟩,kj⟩:=i;have ih:=eW ih;have gE:=eW gE;have kj:=ib kj;split at h
     ·rename_i k s;injection h with h;injection h with m c;injection c with c d;subst m;subst c;subst d;obtain⟨z,A,B,C,F,G⟩:=Ja 0 _ _ ds k q (by simp) s;have p:k.length=n:=by rw[B];simpa using kj
      refine⟨_,?_,F,G,p,C,ih,gE⟩;obtain⟨l,y,_,I,_⟩:=e.pC j;have d:¬(n*b.Y>2 ^ 24):=by omega
      have a:=GJ (Y:=b.Y) (ps.toList.map λx=>ρ x.2) [] ((Array.range (n*b.Y)).map ((if n*b.Y=0 then #[]else l.cells)[· % (if n*b.Y=0 then #[]else l.cells).size]!)).toList 0 (by simp) (by simp at kj;simp[kj]) A;simp only[jE,uJ]at a;rw[← z,← CY]at a;simp only[execOp,Instr.buildSlice,gq,eC (e.sl o u),gB,e.size j,d,aL,jc,newRow,sf];by_cases f:n*b.Y=0
      ·simp only[f,aJ,gq,jc,gB]at a ⊢;rw[a];rfl
      ·simp only[f,aL,gq,y g.w,jc,gB]at a ⊢;rw[a];rfl
     ·cases h
    ·cases h
   ·cases h
  ·cases h
 ·cases h
theorem Mi(A:dO P T)(z:∀b,g.L b→b<g.w.heap.size){t n:Nat}{ps:Array (Nat × Operand)}{ds:List D}{E Y:Nat}{rows:List (List D)}(G:cC g (ps.toList.map λx=>ρ x.2) ds)(h:mU T t n (ps.toList.map (·.1)) ds=some (E,Y,rows)):
  sv P ρ ⟨dst,.buildSlice t n ps,ty,pos,af,O⟩ g (.sl Y true rows):=by
 obtain⟨k,H,y,r,F,p,v,Q⟩:=Jg (dst:=dst) (ty:=ty) (pos:=pos) (af:=af) (O:=O) A G h;obtain⟨s,C⟩:=BS z (E:=E) y r;have N:n≤n*Y:=Nat.le_mul_of_pos_right n v;have K:=y.length;have I:=k6 rows p;have q:∀(a:Nat) (e:List D),rows[a]?=some e→∀(c:Nat) (d:D),e[c]?=some d→∃f,k[a*Y+c]?=some f∧rows.flatten[a*Y+c]?=some d∧k.getD (a*Y+c) undef=f:=λa e j c d i=>by
  have:=y8 rows a c e d p j i;have M:=(bO.1 this).1;have u:k[a*Y+c]?=some (k[a*Y+c]'(by omega)):=cJ (by omega);exact⟨_,u,this,by rw[qW,u];rfl⟩
 refine⟨_,_,g.alloc (.cells k.toArray E),H,rfl,g.vp _,rfl,rfl,λb B=>qh _ _ B,?_⟩;refine .sl ⟨g.w.heap.size,0,none⟩ n n Y true rows F (aX _) (by omega) (λ_=>rfl) v p (λ_=>⟨rfl,C⟩) (λa c=>k.getD (a*Y+c) undef) (λa e j c d i=>?_) (λa e j c d i=>?_) (λa e j c d i=>?_)
 ·obtain⟨f,l,o,m⟩:=q a e j c d i;simp only[m];have:=s.1 _ f l;simpa[nM]using this
 ·obtain⟨f,l,o,m⟩:=q a e j c d i;simp only[m];exact r f (eS l)
 ·obtain⟨f,l,o,m⟩:=q a e j c d i;simp only[m];exact s.2.2.get _ f d l o
theorem Mm{f:Fn}{a b:Array Operand}{ds:List D}(e:cC g ((a++b).toList.map ρ) ds):fU P ρ ⟨dst,.makeFunc f a b,ty,pos,af,O⟩ g (.fn f (ds.take a.size) (ds.drop a.size)):=by
 have j:=e.length;simp at j;refine⟨.func f (a.map ρ) (b.map ρ),by simp[execOp,Instr.makeFunc],?_⟩;have c:=e.take a.size;have d:=e.drop a.size;have h:(((a++b).toList.map ρ).take a.size)=(a.map ρ).toList:=by
  simp[vb]
 have i:(((a++b).toList.map ρ).drop a.size)=(b.map ρ).toList:=by
  simp[sE]
 rw[h]at c;rw[i]at d;have:=aM.fn (g:=g) f (ds.take a.size) (ds.drop a.size) (a.map ρ).toList (b.map ρ).toList c.length d.length c.get d.get;simpa only[uJ]using this
theorem aM.uy{v:Value}{Y:Nat}{a:Bool}{rows:List (List D)}(h:aM g v (.sl Y a rows)):∃ad cap,v = .slice (some ad) rows.length cap∧(a=true→cap=rows.length):=by
 cases h with
 |sl ad n cap Y a rows b j i c m l e o f d k=>exact⟨ad,cap,by rw[b],λh=>by rw[b];exact c h⟩
theorem aM.mj{v:Value}{Y o r n:Nat}(h:aM g v (.aO Y o r n)):∃m cap,v = .slice (some ⟨m.b,r*m.Y,none⟩) n cap∧m.Y=Y∧g.ms[o]?=some m∧r+n≤m.len∧m.len≤r+cap∧r+cap≤m.cap∧cap≤9223372036854775807:=by
 cases h with
 |aO o r n cap m e f d c a=>exact⟨m,cap,rfl,rfl,e,f,d,c,a⟩
theorem vA{x:Operand}{k:Array TypeId}{f d:D}(c:aM g (ρ x) f)(h:rn f=some d)(n:∃t,k[0]?=some t∧((∃s,f = .str s)→P.underlying t=some .string)∧((¬ ∃s,f = .str s)→∃e,P.underlying t=some (.slice e))):fU P ρ ⟨dst,.call ⟨.builtin .len, #[x],k⟩,ty,pos,af,O⟩ g d:=by
 obtain⟨t,i,m,j⟩:=n;unfold rn at h;split at h
 ·injection h with h;subst h;have b:=m ⟨_,rfl⟩;rename_i s;have a:ρ x = .string ⟨s.toArray⟩:=by generalize a:ρ x=q at c;cases c;rfl
  exact⟨.int .i64 s.length,by simp[execOp,resolve,invoke,builtin,Builtin.len_,eC b,a,i,goInt,qz],.int _ _⟩
 ·injection h with h;subst h;obtain⟨e,b⟩:=j (by simp);have a:ρ x = .slice none 0 0:=by generalize a:ρ x=q at c;cases c;rfl
  exact⟨.int .i64 0,by simp[execOp,resolve,invoke,builtin,Builtin.len_,eC b,a,i,goInt],.int _ _⟩
 ·injection h with h;subst h;obtain⟨e,b⟩:=j (by simp);rename_i p;obtain⟨r,l,a,_⟩:=c.uy;exact⟨.int .i64 p.length,by simp[execOp,resolve,invoke,builtin,Builtin.len_,eC b,a,i,goInt],.int _ _⟩
 ·injection h with h;subst h;obtain⟨e,b⟩:=j (by simp);rename_i o;obtain⟨u,l,a,_⟩:=c.mj;exact⟨.int .i64 o,by simp[execOp,resolve,invoke,builtin,Builtin.len_,eC b,a,i,goInt],.int _ _⟩
 ·cases h
theorem L8{x:Operand}{k:Array TypeId}{f d:D}(c:aM g (ρ x) f)(h:yK f=some d)(l:∃t e,k[0]?=some t∧P.underlying t=some (.slice e)):fU P ρ ⟨dst,.call ⟨.builtin .cap, #[x],k⟩,ty,pos,af,O⟩ g d:=by
 obtain⟨t,e,i,j⟩:=l;unfold yK at h;split at h
 ·injection h with h;subst h;have a:ρ x = .slice none 0 0:=by generalize a:ρ x=p at c;cases c;rfl
  exact⟨.int .i64 0,by simp[execOp,resolve,invoke,builtin,Builtin.cap_,eC j,a,i,goInt],.int _ _⟩
 ·injection h with h;subst h;rename_i m;obtain⟨n,o,a,b⟩:=c.uy;have b:=b rfl;subst b;exact⟨.int .i64 m.length,by simp[execOp,resolve,invoke,builtin,Builtin.cap_,eC j,a,i,goInt],.int _ _⟩
 ·cases h
theorem Mq{x y:Operand}{o:Array TypeId}{c e d:D}(f:aM g (ρ x) c)(i:aM g (ρ y) e)(h:rp c e=some d):fU P ρ ⟨dst,.call ⟨.builtin .min, #[x,y],o⟩,ty,pos,af,O⟩ g d:=by
 unfold rp at h;split at h
 ·rename_i j a n b;injection h with h;subst h;have l:ρ x = .int j a:=by generalize k:ρ x=p at f;cases f;rfl
  have m:ρ y = .int n b:=by generalize k:ρ y=p at i;cases i;rfl
  exact⟨.int j (if b<a then b else a),by simp[execOp,resolve,invoke,builtin,Builtin.min_,Builtin.min2,l,m],.int _ _⟩
 ·cases h
theorem Mo{x y:Operand}{o:Array TypeId}{c e d:D}(f:aM g (ρ x) c)(i:aM g (ρ y) e)(h:yQ c e=some d):fU P ρ ⟨dst,.call ⟨.builtin .max, #[x,y],o⟩,ty,pos,af,O⟩ g d:=by
 unfold yQ at h;split at h
 ·rename_i j a n b;injection h with h;subst h;have l:ρ x = .int j a:=by generalize k:ρ x=p at f;cases f;rfl
  have m:ρ y = .int n b:=by generalize k:ρ y=p at i;cases i;rfl
  exact⟨.int j (if b>a then b else a),by simp[execOp,resolve,invoke,builtin,Builtin.max_,Builtin.max2,l,m],.int _ _⟩
 ·cases h
theorem sb{vs:List Value}{d:D}(h:cC g vs [d]):∃v,vs=[v]∧aM g v d:=by
 cases h with
 |cons h a=>cases a;exact⟨_,rfl,h⟩
theorem IL (i:dO P T) (ak:∀b,g.L b→b<g.w.heap.size) (o:Oper) {ds:List D} {d:D} (e:cC g (o.op.operands.toList.map ρ) ds) (h:ln T o.op ds=some d):sv P ρ o g d:=by
 obtain⟨dst,ap,ty,pos,af,O⟩:=o;simp only at e h;have u:∀{x:Operand},cC g [ρ x] ds→∃c,ds=[c]∧aM g (ρ x) c:=λk=>by
  cases k with
  |cons ad f=>cases f;exact⟨_,rfl,ad⟩
 have ag:∀{x y:Operand},cC g [ρ x,ρ y] ds→∃c q,ds=[c,q]∧aM g (ρ x) c∧aM g (ρ y) q:=λk=>by
  cases k with
  | cons ad f=>cases f with
   |cons aj f=>cases f;exact⟨_,_,rfl,ad,aj⟩
 have an:∀{x y z:Operand},cC g [ρ x,ρ y,ρ z] ds→∃c q ar,ds=[c,q,ar]∧aM g (ρ x) c∧aM g (ρ y) q∧aM g (ρ z) ar:=λk=>by
  cases k with
  | cons ad f=>cases f with
   | cons aj f=>cases f with
    |cons ax f=>cases f;exact⟨_,_,_,rfl,ad,aj,ax⟩
 cases ap<;>simp only[ln]at h
 case move x =>
  obtain⟨c,rfl,a⟩:=u e;injection h with h;subst h;exact fU.g ⟨ρ x,by simp[execOp],a⟩
 case assign x =>
  obtain⟨c,rfl,a⟩:=u e;injection h with h;subst h;exact fU.g ⟨ρ x,by simp[execOp],a⟩
 case pick F v b =>
  obtain⟨N,G,A,rfl,Q,H,B⟩:=an e;exact(Ms Q H B h).g
 case nilCheck x =>
  obtain⟨c,rfl,a⟩:=u e;exact(Mr i a h).g
 case binOp ap bu x y a2 =>
  obtain⟨c,q,rfl,a,t⟩:=ag e;exact(L4 i a t h).g
 case unOp ap j x =>
  obtain⟨c,rfl,a⟩:=u e;exact(Mw a h).g
 case convert av j x =>
  obtain⟨c,rfl,a⟩:=u e;exact(L9 i a h).g
 case makeFunc ai v b =>
  injection h with h;subst h;exact(Mm e).g
 case fieldAddr j x ai =>
  obtain⟨c,rfl,a⟩:=u e;exact(Md i a h).g
 case field j x ai =>
  obtain⟨c,rfl,a⟩:=u e;exact(Mc i a h).g
 case indexAddr j x y =>
  obtain⟨c,q,rfl,a,t⟩:=ag e;exact(Mg i a t h).g
 case index j x y =>
  obtain⟨c,q,rfl,a,t⟩:=ag e;exact(Mf i a t h).g
 case extract x p =>
  obtain⟨c,rfl,a⟩:=u e;exact(Mb a h).g
 case makeInterface j x =>
  obtain⟨c,rfl,a⟩:=u e;split at h
  case h_2=>cases h
  rename_i a4 p R hi;injection R with R;subst R;split at h
  case h_3=>cases h
  ·rename_i r ae;injection h with h;subst h;exact fU.g ⟨.iface j (ρ x),by simp[execOp,Instr.makeInterface,eC (i.ptr hi ae)],.iface _ _ _ a⟩
  ·rename_i r ae;injection h with h;subst h;exact fU.g ⟨.iface j (ρ x),by simp[execOp,Instr.makeInterface,eC (i.int hi ae)],.iface _ _ _ a⟩
 case typeAssert x xt j bb =>
  obtain⟨c,rfl,a⟩:=u e;split at h
  case h_2=>cases h
  rename_i a4 p R hi;injection R with R;subst R;split at h
  case h_2=>cases h
  rename_i r ae;unfold oI at h;split at h
  case h_2=>cases h
  rename_i a2 y;split at h
  case isFalse=>cases h
  rename_i az;subst az;injection h with h;subst h;generalize s:ρ x=aq at a;cases a with
  |iface _ a3 _ a0=>exact fU.g ⟨a3,by simp[execOp,Instr.typeAssert,eC (i.int hi ae),s],a0⟩
 case build j ac =>
  have:(Op.operands (.build j ac)).toList.map ρ=ac.toList.map λx=>ρ x.2:=by simp[Op.operands]
  rw[this]at e;exact(L7 i e h).g
 case alloc r =>
  cases hi:T r with
  |none=>rw[hi]at h;cases h
  | some p =>
   rw[hi]at h;injection h with h;subst h;exact L2 i ak hi
 case box r x =>
  obtain⟨c,rfl,a⟩:=u e;simp only at h;split at h
  ·rename_i ay;injection h with h;subst h;exact L5 ak a ay
  ·cases h
 case buildSlice j au ac =>
  have:(Op.operands (.buildSlice j au ac)).toList.map ρ=ac.toList.map λx=>ρ x.2:=by simp[Op.operands]
  rw[this]at e;cases C:mU T j au (ac.toList.map (·.1)) ds with
  |none=>rw[C]at h;cases h
  | some a1 =>
   rw[C]at h;obtain⟨a5,br,bp⟩:=a1;injection h with h;subst h;exact Mi i ak e C
 case slice j x lo hi mx =>
  have K:∀{y:Operand} {q:D} {p:Int},aM g (ρ y) q→gZ q=some p→∃ao,ρ y = .int ao p:=λ{y q p} t aa=>by
   unfold gZ at aa;split at aa
   ·injection aa with aa;subst aa;generalize s:ρ y=aq at t;cases t;exact⟨_,rfl⟩
   ·cases aa
  cases lo<;>cases hi<;>cases mx<;>simp only[lZ,mJ]at h
  ·obtain⟨c,rfl,a⟩:=u (x:=x) (by simpa[Op.operands]using e);exact(p7 i (lo:=none) (hi:=none) (mx:=none) (l:=none) (h:=none) (m:=none) a trivial trivial trivial (by simp) h).g
  ·unfold gj at h;simp at h
  ·rename_i b;obtain⟨c,A,rfl,a,B⟩:=ag (x:=x) (y:=b) (by simpa[Op.operands]using e);simp only[gj]at h;cases n:gZ A with
   |none=>rw[n]at h;cases h
   | some p =>
    rw[n]at h;exact(p7 i (lo:=none) (hi:=(some b)) (mx:=none) (l:=none) (h:=some p) (m:=none) a trivial (K B n) trivial (by simp) h).g
  ·rename_i b F;obtain⟨c,A,N,rfl,a,B,Q⟩:=an (x:=x) (y:=b) (z:=F) (by simpa[Op.operands]using e);simp only[gj]at h;cases n:gZ A with
   |none=>rw[n]at h;cases h
   | some p =>
    rw[n]at h;simp only[iA]at h;cases E:gZ N with
    |none=>rw[E]at h;cases h
    | some ah =>
     rw[E]at h;exact(p7 i (lo:=none) (hi:=(some b)) (mx:=(some F)) (l:=none) (h:=some p) (m:=some ah) a trivial (K B n) (K Q E) (by simp) h).g
  ·rename_i v;obtain⟨c,G,rfl,a,H⟩:=ag (x:=x) (y:=v) (by simpa[Op.operands]using e);simp only[gj]at h;cases n:gZ G with
   |none=>rw[n]at h;cases h
   | some p =>
    rw[n]at h;exact(p7 i (lo:=(some v)) (hi:=none) (mx:=none) (l:=some p) (h:=none) (m:=none) a (K H n) trivial trivial (by simp) h).g
  ·unfold gj at h;simp at h
  ·rename_i v b;obtain⟨c,G,A,rfl,a,H,B⟩:=an (x:=x) (y:=v) (z:=b) (by simpa[Op.operands]using e);simp only[gj]at h;cases n:gZ G with
   |none=>rw[n]at h;cases h
   | some p =>
    rw[n]at h;simp only[iA]at h;cases E:gZ A with
    |none=>rw[E]at h;cases h
    | some ah =>
     rw[E]at h;exact(p7 i (lo:=(some v)) (hi:=(some b)) (mx:=none) (l:=some p) (h:=some ah) (m:=none) a (K H n) (K B E) trivial (by simp) h).g
  ·rename_i v b F;obtain ⟨c,G,A,N,rfl,a,H,B,Q⟩:∃c G A N,ds=[c,G,A,N]∧aM g (ρ x) c∧aM g (ρ v) G∧aM g (ρ b) A∧aM g (ρ F) N:=by
    have M:cC g [ρ x,ρ v,ρ b,ρ F] ds:=by simpa[Op.operands]using e
    cases M with
    | cons a f=>cases f with
     | cons H f=>cases f with
      | cons B f=>cases f with
       |cons Q f=>cases f;exact⟨_,_,_,_,rfl,a,H,B,Q⟩
   simp only[gj]at h;cases n:gZ G with
   |none=>rw[n]at h;cases h
   | some p =>
    rw[n]at h;simp only[iA]at h;cases E:gZ A with
    |none=>rw[E]at h;cases h
    | some ah =>
     rw[E]at h;simp only[iA]at h;cases am:gZ N with
     |none=>rw[am]at h;cases h
     | some ao =>
      rw[am]at h;exact(p7 i (lo:=some v) (hi:=some b) (mx:=some F) (l:=some p) (h:=some ah) (m:=some ao) a (K H n) (K B E) (K Q am) (by simp) h).g
 case call F =>
  obtain⟨aw,args,bt⟩:=F;simp only at h;cases aw with
  |value ai=>simp at h
  |invoke f m=>simp at h
  | builtin b =>
   have M:cC g (args.toList.map ρ) ds:=by simpa[Op.operands,Call.operands]using e
   cases b<;>simp only at h
   case len =>
    split at h
    ·rename_i c j ab;obtain⟨aq,s,a⟩:=sb M;obtain⟨x,X⟩:∃x,args = #[x]:=by
      obtain⟨l⟩:=args;cases l with
      |nil=>simp at s
      | cons x l=>cases l with
       |nil=>exact⟨x,rfl⟩
       |cons y l=>simp at s
     subst X;simp at s;subst s;unfold aT at h;split at h
     ·rename_i p hi;split at h
      ·rename_i av I;exact(vA a h ⟨j,ab,λ_=>i.str hi I,λk=>absurd ⟨av,rfl⟩ k⟩).g
      ·rename_i r I;exact(vA a h ⟨j,ab,(λk=>by obtain⟨_,k⟩:=k;cases k),λ_=>⟨r,i.sl hi I⟩⟩).g
      ·rename_i r _ _ _ I;exact(vA a h ⟨j,ab,(λk=>by obtain⟨_,k⟩:=k;cases k),λ_=>⟨r,i.sl hi I⟩⟩).g
      ·rename_i r _ _ _ _ I;exact(vA a h ⟨j,ab,(λk=>by obtain⟨_,k⟩:=k;cases k),λ_=>⟨r,i.sl hi I⟩⟩).g
      ·cases h
     ·cases h
    ·cases h
   case cap =>
    split at h
    ·rename_i c j ab;obtain⟨aq,s,a⟩:=sb M;obtain⟨x,X⟩:∃x,args = #[x]:=by
      obtain⟨l⟩:=args;cases l with
      |nil=>simp at s
      | cons x l=>cases l with
       |nil=>exact⟨x,rfl⟩
       |cons y l=>simp at s
     subst X;simp at s;subst s;unfold FX at h;split at h
     ·rename_i p hi;split at h
      ·rename_i r I;exact(L8 a h ⟨j,r,ab,i.sl hi I⟩).g
      ·cases h
     ·cases h
    ·cases h
   case min =>
    split at h
    ·rename_i c q;obtain⟨x,y,X⟩:∃x y,args = #[x,y]:=by
      have C:=M.length;obtain⟨l⟩:=args;cases l with
      |nil=>simp at C
      | cons x l=>cases l with
       |nil=>simp at C
       | cons y l=>cases l with
        |nil=>exact⟨x,y,rfl⟩
        |cons z l=>simp at C
     subst X;cases M with
     | cons a f=>cases f with
      |cons t f=>exact(Mq a t h).g
    ·cases h
   case max =>
    split at h
    ·rename_i c q;obtain⟨x,y,X⟩:∃x y,args = #[x,y]:=by
      have C:=M.length;obtain⟨l⟩:=args;cases l with
      |nil=>simp at C
      | cons x l=>cases l with
       |nil=>simp at C
       | cons y l=>cases l with
        |nil=>exact⟨x,y,rfl⟩
        |cons z l=>simp at C
     subst X;cases M with
     | cons a f=>cases f with
      |cons t f=>exact(Mo a t h).g
    ·cases h
   all_goals cases h
 all_goals cases h
end ops
end Go.Pi
namespace Go.Eng
abbrev eQ:=@List.length_map
abbrev ov:=@Nat.add_zero
end Go.Eng
namespace Go.Pi
open Go.Eng
section rd
variable {P:Program} {T:cT} {g:Gh} {h:J}
theorem Live.at{m:Me}{U Y:Nat}{rows:List (List D)}{cs:Array Value}(i:Live g m U Y rows cs){k:Nat}{row:List D}(p:rows[k]?=some row):∃vs,At g m.b (k*Y) vs row:=by
 obtain⟨r,n,_⟩:=i.gH;have o:∀f,g.w.cell? ⟨m.b,f,none⟩=cs[f]?:=λf=>by simp only[World.cell?,n];simp
 refine⟨_,At.of (λa=>cs.getD (k*Y+a) undef) (λa c e=>?_) (λa c e=>?_) (λa c e=>?_)⟩
 all_goals
  obtain⟨q,h,j,l⟩:=i.cell k row p a c e;have d:cs.getD (k*Y+a) undef=q:=by rw[fg,h];rfl
 ·rw[o,h,d]
 ·rw[d];exact j
 ·rw[d];exact l
theorem At.append{b o:Nat}{vs f:List Value}{cs ds:List D}(h:At g b o vs cs)(k:At g b (o+vs.length) f ds):At g b o (vs++f) (cs++ds):=by
 refine⟨λe c d=>?_,λc a=>?_,h.2.2.append k.2.2⟩
 ·rcases fm e vs.length with j|i
  ·rw[eV j]at d;exact h.1 e c d
  ·rw[hV i]at d;have:=k.1 _ c d
   rwa [nM,show vs.length+(e - vs.length)=e from by omega]at this
 ·rcases eI.1 a with a|a
  ·exact h.2.1 c a
  ·exact k.2.1 c a
theorem At.rows{b Y:Nat}:∀(rows:List (List D)) (o:Nat),(∀r∈rows,r.length=Y)→(∀(i:Nat) (row:List D),rows[i]?=some row→∃vs,At g b (o+i*Y) vs row)→∃vs,At g b o vs rows.flatten
 |[],o,_,_=>⟨[],by simp,by simp,by simpa using cC.nil⟩
 | r::rows,o,d,h=>by
  obtain⟨vs,c⟩:=h 0 r rfl;have a:=d r (iy ..);have f:=c.2.2.length;obtain⟨l,j⟩:=At.rows rows (o+vs.length) (λr a=>d r (gy _ a)) (λi row e=>by
   obtain⟨m,k⟩:=h (i+1) row (by simpa using e);refine⟨m,?_⟩;rw[fH,Nat.one_mul]at k
   rwa [f,a,nM,Nat.add_comm Y]
   )
  rw[pV,ov]at c;exact⟨vs++l,by rw[kP];exact c.append j⟩
theorem Ch (hi:Inv g h) {v:Value} {d:D} (m:aM g v d) {Y:Nat} {rows:List (List D)} (c:jH h Y d=some rows) (an:0<Y) :
  ∃a cap j,v = .slice a rows.length cap∧(∀r∈rows,r.length=Y)∧j.length=rows.length*Y∧cC g j rows.flatten∧(∀U∈j,U.oneCell'=true)∧(rows≠[]→∃b o,a=some ⟨b,o,none⟩∧At g b o j rows.flatten):=by
 unfold jH at c;split at c
 ·injection c with c;subst c;cases m;exact⟨none,0,[],rfl,by simp,by simp,by simpa using cC.nil,by simp,by simp⟩
 ·split at c
  ·rename_i u ai f x;subst x;injection c with c;subst c;cases w:f with
   | nil =>
    subst w;obtain⟨G,cap,n,_⟩:=m.uy;exact⟨some G,cap,[],n,by simp,by simp,by simpa using cC.nil,by simp,by simp⟩
   | cons R ar =>
    rw[← w];have I:f[0]?=some R:=by rw[w];rfl
    obtain⟨b,o,s,cap,au,n,A,_,_,_⟩:=m.xb I;have l:∀r∈f,r.length=u:=λr Q=>by
     obtain⟨E,i⟩:=lv Q;obtain⟨_,_,_,_,_,_,_,_,_,k⟩:=m.xb i;exact k
    obtain⟨j,e⟩:=At.rows (g:=g) (b:=b) f o l (λE T i=>by
     obtain⟨ac,aq,ap,ad,aa,B,_,_,e,_⟩:=m.xb i;rw[n]at B;injection B with p af ag;injection p with p;injection p with p H ah;subst p;subst H;exact⟨aa,e⟩)
    have k:=e.2.2.length;have K:=k6 f l;exact⟨some ⟨b,o,none⟩,cap,j,by rw[n,A],l,by omega,e.2.2,e.2.1,λ_=>⟨b,o,rfl,e⟩⟩
  ·cases c
 ·split at c
  ·rename_i u o r s x;subst x;split at c
   ·rename_i F ab f N;injection c with c;subst c;obtain⟨q,cap,n,z,M,A,am,ak,aj⟩:=m.mj;obtain⟨ao,ae,t,k⟩:=hi.live o F ab f N;rw[M]at t;injection t with t;subst t;have C:=k.hI;rw[z]at C;subst C;have L:((f.drop r).take s).length=s:=by have:=k.len;simp;omega
    have l:∀y∈(f.drop r).take s,y.length=u:=λy P=>k.row y (lW (ja P))
    obtain⟨j,e⟩:=At.rows (g:=g) (b:=q.b) ((f.drop r).take s) (r*u) l (λE T i=>by
     rw[fF]at i;split at i
     ·rw[kt]at i;obtain⟨X,e⟩:=k.at i;exact⟨X,by rwa [fH]at e⟩
     ·cases i)
    have al:=e.2.2.length;have K:=k6 _ l;refine⟨some ⟨q.b,r*q.Y,none⟩,cap,j,by rw[L];exact n,l,by omega,e.2.2,e.2.1,λ_=>⟨q.b,r*q.Y,rfl,by rw[z];exact e⟩⟩
   ·cases c
  ·cases c
 ·cases c
theorem FD:∀(rows:List (List D)) (s:List UInt8) (b:List Value),oJ rows=some s→cC g b rows.flatten→∃c:List Int,b=c.map (λn=>Value.int .u8 n)∧s=c.map λn=>UInt8.ofNat n.toNat
 | [],s,b,h,a=>by
  simp[oJ]at h;subst h;cases a;exact⟨[],rfl,rfl⟩
 | row::r,s,b,h,a=>by
  unfold oJ at h;split at h
  ·rename_i d;cases d
  ·rename_i n m d;injection d with e f;subst e;subst f;split at h
   ·rename_i l j;injection h with h;subst h;simp only[kP,lU,jE]at a;cases a with
    | cons k a =>
     cases k;obtain⟨c,i,h2⟩:=FD r l _ j a;exact⟨n::c,by simp[i],by simp[h2]⟩
   ·cases h
  ·cases h
theorem Qb(a:List Int):∀s:ByteArray,a.foldl (λr n=>r.push (UInt8.ofNat n.toNat)) s=⟨(s.data.toList++a.map λn=>UInt8.ofNat n.toNat).toArray⟩:=by
 induction a with
 |nil=>intro s;simp
 | cons n r b =>
  intro s;rw[qV,b];apply xv;simp[ByteArray.push]
theorem F0 (m:dO P T) (hi:Inv g h) {t:Nat} {v:Value} {l d:D} (p:aM g v l) (a:aA T h t l=some d):∃b,(Instr.loadAt t v).run P g.w = .ok b g.w∧aM g b d:=by
 unfold aA at a;split at a
 ·rename_i E o;split at a
  ·obtain⟨B,k,A,rfl,_,i⟩:=p.wu;obtain⟨b,e,j⟩:=H2 m o i a;exact⟨b,by simp[Instr.loadAt,Instr.sureAddr,e],j⟩
  ·rename_i k x q;split at a
   ·rename_i H f;unfold J.row at f;split at f
    ·rename_i r z y u;cases p with
     | ptr k x q F s =>
      obtain⟨G,C,c,n⟩:=hi.live k r z y u;rw[s]at c;injection c with c;subst c;obtain⟨A,i⟩:=n.at f;obtain⟨b,e,j⟩:=H2 m o (i.drop q) a;refine⟨b,?_,j⟩;rw[← n.hI]at e;simp[Instr.loadAt,Instr.sureAddr,e]
    ·cases f
   ·cases a
  ·cases a
 ·cases a
theorem Ui (i:dO P T) (hi:Inv g h) {ρ:Operand→Value} (o:Oper) {ds:List D} {d:D} (m:cC g (o.op.operands.toList.map ρ) ds) (a:mq T h o.op ds=some d):fU P ρ o g d:=by
 obtain⟨am,ah,aw,ar,al,O⟩:=o;simp only at m a;cases ah<;>simp only[mq]at a
 case load y z =>
  split at a
  ·obtain⟨q,c,n⟩:=sb m;simp[Op.operands]at c;subst c;obtain⟨ak,M,ac⟩:=F0 i hi n a;exact⟨ak,by simp[execOp,M],ac⟩
  ·cases a
 case convert ai y z =>
  split at a
  ·rename_i ap x N X;split at a
   ·rename_i B aa ab;split at a
    ·rename_i aq E;split at a
     ·rename_i F;split at a
      ·obtain ⟨q, c, n⟩:=sb m;simp[Op.operands]at c;subst c;unfold F2 at a;split at a
       ·rename_i f L;split at a
        ·rename_i aj R;injection a with a;subst a;obtain⟨r,s,ag,c,ao,H,K,an,t⟩:=Ch hi n L (by decide);obtain⟨b,I,Q⟩:=FD f aj ag R K;subst I;subst Q;have k:b.length=f.length:=by simpa using H
         refine⟨.string ⟨(b.map λp=>UInt8.ofNat p.toNat).toArray⟩,?_,.str _⟩;have ad:=i.sl N aa;have ae:=i.str X ab;have af:=i.int E F;have u : (Conv.bytesToString (ρ z)).run P g.w = .ok (.string ⟨(b.map λp=>UInt8.ofNat p.toNat).toArray⟩) g.w:=by
          rw[c,← k];cases r with
          | none =>
           have l:f=[]:=by
            rcases f with _|⟨au,av⟩
            ·rfl
            ·obtain⟨A,o,e,_⟩:=t (by simp);cases e
           subst l;have:b=[]:=fQ (by simpa using k);subst this;simp[Conv.bytesToString];rfl
          | some j =>
           have G:(loadCells j b.length).run P g.w = .ok (b.map (Value.int .u8)).toArray g.w:=by
            have:=run_loadCells_list (P:=P) (w:=g.w) j (b.map (Value.int .u8)) (λx q v=>by
             have l:f≠[]:=λe=>by
              subst e;have:b=[]:=fQ (by simpa using k);subst this;cases v
             obtain⟨A,o,e,C⟩:=t l;injection e with e;rw[e,jl];exact C.1 x q v)
            rwa [eQ]at this
           rw[run_bytesToString g.w j b.length s b G,Qb];rfl
         simp only[execOp,gq];rw[c]at u ⊢;rw[run_convert_bytes_string g.w ai y B r _ s ad af ae,u];rfl
        ·cases a
       ·cases a
      ·cases a
     ·cases a
    ·cases a
   ·cases a
  ·cases a
 all_goals cases a
end rd
end Go.Pi
namespace Go.Eng
abbrev iG:=@run_store
abbrev jS:=@List.getElem?_set_ne
abbrev lx:=@List.getElem?_set_self
abbrev lY:=@Nat.lt_trichotomy
abbrev nF:=@Array.getElem?_eq_getElem
abbrev xu:=@Array.getElem?_modify
abbrev C2:=@Array.getElem?_push_lt
abbrev Km:=@List.take_succ_eq_append_getElem
end Go.Eng
namespace Go.Pi
open Go.Eng
structure kX (w w':World) (b:Nat) (o:Obj):Prop where
 gH:w'.heap[b]?=some o
 other:∀k,k≠b→w'.heap[k]?=w.heap[k]?
 size:w'.heap.size=w.heap.size
 os:w'.os=w.os
 tape:w'.tape=w.tape
 output:w'.output=w.output
theorem Vn(w:World){b i:Nat}{cs:Array Value}{T:TypeId}{fr:Nat × Nat}(a:w.heap[b]?=some (.cells cs T fr))(v:Value):kX w (w.setCell ⟨b,i,none⟩ v) b (.cells (cs.setIfInBounds i v) T fr):=by
 have g:=(iI.1 a).1;refine⟨?_,λf d=>?_,by simp[World.setCell],rfl,rfl,rfl⟩
 ·simp[World.setCell,xu,a]
 ·have e:¬b=f:=λc=>d c.symm
  simp[World.setCell,xu,e]
theorem kX.trans{w w' e:World}{b:Nat}{o d:Obj}(h:kX w w' b o)(k:kX w' e b d):kX w e b d:=
 ⟨k.gH,λc a=>(k.other c a).trans (h.other c a),k.size.trans h.size,k.os.trans h.os,k.tape.trans h.tape,k.output.trans h.output⟩
theorem kX.self{w:World}{b:Nat}{o:Obj}(h:w.heap[b]?=some o):kX w w b o:=⟨h,λ_ _=>rfl,rfl,rfl,rfl,rfl⟩
theorem qB{P:Program}{T:TypeId}{fr:Nat × Nat}{b i:Nat}:∀(vs:List Value) (w:World) (cs:List Value) (k:Nat),w.heap[b]?=some (.cells cs.toArray T fr)→EU fr cs.length→i+k+vs.length≤cs.length→(∀v∈vs,v.oneCell'=true) →
  ∃w',(storeCells ⟨b,i,none⟩ vs k).run P w = .ok () w'∧kX w w' b (.cells (cs.take (i+k)++vs++cs.drop (i+k+vs.length)).toArray T fr)
 |[],w,cs,k,a,c,e,d=>⟨w,by simp[storeCells],by simpa using kX.self a⟩
 | v::r,w,cs,k,a,c,e,d=>by
  simp only[eP]at e;have o:i+k<cs.length:=by omega
  have m:w.cell? ⟨b,i+k,none⟩=some cs[i+k]:=by
   simp only[World.cell?,a];simp[o]
  have n:w.frozen? ⟨b,i+k,none⟩=false:=by
   simp only[World.frozen?,a];rcases c with rfl|c
   ·simp
   ·simp;omega
  have q:(store ⟨b,i+k,none⟩ v).run P w = .ok () (w.setCell ⟨b,i+k,none⟩ v):=by
   rw[iG _ _ _ _ _ (d v (iy ..))];simp[m,n]
  have f:=Vn w (i:=i+k) a v;have l:(w.setCell ⟨b,i+k,none⟩ v).heap[b]?=some (.cells (cs.set (i+k) v).toArray T fr):=by
   rw[f.gH];simp
  obtain⟨w',p,s⟩:=qB (i:=i) r (w.setCell ⟨b,i+k,none⟩ v) (cs.set (i+k) v) (k+1) l (by simpa using c) (by simp;omega) (λu t=>d u (gy _ t));refine⟨w',?_,?_⟩
  ·simp only[storeCells,gq,jl,q,gB];exact p
  ·have:=f.trans s;have g:(cs.set (i+k) v).take (i+(k+1))++r++(cs.set (i+k) v).drop (i+(k+1)+r.length)=cs.take (i+k)++v::r++cs.drop (i+k+(v::r).length):=by
    have h:(cs.set (i+k) v).take (i+(k+1))=cs.take (i+k)++[v]:=by
     rw[show i+(k+1)=(i+k)+1 from by omega,Km (by simp;omega)];simp only[List.getElem_set_self,List.take_set];rw[List.set_eq_of_length_le (by simp;omega)]
    have j:(cs.set (i+k) v).drop (i+(k+1)+r.length)=cs.drop (i+k+(v::r).length):=by
     rw[List.drop_set_of_lt (by omega)];simp only[eP];congr 1;omega
    rw[h,j];simp
   rw[g]at this;exact this
section obj
variable {g:Gh} {h:J}
theorem r6 (hi:Inv g h) {w':World} {U Y cap:Nat} {rows:List (List D)} {cs:Array Value} {fr:Nat × Nat} (I:w'.heap=g.w.heap.push (.cells cs U fr)) (aj:w'.os=g.w.os) (an:w'.tape=g.w.tape) (ai:w'.output=g.w.output)
  (ag:Fr fr cs.size Y) (ak:0<Y) (ah:rows.length≤cap) (al:cap*Y≤cs.size) (am:∀r∈rows,r.length=Y)
  (ae:∀(i:Nat) (row:List D),rows[i]?=some row→∀(j:Nat) (d:D),row[j]?=some d→∃v,cs[i*Y+j]?=some v∧v.oneCell'=true∧aM g v d) :
  ∃g':Gh,g'.w=w'∧cE g g'∧Inv g' (aZ h U Y rows)∧g'.ms[h.length]?=some ⟨g.w.heap.size,Y,rows.length,cap⟩:=by
 let g':Gh:=⟨w',g.ms++[⟨g.w.heap.size,Y,rows.length,cap⟩],λf=>g.L f∨f=g.w.heap.size⟩
 have N:∀f,f<g.w.heap.size→w'.heap[f]?=g.w.heap[f]?:=λf e=>by rw[I,C2 e,nF e]
 have au:w'.heap.size=g.w.heap.size+1:=by rw[I];simp
 have y:cE g g':=⟨⟨aj,an,ai,by show g.w.heap.size≤w'.heap.size;omega,(λa b c=>by
   show(g.ms++_)[a]?=some b;rw [eV (bO.1 c).1];exact c),λf e=>⟨⟨by show f<w'.heap.size;have:=e.1;omega,λz=>by
    rcases z with z|z
    ·exact e.2 z
    ·have:=e.1;omega⟩,N f e.1⟩⟩,λf e=>⟨⟨by show f<w'.heap.size;have:=e.1;omega,.inl e.2.1,λa b c=>by
     have p:(g.ms++[(⟨g.w.heap.size,Y,rows.length,cap⟩:Me)])[a]?=some b:=c;rcases fm a g.ms.length with l|H
     ·rw[eV l]at p;exact e.2.2 a b p
     ·rw[hV H]at p;have:=eS p;simp at this;subst this;have:=e.1;show g.w.heap.size≠f;omega⟩,N f e.1⟩⟩
 have C:∀a b,g'.ms[a]?=some b→a<h.length→g.ms[a]?=some b:=λa b c l=>by
  have:(g.ms++[(⟨g.w.heap.size,Y,rows.length,cap⟩:Me)])[a]?=some b:=c
  rwa [eV (by rw[hi.len];exact l)]at this
 have B:g'.ms[h.length]?=some ⟨g.w.heap.size,Y,rows.length,cap⟩:=by
  show(g.ms++_)[h.length]?=_;rw[← hi.len];simp
 have A:∀(a:Nat) (E:Ob),(aZ h U Y rows)[a]?=some E→(a<h.length∧h[a]?=some E)∨(a=h.length∧E = .row U Y rows):=λa E s=>by
  unfold aZ at s;rcases lY a h.length with l|heq|ar
  ·rw[eV l]at s;exact .inl ⟨l,s⟩
  ·subst heq;simp at s;exact .inr ⟨rfl,s.symm⟩
  ·exfalso;have:=(bO.1 s).1;simp at this;omega
 refine⟨g',rfl,y,⟨?_,λa ab aq ap M=>?_,λa t Q X R aa r1 T b P x m n o q=>?_,λf e=>?_,λa b c=>?_⟩,B⟩
 ·show(g.ms++_).length=(h++_).length;simp[hi.len]
 ·rcases A a _ M with⟨l,M⟩|⟨rfl,heq⟩
  ·obtain⟨b,F,c,k⟩:=hi.live a ab aq ap M;refine⟨b,F,y.ms a b c,?_,k.hI,k.pos,.inl k.hL,k.len,k.le,k.room,k.row,λi row m j d n=>?_⟩
   ·have:=N b.b (hi.ly k.hL);show ∃fr,w'.heap[b.b]?=_∧_;rw[this];exact k.gH
   ·obtain⟨v,o,q,G⟩:=k.cell i row m j d n;exact⟨v,o,q,G.ext y⟩
  ·injection heq with u ac ad;subst u;subst ac;subst ad;refine⟨_,cs,B,⟨fr,?_,ag⟩,rfl,ak,.inr rfl,rfl,ah,al,am,λi row m j d n=>?_⟩
   ·show w'.heap[g.w.heap.size]?=_;rw[I];simp
   ·obtain⟨v,o,q,G⟩:=ae i row m j d n;exact⟨v,o,q,G.ext y⟩
 ·rcases A a _ x with⟨l,x⟩|⟨rfl,heq⟩
  ·rcases A t _ m with⟨K,m⟩|⟨rfl,af⟩
   ·exact hi.inj a t Q X R aa r1 T b P x m (C a b n l) (C t P o K) q
   ·exfalso;obtain⟨ao,F,c,k⟩:=hi.live a Q X r1 x;have u:=C a b n l;rw[u]at c;injection c with c;subst c;rw[B]at o;injection o with o;subst o;have:=hi.ly k.hL;rw[q]at this;simp at this
  ·rcases A t _ m with⟨K,m⟩|⟨rfl,af⟩
   ·exfalso;obtain⟨ao,F,c,k⟩:=hi.live t R aa T m;have u:=C t P o K;rw[u]at c;injection c with c;subst c;rw[B]at n;injection n with n;subst n;have:=hi.ly k.hL;rw[← q]at this;simp at this
   ·rfl
 ·show f<w'.heap.size;rcases e with e|e
  ·have:=hi.L f e;omega
  ·omega
 ·show b.b<w'.heap.size;have p:(g.ms++[(⟨g.w.heap.size,Y,rows.length,cap⟩:Me)])[a]?=some b:=c;rcases fm a g.ms.length with l|H
  ·rw[eV l]at p;have:=hi.msb a b p;omega
  ·rw[hV H]at p;have:=eS p;simp at this;subst this;show g.w.heap.size<w'.heap.size;omega
theorem JF(hi:Inv g h){w':World}{o U Y:Nat}{rows rows':List (List D)}{m:Me}{cs u:Array Value}{fr:Nat × Nat}(M:h[o]?=some (.row U Y rows))(I:g.ms[o]?=some m)(s:Live g m U Y rows cs)
  (c:kX g.w w' m.b (.cells u U fr)) (ag:Fr fr u.size Y) (ak:u.size=cs.size) (ah:rows'.length=rows.length) (aj:∀r∈rows',r.length=Y)
  (af:∀(i:Nat) (row:List D),rows'[i]?=some row→∀(j:Nat) (d:D),row[j]?=some d→∃v,u[i*Y+j]?=some v∧v.oneCell'=true∧aM g v d) :
  ∃g':Gh,g'.w=w'∧cE g g'∧Inv g' (h.set o (.row U Y rows'))∧g'.ms=g.ms:=by
 let g':Gh:=⟨w',g.ms,g.L⟩
 have G:cE g g':=⟨⟨c.os,c.tape,c.output,by show g.w.heap.size≤w'.heap.size;rw[c.size];exact aX _,λ_ _ k=>k,λf e=>by
  have K:f≠m.b:=λk=>e.2 (k▸s.hL)
  exact⟨⟨by show f<w'.heap.size;rw[c.size];exact e.1,e.2⟩,c.other f K⟩⟩,λf e=>⟨⟨by show f<w'.heap.size;rw[c.size];exact e.1,e.2.1,e.2.2⟩,c.other f λk=>e.2.2 o m I k.symm⟩⟩
 have R:∀(a:Nat) (A:Ob),(h.set o (.row U Y rows'))[a]?=some A→(a=o∧A = .row U Y rows')∨(a≠o∧h[a]?=some A):=λa A b=>by
  by_cases N:a=o
  ·subst N;have ai:=(bO.1 M).1;rw[lx ai]at b;injection b with b;exact .inl ⟨rfl,b.symm⟩
  ·rw[jS (λk=>N k.symm)]at b;exact .inr ⟨N,b⟩
 have T:∀(a:Nat) (n p:Nat) (r1:List (List D)),(h.set o (.row U Y rows'))[a]?=some (.row n p r1)→∃P,h[a]?=some (.row n p P):=λa n p r1 b=>by
  rcases R a _ b with⟨rfl,H⟩|⟨_,b⟩
  ·injection H with B C Q;subst B;subst C;exact⟨rows,M⟩
  ·exact⟨r1,b⟩
 refine⟨g',rfl,G,⟨by show g.ms.length=_;simp[hi.len],λa n p r1 b=>?_,λa ab n p ac an r1 ao t al E q x y z=>?_,λf e=>?_,λa aa b=>by show aa.b<w'.heap.size;rw[c.size];exact hi.msb a aa b⟩,rfl⟩
 ·rcases R a _ b with⟨rfl,H⟩|⟨K,b⟩
  ·injection H with B C Q;subst B;subst C;subst Q;refine⟨m,u,I,⟨fr,c.gH,ag⟩,s.hI,s.pos,s.hL,by rw[ah];exact s.len,s.le,by rw[ak];exact s.room,aj,λi row q j d x=>?_⟩;obtain⟨v,y,z,F⟩:=af i row q j d x;exact⟨v,y,z,F.ext G⟩
  ·obtain⟨t,ad,X,l⟩:=hi.live a n p r1 b;have ae:t.b≠m.b:=λk=>K (hi.inj a o n p U Y r1 rows t m b M X I k)
   refine⟨t,ad,X,?_,l.hI,l.pos,l.hL,l.len,l.le,l.room,l.row,λi row q j d x=>?_⟩
   ·have:=c.other t.b ae;show ∃fr,w'.heap[t.b]?=_∧_;rw[this];exact l.gH
   ·obtain⟨v,y,z,F⟩:=l.cell i row q j d x;exact⟨v,y,z,F.ext G⟩
 ·obtain⟨P,E⟩:=T a _ _ _ E;obtain⟨am,q⟩:=T ab _ _ _ q;exact hi.inj a ab n p ac an P am t al E q x y z
 ·show f<w'.heap.size;rw[c.size];exact hi.L f e
theorem Ho(hi:Inv g h){o U Y:Nat}{rows:List (List D)}{m:Me}(u:h[o]?=some (.row U Y rows))(t:g.ms[o]?=some m):
  ∃g':Gh,g'.w=g.w∧cE g g'∧Inv g' (h.set o .dead)∧g'.ms=g.ms∧g'.fz m.b∧(∀b,g'.L b→g.L b):=by
 let g':Gh:=⟨g.w,g.ms,λb=>g.L b∧b≠m.b⟩
 obtain⟨ab,aa,l,H⟩:=hi.live o U Y rows u;rw[t]at l;injection l with l;subst l;have x:cE g g':=⟨⟨rfl,rfl,rfl,aX _,λ_ _ d=>d,λb c=>⟨⟨c.1,λd=>c.2 d.1⟩,rfl⟩⟩,λb c=>⟨⟨c.1,⟨c.2.1,λd=>c.2.2 o m t d.symm⟩,c.2.2⟩,rfl⟩⟩
 have s:∀(a i j:Nat) (r1:List (List D)),(h.set o .dead)[a]?=some (.row i j r1)→a≠o∧h[a]?=some (.row i j r1):=λa i j r1 e=>by
  by_cases v:a=o
  ·subst v;have I:=(bO.1 u).1;rw[lx I]at e;injection e with e;cases e
  ·rw[jS (λd=>v d.symm)]at e;exact⟨v,e⟩
 refine⟨g',rfl,x,⟨by show g.ms.length=_;simp[hi.len],λa i j r1 e=>?_,λa z i j A T r1 Q k P E n p q r=>?_,λb c=>?_,hi.msb⟩,rfl,⟨hi.ly H.hL,λd=>d.2 rfl⟩,λb c=>c.1⟩
 ·obtain⟨K,e⟩:=s a _ _ _ e;obtain⟨k,B,y,f⟩:=hi.live a i j r1 e;have G:k.b≠m.b:=λd=>K (hi.inj a o i j U Y r1 rows k m e u y t d)
  exact⟨k,B,y,f.gH,f.hI,f.pos,⟨f.hL,G⟩,f.len,f.le,f.room,f.row,λM R n N C p=>by
   obtain⟨X,q,r,F⟩:=f.cell M R n N C p;exact⟨X,q,r,F.ext x⟩⟩
 ·exact hi.inj a z i j A T r1 Q k P (s a _ _ _ E).2 (s z _ _ _ n).2 p q r
 ·exact hi.L b c.1
end obj
end Go.Pi
namespace Go.Eng
abbrev jR:=@List.append_assoc
abbrev mG:=@List.flatten_append
abbrev mH:=@List.getElem?_eq_none
abbrev nK:=@List.drop_of_length_le
abbrev u3:=@List.ext_getElem?
abbrev u9:=@List.mem_or_eq_of_mem_set
abbrev yj:=@List.replicate_succ
abbrev EY:=@List.getElem?_append
abbrev EZ:=@List.getElem?_toArray
abbrev E2:=@List.mem_flatten
abbrev E4:=@List.mem_replicate
abbrev Kl:=@List.set_eq_take_append_cons_drop
end Go.Eng
namespace Go.Pi
open Go.Eng
theorem tp{Y:Nat}:∀(rows:List (List D)) (n:Nat),(∀r∈rows,r.length=Y)→(rows.take n).flatten=rows.flatten.take (n*Y)
 |[],n,_=>by simp
 |r::rows,0,_=>by simp
 | r::rows,n+1,h=>by
  have a:=h r (iy ..);have c:=tp rows n λr a=>h r (gy _ a)
  have b:(n+1)*Y=Y+n*Y:=by rw[fH];omega
  rw[yk,kP,kP,c,b,vb,iz (l:=r) (by omega),a];congr 2;omega
theorem vG{Y:Nat}:∀(rows:List (List D)) (n:Nat),(∀r∈rows,r.length=Y)→(rows.drop n).flatten=rows.flatten.drop (n*Y)
 |[],n,_=>by simp
 |r::rows,0,_=>by simp
 | r::rows,n+1,h=>by
  have a:=h r (iy ..);have c:=vG rows n λr a=>h r (gy _ a)
  have b:(n+1)*Y=Y+n*Y:=by rw[fH];omega
  rw[iJ,kP,c,b,sE,nK (l:=r) (by omega),a];simp
theorem P6{Y:Nat}{rows:List (List D)}{k off:Nat}{row ds:List D}(c:∀r∈rows,r.length=Y)(b:rows[k]?=some row)(j:off+ds.length≤Y):(rows.set k (dQ row off ds)).flatten=dQ rows.flatten (k*Y+off) ds:=by
 have f:=(bO.1 b).1;have h:=(bO.1 b).2;have m:row.length=Y:=c row (eS b);have i:rows.flatten=(rows.take k).flatten++row++(rows.drop (k+1)).flatten:=by
  have:rows=rows.take k++row::rows.drop (k+1):=by
   rw[← h];simp
  conv=>lhs;rw[this]
  simp
 have d:(rows.take k).flatten.length=k*Y:=by
  rw[k6 _ λr g=>c r (ja g),lV,ym (by omega)]
 rw[Kl,bE f,mG,kP,i];unfold dQ;generalize (rows.take k).flatten=a at d;generalize (rows.drop (k+1)).flatten=e;rw[jR a row e,vb,sE,d];rw[iz (l:=a) (by omega),nK (l:=a) (by omega)];rw[show k*Y+off - k*Y=off from by omega,show k*Y+off+ds.length - k*Y=off+ds.length from by omega];rw[vb,sE];rw[show off - row.length=0 from by omega,show off+ds.length - row.length=0 from by omega];simp
section wr
variable {P:Program} {T:cT} {g:Gh} {h:J}
theorem oH{vs:List Value}{rows:List (List D)}{Y:Nat}{cs:Array Value}(c:cC g vs rows.flatten)(e:∀v∈vs,v.oneCell'=true)(l:∀r∈rows,r.length=Y)(k:∀(j:Nat) (v:Value),vs[j]?=some v→cs[j]?=some v):
  ∀(i:Nat) (row:List D),rows[i]?=some row→∀(j:Nat) (d:D),row[j]?=some d→∃v,cs[i*Y+j]?=some v∧v.oneCell'=true∧aM g v d:=λi row h j d f=>by
 have b:=y8 rows i j row d l h f;have m:=c.length;have n:=(bO.1 b).1;have a:vs[i*Y+j]?=some (vs[i*Y+j]'(by omega)):=cJ (by omega);exact⟨_,k _ _ a,e _ (eS a),c.get _ _ d a b⟩
theorem Live.flat{m:Me}{U Y:Nat}{rows:List (List D)}{cs:Array Value}(d:Live g m U Y rows cs):∃vs,cC g vs rows.flatten∧(∀v∈vs,v.oneCell'=true)∧(∀(j:Nat) (v:Value),vs[j]?=some v→cs[j]?=some v):=by
 obtain⟨l,e,_⟩:=d.gH;have f:∀a,g.w.cell? ⟨m.b,a,none⟩=cs[a]?:=λa=>by simp only[World.cell?,e];simp
 obtain⟨vs,c⟩:=At.rows (g:=g) (b:=m.b) rows 0 d.row (λa row i=>by
  obtain⟨vs,h⟩:=d.at i;exact⟨vs,by rwa [dF]⟩)
 exact⟨vs,c.2.2,c.2.1,λj v k=>by
  have:=c.1 j v k
  rwa [dF,f]at this⟩
theorem xa(hi:Inv g h){w':World}{o U Y:Nat}{rows rows':List (List D)}{m:Me}{cs:Array Value}{fr:Nat × Nat}(C:h[o]?=some (.row U Y rows))(B:g.ms[o]?=some m)(d:Live g m U Y rows cs)(z:Fr fr cs.size Y)
  {p:Nat} {vs:List Value} {ds:List D} (q:cC g vs ds) (i:∀v∈vs,v.oneCell'=true) (P:p+ds.length≤rows.flatten.length) (y:rows'.flatten=dQ rows.flatten p ds) (A:rows'.length=rows.length) (s:∀r∈rows',r.length=Y)
  (E:kX g.w w' m.b (.cells (cs.toList.take p++vs++cs.toList.drop (p+vs.length)).toArray U fr)) :
  ∃g':Gh,g'.w=w'∧cE g g'∧Inv g' (h.set o (.row U Y rows'))∧g'.ms=g.ms:=by
 obtain⟨G,k,l,n⟩:=d.flat;have N:=k.length;have Q:=q.length;have M:rows.flatten.length≤cs.size:=by
  have i:=k6 rows d.row;have H:=d.room;have I:=d.len;have K:=d.le;have L:rows.length*Y≤m.cap*Y:=jG _ (by omega);omega
 have t:(cs.toList.take p++vs++cs.toList.drop (p+vs.length)).toArray.size=cs.size:=by
  simp;omega
 refine JF hi C B d E (by rw[t];exact z) t A s ?_;have j:=JO k q p;rw[← y]at j;refine oH j (λv c=>?_) s λF v a=>?_
 ·simp only[eI]at c;rcases c with(c|c)|c
  ·exact l v (ja c)
  ·exact i v c
  ·exact l v (lW c)
 ·simp only[jR]at a ⊢;rw[EY]at a;rw[EZ,EY];have u:(G.take p).length=p:=by simp;omega
  have x:(cs.toList.take p).length=p:=by simp;omega
  rw[u]at a;rw[x];split at a
  ·rename_i e;rw[bE e];rw[fF,bE e]at a ⊢;have:=n F v a;simpa using this
  ·rename_i e;rw[cH e];rw[EY]at a ⊢;split at a
   ·rename_i f;rw[bE f];exact a
   ·rename_i f;rw[cH f];rw[kt]at a ⊢;have:=n _ v a;simpa using this
def mC(P:Program)(ρ:Operand→Value)(o:Oper)(g:Gh)(h':J)(d:D):Prop:=∃nx c a,(execOp ρ o).run P g.w = .ok nx c∧a.w=c∧cE g a∧Inv a h'∧((∃b,nx = .value b∧aM a b d)∨(nx = .skip∧d = .bU))
variable {ρ:Operand→Value} {dst:Option Tmp} {ty:TypeId} {pos:String} {af:Array Edge} {O:Option (Nat × Bool)}
theorem Mt (H:dO P T) (hi:Inv g h) {t:TypeId} {x y:Operand} {p f:D} {h':J} (B:aM g (ρ x) p) (ae:aM g (ρ y) f) (a:bT T h t p f=some h'):mC P ρ ⟨dst,.store t x y,ty,pos,af,O⟩ g h' .bU:=by
 unfold bT at a;split at a
 ·rename_i i E k off aa;split at a
  ·rename_i n d e u;split at a
   ·rename_i ah m;split at a
    ·rename_i q;injection a with a;subst a;simp only[eO]at q;obtain⟨⟨ih,gE⟩,kj⟩:=q;have ih:=ib ih;have gE:=eW gE;obtain⟨F,ac,A,z⟩:=ae.cells kj;have ar:=A.length;generalize ab:ρ x=av at B;cases B with
     | ptr E k off C s =>
      obtain⟨au,o,j,c⟩:=hi.live E n d e u;rw[s]at j;injection j with j;subst j;obtain⟨fr,I,r⟩:=c.gH;have ap:=c.row ah (eS m);have M:=P6 c.row m (off:=off) (ds:=cP f) (by omega);have an:=(bO.1 m).1;have L:=k6 e c.row;have U:k*d+off+(cP f).length≤e.flatten.length:=by
       rw[L];have:(k+1)*d≤e.length*d:=jG _ (by omega);rw[fH]at this;omega
      have aq:e.flatten.length≤o.size:=by
       have aj:=c.room;have ak:=c.len;have al:=c.le;have am:e.length*d≤C.cap*d:=jG _ (by omega);omega
      obtain⟨ai,X,v⟩:=qB (P:=P) (i:=k*d+off) F g.w o.toList 0 (T:=n) (fr:=fr) (b:=C.b) (by simpa using I) (by simpa using r.uG) (by simp;omega) z;simp only[ov]at v;obtain⟨G,ad,K,N,ao⟩:=xa hi u s c r A z U M (by simp) (λag l=>by
       rcases u9 l with l|rfl
       ·exact c.row ag l
       ·simp[dQ];omega) v
      refine⟨.skip,ai,G,?_,ad,K,N,.inr ⟨rfl,rfl⟩⟩;have Q:F.length=i.Y:=by omega
      have R:=c.hI;subst R;simp[execOp,Instr.storeAt,Instr.sureAddr,storeVar,ab,ac,H.size aa,Q,X]
    ·cases a
   ·cases a
  ·cases a
 ·cases a
theorem L3(c:dO P T)(hi:Inv g h){e:TypeId}{i:TI}(f:T e=some i)(o:0<i.Y):mC P ρ ⟨dst,.alloc e,ty,pos,af,O⟩ g (aZ h e i.Y [i.zero]) (.ptr h.length 0 0):=by
 obtain⟨a,q,r,s,k⟩:=c.pC f;have d:=qA g a.cells.toList;rw[← r]at d;have j:=c.Kg f;obtain⟨b,p,l,m,n⟩:=r6 hi (w':=g.w.alloc (.cells a.cells e)) (U:=e) (Y:=i.Y) (cap:=1) (rows:=[i.zero]) (cs:=a.cells) (fr:=(0,0)) rfl rfl rfl rfl (.inl rfl) o (by simp) (by omega) (by simpa using j)
  (oH (vs:=a.cells.toList) (by simpa using d) k (by simpa using j) (by simp))
 refine⟨_,_,b,by simp only[execOp,Instr.alloc,gq,q g.w,gB,newVar,newRow,sf,jc];rfl,p,l,m,.inl ⟨_,rfl,?_⟩⟩;have:=aM.ptr (g:=b) h.length 0 0 _ n;simpa using this
theorem L6(q:dO P T)(hi:Inv g h){e:TypeId}{x:Operand}{a:D}{Y:Nat}(p:aM g (ρ x) a)(k:a.fT=true)(c:(cP a).length=Y)(m:0<Y):mC P ρ ⟨dst,.box e x,ty,pos,af,O⟩ g (aZ h e Y [cP a]) (.ptr h.length 0 0):=by
 obtain⟨vs,n,d,f⟩:=p.cells k;have r:=d.length;obtain⟨b,o,i,j,l⟩:=r6 hi (w':=g.w.alloc (.cells vs.toArray e)) (U:=e) (Y:=Y) (cap:=1) (rows:=[cP a]) (cs:=vs.toArray) (fr:=(0,0)) rfl rfl rfl rfl (.inl rfl) m (by simp) (by simp;omega) (by simpa using c)
  (oH (vs:=vs) (by simpa using d) f (by simpa using c) (by simp))
 refine⟨_,_,b,by simp only[execOp,Instr.box,gq,newVar,newRow,sf,gB,jc,n];rfl,o,i,j,.inl ⟨_,rfl,?_⟩⟩;have:=aM.ptr (g:=b) h.length 0 0 _ l;simpa using this
theorem Mj(f:dO P T)(hi:Inv g h){t n:Nat}{ps:Array (Nat × Operand)}{ds:List D}{E Y:Nat}{rows:List (List D)}(o:cC g (ps.toList.map λx=>ρ x.2) ds)(i:mU T t n (ps.toList.map (·.1)) ds=some (E,Y,rows)):
  mC P ρ ⟨dst,.buildSlice t n ps,ty,pos,af,O⟩ g (aZ h E Y rows) (.aO Y h.length 0 rows.length):=by
 obtain⟨vs,p,d,e,m,a,c,u⟩:=Jg (dst:=dst) (ty:=ty) (pos:=pos) (af:=af) (O:=O) f o i;have v:=d.length;have r:=k6 rows a;obtain⟨b,q,j,k,l⟩:=r6 hi (w':=g.w.alloc (.cells vs.toArray E)) (U:=E) (Y:=Y) (cap:=rows.length) (rows:=rows) (cs:=vs.toArray) (fr:=(0,0)) rfl rfl rfl rfl (.inl rfl) c (aX _) (by simp;omega) a
  (oH (vs:=vs) d e a (by simp))
 have s:n≤n*Y:=Nat.le_mul_of_pos_right n c;refine⟨_,_,b,p,q,j,k,.inl ⟨_,rfl,?_⟩⟩;have:=aM.aO (g:=b) h.length 0 rows.length rows.length _ l (by simp) (by simp) (by simp) (by omega);rw[m]at this ⊢;simpa using this
theorem I4{z:List Value}{Y:Nat}(f:z.length=Y)(n:Nat):((Array.range (n*Y)).map (z.toArray[· % z.toArray.size]!)).toList=(List.replicate n z).flatten:=by
 apply u3;intro a;rcases fm a (n*Y)with d|d
 ·have m:0<Y:=by
    rcases pU Y with h|h
    ·subst h;simp at d
    ·exact h
  have k:a % Y<Y:=Nat.mod_lt _ m;have g:a / Y<n:=Nat.div_lt_of_lt_mul (by rw[Nat.mul_comm];exact d);have l:a=a / Y*Y+a % Y:=by rw[Nat.mul_comm];exact(Nat.div_add_mod a Y).symm
  have p:∀(n b c:Nat),b<n→c<Y→((List.replicate n z).flatten)[b*Y+c]?=z[c]?:=by
   intro n
   induction n with
   |zero=>intro b c j;omega
   | succ n o =>
    intro b c j i;rw[yj,kP];cases b with
    |zero=>rw[pV,dF,eV (by omega)]
    | succ b =>
     rw[hV (by rw[fH];omega),← o b c (by omega) i];congr 1;rw[fH];omega
  have e:=p n (a / Y) (a % Y) g k;rw[← l]at e;rw[e];simp[d,f,cJ (show a % Y<z.length by omega)]
 ·rw[mH (by simp;omega),mH];simp[f];omega
theorem Ke{z:List Value}{Y:Nat}(a:z.length=Y)(n:Nat):(Builtin.zeroCells z.toArray n).toList=(List.replicate n z).flatten:=by
 rw[← I4 a n];simp[Builtin.zeroCells,a]
theorem ur{z:List Value}{ds:List D}(a:cC g z ds):∀n,cC g (List.replicate n z).flatten (List.replicate n ds).flatten
 |0=>by simpa using cC.nil
 | n+1=>by
  rw[yj,yj,kP,kP];exact a.append (ur a n)
theorem Mk (s:dO P T) (hi:Inv g h) {t:TypeId} {x y:Operand} {p q d:D} {h':J} (z:aM g (ρ x) p) (A:aM g (ρ y) q) (f:p4 T h t p q=some (d,h')):mC P ρ ⟨dst,.makeSlice t x y,ty,pos,af,O⟩ g h' d:=by
 unfold p4 at f;split at f
 ·rename_i au e b ad;have ah:ρ x = .int .i64 e:=by generalize i:ρ x=l at z;cases z;rfl
  have ai:ρ y = .int .i64 b:=by generalize i:ρ y=l at A;cases A;rfl
  split at f
  ·rename_i m ae;split at f
   ·rename_i o j;split at f
    ·rename_i I;obtain⟨G,ac,n,u⟩:=I;injection f with f;injection f with L M;subst L;subst M;simp only[lim,eO]at n;have X:=eW n.1;have ao:=eW n.2;obtain⟨c,ax,a,aj,aw,ak,rfl,al,am,_⟩:=s.get j;obtain⟨B⟩:∃B,B=a.cells.toList:=⟨_,rfl⟩
     have v:=qA g a.cells.toList;have k:a.cells.toList.length=c.size:=by simpa using al
     have aq:IntKind.i64.wrap e=e:=uH (by omega) (by omega);have ar:IntKind.i64.wrap b=b:=uH (by omega) (by omega);have K:=I4 k b.toNat;simp only at u X;have ap:=ur v b.toNat;have aa:((Array.range (b.toNat*c.size)).map (a.cells[· % a.cells.size]!)).size=b.toNat*c.size:=by simp
     have an:(List.replicate e.toNat (a.cells.toList.map mn)).flatten.length=e.toNat*c.size:=by simp[k]
     obtain⟨r,ag,N,Q,ab⟩:=r6 hi (w':=g.w.alloc (.cells ((Array.range (b.toNat*c.size)).map (a.cells[· % a.cells.size]!)) m)) (U:=m) (Y:=c.size) (cap:=b.toNat) (rows:=List.replicate e.toNat (a.cells.toList.map mn)) (cs:=(Array.range (b.toNat*c.size)).map (a.cells[· % a.cells.size]!)) (fr:=(0,0)) rfl rfl rfl rfl (.inl rfl) u (by simp;omega) (by rw[aa];exact aX _) (by simp[k])
      (oH (vs:=(List.replicate e.toNat a.cells.toList).flatten) (ur v e.toNat) (λl i=>by
       obtain⟨av,R,i⟩:=E2.1 i;have:=(E4.1 R).2;subst this;exact am l i) (by simp[k]) (λo l j=>by
       have C:((Array.range (b.toNat*c.size)).map (a.cells[· % a.cells.size]!))[o]?=(((Array.range (b.toNat*c.size)).map (a.cells[· % a.cells.size]!)).toList)[o]?:=(Array.getElem?_toList ..).symm;rw[C];have E:((Array.range (b.toNat*c.size)).map (a.cells[· % a.cells.size]!)).toList=(List.replicate b.toNat a.cells.toList).flatten:=by
        have:=K;simpa using this
       rw[E];have F:List.replicate b.toNat a.cells.toList=List.replicate e.toNat a.cells.toList++List.replicate (b.toNat - e.toNat) a.cells.toList:=by
        rw[List.replicate_append_replicate];congr 1;omega
       rw[F,mG,eV (bO.1 j).1];exact j))
     refine⟨.value (.slice (some ⟨g.w.heap.size,0,none⟩) e.toNat b.toNat),_,r,?_,ag,N,Q,.inl ⟨_,rfl,?_⟩⟩
     ·have H:(c.bytes:Int)*b≤281474976710656:=by
        have:(c.bytes:Int)*b=((b.toNat*c.bytes:Nat):Int):=by
         rw[Nat.mul_comm]
         push_cast
         congr 1;omega
        rw[this];omega
      have:=run_make (P:=P) g.w t m c a (s.sl ad ae) aj ak .i64 .i64 e b G ac H (by omega);simp only[execOp,ah,ai,gq,this,gB,jc];rfl
     ·have:=aM.aO (g:=r) h.length 0 e.toNat b.toNat _ ab (by simp) (by simp;omega) (by simp) (by omega);simpa using this
    ·cases f
   ·cases f
  ·cases f
 ·cases f
end wr
end Go.Pi
namespace Go.Eng
abbrev u7:=@List.map_take
abbrev C0:=@Array.append_assoc
abbrev Je:=@run_firstCells_some
end Go.Eng
namespace Go.Pi
open Go.Eng
section ap
variable {P:Program} {T:cT} {g:Gh} {h:J}
structure vo (P:Program) (u e Y:Nat) (y:Value) (w:World) (m:Nat) (news:List Value):Prop where
 len:news.length=m*Y
 nz:∃d,P.underlying u=some d∧((d = .string∨(∃e',d = .slice e'))∧(∀w1,(Builtin.lenOf y).run P w1 = .ok m w1)∧(∀(k:Nat) (w1:World),k≤m→w1.heap=w.heap→(Builtin.firstCells Y k y).run P w1 = .ok (news.take (k*Y)).toArray w1)
  ∨ (∃k,d = .int k)∧y = .int .i64 (m:Int)∧(∃inf z,P.info? e=some inf∧inf.zero=some z∧m*inf.bytes≤281474976710656∧(m:Int)≤9223372036854775807∧(m*Y≠0→Builtin.zeroCells z.cells m=news.toArray)))
theorem Ck{r e Y m n cap:Nat}{t ty:TypeId}{y:Value}{w:World}{l:List Value}{ad:Addr}{a:TypeInfo}(i:P.underlying t=some (.slice e))(hi:P.info? e=some a)(x:a.size=Y)(g:vo P r e Y y w m l)(h:n+m≤cap):
  (Builtin.append_ #[t,r] ty #[.slice (some ad) n cap,y]).run P w=((storeCells (ad.add (n*Y)) l).run P w).andThen λ_ w' =>.ok (.slice (some ad) (n+m) cap) w':=by
 subst x;obtain⟨A,j,u⟩:=g.nz;rcases u with⟨f,s,c⟩|⟨⟨G,f⟩,rfl,F,H,d,z,D,C,k⟩
 ·have c:=c _ w (aX _) rfl;rw[iz (by rw[g.len];exact aX _)]at c;rcases f with rfl|⟨B,rfl⟩<;>simp[Builtin.append_,eC i,eC j,sizeOf,typeInfo,hi,s,h,c]
 ·subst f;rw[hi]at d;injection d with d;subst d;have q:IntKind.i64.wrap (m:Int)=m:=uH (by omega) (by omega);have E:¬((m:Int)*(a.bytes:Int)>2 ^ 48):=by
   have:(m:Int)*(a.bytes:Int)=((m*a.bytes:Nat):Int):=by push_cast;rfl
   rw[this];omega
  have o:¬(281474976710656<(m:Int)*(a.bytes:Int)):=by omega
  have p:¬((m:Int)<0):=by omega
  by_cases b:m*a.size=0
  ·have v:l=[]:=fQ (by rw[g.len];exact b);subst v;simp[Builtin.append_,eC i,eC j,sizeOf,typeInfo,hi,asInt,asIntOf,q,p,o,h,b,storeCells]
  ·have k:=k b;simp[Builtin.append_,eC i,eC j,sizeOf,typeInfo,hi,asInt,asIntOf,q,p,o,h,b,zeroValue,z,k]
theorem Cj{E e Y m n cap:Nat}{t ty:TypeId}{y:Value}{w:World}{olds v:List Value}{a:Option Addr}{b:TypeInfo}{z:Value}(r:P.underlying t=some (.slice e))(hi:P.info? e=some b)(h:b.zero=some z)(N:b.size=Y)(o:vo P E e Y y w m v)(M:cap<n+m)
  (K:∀x:World,x.heap=w.heap→(Builtin.firstCells Y n (.slice a n cap)).run P x = .ok olds.toArray x) (T:n+m≤9223372036854775807) (G:(n+m)*b.bytes≤140737488355328) :
  ∃c,n+m≤c∧c≤9223372036854775807∧(Builtin.append_ #[t,E] ty #[.slice a n cap,y]).run P w = .ok (.slice (some ⟨w.heap.size,0,none⟩) (n+m) c) (w.drew.alloc (.cells (olds.toArray++v.toArray++Builtin.zeroCells z.cells (c - (n+m))) e)):=by
 subst N;obtain⟨Q,s,H⟩:=o.nz;have ab:=growslice_fits M G;have l:¬(281474976710656<Builtin.nextslicecap (n+m) cap*b.bytes):=by omega
 have j:¬(9223372036854775807<((n:Int)+(m:Int))):=by omega
 have q:¬(n+m≤cap):=by omega
 have B:n+m≤grownCap w (n+m) cap e∧grownCap w (n+m) cap e≤9223372036854775807:=by
  show n+m≤(n+m)+w.tape w.drawn (.appendCap (n+m) cap e) % (2 ^ 63 - (n+m))∧(n+m)+w.tape w.drawn (.appendCap (n+m) cap e) % (2 ^ 63 - (n+m))≤9223372036854775807;have L:0<2 ^ 63 - (n+m):=by omega
  have:=Nat.mod_lt (w.tape w.drawn (.appendCap (n+m) cap e)) L;generalize w.tape w.drawn (.appendCap (n+m) cap e) % (2 ^ 63 - (n+m))=ae at this;omega
 refine⟨grownCap w (n+m) cap e,B.1,B.2,?_⟩;have p:=K w.drew rfl;rcases H with⟨k,F,f⟩|⟨⟨ad,k⟩,rfl,ac,af,g,i,aa,X,u⟩
 ·have f:=f _ w.drew (aX _) rfl;rw[iz (by rw[o.len];exact aX _)]at f;rcases k with rfl|⟨R,rfl⟩<;>simp[Builtin.append_,eC r,eC s,sizeOf,typeInfo,zeroValue,hi,h,F,q,j,l,Question.forced,p,f,newRow,grownCap]<;>(rw[← C0];simp)
 ·subst k;rw[hi]at g;injection g with g;subst g;rw[h]at i;injection i with i;subst i;have D:IntKind.i64.wrap (m:Int)=m:=uH (by omega) (by omega);have A:¬(281474976710656<(m:Int)*(b.bytes:Int)):=by
   have:(m:Int)*(b.bytes:Int)=((m*b.bytes:Nat):Int):=by push_cast;rfl
   rw[this];omega
  have C:¬((m:Int)<0):=by omega
  by_cases d:m*b.size=0
  ·have I:v=[]:=fQ (by rw[o.len];exact d);subst I;simp[Builtin.append_,eC r,eC s,sizeOf,typeInfo,zeroValue,hi,h,asInt,asIntOf,D,C,A,q,j,l,Question.forced,p,d,newRow,grownCap]
  ·have u:=u d;simp[Builtin.append_,eC r,eC s,sizeOf,typeInfo,zeroValue,hi,h,asInt,asIntOf,D,C,A,q,j,l,Question.forced,p,d,u,newRow,grownCap];rw[← C0];simp
theorem Us{m e Y n cap:Nat}{t ty:TypeId}{y:Value}{w:World}{h:List Value}{a:Option Addr}{l:TypeInfo}(g:P.underlying t=some (.slice e))(hi:P.info? e=some l)(i:l.size=Y)(b:vo P m e Y y w 0 h)(f:n≤cap):
  (Builtin.append_ #[t,m] ty #[.slice a n cap,y]).run P w = .ok (.slice a n cap) w:=by
 cases a with
 | some s =>
  rw[Ck g hi i b f];have:h=[]:=fQ (by rw[b.len];simp);subst this;simp[storeCells]
 | none =>
  subst i;have q:h=[]:=fQ (by rw[b.len];simp);subst q;obtain⟨u,j,p⟩:=b.nz;rcases p with⟨d,o,c⟩|⟨⟨E,d⟩,rfl,D,F,A,B,z,x,C⟩
  ·have c:=c _ w (aX _) rfl;rw[iz (by rw[b.len];exact aX _)]at c;rcases d with rfl|⟨v,rfl⟩<;>simp[Builtin.append_,eC g,eC j,sizeOf,typeInfo,hi,o,f,c]
  ·subst d;have k:IntKind.i64.wrap (((0:Nat):Int))=0:=uH (by omega) (by omega);simp only[Int.natCast_zero]at k;have r:IntKind.i64.wrap 0=0:=by simpa using k
   simp[Builtin.append_,eC g,eC j,sizeOf,typeInfo,hi,asInt,asIntOf,r,f]
theorem FC(s:List UInt8):cC g (s.map λb=>Value.int .u8 b.toNat) (iB s).flatten:=by
 unfold iB
 induction s with
 |nil=>simpa using cC.nil
 |cons a d c=>simpa using cC.cons (.int .u8 a.toNat) c
theorem CG (q:dO P T) (hi:Inv g h) {X e:Nat} {R j:TI} (B:T X=some R) (af:T e=some j) {y:Value} {I:D} (C:aM g y I) {ys:List (List D)} (a:k0 h R j I=some ys) (N:0<j.Y) :
  ∃c,vo P X e j.Y y g.w ys.length c∧cC g c ys.flatten∧(∀v∈c,v.oneCell'=true)∧(∀r∈ys,r.length=j.Y):=by
 unfold k0 at a;split at a
 ·rename_i l;split at a
  ·rename_i o aq;split at a
   ·rename_i A;injection a with a;subst a;have E:y = .string ⟨o.toArray⟩:=by cases C;rfl
    subst E;refine⟨o.map λd=>Value.int .u8 d.toNat,⟨by simp[iB,A],.string,q.str B l,.inl ⟨.inl rfl,λp=>by simp[Builtin.lenOf,iB,qz],λb p M _=>?_⟩⟩,FC o,λv m=>?_,λr k=>?_⟩
    ·simp only[Builtin.firstCells];have:(ByteArray.mk o.toArray).extract 0 b=ByteArray.mk (o.take b).toArray:=by
      apply xv;simp
     simp[this,A,u7]
    ·obtain⟨d,_,rfl⟩:=e8.1 m;rfl
    ·obtain⟨d,_,rfl⟩:=e8.1 k;simp[A]
   ·cases a
  ·cases a
 ·rename_i K l;obtain⟨aa,ac,c,rfl,aj,z,ai,ad,L⟩:=Ch hi C a N;refine⟨c,⟨z,.slice K,q.sl B l,.inl ⟨.inr ⟨K,rfl⟩,λp=>by simp[Builtin.lenOf],λb p M ak=>?_⟩⟩,ai,ad,aj⟩;cases aa with
  | none =>
   have x:ys=[]:=by
    rcases ys with _|⟨aw,ax⟩
    ·rfl
    ·obtain⟨d,G,f,_⟩:=L (by simp);cases f
   subst x;have:c=[]:=fQ (by simpa using z);subst this;simp[Builtin.firstCells]
  | some ab =>
   refine Je p j.Y b ab _ ac (c.take (b*j.Y)) (by
    have:b*j.Y≤ys.length*j.Y:=jG _ M;simp;omega) λH v i=>?_
   rw[fF]at i;split at i
   case isFalse=>cases i
   have x:ys≠[]:=λf=>by
    subst f;have:c=[]:=fQ (by simpa using z);subst this;cases i
   obtain⟨d,G,f,ae⟩:=L x;injection f with f;rw[f,jl];have:=ae.1 H v i;have t:p.cell? ⟨d,G+H,none⟩=g.w.cell? ⟨d,G+H,none⟩:=oF (by rw[ak]);rw[t];exact this
 ·rename_i b l;split at a
  ·rename_i n;split at a
   ·rename_i t;obtain⟨ap,u⟩:=t;injection a with a;subst a;simp only[lim,eO]at u;have ah:=eW u.1;have ar:=eW u.2;obtain⟨Q,ay,s,al,av,am,rfl,an,ao,_⟩:=q.get af;simp only at N ah;have F:s.cells.toList.length=Q.size:=by simpa using an
    have k:=qA g s.cells.toList;have E:y = .int .i64 ((n.toNat:Nat):Int):=by
     have:((n.toNat:Nat):Int)=n:=by omega
     rw[this];cases C;rfl
    refine⟨(List.replicate n.toNat s.cells.toList).flatten,⟨by simp[F],.int b,q.int B l,.inr ⟨⟨b,rfl⟩,by simpa using E,Q,s,al,am,by simp;omega,by simp;omega,λ_=>?_⟩⟩,ur k _,λv m=>?_,λr k=>?_⟩
    ·have:=Ke F n.toNat;simp only[List.length_replicate];rw[← this]
    ·obtain⟨au,ag,m⟩:=E2.1 m;have:=(E4.1 ag).2;subst this;exact ao v m
    ·have:=(E4.1 k).2;subst this;simpa using F
   ·cases a
  ·cases a
 ·cases a
end ap
end Go.Pi
namespace Go.Eng
abbrev kT:=@List.size_toArray
abbrev xr:=@Array.getElem?_append_left
end Go.Eng
namespace Go.Pi
open Go.Eng
section ap
variable {P:Program} {T:cT} {g:Gh} {h:J}
theorem QD(hi:Inv g h){w':World}{o U Y:Nat}{rows rows':List (List D)}{m:Me}{cs F:Array Value}{fr:Nat × Nat}(N:h[o]?=some (.row U Y rows))(u:g.ms[o]?=some m)(I:Live g m U Y rows cs)
  (f:kX g.w w' m.b (.cells F U fr)) (aq:Fr fr F.size Y) (ax:F.size=cs.size) (ar:rows'.length≤m.cap) (aw:∀r∈rows',r.length=Y)
  (ap:∀(i:Nat) (row:List D),rows'[i]?=some row→∀(j:Nat) (d:D),row[j]?=some d→∃v,F[i*Y+j]?=some v∧v.oneCell'=true∧aM g v d) :
  ∃g':Gh,g'.w=w'∧cE g g'∧Inv g' (aZ (h.set o .dead) U Y rows')∧g'.ms[h.length]?=some ⟨m.b,Y,rows'.length,m.cap⟩:=by
 let g':Gh:=⟨w',g.ms++[⟨m.b,Y,rows'.length,m.cap⟩],g.L⟩
 have G:cE g g':=⟨⟨f.os,f.tape,f.output,by show g.w.heap.size≤w'.heap.size;rw[f.size];exact aX _,(λa m u=>by
   show(g.ms++_)[a]?=some m;rw[eV (bO.1 u).1];exact u),λs k=>by
  have au:s≠m.b:=λz=>k.2 (z▸I.hL)
  exact⟨⟨by show s<w'.heap.size;rw[f.size];exact k.1,k.2⟩,f.other s au⟩⟩,λs k=>⟨⟨by show s<w'.heap.size;rw[f.size];exact k.1,k.2.1,λa c C=>by
   have x:(g.ms++[(⟨m.b,Y,rows'.length,m.cap⟩:Me)])[a]?=some c:=C;rcases fm a g.ms.length with e|R
   ·rw[eV e]at x;exact k.2.2 a c x
   ·rw[hV R]at x;have:=eS x;simp at this;subst this;exact k.2.2 o m u⟩,f.other s λz=>k.2.2 o m u z.symm⟩⟩
 have av:=(bO.1 N).1;have T:(h.set o .dead).length=h.length:=by simp
 have K:g'.ms[h.length]?=some ⟨m.b,Y,rows'.length,m.cap⟩:=by
  show(g.ms++_)[h.length]?=_;rw[← hi.len];simp
 have H:∀(a l q:Nat) (r1:List (List D)),(aZ (h.set o .dead) U Y rows')[a]?=some (.row l q r1)→(a=h.length∧l=U∧q=Y∧r1=rows')∨(a<h.length∧a≠o∧h[a]?=some (.row l q r1)):=λa l q r1 b=>by
  unfold aZ at b;rcases lY a h.length with e|heq|a1
  ·rw[eV (by rw[T];exact e)]at b;by_cases A:a=o
   ·subst A;rw[lx av]at b;injection b with b;cases b
   ·rw[jS (λz=>A z.symm)]at b;exact .inr ⟨e,A,b⟩
  ·subst heq;rw[hV (by rw[T];exact aX _),T]at b;simp at b;obtain⟨rfl,rfl,rfl⟩:=b;exact .inl ⟨rfl,rfl,rfl,rfl⟩
  ·exfalso;have:=(bO.1 b).1;simp at this;omega
 have M:∀a c,g'.ms[a]?=some c→a<h.length→g.ms[a]?=some c:=λa c C e=>by
  have:(g.ms++[(⟨m.b,Y,rows'.length,m.cap⟩:Me)])[a]?=some c:=C
  rwa [eV (by rw[hi.len];exact e)]at this
 refine⟨g',rfl,G,⟨?_,λa l q r1 b=>?_,λa E l q ac ah r1 ag c P an B n p y=>?_,λs k=>?_,λa ab b=>?_⟩,K⟩
 ·show(g.ms++[_]).length=(h.set o .dead++[_]).length;simp[hi.len]
 ·rcases H a _ _ _ b with⟨rfl,rfl,rfl,rfl⟩|⟨e,A,b⟩
  ·refine⟨_,F,K,⟨fr,f.gH,aq⟩,rfl,I.pos,I.hL,rfl,ar,by rw[ax];exact I.room,aw,λi row B j d n=>?_⟩;obtain⟨v,p,y,Q⟩:=ap i row B j d n;exact⟨v,p,y,Q.ext G⟩
  ·obtain⟨c,ai,C,t⟩:=hi.live a l q r1 b;have ao:c.b≠m.b:=λz=>A (hi.inj a o l q U Y r1 rows c m b N C u z)
   refine⟨c,ai,G.ms _ _ C,?_,t.hI,t.pos,t.hL,t.len,t.le,t.room,t.row,λi row B j d n=>?_⟩
   ·have:=f.other c.b ao;show ∃fr,w'.heap[c.b]?=_∧_;rw[this];exact t.gH
   ·obtain⟨v,p,y,Q⟩:=t.cell i row B j d n;exact⟨v,p,y,Q.ext G⟩
 ·rcases H a _ _ _ an with⟨aj,ay,az,a0⟩|⟨e,A,af⟩
  ·rcases H E _ _ _ B with⟨ad,ak,al,am⟩|⟨X,ae,aa⟩
   ·omega
   ·exfalso;rw[aj,K]at n;injection n with n;subst n;exact ae (hi.inj E o ac ah U Y ag rows P m aa N (M E P p X) u y.symm)
  ·rcases H E _ _ _ B with⟨ad,ak,al,am⟩|⟨X,ae,aa⟩
   ·exfalso;rw[ad,K]at p;injection p with p;subst p;exact A (hi.inj a o l q U Y r1 rows c m af N (M a c n e) u y)
   ·exact hi.inj a E l q ac ah r1 ag c P af aa (M a c n e) (M E P p X) y
 ·show s<w'.heap.size;rw[f.size];exact hi.L s k
 ·show ab.b<w'.heap.size;rw[f.size];have x:(g.ms++[(⟨m.b,Y,rows'.length,m.cap⟩:Me)])[a]?=some ab:=b;rcases fm a g.ms.length with e|R
  ·rw[eV e]at x;exact hi.msb a ab x
  ·rw[hV R]at x;have:=eS x;simp at this;subst this;exact hi.msb o m u
theorem vH{rows ys:List (List D)}{Y:Nat}(b:∀r∈rows,r.length=Y)(h2:∀r∈ys,r.length=Y):∀r∈rows++ys,r.length=Y:=λr a=>by
 rcases eI.1 a with a|a
 ·exact b r a
 ·exact h2 r a
theorem zG(o:dO P T)(hi:Inv g h){e:Nat}{j:TI}(b:T e=some j){a:TypeInfo}{z:Value}(t:P.info? e=some a)(B:a.zero=some z)(k:0<j.Y){rows:List (List D)}{vs:List Value}(l:cC g vs rows.flatten)(n:∀v∈vs,v.oneCell'=true)(d:∀r∈rows,r.length=j.Y)
  {c:Nat} (p:rows.length≤c) (gE:c≤9223372036854775807):∃g':Gh,g'.w=g.w.drew.alloc (.cells (vs.toArray++Builtin.zeroCells z.cells (c - rows.length)) e)∧cE g g'∧Inv g' (aZ h e j.Y rows)∧aM g' (.slice (some ⟨g.w.heap.size,0,none⟩) rows.length c) (.aO j.Y h.length 0 rows.length):=by
 obtain⟨G,K,L,f,H,i,rfl,m,I,_⟩:=o.get b;rw[t]at f;injection f with f;subst f;rw[B]at i;injection i with i;subst i;have F:z.cells.toList.length=a.size:=by simpa using m
 simp only at k d;have y:=l.length;have s:=k6 rows d;have C:(Builtin.zeroCells z.cells (c - rows.length)).size=(c - rows.length)*a.size:=by simp[Builtin.zeroCells,m]
 have E:(vs.toArray++Builtin.zeroCells z.cells (c - rows.length)).size=c*a.size:=by
  rw[Array.size_append,C];simp only[kT];rw[y,s,← fH];congr 1;omega
 obtain⟨g',A,q,u,x⟩:=r6 hi (w':=g.w.drew.alloc (.cells (vs.toArray++Builtin.zeroCells z.cells (c - rows.length)) e)) (U:=e) (Y:=a.size) (cap:=c) (rows:=rows) (cs:=vs.toArray++Builtin.zeroCells z.cells (c - rows.length)) (fr:=(0,0)) rfl rfl rfl rfl (.inl rfl) k p (by omega) d
  (oH l n d (λj v b=>by
   rw[xr (by simpa using(bO.1 b).1)];simpa using b))
 refine⟨g',A,q,u,?_⟩;have:=aM.aO (g:=g') h.length 0 rows.length c _ x (by simp) (by simp;omega) (by simp) gE;simpa using this
variable {ρ:Operand→Value} {dst:Option Tmp} {ty:TypeId} {pos:String} {af:Array Edge} {O:Option (Nat × Bool)}
theorem KW (N:dO P T) (hi:Inv g h) {t bb:Nat} {x bc:Value} {be bf d:D} {h':J} (A:aM g x be) (bt:aM g bc bf) (e:cW T h t bb be bf=some (d,h')) :
  ∃v w' g',(Builtin.append_ #[t,bb] ty #[x,bc]).run P g.w = .ok v w'∧g'.w=w'∧cE g g'∧Inv g' h'∧aM g' v d:=by
 unfold cW at e;split at e
 ·rename_i i cr cd bq;split at e
  ·rename_i ch ce;have ai:=N.sl cd ce;split at e
   ·rename_i j ac;obtain⟨bu,cz,z,E,ct,ak,bk,cu,cw,_⟩:=N.get ac;have ah:bu.size=j.Y:=by rw[bk]
    have a3:bu.bytes=j.gI:=by rw[bk]
    split at e
    ·rename_i a2 a8;have U:0<j.Y:=eW a2;obtain⟨aa,L,_⟩:=CG N hi bq ac bt a8 U;have bd:∀(a:Option Addr) (n cap:Nat),x = .slice a n cap→n≤cap→(Builtin.append_ #[t,bb] ty #[x,bc]).run P g.w = .ok x g.w:=λa n cap f aw=>by
      subst f;exact Us ai E ah L aw
     split at e
     ·injection e with e;injection e with o q;subst o;subst q;have f:x = .slice none 0 0:=by cases A;rfl
      exact⟨x,g.w,g,bd none 0 0 f (aX _),rfl,cE.refl g,hi,A⟩
     ·injection e with e;injection e with o q;subst o;subst q;have:∃a n cap,x = .slice a n cap∧n≤cap:=by
       cases A;rename_i ad n cap _ aw _ _ _ _ _ _ _ _ _;exact⟨_,_,_,rfl,by assumption⟩
      obtain⟨a,n,cap,f,aw⟩:=this;exact⟨x,g.w,g,bd a n cap f aw,rfl,cE.refl g,hi,A⟩
     ·injection e with e;injection e with o q;subst o;subst q;obtain⟨l,cap,f,_,_,b9,bm,_⟩:=A.mj;exact⟨x,g.w,g,bd _ _ cap f (by omega),rfl,cE.refl g,hi,A⟩
     ·cases e
    ·rename_i k ca a2 a8;have U:0<j.Y:=eW a2;obtain⟨aa,L,af,R,X⟩:=CG N hi bq ac bt a8 U;have cp:0<k.length:=by
      rcases k with _|⟨c0,c1⟩
      ·exact(ca rfl).elim
      ·simp
     have cm:=L.len;split at e
     ·
      split at e
      ·rename_i r;injection e with e;injection e with o q;subst o;subst q;simp only[lim,eO]at r;have al:=eW r.1;have bl:=eW r.2;have f:x = .slice none 0 0:=by cases A;rfl
       subst f;obtain⟨c,ih,gE,y⟩:=Cj (P:=P) (n:=0) (cap:=0) (a:=none) (olds:=[]) (ty:=ty) (z:=z) ai E ak ah L (by omega) (λF _=>by simp[Builtin.firstCells]) (by omega) (by rw[a3];simpa using al);simp only[dF]at y ih;obtain⟨g',u,B,C,K⟩:=zG N hi ac E ak U af R X ih gE;exact⟨_,_,g',by simpa using y,by rw[u],B,C,K⟩
      ·cases e
     ·
      rename_i Y rows;split at e
      ·rename_i a4;obtain⟨rfl,r⟩:=a4;injection e with e;injection e with o q;subst o;subst q;simp only[lim,eO]at r;have al:=eW r.1;have bl:=eW r.2;obtain⟨a,cap,olds,f,cc,ag,ao,ay,bg⟩:=Ch (Y:=j.Y) (rows:=rows) hi A (by simp[jH]) U;have aq:cap=rows.length:=by
        obtain⟨cf,cg,br,b0⟩:=A.uy;rw[f]at br;injection br with ci cj bv;rw[bv];exact b0 rfl
       subst f;obtain ⟨c,ih,gE,y⟩:=Cj (P:=P) (n:=rows.length) (cap:=cap) (a:=a) (olds:=olds) (ty:=ty) (z:=z) ai E ak ah L (by omega) (λF aj=>by
        cases a with
        | none =>
         have a7:rows=[]:=by
          rcases rows with _|⟨cx,cy⟩
          ·rfl
          ·obtain⟨b,ab,Q,_⟩:=bg (by simp);cases Q
         subst a7;have:olds=[]:=fQ (by simpa using ag);subst this;simp[Builtin.firstCells]
        | some ad =>
         refine Je F j.Y rows.length ad _ cap olds ag λM v s=>?_
         have a7:rows≠[]:=λQ=>by
          subst Q;have:olds=[]:=fQ (by simpa using ag);subst this;cases s
         obtain⟨b,ab,Q,bw⟩:=bg a7;injection Q with Q;rw[Q,jl];have:=bw.1 M v s;have bx:F.cell? ⟨b,ab+M,none⟩=g.w.cell? ⟨b,ab+M,none⟩:=oF (by rw[aj]);rw[bx];exact this) (by omega) (by rw[a3];exact al)
       have H:=ao.append af;rw[← mG]at H;have ae:(rows++k).length=rows.length+k.length:=by simp
       obtain⟨g',u,B,C,K⟩:=zG (c:=c) N hi ac E ak U H (λv f=>by
        rcases eI.1 f with f|f
        ·exact ay v f
        ·exact R v f) (vH cc X) (by omega) gE
       rw[ae]at u K;exact⟨_,_,g',y,by rw[u];simp,B,C,K⟩
      ·cases e
     ·
      rename_i Y ab n;split at e
      ·rename_i a0 c2 rows ax;split at e
       ·rename_i a4;obtain⟨rfl,rfl,rfl,cn,r⟩:=a4;simp only[lim,eO]at r;have al:=eW r.1;have bl:=eW r.2;obtain⟨l,cap,f,b8,am,b9,bm,b2,bh⟩:=A.mj;obtain⟨cs,G,au,m⟩:=hi.live ab a0 j.Y rows ax;rw[am]at au;injection au with au;subst au;subst f;obtain⟨fr,a1,ar⟩:=m.gH;obtain⟨az,ao,ay,bn⟩:=m.flat;have ag:=ao.length;have a6:=k6 rows m.row;have bj:=k6 k X;have cl:=m.len;have co:=m.room;have cq:=af.length;split at e
        ·
         rename_i an;injection e with e;injection e with o q;subst o;subst q;by_cases aq:n+k.length≤cap
         ·
          have y:=Ck (P:=P) (ty:=ty) (ad:=⟨l.b,0*l.Y,none⟩) ai E ah L aq;have a5:n*j.Y+aa.length≤G.size:=by
           have:(n+k.length)*j.Y≤l.cap*j.Y:=jG _ (by omega);rw[fH]at this;omega
          obtain⟨w',a9,ap⟩:=qB (P:=P) (i:=n*j.Y) aa g.w G.toList 0 (T:=a0) (fr:=fr) (b:=l.b) (by simpa using a1) (by simpa using ar.uG) (by simpa using a5) R;simp only[ov]at ap;have bo:(G.toList.take (n*j.Y)++aa++G.toList.drop (n*j.Y+aa.length)).toArray.size=G.size:=by
           simp;omega
          have H:=ao.append af;rw[← mG]at H;have cb:az.length=n*j.Y:=by rw[ag,a6,an]
          obtain⟨g',u,B,C,av⟩:=QD (rows':=rows++k) hi ax am m ap (by rw[bo];exact ar) bo (by simp;omega) (vH m.row X)
           (oH H (λv f=>by
            rcases eI.1 f with f|f
            ·exact ay v f
            ·exact R v f) (vH m.row X) (λM v s=>by
            rw[jR];rw[EZ];rcases fm M (n*j.Y)with b7|b1
            ·rw[eV (by omega)]at s;rw[eV (by simp;omega),fF,bE b7];have:=bn M v s;simpa using this
            ·rw[hV (by omega)]at s;have bp:(G.toList.take (n*j.Y)).length=n*j.Y:=by simp;omega
             rw[hV (by rw[bp];exact b1),bp];rw[cb]at s;rw[eV (bO.1 s).1];exact s))
          refine⟨.slice (some ⟨l.b,0*l.Y,none⟩) (n+k.length) cap,w',g',?_,u,B,C,?_⟩
          ·rw[y];simp only[pV,jl,dF,a9,gB]
          ·have ae:(rows++k).length=n+k.length:=by simp[an]
           rw[ae]at av;have:=aM.aO (g:=g') h.length 0 (n+k.length) cap _ av (by simp) (by simp;omega) (by simp;omega) bh;simpa using this
         ·
          have bz:∀F:World,F.heap=g.w.heap→(Builtin.firstCells j.Y n (.slice (some ⟨l.b,0*l.Y,none⟩) n cap)).run P F = .ok az.toArray F:=λF aj=>by
           refine Je F j.Y n _ _ cap az (by rw[ag,a6,an]) λM v s=>?_
           rw[pV,jl,dF];have:=bn M v s;simp only[World.cell?,aj,a1];simpa using this
          obtain⟨c,ih,gE,y⟩:=Cj (P:=P) (n:=n) (cap:=cap) (olds:=az) (ty:=ty) (z:=z) ai E ak ah L (by omega) bz (by omega) (by rw[a3];exact al);obtain⟨ck,aj,bi,b5,_,_,_⟩:=Ho hi ax am;have H:=(ao.append af).ext bi;rw[← mG]at H;have ae:(rows++k).length=n+k.length:=by simp[an]
          obtain⟨g',u,B,C,K⟩:=zG (c:=c) N b5 ac E ak U H (λv f=>by
           rcases eI.1 f with f|f
           ·exact ay v f
           ·exact R v f) (vH m.row X) (by omega) gE
          rw[ae,aj]at u;rw[ae,aj]at K;have b6:(h.set ab .dead).length=h.length:=by simp
          rw[b6]at K;exact⟨_,_,g',y,by rw[u];simp,bi.trans B,C,K⟩
        ·split at e
         ·
          rename_i an b3;injection e with e;injection e with o q;subst o;subst q;have aq:n+k.length≤cap:=by omega
          have y:=Ck (P:=P) (ty:=ty) (ad:=⟨l.b,0*l.Y,none⟩) ai E ah L aq;have b4:n*j.Y+k.length*j.Y≤rows.length*j.Y:=by
           rw[← fH];exact jG _ b3
          have a5:n*j.Y+aa.length≤G.size:=by
           have:rows.length*j.Y≤l.cap*j.Y:=jG _ (by have:=m.le;omega);omega
          obtain⟨w',a9,ap⟩:=qB (P:=P) (i:=n*j.Y) aa g.w G.toList 0 (T:=a0) (fr:=fr) (b:=l.b) (by simpa using a1) (by simpa using ar.uG) (by simpa using a5) R;simp only[ov]at ap;obtain⟨g',u,B,C,av⟩:=xa (rows':=rows.take n++k++rows.drop (n+k.length)) hi ax am m ar af R (p:=n*j.Y) (by rw[a6,bj];exact b4) (by
           unfold dQ;rw[mG,mG,tp rows n m.row,vG rows _ m.row,bj,fH]) (by simp;omega) (λba I=>by
            simp only[eI]at I;rcases I with(I|I)|I
            ·exact m.row ba (ja I)
            ·exact X ba I
            ·exact m.row ba (lW I)) ap
          refine⟨.slice (some ⟨l.b,0*l.Y,none⟩) (n+k.length) cap,w',g',?_,u,B,C,?_⟩
          ·rw[y];simp only[pV,jl,dF,a9,gB]
          ·rw[← b8];exact aM.aO (g:=g') ab 0 (n+k.length) cap l (by rw[av];exact am) (by omega) bm b2 bh
         ·cases e
       ·cases e
      ·cases e
     ·cases e
    ·cases e
   ·cases e
  ·cases e
 ·cases e
end ap
end Go.Pi
namespace Go.Eng
abbrev bK:=@decide_true
abbrev gx:=@List.drop_zero
abbrev gX:=@and_self
abbrev EX:=@List.eq_of_mem_replicate
end Go.Eng
namespace Go.Pi
open Go.Eng
section wr
variable {P:Program} {T:cT} {g:Gh} {h:J} {ty:TypeId}
theorem LP (r:dO P T) (hi:Inv g h) {t am:Nat} {H z:Value} {L M d:D} {h':J} (ai:aM g H L) (a9:aM g z M) (c:yL T h t am L M=some (d,h')) :
  ∃v w' g',(Builtin.copy_ #[t,am] ty #[H,z]).run P g.w = .ok v w'∧g'.w=w'∧cE g g'∧Inv g' h'∧aM g' v d:=by
 unfold yL at c;split at c
 ·rename_i i br a5 ah;split at c
  ·rename_i bf a7 a0;have ae:=r.sl a5 a7;split at c
   ·rename_i f E;split at c
    ·rename_i a ap a3;have a2:0<f.Y:=eW ap;obtain⟨y,af,a1,aa,aj⟩:=CG r hi ah E a9 a3 a2;obtain⟨be,u,au⟩:=af.nz;have ax:(∀q,(Builtin.lenOf z).run P q = .ok a.length q)∧(∀(x:Nat) (q:World),x≤a.length→q.heap=g.w.heap→(Builtin.firstCells f.Y x z).run P q = .ok (y.take (x*f.Y)).toArray q):=by
      rcases au with⟨_,n,an⟩|⟨⟨x,rfl⟩,_⟩
      ·exact⟨n,an⟩
      ·exfalso;obtain⟨bq,bx,bc,bu,bb,bv,rfl,_⟩:=r.get ah;rw[bb]at u;injection u with u;subst u;simp[IA,j6]at a0
     obtain⟨U,Q⟩:=ax;have bn:=af.len;split at c
     ·injection c with c;injection c with A B;subst A;subst B;have m:H = .slice none 0 0:=by cases ai;rfl
      subst m;have C:=Q 0 g.w (jr _) rfl;have F:Nat.min a.length 0=0:=by simp
      exact⟨.int .i64 0,g.w,g,by simp[Builtin.copy_,eC ae,r.size E,U,F,C,goInt],rfl,cE.refl g,hi,.int _ _⟩
     ·rename_i bw ba o e;split at c
      ·rename_i I bc k ab;split at c
       ·rename_i ar;obtain⟨rfl,rfl⟩:=ar;injection c with c;injection c with A B;subst A;subst B;obtain⟨al,bd,m,az,X,bm,bk,bi,bg⟩:=ai.mj;obtain⟨bt,K,s,j⟩:=hi.live ba I f.Y k ab;rw[X]at s;injection s with s;subst s;subst m;obtain⟨fr,ao,R⟩:=j.gH;have aw:=k6 k j.row;have bo:=j.room;have bj:=j.len;have N:min a.length e≤a.length:=Nat.min_le_left _ _;have C:=Q (min a.length e) g.w N rfl;have ag:(y.take (min a.length e*f.Y)).length=min a.length e*f.Y:=by
         have:min a.length e*f.Y≤a.length*f.Y:=jG _ N;simp;omega
        have aq:o*f.Y+min a.length e*f.Y≤k.length*f.Y:=by
         rw[← fH];exact jG _ (by omega)
        have bh:k.length*f.Y≤K.size:=by
         have:k.length*f.Y≤al.cap*f.Y:=jG _ (by have:=j.le;omega);omega
        obtain⟨w',a4,ad⟩:=qB (P:=P) (i:=o*f.Y) (y.take (min a.length e*f.Y)) g.w K.toList 0 (T:=I) (fr:=fr) (b:=al.b) (by simpa using ao) (by simpa using R.uG) (by rw[ag];simp;omega) (λv m=>aa v (ja m));simp only[ov]at ad;have a6:a.take e=a.take (min a.length e):=by
         rcases Nat.le_total a.length e with n|n
         ·rw[ym n,iz n,iz (aX _)]
         ·rw[Nat.min_eq_right n]
        have ac:cC g (y.take (min a.length e*f.Y)) (a.take e).flatten:=by
         rw[a6,tp a _ aj];exact a1.take _
        have ak:(a.take e).flatten.length=min a.length e*f.Y:=by
         rw[← ac.length];exact ag
        have bp:(a.take e).length=min a.length e:=by simp;omega
        obtain⟨g',a8,av,ay,bl⟩:=xa (rows':=k.take o++a.take e++k.drop (o+min a.length e)) hi ab X j R ac (λv m=>aa v (ja m)) (p:=o*f.Y) (by rw[aw,ak];exact aq) (by
         unfold dQ;rw[mG,mG,tp k o j.row,vG k _ j.row,ak,fH]) (by simp;omega) (λG l=>by
          simp only[eI]at l;rcases l with(l|l)|l
          ·exact j.row G (ja l)
          ·exact aj G (ja l)
          ·exact j.row G (lW l)) ad
        refine⟨.int .i64 ((min a.length e:Nat):Int),w',g',?_,a8,av,ay,.int _ _⟩;have F:Nat.min a.length e=min a.length e:=rfl;rw[az];simp only[Builtin.copy_,gq];simp[eC ae,r.size E,U,F,C,a4,goInt]
       ·cases c
      ·cases c
     ·cases c
    ·cases c
   ·cases c
  ·cases c
 ·cases c
theorem LH(K:dO P T)(hi:Inv g h){t:Nat}{af:Value}{H d:D}{h':J}(q:aM g af H)(a:p3 T h t H=some (d,h')):
  ∃v w' g',(Builtin.clear_ #[t] ty #[af]).run P g.w = .ok v w'∧g'.w=w'∧cE g g'∧Inv g' h'∧aM g' v d:=by
 unfold p3 at a;split at a
 case h_2=>cases a
 rename_i i av;split at a
 case h_2=>cases a
 rename_i a2 aw;have R:=K.sl av aw;split at a
 case h_2=>cases a
 rename_i c ap;have done:∀(x:Value),(x = .slice none 0 0∨∃E F,x = .slice (some E) 0 F)→∃v w' g',(Builtin.clear_ #[t] ty #[x]).run P g.w = .ok v w'∧g'.w=w'∧cE g g'∧Inv g' h∧aM g' v (.bZ []):=λx q=>by
  refine⟨.tuple #[],g.w,g,?_,rfl,cE.refl g,hi,aM.bZ [] [] rfl (by simp)⟩;rcases q with rfl|⟨E,F,rfl⟩<;>simp[Builtin.clear_,eC R]
 split at a
 ·injection a with a;injection a with l m;subst l;subst m;exact done _ (.inl (by cases q;rfl))
 ·injection a with a;injection a with l m;subst l;subst m;obtain⟨ag,s,n,_⟩:=q.uy;exact done _ (.inr ⟨ag,s,by simpa using n⟩)
 ·injection a with a;injection a with l m;subst l;subst m;obtain⟨B,s,n,_⟩:=q.mj;exact done _ (.inr ⟨_,s,n⟩)
 ·rename_i bf a1 r e ar aj;have bb:0<c.Y:=eW aj;split at a
  case h_2=>cases a
  rename_i C bg j N;split at a
  case isFalse=>cases a
  rename_i al;obtain⟨rfl,rfl⟩:=al;injection a with a;injection a with l m;subst l;subst m;obtain⟨B,s,n,aq,M,a9,a7,a5,a3⟩:=q.mj;obtain⟨be,G,u,f⟩:=hi.live a1 C c.Y j N;rw[M]at u;injection u with u;subst u;subst n;obtain⟨fr,ai,L⟩:=f.gH;have an:=k6 j f.row;have bc:=f.room;have a6:=f.len;obtain⟨o,ay,ad,a0,az⟩:=K.pC ap;have z:o.cells.toList.length=c.Y:=by simpa using a0
  have ac:cC g (List.replicate e o.cells.toList).flatten (List.replicate e c.zero).flatten:=by
   rw[ad];exact ur (qA g _) e
  have U:∀v∈(List.replicate e o.cells.toList).flatten,v.oneCell'=true:=λv n=>by
   obtain⟨bd,ah,I⟩:=E2.1 n;rw[EX ah]at I;exact az v I
  have aa:(List.replicate e o.cells.toList).flatten.length=e*c.Y:=by simp[z]
  have ab:(List.replicate e c.zero).flatten.length=e*c.Y:=by rw[← ac.length];exact aa
  have ak:r*c.Y+e*c.Y≤j.length*c.Y:=by
   rw[← fH];exact jG _ (by omega)
  have a4:j.length*c.Y≤G.size:=by
   have:j.length*c.Y≤B.cap*c.Y:=jG _ (by have:=f.le;omega);omega
  obtain⟨w',au,Q⟩:=qB (P:=P) (i:=r*c.Y) (List.replicate e o.cells.toList).flatten g.w G.toList 0 (T:=C) (fr:=fr) (b:=B.b) (by simpa using ai) (by simpa using L.uG) (by rw[aa];simp;omega) U;simp only[ov]at Q;obtain⟨g',ax,am,ao,a8⟩:=xa (rows':=j.take r++List.replicate e c.zero++j.drop (r+e)) hi N M f L ac U (p:=r*c.Y) (by rw[an,ab];exact ak) (by
   unfold dQ;rw[mG,mG,tp j r f.row,vG j _ f.row,ab,fH]) (by simp;omega) (λae k=>by
    simp only[eI]at k;rcases k with(k|k)|k
    ·exact f.row ae (ja k)
    ·rw[EX k,ad,eQ];exact z
    ·exact f.row ae (lW k)) Q
  refine⟨.tuple #[],w',g',?_,ax,am,ao,aM.bZ [] [] rfl (by simp)⟩;have ba:e≠0:=ar;obtain⟨A,rfl⟩:∃A,e=A+1:=⟨e - 1,by omega⟩
  have X:=Ke z (A+1);rw[show o.cells.toList.toArray=o.cells by simp]at X;rw[aq];simp only[Builtin.clear_,gq];simp[eC R,ay,X,au]
 ·cases a
variable {ρ:Operand→Value} {dst:Option Tmp} {pos:String} {af:Array Edge} {O:Option (Nat × Bool)}
theorem Mv(n:dO P T)(hi:Inv g h){s t e:Nat}{x:Operand}{l:List UInt8}(y:aM g (ρ x) (.str l)){i j k:TI}(L:T s=some i)(N:i.td = .str)(M:T t=some j)(Q:j.td = .sl e)(F:T e=some k)(G:k.td = .int .u8)(o:lim l.length 1=true):
  mC P ρ ⟨dst,.convert s t x,ty,pos,af,O⟩ g (aZ h e 1 (iB l)) (.aO 1 h.length 0 l.length):=by
 simp only[lim,eO]at o;have ae:=eW o.1;have ag:=eW o.2;have f:ρ x = .string ⟨l.toArray⟩:=by generalize f:ρ x=A at y;cases y;rfl
 have R:=n.str L N;have X:=n.sl M Q;have aa:=n.int F G;have d:=run_bytes_of_string (P:=P) g.w s t e ⟨l.toArray⟩ R X aa;rw[qz]at d;obtain⟨a,q⟩:∃a,a=grownCap g.w l.length 0 e:=⟨_,rfl⟩
 rw[← q]at d;have C:l.length≤a∧a≤9223372036854775807:=by
  subst q;show l.length≤l.length+g.w.tape g.w.drawn (.appendCap l.length 0 e) % (2 ^ 63 - l.length)∧l.length+g.w.tape g.w.drawn (.appendCap l.length 0 e) % (2 ^ 63 - l.length)≤9223372036854775807;have I:0<2 ^ 63 - l.length:=by omega
  have:=Nat.mod_lt (g.w.tape g.w.drawn (.appendCap l.length 0 e)) I;generalize g.w.tape g.w.drawn (.appendCap l.length 0 e) % (2 ^ 63 - l.length)=ac at this;omega
 have B:bytesRow ⟨l.toArray⟩ a=(l.map λc=>Value.int .u8 c.toNat).toArray++Array.replicate (a - l.length) (.int .u8 0):=by
  simp[bytesRow,qz]
 rw[B]at d;have H:(iB l).length=l.length:=by simp[iB]
 have v:∀z∈iB l,z.length=1:=λz K=>by
  obtain⟨c,_,rfl⟩:=e8.1 K;rfl
 obtain⟨b,m⟩:∃b:Array Value,b=(l.map λc:UInt8=>Value.int .u8 c.toNat).toArray++Array.replicate (a - l.length) (Value.int .u8 0):=⟨_,rfl⟩
 rw[← m]at d;have ad:b.size=a:=by rw[m];simp;omega
 obtain⟨p,ab,D,E,r⟩:=r6 hi (w':=g.w.drew.alloc (.cells b e (b.size,b.size+1))) (U:=e) (Y:=1) (cap:=a) (rows:=iB l) rfl rfl rfl rfl (.inr ⟨aX _,rfl⟩) (by decide) (by omega) (by omega) v
  (oH (FC l) (λA f=>by
   obtain⟨c,_,rfl⟩:=e8.1 f;rfl) v (λac A u=>by
   rw[m,xr (by simpa using(bO.1 u).1)];simpa using u))
 rw[H]at r;refine⟨.value (.slice (some ⟨g.w.heap.size,0,none⟩) l.length a),_,p,?_,ab,D,E,.inl ⟨_,rfl,?_⟩⟩
 ·simp only[execOp,gq,f,d,gB,jc]
 ·have:=aM.aO (g:=p) h.length 0 l.length a _ r (by simp) (by simp;omega) (by simp) C.2;simpa using this
theorem Mn (u:dO P T) (hi:Inv g h) {s t:Nat} {x:Operand} {r:D} (C:aM g (ρ x) r) {d:D} {h':J} (c:yP T h s t r=some (d,h')) :
  mC P ρ ⟨dst,.convert s t x,ty,pos,af,O⟩ g h' d:=by
 unfold yP at c;split at c
 ·rename_i az ai;split at c
  ·rename_i ap i a2 a1 aj;split at c
   ·rename_i E j F q m;split at c
    ·rename_i ab;split at c
     ·rename_i ah;injection c with c;injection c with Q R;subst Q;subst R;subst ah;obtain⟨e,ao,B,ax,z,ay,av,au,aq⟩:=C.mj;obtain⟨a0,a,l,k⟩:=hi.live i j 1 F m;rw[z]at l;injection l with l;subst l;obtain⟨I,o,U⟩:=k.gH;have N:=(iI.1 o).1;have ak:=u.sl ai aj;have al:=u.int q ab;obtain ⟨n,X,ae⟩:∃n,Fr n a.size 1∧kX g.w (g.w.freeze ⟨e.b,a.size,none⟩ 1) e.b (.cells a j n):=by
       obtain⟨f,hi⟩:=I;refine⟨if f==hi then(a.size,a.size+1)else(min f a.size,max hi (a.size+1)),?_,?_⟩
       ·split
        ·exact .inr ⟨aX _,rfl⟩
        ·rename_i ac;rcases U with p|⟨p,_⟩
         ·injection p with L M;subst L;subst M;simp at ac
         ·exact .inr ⟨by show a.size≤min f a.size;simp at p;omega,rfl⟩
       ·have aa:g.w.freeze ⟨e.b,a.size,none⟩ 1={ g.w with heap:=g.w.heap.modify e.b fun
            |.cells G H (f,hi) =>.cells G H (if f==hi then(a.size,a.size+1)else(min f a.size,max hi (a.size+1)))
            |i=>i }:=rfl
        rw[aa];refine⟨?_,λE q=>?_,by simp,rfl,rfl,rfl⟩
        ·show(g.w.heap.modify e.b _)[e.b]?=_;rw[nF (by rw[Array.size_modify];exact N),Array.getElem_modify_self];rw[(iI.1 o).2]
        ·show(g.w.heap.modify e.b _)[E]?=_;rw[xu,cH (Ne.symm q)]
      obtain⟨K,am,v,y,aw⟩:=JF hi m z k ae X rfl rfl k.row k.cell;have ad:h.set i (.row j 1 F)=h:=by
       apply u3;intro an;by_cases A:an=i
       ·subst A;rw[lx (bO.1 m).1,m]
       ·rw[jS (Ne.symm A)]
      rw[ad]at y;have ag:g.w.shape? e.b=some (j,a.size):=by
       unfold World.shape?;rw[o]
      refine⟨.value (ρ x),_,K,?_,am,v,y,.inl ⟨_,rfl,C.ext v⟩⟩;rw[B];simp[execOp,convert,B,eC ak,eC al,markStringish,ag]
     ·cases c
    ·cases c
   ·cases c
  ·cases c
 ·cases c
theorem Ma (U:dO P T) (hi:Inv g h) {ρ:Operand→Value} {dst:Option Tmp} {ty:TypeId} {pos:String} {af:Array Edge} {O:Option (Nat × Bool)} {t:TypeId} {x:Operand} {lo s:Option Operand} {c:Operand} {ds:List D} {d:D} {h':J}
  (n:cC g ((Op.operands (.slice t x lo s (some c))).toList.map ρ) ds) (a:yM T h t lo.isSome s.isSome ds=some (d,h')):mC P ρ ⟨dst,.slice t x lo s (some c),ty,pos,af,O⟩ g h' d:=by
 unfold yM at a;split at a
 ·rename_i aj a3;injection a with a;injection a with I K;subst I;subst K;obtain⟨u,bd,am,H,a8,aa,F,ao,a1,M⟩:=IL U (λae E=>hi.ly E) ⟨dst,.slice t x lo s (some c),ty,pos,af,O⟩ n (show ln T _ ds=some aj from a3);exact⟨_,bd,am,H,a8,aa,hi.same aa F ao a1,.inl ⟨u,rfl,M⟩⟩
 ·split at a
  ·rename_i bu bb r bn f bo ae bq br bt;split at a
   ·rename_i ad bv j o ac a4;split at a
    ·rename_i be a5;split at a
     ·rename_i q az;split at a
      ·rename_i ar;obtain⟨rfl,rfl,rfl,an,bg,bm⟩:=ar;injection a with a;injection a with I K;subst I;subst K;have a0:lo=none:=by cases lo<;>simp_all
       obtain⟨C,rfl⟩:∃i,s=some i:=by cases s<;>simp_all
       subst a0;have a2:(Op.operands (.slice t x none (some C) (some c))).toList.map ρ=[ρ x,ρ C,ρ c]:=by simp[Op.operands]
       rw[a2]at n;cases n with
       | cons a9 n=>cases n with
        | cons E n=>cases n with
         | cons X n =>
          obtain⟨m,ai,a7,bk,F,bl,bj,bh,av⟩:=a9.mj;obtain⟨bp,R,G,p⟩:=hi.live bb ad q.Y j ac;rw[F]at G;injection G with G;subst G;obtain⟨z,N,ab,ay,_,ax,_⟩:=Ho hi ac F;obtain⟨bf,aq,_⟩:=p.gH;have au:∀o,z.w.cell? ⟨m.b,o,none⟩=R[o]?:=λo=>by rw[N];simp only[World.cell?,aq];simp
          have bi:=p.len;have L:∀(o:Nat) (b:List D),(j.take r)[o]?=some b→j[o]?=some b:=λo b k=>by
           rw[fF]at k;split at k
           ·exact k
           ·cases k
          have ba:aM z (ρ x) (.sl q.Y false (j.take r)):=by
           rw[a7];refine aM.sl _ r ai q.Y false (j.take r) (by simp;omega) (by omega) av (λk=>by cases k) p.pos (λb k=>p.row b (ja k)) (λ_=>⟨rfl,ax⟩) (λe i=>(R[e*q.Y+i]?).getD undef) ?_ ?_ ?_
           ·intro e b B i y A;obtain⟨u,v,_,_⟩:=p.cell e b (L e b B) i y A;show z.w.cell? ⟨m.b,0*m.Y+e*q.Y+i,none⟩=_;rw[au,pV,dF,v];rfl
           ·intro e b B i y A;obtain⟨u,v,ag,_⟩:=p.cell e b (L e b B) i y A;rw[v];exact ag
           ·intro e b B i y A;obtain⟨u,v,_,ah⟩:=p.cell e b (L e b B) i y A;rw[v];exact ah.ext ab
          have ak:∃Q,ρ C = .int Q f:=by
           generalize ρ C=bc at E;cases E;exact⟨_,rfl⟩
          have al:∃Q,ρ c = .int Q f:=by
           generalize ρ c=bc at X;cases X;exact⟨_,rfl⟩
          have aw:kg T t (.sl q.Y false (j.take r)) none (some f) (some f)=some (.sl q.Y true (j.take f.toNat)):=by
           have ap:f≤((j.take r).length:Int):=by simp;omega
           have a6:(j.take r).take f.toNat=j.take f.toNat:=by
            rw[List.take_take];congr 1;omega
           simp only[kg,a4,a5,az,gP,sN,true_and,Int.le_refl,an,ap,gX,aJ,bK,Int.toNat_zero,gx,a6]
          obtain⟨u,H,M⟩:=p7 (g:=z) (ρ:=ρ) (dst:=dst) (ty:=ty) (pos:=pos) (af:=af) (O:=O) U (lo:=none) (hi:=some C) (mx:=some c) (l:=none) (h:=some f) (m:=some f) ba trivial ak al (by simp) aw;rw[N]at H;exact⟨_,g.w,z,H,N,ab,ay,.inl ⟨u,rfl,M⟩⟩
      ·cases a
     ·cases a
    ·cases a
   ·cases a
  ·cases a
theorem xp (j:dO P T) (hi:Inv g h) (o:Oper) {ds:List D} {d:D} {h':J} (p:cC g (o.op.operands.toList.map ρ) ds) (a:pA T h o.op ds=some (d,h')):mC P ρ o g h' d:=by
 obtain⟨dst,ar,ty,pos,af,O⟩:=o;simp only at p a;have ad:∀{b k:Operand} {X aa:D},cC g [ρ b,ρ k] [X,aa]→aM g (ρ b) X∧aM g (ρ k) aa:=λaj=>by
  cases aj with
  | cons H s=>cases s with
   |cons I s=>exact⟨H,I⟩
 cases ar<;>simp only[pA]at a
 case store e b k =>
  split at a
  ·rename_i au i;obtain⟨c,q⟩:=ad p;cases A:bT T h e au i with
   |none=>rw[A]at a;cases a
   | some H =>
    rw[A]at a;injection a with a;injection a with m n;subst m;subst n;exact Mt j hi c q A
  ·cases a
 case alloc ab =>
  split at a
  ·rename_i ac L;split at a
   ·rename_i an;injection a with a;injection a with m n;subst m;subst n;exact L3 j hi L an
   ·cases a
  ·cases a
 case box ab b =>
  split at a
  ·rename_i ac r L;obtain⟨i,B,c⟩:=sb p;simp[Op.operands]at B;subst B;split at a
   ·rename_i ai;obtain⟨ih,gE,kj⟩:=ai;injection a with a;injection a with m n;subst m;subst n;exact L6 j hi c ih gE kj
   ·cases a
  ·cases a
 case buildSlice e N Q =>
  have:(Op.operands (.buildSlice e N Q)).toList.map ρ=Q.toList.map λb=>ρ b.2:=by simp[Op.operands]
  rw[this]at p;cases l:mU T e N (Q.toList.map (·.1)) ds with
  |none=>rw[l]at a;cases a
  | some R =>
   rw[l]at a;obtain⟨av,bc,a9⟩:=R;injection a with a;injection a with m n;subst m;subst n;exact Mj j hi p l
 case slice e b a6 a3 aq =>
  cases aq with
  |none=>cases a
  |some M=>exact Ma j hi p a
 case makeSlice e N M =>
  split at a
  ·obtain⟨c,q⟩:=ad p;exact Mk j hi c q a
  ·cases a
 case convert ba e b =>
  split at a
  ·rename_i ac a4 f A L;obtain⟨i,B,c⟩:=sb p;simp[Op.operands]at B;subst B;split at a
   ·rename_i ab ao ap;split at a
    ·rename_i a5 ak;split at a
     ·rename_i al;split at a
      ·rename_i f;split at a
       ·rename_i am;injection a with a;injection a with m n;subst m;subst n;exact Mv j hi c A ao L ap ak al am
       ·cases a
      ·cases a
     ·cases a
    ·cases a
   ·exact Mn j hi c a
   ·cases a
  ·cases a
 case call M =>
  obtain⟨ah,args,E⟩:=M;simp only at a;cases ah with
  |value a2=>simp at a
  |invoke s a7=>simp at a
  | builtin ag =>
   have K:cC g (args.toList.map ρ) ds:=by simpa[Op.operands,Call.operands]using p
   have ae:∀{r u:D} {e F:Nat},ds=[r,u]→E.toList=[e,F]→∃b k,args = #[b,k]∧E = #[e,F]∧aM g (ρ b) r∧aM g (ρ k) u:=λ{r u e F} H I=>by
    subst H;have l:=K.length;obtain⟨f⟩:=args;obtain⟨R⟩:=E;simp only at I;subst I;cases f with
    |nil=>simp at l
    | cons b f=>cases f with
     |nil=>simp at l
     | cons k f=>cases f with
      | nil =>
       cases K with
       | cons c s=>cases s with
        |cons q s=>exact⟨b,k,rfl,rfl,c,q⟩
      |cons bd f=>simp at l
   cases ag<;>simp only at a
   case append =>
    split at a
    ·rename_i r u e F t;obtain⟨b,k,rfl,rfl,c,q⟩:=ae rfl t;obtain⟨i,G,v,z,C,w,x,y⟩:=KW (ty:=ty) j hi c q a;exact⟨.value i,G,v,by simp[execOp,resolve,invoke,builtin,z],C,w,x,.inl ⟨i,rfl,y⟩⟩
    ·cases a
   case copy =>
    split at a
    ·rename_i r u e F t;obtain⟨b,k,rfl,rfl,c,q⟩:=ae rfl t;obtain⟨i,G,v,z,C,w,x,y⟩:=LP (ty:=ty) j hi c q a;exact⟨.value i,G,v,by simp[execOp,resolve,invoke,builtin,z],C,w,x,.inl ⟨i,rfl,y⟩⟩
    ·cases a
   case clear =>
    split at a
    ·rename_i r e t;obtain⟨b,rfl,rfl,c⟩:∃b,args = #[b]∧E = #[e]∧aM g (ρ b) r:=by
      have l:=K.length;obtain⟨f⟩:=args;obtain⟨R⟩:=E;simp only at t;subst t;cases f with
      |nil=>simp at l
      | cons b f=>cases f with
       | nil =>
        cases K with
        |cons c s=>exact⟨b,rfl,rfl,c⟩
       |cons k f=>simp at l
     obtain⟨i,G,v,z,C,w,x,y⟩:=LH (ty:=ty) j hi c a;exact⟨.value i,G,v,by simp[execOp,resolve,invoke,builtin,z],C,w,x,.inl ⟨i,rfl,y⟩⟩
    ·cases a
   all_goals cases a
 all_goals cases a
end wr
def nZ:Unit:=()
def ih:Unit:=nZ
def gE:Unit:=ih
def kj:Unit:=gE
def qg:Unit:=kj
def Q4:Unit:=qg
def Q5:Unit:=Q4
def Q6:Unit:=Q5
def Q7:Unit:=Q6
def wy:Unit:=Q7
def QI:Unit:=wy
def QJ:Unit:=QI
def QK:Unit:=QJ
def QL:Unit:=QK
def QM:Unit:=QL
def QN:Unit:=QM
def QO:Unit:=QN
def QQ:Unit:=QO
def QR:Unit:=QQ
def QS:Unit:=QR
def QT:Unit:=QS
def QU:Unit:=QT
def QV:Unit:=QU
def QW:Unit:=QV
def QX:Unit:=QW
def QY:Unit:=QX
def QZ:Unit:=QY
def Q0:Unit:=QZ
def Q1:Unit:=Q0
def Q2:Unit:=Q1
def Q3:Unit:=Q2
def wA{b:Sort _}(a:b):b:=(λ_:Unit=>a) Q3
theorem zI{b:Sort _}(a:b):wA a=a:=rfl
abbrev dP:=FuncId→List D→J→Option (D × J)
structure Cx where
 T:cT
 gl:Nat→Option D
 xt:dP
def je(X:Cx)(e:DE):Operand→Option D
 |.tmp t=>dB e t
 |.const v=>some (ofConst v)
 |.global i=>X.gl i
 |.func f=>some (.fn (.func f) [] [])
def k4(X:Cx)(e:DE):List Operand→Option (List D)
 |[]=>some []
 | x::r=>match je X e x with
  | some d=>match k4 X e r with
   |some ds=>some (d::ds)
   |none=>none
  |none=>none
def O(g:D)(b:Bool)(x:Option D):Option D:=match g with
 | .bool a=>match a==b with
  |true=>x
  |false=>some .bU
 |.bU=>some .bU
 |_=>none
def fA(g:D)(b:Bool)(h:J)(x:Option (D × J)):Option (D × J):=match g with
 | .bool a=>match a==b with
  |true=>x
  |false=>some (.bU,h)
 |.bU=>some (.bU,h)
 |_=>none
def cV (n0:Nat) (h:J):Nat→D→D
 |0,d=>d
 | n+1,d=>match d with
  | .aO Y o r k=>match Nat.ble n0 o with
   | true=>match h[o]? with
    |some (.row _ _ rows) =>.sl Y false (((rows.drop r).take k).map λrow=>row.map (cV n0 h n))
    |_ =>.aO Y o r k
   |false =>.aO Y o r k
  |.agg cs =>.agg (cs.map (cV n0 h n))
  |.bZ cs =>.bZ (cs.map (cV n0 h n))
  |.sl Y f rows =>.sl Y f (rows.map λrow=>row.map (cV n0 h n))
  |d=>d
def snap(h:J):Nat→D→D
 |0,d=>d
 | n+1,d=>match d with
  | .aO Y o r k=>match h[o]? with
   |some (.row _ _ rows) =>.sl Y false (((rows.drop r).take k).map λrow=>row.map (snap h n))
   |_ =>.aO Y o r k
  |.agg cs =>.agg (cs.map (snap h n))
  |d=>d
def D.sg:D→Bool
 |.bool _|.int _ _|.str _|.h9|.aB|.bU=>true
 |_=>false
def D.Cw:D→Bool
 |.bZ ds=>ds.all D.sg
 |d=>d.sg
def kb(b:dP)(f:FuncId)(args:List D)(h:J):Option (D × J):=match b f (args.map (snap h 3)) (h.map λ_ =>.dead)with
 | some (a,_)=>match a.Cw with
  |true=>some (a,h)
  |false=>none
 |none=>none
def FJ(a:dP)(f:FuncId)(args:List D)(h:J):Option (D × J):=a f (args.map (cV 0 h 3)) (h.map λ_ =>.dead)
def ie(T:cT)(b:dP)(m:String)(ds:List D)(h:J):Option (D × J):=match ds with
 | .iface e c::a=>match ug T e m with
  |some d=>b d (c::a) h
  |none=>none
 |_=>none
def calls(b:Nat)(a:dP)(f:FuncId)(args:List D)(h:J):Option (D × J):=match b with
 |0=>a f args h
 |1=>kb a f args h
 |_=>FJ a f args h
def kY(T:cT)(a:dP)(g:Nat)(o:Op)(ds:List D)(h:J):Option (D × J):=wA (match o with
 | .call c=>match c.callee with
  | .value _=>match ds with
   |.fn (.func e) first d::b=>calls g a e (first++b++d) h
   |_=>none
  |.invoke _ f=>ie T a f ds h
  |_=>none
 |_=>none)
def qv(n0:Nat)(h:J):J:=h.take n0++(h.drop n0).map λ_ =>.dead
def Fo(p:D × J):D × J:=match p.1 with
 |.aO _ a _ _=>(cV a p.2 3 p.1,qv a p.2)
 |_=>p
def Fm(n0:Nat)(p:D × J):D × J:=match p.1 with
 |.aO d b c a=>(cV n0 p.2 3 (.aO d b c a),qv n0 p.2)
 |_=>p
def qJ(c:Nat)(T:cT)(h:J)(a:Op)(ds:List D):Option (D × J):=match c with
 |2=>pA T (h.map λ_ =>.dead) a (ds.map (cV 0 h 3))
 |3=>(pA T h a ds).bind λb=>some (Fo b)
 |d+4=>(pA T h a ds).bind λb=>some (Fm d b)
 |_=>pA T h a ds
def ns (o:Option Nat) (l:List Nat):Nat:=match o with
 | some a=>match l.any (Nat.beq a)with
  |true=>1
  | false=>match l.any (Nat.beq (a+1000000))with
   |true=>2
   | false=>match l.any (Nat.beq (a+2000000))with
    |true=>3
    | false=>match l.find? (λb=>Nat.ble 3000000 b&&Nat.beq ((b - 3000000) % 10000) a)with
     |some b=>(b - 3000000) / 10000+4
     |none=>0
 |none=>0
section
variable {R:Type}
def iQ(c:Nat)(dst:Option Nat)(d:D)(e:DE)(h:J)(a:DE→J→Option R):Option R:=match dst with
 |none=>a e h
 | some b=>match Nat.blt b c with
  |true=>a ((b,d)::e) h
  |false=>none
def wP(b:Op)(ds:List D):Option D:=match b,ds with
 |.move _,[a]=>some a
 |.assign _,[a]=>some a
 |_,_=>none
def lj (X:Cx) (k:dP) (d:Nat) (fz i:List Nat) (l:List Oper) (o:Oper) (e:DE) (h:J) (c:DE→J→Option R):Option R:=
 match k4 X e o.op.operands.toList with
 |none=>none
 | some f=>match o.guard with
  | none=>match wP o.op f with
   |some a=>iQ d o.dst a e h c
   | none=>match fb X.T fz o with
    |.pure=>(ln X.T o.op f).bind λa=>iQ d o.dst a e h c
    |.read=>(mq X.T h o.op f).bind λa=>iQ d o.dst a e h c
    |.write=>(qJ (ns o.dst i) X.T h o.op f).bind λb=>iQ d o.dst b.1 e b.2 c
    |.call=>(kY X.T k (ns o.dst i) o.op f h).bind λb=>iQ d o.dst b.1 e b.2 c
    |.gn=>(tX X.T o.op).bind λa=>iQ d o.dst a e h c
  | some (m,g)=>match(l[m]?).bind (·.dst)with
   |none=>none
   | some n=>match dB e n with
    |none=>none
    | some j=>match fb X.T fz o with
     |.pure=>(O j g (ln X.T o.op f)).bind λa=>iQ d o.dst a e h c
     |.read=>(O j g (mq X.T h o.op f)).bind λa=>iQ d o.dst a e h c
     |.write=>(fA j g h (qJ (ns o.dst i) X.T h o.op f)).bind λb=>iQ d o.dst b.1 e b.2 c
     |.call=>(fA j g h (kY X.T k (ns o.dst i) o.op f h)).bind λb=>iQ d o.dst b.1 e b.2 c
     |.gn=>none
def rS(fz:List Nat)(o p:Oper):Option (Nat × Nat × Operand):=match o.op,o.dst,o.guard,p.op,p.dst,p.guard with
 | .alloc b,some a,none,.store e (.tmp d) c,none,none=>match Nat.beq b e&&Nat.beq a d&&fz.any (Nat.beq a)&&(match c with
  |.tmp f => !(Nat.beq f a)
  |_=>true)with
  |true=>some (b,a,c)
  |false=>none
 |_,_,_,_,_,_=>none
def gY(Y:Nat)(v:D):Option D:=match v.fT&&Nat.beq (cP v).length Y with
 |true=>some (.aI (cP v))
 |false=>none
def iv(X:Cx)(f:dP)(b:Nat)(fz c:List Nat)(l:List Oper):List Oper→DE→J→(DE→J→Option R)→Option R
 |[],e,h,a=>a e h
 |[o],e,h,a=>lj X f b fz c l o e h a
 | o::p::r,e,h,a=>match rS fz o p with
  | some (E,d,x)=>match je X e x,X.T E with
   |some v,some i=>(gY i.Y v).bind λg=>iQ b (some d) g e h λe' h'=>iv X f b fz c l r e' h' a
   |_,_=>none
  |none=>lj X f b fz c l o e h λe' h'=>iv X f b fz c l (p::r) e' h' a
def ij(T:cT)(fz:List Nat)(o:Oper):Bool:=match fb T fz o with
 |.write|.call=>true
 |_=>false
def n3(T:cT)(fz:List Nat)(o:Oper):Bool:=match fb T fz o with
 |.read=>true
 |_=>false
def eM(T:cT)(fz:List Nat)(l:List Oper)(i:Nat):Bool:=match l[i]? with
 |some a=>ij T fz a
 |none=>false
def nA(X:Cx)(d:dP)(f:Nat)(fz c:List Nat)(l:List Oper):List Oper→DE→J→List J→(DE→J→List J→Option R)→Option R
 |[],e,h,a,b=>b e h a
 | o::r,e,h,a,b=>lj X d f fz c l o e h λe' h'=>nA X d f fz c l r e' h' (match ij X.T fz o with
  |true=>a++[h']
  |false=>a) b
def js(l:List Oper):List Nat:=(Region.before l.toArray).toList
def jg(W:List Nat)(i j:Nat):Bool:=(W.getD i 0).testBit j
def looks(l:List Oper)(o:Oper):List Nat:=(o.op.operands.toList.filterMap fun|.tmp b=>some b|_=>none)++(match o.guard with
 |some (a,_)=>((l[a]?).bind (·.dst)).toList
 |none=>[])
def fc(l:List Oper):Nat:=(List.range l.length).foldr (λa b=>match Nat.beq b (a+1)&&(List.range a).all (λc=>lh c (kB l.toArray a))with
 |true=>a
 |false=>b) l.length
def Bk(T:cT)(fz:List Nat)(l:List Oper)(j:Nat):Bool:=match l[j]? with
 | some a=>(match fb T fz a with
  |.pure=>true
  |_=>false)&&(match a.guard with
  |none=>true
  |some _=>false)&&(match a.dst with
  |some _=>true
  |none=>false)
 |none=>false
def LS(T:cT)(fz:List Nat)(l:List Oper):Nat:=
 let W:=js l
 (List.range (fc l)).foldr (λa c=>match Nat.beq c (a+1)&&(List.range a).all (λb=>jg W a b||Bk T fz l b)with
 |true=>a
 |false=>c) (fc l)
def Ul(l:List Oper):Bool:=(List.range (fc l)).any λa=>match l[a]? with
 | some b=>(match b.op,b.dst with
  | .assign _,some e=>(List.range a).any λc=>match l[c]? with
   |some d=>lh e (looks l d)
   |none=>false
  |_,_=>false)
 |none=>false
def early(fz:List Nat)(l:List Oper):Bool:=(l.take (fc l)).any λa=>match a.op with
 |.store _ (.tmp b) _=>fz.any (Nat.beq (b+1000000))
 |_=>false
def VC(T:cT)(fz:List Nat)(l:List Oper):Nat:=match early fz l||Ul l with
 |true=>LS T fz l
 |false=>fc l
def k9(m:Nat)(l:List Oper)(j:Nat):Bool:=(List.range (fc l)).any λa => !(Nat.blt a m) && !(jg (js l) a j)
def IB(l:List Oper)(k j:Nat):Bool:=match l[k]?,l[j]? with
 | some a,some b=>(match a.dst with
  |some c => !(lh c (looks l b))
  |none=>true)
 |_,_=>true
def Kf(m:Nat)(l:List Oper)(j:Nat):Bool:=match l[j]? with
 | some c=>(looks l c).all λe=>(List.range m).all λa=>match l[a]? with
  | some d=>(match d.dst with
   |some b => !(Nat.beq b e) || !(k9 m l a)
   |none=>true)
  |none=>true
 |none=>true
def Iz(fz:List Nat)(l:List Oper)(k:Nat):Bool:=match l[k]?,l[k+1]? with
 | some a,some b=>(match rS fz a b with
  |some _=>false
  |none=>true)
 |_,_=>true
def tU(T:cT)(fz:List Nat)(m:Nat)(l:List Oper):Bool:=
 ((List.range (fc l)).all λb=>Nat.blt b m||(List.range b).all λa=>lh a (kB l.toArray b)||(Nat.blt a m&&IB l b a)) &&
 ((List.range m).all λa => !(k9 m l a)||(Bk T fz l a&&Kf m l a)) &&
 ((List.range (fc l)).all λb=>Nat.blt b m||Iz fz l b)
def F9 (T:cT) (fz:List Nat) (e m:Nat) (l:List Oper):Bool:=
 let W:=js l
 let c:=(List.range m).filter (eM T fz l)
 Nat.ble m (fc l)&&Nat.ble (fc l) l.length&&po e l&&CK (fc l) l &&
 ((List.range (fc l)).all λa=>match l[a]? with
  | some f=>(looks l f).all λh=>(List.range m).all λb=>match l[b]? with
   | some g=>(match g.dst with
    |some d => !(Nat.beq d h)||jg W a b
    |none=>true)
   |none=>true
  |none=>true) &&
 (c.all λb=>c.all λa => !(Nat.blt a b)||jg W b a) &&
 (Nat.beq m (fc l)||tU T fz m l)
def xn (T:cT) (fz:List Nat) (m:Nat) (l:List Oper):List (Nat × Nat):=
 let W:=js l
 let d:=(List.range m).filter (eM T fz l)
 (List.range m).flatMap λa=>match l[a]? with
  | some g=>match n3 T fz g with
   | true =>
    let f:=(d.filter λb=>jg W a b).length
    let e:=(d.filter λb => !(jg W b a)).length
    let own:=(d.filter λb=>Nat.blt b a).length
    ((List.range (e+1)).filter λc=>Nat.ble f c && !(Nat.beq c own)).map λc=>(a,c)
   |false=>[]
  |none=>[]
def again(X:Cx)(l:List Oper)(o:Oper)(e:DE)(h:J):Prop:=match k4 X e o.op.operands.toList,o.dst with
 | some a,some b=>match o.guard with
  |none=>mq X.T h o.op a=dB e b
  | some (f,c)=>match(l[f]?).bind (·.dst)with
   |none=>False
   | some g=>match dB e g with
    |none=>False
    |some d=>O d c (mq X.T h o.op a)=dB e b
 |_,_=>False
open Classical in
noncomputable def e7(p:Prop)(x:Option R):Option R:=if p then x else none
noncomputable def l6(X:Cx)(l:List Oper)(e:DE)(a:List J):List (Nat × Nat)→Option R→Option R
 |[],x=>x
 | (i,k)::r,x=>match l[i]? with
  |some o=>e7 (again X l o e (a.getD k [])) (l6 X l e a r x)
  |none=>none
def kG(X:Cx)(fz:List Nat):List Oper→DE→J→(DE→J→Option R)→Option R
 |[],e,h,a=>a e h
 | o::r,e,h,a=>match fb X.T fz o,o.op,o.dst with
  | .gn,.alloc E,some t=>match X.T E with
   |some i=>kG X fz r ((t,.ptr h.length 0 0)::e) (aZ h E i.Y [i.zero]) a
   |none=>none
  |_,_,_=>kG X fz r e h a
noncomputable def mV(X:Cx)(c:dP)(a:Nat)(fz b:List Nat)(m:Nat)(l:List Oper)(e:DE)(h:J)(f:DE→J→Option R):Option R:=
 match F9 X.T fz a m l with
 |false=>none
 |true=>nA X c a fz b l (l.take m) e h [h] λd i k=>l6 X l d k (xn X.T fz m l) (kG X fz (l.take m) d i λg j=>iv X c a fz b l (l.drop m) g j f)
end
inductive Ex where
 |aS|ext (id:Nat)|ret
def fM:Code→List Nat
 |.region _ c _=>c.toList.filterMap (·.dst)
 |.seq a b=>fM a++fM b
 |.cond _ a b=>fM a++fM b
 |.block _ b=>fM b
 |.loop b=>fM b
 |.scope b=>fM b
 |.rangeFunc _ ps a b=>ps.toList++fM a++fM b
 |_=>[]
def q8:Code→Bool
 |.exit _=>false
 |.ret=>false
 |.seq a b=>q8 a&&q8 b
 |.cond _ a b=>q8 a||q8 b
 |.loop _=>false
 |_=>true
def oV(id:Nat):Code→Bool
 |.exit i=>Nat.beq i id
 |.seq a b=>oV id a||oV id b
 |.cond _ a b=>oV id a||oV id b
 |.block _ b=>oV id b
 |.loop b=>oV id b
 |.scope b=>oV id b
 |_=>false
def im(a:List Nat)(c:Code):List Nat:=a.filter λb=>lh b (fM c)
def pv(e:DE):List Nat→DE
 |[]=>[]
 | t::r=>match dB e t with
  |some d=>(t,d)::pv e r
  |none=>pv e r
def mr(a:List Nat)(c:Code)(e:DE):DE:=pv e (a.filter λb => !(lh b (fM c)))
def jz(e:DE):List Nat→List D
 |[]=>[]
 | t::r=>(match dB e t with
  |some d=>d
  |none =>.any)::jz e r
def tL:List D→D
 |d::_=>d
 |[] =>.any
def uE:List D→List D
 |_::r=>r
 |[]=>[]
def iw:List Nat→List D→DE→DE
 |[],_,e=>e
 |t::a,ds,e=>(t,tL ds)::iw a (uE ds) e
def bQ(id:Nat):Ex→Ex
 | .ext i=>match Nat.beq i id with
  |true =>.aS
  |false =>.ext i
 |x=>x
abbrev bN:=Ex × List D × J
abbrev ka:=(List D→J→Option bN)→List D→J→Option bN
def S{R:Type}(c:D)(a b:Option R):Option R:=match c with
 |.bool true=>a
 |.bool false=>b
 |_=>none
def toEnd{R:Type}(x:Ex)(n:Option R)(k:Ex→Option R):Option R:=wA (match x with
 |.aS=>n
 |x=>k x)
def dD{R:Type}(x:Ex)(r:Option R):Option R:=wA (match x with
 |.ext _=>none
 |_=>r)
structure pD where
 nt:Nat
 bH:List Nat
 fz:List Nat
 fX:List Nat
noncomputable def cK(X:Cx)(g:dP)(j:ka)(A:pD):Code→DE→J→(R:Type)→(Ex→DE→J→Option R)→Option R
 |.skip,e,h,R,f=>f .aS e h
 |.label _,e,h,R,f=>f .aS e h
 |.ret,e,h,R,f=>f .ret e h
 |.exit i,e,h,R,f=>f (.ext i) e h
 | .region _ k l,e,h,R,f=>match l with
  |false=>iv X g A.nt A.fz A.fX k.toList k.toList e h (f .aS)
  |true=>mV X g A.nt A.fz A.fX (VC X.T A.fz k.toList) k.toList e h (f .aS)
 |.seq a b,e,h,R,f=>cK X g j A a e h R λx e' h'=>toEnd x (cK X g j A b e' h' R f) λx=>f x e' h'
 | .cond c a b,e,h,R,f=>match je X e c with
  |none=>none
  | some d=>match q8 a&&q8 b with
   |true=>(S d (cK X g j A a e h bN λx e' h'=>some (x,jz e' (im A.bH (.cond c a b)),h')) (cK X g j A b e h bN λx e' h'=>some (x,jz e' (im A.bH (.cond c a b)),h'))).bind λr =>
     f r.1 (iw (im A.bH (.cond c a b)) r.2.1 (mr A.bH (.cond c a b) e)) r.2.2
   |false=>S d (cK X g j A a e h R f) (cK X g j A b e h R f)
 | .block id b,e,h,R,f=>match oV id b with
  |true=>(cK X g j A b e h bN λx e' h'=>some (bQ id x,jz e' (im A.bH b),h')).bind λr=>f r.1 (iw (im A.bH b) r.2.1 (mr A.bH b e)) r.2.2
  |false=>cK X g j A b e h R λx e' h'=>f (bQ id x) e' h'
 |.loop b,e,h,R,f=>(j (λds h'=>cK X g j A b (iw (im A.bH b) ds (mr A.bH b e)) h' bN λx e' m=>some (x,jz e' (im A.bH b),m)) (jz e (im A.bH b)) h).bind λr =>
   f r.1 (iw (im A.bH b) r.2.1 (mr A.bH b e)) r.2.2
 |_,_,_,_,_=>none
end Go.Pi
namespace Go.Eng
abbrev aU:=@Option.bind_assoc
abbrev iZ:=@List.getElem?_cons_zero
abbrev pW:=@Oper.upon_value
abbrev sJ:=@List.mem_append_left
abbrev vh:=@Prod.mk.injEq
end Go.Eng
namespace Go.Pi
open Go.Eng
def hP (X:Cx) (g:dP) (fz d:List Nat) (l:List Oper) (o:Oper) (e:DE) (h:J):Option (D × J):=
 match k4 X e o.op.operands.toList with
 |none=>none
 | some b=>match o.guard with
  | none=>match fb X.T fz o with
   |.pure=>(ln X.T o.op b).bind λa=>some (a,h)
   |.read=>(mq X.T h o.op b).bind λa=>some (a,h)
   |.write=>qJ (ns o.dst d) X.T h o.op b
   |.call=>kY X.T g (ns o.dst d) o.op b h
   |.gn=>(tX X.T o.op).bind λa=>some (a,h)
  | some (i,c)=>match(l[i]?).bind (·.dst)with
   |none=>none
   | some j=>match dB e j with
    |none=>none
    | some f=>match fb X.T fz o with
     |.pure=>(O f c (ln X.T o.op b)).bind λa=>some (a,h)
     |.read=>(O f c (mq X.T h o.op b)).bind λa=>some (a,h)
     |.write=>fA f c h (qJ (ns o.dst d) X.T h o.op b)
     |.call=>fA f c h (kY X.T g (ns o.dst d) o.op b h)
     |.gn=>none
theorem TG{T:cT}{fz:List Nat}{o:Oper}{ds:List D}{d:D}(h:wP o.op ds=some d):fb T fz o = .pure∧ln T o.op ds=some d:=by
 unfold wP at h;split at h
 ·rename_i a;injection h with h;subst h;simp only[fb,ln,a,gX]
 ·rename_i a;injection h with h;subst h;simp only[fb,ln,a,gX]
 ·cases h
theorem wQ{R:Type}(X:Cx)(c:dP)(d:Nat)(fz b:List Nat)(l:List Oper)(o:Oper)(e:DE)(h:J)(a:DE→J→Option R):
  lj X c d fz b l o e h a=(hP X c fz b l o e h).bind λp=>iQ d o.dst p.1 e p.2 a:=by
 unfold lj hP;cases k4 X e o.op.operands.toList with
 |none=>rfl
 | some f =>
  simp only[];cases o.guard with
  | none =>
   simp only[];cases j:wP o.op f with
   | some r =>
    obtain⟨g,i⟩:=TG (T:=X.T) (fz:=fz) j;simp only[g,i,iA]
   | none =>
    simp only[];cases fb X.T fz o<;>simp only[aU,iA,Option.bind_none]
  | some m =>
   obtain⟨k,q⟩:=m;simp only[];cases(l[k]?).bind (·.dst)with
   |none=>rfl
   | some n =>
    simp only[];cases dB e n with
    |none=>rfl
    | some s =>
     simp only[];cases fb X.T fz o<;>simp only[aU,iA,Option.bind_none]
section
variable {P:Program} {X:Cx}
def fP(g:Gh)(gl:Nat→Option D):Prop:=∀b a,gl b=some a→aM g (.pointer (some ⟨b,0,none⟩)) a
theorem fP.ext{g g':Gh}{gl:Nat→Option D}(h:fP g gl)(c:cE g g'):fP g' gl:=λd a b=>(h d a b).ext c
theorem fP.jf{g g':Gh}{gl:Nat→Option D}(h:fP g gl)(c:jQ g g'):fP g' gl:=λd a b=>(h d a b).jf c
def kJ(P:Program)(f:FuncId)(vs:List Value)(g:Gh)(h':J)(d:D):Prop:=
 ((callFunc f vs.toArray).run P g.w = .ok (.enter f vs.toArray) g.w∧mz P f vs.toArray g.w λb c=>∃a,a.w=c∧cE g a∧Inv a h'∧aM a b d) ∨
 ∃b a,(callFunc f vs.toArray).run P g.w = .ok (.value b) a.w∧cE g a∧Inv a h'∧aM a b d
def hQ(P:Program)(X:Cx)(g:dP):Prop:=∀c args d b e,g c args d=some (b,e)→∀a f,Inv a d→fP a X.gl→cC a f args→kJ P c f a e b
theorem tj{g:Gh}{e:DE}{a:Act}(c:fP g X.gl){x:Operand}{d:D}(f:∀t d,x = .tmp t→dB e t=some d→aM g (a.tmps.getD t undef) d)(h:je X e x=some d):aM g (a.eval x) d:=by
 cases x with
 |tmp t=>exact f t d rfl h
 | const j =>
  simp only[je,kU]at h;subst h;exact Uk g j
 |global i=>exact c i d h
 | func b =>
  simp only[je,kU]at h;subst h;have:=aM.fn (g:=g) (.func b) [] [] [] [] rfl rfl (by simp) (by simp);simpa[Act.eval]using this
theorem Gy{g:Gh}{e:DE}{a:Act}(c:fP g X.gl):∀{xs:List Operand} {ds:List D},(∀t d,.tmp t∈xs→dB e t=some d→aM g (a.tmps.getD t undef) d)→k4 X e xs=some ds→cC g (xs.map a.eval) ds
 | [],ds,_,h=>by
  simp only[k4,kU]at h;subst h;exact .nil
 | x::r,ds,f,h=>by
  simp only[k4]at h;split at h
  ·rename_i d j;split at h
   ·rename_i k i;injection h with h;subst h;exact .cons (tj c (λt d b=>f t d (b▸iy ..)) j) (Gy c (λt d b=>f t d (gy _ b)) i)
   ·cases h
  ·cases h
theorem Vu {g:Gh} {h:J} (hi:Inv g h) {g1:Gh} (m:g1.w=g.w) (ad:g1.ms=g.ms) (N:∀b,¬g1.L b):∀(n:Nat) (v:Value) (d:D),aM g v d→aM g1 v (snap h n d):=by
 have G:jQ g g1:=⟨by rw[m],by rw[m],by rw[m],by rw[m];exact aX _,λR z I=>by rw[ad];exact I,λb B=>⟨⟨by rw[m];exact B.1,N b⟩,by rw[m]⟩⟩
 intro n
 induction n with
 |zero=>intro v d s;exact s.jf G
 | succ n Q =>
  intro v d s;unfold snap;split
  ·rename_i aj R q E;split
   ·rename_i T M A af;obtain⟨z,U,rfl,ae,I,ao,an,al,ab⟩:=s.mj;obtain⟨ap,o,C,r⟩:=hi.live R T M A af;rw[I]at C;injection C with C;subst C;have ai:=r.hI;have am:=r.len;obtain⟨ak,B,_⟩:=r.gH;have aa:∀a,g1.w.cell? ⟨z.b,a,none⟩=o[a]?:=λa=>by rw[m];simp only[World.cell?,B];simp
    have ac:∀(a:Nat) (c:List D),(((A.drop q).take E).map λc=>c.map (snap h n))[a]?=some c→∃k,A[q+a]?=some k∧c=k.map (snap h n):=λa c i=>by
     rw[dH]at i;cases e:((A.drop q).take E)[a]? with
     |none=>rw[e]at i;cases i
     | some k =>
      rw[e]at i;injection i with i;rw[fF]at e;split at e
      ·rw[kt]at e;exact⟨k,e,i.symm⟩
      ·cases e
    have F:∀(a:Nat) (c:List D),(((A.drop q).take E).map λc=>c.map (snap h n))[a]?=some c→∀(f:Nat) (d:D),c[f]?=some d→∃v,o[(q+a)*M+f]?=some v∧v.oneCell'=true∧aM g1 v d:=λa c i f d j=>by
     obtain⟨k,u,rfl⟩:=ac a c i;rw[dH]at j;cases e:k[f]? with
     |none=>rw[e]at j;cases j
     | some t =>
      rw[e]at j;injection j with j;subst j;obtain⟨v,l,x,y⟩:=r.cell _ k u f t e;exact⟨v,l,x,Q v t y⟩
    have H:∀{K:Nat} {v:Value},o[K]?=some v→o.getD K undef=v:=λ{K v} e=>by rw[fg,e];rfl
    have X:z.b<g1.w.heap.size:=by rw[m];exact(iI.1 B).1
    refine .sl ⟨z.b,q*z.Y,none⟩ E U aj false _ (by simp;omega) (by omega) ab (by simp) (by have:=r.pos;omega) (λc ag=>?_) (λ_=>⟨rfl,X,N _⟩) (λa f=>o.getD ((q+a)*M+f) undef) (λa c i f d j=>?_) (λa c i f d j=>?_) (λa c i f d j=>?_)
    ·obtain⟨k,u,rfl⟩:=e8.1 ag;rw[eQ,r.row k (lW (ja u))];omega
    ·obtain⟨v,l,x,y⟩:=F a c i f d j;rw[H l,aa];rw[← l];congr 1;rw[← ae,ai,fH]
    ·obtain⟨v,l,x,y⟩:=F a c i f d j;rw[H l];exact x
    ·obtain⟨v,l,x,y⟩:=F a c i f d j;rw[H l];exact y
   ·exact s.jf G
  ·rename_i o;obtain⟨aq,rfl,P,u⟩:=s.pZ;refine .r5 (.of (by simp[P.length]) λf v d ah p=>?_) u;rw[dH]at p;cases e:o[f]? with
   |none=>rw[e]at p;cases p
   | some t =>
    rw[e]at p;injection p with p;subst p;exact Q v t (P.get f v t ah e)
  ·exact s.jf G
theorem sg{g g':Gh}{v:Value}{d:D}(h:aM g v d)(a:d.sg=true):aM g' v d:=by
 cases h<;>first|exact .bool _|exact .int _ _|exact .str _|exact .h9|exact .aB|exact .bU|(cases a)
theorem Vk{g g':Gh}{v:Value}{d:D}(h:aM g v d)(a:d.Cw=true):aM g' v d:=by
 unfold D.Cw at a;split at a
 ·rename_i i;obtain⟨j,rfl,c⟩:=h.CR;exact .wN (.of c.length λf v d e b=>sg (c.get f v d e b) ((gg.1 a) d (eS b)))
 ·exact sg h a
theorem zE {g:Gh} {h:J} (hi:Inv g h) {n0:Nat} {g1:Gh} (t:g1.w=g.w) (aw:g1.ms=g.ms) (ag:∀b,g1.L b→g.L b∧((∃(o:Nat) (m:Me),o<n0∧g.ms[o]?=some m∧m.b=b∧∃T Y rows,h[o]?=some (.row T Y rows))∨∀(o:Nat) (m:Me),g.ms[o]?=some m→m.b≠b)):∀(n:Nat) (v:Value) (d:D),aM g v d→aM g1 v (cV n0 h n d):=by
 have F:jQ g g1:=⟨by rw[t],by rw[t],by rw[t],by rw[t];exact aX _,λo m H=>by rw[aw];exact H,λb E=>⟨⟨by rw[t];exact E.1,λG=>E.2 (ag b G).1⟩,by rw[t]⟩⟩
 intro n
 induction n with
 |zero=>intro v d s;exact s.jf F
 | succ n P =>
  intro v d s;unfold cV;split
  ·rename_i Y o z Q;split
   ·rename_i ap;split
    ·rename_i af R rows ak;have bg:=eW ap;obtain⟨m,U,rfl,ax,H,ai,bf,bd,X⟩:=s.mj;obtain⟨bi,r,N,A⟩:=hi.live o af R rows ak;rw[H]at N;injection N with N;subst N;have a6:=A.hI;have be:=A.len;obtain⟨bb,E,_⟩:=A.gH;have av:¬g1.L m.b:=λG=>by
      rcases(ag m.b G).2 with⟨M,a7,bh,a1,a2,al,ba,a9,a3⟩|a0
      ·have:=hi.inj M o al ba af R a9 rows a7 m a3 ak a1 H a2;omega
      ·exact a0 o m H rfl
     have ar:∀a,g1.w.cell? ⟨m.b,a,none⟩=r[a]?:=λa=>by rw[t];simp only[World.cell?,E];simp
     have ab:∀(a:Nat) (c:List D),(((rows.drop z).take Q).map λc=>c.map (cV n0 h n))[a]?=some c→∃j,rows[z+a]?=some j∧c=j.map (cV n0 h n):=λa c f=>by
      rw[dH]at f;cases i:((rows.drop z).take Q)[a]? with
      |none=>rw[i]at f;cases f
      | some j =>
       rw[i]at f;injection f with f;rw[fF]at i;split at i
       ·rw[kt]at i;exact⟨j,i,f.symm⟩
       ·cases i
     have x:∀(a:Nat) (c:List D),(((rows.drop z).take Q).map λc=>c.map (cV n0 h n))[a]?=some c→∀(e:Nat) (d:D),c[e]?=some d→∃v,r[(z+a)*R+e]?=some v∧v.oneCell'=true∧aM g1 v d:=λa c f e d k=>by
      obtain⟨j,q,rfl⟩:=ab a c f;rw[dH]at k;cases i:j[e]? with
      |none=>rw[i]at k;cases k
      | some l =>
       rw[i]at k;injection k with k;subst k;obtain⟨v,u,B,C⟩:=A.cell _ j q e l i;exact⟨v,u,B,P v l C⟩
     have aa:∀{M:Nat} {v:Value},r[M]?=some v→r.getD M undef=v:=λ{M v} i=>by rw[fg,i];rfl
     have ao:m.b<g1.w.heap.size:=by rw[t];exact(iI.1 E).1
     refine .sl ⟨m.b,z*m.Y,none⟩ Q U Y false _ (by simp;omega) (by omega) X (by simp) (by have:=A.pos;omega) (λc ac=>?_) (λ_=>⟨rfl,ao,av⟩) (λa e=>r.getD ((z+a)*R+e) undef) (λa c f e d k=>?_) (λa c f e d k=>?_) (λa c f e d k=>?_)
     ·obtain⟨j,q,rfl⟩:=e8.1 ac;rw[eQ,A.row j (lW (ja q))];omega
     ·obtain⟨v,u,B,C⟩:=x a c f e d k;rw[aa u,ar];rw[← u];congr 1;rw[← ax,a6,fH]
     ·obtain⟨v,u,B,C⟩:=x a c f e d k;rw[aa u];exact B
     ·obtain⟨v,u,B,C⟩:=x a c f e d k;rw[aa u];exact C
    ·exact s.jf F
   ·exact s.jf F
  ·rename_i r;obtain⟨ae,rfl,y,q⟩:=s.pZ;refine .r5 (.of (by simp[y.length]) λe v d ad p=>?_) q;rw[dH]at p;cases i:r[e]? with
   |none=>rw[i]at p;cases p
   | some l =>
    rw[i]at p;injection p with p;subst p;exact P v l (y.get e v l ad i)
  ·rename_i r;obtain⟨ae,rfl,y⟩:=s.CR;refine .wN (.of (by simp[y.length]) λe v d ad p=>?_);rw[dH]at p;cases i:r[e]? with
   |none=>rw[i]at p;cases p
   | some l =>
    rw[i]at p;injection p with p;subst p;exact P v l (y.get e v l ad i)
  ·rename_i Y an rows;cases s with
   | sl am a8 U Y bc rows ai ay X au a5 ac ah ae aq q y =>
    have ab:∀(a:Nat) (c:List D),(rows.map λc=>c.map (cV n0 h n))[a]?=some c→∃j,rows[a]?=some j∧c=j.map (cV n0 h n):=λa c f=>by
     rw[dH]at f;cases i:rows[a]? with
     |none=>rw[i]at f;cases f
     | some j =>
      rw[i]at f;injection f with f;exact⟨j,rfl,f.symm⟩
    have x:∀(a:Nat) (c:List D),(rows.map λc=>c.map (cV n0 h n))[a]?=some c→∀(e:Nat) (d:D),c[e]?=some d→∃j l,rows[a]?=some j∧j[e]?=some l∧d=cV n0 h n l:=λa c f e d k=>by
     obtain⟨j,q,rfl⟩:=ab a c f;rw[dH]at k;cases i:j[e]? with
     |none=>rw[i]at k;cases k
     | some l =>
      rw[i]at k;injection k with k;exact⟨j,l,q,i,k.symm⟩
    refine .sl am a8 U Y an _ (by simpa using ai) ay X au a5 (λc a4=>?_) (λaz=>?_) ae (λa c f e d k=>?_) (λa c f e d k=>?_) (λa c f e d k=>?_)
    ·obtain⟨j,q,rfl⟩:=e8.1 a4;rw[eQ];exact ac j q
    ·have aj:rows≠[]:=λG=>az (by rw[G];rfl)
     exact⟨(ah aj).1,(F.fz _ (ah aj).2).1⟩
    ·obtain⟨j,l,I,K,rfl⟩:=x a c f e d k;rw[t];exact aq a j I e l K
    ·obtain⟨j,l,I,K,rfl⟩:=x a c f e d k;exact q a j I e l K
    ·obtain⟨j,l,I,K,rfl⟩:=x a c f e d k;exact P _ l (y a j I e l K)
  ·exact s.jf F
theorem Ls{A:dP}(M:hQ P X A){f:FuncId}{args:List D}{h h':J}{d:D}(m:kb A f args h=some (d,h')):∀g vs,Inv g h→fP g X.gl→cC g vs args→kJ P f vs g h' d:=by
 unfold kb at m;split at m
 ·rename_i B i N;split at m
  ·rename_i ae;injection m with m;injection m with Q R;subst Q;subst R;intro g vs t aa H
   let g1:Gh:=⟨g.w,g.ms,λ_=>False⟩
   have T:jQ g g1:=⟨rfl,rfl,rfl,aX _,λn ao v=>v,λb j=>⟨⟨j.1,λs=>s⟩,rfl⟩⟩
   have F:∀(n o r:Nat) (r1:List (List D)),(h.map λ_=>Ob.dead)[n]?≠some (.row o r r1):=λn o r r1 a=>by
    rw[dH]at a;cases I:h[n]? with
    |none=>rw[I]at a;cases a
    |some al=>rw[I]at a;injection a with a;cases a
   have ab:Inv g1 (h.map λ_ =>.dead):=⟨by show g.ms.length=_;simp[t.len],λn o r r1 a=>absurd a (F n o r r1),λn ar o r am av r1 au ap aq u=>absurd u (F n o r r1),λb j=>j.elim,t.msb⟩
   have ac:cC g1 vs (args.map (snap h 3)) :=.of (by simp[H.length]) λK k al u i=>by
    rw[dH]at i;cases a:args[K]? with
    |none=>rw[a]at i;cases i
    | some C =>
     rw[a]at i;injection i with i;subst i;exact Vu (g1:=g1) t rfl rfl (λ_ s=>s) 3 k C (H.get K k C u a)
   have E:∀(k:Value) (c:World),(∃l:Gh,l.w=c∧cE g1 l∧Inv l i∧aM l k B)→∃e:Gh,e.w=c∧cE g e∧Inv e h∧aM e k B:=by
    intro k c ⟨l,q,p,an,ad⟩;have x:∀b,b<g.w.heap.size→c.heap[b]?=g.w.heap[b]?:=λb j=>by
     rw[← q];exact(p.fz b ⟨j,λs=>s⟩).2
    let e:Gh:=⟨c,g.ms,g.L⟩
    have G:cE g e :=.ui ⟨by show c.os=_;rw[← q];exact p.os,by show c.tape=_;rw[← q];exact p.tape,by show c.output=_;rw[← q];exact p.output,by show _≤c.heap.size;rw[← q];exact p.size,λ_ _ v=>v,λb j=>⟨⟨by show b<c.heap.size;rw[← q];exact jq j.1 p.size,j.2⟩,x b j.1⟩⟩ rfl rfl x;exact⟨e,rfl,G,t.same G rfl rfl x,Vk ad ae⟩
   rcases M _ _ _ _ _ N g1 vs ab (aa.jf T) ac with⟨y,z⟩|⟨k,l,y,z,af,ag⟩
   ·exact .inl ⟨y,z.mono E⟩
   ·obtain⟨e,ah,ai,aj,ak⟩:=E k l.w ⟨l,rfl,z,af,ag⟩;exact .inr ⟨k,e,by rw[ah];exact y,ai,aj,ak⟩
  ·cases m
 ·cases m
theorem IM{g:Gh}{h:J}(hi:Inv g h):∃g1:Gh,g1.w=g.w∧cE g g1∧Inv g1 (h.map λ_ =>.dead)∧∀n v d,aM g v d→aM g1 v (cV 0 h n d):=by
 let g1:Gh:=⟨g.w,g.ms,λe=>g.L e∧∀(c:Nat) (l:Me),g.ms[c]?=some l→l.b≠e⟩
 have j:∀(c f i:Nat) (r1:List (List D)),(h.map λ_=>Ob.dead)[c]?≠some (.row f i r1):=λc f i r1 b=>by
  rw[dH]at b;cases k:h[c]? with
  |none=>rw[k]at b;cases b
  |some z=>rw[k]at b;injection b with b;cases b
 refine⟨g1,rfl,⟨⟨rfl,rfl,rfl,aX _,λ_ _ p=>p,λe a=>⟨⟨a.1,λo=>a.2 o.1⟩,rfl⟩⟩,λe a=>⟨⟨a.1,⟨a.2.1,a.2.2⟩,a.2.2⟩,rfl⟩⟩,
  ⟨by show g.ms.length=_;simp[hi.len],λc f i r1 b=>absurd b (j c f i r1),λc u f i r y r1 x s t m=>absurd m (j c f i r1),λe a=>hi.L e a.1,hi.msb⟩,λn v d q=>?_⟩
 exact zE (g1:=g1) hi rfl rfl (λe a=>⟨a.1,.inr a.2⟩) n v d q
theorem BV{n0:Nat}{h:J}{o T Y:Nat}{rows:List (List D)}(a:(qv n0 h)[o]?=some (.row T Y rows)):o<n0∧h[o]?=some (.row T Y rows):=by
 unfold qv at a;by_cases d:o<(h.take n0).length
 ·rw[eV d,fF]at a;split at a
  ·rename_i c;exact⟨c,a⟩
  ·cases a
 ·rw[hV (by omega),dH]at a;cases b:(h.drop n0)[o - (h.take n0).length]? with
  |none=>rw[b]at a;cases a
  |some e=>rw[b]at a;injection a with a;cases a
theorem IU{g:Gh}{h:J}(hi:Inv g h)(n0:Nat):∃g1:Gh,g1.w=g.w∧cE g g1∧Inv g1 (qv n0 h)∧∀n v d,aM g v d→aM g1 v (cV n0 h n d):=by
 let g1:Gh:=⟨g.w,g.ms,λe=>g.L e∧((∃(b:Nat) (f:Me),b<n0∧g.ms[b]?=some f∧f.b=e∧∃p P M,h[b]?=some (.row p P M))∨∀(b:Nat) (f:Me),g.ms[b]?=some f→f.b≠e)⟩
 have A:(qv n0 h).length=h.length:=by simp[qv];omega
 have o:cE g g1:=⟨⟨rfl,rfl,rfl,aX _,λ_ _ i=>i,λe a=>⟨⟨a.1,λz=>a.2 z.1⟩,rfl⟩⟩,λe a=>⟨⟨a.1,⟨a.2.1,.inr a.2.2⟩,a.2.2⟩,rfl⟩⟩
 refine⟨g1,rfl,o,
  ⟨by show g.ms.length=_;rw[A];exact hi.len,λb k m r1 j=>?_,λb H k m q N r1 I F G s l=>hi.inj b H k m q N r1 I F G (BV s).2 (BV l).2,λe a=>hi.L e a.1,hi.msb⟩,λn v d C=>?_⟩
 ·obtain⟨B,j⟩:=BV j;obtain⟨f,r,i,c⟩:=hi.live b k m r1 j;refine⟨f,r,i,c.gH,c.hI,c.pos,⟨c.hL,.inl ⟨b,f,B,i,rfl,_,_,_,j⟩⟩,c.len,c.le,c.room,c.row,λD K l E d t=>?_⟩;obtain⟨v,u,x,y⟩:=c.cell D K l E d t;exact⟨v,u,x,y.ext o⟩
 ·exact zE (g1:=g1) hi rfl rfl (λe a=>a) n v d C
theorem I3{g g1:Gh}{h:J}(c:∀n v d,aM g v d→aM g1 v (cV 0 h n d)){vs:List Value}{ds:List D}(b:cC g vs ds):cC g1 vs (ds.map (cV 0 h 3)):=by
 induction b with
 |nil=>exact .nil
 |cons a _ e=>exact .cons (c 3 _ _ a) e
theorem Lx{i:dP}(l:hQ P X i){f:FuncId}{args:List D}{h h':J}{d:D}(m:FJ i f args h=some (d,h')):∀g vs,Inv g h→fP g X.gl→cC g vs args→kJ P f vs g h' d:=by
 intro g vs o n q;obtain⟨k,r,b,p,s⟩:=IM o;have:=l _ _ _ _ _ m k vs p (n.ext b) (I3 s q);unfold kJ at this ⊢;rw[r]at this;rcases this with⟨c,e⟩|⟨j,a,c,e,t,u⟩
 ·exact .inl ⟨c,e.mono λj z ⟨a,v,w,x,y⟩=>⟨a,v,b.trans w,x,y⟩⟩
 ·exact .inr ⟨j,a,c,b.trans e,t,u⟩
theorem Lz{c:dP}(b:hQ P X c){e:Nat}{f:FuncId}{args:List D}{h h':J}{d:D}(a:calls e c f args h=some (d,h')):∀g vs,Inv g h→fP g X.gl→cC g vs args→kJ P f vs g h' d:=by
 unfold calls at a;split at a
 ·exact b _ _ _ _ _ a
 ·exact Ls b a
 ·exact Lx b a
theorem WA(u:dO P X.T){g:Gh}{h h':J}(hi:Inv g h){ρ:Operand→Value}{E:Nat}(o:Oper){ds:List D}{d:D}(v:cC g (o.op.operands.toList.map ρ) ds)(a:qJ E X.T h o.op ds=some (d,h')):mC P ρ o g h' d:=by
 unfold qJ at a;split at a
 ·obtain⟨t,q,n,p,r⟩:=IM hi;obtain⟨nx,k,l,b,j,c,e,i⟩:=xp u p o (I3 r v) a;rw[q]at b;exact⟨nx,k,l,b,j,n.trans c,e,i⟩
 ·cases f:pA X.T h o.op ds with
  |none=>rw[f]at a;cases a
  | some y =>
   rw[f]at a;obtain⟨B,C⟩:=y;simp only[iA,kU]at a;obtain⟨nx,k,l,b,j,c,e,i⟩:=xp u hi o v f;unfold Fo at a;split at a
   ·rename_i H A r1 G m;simp only[vh]at a;obtain⟨rfl,rfl⟩:=a;obtain⟨t,q,n,p,r⟩:=IU e A;refine⟨nx,k,t,b,by rw[q];exact j,c.trans n,p,?_⟩;rcases i with⟨z,s,x⟩|⟨s,w⟩
    ·exact .inl ⟨z,s,r 3 _ _ x⟩
    ·simp only at m;rw[m]at w;cases w
   ·simp only[vh]at a;obtain⟨rfl,rfl⟩:=a;exact⟨nx,k,l,b,j,c,e,i⟩
 ·rename_i F;cases f:pA X.T h o.op ds with
  |none=>rw[f]at a;cases a
  | some y =>
   rw[f]at a;obtain⟨B,C⟩:=y;simp only[iA,kU]at a;obtain⟨nx,k,l,b,j,c,e,i⟩:=xp u hi o v f;unfold Fm at a;split at a
   ·rename_i H A r1 G m;simp only[vh]at a;obtain⟨rfl,rfl⟩:=a;obtain⟨t,q,n,p,r⟩:=IU e F;refine⟨nx,k,t,b,by rw[q];exact j,c.trans n,p,?_⟩;simp only at m;subst m;rcases i with⟨z,s,x⟩|⟨s,w⟩
    ·exact .inl ⟨z,s,r 3 _ _ x⟩
    ·cases w
   ·simp only[vh]at a;obtain⟨rfl,rfl⟩:=a;exact⟨nx,k,l,b,j,c,e,i⟩
 ·exact xp u hi o v a
theorem TF(b:dO P X.T){t:Nat}{m:String}{f:FuncId}(e:ug X.T t m=some f){v:Value}{w:World}:(method (P.types.size+Made.depth) t v m).run P w = .ok (f,v) w:=by
 obtain⟨k,n,j,a,c,h,i,g⟩:=Iu b e;obtain⟨l,d⟩:=Is P;simp only[gq,run_program,gB,d,method,typeInfo,a,fW,c,h,follow,jc,i,receiverAt,eC g,Place.get]
theorem CU{o:Oper}{y:Nat→Option Bool}(h:o.guard=none):Region.wanted o y=true:=by simp[Region.wanted,h]
theorem WK{d:Array Oper}{a:Array Value}{j t:Nat}{c:Bool}(e:(d[j]?).bind (·.dst)=some t)(h:a.getD t undef = .bool c):yielded d a j=some c:=by
 simp only[yielded,e,iA];rw[fg]at h;cases b:a[t]? with
 |none=>rw[b]at h;cases h
 |some f=>rw[b]at h;simp at h;subst h;rfl
theorem WL{b:Array Oper}{a:Array Value}{j t:Nat}(c:(b[j]?).bind (·.dst)=some t)(h:a.getD t undef=undef):yielded b a j=none:=by
 simp only[yielded,c,iA];rw[fg]at h;cases d:a[t]? with
 |none=>rfl
 |some e=>rw[d]at h;simp at h;subst h;rfl
def q6(P:Program)(b:Array Oper)(Q:Exit→Act→World→Prop)(o:Oper)(a:Act)(g:Gh)(next:Act→World→Prop):Prop:=
 (Region.wanted o (yielded b a.tmps)=true∧o.wp P a g.w next Q)∨(Region.wanted o (yielded b a.tmps)=false∧next (a.put o.dst undef) g.w)
def Zb(g:Gh)(b:Nat)(E:TypeId)(i:TI):Prop:=∃a:Array Value,g.w.heap[b]?=some (.cells a E (0,0))∧a.size=i.Y∧∀(e:Nat) (d:D),i.zero[e]?=some d→∃c,a[e]?=some c∧c.oneCell'=true∧∀g,aM g c d
def mN(T:cT)(d g':Gh)(o:Oper)(v:Value):Prop:=∃b c a,o.op = .alloc b∧T b=some c∧0<c.Y∧v = .pointer (some ⟨a,0,none⟩)∧d.w.heap.size≤a∧g'.lim a∧Zb g' a b c
theorem mN.ext{T:cT}{b g g':Gh}{o:Oper}{v:Value}(h:mN T b g o v)(d:cE g g'):mN T b g' o v:=by
 obtain⟨e,r,a,i,j,k,l,m,c,f,n,p,q⟩:=h;exact⟨e,r,a,i,j,k,l,m,(d.lim a c).1,f,(d.lim a c).2.trans n,p,q⟩
theorem mN.TQ{T:cT}{a g g':Gh}{o:Oper}{v:Value}(h:mN T g g' o v)(l:a.w.heap.size≤g.w.heap.size):mN T a g' o v:=by
 obtain⟨b,m,c,d,e,f,i,j,k⟩:=h;exact⟨b,m,c,d,e,f,i,hX l j,k⟩
theorem Sa(N:dO P X.T){g:Gh}{h:J}(hi:Inv g h){o:Oper}{d:D}(a:tX X.T o.op=some d)(ρ:Operand→Value):d = .any∧∃v w' g',(execOp ρ o).run P g.w = .ok (.value v) w'∧g'.w=w'∧cE g g'∧Inv g' h∧mN X.T g g' o v:=by
 unfold tX at a;split at a
 case h_2=>cases a
 rename_i y C;split at a
 case h_2=>cases a
 rename_i p z;split at a
 case h_2=>cases a
 rename_i b;injection a with a;have R:0<p.Y:=eW b;obtain⟨s,aa,ac,ab,F⟩:=N.pC z;obtain⟨af,ah,aj,ai,ae,O⟩:=o;simp only at C;subst C
 let g':Gh:=⟨g.w.alloc (.cells s.cells y),g.ms,λc=>g.L c∨c=g.w.heap.size⟩
 have j:g'.w.heap.size=g.w.heap.size+1:=wz g.w _;have u:∀c,c<g.w.heap.size→g'.w.heap[c]?=g.w.heap[c]?:=λc b=>qh _ _ b
 have Q:jQ g g':=⟨rfl,rfl,rfl,by rw[j];omega,λ_ _ t=>t,λc b=>⟨⟨by rw[j];have:=b.1;omega,λn=>by
  rcases n with n|n
  ·exact b.2 n
  ·have:=b.1;omega⟩,u c b.1⟩⟩
 have B:cE g g':=⟨Q,λc b=>⟨⟨by rw[j];have:=b.1;omega,.inl b.2.1,b.2.2⟩,u c b.1⟩⟩
 have ag:∀(i:Nat) (l r:Nat) (r1:List (List D)) (k:Me) (m:Array Value),Live g k l r r1 m→k.b<g.w.heap.size:=λi l r r1 k m a=>hi.ly a.hL
 refine⟨a.symm,_,_,g',by simp only[execOp,Instr.alloc,gq,aa g.w,gB,newVar,newRow,sf,jc];rfl,rfl,B,⟨hi.len,λi l r r1 e=>?_,hi.inj,λc b=>?_,λi x e=>by rw[j];have:=hi.msb i x e;omega⟩,?_⟩
 ·obtain⟨k,m,t,a⟩:=hi.live i l r r1 e;refine⟨k,m,t,?_,a.hI,a.pos,.inl a.hL,a.len,a.le,a.room,a.row,λp ad G q d H=>?_⟩
  ·rw[u k.b (hi.ly a.hL)];exact a.gH
  ·obtain⟨v,I,K,M⟩:=a.cell p ad G q d H;exact⟨v,I,K,M.ext B⟩
 ·rw[j];rcases b with b|b
  ·have:=hi.L c b;omega
  ·omega
 ·refine⟨y,p,g.w.heap.size,rfl,z,R,rfl,aX _,⟨by rw[j];omega,.inr rfl,λi x e=>by have:=hi.msb i x e;omega⟩,s.cells,zH g.w _,ab,λq d f=>?_⟩;rw[ac,dH]at f;cases e:s.cells.toList[q]? with
  |none=>rw[e]at f;cases f
  | some v =>
   rw[e]at f;injection f with f;refine⟨v,by simpa using e,F v (eS e),λE=>?_⟩;exact(qA E s.cells.toList).get q v d e (by rw[dH,e,← f];rfl)
theorem uj (C:dO P X.T) {ag:dP} (a1:hQ P X ag) {fz ae:List Nat} {l:List Oper} {o:Oper} {e:DE} {h h':J} {d:D} (c:hP X ag fz ae l o e h=some (d,h')) {g:Gh} {a:Act} (hi:Inv g h) (am:fP g X.gl)
  (a2:∀t d,t∈looks l o→dB e t=some d→aM g (a.tmps.getD t undef) d) {Q:Exit→Act→World→Prop} {next:Act→World→Prop}
  (z:∀g' v,cE g g'→Inv g' h'→aM g' v d→(fb X.T fz o = .gn→mN X.T g g' o v)→next (a.put o.dst v) g'.w):q6 P l.toArray Q o a g next:=by
 unfold hP at c;split at c
 ·cases c
 rename_i s a8;have H:cC g (o.op.operands.toList.map a.eval) s:=Gy am (λt d ab c=>a2 t d (sJ _ (kR.2 ⟨.tmp t,ab,rfl⟩)) c) a8;have ax:fb X.T fz o ≠ .gn→ln X.T o.op s=some d→h'=h→o.wp P a g.w next Q:=λi b an=>by
  subst an;obtain⟨v,ad,g',q,m,p,ao,a5,bb,u⟩:=IL C (λL E=>hi.ly E) o H b;unfold Oper.wp;rw[q,pW];rw[← m];exact z g' v p (hi.same p ao a5 bb) u (λh=>absurd h i)
 have ay:fb X.T fz o ≠ .gn→mq X.T h o.op s=some d→h'=h→o.wp P a g.w next Q:=λi b an=>by
  subst an;obtain⟨v,q,u⟩:=Ui C hi o H b;unfold Oper.wp;rw[q,pW];exact z g v (cE.refl g) hi u (λh=>absurd h i)
 have az:fb X.T fz o ≠ .gn→qJ (ns o.dst ae) X.T h o.op s=some (d,h')→o.wp P a g.w next Q:=λi b=>by
  obtain⟨nx,ad,g',q,m,p,y,A⟩:=WA C hi o H b;unfold Oper.wp;rw[q];rcases A with⟨v,rfl,u⟩|⟨rfl,rfl⟩
  ·rw[pW,← m];exact z g' v p y u (λh=>absurd h i)
  ·rw[Oper.upon_skip,← m];exact z g' undef p y .bU (λh=>absurd h i)
 have av:fb X.T fz o ≠ .gn→∀(x:FuncId) (au:List Value),(execOp a.eval o).run P g.w=(callFunc x au.toArray).run P g.w→kJ P x au g h' d→o.wp P a g.w next Q:=λi x au q a6=>by
  unfold Oper.wp;rcases a6 with⟨aq,bh⟩|⟨v,g',aq,p,y,u⟩
  ·rw[q,aq,Oper.upon_enter];refine pH bh ?_;rintro _ ad ⟨v,rfl,g',m,p,y,u⟩;show next (a.put o.dst v) ad;rw[← m];exact z g' v p y u (λh=>absurd h i)
  ·rw[q,aq,pW];exact z g' v p y u (λh=>absurd h i)
 have aw:fb X.T fz o ≠ .gn→kY X.T ag (ns o.dst ae) o.op s h=some (d,h')→o.wp P a g.w next Q:=λi b=>by
  obtain⟨bm,bq,bu,br,bk,O⟩:=o;unfold kY at b;rw[zI]at b;split at b
  case h_2=>cases b
  rename_i af bc;subst bc;obtain⟨bl,args,bt⟩:=af;split at b
  case h_3=>cases b
  ·rename_i a0 F;split at b
   case h_2=>cases b
   rename_i x first ah K
   simp only at F;subst F;have ap:cC g (a.eval a0::args.toList.map a.eval) (.fn (.func x) first ah::K):=by simpa[Op.operands,Call.operands]using H
   cases ap with
   | cons G aj =>
    generalize A:a.eval a0=I at G;cases G with
    | fn bn first ah I ar j k bj bi =>
     have be:cC g (I++args.toList.map a.eval++ar) (first++K++ah):=((cC.of j bj).append aj).append (.of k bi);refine av i x _ ?_ (Lz a1 b g _ hi am be);have ak:I.toArray++(Array.map a.eval args++ar.toArray)=(I++args.toList.map a.eval++ar).toArray:=by simp
     simp only[execOp,resolve,invoke,A,Deferred.ofValue,gq,jc,gB,C0];rw[ak]
  ·rename_i a4 bp F;simp only at F;subst F;unfold ie at b;split at b
   case h_2=>cases b
   rename_i t r K;split at b
   case h_2=>cases b
   rename_i x ao;have ap:cC g (a.eval a4::args.toList.map a.eval) (.iface t r::K):=by simpa[Op.operands,Call.operands]using H
   cases ap with
   | cons G aj =>
    generalize A:a.eval a4=I at G;cases G with
    | iface t v r f =>
     refine av i x (v::args.toList.map a.eval) ?_ (a1 _ _ _ _ _ b g _ hi am (.cons f aj));have ak : #[v]++Array.map a.eval args=(v::args.toList.map a.eval).toArray:=by simp
     have ba:=TF C ao (v:=v) (w:=g.w);simp only[execOp,resolve,invoke,A,gq,jc,gB];simp only[Array.getElem?_append,kT,List.length_singleton,Nat.lt_one_iff,aJ,Nat.zero_lt_one,EZ,iZ,callMethod,gq];have a9:(#[Value.iface t v]++Array.map a.eval args).extract 1 (#[Value.iface t v]++Array.map a.eval args).size=Array.map a.eval args:=by
      apply Array.ext';simp;exact iz (by simp)
     simp only[run_program,gB,ba,a9,ak]
 have skip:fb X.T fz o ≠ .gn→d = .bU→h'=h→next (a.put o.dst undef) g.w:=λi j k=>by
  subst j;subst k;exact z g undef (cE.refl g) hi .bU (λh=>absurd h i)
 split at c
 ·rename_i B;refine .inl ⟨CU B,?_⟩;split at c
  ·rename_i n;cases b:ln X.T o.op s with
   |none=>rw[b]at c;cases c
   | some N =>
    rw[b]at c;injection c with c;injection c with j k;subst j;exact ax (by rw[n];intro h;cases h) b k.symm
  ·rename_i n;cases b:mq X.T h o.op s with
   |none=>rw[b]at c;cases c
   | some N =>
    rw[b]at c;injection c with c;injection c with j k;subst j;exact ay (by rw[n];intro h;cases h) b k.symm
  ·rename_i n;exact az (by rw[n];intro h;cases h) c
  ·rename_i n;exact aw (by rw[n];intro h;cases h) c
  ·cases b:tX X.T o.op with
   |none=>rw[b]at c;cases c
   | some N =>
    rw[b]at c;injection c with c;injection c with j k;subst j;obtain⟨rfl,v,ad,g',q,m,p,y,bd⟩:=Sa C hi b a.eval;unfold Oper.wp;rw[q,pW,← m];subst k;exact z g' v p y (.any v) (λ_=>bd)
 ·rename_i bg L B;split at c
  ·cases c
  rename_i t ab;split at c
  ·cases c
  rename_i R a7;have bf:t∈looks l o:=by
   unfold looks;rw[B];exact List.mem_append_right _ (by simp[ab])
  have aa:=a2 t R bf a7;have a3:(l.toArray[bg]?).bind (·.dst)=some t:=by simpa using ab
  have M:∀{r:Option (D × J)},fA R L h r=some (d,h')→(Region.wanted o (yielded l.toArray a.tmps)=true∧r=some (d,h'))∨(Region.wanted o (yielded l.toArray a.tmps)=false∧d = .bU∧h'=h):=λ{r} f=>by
   unfold fA at f;split at f
   ·rename_i af;have E:a.tmps.getD t undef = .bool af:=by
     generalize A:a.tmps.getD t undef=v at aa;cases aa;rfl
    have ac:=WK a3 E;split at f
    ·rename_i al;exact .inl ⟨by simpa[Region.wanted,B,ac]using al,f⟩
    ·rename_i al;injection f with f;injection f with j k;exact .inr ⟨by simpa[Region.wanted,B,ac]using al,j.symm,k.symm⟩
   ·have E:a.tmps.getD t undef=undef:=by
      generalize A:a.tmps.getD t undef=v at aa;cases aa;rfl
    have ac:=WL a3 E;injection f with f;injection f with j k;exact .inr ⟨by simp[Region.wanted,B,ac],j.symm,k.symm⟩
   ·cases f
  have conv:∀{r:Option D},((O R L r).bind λd=>some (d,h))=fA R L h (r.bind λd=>some (d,h)):=λ{r}=>by
   unfold O fA;split
   ·split<;>rfl
   ·rfl
   ·rfl
  split at c
  ·rename_i n;have i:fb X.T fz o ≠ .gn:=by rw[n];intro h;cases h
   rw[conv]at c;rcases M c with⟨m,f⟩|⟨m,j,k⟩
   ·cases b:ln X.T o.op s with
    |none=>rw[b]at f;cases f
    | some N =>
     rw[b]at f;injection f with f;injection f with j k;subst j;exact .inl ⟨m,ax i b k.symm⟩
   ·exact .inr ⟨m,skip i j k⟩
  ·rename_i n;have i:fb X.T fz o ≠ .gn:=by rw[n];intro h;cases h
   rw[conv]at c;rcases M c with⟨m,f⟩|⟨m,j,k⟩
   ·cases b:mq X.T h o.op s with
    |none=>rw[b]at f;cases f
    | some N =>
     rw[b]at f;injection f with f;injection f with j k;subst j;exact .inl ⟨m,ay i b k.symm⟩
   ·exact .inr ⟨m,skip i j k⟩
  ·rename_i n;have i:fb X.T fz o ≠ .gn:=by rw[n];intro h;cases h
   rcases M c with⟨m,f⟩|⟨m,j,k⟩
   ·exact .inl ⟨m,az i f⟩
   ·exact .inr ⟨m,skip i j k⟩
  ·rename_i n;have i:fb X.T fz o ≠ .gn:=by rw[n];intro h;cases h
   rcases M c with⟨m,f⟩|⟨m,j,k⟩
   ·exact .inl ⟨m,aw i f⟩
   ·exact .inr ⟨m,skip i j k⟩
  ·cases c
end
end Go.Pi
namespace Go.Eng
abbrev eJ:=@List.length_nil
abbrev iL:=@Option.bind_eq_some_iff
abbrev kO:=@List.filter_cons
abbrev oo:=@Function.comp_def
abbrev pP:=@List.filterMap_cons
abbrev sI:=@List.map_map
end Go.Eng
namespace Go.Pi
open Go.Eng
section
variable {P:Program} {X:Cx} {R:Type}
theorem B3{c:Nat}{dst:Option Nat}{d:D}{e:DE}{h:J}{b:DE→J→Option R}{r:R}(a:iQ c dst d e h b=some r):(dst=none∧b e h=some r)∨(∃t,dst=some t∧t<c∧b ((t,d)::e) h=some r):=by
 unfold iQ at a;split at a
 ·exact .inl ⟨rfl,a⟩
 ·rename_i t;split at a
  ·rename_i f;exact .inr ⟨t,rfl,eW f,a⟩
  ·cases a
theorem wR{f:dP}{i:Nat}{fz c:List Nat}{l:List Oper}{o:Oper}{e:DE}{h:J}{b:DE→J→Option R}{r:R}(a:lj X f i fz c l o e h b=some r):
  ∃d h',hP X f fz c l o e h=some (d,h')∧((o.dst=none∧b e h'=some r)∨(∃t,o.dst=some t∧t<i∧b ((t,d)::e) h'=some r)):=by
 rw[wQ]at a;cases g:hP X f fz c l o e h with
 |none=>rw[g]at a;cases a
 | some j =>
  rw[g]at a;obtain⟨d,h'⟩:=j;exact⟨d,h',rfl,B3 a⟩
theorem Qh{fz:List Nat}{o p:Oper}{E d:Nat}{x:Operand}(h:rS fz o p=some (E,d,x)):o.op = .alloc E∧o.dst=some d∧o.guard=none∧p.op = .store E (.tmp d) x∧p.dst=none∧p.guard=none∧x ≠ .tmp d:=by
 unfold rS at h;split at h
 ·rename_i u s v t w g i j k l m;split at h
  ·rename_i e;injection h with h;injection h with q c;injection c with c r;subst q;subst c;subst r;simp only[eO]at e;obtain⟨⟨⟨a,b⟩,_⟩,f⟩:=e;have a:=ib a;have b:=ib b;subst a;subst b;refine⟨g,i,j,k,l,m,λn=>?_⟩;subst n;simp at f
  ·cases h
 ·cases h
theorem Qi(G:dO P X.T){g:Gh}{h:J}{z:Nat}{e:DE}{a:Act}(hi:Inv g h)(ah:fP g X.gl)(y:fG z g e a){E d:Nat}{x:Operand}{v A:D}{i:TI}(a1:je X e x=some v)(F:X.T E=some i)(m:gY i.Y v=some A)(H:d<z)(al:x ≠ .tmp d)
  {Q:Exit→Act→World→Prop} {l:List Oper} {r:List Oper} {o p:Oper} (an:o.op = .alloc E∧o.dst=some d∧o.guard=none∧p.op = .store E (.tmp d) x∧p.dst=none∧p.guard=none∧x ≠ .tmp d)
  (ak:∀g' B,cE g g'→Inv g' h→fG z g' ((d,A)::e) B→wpList P l.toArray Q r B g'.w):wpList P l.toArray Q (o::p::r) a g.w:=by
 obtain⟨N,R,aa,ab,ac,ad,_⟩:=an;unfold gY at m;split at m
 case h_2=>cases m
 rename_i c;injection m with m;subst m;simp only[eO]at c;obtain⟨ao,I⟩:=c;have I:=ib I;obtain⟨j,a2,_,a7,_⟩:=G.pC F;have aw:aM g (a.eval x) v:=tj ah (λa3 C _ az=>y.get a3 C az) a1;obtain⟨n,a0,M,K⟩:=aw.cells ao;have a6:=M.length;have au:(execOp a.eval o).run P g.w = .ok (.value (.pointer (some ⟨g.w.heap.size,0,none⟩))) (g.w.alloc (.cells j.cells E)):=by
  simp only[execOp,N,Instr.alloc,gq,a2 g.w,gB,newVar,newRow,sf,jc];rfl
 have ap:(a.put (some d) (.pointer (some ⟨g.w.heap.size,0,none⟩))).eval (.tmp d) = .pointer (some ⟨g.w.heap.size,0,none⟩):=by
  simp[Act.put,Act.eval,y.size,H]
 have aq:(a.put (some d) (.pointer (some ⟨g.w.heap.size,0,none⟩))).eval x=a.eval x:=Act.eval_put (λC s t=>al (by injection s with s;rw[s];exact t));have am:(g.w.alloc (.cells j.cells E)).heap[g.w.heap.size]?=some (.cells j.cells.toList.toArray E (0,0)):=by
  rw[zH]
 obtain⟨f,ax,k⟩:=qB (P:=P) (i:=0) n (g.w.alloc (.cells j.cells E)) j.cells.toList 0 am (.inl rfl) (by simp;omega) K;have ag:j.cells.toList.take (0+0)++n++j.cells.toList.drop (0+0+n.length)=n:=by
  simp;omega
 rw[ag]at k;have ay:n.length=i.Y:=by omega
 have av:(execOp (a.put (some d) (.pointer (some ⟨g.w.heap.size,0,none⟩))).eval p).run P (g.w.alloc (.cells j.cells E)) = .ok .skip f:=by
  simp[execOp,ab,Instr.storeAt,Instr.sureAddr,storeVar,ap,aq,a0,G.size F,ay,ax]
 have u:∀b,b<g.w.heap.size→f.heap[b]?=g.w.heap[b]?:=λb c=>by
  rw[k.other b (by omega)];exact qh _ _ c
 have a5:f.heap.size=g.w.heap.size+1:=by rw[k.size];exact wz _ _
 let g':Gh:=⟨f,g.ms,g.L⟩
 have q:cE g g' :=.ui ⟨k.os,k.tape,k.output,by show g.w.heap.size≤f.heap.size;omega,λ_ _ aj=>aj,λb c=>⟨⟨by show b<f.heap.size;have:=c.1;omega,c.2⟩,u b c.1⟩⟩ rfl rfl u;have ae:At g' g.w.heap.size 0 n (cP v):=⟨λa8 A ai=>by
  show f.cell? _=_;simp only[World.cell?,k.gH,dF];simpa using ai,K,M.ext q⟩
 have ar:aM g' (.pointer (some ⟨g.w.heap.size,0,none⟩)) (.aI (cP v)):=ae.aI λ_=>⟨by show _<f.heap.size;omega,λt=>by
  have:=hi.ly (show g.L g.w.heap.size from t);omega⟩
 have af:=ak g' (a.put (some d) (.pointer (some ⟨g.w.heap.size,0,none⟩))) q (hi.same q rfl rfl u) ((y.ext q).put H ar);unfold wpList;rw[bE (CU aa)];refine .inl ?_;unfold Oper.wp;rw[au,pW,R];unfold wpList;rw[bE (CU ad)];refine .inl ?_;unfold Oper.wp;rw[av,Oper.upon_skip,ac];exact af
def yy(P:Program)(X:Cx)(o:dP)(j:Nat)(fz n:List Nat)(l:List Oper)(Q:Exit→Act→World→Prop)(r:R)(k:List Oper)(e:DE)(h:J)(m:DE→J→Option R):Prop:=
 ∀(a:Gh) (f:Act),Inv a h→fP a X.gl→fG j a e f→(∀c i b g,m c i=some r→(∀d,d∉fL k→dB c d=dB e d)→cE a b→Inv b i→fG j b c g→Q .normal g b.w)→wpList P l.toArray Q k f a.w
theorem JE(M:dO P X.T){d:dP}(N:hQ P X d){z:Nat}{fz j:List Nat}{l:List Oper}{Q:Exit→Act→World→Prop}{r:R}{o:Oper}{A:List Oper}{e:DE}{h:J}{E D:DE→J→Option R}(ac:lj X d z fz j l o e h E=some r)
  (rec:∀(e:DE) (h:J),E e h=some r→yy P X d z fz j l Q r A e h D):yy P X d z fz j l Q r (o::A) e h D:=by
 intro L g ab v x K;obtain⟨F,H,af,aa⟩:=wR ac;have ah:q6 P l.toArray Q o g L (wpList P l.toArray Q A):=by
  refine uj M N af ab v (λB F _ ai=>x.get B F ai) λG ak a I ag _=>?_
  rcases aa with⟨b,w⟩|⟨B,b,ad,w⟩
  ·rw[b];refine rec e H w G g I (v.ext a) (x.ext a) λk n m i p q s t u=>K k n m i p (λC c=>q C λf=>c ?_) (a.trans s) t u
   simp only[fL,pP,b]at f ⊢;exact f
  ·rw[b];refine rec _ H w G (g.put (some B) ak) I (v.ext a) ((x.ext a).put ad ag) λk n m i p q s t u=>K k n m i p (λC c=>?_) (a.trans s) t u
   simp only[fL,pP,b,dW,not_or]at c;rw[q C c.2,jw,cH (λf=>c.1 f.symm)]
 unfold wpList;rcases ah with⟨y,aj⟩|⟨y,ae⟩
 ·rw[bE y];exact .inl aj
 ·rw[cH (by simp[y])];exact ae
theorem w8(i:dO P X.T){t:dP}(n:hQ P X t){y:Nat}{fz v:List Nat}{l:List Oper}{Q:Exit→Act→World→Prop}{r:R}:∀(m:List Oper) (e:DE) (h:J) (c:DE→J→Option R),iv X t y fz v l m e h c=some r→yy P X t y fz v l Q r m e h c
 |[],e,h,c,b=>λg a hi s k j=>j e h g a b (λ_ _=>rfl) (cE.refl g) hi k
 |[o],e,h,c,b=>JE i n b λe h b g a hi s k j=>j e h g a b (λ_ _=>rfl) (cE.refl g) hi k
 | o::p::m,e,h,c,b=>by
  simp only[iv]at b;split at b
  ·rename_i E d x aa;have q:=Qh aa;split at b
   ·rename_i ai ag af N;obtain⟨ah,ae,b⟩:=iL.1 b;rcases B3 b with⟨u,_⟩|⟨z,f,ac,b⟩
    ·cases u
    ·injection f with f;subst f;intro g a hi s k j;refine Qi i hi s k af N ae ac q.2.2.2.2.2.2 q λD A w ab ad=>w8 i n m _ h c b D A ab (s.ext w) ad λC G F B H I K L M=>j C G F B H (λz f=>?_) (w.trans K) L M
     simp only[fL,pP,q.2.1,q.2.2.2.2.1,dW,not_or]at f;rw[I z f.2,jw,cH (λu=>f.1 u.symm)]
   ·cases b
  ·exact JE i n b λe h b=>w8 i n (p::m) e h c b
theorem JD{w:dP}{s:Nat}{fz v:List Nat}{l:List Oper}{r:R}:∀(a:List Oper) (e:DE) (h:J) (g:List J) (k:DE→J→List J→Option R),nA X w s fz v l a e h g k=some r →
  ∃(c:Nat→DE) (f:Nat→J) (u:Nat→D),c 0=e∧f 0=h∧(∀(i:Nat) (o:Oper),a[i]?=some o→hP X w fz v l o (c i) (f i)=some (u i,f (i+1))∧(o.dst=none→c (i+1)=c i)∧(∀t,o.dst=some t→t<s∧c (i+1)=(t,u i)::c i)) ∧
   k (c a.length) (f a.length) (g++((List.range a.length).filter (eM X.T fz a)).map λi=>f (i+1))=some r
 |[],e,h,g,k,x=>⟨λ_=>e,λ_=>h,λ_ =>.any,rfl,rfl,by simp,by simpa[nA]using x⟩
 | o::a,e,h,g,k,x=>by
  obtain⟨d,h',H,E⟩:=wR x;obtain⟨n,p,A,y⟩:∃n,nA X w s fz v l a n h' (match ij X.T fz o with|true=>g++[h']|false=>g) k=some r∧((o.dst=none→n=e)∧∀t,o.dst=some t→n=(t,d)::e)∧(∀t,o.dst=some t→t<s):=by
   rcases E with⟨m,p⟩|⟨t,m,y,p⟩
   ·exact⟨e,p,⟨λ_=>rfl,(λt b=>by rw[m]at b;cases b)⟩,(λt b=>by rw[m]at b;cases b)⟩
   ·exact⟨_,p,⟨(λb=>by rw[m]at b;cases b),(λN j=>by rw[m]at j;injection j with j;subst j;rfl)⟩,(λN j=>by rw[m]at j;injection j with j;subst j;exact y)⟩
  obtain⟨c,f,u,K,B,L,M⟩:=JD a n h' _ k p;refine⟨λi=>match i with|0=>e|i+1=>c i,λi=>match i with|0=>h|i+1=>f i,λi=>match i with|0=>d|i+1=>u i,rfl,rfl,λi I z=>?_,?_⟩
  ·cases i with
   | zero =>
    simp at z;subst z;simp only[K,B];exact⟨H,A.1,λt b=>⟨y t b,A.2 t b⟩⟩
   |succ i=>exact L i I (by simpa using z)
  ·simp only[eP];rw[← M];have F:((List.range a.length).map Nat.succ).filter (eM X.T fz (o::a))=((List.range a.length).filter (eM X.T fz a)).map Nat.succ:=by
    rw[List.filter_map];congr 1
   have G:(g++((List.range (a.length+1)).filter (eM X.T fz (o::a))).map λi=>f i)=(match ij X.T fz o with|true=>g++[h']|false=>g)++((List.range a.length).filter (eM X.T fz a)).map λi=>f (i+1):=by
    have C:eM X.T fz (o::a) 0=ij X.T fz o:=rfl;rw[List.range_succ_eq_map,kO,F,C];by_cases q:ij X.T fz o=true
    ·rw[bE q,q];simp[B,sI,oo]
    ·rw[cH q];simp only[Bool.not_eq_true]at q;rw[q];simp[sI,oo]
   rw[← G]
def l5(c:Array Nat)(o:Oper):Nat:=o.after.foldl (λb a=>if Region.binds .any a then b ||| 2 ^ a.on ||| c.getD a.on 0 else b) 0
theorem Ld(b:Array Oper):Region.before b=b.toList.foldl (λa o=>a.push (l5 a o)) #[]:=by
 unfold Region.before l5;rw[← C1]
theorem Lc {c:Array Nat} {o:Oper} {j:Nat} (h:(l5 c o).testBit j=true):∃x∈o.after.toList,Region.binds .any x=true∧(x.on=j∨(c.getD x.on 0).testBit j=true):=by
 unfold l5 at h;rw[← C1]at h;have k:∀ (d:List Edge) (b:Nat),(d.foldl (λb e=>if Region.binds .any e then b ||| 2 ^ e.on ||| c.getD e.on 0 else b) b).testBit j=true→b.testBit j=true∨∃x∈d,Region.binds .any x=true∧(x.on=j∨(c.getD x.on 0).testBit j=true):=by
  intro d
  induction d with
  |nil=>intro b h;exact .inl h
  | cons x m i =>
   intro b h;rw[qV]at h;rcases i _ h with a|⟨l,g,a⟩
   ·split at a
    ·rename_i f;simp only[Nat.testBit_or,nG]at a;rcases a with(a|a)|a
     ·exact .inl a
     ·refine .inr ⟨x,iy ..,f,.inl ?_⟩;rw[Nat.testBit_two_pow]at a;simpa using a
     ·exact .inr ⟨x,iy ..,f,.inr a⟩
    ·exact .inl a
   ·exact .inr ⟨l,gy _ g,a⟩
 rcases k _ 0 h with a|a
 ·simp at a
 ·exact a
theorem GY:∀(l:List Oper) (a:Array Nat),(∀k,k<a.size→(l.foldl (λa o=>a.push (l5 a o)) a)[k]?=a[k]?)∧(l.foldl (λa o=>a.push (l5 a o)) a).size=a.size+l.length ∧
  ∀(i:Nat) (o:Oper),l[i]?=some o→∃b:Array Nat,b.size=a.size+i∧(∀k,k<b.size→(l.foldl (λa o=>a.push (l5 a o)) a)[k]?=b[k]?)∧(l.foldl (λa o=>a.push (l5 a o)) a)[a.size+i]?=some (l5 b o)
 |[],a=>⟨λ_ _=>rfl,by simp,λi o h=>by cases h⟩
 | p::l,a=>by
  obtain⟨d,h2,f⟩:=GY l (a.push (l5 a p));simp only[qV];simp only[Array.size_push]at d h2 f;refine⟨λk c=>?_,by rw[h2];simp;omega,λi o e=>?_⟩
  ·rw[d k (by omega),C2 c,nF c]
  ·cases i with
   | zero =>
    simp at e;subst e;refine⟨a,rfl,λk c=>?_,?_⟩
    ·rw[d k (by omega),C2 c,nF c]
    ·rw[ov,d _ (by omega)];simp
   | succ i =>
    obtain⟨b,m,g,j⟩:=f i o (by simpa using e);exact⟨b,by omega,g,by rw[← j];congr 1;omega⟩
theorem Lf{l:List Oper}{i j:Nat}{o:Oper}(k:l[i]?=some o)(h:jg (js l) i j=true):∃x∈o.after.toList,Region.binds .any x=true∧(x.on=j∨(x.on<i∧jg (js l) x.on j=true)):=by
 obtain⟨_,t,m⟩:=GY l #[];obtain⟨r,p,q,e⟩:=m i o k;simp only[kT,eJ,dF]at p e;have d:∀b:Nat,(js l).getD b 0=((l.foldl (λc o=>c.push (l5 c o)) #[])[b]?).getD 0:=λb=>by
  unfold js;rw[Ld];simp[qW]
 unfold jg at h ⊢;rw[d i,e]at h;obtain⟨x,n,f,a⟩:=Lc h;refine⟨x,n,f,?_⟩;rcases a with a|a
 ·exact .inl a
 ·rcases fm x.on i with g|s
  ·refine .inr ⟨g,?_⟩;rw[d x.on,q _ (by omega)]
   rwa [fg]at a
  ·rw[fg,Array.getElem?_eq_none (by omega)]at a;simp at a
theorem q7{l:List Oper}{S:Nat→Prop}(d:∀(i:Nat) (o:Oper),S i→l[i]?=some o→∀x∈o.after.toList,Region.binds .any x=true→S x.on):∀(n i j:Nat) (o:Oper),i<n→l[i]?=some o→(∀x∈o.after.toList,Region.binds .any x=true→S x.on)→(∀k,S k→∃p,l[k]?=some p)→jg (js l) i j=true→S j
 |0,i,j,o,m,_,_,_,_=>by omega
 | n+1,i,j,o,m,q,g,e,h=>by
  obtain⟨x,r,b,c⟩:=Lf q h;have a:=g x r b;rcases c with rfl|⟨u,c⟩
  ·exact a
  ·obtain⟨p,f⟩:=e _ a;exact q7 d n x.on j p (by omega) f (λt s b=>d x.on p a f t s b) e c
theorem yG{r:Nat}{l:List Oper}(n:po r l=true){i j:Nat}{o:Oper}(g:l[i]?=some o)(h:jg (js l) i j=true):j<i:=by
 have s:=(bO.1 g).1;have m:∀(a:Nat) (c:Oper),l[a]?=some c→∀b∈c.after.toList,Region.binds .any b=true→b.on<a:=λa c e b k f=>by
  simp only[po,eO]at n;have d:=(bO.1 e).1;have:=(gg.1 n.2) a (by simp[d]);have p:b.on∈kB l.toArray a:=by
   unfold kB;have q:l.toArray[a]?=some c:=by simpa using e
   rw[q];simp only[e8,gh];exact⟨b,⟨k,f⟩,rfl⟩
  exact eW ((gg.1 this) _ p)
 refine q7 (S:=λa=>a<i) (λa c d e b k f=>Nat.lt_trans (m a c e b k f) d) (i+1) i j o (by omega) g (m i o g) (λa d=>⟨_,cJ (show a<l.length by omega)⟩) h
end
end Go.Pi
namespace Go.Eng
abbrev jX:=@Nat.ble_eq_true_of_le
abbrev lu:=@List.filter_append
abbrev lX:=@List.mem_range
abbrev pT:=@List.range_succ
abbrev sF:=@List.filter_eq_self
abbrev u4:=@List.filter_congr
abbrev ve:=@Nat.lt_succ_self
end Go.Eng
namespace Go.Pi
open Go.Eng
theorem GL(p:Nat→Bool):∀(m i:Nat),i<m→p i=true→((List.range m).filter p)[((List.range i).filter p).length]?=some i
 |0,i,h,_=>by omega
 | m+1,i,h,hp=>by
  rw[pT,lu];rcases fm i m with a|b
  ·have:=GL p m i a hp;rw[eV (bO.1 this).1];exact this
  ·have:i=m:=by omega
   subst this;rw[hV (aX _),Nat.sub_self];simp[hp]
theorem vE(p:Nat→Bool):∀(m i:Nat),i≤m→(((List.range m).filter p).filter λw=>Nat.blt w i).length=((List.range i).filter p).length
 | 0,i,h=>by
  have:i=0:=by omega
  subst this;rfl
 | m+1,i,h=>by
  rw[pT,lu,lu,dL];rcases fm m i with g|e
  ·have:i=m+1:=by omega
   subst this;rw[pT,lu,dL];have d:∀(a:Nat),a≤m+1→((List.range a).filter p).filter (λw=>Nat.blt w (m+1))=(List.range a).filter p:=λa j=>by
    rw[sF];intro w b;have:=(gh.1 b).1;simp at this;exact jX (by omega)
   rw[d m (by omega)];congr 1;by_cases c:p m=true
   ·simp[c,Nat.blt]
   ·simp[c]
  ·rw[vE p m i e];have:(([m].filter p).filter λw=>Nat.blt w i)=[]:=by
    rw[u5];intro w b;have:=(gh.1 b).1;simp at this;subst this;intro f;have:=eW f;omega
   rw[this];rfl
theorem GK{p a:Nat→Bool}(l:List Nat)(h:∀x∈l,p x=true→a x=true):(l.filter p).length≤(l.filter a).length:=by
 induction l with
 |nil=>simp
 | cons x f d =>
  have:=d λe c=>h e (gy _ c)
  rw[kO,kO];by_cases hp:p x=true
  ·have b:=h x (iy ..) hp;rw[bE hp,bE b];simpa using this
  ·rw[cH hp];split
   ·simp;omega
   ·exact this
section
variable {P:Program} {X:Cx} {R:Type}
theorem FO{l:List Oper}{e:DE}{c:List J}:∀{ps:List (Nat × Nat)} {x:Option R} {r:R},l6 X l e c ps x=some r→(∀a∈ps,∃o,l[a.1]?=some o∧again X l o e (c.getD a.2 []))∧x=some r
 |[],x,r,h=>⟨by simp,h⟩
 | (i, k)::ps,x,r,h=>by
  simp only[l6]at h;split at h
  ·rename_i o g;unfold e7 at h;split at h
   ·rename_i f;obtain⟨d,h2⟩:=FO h;refine⟨λa b=>?_,h2⟩;rcases dW.1 b with rfl|b
    ·exact⟨o,g,f⟩
    ·exact d a b
   ·cases h
  ·cases h
theorem ID{call:dP}{fz fX:List Nat}{l:List Oper}{o:Oper}{e:DE}{h h':J}{d:D}(b:ij X.T fz o=false)(a:hP X call fz fX l o e h=some (d,h')):h'=h:=by
 unfold hP at a;unfold ij at b;split at a
 ·cases a
 have f:∀{i:Option D},(i.bind λd=>some (d,h))=some (d,h')→h'=h:=λ{i} j=>by
  obtain⟨k,_,g⟩:=iL.1 j;injection g with g;injection g with _ g;exact g.symm
 split at a
 ·split at a
  ·exact f a
  ·exact f a
  ·rename_i c;rw[c]at b;cases b
  ·rename_i c;rw[c]at b;cases b
  ·exact f a
 ·split at a
  ·cases a
  split at a
  ·cases a
  split at a
  ·exact f a
  ·exact f a
  ·rename_i c;rw[c]at b;cases b
  ·rename_i c;rw[c]at b;cases b
  ·cases a
theorem Gx{e e':DE}:∀{xs:List Operand},(∀t,.tmp t∈xs→dB e t=dB e' t)→k4 X e xs=k4 X e' xs
 |[],_=>rfl
 | x::r,h=>by
  have b:je X e x=je X e' x:=by
   cases x with
   |tmp t=>exact h t (iy ..)
   |const f=>rfl
   |global d=>rfl
   |func c=>rfl
  simp only[k4,b,Gx λt a=>h t (gy _ a)]
theorem TR{call:dP}{fz fX:List Nat}{l:List Oper}{o:Oper}{e e':DE}{h:J}(b:∀t,t∈looks l o→dB e t=dB e' t):hP X call fz fX l o e h=hP X call fz fX l o e' h:=by
 unfold hP;rw[Gx λt a=>b t (sJ _ (kR.2 ⟨.tmp t,a,rfl⟩))];cases k4 X e' o.op.operands.toList with
 |none=>rfl
 | some i =>
  simp only[];cases c:o.guard with
  |none=>rfl
  | some f =>
   obtain⟨d,g⟩:=f;simp only[];cases a:(l[d]?).bind (·.dst)with
   |none=>rfl
   | some t =>
    simp only[];rw[b t (by unfold looks;rw[c];exact List.mem_append_right _ (by simp[a]))]
theorem IC {call:dP} {fz fX:List Nat} {l:List Oper} {o:Oper} {e:DE} {h h' h2:J} {d:D} (b:ij X.T fz o=false) (a:hP X call fz fX l o e h=some (d,h')) (q:n3 X.T fz o=true→again X l o e h2∧∀t,o.dst=some t→dB e t=some d):hP X call fz fX l o e h2=some (d,h2):=by
 unfold hP at a ⊢;have n:∀{u:Option D},(u.bind λd=>some (d,h))=some (d,h')→(u.bind λd=>some (d,h2))=some (d,h2):=λ{u} x=>by
  obtain⟨G,y,j⟩:=iL.1 x;injection j with j;injection j with j _;subst j;rw[y];rfl
 have v:n3 X.T fz o=true→∃t,o.dst=some t:=λw=>by
  have:=(q w).1;unfold again at this;split at this
  ·rename_i t _ g;exact⟨t,g⟩
  ·exact this.elim
 cases k:k4 X e o.op.operands.toList with
 |none=>rw[k]at a;cases a
 | some E =>
  rw[k]at a;simp only[]at a ⊢;cases m:o.guard with
  | none =>
   rw[m]at a;simp only[]at a ⊢;cases c:fb X.T fz o with
   |pure=>rw[c]at a;exact n a
   | read =>
    have i:n3 X.T fz o=true:=by unfold n3;rw[c]
    obtain⟨t,g⟩:=v i;obtain⟨f,p⟩:=q i;unfold again at f;rw[k,g,m]at f;simp only[]at f ⊢;rw[f,p t g];rfl
   |write=>unfold ij at b;rw[c]at b;cases b
   |call=>unfold ij at b;rw[c]at b;cases b
   |gn=>rw[c]at a;exact n a
  | some A =>
   obtain⟨z,C⟩:=A;rw[m]at a;simp only[]at a ⊢;cases r:(l[z]?).bind (·.dst)with
   |none=>rw[r]at a;cases a
   | some B =>
    rw[r]at a;simp only[]at a ⊢;cases s:dB e B with
    |none=>rw[s]at a;cases a
    | some F =>
     rw[s]at a;simp only[]at a ⊢;cases c:fb X.T fz o with
     |pure=>rw[c]at a;exact n a
     | read =>
      have i:n3 X.T fz o=true:=by unfold n3;rw[c]
      obtain⟨t,g⟩:=v i;obtain⟨f,p⟩:=q i;unfold again at f;rw[k,g,m]at f;simp only[r,s]at f ⊢;rw[f,p t g];rfl
     |write=>unfold ij at b;rw[c]at b;cases b
     |call=>unfold ij at b;rw[c]at b;cases b
     |gn=>rw[c]at a;cases a
structure Tr (X:Cx) (call:dP) (nt:Nat) (fz fX:List Nat) (l:List Oper) (m:Nat) (e:DE) (h:J) (en:Nat→DE) (hp:Nat→J) (va:Nat→D) (HK:Nat→J):Prop where
 e0:en 0=e
 mM:m≤fc l
 Ml:fc l≤l.length
 qy:po nt l=true
 tail:CK (fc l) l=true
 step:∀(i:Nat) (o:Oper),i<m→l[i]?=some o→hP X call fz fX l o (en i) (hp i)=some (va i,hp (i+1))∧(o.dst=none→en (i+1)=en i)∧(∀t,o.dst=some t→t<nt∧en (i+1)=(t,va i)::en i)
 H3:∀(i j:Nat) (o p:Oper) (t:Nat),i<fc l→j<m→l[i]?=some o→l[j]?=some p→t∈looks l o→p.dst=some t→jg (js l) i j=true
 G7:HK 0=h
 Ra:hp 0=h
 Q9:∀(i:Nat) (o:Oper),i<m→l[i]?=some o→ij X.T fz o=true→HK (((List.range i).filter (eM X.T fz l)).length+1)=hp (i+1)
 chain:∀(i j:Nat) (o p:Oper),i<j→j<m→l[i]?=some o→l[j]?=some p→ij X.T fz o=true→ij X.T fz p=true→jg (js l) j i=true
 Wz:∀(i k:Nat) (o:Oper),(i,k)∈xn X.T fz m l→l[i]?=some o→again X l o (en m) (HK k)
 late:m=fc l∨tU X.T fz m l=true
theorem MA{call:dP}{nt:Nat}{fz fX:List Nat}{m:Nat}{l:List Oper}{e:DE}{h:J}{u:DE→J→Option R}{r:R}(k:mV X call nt fz fX m l e h u=some r):
  ∃en hp va HK,Tr X call nt fz fX l m e h en hp va HK∧(kG X fz (l.take m) (en m) (hp m) λe h=>iv X call nt fz fX l (l.drop m) e h u)=some r:=by
 unfold mV at k;split at k
 ·cases k
 rename_i q;unfold F9 at q;simp only[eO]at q;obtain⟨⟨⟨⟨⟨⟨n,j⟩,L⟩,N⟩,I⟩,B⟩,G⟩:=q;have n:=eW n;have j:=eW j;have ah:m≤l.length:=hX n j;obtain⟨en,hp,va,ac,ad,ae,z⟩:=JD _ e h [h] _ k;have H:(l.take m).length=m:=by simp;omega
 rw[H]at z;obtain⟨w,F⟩:=FO z;have x:∀a,a<m→(l.take m)[a]?=l[a]?:=λa b=>by rw[fF,bE b]
 have A:(List.range m).filter (eM X.T fz (l.take m))=(List.range m).filter (eM X.T fz l):=by
  apply u4;intro a b;simp at b;unfold eM;rw[x a b]
 rw[A]at w;refine⟨en,hp,va,λt=>(h::((List.range m).filter (eM X.T fz l)).map λa=>hp (a+1)).getD t [],⟨ac,n,j,L,N,λa g b c=>ae a g (by rw[x a b];exact c),λa f g ab af b y c s M K=>?_,by simp,ad,λa g b c P=>?_,λa f g ab ag y c s Q aa=>?_,λa t g D c=>?_,by simpa using G⟩,F⟩
 ·have i:=(gg.1 I) a (by simp[b]);rw[c]at i;have o:=(gg.1 i) af M;have p:=(gg.1 o) f (by simp[y]);rw[s]at p;simp only[K]at p;simpa using p
 ·have:=GL (eM X.T fz l) m a b (by unfold eM;rw[c];exact P);simp only[List.getD_cons_succ];rw[qW,dH,this];rfl
 ·have C:a∈(List.range m).filter (eM X.T fz l):=gh.2 ⟨by simp;omega,by unfold eM;rw[c];exact Q⟩;have E:f∈(List.range m).filter (eM X.T fz l):=gh.2 ⟨by simp;omega,by unfold eM;rw[s];exact aa⟩;have i:=(gg.1 B) f E;have o:=(gg.1 i) a C;have:Nat.blt a f=true:=jX (by omega);simpa[this]using o
 ·obtain⟨ai,d,v⟩:=w (a,t) D;simp only at d v;rw[c]at d;injection d with d;subst d;simpa using v
section tr
variable {call:dP} {nt:Nat} {fz fX:List Nat} {l:List Oper} {m:Nat} {e:DE} {h:J} {en:Nat→DE} {hp:Nat→J} {va:Nat→D} {HK:Nat→J} (tr:Tr X call nt fz fX l m e h en hp va HK)
include tr
theorem Tr.ml:m≤l.length:=hX tr.mM tr.Ml
theorem Tr.look(i j:Nat)(o p:Oper)(t:Nat)(hi:i<m)(b:j<m)(c:l[i]?=some o)(hp:l[j]?=some p)(d:t∈looks l o)(a:p.dst=some t):jg (js l) i j=true:=tr.H3 i j o p t (jq hi tr.mM) b c hp d a
theorem Tr.get{i:Nat}(hi:i<m):∃o,l[i]?=some o:=⟨_,cJ (jq hi tr.ml)⟩
theorem Tr.bH{t:Nat}:∀(i j:Nat),i≤j→j≤m→(∀a o,i≤a→a<j→l[a]?=some o→o.dst≠some t)→dB (en j) t=dB (en i) t
 | i,0,n,p,_=>by
  have:i=0:=by omega
  subst this;rfl
 | i,j+1,n,p,f=>by
  rcases fm j i with r|e
  ·have:i=j+1:=by omega
   subst this;rfl
  ·obtain⟨o,g⟩:=tr.get (i:=j) (by omega);obtain⟨_,b,d⟩:=tr.step j o (by omega) g;have h:=Tr.bH i j e (by omega) λa o b d=>f a o b (by omega)
   cases c:o.dst with
   |none=>rw[b c];exact h
   | some q =>
    rw[(d q c).2,jw,cH]
    ·exact h
    ·intro k;exact f j o e (by omega) g (by rw[c,k])
theorem Tr.oN{i j:Nat}{o p:Oper}{t:Nat}(b:l[i]?=some o)(c:l[j]?=some p)(a:o.dst=some t)(h2:p.dst=some t):i=j:=by
 have:=tr.qy;simp only[po,eO]at this;exact F6 this.1.1 b c a h2
theorem Tr.val{i:Nat}{o:Oper}{t:Nat}(hi:i<m)(b:l[i]?=some o)(a:o.dst=some t){j:Nat}(c:i<j)(d:j≤m):dB (en j) t=some (va i):=by
 have:=tr.bH (t:=t) (i+1) j c d λn k g h f e=>by
  have:=tr.oN b f a e;omega
 rw[this,((tr.step i o hi b).2.2 t a).2,jw,bE rfl]
theorem Tr.Si{i:Nat}{o:Oper}(hi:i<m)(a:l[i]?=some o){t:Nat}(e:t∈looks l o):dB (en m) t=dB (en i) t:=
 tr.bH i m (by omega) (aX _) λg f h b d c=>by
  have:=yG tr.qy a (tr.look i g o f t hi b a d e c);omega
theorem Tr.tM:∀(i:Nat),i≤m→HK ((List.range i).filter (eM X.T fz l)).length=hp i
 |0,_=>by simp[tr.G7,tr.Ra]
 | i+1,hi=>by
  obtain⟨o,a⟩:=tr.get (i:=i) (by omega);have d:=Tr.tM i (by omega);rw[pT,lu,dL];cases b:ij X.T fz o with
  | true =>
   have c:eM X.T fz l i=true:=by unfold eM;rw[a];exact b
   have:=tr.Q9 i o (by omega) a b;simpa[c]using this
  | false =>
   have c:eM X.T fz l i=false:=by unfold eM;rw[a];exact b
   have:=ID b (tr.step i o (by omega) a).1;rw[this];simpa[c]using d
structure mE (P:Program) (X:Cx) (nt:Nat) (fz:List Nat) (l:List Oper) (m:Nat) (e:DE) (va:Nat→D) (HK:Nat→J) (g0:Gh) (L:Array Bool) (c:Nat) (a:Act) (g:Gh):Prop where
 size:a.tmps.size=nt
 defers:a.defers=[]
 jF:L.size=l.length
 cl:∀(i:Nat) (o:Oper),L[i]?=some true→l[i]?=some o→∀x∈o.after.toList,Region.binds .any x=true→L[x.on]?=some true
 main:∀i,L[i]?=some true→i<m
 nO:((List.range m).filter λi=>L.getD i false).length=c
 ext:cE g0 g
 inv:Inv g (HK (((List.range m).filter (eM X.T fz l)).filter λi=>L.getD i false).length)
 base:∀t d,t∉fL (l.take m)→dB e t=some d→aM g (a.tmps.getD t undef) d
 done:∀(i:Nat) (o:Oper) (t:Nat),L[i]?=some true→l[i]?=some o→o.dst=some t→aM g (a.tmps.getD t undef) (va i)
 B2:∀(i:Nat) (o:Oper) (t:Nat),L[i]?=some true→l[i]?=some o→fb X.T fz o = .gn→o.dst=some t→mN X.T g0 g o (a.tmps.getD t undef)
 F4:∀(i j:Nat) (o p:Oper) (t u:Nat),L[i]?=some true→L[j]?=some true→l[i]?=some o→l[j]?=some p→fb X.T fz o = .gn→fb X.T fz p = .gn→o.dst=some t→p.dst=some u→i≠j→a.tmps.getD t undef≠a.tmps.getD u undef
theorem mE.step(bq:dO P X.T)(br:hQ P X call){an:Gh}(bu:fP an X.gl){f:Array Bool}{c:Nat}{a:Act}{g:Gh}(q:mE P X nt fz l m e va HK an f c a g){i:Nat}{o:Oper}(hi:i<m)(s:l[i]?=some o)(aq:f[i]?=some false)
  (bd:∀x∈o.after.toList,Region.binds .any x=true→f[x.on]?=some true) {Q:Exit→Act→World→Prop} {next:Act→World→Prop}
  (bz:∀a0 g',mE P X nt fz l m e va HK an (f.setIfInBounds i true) (c+1) a0 g'→next a0 g'.w):q6 P l.toArray Q o a g next:=by
 have a7:i<f.size:=by rw[q.jF];exact jq hi tr.ml
 have O:∀d,f.getD d false=true↔f[d]?=some true:=λd=>by
  rw[fg];cases f[d]? with
  |none=>simp
  |some bl=>simp
 have a1:f.getD i false=false:=by rw[fg,aq];rfl
 have a5:∀K,f[K]?=some true→∃j,l[K]?=some j:=λK C=>tr.get (q.main K C)
 have al:∀I,jg (js l) i I=true→f[I]?=some true:=λI G=>q7 (S:=λK=>f[K]?=some true) q.cl (i+1) i I o (by omega) s bd a5 G
 have bi:∀b j,l[b]?=some j→f[b]?=some true→jg (js l) b i=false:=λb j E ar=>by
  cases n:jg (js l) b i with
  |false=>rfl
  | true =>
   exfalso;have:=q7 (S:=λK=>f[K]?=some true) q.cl (b+1) b i j (by omega) E (q.cl b j ar E) a5 n;rw[aq]at this;cases this
 obtain⟨aa,cb,a4⟩:=tr.step i o hi s;have b4:∀t B,t∈looks l o→dB (en i) t=some B→aM g (a.tmps.getD t undef) B:=λt B w F=>by
  by_cases af:t∈fL (l.take m)
  ·unfold fL at af;rw[kR]at af;obtain⟨j,b1,A⟩:=af;obtain⟨I,G⟩:=lv b1;rw[fF]at G;split at G
   ·rename_i ba;have n:=tr.look i I o j t hi ba s G w A;have bw:=yG tr.qy s n;have ak:=tr.val ba G A bw (Nat.le_of_lt hi);rw[F]at ak;injection ak with ak;rw[ak];exact q.done I j t (al I n) G A
   ·cases G
  ·have:=tr.bH (t:=t) 0 i (jr _) (by omega) λd j k u r D=>af (by
     unfold fL;rw[kR];exact⟨j,eS (by rw[fF,bE (show d<m by omega)];exact r),D⟩)
   rw[this,tr.e0]at F;exact q.base t B af F
 have av:∀b,b∈(List.range m).filter (eM X.T fz l)↔b<m∧eM X.T fz l b=true:=λb=>by simp[gh]
 obtain ⟨ao,b3,bn⟩:∃ao,hP X call fz fX l o (en i) (HK (((List.range m).filter (eM X.T fz l)).filter λb=>f.getD b false).length)=some (va i,ao)∧ao=HK (((List.range m).filter (eM X.T fz l)).filter λb=>(f.setIfInBounds i true).getD b false).length:=by
  have bk:∀b,(f.setIfInBounds i true).getD b false=(f.getD b false||Nat.beq b i):=λb=>by
   by_cases N:i=b
   ·subst N;rw[fg,uI a7];simp
   ·rw[fg,lR N,← fg];have:Nat.beq b i=false:=by
     cases n:Nat.beq b i with
     |false=>rfl
     |true=>exact absurd (ib n).symm N
    rw[this,Bool.or_false]
  cases E:ij X.T fz o with
  | true =>
   have N:eM X.T fz l i=true:=by unfold eM;rw[s];exact E
   have a8:∀b,b∈(List.range m).filter (eM X.T fz l)→(f.getD b false=Nat.blt b i):=λb H=>by
    obtain⟨k,u⟩:=(av b).1 H;obtain⟨j,h⟩:=tr.get k;have bg:ij X.T fz j=true:=by unfold eM at u;rw[h]at u;exact u
    rcases lY b i with R|heq|a6
    ·have:=al b (tr.chain b i j o R hi h s bg E);rw[(O b).2 this];exact(jX (by omega)).symm
    ·subst heq;rw[a1];cases n:Nat.blt b b with
     |false=>rfl
     |true=>have:=eW n;omega
    ·have a3:=tr.chain i b o j a6 k s h E bg;cases bo:f.getD b false with
     | false =>
      cases n:Nat.blt b i with
      |false=>rfl
      |true=>have:=eW n;omega
     | true =>
      have:=bi b j h ((O b).1 bo);rw[this]at a3;cases a3
   have am:(((List.range m).filter (eM X.T fz l)).filter λb=>f.getD b false)=(((List.range m).filter (eM X.T fz l)).filter λb=>Nat.blt b i):=u4 a8;have ab:(((List.range m).filter (eM X.T fz l)).filter λb=>(f.setIfInBounds i true).getD b false)=(((List.range m).filter (eM X.T fz l)).filter λb=>Nat.blt b (i+1)):=u4 λb H=>by
    rw[bk,a8 b H];rcases lY b i with R|heq|a6
    ·have k:Nat.blt b i=true:=jX (by omega);have u:Nat.blt b (i+1)=true:=jX (by omega);rw[k,u];rfl
    ·subst heq;have u:Nat.blt b (b+1)=true:=jX (by omega);rw[u];simp
    ·have k:Nat.blt b i=false:=by
       cases n:Nat.blt b i with
       |false=>rfl
       |true=>have:=eW n;omega
     have u:Nat.blt b (i+1)=false:=by
      cases n:Nat.blt b (i+1)with
      |false=>rfl
      |true=>have:=eW n;omega
     have ap:Nat.beq b i=false:=by
      cases n:Nat.beq b i with
      |false=>rfl
      |true=>have:=ib n;omega
     rw[k,u,ap];rfl
   rw[am,ab,vE _ m i (by omega),vE _ m (i+1) (by omega),tr.tM i (by omega),tr.tM (i+1) (by omega)];exact⟨_,aa,rfl⟩
  | false =>
   have N:eM X.T fz l i=false:=by unfold eM;rw[s];exact E
   have ab:(((List.range m).filter (eM X.T fz l)).filter λb=>(f.setIfInBounds i true).getD b false)=(((List.range m).filter (eM X.T fz l)).filter λb=>f.getD b false):=u4 λb H=>by
    rw[bk];have:Nat.beq b i=false:=by
     cases n:Nat.beq b i with
     |false=>rfl
     | true =>
      have:=ib n;subst this;rw[((av b).1 H).2]at N;cases N
    rw[this,Bool.or_false]
   rw[ab];refine⟨_,?_,rfl⟩;have bt:∀u,hP X call fz fX l o (en i) u=hP X call fz fX l o (en m) u:=λu=>TR λt w=>(tr.Si hi s w).symm
   rw[bt]at aa ⊢;by_cases bb:(((List.range m).filter (eM X.T fz l)).filter λb=>f.getD b false).length=((List.range i).filter (eM X.T fz l)).length
   ·rw[bb,tr.tM i (by omega)];have:=ID E aa;rw[this]at aa;exact aa
   ·refine IC E aa λbp=>⟨tr.Wz i _ o ?_ s,λt w=>tr.val hi s w (by omega) (aX _)⟩
    unfold xn;rw[List.mem_flatMap];refine⟨i,by simp[hi],?_⟩;rw[s];simp only[bp];rw[e8];refine⟨_,gh.2 ⟨lX.2 (Nat.lt_succ_of_le (GK _ λb H ar=>?_)),?_⟩,rfl⟩
    ·obtain⟨j,h⟩:=tr.get ((av b).1 H).1;rw[bi b j h ((O b).1 ar)];rfl
    ·simp only[eO,lr];refine⟨jX (GK _ λb H n=>(O b).2 (al b n)),?_⟩;have b0:(((List.range m).filter (eM X.T fz l)).filter λb=>Nat.blt b i).length=((List.range i).filter (eM X.T fz l)).length:=vE _ m i (by omega);rw[b0];cases n:Nat.beq _ _ with
     |false=>rfl
     |true=>exact absurd (ib n) bb
 refine uj bq br b3 q.inv (bu.ext q.ext) b4 λg' L ai bv b2 D=>bz _ g' ?_
 have M:∀d,(f.setIfInBounds i true)[d]?=some true→d=i∨f[d]?=some true:=λd r=>by
  by_cases v:i=d
  ·exact .inl v.symm
  ·rw[lR v]at r;exact .inr r
 have a2:∀d,f[d]?=some true→(f.setIfInBounds i true)[d]?=some true:=λd r=>by
  by_cases v:i=d
  ·subst v;rw[aq]at r;cases r
  ·rw[lR v];exact r
 have aj:∀t,o.dst≠some t→(a.put o.dst L).tmps.getD t undef=a.tmps.getD t undef:=λt w=>by
  cases ac:o.dst with
  |none=>rfl
  | some y =>
   have az:y≠t:=λp=>w (by rw[ac,p])
   simp only[Act.put,fg];rw[lR az]
 have ax:∀t,o.dst=some t→(a.put o.dst L).tmps.getD t undef=L:=λt w=>by
  have R:=(a4 t w).1;rw[w];simp[Act.put,Array.getD,q.size,R]
 have bf:∀(d:Nat) (j:Oper) (y:Nat),f[d]?=some true→l[d]?=some j→fb X.T fz j = .gn→j.dst=some y→fb X.T fz o = .gn→L≠a.tmps.getD y undef:=λd j y r h C ae bx p=>by
  obtain⟨_,_,bl,_,_,_,bm,ca,_,_⟩:=D bx;obtain⟨_,_,b9,_,_,_,b6,_,b7,_⟩:=q.B2 d j y r h C ae;rw[bm,b6]at p;injection p with p;injection p with p;injection p with p;have:=b7.1;omega
 have be:∀t,o.dst≠some t→∀B,aM g (a.tmps.getD t undef) B→aM g' ((a.put o.dst L).tmps.getD t undef) B:=λt w B F=>by
  cases ac:o.dst with
  |none=>exact F.ext ai
  | some y =>
   have az:y≠t:=λp=>w (by rw[ac,p])
   have:(a.put (some y) L).tmps.getD t undef=a.tmps.getD t undef:=by
    simp only[Act.put,fg];rw[lR az]
   rw[this];exact F.ext ai
 refine⟨by cases ac:o.dst<;>simp[Act.put,q.size],by cases ac:o.dst<;>simp[Act.put,q.defers],by simp[q.jF],λd j r h x bh n=>?_,λd r=>?_,?_,q.ext.trans ai,by rw[← bn];exact bv,λt B w F=>?_,λd j t r h D=>?_,λd j t r h C ae=>?_,λd ag j bj t y r bc h A C au ah ad aw=>?_⟩
 ·rcases M d r with rfl|r
  ·rw[s]at h;injection h with h;subst h;exact a2 _ (bd x bh n)
  ·exact a2 _ (q.cl d j r h x bh n)
 ·rcases M d r with rfl|r
  ·exact hi
  ·exact q.main d r
 ·have b8:∀(z:Nat),((List.range z).filter λd=>(f.setIfInBounds i true).getD d false).length=((List.range z).filter λd=>f.getD d false).length+(if i<z then 1 else 0):=by
    intro z
    induction z with
    |zero=>simp
    | succ z b5 =>
     rw[pT,lu,lu,dL,dL,b5];by_cases a9:i=z
     ·subst a9;have k:(f.setIfInBounds i true).getD i false=true:=by
       rw[fg,uI a7];rfl
      have am:([i].filter λd=>(f.setIfInBounds i true).getD d false)=[i]:=by rw[kO,k];rfl
      have ab:([i].filter λd=>f.getD d false)=[]:=by rw[kO,a1];rfl
      rw[am,ab,cH (Nat.lt_irrefl _),bE (ve _)];simp
     ·have k:(f.setIfInBounds i true).getD z false=f.getD z false:=by
        rw[fg,lR a9,← fg]
      have u:(i<z+1)↔(i<z):=by omega
      simp only[u];have ap:([z].filter λd=>(f.setIfInBounds i true).getD d false)=([z].filter λd=>f.getD d false):=by
       rw[kO,kO,k];rfl
      rw[ap];omega
  rw[b8 m,bE hi,q.nO]
 ·refine be t (λp=>w ?_) B (q.base t B w F);unfold fL;rw[kR];exact⟨o,eS (by rw[fF,bE hi];exact s),p⟩
 ·by_cases v:d=i
  ·subst v;rw[s]at h;injection h with h;subst h;have R:=(a4 t D).1;rw[D];have:(a.put (some t) L).tmps.getD t undef=L:=by simp[Act.put,Array.getD,q.size,R]
   rw[this];exact b2
  ·rcases M d r with k|k
   ·exact absurd k v
   ·exact be t (λp=>v (tr.oN h s D p)) _ (q.done d j t k h D)
 ·by_cases v:d=i
  ·subst v;rw[s]at h;injection h with h;subst h;rw[ax t ae];exact(D C).TQ q.ext.size
  ·rcases M d r with k|k
   ·exact absurd k v
   ·rw[aj t λp=>v (tr.oN h s ae p)];exact(q.B2 d j t k h C ae).ext ai
 ·by_cases v:d=i
  ·subst v;rw[s]at h;injection h with h;subst h;rcases M ag bc with k|k
   ·exact absurd k.symm aw
   ·rw[ax t ah,aj y λp=>aw (tr.oN s A p ad)];exact bf ag bj y k A au ad C
  ·rcases M d r with k|k
   ·exact absurd k v
   ·rw [aj t λp=>v (tr.oN h s ah p)];by_cases ay:ag=i
    ·subst ay;rw[s]at A;injection A with A;subst A;rw[ax y ad];exact λp=>bf d j t k h C ah au p.symm
    ·rcases M ag bc with u|u
     ·exact absurd u ay
     ·rw[aj y λp=>ay (tr.oN A s ad p)];exact q.F4 d ag j bj t y k u h A C au ah ad aw
end tr
end
end Go.Pi
