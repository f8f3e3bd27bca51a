/- Part 3 of the texts that the theorem needs: an interpreter on data, proved sound; the functions on data; laws about them. -/
import Derived.Test.YtinlnkhheafjaaaM2
import Derived.Lib.Bytealg
import Derived.Laws.Externs
import Derived.Test.YtinlnkhheafjaaaM1
import Derived.ProofKit
import Derived.OpenShut
import Derived.Below
import Derived.Deep.Slices
import Derived.Maps.RangeWalk
import Derived.Test.YtinlnkhheafjaaaChecked
import Derived.KernelRfl
set_option linter.unusedSimpArgs false
set_option linter.unusedVariables false
set_option linter.unnecessarySimpa false
set_option maxHeartbeats 2000000
set_option maxRecDepth 100000
namespace Go.Eng
abbrev h7:=@Classical.choose_spec
end Go.Eng
namespace Go.Pi
open Go.Eng
noncomputable def dH(X:Cx)(F:FuncId→Option dW):Nat→bC
 |0,_,_,_=>none
 | n+1,a,args,h=>match F a with
  |some b=>hS X (dH X F n) (eF n) b args h
  |none=>X.xt a args h
section
variable {P:Program} {X:Cx} {F:FuncId→Option dW}
theorem Bg(n:Nat):ks (eF n):=λ_ _ _ _ a=>⟨n,a⟩
theorem ts(f:aZ P X.T)(j:P.follows .mixedOrders=true)(k:eH P X X.xt)(e:∀a c,F a=some c→cN P a c):∀n,eH P X (dH X F n)
 |0=>λa args h d h' b=>by cases b
 | n+1=>λa args h d h' b=>by
  simp only[dH]at b;split at b
  ·rename_i c i;exact λg vs hi l m =>.inl ⟨(e a c i).enter _ _,zL f j (ts f j k e n) (Bg n) (e a c i) b hi l m⟩
  ·exact k a args h d h' b
def Le{b:Type}(x y:Option b):Prop:=∀a,x=some a→y=some a
theorem Le.refl{b:Type}(x:Option b):Le x x:=λ_ a=>a
theorem Le.trans{c:Type}{x y z:Option c}(h:Le x y)(k:Le y z):Le x z:=λa b=>k a (h a b)
theorem Le.bind{c j:Type}{x y:Option c}{b g:c→Option j}(h:Le x y)(k:∀a,Le (b a) (g a)):Le (x.bind b) (y.bind g):=λi f=>by
 obtain⟨a,d,e⟩:=ff.1 f;rw[h a d];exact k a i e
def gG(c d:bC):Prop:=∀a args b,Le (c a args b) (d a args b)
def m6(l e:gi):Prop:=∀(c d:List D→Y→Option cS),(∀a b,Le (c a b) (d a b))→∀a b,Le (l c a b) (e d a b)
theorem xL{c b:bC}(e:gG c b)(d:FuncId)(args:List D)(h:Y):Le (hN c d args h) (hN b d args h):=λj a=>by
 unfold hN at a ⊢;split at a
 ·rename_i g i f;rw[e _ _ _ _ f];exact a
 ·cases a
theorem xT{c b:bC}(a:gG c b)(e:Nat)(d:FuncId)(args:List D)(h:Y):Le (calls e c d args h) (calls e b d args h):=by
 unfold calls;split
 ·exact a _ _ _
 ·exact xL a _ _ _
 ·exact a _ _ _
theorem xO{T:aM}{c a:bC}(b:gG c a)(m:String)(ds:List D)(h:Y):Le (eU T c m ds h) (eU T a m ds h):=by
 unfold eU;split
 ·split
  ·exact b _ _ _
  ·exact Le.refl _
 ·exact Le.refl _
theorem tt{T:aM}{c a:bC}(b:gG c a)(d:Nat)(o:Op)(ds:List D)(h:Y):Le (gN T c d o ds h) (gN T a d o ds h):=by
 unfold gN;simp only[qd];split
 ·split
  ·split
   ·exact xT b _ _ _ _
   ·exact Le.refl _
  ·exact xO b _ _ _
  ·exact Le.refl _
 ·exact Le.refl _
theorem zY{g:D}{b:Bool}{h:Y}{x y:Option (D × Y)}(c:Le x y):Le (fc g b h x) (fc g b h y):=λd a=>by
 unfold fc at a ⊢;split at a
 ·split at a
  ·exact c d a
  ·exact a
 ·exact a
 ·cases a
theorem Cw{c b:bC}(e:gG c b){V a:List Nat}{l:List Oper}{o:Oper}{d:DE}{h:Y}:Le (eO X c V a l o d h) (eO X b V a l o d h):=by
 unfold eO;split
 ·exact Le.refl _
 ·split
  ·split
   ·exact Le.refl _
   ·exact Le.refl _
   ·exact Le.refl _
   ·exact tt e _ _ _ _
   ·exact Le.refl _
  ·split
   ·exact Le.refl _
   ·split
    ·exact Le.refl _
    ·split
     ·exact Le.refl _
     ·exact Le.refl _
     ·exact Le.refl _
     ·exact zY (tt e _ _ _ _)
     ·exact Le.refl _
theorem vP{R:Type}{f:Nat}{dst:Option Nat}{d:D}{a:DE}{h:Y}{b c:DE→Y→Option R}(e:∀a h,Le (b a h) (c a h)):Le (fe f dst d a h b) (fe f dst d a h c):=by
 unfold fe;split
 ·exact e _ _
 ·split
  ·exact e _ _
  ·exact Le.refl _
theorem qW{R:Type}{c f:bC}(j:gG c f){g:Nat}{V e:List Nat}{l:List Oper}{o:Oper}{a:DE}{h:Y}{b d:DE→Y→Option R}(i:∀a h,Le (b a h) (d a h)):Le (gZ X c g V e l o a h b) (gZ X f g V e l o a h d):=by
 rw[ot,ot];exact(Cw j).bind λk=>vP i
theorem oC{R:Type}{c i:bC}(f:gG c i){j:Nat}{V g:List Nat}{l:List Oper}:∀{k:List Oper} {a:DE} {h:Y} {d e:DE→Y→Option R},(∀a h,Le (d a h) (e a h))→Le (eX X c j V g l k a h d) (eX X i j V g l k a h e)
 |[],a,h,d,e,b=>b a h
 |[o],a,h,d,e,b=>qW f b
 | o::p::r,a,h,d,e,b=>by
  simp only[eX];split
  ·split
   ·exact(Le.refl _).bind λm=>vP λa h=>oC f b
   ·exact Le.refl _
  ·exact qW f λa h=>oC f b
theorem wh{R:Type}{c i:bC}(j:gG c i){k:Nat}{V g:List Nat}{l:List Oper}:∀{m:List Oper} {a:DE} {h:Y} {b:List Y} {d e:DE→Y→List Y→Option R},(∀a h b,Le (d a h b) (e a h b))→Le (iG X c k V g l m a h b d) (iG X i k V g l m a h b e)
 |[],a,h,b,d,e,f=>f a h b
 |o::r,a,h,b,d,e,f=>qW j λa h=>wh j f
theorem tw{R:Type}{l:List Oper}{b:DE}{c:List Y}{x y:Option R}(h:Le x y):∀{ps:List (Nat × Nat)},Le (hO X l b c ps x) (hO X l b c ps y)
 |[]=>h
 | (i, k)::r=>λz a=>by
  simp only[hO]at a ⊢;split at a
  ·unfold cZ at a ⊢;split at a
   ·rename_i d;rw[bB d];exact tw h z a
   ·cases a
  ·cases a
theorem re{R:Type}{V:List Nat}:∀{e:List Oper} {a:DE} {h:Y} {b c:DE→Y→Option R},(∀a h,Le (b a h) (c a h))→Le (gD X V e a h b) (gD X V e a h c)
 |[],a,h,b,c,d=>d a h
 | o::r,a,h,b,c,d=>by
  unfold gD;split
  ·split
   ·exact re d
   ·exact Le.refl _
  ·exact re d
theorem yy{R:Type}{c f:bC}(g:gG c f){i:Nat}{V e:List Nat}{m:Nat}{l:List Oper}{a:DE}{h:Y}{b d:DE→Y→Option R}(j:∀a h,Le (b a h) (d a h)):Le (iA X c i V e m l a h b) (iA X f i V e m l a h d):=by
 unfold iA;split
 ·exact Le.refl _
 ·exact wh g λa h k=>tw (re λa h=>oC g j)
theorem tI{R:Type}{d:D}{x a y b:Option R}(c:Le x a)(e:Le y b):Le (bG d x y) (bG d a b):=by
 unfold bG;split
 ·exact c
 ·exact e
 ·exact Le.refl _
theorem xJ{c m:bC}(n:gG c m){o p:gi}(t:m6 o p){l:jI}:∀(k:Code) {b:DE} {h:Y} {R:Type} {d e:Ex→DE→Y→Option R},(∀x b h,Le (d x b h) (e x b h))→Le (cK X c o l k b h R d) (cK X m p l k b h R e):=by
 intro k
 induction k with
 |skip=>intro b h R d e a;exact a _ _ _
 |label v=>intro b h R d e a;exact a _ _ _
 |ret=>intro b h R d e a;exact a _ _ _
 |exit u=>intro b h R d e a;exact a _ _ _
 |goto v=>intro b h R d e a;exact Le.refl _
 |scope f g=>intro b h R d e a;exact Le.refl _
 |refuse F=>intro b h R d e a;exact Le.refl _
 |rangeFunc z D w f A B=>intro b h R d e a;exact Le.refl _
 | region id C s =>
  intro b h R d e a;simp only[cK];cases s with
  |false=>exact oC n λb h=>a _ _ _
  |true=>exact yy n λb h=>a _ _ _
 | seq r f i j =>
  intro b h R d e a;simp only[cK];refine i λx b h=>?_
  cases x with
  |aS=>exact j a
  |ext u=>exact a _ _ _
  |ret=>exact a _ _ _
 | cond E r f i j =>
  intro b h R d e a;simp only[cK];split
  ·exact Le.refl _
  ·split
   ·exact(tI (i λ_ _ _=>Le.refl _) (j λ_ _ _=>Le.refl _)).bind λq=>a _ _ _
   ·exact tI (i a) (j a)
 | block id f g =>
  intro b h R d e a;simp only[cK];split
  ·exact(g λ_ _ _=>Le.refl _).bind λq=>a _ _ _
  ·exact g λx b h=>a _ _ _
 | loop f g =>
  intro b h R d e a;simp only[cK];exact(t _ _ (λy h=>g λ_ _ _=>Le.refl _) _ _).bind λq=>a _ _ _
theorem mm:∀{n m:Nat},n≤m→m6 (eF n) (eF m)
 |0,m,_=>λb c a ds h r e=>by cases e
 |n+1,0,h=>by omega
 | n+1,m+1,h=>λb c a ds d=>by
  simp only[eF];refine(a ds d).bind λr=>?_
  split
  ·exact mm (by omega) b c a _ _
  ·exact Le.refl _
theorem uw{c a:bC}(f:gG c a){d e:gi}(g:m6 d e){b:dW}{args:List D}{h:Y}:Le (hS X c d b args h) (hS X a e b args h):=by
 unfold hS;split
 ·exact xJ f g _ λ_ _ _=>Le.refl _
 ·exact Le.refl _
theorem nw:∀{n m:Nat},n≤m→gG (dH X F n) (dH X F m)
 |0,m,_=>λa args h r b=>by cases b
 |n+1,0,h=>by omega
 | n+1,m+1,h=>λa args c=>by
  simp only[dH];split
  ·exact uw (nw (by omega)) (mm (by omega))
  ·exact Le.refl _
open Classical in
noncomputable def dV(X:Cx)(F:FuncId→Option dW):bC:=λa args b=>if c:∃d e,dH X F d a args b=some e then some (Classical.choose (h7 c))else none
open Classical in
noncomputable def cT:gi:=λa b c=>if d:∃e f,eF e a b c=some f then some (Classical.choose (h7 d))else none
theorem lb{b:FuncId}{args:List D}{h:Y}{r:D × Y}:dV X F b args h=some r↔∃n,dH X F n b args h=some r:=by
 unfold dV;constructor
 ·intro c;split at c
  ·rename_i a;injection c with c;exact⟨_,by rw[h7 (h7 a),c]⟩
  ·cases c
 ·rintro⟨n,e⟩;have a:∃n r,dH X F n b args h=some r:=⟨n,r,e⟩
  rw[dif_pos a];have f:=h7 (h7 a);have g:=nw (Nat.le_max_left (Classical.choose a) n) b args h _ f;have d:=nw (Nat.le_max_right (Classical.choose a) n) b args h _ e;rw[g]at d;exact d
theorem jy{a:List D→Y→Option cS}{ds:List D}{h:Y}{r:cS}:cT a ds h=some r↔∃n,eF n a ds h=some r:=by
 unfold cT;constructor
 ·intro c;split at c
  ·rename_i b;injection c with c;exact⟨_,by rw[h7 (h7 b),c]⟩
  ·cases c
 ·rintro⟨n,e⟩;have b:∃n r,eF n a ds h=some r:=⟨n,r,e⟩
  rw[dif_pos b];have f:=h7 (h7 b);have g:=mm (Nat.le_max_left (Classical.choose b) n) a a (λ_ _=>Le.refl _) ds h _ f;have d:=mm (Nat.le_max_right (Classical.choose b) n) a a (λ_ _=>Le.refl _) ds h _ e;rw[g]at d;exact d
theorem vF{c:Type}{x y:Option c}(b:Le x y)(h2:Le y x):x=y:=by
 cases x with
 |some a=>exact(b a rfl).symm
 | none =>
  cases y with
  |none=>rfl
  |some a=>exact h2 a rfl
theorem oi(g:List D→Y→Option cS)(ds:List D)(h:Y):cT g ds h=(g ds h).bind λr=>match r.1 with
  |.aS=>cT g r.2.1 r.2.2
  |x=>some (x,r.2.1,r.2.2):=by
 refine vF (λr i=>?_) (λr i=>?_)
 ·obtain⟨e,d⟩:=jy.1 i;cases e with
  |zero=>cases d
  | succ e =>
   simp only[eF]at d;obtain⟨j,f,a⟩:=ff.1 d;rw[f,fF];split at a
   ·rename_i b;rw[b];exact jy.2 ⟨e,a⟩
   ·rename_i b;cases c:j.1 with
    |aS=>exact absurd c b
    |ext k=>rw[c]at a;exact a
    |ret=>rw[c]at a;exact a
 ·obtain⟨j,f,a⟩:=ff.1 i;split at a
  ·rename_i b;obtain⟨e,d⟩:=jy.1 a;refine jy.2 ⟨e+1,?_⟩;simp only[eF,f,fF,b];exact d
  ·rename_i b;refine jy.2 ⟨1,?_⟩;simp only[eF,f,fF];cases c:j.1 with
   |aS=>exact absurd c b
   |ext k=>rw[c]at a;exact a
   |ret=>rw[c]at a;exact a
def aV{c:Type}(x:Option c)(xs:Nat→Option c):Prop:=∀b,x=some b→∃d,∀a,d≤a→xs a=some b
theorem aV.const{b:Type}(x:Option b):aV x λ_=>x:=λc a=>⟨0,λ_ _=>a⟩
theorem aV.bind{c e:Type}{x:Option c}{xs:Nat→Option c}{d:c→Option e}{fs:Nat→c→Option e}(h:aV x xs)(k:∀a,aV (d a) λn=>fs n a):aV (x.bind d) λn=>(xs n).bind (fs n):=λo l=>by
 obtain⟨a,f,g⟩:=ff.1 l;obtain⟨n,j⟩:=h a f;obtain⟨m,i⟩:=k a o g;exact⟨max n m,λb p=>by
  show(xs b).bind (fs b)=_;rw[j b (by omega),fF];exact i b (by omega)⟩
theorem oA(a:FuncId)(args:List D)(h:Y):aV (dV X F a args h) λn=>dH X F n a args h:=λe d=>by
 obtain⟨n,c⟩:=lb.1 d;exact⟨n,λf b=>nw b a args h e c⟩
theorem xN(b:FuncId)(args:List D)(h:Y):aV (hN (dV X F) b args h) λn=>hN (dH X F n) b args h:=λj a=>by
 unfold hN at a;split at a
 ·rename_i g i c;obtain⟨n,e⟩:=oA _ _ _ _ c;exact⟨n,λf d=>by show hN _ _ _ _=_;unfold hN;have:=e f d;simp only at this;rw[this];exact a⟩
 ·cases a
theorem xV(b:Nat)(a:FuncId)(args:List D)(h:Y):aV (calls b (dV X F) a args h) λn=>calls b (dH X F n) a args h:=by
 unfold calls;split
 ·exact oA _ _ _
 ·exact xN _ _ _
 ·exact oA _ _ _
theorem xP{T:aM}(m:String)(ds:List D)(h:Y):aV (eU T (dV X F) m ds h) λn=>eU T (dH X F n) m ds h:=by
 unfold eU;split
 ·split
  ·exact oA _ _ _
  ·exact aV.const _
 ·exact aV.const _
theorem tu{T:aM}(a:Nat)(o:Op)(ds:List D)(h:Y):aV (gN T (dV X F) a o ds h) λn=>gN T (dH X F n) a o ds h:=by
 unfold gN;simp only[qd];split
 ·split
  ·split
   ·exact xV _ _ _ _
   ·exact aV.const _
  ·exact xP _ _ _
  ·exact aV.const _
 ·exact aV.const _
theorem zZ{g:D}{b:Bool}{h:Y}{x:Option (D × Y)}{xs:Nat→Option (D × Y)}(a:aV x xs):aV (fc g b h x) λn=>fc g b h (xs n):=by
 unfold fc;split
 ·split
  ·exact a
  ·exact aV.const _
 ·exact aV.const _
 ·exact aV.const _
theorem Cy{V a:List Nat}{l:List Oper}{o:Oper}{b:DE}{h:Y}:aV (eO X (dV X F) V a l o b h) λn=>eO X (dH X F n) V a l o b h:=by
 unfold eO;split
 ·exact aV.const _
 ·split
  ·split
   ·exact aV.const _
   ·exact aV.const _
   ·exact aV.const _
   ·exact tu _ _ _ _
   ·exact aV.const _
  ·split
   ·exact aV.const _
   ·split
    ·exact aV.const _
    ·split
     ·exact aV.const _
     ·exact aV.const _
     ·exact aV.const _
     ·exact zZ (tu _ _ _ _)
     ·exact aV.const _
section
variable {R:Type}
theorem vQ{e:Nat}{dst:Option Nat}{d:D}{a:DE}{h:Y}{b:DE→Y→Option R}{Ks:Nat→DE→Y→Option R}(c:∀a h,aV (b a h) λn=>Ks n a h):aV (fe e dst d a h b) λn=>fe e dst d a h (Ks n):=by
 unfold fe;split
 ·exact c _ _
 ·split
  ·exact c _ _
  ·exact aV.const _
theorem qX{d:Nat}{V c:List Nat}{l:List Oper}{o:Oper}{a:DE}{h:Y}{b:DE→Y→Option R}{Ks:Nat→DE→Y→Option R}(e:∀a h,aV (b a h) λn=>Ks n a h):aV (gZ X (dV X F) d V c l o a h b) λn=>gZ X (dH X F n) d V c l o a h (Ks n):=by
 simp only[ot];exact Cy.bind λf=>vQ e
theorem oE{e:Nat}{V d:List Nat}{l:List Oper}:∀{i:List Oper} {a:DE} {h:Y} {c:DE→Y→Option R} {Ks:Nat→DE→Y→Option R},(∀a h,aV (c a h) λn=>Ks n a h)→aV (eX X (dV X F) e V d l i a h c) λn=>eX X (dH X F n) e V d l i a h (Ks n)
 |[],a,h,c,Ks,b=>b a h
 |[o],a,h,c,Ks,b=>qX b
 | o::p::r,a,h,c,Ks,b=>by
  simp only[eX];split
  ·split
   ·exact(aV.const _).bind λj=>vQ (Ks:=λn f g=>eX X (dH X F n) e V d l r f g (Ks n)) λa h=>oE b
   ·exact aV.const _
  ·exact qX (Ks:=λn f g=>eX X (dH X F n) e V d l (p::r) f g (Ks n)) λa h=>oE b
theorem wi{f:Nat}{V d:List Nat}{l:List Oper}:∀{i:List Oper} {b:DE} {h:Y} {a:List Y} {c:DE→Y→List Y→Option R} {Ks:Nat→DE→Y→List Y→Option R},(∀b h a,aV (c b h a) λn=>Ks n b h a)→aV (iG X (dV X F) f V d l i b h a c) λn=>iG X (dH X F n) f V d l i b h a (Ks n)
 |[],b,h,a,c,Ks,e=>e b h a
 | o::r,b,h,a,c,Ks,e=>qX (Ks:=λn j g=>iG X (dH X F n) f V d l r j g (match eV X.T V o with
  |true=>a++[g]
  |false=>a) (Ks n)) λb h=>wi e
theorem tA{l:List Oper}{a:DE}{b:List Y}{x:Option R}{xs:Nat→Option R}(h:aV x xs):∀{ps:List (Nat × Nat)},aV (hO X l a b ps x) λn=>hO X l a b ps (xs n)
 |[]=>h
 | (i,k)::r=>by
  simp only[hO];split
  ·unfold cZ;split
   ·exact tA h
   ·exact aV.const _
  ·exact aV.const _
theorem rh{V:List Nat}:∀{d:List Oper} {a:DE} {h:Y} {b:DE→Y→Option R} {Ks:Nat→DE→Y→Option R},(∀a h,aV (b a h) λn=>Ks n a h)→aV (gD X V d a h b) λn=>gD X V d a h (Ks n)
 |[],a,h,b,Ks,c=>c a h
 | o::r,a,h,b,Ks,c=>by
  unfold gD;split
  ·split
   ·exact rh c
   ·exact aV.const _
  ·exact rh c
theorem yA{c:Nat}{V b:List Nat}{m:Nat}{l:List Oper}{a:DE}{h:Y}{f:DE→Y→Option R}{Ks:Nat→DE→Y→Option R}(k:∀a h,aV (f a h) λn=>Ks n a h):aV (iA X (dV X F) c V b m l a h f) λn=>iA X (dH X F n) c V b m l a h (Ks n):=by
 unfold iA;split
 ·exact aV.const _
 ·exact wi (Ks:=λn g j i=>hO X l g i (oO X.T V m l) (gD X V (l.take m) g j λd e=>eX X (dH X F n) c V b l (l.drop m) d e (Ks n))) λa h i=>tA (rh (Ks:=λn d e=>eX X (dH X F n) c V b l (l.drop m) d e (Ks n)) λa h=>oE k)
theorem tJ{d:D}{x y:Option R}{xs ys:Nat→Option R}(a:aV x xs)(b:aV y ys):aV (bG d x y) λn=>bG d (xs n) (ys n):=by
 unfold bG;split
 ·exact a
 ·exact b
 ·exact aV.const _
end
theorem Bj{b:List D→Y→Option cS}{bs:Nat→List D→Y→Option cS}(s:∀ds h,aV (b ds h) λn=>bs n ds h)(ds:List D)(h:Y):aV (cT b ds h) λn=>eF n (bs n) ds h:=λg f=>by
 obtain⟨d,t⟩:=jy.1 f;have y:∀(d:Nat) (ds:List D) (h:Y) (g:cS),eF d b ds h=some g→∃n,∀c a,n≤c→d≤a→eF a (bs c) ds h=some g:=by
  intro d
  induction d with
  |zero=>intro ds h g f;cases f
  | succ d x =>
   intro ds h g f;simp only[eF]at f;obtain⟨q,r,e⟩:=ff.1 f;obtain⟨p,o⟩:=s ds h q r;split at e
   ·rename_i j;obtain⟨z,v⟩:=x _ _ _ e;refine⟨max p z,λc a m w=>?_⟩;obtain⟨a,rfl⟩:∃l,a=l+1:=⟨a - 1,by omega⟩
    simp only[eF];have i:=o c (by omega);simp only at i;rw[i,fF,j];exact v c a (by omega) (by omega)
   ·refine⟨p,λc a m w=>?_⟩;obtain⟨a,rfl⟩:∃l,a=l+1:=⟨a - 1,by omega⟩
    simp only[eF];have i:=o c (by omega);simp only at i;rw[i,fF];rename_i j;cases k:q.1 with
    |aS=>exact absurd k j
    |ext A=>rw[k]at e;exact e
    |ret=>rw[k]at e;exact e
 obtain⟨n,u⟩:=y d ds h g t;exact⟨max n d,λc m=>u c c (by omega) (by omega)⟩
theorem xK{i:jI}:∀(l:Code) {b:DE} {h:Y} {R:Type} {c:Ex→DE→Y→Option R} {Ks:Nat→Ex→DE→Y→Option R},(∀x b h,aV (c x b h) λn=>Ks n x b h)→aV (cK X (dV X F) cT i l b h R c) λn=>cK X (dH X F n) (eF n) i l b h R (Ks n):=by
 intro l
 induction l with
 |skip=>intro b h R c Ks a;exact a _ _ _
 |label t=>intro b h R c Ks a;exact a _ _ _
 |ret=>intro b h R c Ks a;exact a _ _ _
 |exit s=>intro b h R c Ks a;exact a _ _ _
 |goto t=>intro b h R c Ks a;exact aV.const _
 |scope f g=>intro b h R c Ks a;exact aV.const _
 |refuse C=>intro b h R c Ks a;exact aV.const _
 |rangeFunc v A u f w y=>intro b h R c Ks a;exact aV.const _
 | region id z q =>
  intro b h R c Ks a;simp only[cK];cases q with
  |false=>exact oE λb h=>a _ _ _
  |true=>exact yA λb h=>a _ _ _
 | seq p f j k =>
  intro b h R c Ks a;simp only[cK];refine j (Ks:=λn x d e=>dS x (cK X (dH X F n) (eF n) i f d e R (Ks n)) λx=>Ks n x d e) λx b h=>?_
  cases x with
  |aS=>exact k a
  |ext s=>exact a _ _ _
  |ret=>exact a _ _ _
 | cond B p f j k =>
  intro b h R c Ks a;simp only[cK];split
  ·exact aV.const _
  ·split
   ·exact(tJ (j (Ks:=λ_ x d e=>some (x,fM d _,e)) λ_ _ _=>aV.const _) (k (Ks:=λ_ x d e=>some (x,fM d _,e)) λ_ _ _=>aV.const _)).bind λo=>a _ _ _
   ·exact tJ (j a) (k a)
 | block id f g =>
  intro b h R c Ks a;simp only[cK];split
  ·exact(g (Ks:=λ_ x d e=>some (cL id x,fM d _,e)) λ_ _ _=>aV.const _).bind λo=>a _ _ _
  ·exact g (Ks:=λn x d e=>Ks n (cL id x) d e) λx b h=>a _ _ _
 | loop f g =>
  intro b h R c Ks a;simp only[cK];refine(Bj (bs:=λn r e=>cK X (dH X F n) (eF n) i f _ e cS λx d m=>some (x,fM d _,m)) (λr h=>g (Ks:=λ_ x d m=>some (x,fM d _,m)) λ_ _ _=>aV.const _) _ _).bind λo=>a _ _ _
theorem zM{a:dW}{args:List D}{h:Y}:aV (hS X (dV X F) cT a args h) λn=>hS X (dH X F n) (eF n) a args h:=by
 unfold hS;split
 ·exact xK _ (Ks:=λ_ e d b=>fa e ((fR X b d a.res).bind λc=>match a.sc with
      |true=>scope h b (aK c)
      |false=>some (aK c,b))) λ_ _ _=>aV.const _
 ·exact aV.const _
theorem CV:∀n,gG (dH X F n) (dV X F):=λn b args c d a=>lb.2 ⟨n,a⟩
theorem Bi:∀n,m6 (eF n) cT:=λn a b e c d g f=>jy.2 ⟨n,mm (aX n) a b e c d g f⟩
theorem v5(d:FuncId)(args:List D)(h:Y):dV X F d args h=match F d with
  |some g=>hS X (dV X F) cT g args h
  |none=>X.xt d args h:=by
 refine vF (λf c=>?_) (λf c=>?_)
 ·obtain⟨a,b⟩:=lb.1 c;cases a with
  |zero=>cases b
  | succ a =>
   simp only[dH]at b;split at b
   ·exact uw (CV a) (Bi a) f b
   ·exact b
 ·split at c
  ·rename_i g e;obtain⟨a,b⟩:=zM f c;refine lb.2 ⟨a+1,?_⟩;simp only[dH,e];exact b a (aX a)
  ·rename_i e;refine lb.2 ⟨1,?_⟩;simp only[dH,e];exact c
theorem wc{a:FuncId}(b:F a=none)(args:List D)(h:Y):dV X F a args h=X.xt a args h:=by
 rw[v5,b]
def jC{R:Type}(X:Cx)(h:Y)(b:DE):List ResultVar→(List D→Option R)→Option R
 |[],a=>a []
 | .tmp t::r,a=>match aQ b t with
  |some d=>jC X h b r λds=>a (d::ds)
  |none=>none
 | .cell t ty::r,a=>match aQ b t with
  |some p=>(aA X.T h ty p).bind λd=>jC X h b r λds=>a (d::ds)
  |none=>none
theorem oz{R:Type}(h:Y)(a:DE):∀(c:List ResultVar) (b:List D→Option R),jC X h a c b=(fR X h a c).bind b
 |[],b=>rfl
 | .tmp t::r,b=>by
  simp only[jC,fR];cases aQ a t with
  |none=>rfl
  |some d=>simp only[oz h a r,cQ,fF]
 | .cell t ty::r,b=>by
  simp only[jC,fR];cases aQ a t with
  |none=>rfl
  |some p=>simp only[oz h a r,cQ,fF]
noncomputable def nY(X:Cx)(d:bC)(f:gi)(a:dW)(args:List D)(h:Y):Option (D × Y):=
 (match Nat.ble args.length a.A.nt with
 |true=>cK X d f a.A a.body (eY (List.range args.length) args []) h (D × Y) λg e b=>fa g (jC X b e a.res λc=>match a.sc with
   |true=>scope h b (aK c)
   |false=>some (aK c,b))
 |false=>none)
theorem v9{a:FuncId}{b:dW}(c:F a=some b)(args:List D)(h:Y):dV X F a args h=nY X (dV X F) cT b args h:=by
 rw[v5,c];simp only[hS,nY,oz];rfl
theorem wb(g:aZ P X.T)(i:P.follows .mixedOrders=true)(k:eH P X X.xt)(f:∀a b,F a=some b→cN P a b):eH P X (dV X F):=λa args d c e h=>by
 obtain⟨l,j⟩:=lb.1 h;exact ts g i k f l a args d c e j
end
def EM(off:Nat)(x:D):Option D:=match x with
 | .aG a=>match Nat.blt off a.length with
  |true=>some (.aG (a.drop off))
  |false=>none
 |.ptr d b c=>some (.ptr d b (c+off))
 |_=>none
def EN(h:Y)(p:D):Option D:=match p with
 |.aG a=>a.head?
 | .ptr c b d=>match h.row c b with
  |some e=>(e.drop d).head?
  |none=>none
 |_=>none
def lh(n:Nat)(cs:List D):Option D:=match Nat.ble n cs.length with
 |true=>some (.agg (cs.take n))
 |false=>none
def EO(x:D):Option D:=match x with
 |.J=>some (.int .i64 0)
 |.sl _ _ b=>some (.int .i64 b.length)
 |.aC _ _ _ a=>some (.int .i64 a)
 |_=>none
def jz(x:D):Option D:=if x.ey then some (.aG (bD x))else none
def bA(T:aM)(t n:Nat)(a:List Nat)(ds:List D):Option D:=(iS T t n a ds).bind λ(_,c,b)=>some (.sl c true b)
def g3 (n:Nat) (h:Y) (p v:D):Option Y:=match p with
 | .ptr b a c=>match h[b]? with
  | some (.row f g e)=>match e[a]? with
   | some d=>match Nat.beq (bD v).length n&&Nat.ble (c+n) d.length&&v.ey with
    |true=>some (h.set b (.row f g (e.set a (cH d c (bD v)))))
    |false=>none
   |none=>none
  |_=>none
 |_=>none
def mR(a Z:Nat)(h:Y)(x:D):Option (D × Y):=if x.ey=true∧(bD x).length=Z∧0<Z then some (.ptr h.length 0 0,aF h a Z [bD x])else none
def oM (e:Nat) (j o:TI) (h:Y) (x y:D):Option (D × Y):=match Nat.blt 0 j.Z,iw h o j y with
 | true,some []=>match x with
  |.J=>some (.J,h)
  |.sl g i k=>some (.sl g i k,h)
  |.aC g i k n=>some (.aC g i k n,h)
  |_=>none
 | true, some a=>match x with
  |.J=>if bH a.length j.ft=true then some (.aC j.Z h.length 0 a.length,aF h e j.Z a)else none
  |.sl d true b=>if d=j.Z∧bH (b.length+a.length) j.ft=true then some (.aC j.Z h.length 0 (b.length+a.length),aF h e j.Z (b++a))else none
  | .aC d f 0 c=>match h[f]? with
   | some (.row l m b)=>if d=j.Z∧m=d∧l=e∧c≤b.length∧bH (c+a.length) j.ft=true then
     (if c=b.length then some (.aC j.Z h.length 0 (c+a.length),aF (h.set f .dead) e j.Z (b++a))
     else if c+a.length≤b.length then some (.aC d f 0 (c+a.length),h.set f (.row l m (b.take c++a++b.drop (c+a.length))))else none)
    else none
   |_=>none
  |_=>none
 |_,_=>none
def kA(b:bC)(c:D)(a:List D)(h:Y):Option (D × Y):=gN (λ_=>none) b 0 (.call ⟨.value (.tmp 0), #[], #[]⟩) (c::a) h
theorem xR(b:bC)(c:FuncId)(a xs ys:List D)(h:Y):kA b (.fn (.func c) xs ys) a h=b c (xs++a++ys) h:=rfl
def W(k:Nat)(ds:List D):D:=match k with
 |0=>l9 ds
 |k+1=>W k (mP ds)
def rp(a:List (Option TI)):aM:=λc=>match a[c]? with
 |some (some b)=>some b
 |_=>none
def lJ(P:Program):Nat→List (Option TI)→Prop
 |_,[]=>True
 |k,none::r=>lJ P (k+1) r
 |k,some i::r=>(lj P k=some i∧kP P k=true)∧lJ P (k+1) r
theorem rq{P:Program}:∀(b:List (Option TI)) (k:Nat),lJ P k b→∀t i,b[t]?=some (some i)→lj P (k+t)=some i∧kP P (k+t)=true
 |[],k,_,t,i,h=>by simp at h
 | none::r,k,a,t,i,h=>by
  cases t with
  |zero=>simp at h
  | succ t =>
   have:=rq r (k+1) a t i (by simpa using h)
   rwa [show k+1+t=k+(t+1)from by omega]at this
 | some c::r,k,a,t,i,h=>by
  cases t with
  | zero =>
   simp at h;subst h;exact a.1
  | succ t =>
   have:=rq r (k+1) a.2 t i (by simpa using h)
   rwa [show k+1+t=k+(t+1)from by omega]at this
theorem Dp{P:Program}{b:List (Option TI)}(h:lJ P 0 b):aZ P (rp b):=λe f a=>by
 unfold rp at a;split at a
 ·rename_i d c;injection a with a;subst a;have:=rq b 0 h e d c
  rwa [dP]at this
 ·cases a
def l7:List (Nat × dW)→FuncId→Option dW
 |[],_=>none
 | (k,i)::r,a=>match Nat.beq k a with
  |true=>some i
  |false=>l7 r a
def m3(P:Program):List (Nat × dW)→Prop
 |[]=>True
 |(k,i)::r=>cN P k i∧m3 P r
theorem p9{P:Program}:∀(c:List (Nat × dW)),m3 P c→∀a b,l7 c a=some b→cN P a b
 |[],_,a,b,h=>by cases h
 | (k,i)::r,d,a,b,h=>by
  simp only[l7]at h;split at h
  ·rename_i e;injection h with h;subst h;have:=e9 e;subst this;exact d.1
  ·exact p9 r d.2 a b h
theorem cN.of{P:Program}{b:FuncId}{a:Func}{c:dW}(g:P.funcs[b]?=some a)(e:a.body=some c.body)(h:a.ntmps=c.A.nt)(i:a.results.toList=c.res)(f:∀(d:Array Value) (w:World),(callFunc b d).run P w = .ok (.enter b d) w):cN P b c:=⟨⟨a,g,e,h,i⟩,f⟩
end Go.Pi
namespace Go.Eng
abbrev pT:=@decide_eq_true_eq
end Go.Eng
namespace Go.Eng
open Go.ChangeShapes Go.WideShapes Go.ChangeAt Go.RowKit
def Gw.all(w:World)(N:Nat):Gw:=⟨w,λa=>if a<w.heap.size then N else 0,λa b=>by rw[bO (by omega)]⟩
theorem DQ{n:Int}(h:(Lit.int .u8 n).wf=true):0≤n∧n<256:=by
 simp only[Lit.wf,cY,pT]at h;have a:IntKind.min .u8=0:=rfl;have b:IntKind.max .u8=255:=rfl;omega
section
variable {H:Type} {enc:TypeId × Value→H} {P:Program} {W:World}
end
theorem eG{P:Program}{b:FuncId}{args:Array Value}{W:World}{N:Nat}{c:Value}(h:h6 P b args W (nq sS (Gw.all W N) λv _=>v=c)):Calls P b args W λa w'=>a = .returned c∧Below W.heap.size W w':=
 Calls.mono h (by
  rintro a w' ⟨v,rfl,e,rfl,d,rfl⟩;exact⟨rfl,d.below⟩)
end Go.Eng
namespace Go.Pi
open Go.Eng Go.ChangeShapes Go.WideShapes Go.ChangeAt Go.RowKit
def Gh.all(w:World):Gh:=⟨w,[],λ_=>False⟩
theorem AF(w:World):Inv (Gh.all w) []:=⟨rfl,λb c f e a=>by simp at a,λb j c f g l e k d i a=>by simp at a,λh a=>a.elim,λb d a=>by simp[Gh.all]at a⟩
theorem aH.below{g:Gh}{W:World}(h:aH (Gh.all W) g):Below W.heap.size W g.w:=⟨h.os,h.tape,h.output,h.size,λb a=>(h.V b ⟨a,λh=>h⟩).2⟩
def ints(k:IntKind)(b:List Int):List (List D):=b.map λa=>[.int k a]
def gv(k:IntKind)(a:List Int)(d:D):Prop:=(d = .J∧a=[])∨d = .sl 1 false (ints k a)
section
variable {H:Type} {enc:TypeId × Value→H} {P:Program} {W:World}
theorem z5{t q:TypeId}{k:IntKind}{a:Option Addr}{n cap:Nat}{d:DataW H}{p:List MemPlace}(R:P.underlying t=some (.slice q))(F:P.underlying q=some (.int k))(E:P.cellsOf q=1)
  (h:DataW.Trod enc P W 0 (λ_=>true) true t (.slice a n cap) d p):∃(b:List Int) (x:D),O (Gh.all W) (.slice a n cap) x∧gv k b x∧b.length≤9223372036854775807∧(∀z∈b,(Lit.int k z).wf=true)∧((d = .nil∧b=[])∨∃X,d = .slice (lits k b) X):=by
 obtain⟨ab,G⟩:=h;rcases open_ints R F E G with⟨j,u⟩|⟨x,ae,aa,b,j,_,K,M,m,u,s,T⟩
 ·simp[Value.cells]at j;obtain⟨rfl,rfl,rfl⟩:=j;exact⟨[],.J,.J,.inl ⟨rfl,rfl⟩,by simp,(λz m=>by cases m),.inl ⟨congrArg Prod.fst u,rfl⟩⟩
 ·simp [Value.cells]at j;obtain⟨rfl,rfl,rfl⟩:=j;have ad:b.length=cap:=by simpa using m
  have N:cap≤9223372036854775807:=by simpa[maxLen]using M
  have L:(b.take n).length=n:=by rw[lA];omega
  have A:∀(c:Nat) (f:List D),(ints k (b.take n))[c]?=some f→c<n∧f=[.int k (b.getD c 0)]:=λc f e=>by
   simp only[ints,dK]at e;cases l:(b.take n)[c]? with
   |none=>rw[l]at e;cases e
   | some af =>
    rw[l]at e;simp only[gk,iN]at e;have o:c<n:=by
     have:=(aP.1 l).1;omega
    rw[dX,bB o]at l;exact⟨o,by rw[← e,m9,l];rfl⟩
  refine⟨b.take n,_,.sl x n cap 1 false (ints k (b.take n)) (by simp only[ints,gw];exact L) K N (λh=>by cases h) (by decide) (λf B=>?_) (λQ=>?_) (λc _ =>.int k (b.getD c 0)) (λc f e g d i=>?_) (λc f e g d i=>rfl) (λc f e g d i=>?_),.inr rfl,by omega,λz m=>T z (fm m),.inr ⟨_,congrArg Prod.fst u⟩⟩
  ·simp only[ints,eE]at B;obtain⟨z,_,rfl⟩:=B;rfl
  ·have ac:0<n:=by
     rcases nh n with r|r
     ·subst r;exact absurd (by simp[ints]) Q
     ·exact r
   obtain⟨y,C,w⟩:=x;have j2:=s 0 (by omega);have v:w=none:=by simpa[Addr.add]using World.cell?_spot j2
   subst v;refine⟨rfl,?_,λh=>h⟩;have:W.cell? ⟨y,C,none⟩=some (.int k (b.getD 0 0)):=by simpa[Addr.add]using j2
   exact World.block_lt_of_cell? W _ this
  ·obtain⟨o,rfl⟩:=A c f e;have I:g=0:=by
    cases g with
    |zero=>rfl
    |succ g=>simp at i
   subst I;obtain⟨y,C,w⟩:=x;have v:w=none:=by simpa[Addr.add]using World.cell?_spot (s 0 (by omega))
   subst v;have j2:=s c (by omega);rw[fU]at j2;simpa[Gh.all]using j2
  ·obtain⟨o,rfl⟩:=A c f e;cases g with
   |zero=>simp at i;subst i;exact .int k _
   |succ g=>simp at i
theorem z4{t c:TypeId}{k:IntKind}{a:Option Addr}{n cap:Nat}{d:DataW H}{p:List MemPlace}(m:P.underlying t=some (.slice c))(l:P.underlying c=some (.int k))(j:P.cellsOf c=1)
  (h:DataW.Trod enc P W 0 (λ_=>true) true t (.slice a n cap) d p):∃(b:List Int) (x:D),O (Gh.all W) (.slice a n cap) x∧gv k b x∧b.length≤9223372036854775807∧∀z∈b,(Lit.int k z).wf=true:=by
 obtain⟨b,x,e,f,g,i,_⟩:=z5 m l j h;exact⟨b,x,e,f,g,i⟩
end
theorem CS{P:Program}{X:Cx}{R:bC}(j:eH P X R){a:FuncId}(l:∀(c:Array Value) (w:World),(callFunc a c).run P w = .ok (.enter a c) w){args:List D}{d:D}{h':Y}(h:R a args []=some (d,h')){W:World}(m:eC (Gh.all W) X.gl){vs:List Value}(n:aI (Gh.all W) vs args){i:Value}(o:∀g v,O g v d→v=i):
  Calls P a vs.toArray W λe w'=>e = .returned i∧Below W.heap.size W w':=
 Calls.mono (show h6 P a vs.toArray W _ from by
  rcases j _ _ _ _ _ h (Gh.all W) vs (AF W) m n with⟨_,b⟩|⟨v,f,b,_⟩
  ·exact b
  ·have:=(l vs.toArray (Gh.all W).w).symm.trans b;injection this with this;cases this) (by
  rintro e w' ⟨v,rfl,f,rfl,k,_,p⟩;rw[o f v p];exact⟨rfl,k.below⟩)
theorem CL{g:Gh}{v:Value}{b:Bool}(h:O g v (.bool b)):v = .bool b:=by cases h;rfl
theorem hP(h:Y)(T Z:Nat)(rows:List (List D)):(aF h T Z rows)[h.length]?=some (.row T Z rows):=by
 unfold aF;rw[fW (aX _)];simp
theorem gQ(h:Y)(T Z:Nat)(rows:List (List D)){o:Nat}(a:o<h.length):(aF h T Z rows)[o]?=h[o]?:=by
 unfold aF;rw[cU a]
end Go.Pi
namespace Go.Pi
open Go.Eng
open Option renaming bind_some → ES
@[simp] theorem bs{c d:Type}(a:c)(b:c→Option d):(some a).bind b=b a:=id rfl
@[simp] theorem dO(d:D):aK [d]=d:=id rfl
@[simp] theorem Cj(a b:D)(r:List D):aK (a::b::r) = .bR (a::b::r):=id rfl
@[simp] theorem cW{R:Type}(b:Bool)(x y:Option R):bG (.bool b) x y=if b=true then x else y:=by cases b<;>exact id rfl
@[simp] theorem nA(b:Bool):gR .not (.bool b)=some (.bool (!b)):=id rfl
@[simp] theorem hQ(b:Bool)(x y:D):e2 (.bool b) x y=some (if b=true then x else y):=by cases b<;>exact id rfl
@[simp] theorem iU(b c:Bool)(x:Option D):gd (.bool b) c x=if b=c then x else some .bF:=by cases b<;>cases c<;>exact id rfl
@[simp] theorem l8(c:Bool)(x:Option D):gd .bF c x=some .bF:=id rfl
@[simp] theorem uB(c:Bool)(h:Y)(x:Option (D × Y)):fc .bF c h x=some (.bF,h):=id rfl
@[simp] theorem jt(b c:Bool)(h:Y)(x:Option (D × Y)):fc (.bool b) c h x=if b=c then x else some (.bF,h):=by cases b<;>cases c<;>exact id rfl
@[simp] theorem eB{R:Type}(n:Option R)(k:Ex→Option R):dS .aS n k=n:=id rfl
@[simp] theorem wD{R:Type}(n:Option R)(k:Ex→Option R):dS .ret n k=k .ret:=id rfl
@[simp] theorem EP{R:Type}(i:Nat)(n:Option R)(k:Ex→Option R):dS (.ext i) n k=k (.ext i):=id rfl
@[simp] theorem y7{R:Type}(r:Option R):fa .aS r=r:=id rfl
@[simp] theorem ue{R:Type}(r:Option R):fa .ret r=r:=id rfl
@[simp] theorem mQ(i:Nat):cL i .aS = .aS:=id rfl
@[simp] theorem wE(i:Nat):cL i .ret = .ret:=id rfl
@[simp] theorem gh(i:Nat):cL i (.ext i) = .aS:=by simp[-ES,cL]
@[simp] theorem dA(d:D)(r:List D):W 0 (d::r)=d:=id rfl
@[simp] theorem fL(k:Nat)(d:D)(r:List D):W (k+1) (d::r)=W k r:=id rfl
@[simp] theorem kC{R:Type}(p:Prop)(x:Option R)(h:p):cZ p x=x:=by unfold cZ;exact bB h
@[simp] theorem D3(b:bC)(c:FuncId)(a xs ys:List D)(h:Y):kA b (.fn (.func c) xs ys) a h=b c (xs++a++ys) h:=id rfl
@[simp] theorem EL(s:List UInt8):jz (.str s)=some (.aG [.str s]):=id rfl
@[simp] theorem EI(k:IntKind)(n:Int):jz (.int k n)=some (.aG [.int k n]):=id rfl
@[simp] theorem EH(b:Bool):jz (.bool b)=some (.aG [.bool b]):=id rfl
@[simp] theorem CB(cs:List D):jz (.agg cs)=some (.aG cs):=id rfl
@[simp] theorem EJ:jz .J=some (.aG [.J]):=id rfl
@[simp] theorem EK(z:Nat)(a:Bool)(r:List (List D)):jz (.sl z a r)=some (.aG [.sl z a r]):=id rfl
section
variable (T:aM) (t:Nat) (k:IntKind) (a b:Int) (s u:List UInt8) (p q:Bool)
@[simp] theorem hj:S T .lss t (.int k a) (.int k b)=some (.bool (decide (a<b))):=by simp[-ES,S,e1]
@[simp] theorem D6:S T .leq t (.int k a) (.int k b)=some (.bool (decide (a≤b))):=by simp[-ES,S,e1]
@[simp] theorem iR:S T .gtr t (.int k a) (.int k b)=some (.bool (decide (b<a))):=by simp[-ES,S,e1]
@[simp] theorem lO:S T .geq t (.int k a) (.int k b)=some (.bool (decide (b≤a))):=by simp[-ES,S,e1]
@[simp] theorem nx:S T .eql t (.int k a) (.int k b)=some (.bool (decide (a=b))):=by simp[-ES,S,e1];rfl
@[simp] theorem pG:S T .neq t (.int k a) (.int k b)=some (.bool (decide (a≠b))):=by simp[-ES,S,e1,bne];rfl
@[simp] theorem fH:S T .add t (.int k a) (.int k b)=some (.int k (k.wrap (a+b))):=by simp[-ES,S,e1]
@[simp] theorem gP:S T .sub t (.int k a) (.int k b)=some (.int k (k.wrap (a - b))):=by simp[-ES,S,e1]
@[simp] theorem jV:S T .mul t (.int k a) (.int k b)=some (.int k (k.wrap (a*b))):=by simp[-ES,S,e1]
@[simp] theorem tG:S T .quo t (.int k a) (.int k b)=if b=0 then none else some (.int k (k.wrap (a.tdiv b))):=by simp[-ES,S,e1]
@[simp] theorem D8:S T .rem t (.int k a) (.int k b)=if b=0 then none else some (.int k (a.tmod b)):=by simp[-ES,S,e1]
@[simp] theorem D9:S T .eql t (.str s) (.str u)=some (.bool (s==u)):=id rfl
@[simp] theorem Ed:S T .neq t (.str s) (.str u)=some (.bool (!(s==u))):=id rfl
@[simp] theorem Ec:S T .lss t (.str s) (.str u)=some (.bool (Op.bytesLess s u)):=id rfl
end
@[simp] theorem pD(n:Nat)(cs:List D)(h:cs.length=n):hh n (.agg cs)=some (.aG cs):=by subst h;simp[-ES,hh,D.ey,bD]
@[simp] theorem kF(i:Nat)(ds:List D):iv i (.bR ds)=ds[i]?:=id rfl
@[simp] theorem Eg (k:IntKind) (a b:Int):jq (.int k a) (.int k b)=some (.int k (if a≤b then a else b)):=by
 first|rfl|(simp[-ES,jq];done)|(simp only[jq];split<;>simp_all [-ES]<;>omega)
theorem cE{n:Int}(a : -9223372036854775808≤n)(b:n≤9223372036854775807):IntKind.wrap .i64 n=n:=by
 unfold IntKind.wrap;simp[-ES,IntKind.signed,IntKind.bits,IntKind.min,IntKind.max];omega
theorem uD{a:Type}(b:List a)(p:a)(c:List a):(b++p::c)[b.length]?=some p:=by simp
def aY{a:Type}(z:Nat)(b:a→List D)(l:List a)(d:D):Prop:=(d = .J∧l=[])∨∃c,d = .sl z c (l.map b)
theorem aY.J{b:Type}(z:Nat)(a:b→List D):aY z a [] .J :=.inl ⟨rfl,rfl⟩
theorem aY.mk{b:Type}(z:Nat)(a:b→List D)(l:List b)(c:Bool):aY z a l (.sl z c (l.map a)) :=.inr ⟨_,rfl⟩
theorem Bh{d:List D→Y→Option cS}(c:Nat→List D→Y→Prop)(e:Ex→List D→Y→Prop)
  (step:∀k ds h,c k ds h→∃x a h',d ds h=some (x,a,h')∧((x = .aS∧∃b,b<k∧c b a h')∨(x ≠ .aS∧e x a h'))) :
  ∀(k:Nat) (ds:List D) (h:Y),c k ds h→∃x a h',cT d ds h=some (x,a,h')∧e x a h':=by
 intro k
 induction k using Nat.strongRecOn with
 | _ k o =>
  intro ds h g;obtain⟨x,a,h',f,n⟩:=step k ds h g;rw[oi,f];rcases n with⟨rfl,b,l,i⟩|⟨m,j⟩
  ·exact o b l a h' i
  ·refine⟨x,a,h',?_,j⟩;cases x with
   |aS=>exact absurd rfl m
   |ext p=>rfl
   |ret=>rfl
end Go.Pi
namespace Go.Eng
abbrev ig:=@Nat.le_of_eq
abbrev o6:=@List.append_nil
abbrev sL:=@List.getElem_mem
abbrev sQ:=@List.take_length
abbrev vC:=@of_decide_eq_true
end Go.Eng
namespace Go.Pi
open Go.Eng
theorem kT{n b:Nat}(h:n*b≤140737488355328)(h2:n≤9223372036854775807):bH n b=true:=by
 simp only[bH,cY];exact⟨gJ h,gJ h2⟩
def aT(h:Y)(n0 b z:Nat)(rows:List (List D))(d:D):Prop:=(d = .J∧rows=[])∨∃a,n0≤a∧d = .aC z a 0 rows.length∧h[a]?=some (.row b z rows)
theorem aT.J(h:Y)(n0 a z:Nat):aT h n0 a z [] .J :=.inl ⟨rfl,rfl⟩
def D.dN(d:D)(b:Nat):Prop:=∃c a,d = .aC c b 0 a
theorem aT.aO{h h':Y}{n0 c z:Nat}{rows:List (List D)}{d:D}(a:aT h n0 c z rows d)(i:∀b,n0≤b→d.dN b→h'[b]?=h[b]?):aT h' n0 c z rows d:=by
 rcases a with a|⟨f,e,a,g⟩
 ·exact .inl a
 ·exact .inr ⟨f,e,a,by rw[i f e ⟨_,_,a⟩];exact g⟩
theorem aT.from{h:Y}{n0 c b z:Nat}{rows:List (List D)}{d:D}(g:c≤n0)(a:aT h n0 b z rows d):aT h c b z rows d:=by
 rcases a with a|⟨f,i,a,e⟩
 ·exact .inl a
 ·exact .inr ⟨f,by omega,a,e⟩
theorem aT.lt{h:Y}{n0 c z:Nat}{rows:List (List D)}{d:D}(a:aT h n0 c z rows d){b:Nat}(i:d.dN b):n0≤b∧b<h.length:=by
 obtain⟨l,j,rfl⟩:=i;rcases a with⟨a,_⟩|⟨k,g,a,f⟩
 ·cases a
 ·injection a with _ e;subst e;exact⟨g,(aP.1 f).1⟩
theorem xq{T:aM}{t c:Nat}{i j:TI}(u:T t=some i)(hi:i.td = .sl c)(o:T c=some j)(w:0<j.Z){h:Y}{n0:Nat}(k:n0≤h.length){rows:List (List D)}{x y:D}(m:aT h n0 c j.Z rows x)
  {ys:List (List D)} (v:gn h j.Z y=some ys) (e:bH (rows.length+ys.length) j.ft=true) :
  ∃g h',dM T h t t x y=some (g,h')∧aT h' n0 c j.Z (rows++ys) g∧h.length≤h'.length∧(∀b,b<h.length→¬x.dN b→h'[b]?=h[b]?)∧∀b,g.dN b→x.dN b∨h.length≤b:=by
 have z:Nat.blt 0 j.Z=true:=gJ w;have s:iw h i j y=some ys:=by simp[iw,hi,v]
 unfold dM;simp only[u,hi,o,z,s];cases ys with
 | nil =>
  rcases m with⟨rfl,rfl⟩|⟨f,l,rfl,d⟩
  ·exact⟨_,_,rfl,.inl ⟨rfl,rfl⟩,aX _,λ_ _ _=>rfl,λb a =>.inl a⟩
  ·exact⟨_,_,rfl,by rw[o6];exact .inr ⟨f,l,rfl,d⟩,aX _,λ_ _ _=>rfl,λb a =>.inl a⟩
 | cons E F =>
  rcases m with⟨rfl,rfl⟩|⟨f,l,rfl,d⟩
  ·simp only[fD,dP]at e;simp only[e,bL];refine⟨_,_,rfl,.inr ⟨h.length,k,by simp,by simp[aF]⟩,by simp[aF],λb a _=>by simp only[aF];rw[cU a],λb a =>.inr ?_⟩;obtain⟨B,A,a⟩:=a;injection a with _ n;omega
  ·have C:=(aP.1 d).1;simp only[d,e,true_and,and_true,aX,bL];refine⟨_,_,rfl,.inr ⟨h.length,k,by simp,by simp[aF]⟩,by simp[aF],λb a q=>?_,λb a =>.inr ?_⟩
   ·have r:f≠b:=λp=>q ⟨_,_,by rw[p]⟩
    simp only[aF];rw[cU (by simpa using a),g7 r]
   ·obtain⟨B,A,a⟩:=a;injection a with _ n;omega
theorem xp{T:aM}{t c:Nat}{i j:TI}(q:T t=some i)(hi:i.td = .sl c)(m:T c=some j)(s:0<j.Z){h:Y}{n0:Nat}(p:n0≤h.length){rows:List (List D)}{x y:D}(e:aT h n0 c j.Z rows x)
  {ys:List (List D)} (r:gn h j.Z y=some ys) (o:bH (rows.length+ys.length) j.ft=true) :
  ∃b h',dM T h t t x y=some (b,h')∧aT h' n0 c j.Z (rows++ys) b∧h.length≤h'.length∧(∀a,a<n0→h'[a]?=h[a]?)∧(∀a,a<h.length→¬x.dN a→h'[a]?=h[a]?)∧∀a,b.dN a→x.dN a∨h.length≤a:=by
 obtain⟨b,h',f,g,k,d,l⟩:=xq q hi m s p e r o;exact⟨b,h',f,g,k,λa u=>d a (by omega) λn=>by have:=(e.lt n).1;omega,d,l⟩
@[simp] theorem mH(h:Y)(z:Nat)(a:Bool)(rows:List (List D)):gn h z (.sl z a rows)=some rows:=by simp[gn]
def bN(o:Nat)(h h':Y):Prop:=h'.length=h.length∧∀a,a≠o→h'[a]?=h[a]?
theorem bN.refl(o:Nat)(h:Y):bN o h h:=⟨rfl,λ_ _=>rfl⟩
theorem bN.trans{o:Nat}{h h' c:Y}(a:bN o h h')(b:bN o h' c):bN o h c:=⟨b.1.trans a.1,λe d=>(b.2 e d).trans (a.2 e d)⟩
def iJ(n0 o:Nat)(h h':Y):Prop:=h.length≤h'.length∧∀a,a<n0→a≠o→h'[a]?=h[a]?
theorem iJ.refl(n0 o:Nat)(h:Y):iJ n0 o h h:=⟨aX _,λ_ _ _=>rfl⟩
theorem iJ.trans{n0 o:Nat}{h h' c:Y}(a:iJ n0 o h h')(b:iJ n0 o h' c):iJ n0 o h c:=⟨g9 a.1 b.1,λf e d=>(b.2 f e d).trans (a.2 f e d)⟩
theorem bN.grow{n0 o:Nat}{h h':Y}(a:bN o h h'):iJ n0 o h h':=⟨ig a.1.symm,λc _ b=>a.2 c b⟩
@[simp] theorem zQ(n0:Nat)(h:Y)(n:Nat)(k:IntKind)(i:Int):aW n0 h n (.int k i) = .int k i:=by cases n<;>rfl
@[simp] theorem Eu(n0:Nat)(h:Y)(n:Nat)(s:List UInt8):aW n0 h n (.str s) = .str s:=by cases n<;>rfl
@[simp] theorem Es(n0:Nat)(h:Y)(n:Nat)(b:Bool):aW n0 h n (.bool b) = .bool b:=by cases n<;>rfl
@[simp] theorem Et(n0:Nat)(h:Y)(n:Nat):aW n0 h n .J = .J:=by cases n<;>rfl
@[simp] theorem uz(n0:Nat)(h:Y)(n:Nat)(cs:List D):aW n0 h (n+1) (.agg cs) = .agg (cs.map (aW n0 h n)):=rfl
@[simp] theorem Ew(n0:Nat)(h:Y)(n:Nat)(cs:List D):aW n0 h (n+1) (.bR cs) = .bR (cs.map (aW n0 h n)):=rfl
theorem zS(n0:Nat)(h:Y)(n z:Nat)(a:Bool)(rows:List (List D)):aW n0 h (n+1) (.sl z a rows) = .sl z a (rows.map λrow=>row.map (aW n0 h n)):=rfl
theorem zR{n0:Nat}{h:Y}{o:Nat}{T z:Nat}{rows:List (List D)}(b:n0≤o)(a:h[o]?=some (.row T z rows))(n s r k:Nat):aW n0 h (n+1) (.aC s o r k) = .sl s false (((rows.drop r).take k).map λrow=>row.map (aW n0 h n)):=by
 have:Nat.ble n0 o=true:=gJ b;simp only[aW,this,a]
theorem j5{a:Type}{b:a→a}:∀{l:List a},(∀x∈l,b x=x)→l.map b=l
 |[],_=>rfl
 |x::l,h=>by rw[hD,h x (by simp),j5 λy c=>h y (by simp[c])]
theorem zT{n0:Nat}{h:Y}{n z:Nat}{a:Bool}{rows:List (List D)}(b:∀row∈rows,∀d∈row,aW n0 h n d=d):aW n0 h (n+1) (.sl z a rows) = .sl z a rows:=by
 rw[zS,j5 λrow c=>j5 (b row c)]
theorem uA{n0:Nat}{h:Y}{n a b z:Nat}{rows:List (List D)}{d:D}(c:aT h a b z rows d)(i:n0≤a)(f:∀row∈rows,∀d∈row,aW n0 h n d=d):(aW n0 h (n+1) d = .J∧rows=[])∨aW n0 h (n+1) d = .sl z false rows:=by
 rcases c with⟨rfl,rfl⟩|⟨k,j,rfl,e⟩
 ·exact .inl ⟨rfl,rfl⟩
 ·right;rw[zR (by omega) e];simp only[kq,sQ];rw[j5 λrow g=>j5 (f row g)]
theorem mC{n0:Nat}{h:Y}{n f i z:Nat}{g:Type}{b:g→List D}{l:List g}{d:D}(e:aT h f i z (l.map b) d)(m:n0≤f)(o:∀a∈l,∀d∈b a,aW n0 h n d=d):aY z b l (aW n0 h (n+1) d):=by
 rcases uA e m (n:=n) (λq p d e=>by
  obtain⟨a,k,rfl⟩:=eE.1 p;exact o a k d e)with⟨c,j⟩|c
 ·rw[c];exact .inl ⟨rfl,by simpa using j⟩
 ·rw[c];exact .mk _ _ _ _
theorem rj{n0:Nat}{h:Y}{n z:Nat}{e:Type}{c:e→List D}{l:List e}{d:D}(b:aY z c l d)(g:∀a∈l,∀d∈c a,aW n0 h n d=d):aW n0 h (n+1) d=d:=by
 rcases b with⟨rfl,_⟩|⟨j,rfl⟩
 ·rfl
 ·exact zT λk i d b=>by
    obtain⟨a,f,rfl⟩:=eE.1 i;exact g a f d b
theorem jE{n z:Nat}{e:Type}{c:e→List D}{l:List e}{d:D}(b:aY z c l d)(g:∀a∈l,∀d∈c a,Ok n d):Ok n d:=by
 rcases b with⟨rfl,_⟩|⟨i,rfl⟩
 ·exact .J
 ·exact .sl _ _ _ λj h d b=>by
    obtain⟨a,f,rfl⟩:=eE.1 h;exact g a f d b
theorem oH{z:Nat}{a:Type}{b:a→List D}{l:List a}{d:D}(c:aY z b l d):d.one=true:=by
 rcases c with⟨rfl,_⟩|⟨e,rfl⟩<;>rfl
theorem vG{h:Y}{n0 a z:Nat}{rows:List (List D)}{d:D}(b:aT h n0 a z rows d):d.one=true:=by
 rcases b with⟨rfl,_⟩|⟨c,_,rfl,_⟩<;>rfl
theorem Dd{h h2:Y}{d d':D}{o:Nat}(j:aW h.length h2 4 d=d')(m:Ok h.length d')(c:iJ h.length o h h2)(l:∀T Z rows,h2[o]?=some (.row T Z rows)→∀row∈rows,∀d∈row,Ok h.length d):
  scope h h2 d=some (d',h2.take h.length)∧bN o h (h2.take h.length)∧∀a,a<h.length→(h2.take h.length)[a]?=h2[a]?:=by
 have k:h.length≤h2.length:=c.1;have i:∀a,a<h.length→(h2.take h.length)[a]?=h2[a]?:=λa b=>by rw[dX,bB b]
 refine⟨?_,⟨by simp[k],λa b=>?_⟩,i⟩
 ·unfold scope;rw[j,kC];refine⟨m,λa T Z rows b g=>?_⟩;by_cases f:a=o
  ·subst f;exact .inr (l T Z rows g)
  ·left;rw[← c.2 a b f];exact g
 ·by_cases e:a<h.length
  ·rw[i a e];exact c.2 a e b
  ·rw[na (by simp;omega),na (by omega)]
theorem mL{h h2:Y}{d d':D}(e:aW h.length h2 4 d=d')(f:Ok h.length d')(k:h.length≤h2.length)(c:∀a,a<h.length→h2[a]?=h[a]?):scope h h2 d=some (d',h):=by
 have i:h2.take h.length=h:=sH λa=>by
  rw[dX];split
  ·rename_i b;exact c a b
  ·rename_i b;rw[na (by omega)]
 unfold scope;rw[e,i,kC];exact⟨f,λa j m l b g =>.inl (by rw[← c a b];exact g)⟩
theorem Dj{z:Nat}{b:Type}{a:b→List D}{l:List b}{d:D}(h:Y)(c:aY z a l d):gn h z d=some (l.map a):=by
 rcases c with⟨rfl,rfl⟩|⟨e,rfl⟩
 ·rfl
 ·simp
theorem vK{a:Type}(l:List a)(v:Int)(b:0≤v)(c:v<l.length):∃s,s∈l∧l[v.toNat]?=some s:=by
 have:v.toNat<l.length:=by omega
 exact⟨l[v.toNat],sL _,bX this⟩
theorem z2{k:IntKind}{c:List Int}{d:D}(a:gv k c d)(n:Nat):Ok n d:=by
 rcases a with⟨rfl,_⟩|rfl
 ·exact .J
 ·refine .sl _ _ _ λe b d a=>?_
  simp only[ints,eE]at b;obtain⟨f,_,rfl⟩:=b;simp at a;subst a;exact .int _ _
theorem aT.same{h h':Y}{n0 a z o:Nat}{rows:List (List D)}{d:D}(b:aT h n0 a z rows d)(c:bN o h h')(f:o<n0):aT h' n0 a z rows d:=b.aO λe g _=>c.2 e (by omega)
def Wp{b:Type}(x:Option b)(Q:b→Prop):Prop:=∃a,x=some a∧Q a
theorem Wp.some{b:Type}{a:b}{Q:b→Prop}(h:Q a):Wp (some a) Q:=⟨a,rfl,h⟩
theorem Wp.bind{b d:Type}{x:Option b}{c:b→Option d}{P:b→Prop}{Q:d→Prop}(h:Wp x P)(k:∀a,P a→Wp (c a) Q):Wp (x.bind c) Q:=by
 obtain⟨a,rfl,e⟩:=h;exact k a e
theorem Wp.step{b d:Type}{x:Option b}{a:b}{c:b→Option d}{Q:d→Prop}(h:x=Option.some a)(k:Wp (c a) Q):Wp (x.bind c) Q:=by
 subst h;exact k
theorem Wp.fv{a:Type}{b:Bool}{x y:Option a}{Q:a→Prop}(c:b=true→Wp x Q)(d:b=false→Wp y Q):Wp (bG (.bool b) x y) Q:=by
 cases b
 ·exact d rfl
 ·exact c rfl
theorem Wp.join{c e:Type}{b:Bool}{x y:Option c}{d:c→Option e}{P:c→Prop}{Q:e→Prop}(f:b=true→Wp x P)(g:b=false→Wp y P)(k:∀a,P a→Wp (d a) Q):Wp ((bG (.bool b) x y).bind d) Q:=Wp.bind (Wp.fv f g) k
theorem Wp.mono{b:Type}{x:Option b}{P Q:b→Prop}(h:Wp x P)(k:∀a,P a→Q a):Wp x Q:=by
 obtain⟨a,rfl,c⟩:=h;exact⟨a,rfl,k a c⟩
theorem Wp.cZ{a:Type}{p:Prop}{x:Option a}{Q:a→Prop}(b:p)(h:Wp x Q):Wp (cZ p x) Q:=by
 rw[kC p x b];exact h
theorem Wp.loop{m:Type}{f:List D→Y→Option cS}{ds:List D}{h:Y}{g:cS→Option m}{Q:m→Prop}(a:Nat→List D→Y→Prop)(c:cS→Prop)(n:Nat)(o:a n ds h)
  (step:∀k ds h,a k ds h→Wp (f ds h) λr=>(r.1 = .aS∧∃l,l<k∧a l r.2.1 r.2.2)∨(r.1 ≠ .aS∧c r)) (k:∀r,c r→Wp (g r) Q):Wp ((cT f ds h).bind g) Q:=by
 obtain⟨b,i,j,d,e⟩:=Bh a (λb ds h=>c (b,ds,h)) (λk ds h p=>by
  obtain⟨⟨b,i,j⟩,d,e⟩:=step k ds h p;exact⟨b,i,j,d,e⟩) n ds h o
 rw[d];exact k _ e
theorem nv{T:aM}{t b:Nat}{i j:TI}(r:T t=Option.some i)(hi:i.td = .sl b)(o:T b=Option.some j)(v:0<j.Z){h:Y}{n0:Nat}(q:n0≤h.length){rows:List (List D)}{x y:D}(s:aT h n0 b j.Z rows x)
  {ys:List (List D)} (u:gn h j.Z y=Option.some ys) (p:bH (rows.length+ys.length) j.ft=true) {e:Type} {d:D × Y→Option e} {Q:e→Prop}
  (k:∀c h',aT h' n0 b j.Z (rows++ys) c→h.length≤h'.length→(∀a,a<n0→h'[a]?=h[a]?)→(∀a,a<h.length→¬x.dN a→h'[a]?=h[a]?)→(∀a,c.dN a→x.dN a∨h.length≤a)→Wp (d (c,h')) Q):Wp ((dM T h t t x y).bind d) Q:=by
 obtain⟨c,h',b,f,g,l,m,n⟩:=xp r hi o v q s u p;rw[b];exact k c h' f g l m n
theorem jA{n:Nat}{h:Y}{o T Z kk off:Nat}{rows:List (List D)}{row:List D}{v:D}(b:h[o]?=Option.some (.row T Z rows))(l:rows[kk]?=Option.some row)(m:(bD v).length=n)(g:off+n≤row.length)(f:v.ey=true){c:Type}{a:Y→Option c}{Q:c→Prop}
  (k:∀h',h'[o]?=Option.some (.row T Z (rows.set kk (cH row off (bD v))))→bN o h h'→Wp (a h') Q):Wp ((g3 n h (.ptr o kk off) v).bind a) Q:=by
 have i:=(aP.1 b).1;have d:g3 n h (.ptr o kk off) v=Option.some (h.set o (.row T Z (rows.set kk (cH row off (bD v))))):=by
  subst m;have e:Nat.ble (off+(bD v).length) row.length=true:=gJ g;simp only[g3,b,l,Nat.beq_refl,e,f,Bool.and_true]
 rw[d];exact k _ (by simp[i]) ⟨by simp,λp j=>g7 (Ne.symm j)⟩
@[simp] theorem D5(T:aM)(t:Nat)(k:IntKind)(a b:Int):S T .and t (.int k a) (.int k b)=Option.some (.int k (k.wrap (BitVec.ofInt k.bits a &&& BitVec.ofInt k.bits b).toNat)):=by simp[S,e1]
@[simp] theorem D7(T:aM)(t:Nat)(k:IntKind)(a b:Int):S T .or t (.int k a) (.int k b)=Option.some (.int k (k.wrap (BitVec.ofInt k.bits a ||| BitVec.ofInt k.bits b).toNat)):=by simp[S,e1]
@[simp] theorem Ee(T:aM)(t:Nat)(k:IntKind)(a b:Int):S T .xor t (.int k a) (.int k b)=Option.some (.int k (k.wrap (BitVec.ofInt k.bits a ^^^ BitVec.ofInt k.bits b).toNat)):=by simp[S,e1]
@[simp] theorem Eh(k:IntKind)(a:Int):gR .neg (.int k a)=Option.some (.int k (k.wrap (0 - a))):=id rfl
@[simp] theorem Ei(k:IntKind)(a:Int):gR .xor (.int k a)=Option.some (.int k (k.wrap (BitVec.ofInt k.bits (if k.signed then -1 else k.max) ^^^ BitVec.ofInt k.bits a).toNat)):=id rfl
theorem eG{h:Y}{o T Z kk:Nat}{rows:List (List D)}(a:h[o]?=Option.some (.row T Z rows)):h.row o kk=rows[kk]?:=by simp[Y.row,a]
@[simp] theorem k4(T:aM)(o i a:Nat):eL T (.ptr o i a)=Option.some (.ptr o i a):=id rfl
@[simp] theorem Eb(T:aM)(t:Nat)(k k2:IntKind)(a b:Int):S T .shr t (.int k a) (.int k2 b)=if b<0 then none else some (.int k (a.fdiv (2 ^ (min b.toNat k.bits)))):=id rfl
@[simp] theorem Ea(T:aM)(t:Nat)(k k2:IntKind)(a b:Int):S T .shl t (.int k a) (.int k2 b)=if b<0 then none else some (.int k (k.wrap (a*2 ^ (min b.toNat k.bits)))):=id rfl
theorem x3(T:aM)(t:Nat)(s a:List UInt8)(h:s.length+a.length≤9223372036854775807):S T .add t (.str s) (.str a)=some (.str (s++a)):=bB h
theorem z0{T:aM}{t b:Nat}{i j:TI}(h:T t=some i)(hi:i.td = .sl b)(g:T b=some j)(l:j.Z=1){k:IntKind}{a:List Int}{d:D}(f:gv k a d){k2:IntKind}{n:Int}(c:0≤n)(e:n≤a.length):
  ∃d',ga T t false true false [d,.int k2 n]=some d'∧gv k (a.take n.toNat) d':=by
 simp only[ga,eZ,bs,hq,h,hi,g];rcases f with⟨rfl,rfl⟩|rfl
 ·have:n=0:=by simpa using Int.le_antisymm e c
  subst this;exact⟨_,rfl,.inl ⟨rfl,rfl⟩⟩
 ·simp[l,c,e,ints];right;simp[ints]
theorem k5{d:D}(h:d.one=true):bD d=[d]∧d.ey=true:=by cases d<;>first|exact⟨rfl,rfl⟩|(simp[D.one]at h)
theorem z3{k:IntKind}{b:List Int}{d:D}(a:gv k b d):d.one=true:=by
 rcases a with⟨rfl,_⟩|rfl<;>rfl
theorem rG(a Z:Nat)(h:Y)(cs:List D)(b:cs.length=Z)(c:0<Z):mR a Z h (.agg cs)=some (.ptr h.length 0 0,aF h a Z [cs]):=by
 simp[mR,D.ey,bD,b,c]
theorem iq(k:IntKind)(n:Int):bD (.int k n)=[.int k n]:=id rfl
theorem iu(s:List UInt8):bD (.str s)=[.str s]:=id rfl
theorem im(b:Bool):bD (.bool b)=[.bool b]:=id rfl
theorem il(cs:List D):bD (.agg cs)=cs:=id rfl
theorem pB{T:aM}{t:Nat}{i:TI}{fs:List (Nat × Nat × Nat)}(b:T t=Option.some i)(hi:i.td = .st fs){a:List Nat}{ds cs:List D}(h:ho fs i.zero a ds=Option.some cs):dE T t a ds=Option.some (.agg cs):=by
 simp only[dE,b,hi,h,bs]
theorem iB{fs:List (Nat × Nat × Nat)}{cs:List D}{i:Nat}{a:List Nat}{d:D}{ds:List D}{h off Z:Nat}(e:fs[i]?=Option.some (h,off,Z))(h2:(bD d).length=Z)(f:off+Z≤cs.length)(g:d.ey=true):
  ho fs cs (i::a) (d::ds)=ho fs (cH cs off (bD d)) a ds:=by
 have b:Nat.beq (bD d).length Z=true:=by rw[h2];exact Nat.beq_refl Z
 have c:Nat.ble (off+Z) cs.length=true:=gJ f;simp only[ho,e,b,c,g,Bool.and_self]
theorem Ck{T:aM}{t a z o r n:Nat}{i j:TI}(e:T t=some i)(hi:i.td = .sl a)(c:T a=some j)(f:j.Z=z)(d:0<z){k:IntKind}{m:Nat}(b:m≤n):
  ga T t false true false [.aC z o r n,.int k m]=some (.aC z o r m):=by
 have g:(m:Int)≤(n:Int):=by omega
 simp[ga,eZ,hq,e,hi,c,f,d,b]
theorem Wp.val{b:Type}{x:Option b}{a:b}(h:Wp x λp=>p=a):x=Option.some a:=by
 obtain⟨p,c,rfl⟩:=h;exact c
theorem Ey{a:Type}{l:List a}{n:Nat}(h:n<l.length):∃x,l[n]?=Option.some x:=⟨_,bX h⟩
theorem ln(n:Nat)(h:n<9223372036854775807):IntKind.wrap .i64 ((n:Int)+1)=((n+1:Nat):Int):=by
 rw[cE (by omega) (by omega)];omega
theorem lT{a b:Nat}(h:decide ((a:Int)<(b:Int))=true):a<b:=by
 have:=vC h;omega
end Go.Pi
namespace Go.Pi
open Go.Eng Go.ChangeShapes Go.WideShapes Go.ChangeAt Go.RowKit Go.Deep
section
variable {H:Type} {enc:TypeId × Value→H} {P:Program} {W:World}
end
end Go.Pi
namespace Go.Pi
open Go.Eng
inductive MO where
 |mp (n:Nat) (f:Int→Option Int)
 |it (m n:Nat) (f:Int→Option Int) (left:Int→Bool) (cur:Option (Int × Int))
abbrev Mp:=Nat→Option MO
def Mp.set(c:Mp)(b:Nat)(o:MO):Mp:=λa=>if a=b then some o else c a
def Mp.kl(d:Mp)(b:Nat)(o:MO):Mp:=λc=>if c=b then some o else match d c with
 |some (.it a h f g e)=>if a=b then none else some (.it a h f g e)
 |y=>y
def M0:Mp:=λ_=>none
def cP(x:Int):Prop := -9223372036854775808≤x∧x≤9223372036854775807
instance (x:Int):Decidable (cP x):=by unfold cP;exact inferInstance
open Classical in
noncomputable def lK{c:Type}(b:c→Option Unit):Option Unit:=if ∀a,b a=some ()then some ()else none
open Classical in
noncomputable def kS(p:Prop)(x:Option Unit):Option Unit:=if p then x else some ()
theorem iP{c:Type}{b:c→Option Unit}:lK b=some ()↔∀a,b a=some ():=by
 unfold lK;split<;>simp_all
theorem hU{p:Prop}{x:Option Unit}:kS p x=some ()↔(p→x=some ()):=by
 unfold kS;split<;>simp_all
theorem iQ{p:Prop}{x:Option Unit}:cZ p x=some ()↔p∧x=some ():=by
 unfold cZ;split<;>simp_all
abbrev MK:=D→Mp→Option Unit
noncomputable def kY(b:Mp)(c:MK):Option Unit:=lK λa=>kS (b a=none) (c (.raw (.map (some a))) (b.set a (.mp 0 λ_=>none)))
noncomputable def iY(b:Mp)(f g:D)(h:Bool)(d:MK):Option Unit:=match f,g with
 | .raw (.map (some e)),.int .i64 a=>match b e with
  | some (.mp _ c)=>cZ (cP a) (match h with
   |true=>d (.bR [.int .i64 ((c a).getD 0),.bool (c a).isSome]) b
   |false=>d (.int .i64 ((c a).getD 0)) b)
  |_=>none
 |_,_=>none
noncomputable def j4(a:Mp)(h i dv:D)(g:MK):Option Unit:=match h,i,dv with
 | .raw (.map (some b)),.int .i64 d,.int .i64 c=>match a b with
  |some (.mp e j)=>cZ (cP d∧cP c∧e<1000000000) (g .bF (a.kl b (.mp (e+1) λf=>if f=d then some c else j f)))
  |_=>none
 |_,_,_=>none
noncomputable def mu(a:Mp)(f:D)(e:MK):Option Unit:=match f with
 | .raw (.map (some c))=>match a c with
  |some (.mp g d)=>lK λb=>kS (a b=none) (e (.raw (.pointer (some ⟨b,0,none⟩))) (a.set b (.it c g d (λh=>(d h).isSome) none)))
  |_=>none
 |_=>none
noncomputable def mr(c:Mp)(i:D)(e:MK):Option Unit:=match i with
 | .raw (.pointer (some ⟨g,0,none⟩))=>match c g with
  |some (.it h j f d _)=>(kS (∀b,cP b→d b=false) (e (.bR [.bool false]) c)).bind λ_ =>
    lK λa:Int × Int=>kS (cP a.1∧cP a.2∧d a.1=true∧f a.1=some a.2) (e (.bR [.bool true,.int .i64 a.1,.int .i64 a.2]) (c.set g (.it h j f (λb=>d b && !(b==a.1)) (some a))))
  |_=>none
 |_=>none
noncomputable def mq(a:Mp)(d:D)(c:MK):Option Unit:=match d with
 | .raw (.pointer (some ⟨e,0,none⟩))=>match a e with
  |some (.it _ _ _ _ (some b))=>c (.bR [.int .i64 b.1,.int .i64 b.2]) a
  |_=>none
 |_=>none
def uJ:Op→Bool
 |.makeMap _ _=>true
 |.lookup _ _ _ _=>true
 |.mapUpdate _ _ _ _=>true
 |.range _ _=>true
 |.next _ _=>true
 |.entry _=>true
 |_=>false
noncomputable def qR(X:Cx)(mt:Nat)(k:Op)(b:DE)(d:Mp)(c:MK):Option Unit:=match k with
 | .makeMap t none=>match Nat.beq t mt with
  |true=>kY d c
  |false=>none
 | .lookup t e h j=>match Nat.beq t mt,fw X b e,fw X b h with
  |true,some a,some f=>iY d a f j c
  |_,_,_=>none
 | .mapUpdate t e h l=>match Nat.beq t mt,fw X b e,fw X b h,fw X b l with
  |true,some a,some f,some i=>j4 d a f i c
  |_,_,_,_=>none
 | .range t e=>match Nat.beq t mt,fw X b e with
  |true,some a=>mu d a c
  |_,_=>none
 | .next g false=>match fw X b g with
  |some a=>mr d a c
  |none=>none
 | .entry g=>match fw X b g with
  |some a=>mq d a c
  |none=>none
 |_=>none
noncomputable def mv(X:Cx)(g:bC)(e:Nat)(V f:List Nat)(mt:Nat)(l:List Oper):List Oper→DE→Y→Mp→(DE→Y→Mp→Option Unit)→Option Unit
 |[],a,h,c,b=>b a h c
 | o::r,a,h,c,b=>match uJ o.op with
  | true=>match o.guard with
   |none=>qR X mt o.op a c λd i=>fe e o.dst d a h λe' h'=>mv X g e V f mt l r e' h' i b
   |some _=>none
  |false=>gZ X g e V f l o a h λe' h'=>mv X g e V f mt l r e' h' c b
structure jh (P:Program) (t k:Nat):Prop where
 ht:P.underlying t=some (.map k k)
 hk:P.underlying k=some (.int .i64)
 z:∀w,(zeroValue k).run P w = .ok (.int .i64 0) w
def iM(b:DataW Unit)(c:Int→Option Int):Prop:=Maps.IsMap b∧∀a,cP a→Maps.has b (.int .i64 a)=(c a).isSome∧∀d,b.atKey (.int .i64 a) d=match c a with
 |some e =>.lit (.int .i64 e)
 |none=>d
theorem oN{x:Int}:(Lit.int .i64 x).wf=true↔cP x:=by
 have a:IntKind.min .i64 = -9223372036854775808:=rfl;have b:IntKind.max .i64=9223372036854775807:=rfl;simp only[Lit.wf,cY,pT,cP,a,b]
section
variable {P:Program} {t k:Nat} (hM:jh P t k)
include hM
theorem jh.key{x:Int}(a:cP x):keyOf P k (.int .i64 x)=some (.int .i64 x):=Maps.keyOf_int_mk hM.hk (oN.2 a)
theorem jh.isKey{x:Int}(a:cP x):WideAt.IsKeyLit (.int .i64 x):=(Maps.int_keyed hM.hk).key (hM.key a)
omit hM in
theorem iM.empty:iM (.map []) λ_=>none:=⟨Maps.isMap_empty,λa _=>⟨rfl,λb=>rfl⟩⟩
theorem iM.put{d:DataW Unit}{e:Int→Option Int}(h:iM d e){i c:Int}(hi:cP i):iM (d.put (.int .i64 i) (.lit (.int .i64 c))) λx=>if x=i then some c else e x:=by
 refine⟨h.1.put _ _,λx a=>?_⟩;by_cases b:x=i
 ·subst b;simp only[bB rfl];exact⟨Maps.has_put_same h.1 (hM.isKey a) _,λg=>Maps.atKey_put_same h.1 (hM.isKey a) _ _⟩
 ·have f:(Lit.int .i64 x) ≠ .int .i64 i:=λj=>b (by injection j)
  simp only[bO b];refine⟨(Maps.has_put_other f _).trans (h.2 x a).1,λg=>?_⟩;rw[Maps.atKey_put_other f];exact(h.2 x a).2 g
end
def lD(P:Program)(k:Nat)(w:World)(b:Nat):MO→Prop
 |.mp n d=>∃a,w.ownsMap P k (plainElem P k) b n a∧iM a d
 |.it m n d left g=>∃a e f,w.ranges P k (plainElem P k) m b n a e f∧iM a d∧(∀x,cP x→e (.int .i64 x)=left x) ∧
   ∀x c,g=some (x,c)→(Instr.entry (.pointer (some ⟨b,0,none⟩))).run P w = .ok (.tuple #[.int .i64 x,.int .i64 c]) w
theorem y5{P:Program}{w w':World}{b m:Nat}{e:Nat}{seen:Array Nat}{a:Nat}{d:Array MapEntry}{c:Nat}(o:w'.heap[b]?=w.heap[b]?)(q:w'.heap[m]?=w.heap[m]?)
  (i:w.heap[b]?=some (.mapIter (some m) e seen a)) (h2:w.heap[m]?=some (.map d c)) {v:Value} (h:(Instr.entry (.pointer (some ⟨b,0,none⟩))).run P w = .ok v w):(Instr.entry (.pointer (some ⟨b,0,none⟩))).run P w' = .ok v w':=by
 have l:(getObj b).run P w = .ok (.mapIter (some m) e seen a) w:=by simp[getObj,Sem.run,i]
 have f:(getObj m).run P w = .ok (.map d c) w:=by simp[getObj,Sem.run,h2]
 have n:(getObj b).run P w' = .ok (.mapIter (some m) e seen a) w':=by simp[getObj,Sem.run,o,i]
 have g:(getObj m).run P w' = .ok (.map d c) w':=by simp[getObj,Sem.run,q,h2]
 unfold Instr.entry at h ⊢;simp only[dU,l,f,n,g,dY]at h ⊢;cases k:seen.back? with
 |none=>simp[k]at h
 | some r =>
  simp only[k,dU,f,g,dY]at h ⊢;by_cases j:(c != a)=true
  ·simp[j]at h
  ·simp only[j]at h ⊢;cases p:d.find? (·.born==r)with
   |none=>simp[p]at h
   |some s=>simp_all
theorem lD.aO{P:Program}{k:Nat}{w w':World}{b:Nat}{o:MO}(h:lD P k w b o)(j:w'.heap[b]?=w.heap[b]?)(A:∀m n g l c,o = .it m n g l c→w'.heap[m]?=w.heap[m]?):lD P k w' b o:=by
 cases o with
 | mp n g =>
  obtain⟨d,⟨f,e,a,v⟩,i⟩:=h;exact⟨d,⟨f,e,j.trans a,v⟩,i⟩
 | it m n g l c =>
  obtain⟨d,s,u,⟨f,e,E,seen,t,a,r,B,z,q,D⟩,i,x,y⟩:=h;have p:=A _ _ _ _ _ rfl;exact⟨d,s,u,⟨f,e,E,seen,t,p.trans a,r,B,z,j.trans q,D⟩,i,x,λF G C=>y5 j p q a (y F G C)⟩
structure fX (P:Program) (k B0:Nat) (g:Gh) (M:Mp):Prop where
 of:∀b o,M b=some o→B0≤b∧g.bH b∧lD P k g.w b o
 it:∀b m n f l c,M b=some (.it m n f l c)→∃n' f',M m=some (.mp n' f')
theorem fX.zero(P:Program)(k b:Nat)(g:Gh):fX P k b g M0:=⟨λc j a=>(by cases a),λc h i e f d a=>(by cases a)⟩
theorem fX.ext{P:Program}{k d:Nat}{g g':Gh}{e:Mp}(h:fX P k d g e)(b:aH g g'):fX P k d g' e:=by
 refine⟨λa s i=>?_,h.it⟩;obtain⟨m,f,n⟩:=h.of a s i;refine⟨m,(b.bH a f).1,n.aO (b.bH a f).2 λc r l q j o=>?_⟩;subst o;obtain⟨u,t,p⟩:=h.it a c r l q j i;exact(b.bH c (h.of c _ p).2.1).2
theorem uY{g:Gh}{h:Y}(hi:Inv g h){w':World}(d:g.w.grownBy w' none)(E:w'.heap.size=g.w.heap.size+1):∃g':Gh,g'.w=w'∧aH g g'∧Inv g' h∧g'.bH g.w.heap.size:=by
 let g':Gh:=⟨w',g.ms,λa=>g.L a∨a=g.w.heap.size⟩
 have l:∀a,a<g.w.heap.size→w'.heap[a]?=g.w.heap[a]?:=λa b=>d.block a b (by simp)
 have x:fV g g':=⟨d.os,d.tape,d.output,d.size,λ_ _ k=>k,λa b=>⟨⟨by show a<w'.heap.size;have:=b.1;omega,λi=>by
  rcases i with i|i
  ·exact b.2 i
  ·have:=b.1;omega⟩,l a b.1⟩⟩
 have n:aH g g':=⟨x,λa b=>⟨⟨by show a<w'.heap.size;have:=b.1;omega,.inl b.2.1,b.2.2⟩,l a b.1⟩⟩
 refine⟨g',rfl,n,⟨hi.len,λf o B r1 e=>?_,hi.inj,λa b=>?_,λf j e=>?_⟩,?_,.inr rfl,λf j e=>?_⟩
 ·obtain⟨m,p,k,c⟩:=hi.live f o B r1 e;refine⟨m,p,k,?_,c.fI,c.pos,.inl c.hL,c.len,c.le,c.room,c.row,λy A r z q s=>?_⟩
  ·show ∃D,w'.heap[m.b]?=_∧_;rw[l m.b (hi.g8 c.hL)];exact c.eA
  ·obtain⟨C,t,u,v⟩:=c.cell y A r z q s;exact⟨C,t,u,v.ext n⟩
 ·show a<w'.heap.size;rcases b with b|b
  ·have:=hi.L a b;omega
  ·omega
 ·show j.b<w'.heap.size;have:=hi.msb f j e;omega
 ·show g.w.heap.size<w'.heap.size;omega
 ·have:=hi.msb f j e;omega
theorem uZ{n g:Gh}{h:Y}(f:aH n g)(hi:Inv g h){b:Nat}(M:n.w.heap.size≤b)(r:g.bH b){w':World}(d:g.w.grownBy w' (some b)):∃g':Gh,g'.w=w'∧aH n g'∧fV g g'∧Inv g' h∧(∀c,g.bH c→g'.bH c):=by
 let g':Gh:=⟨w',g.ms,g.L⟩
 have k:∀c,c<g.w.heap.size→c≠b→w'.heap[c]?=g.w.heap[c]?:=λc a C=>d.block c a (by simpa using λo=>C o)
 have s:fV g g':=⟨d.os,d.tape,d.output,d.size,λ_ _ j=>j,λc a=>⟨⟨fY a.1 d.size,a.2⟩,k c a.1 λo=>a.2 (o▸r.2.1)⟩⟩
 refine⟨g',rfl,⟨⟨d.os.trans f.os,d.tape.trans f.tape,d.output.trans f.output,g9 f.size d.size,f.ms,λc a=>?_⟩,λc a=>?_⟩,s,⟨hi.len,λm t H r1 p=>?_,hi.inj,λc a=>fY (hi.L c a) d.size,λm F p=>fY (hi.msb m F p) d.size⟩,λc a=>⟨fY a.1 d.size,a.2⟩⟩
 ·obtain⟨i,q⟩:=f.V c a;refine⟨⟨fY i.1 d.size,i.2⟩,(k c i.1 ?_).trans q⟩;have:=a.1;omega
 ·obtain⟨i,q⟩:=f.bH c a;refine⟨⟨fY i.1 d.size,i.2⟩,(k c i.1 ?_).trans q⟩;have:=a.1;omega
 ·obtain⟨l,u,j,e⟩:=hi.live m t H r1 p;refine⟨l,u,j,?_,e.fI,e.pos,e.hL,e.len,e.le,e.room,e.row,λD G x E v y=>?_⟩
  ·show ∃K,w'.heap[l.b]?=_∧_;rw[k l.b (hi.g8 e.hL) (r.2.2 m l j)];exact e.eA
  ·obtain⟨I,z,A,B⟩:=e.cell D G x E v y;exact⟨I,z,A,B.fx s⟩
theorem dC.fx{n:Nat}{g g':Gh}{b:DE}{a:Act}(h:dC n g b a)(e:fV g g'):dC n g' b a:=⟨h.size,h.defers,λt c d=>(h.get t c d).fx e⟩
theorem k7{g:Gh}{v a:Value}(h:O g v (.raw a)):v=a:=by cases h;rfl
theorem oy{g:Gh}{v:Value}{i:Int}(h:O g v (.int .i64 i)):v = .int .i64 i:=by cases h;rfl
section
variable {P:Program} {X:Cx} {mt k:Nat} {g0 g:Gh} {h:Y} {nt:Nat} {e:DE} {a:Act} {M:Mp}
theorem qS(e:fX P k g0.w.heap.size g M){g':Gh}{b:Nat}(v:∀c,g.bH c→g'.bH c)(f:∀c,c<g.w.heap.size→c≠b→g'.w.heap[c]?=g.w.heap[c]?){c:Nat}{o:MO}(h:M c=some o)(q:c≠b)(r:∀m n a l d,o = .it m n a l d→m≠b):lD P k g'.w c o:=by
 obtain⟨u,j,p⟩:=e.of c o h;refine p.aO (f c j.1 q) λm n a l d i=>?_
 have:=r m n a l d i;subst i;obtain⟨x,t,s⟩:=e.it c m n a l d h;exact f m (e.of m _ s).2.1.1 this
theorem Cd (q:jh P mt k) (ab:aH g0 g) (hi:Inv g h) (cb:eC g X.gl) (ch:dC nt g e a) (i:fX P k g0.w.heap.size g M) {o:Oper} (ak:o.guard=none) {bm:MK} (c:qR X mt o.op e M bm=some ()) {bu:Array Oper} {bw:List Oper} {Q:Exit→Act→World→Prop}
  (ae:∀d bo g' v,bm d bo=some ()→aH g0 g'→fV g g'→Inv g' h→fX P k g0.w.heap.size g' bo→O g' v d→wpList P bu Q bw (a.put o.dst v) g'.w):wpList P bu Q (o::bw) a g.w:=by
 have ev:∀{j:Operand} {d:D},fw X e j=some d→O g (a.eval j) d:=λ{j d} az=>lU cb (λau d _ F=>ch.get au d F) az
 have av:=Maps.int_keyed q.hk;unfold qR at c;split at c
 ·
  rename_i au H;split at c
  case h_2=>cases c
  have c:=iP.1 c g.w.heap.size;have bj:M g.w.heap.size=none:=by
   cases x:M g.w.heap.size with
   |none=>rfl
   |some G=>have:=(i.of _ _ x).2.1.1;omega
  have c:=hU.1 c bj;obtain⟨g',B,aj,am,E⟩:=uY hi (w':=g.w.alloc (.map #[] 0)) (World.grownBy_alloc g.w _ none) (n2 _ _);refine wpList_plain ak λb2 bc=>?_
  unfold Oper.wp;have bk:(execOp a.eval o).run P g.w = .ok (.value (.map (some g.w.heap.size))) (g.w.alloc (.map #[] 0)):=by simp[execOp,H,show(Instr.makeMap au none).run P g.w = .ok (.map (some g.w.heap.size)) (g.w.alloc (.map #[] 0))from rfl,Result.andThen]
  rw[bk,jR,← B];refine bc _ _ (ae _ _ g' _ c (ab.trans aj) aj.tofV am ⟨λs G b=>?_,λs r m n R f b=>?_⟩ (.raw _))
  ·unfold Mp.set at b;split at b
   ·rename_i ai;injection b with b;subst b;subst ai;refine⟨ab.size,E,.map [],?_,iM.empty⟩;rw[B];exact World.ownsMap_made g.w P k _
   ·exact(i.ext aj).of s G b
  ·unfold Mp.set at b;split at b
   ·cases b
   ·obtain⟨C,A,p⟩:=i.it s r m n R f b;have:=(i.of _ _ p).2.1.1;refine⟨C,A,?_⟩;unfold Mp.set;rw[bO (by omega)];exact p
 ·
  rename_i au r j cq H;split at c
  case h_2=>cases c
  rename_i a3 b5 F aa a4;have F:=e9 F;subst F;unfold iY at c;split at c
  case h_2=>cases c
  rename_i s ag;split at c
  case h_2=>cases c
  rename_i m n an;obtain⟨ap,c⟩:=iQ.1 c;obtain⟨ac,ad,z,aq,L⟩:=i.of s _ an;obtain⟨ci,cj⟩:=L.2 ag ap;have aw:∀f,z.atKey (.int .i64 ag) (.lit (.int .i64 0)) = .lit (.int .i64 f)→f=(n ag).getD 0:=λf u=>by
   rw[cj]at u;cases ax:n ag with
   |none=>rw[ax]at u;simp at u;simp[u]
   |some G=>rw[ax]at u;simp at u;simp[u]
  cases cq with
  | false =>
   refine wpList_lookup_own_int g.w ak r j _ H k k .i64 av q.ht q.hk (q.z _) s m z (k7 (ev aa)) aq _ _ (oy (ev a4)) (q.key ap) λf u _=>?_
   rw[aw f u];exact ae _ _ g _ c ab (aH.refl g).tofV hi i (.int _ _)
  | true =>
   refine wpList_lookup_own_ok_int g.w ak r j _ H k k .i64 av q.ht q.hk (q.z _) s m z (k7 (ev aa)) aq _ _ (oy (ev a4)) (q.key ap) λf u _=>?_
   rw[aw f u,ci];refine ae _ _ g _ c ab (aH.refl g).tofV hi i (.bR [_,_] [_,_] rfl λN v d y K=>?_)
   match N with
   |0=>cases y;cases K;exact .int _ _
   |1=>cases y;cases K;exact .bool _
   |N+2=>cases y
 ·
  rename_i au r j v H;split at c
  case h_2=>cases c
  rename_i a3 b5 cs F aa a4 b6;have F:=e9 F;subst F;unfold j4 at c;split at c
  case h_2=>cases c
  rename_i s ag f;split at c
  case h_2=>cases c
  rename_i m n an;obtain⟨⟨ap,bg,cu⟩,c⟩:=iQ.1 c;obtain⟨ac,ad,z,aq,L⟩:=i.of s _ an;refine wpList_mapUpdate_own g.w ak r j v _ H k k av q.ht (plainElem P k) s m z (k7 (ev aa)) aq (by unfold maxLen;omega) _ _ _ (oy (ev a4)) (oy (ev b6)) (q.key ap) _ [] (plainElem_int q.hk (oN.2 bg)) λw' cf al=>?_
  obtain⟨g',B,bd,be,am,E⟩:=uZ ab hi ac ad al;have a7:∀f,f<g.w.heap.size→f≠s→g'.w.heap[f]?=g.w.heap[f]?:=λf u af=>by rw[B];exact al.block f u (by simpa using λl=>af l)
  rw[← B];refine ae _ _ g' _ c bd be am ⟨λah G b=>?_,λah r m n R f b=>?_⟩ .bF
  ·unfold Mp.kl at b;split at b
   ·rename_i ai;injection b with b;subst b;subst ai;refine⟨ac,E _ ad,_,?_,iM.put q L ap⟩;rw[B];exact cf
   ·rename_i af;split at b
    ·rename_i co cp b7 cn b3 x;split at b
     ·cases b
     ·rename_i bh;injection b with b;subst b;obtain⟨a0,a1,bv⟩:=i.of _ _ x;exact⟨a0,E _ a1,qS i E a7 x af λr m n R I l=>by injection l with l;subst l;exact bh⟩
    ·rename_i bi;obtain⟨a0,a1,bv⟩:=i.of _ _ b;exact⟨a0,E _ a1,qS i E a7 b af λr m n R I l=>absurd (l▸b) (bi r m n R I)⟩
  ·unfold Mp.kl at b;split at b
   ·cases b
   ·split at b
    ·rename_i co cp b7 cn b3 x;split at b
     ·cases b
     ·rename_i bh;injection b with b;injection b with a2 bx bz b0 b1;subst a2;obtain⟨C,A,cm⟩:=i.it _ _ _ _ _ _ x;exact⟨C,A,by unfold Mp.kl;rw[bO bh,cm]⟩
    ·rename_i bi;exact absurd b (bi _ _ _ _ _)
 ·
  rename_i au r H;split at c
  case h_2=>cases c
  rename_i a3 F aa;have F:=e9 F;subst F;unfold mu at c;split at c
  case h_2=>cases c
  rename_i s;split at c
  case h_2=>cases c
  rename_i m n an;obtain⟨ac,ad,z,aq,L⟩:=i.of s _ an;have c:=iP.1 c g.w.heap.size;have bj:M g.w.heap.size=none:=by
   cases x:M g.w.heap.size with
   |none=>rfl
   |some G=>have:=(i.of _ _ x).2.1.1;omega
  have c:=hU.1 c bj;refine wpList_range_own g.w ak r _ H k k av q.ht (plainElem P k) s m z (k7 (ev aa)) aq λw' a8 al br=>?_
  obtain⟨g',B,aj,am,E⟩:=uY hi al br;rw[← B];refine ae _ _ g' _ c (ab.trans aj) aj.tofV am ⟨λah G b=>?_,λah r m n R f b=>?_⟩ (.raw _)
  ·unfold Mp.set at b;split at b
   ·rename_i ai;injection b with b;subst b;subst ai;refine⟨ab.size,E,z,Maps.has z,Maps.size z,?_,L,λj az=>(L.2 j az).1,λj f l=>by cases l⟩;rw[B];exact a8
   ·exact(i.ext aj).of ah G b
  ·have ay:∀I G,M I=some G→∀T,(M.set g.w.heap.size T) I=some G:=λI G x T=>by
     have:=(i.of _ _ x).2.1.1;unfold Mp.set;rw[bO (by omega)];exact x
   unfold Mp.set at b;split at b
   ·injection b with b;injection b with a2 bx bz b0 b1;subst a2;exact⟨_,_,ay _ _ an _⟩
   ·obtain⟨C,A,p⟩:=i.it ah r m n R f b;exact⟨C,A,ay _ _ p _⟩
 ·
  rename_i ag H;split at c
  case h_2=>cases c
  rename_i a3 aa;unfold mr at c;split at c
  case h_2=>cases c
  rename_i ar;split at c
  case h_2=>cases c
  rename_i s m n R cr ao;obtain⟨cw,cc,cd⟩:=ff.1 c;obtain⟨ac,ad,z,bn,bp,a8,L,a5,bq⟩:=i.of ar _ ao;refine wpList_next_ranges_ii g.w ak ag H k k .i64 .i64 av q.hk q.hk s ar m z bn bp (k7 (ev aa)) a8 (λ_ b9=>?_) (λj f w' b4 cl ck b8 aw cg ct al br bf=>?_)
  ·refine ae _ _ g _ (hU.1 cc λj az=>by rw[← a5 j az];exact b9 _) ab (aH.refl g).tofV hi i (.bR [_] [_] rfl λN v d y K=>?_)
   match N with
   |0=>cases y;cases K;exact .bool _
   |N+1=>cases y
  ·have a6:=oN.1 cl;have bg:=oN.1 ck;have ca:n j=some f:=by
    have p:=(L.2 j a6).1;have ba:=(L.2 j a6).2;rw[Maps.has_true_of_atKey aw]at p;cases ax:n j with
    |none=>rw[ax]at p;cases p
    | some G =>
     have bb:=ba (.lit (.int .i64 0));rw[aw,ax]at bb;simp at bb;rw[bb]
   have c:=hU.1 (iP.1 cd (j,f)) ⟨a6,bg,by rw[← a5 j a6];exact b8,ca⟩;obtain⟨g',B,bd,be,am,E⟩:=uZ ab hi ac ad al;have a7:∀f,f<g.w.heap.size→f≠ar→g'.w.heap[f]?=g.w.heap[f]?:=λf u af=>by rw[B];exact al.block f u (by simpa using λl=>af l)
   rw[← B];refine ae _ _ g' _ c bd be am ⟨λah G b=>?_,λah r m n R f b=>?_⟩ (.bR [_,_,_] [_,_,_] rfl λN v d y K=>?_)
   ·unfold Mp.set at b;split at b
    ·rename_i ai;injection b with b;subst b;subst ai;refine⟨ac,E _ ad,z,_,b4,by rw[B];exact cg,L,λT bt=>?_,λT I l=>?_⟩
     ·have:(Lit.int .i64 T).sameKey (.int .i64 j)=(T==j):=by
        by_cases bl:T=j
        ·subst bl;rw[WideAt.sameKey_self (q.isKey bt)];simp
        ·rw[Maps.sameKey_ne (λl=>bl (by injection l))];simp[bl]
      rw[a5 T bt,this]
     ·injection l with l;injection l with p ba;subst p;subst ba;rw[B];exact bf
    ·rename_i af;obtain⟨a0,a1,bv⟩:=i.of _ _ b;refine⟨a0,E _ a1,qS i E a7 b af λr m n R I l ce=>?_⟩;subst l;obtain⟨C,A,p⟩:=i.it _ _ _ _ _ _ b;rw[ce,ao]at p;cases p
   ·have ay:∀I C A,M I=some (.mp C A)→∀T,(M.set ar T) I=some (.mp C A):=λI C A x T=>by
      unfold Mp.set;rw[bO (λl=>by rw[l,ao]at x;cases x)];exact x
    unfold Mp.set at b;split at b
    ·injection b with b;injection b with a2 bx bz b0 b1;subst a2;obtain⟨C,A,p⟩:=i.it _ _ _ _ _ _ ao;exact⟨C,A,ay _ _ _ p _⟩
    ·obtain⟨C,A,p⟩:=i.it _ _ _ _ _ _ b;exact⟨C,A,ay _ _ _ p _⟩
   ·match N with
    |0=>cases y;cases K;exact .bool _
    |1=>cases y;cases K;exact .int _ _
    |2=>cases y;cases K;exact .int _ _
    |N+3=>cases y
 ·
  rename_i ag H;split at c
  case h_2=>cases c
  rename_i a3 aa;unfold mq at c;split at c
  case h_2=>cases c
  rename_i ar;split at c
  case h_2=>cases c
  rename_i r m n R a9 ao;obtain⟨ac,ad,z,bn,bp,a8,L,a5,bq⟩:=i.of ar _ ao;have bf:=bq a9.1 a9.2 rfl;refine wpList_plain ak λb2 bc=>?_
  unfold Oper.wp;have bk:(execOp a.eval o).run P g.w = .ok (.value (.tuple #[.int .i64 a9.1,.int .i64 a9.2])) g.w:=by simp[execOp,H,k7 (ev aa),bf,Result.andThen]
  rw[bk,jR];refine bc _ _ (ae _ _ g _ c ab (aH.refl g).tofV hi i (.bR [_,_] [_,_] rfl λN v d y K=>?_))
  match N with
  |0=>cases y;cases K;exact .int _ _
  |1=>cases y;cases K;exact .int _ _
  |N+2=>cases y
 ·cases c
end
def hV:Code→Bool
 |.region _ c _=>c.toList.any λo=>uJ o.op
 |.seq a b=>hV a||hV b
 |.cond _ a b=>hV a||hV b
 |.block _ b=>hV b
 |.loop b=>hV b
 |_=>false
abbrev MB:=List D→Y→Mp→(Ex→List D→Y→Mp→Option Unit)→Option Unit
noncomputable def jF(c:Nat→List D→Y→Mp→Prop)(n:Nat)(d:Ex→List D→Y→Mp→Option Unit)(x:Ex)(ds:List D)(h:Y)(a:Mp):Option Unit:=match x with
 |.aS=>cZ (∃b,b<n∧c b ds h a) (some ())
 |x=>d x ds h a
open Classical in
noncomputable def hs(d:MB)(ds:List D)(h:Y)(a:Mp)(e:Ex→List D→Y→Mp→Option Unit):Option Unit:=
 if ∃(c:Nat→List D→Y→Mp→Prop) (b:Nat),c b ds h a∧∀b ds h a,c b ds h a→d ds h a (jF c b e)=some ()then some ()else none
theorem mn{c:MB}{ds:List D}{h:Y}{a:Mp}{d:Ex→List D→Y→Mp→Option Unit}(b:Nat→List D→Y→Mp→Prop)(n:Nat)(e:b n ds h a)(f:∀n ds h a,b n ds h a→c ds h a (jF b n d)=some ()):hs c ds h a d=some ():=bB ⟨b,n,e,f⟩
noncomputable def mK(X:Cx)(j:bC)(l:gi)(e:jI)(mt:Nat):Code→DE→Y→Mp→(Ex→DE→Y→Mp→Option Unit)→Option Unit
 | .region id n o,f,h,i,g=>match hV (.region id n o)with
  |false=>cK X j l e (.region id n o) f h Unit λx e' h'=>g x e' h' i
  | true=>match o with
   |false=>mv X j e.nt e.V e.dL mt n.toList n.toList f h i (g .aS)
   |true=>none
 | .seq a b,f,h,i,g=>match hV (.seq a b)with
  |false=>cK X j l e (.seq a b) f h Unit λx e' h'=>g x e' h' i
  |true=>mK X j l e mt a f h i λx e' h' m=>dS x (mK X j l e mt b e' h' m g) λx=>g x e' h' m
 | .cond c a b,f,h,i,g=>match hV (.cond c a b)with
  |false=>cK X j l e (.cond c a b) f h Unit λx e' h'=>g x e' h' i
  | true=>match fw X f c with
   |none=>none
   |some d=>bG d (mK X j l e mt a f h i g) (mK X j l e mt b f h i g)
 | .block id b,f,h,i,g=>match hV (.block id b)with
  |false=>cK X j l e (.block id b) f h Unit λx e' h'=>g x e' h' i
  |true=>mK X j l e mt b f h i λx e' h' m=>g (cL id x) e' h' m
 | .loop b,f,h,i,g=>match hV (.loop b)with
  |false=>cK X j l e (.loop b) f h Unit λx e' h'=>g x e' h' i
  |true=>hs (λds h' m k=>mK X j l e mt b (eY (eW e.aO b) ds (h5 e.aO b f)) h' m λx e' q p=>k x (fM e' (eW e.aO b)) q p) (fM f (eW e.aO b)) h i
    λx ds h' m=>g x (eY (eW e.aO b) ds (h5 e.aO b f)) h' m
 |c,f,h,i,g=>cK X j l e c f h Unit λx e' h'=>g x e' h' i
noncomputable def mF(X:Cx)(d:bC)(g:gi)(mt:Nat)(a:dW)(args:List D)(h:Y)(c:D→Y→Option Unit):Option Unit:=match Nat.ble args.length a.A.nt with
 |true=>mK X d g a.A mt a.body (eY (List.range args.length) args []) h M0 λi f b _=>fa i (jC X b f a.res λe=>c (aK e) b)
 |false=>none
section
variable {P:Program} {X:Cx} {mt k:Nat}
theorem mw(G:jh P mt k)(H:aZ P X.T){ad:bC}(I:eH P X ad){ab:Nat}{V ah:List Nat}{l:List Oper}{F:Gh}(C:eC F X.gl){Q:Exit→Act→World→Prop}:∀(ac:List Oper) (A:DE) (h:Y) (E:Mp) (M:DE→Y→Mp→Option Unit),mv X ad ab V ah mt l ac A h E M=some () →
  ∀(g:Gh) (a:Act),aH F g→Inv g h→dC ab g A a→fX P k F.w.heap.size g E→(∀e' h' b g' f,M e' h' b=some ()→(∀t,t∉dF ac→aQ e' t=aQ A t)→aH F g'→Inv g' h'→dC ab g' e' f→fX P k F.w.heap.size g' b→Q .normal f g'.w)→wpList P l.toArray Q ac a g.w
 |[],A,h,E,M,m,g,a,p,hi,n,L,D=>D A h E g a m (λ_ _=>rfl) p hi n L
 | o::r,A,h,E,M,m,g,a,p,hi,n,L,D=>by
  simp only[mv]at m;split at m
  ·split at m
   case h_2=>cases m
   rename_i aj;refine Cd G p hi (C.ext p) n L aj m λd b g' v j ae af K ag R=>?_
   rcases q0 j with⟨c,j⟩|⟨t,c,N,j⟩
   ·rw[c];refine mw G H I C r _ _ _ _ j g' a ae K (n.fx af) ag λe' h' b g' f q k2 s u x y=>D e' h' b g' f q (λz e=>k2 z λi=>e ?_) s u x y
    simp only[dF,jg,c]at i ⊢;exact i
   ·rw[c];refine mw G H I C r _ _ _ _ j g' _ ae K ((n.fx af).put N R) ag λe' h' b g' f q k2 s u x y=>D e' h' b g' f q (λz e=>?_) s u x y
    simp only[dF,jg,c,e7,not_or]at e;rw[k2 z e.2,fJ,bO (λi=>e.1 i.symm)]
  ·obtain⟨d,h',al,ai⟩:=ou m;have am:ky P l.toArray Q o a g (wpList P l.toArray Q r):=by
    refine mB H I al hi (C.ext p) (λt d _ an=>n.get t d an) λg' v B K R _=>?_
    rcases ai with⟨c,j⟩|⟨t,c,N,j⟩
    ·rw[c];refine mw G H I C r _ _ _ _ j g' a (p.trans B) K (n.ext B) (L.ext B) λe' h' b g' f q k2 s u x y=>D e' h' b g' f q (λz e=>k2 z λi=>e ?_) s u x y
     simp only[dF,jg,c]at i ⊢;exact i
    ·rw[c];refine mw G H I C r _ _ _ _ j g' _ (p.trans B) K ((n.ext B).put N R) (L.ext B) λe' h' b g' f q k2 s u x y=>D e' h' b g' f q (λz e=>?_) s u x y
     simp only[dF,jg,c,e7,not_or]at e;rw[k2 z e.2,fJ,bO (λi=>e.1 i.symm)]
   unfold wpList;rcases am with⟨aa,ao⟩|⟨aa,ak⟩
   ·rw[bB aa];exact .inl ao
   ·rw[bO (by simp[aa])];exact ak
theorem Cb (bf:jh P mt k) (a5:aZ P X.T) (bn:P.follows .mixedOrders=true) {am:bC} (a6:eH P X am) {loop:gi} (bl:ks loop) {p:jI} {v:Gh} (ap:eC v X.gl):∀(c:Code) (d:DE) (h:Y) (e:Mp) (f:Ex→DE→Y→Mp→Option Unit),mK X am loop p mt c d h e f=some () →
  ∀(Q:Exit→Act→World→Prop) (g:Gh) (a:Act),aH v g→Inv g h→dC p.nt g d a→fX P k v.w.heap.size g e→(∀x e' h' y g' A,f x e' h' y=some ()→iO p.aO c d e'→aH v g'→Inv g' h'→dC p.nt g' e' A→fX P k v.w.heap.size g' y→Q (cv x) A g'.w)→c.wp P Q a g.w:=by
 have r:∀(c:Code) (d:DE) (h:Y) (e:Mp) (f:Ex→DE→Y→Mp→Option Unit),(cK X am loop p c d h Unit λx e' h'=>f x e' h' e)=some () →
  ∀(Q:Exit→Act→World→Prop) (g:Gh) (a:Act),aH v g→Inv g h→dC p.nt g d a→fX P k v.w.heap.size g e→(∀x e' h' y g' A,f x e' h' y=some ()→iO p.aO c d e'→aH v g'→Inv g' h'→dC p.nt g' e' A→fX P k v.w.heap.size g' y→Q (cv x) A g'.w)→c.wp P Q a g.w:=λc d h e f b Q g a o t q u n =>
  tq a5 bn a6 bl c d h Unit _ () b Q g a t (ap.ext o) q λx e' h' g' A ax ay ak az a0=>n x e' h' e g' A ax ay (o.trans ak) az a0 (u.ext ak)
 intro c
 induction c with
 |skip=>intro d h e f b;exact r _ d h e f b
 |label a1=>intro d h e f b;exact r _ d h e f b
 |ret=>intro d h e f b;exact r _ d h e f b
 |exit D=>intro d h e f b;exact r _ d h e f b
 |goto a1=>intro d h e f b;exact r _ d h e f b
 |scope B aj=>intro d h e f b;exact r _ d h e f b
 |refuse a8=>intro d h e f b;exact r _ d h e f b
 |rangeFunc bx b2 bv B b0 b1=>intro d h e f b;exact r _ d h e f b
 | region id bu bw =>
  intro d h e f b;simp only[mK]at b;split at b
  ·exact r _ d h e f b
  ·intro Q g a o t q u n;obtain⟨a1⟩:=bu;split at b
   ·refine wp_region_lit (mw bf a5 a6 ap a1 d h e (f .aS) b g a o t q u λe' h' y g' A ax ay ak az a0 bq=>?_);exact n .aS e' h' y g' A ax (λj _ ai=>ay j (by rw[pU]at ai;exact ai)) ak az a0 bq
   ·cases b
 | seq x a9 av aw =>
  intro d h e f b;simp only[mK]at b;split at b
  ·exact r _ d h e f b
  ·intro Q g a o t q u n;refine wp_seq (av d h e _ b _ g a o t q u λbb z i s w m ar bo R F K G=>?_);have au:∀j,j∈p.aO→j∉dG (.seq x a9)→aQ z j=aQ d j:=λj i l=>bo j i (λE=>l (by simp[dG,E]))
   cases bb with
   | aS =>
    refine aw z i s f ar Q w m R F K G λa4 ao l L M af bj ac bh aa ad ab=>n a4 ao l L M af bj (λj i l=>?_) bh aa ad ab
    rw[ac j i (λE=>l (by simp[dG,E])),au j i l]
   |ext D=>exact n (.ext D) z i s w m ar au R F K G
   |ret=>exact n .ret z i s w m ar au R F K G
 | cond a3 x a9 av aw =>
  intro d h e f b;simp only[mK]at b;split at b
  ·exact r _ d h e f b
  ·intro Q g a o t q u n;split at b
   ·cases b
   rename_i an bg;have a7:O g (a.eval a3) an:=lU (ap.ext o) (λj an _ ai=>q.get j an ai) bg;obtain⟨B,rfl,ah⟩:=pO b;have I:a.eval a3 = .bool B:=by
    generalize bz:a.eval a3=b3 at a7;cases a7;rfl
   cases B with
   |true=>exact wp_cond_true I (av d h e f ah Q g a o t q u λae z i s w m C H=>n ae z i s w m C (λj i l=>H j i (λE=>l (by simp[dG,E]))))
   |false=>exact wp_cond_false I (aw d h e f ah Q g a o t q u λae z i s w m C H=>n ae z i s w m C (λj i l=>H j i (λE=>l (by simp[dG,E]))))
 | block id B aj =>
  intro d h e f b;simp only[mK]at b;split at b
  ·exact r _ d h e f b
  ·intro Q g a o t q u n;have bp:∀(x:Ex) (m:Act) (al:World),Q (cv (cL id x)) m al→Exit.inBlock id Q (cv x) m al:=λx m al I=>by
    cases x with
    |aS=>exact I
    |ret=>exact I
    | ext D =>
     simp only[cv,Exit.inBlock];by_cases aq:D=id
     ·subst aq;rw[bB rfl];simpa[cL,cv]using I
     ·rw[bO aq];have:Nat.beq D id=false:=by
       cases ah:Nat.beq D id with
       |false=>rfl
       |true=>exact absurd (e9 ah) aq
      simpa[cL,this,cv]using I
   exact wp_block (aj d h e _ b _ g a o t q u λae z i s w m C H N F K G=>bp _ _ _ (n (cL id ae) z i s w m C H N F K G))
 | loop B aj =>
  intro d h e f b;simp only[mK]at b;split at b
  ·exact r _ d h e f b
  ·intro Q g a o t q u n;unfold hs at b;split at b
   case isFalse=>cases b
   rename_i bi;obtain⟨ba,bt,be,bc⟩:=bi;refine wp_loop_ghost (λa2 a a8=>∃ag h' y g',a8=g'.w∧aH v g'∧Inv g' h'∧dC p.nt g' (eY (eW p.aO B) ag (h5 p.aO B d)) a∧fX P k v.w.heap.size g' y∧ba a2 ag h' y) bt
    ⟨_,h,e,g,rfl,o,t,iD (e':=d) (λ_ _ _=>rfl) q,u,be⟩ ?_
   rintro a2 m al ⟨ag,i,s,w,rfl,R,F,K,G,bk⟩;refine aj _ i s _ (bc a2 ag i s bk) _ w m R F K G λa4 ao l L M af C H N aa ad ab=>?_
   have ac:iO p.aO B d ao:=λj i l=>by
    rw[H j i l];exact jx j i l
   cases a4 with
   | aS =>
    obtain⟨⟨br,bm,bd⟩,_⟩:=iQ.1 C;exact⟨br,bm,_,l,L,M,rfl,N,aa,iD ac ad,ab,bd⟩
   |ext D=>exact n (.ext D) _ l L M af C jx N aa (iD ac ad) ab
   |ret=>exact n .ret _ l L M af C jx N aa (iD ac ad) ab
theorem vg (N:jh P mt k) (A:aZ P X.T) (ah:P.follows .mixedOrders=true) {v:bC} (R:eH P X v) {L:gi} (ag:ks L) {x:FuncId} {l:dW} (C:cN P x l) {args:List D} {h:Y} {r:D × Y}
  (m:(mF X v L mt l args h λd h'=>cZ (scope h h' d=some r) (some ()))=some ()) {g:Gh} {vs:List Value} (hi:Inv g h) (ad:eC g X.gl) (I:aI g vs args):jK P x vs g r.2 r.1:=by
 refine .inl ⟨C.enter _ _,?_⟩;obtain⟨z,ac,Q,ai,al⟩:=C.body;unfold mF at m;split at m
 case h_2=>cases m
 rename_i H;have H:=cC H;have a0:=I.length;refine calls_of_wp ac Q (Cb N A ah R ag ad l.body _ h _ _ m _ g _ (aH.refl g) hi ⟨by simp[ai];omega,rfl,λs j aq=>?_⟩ (fX.zero P k _ g) λj M c av o u q az aa F K ay=>?_)
 ·have au:∀(f:List Nat) (b:List D),f.length=b.length→aQ (eY f b []) s=some j→∃a:Nat,f[a]?=some s∧b[a]?=some j:=by
    intro f
    induction f with
    |nil=>intro b _ h;cases h
    | cons t r ar =>
     intro b G h;cases b with
     |nil=>cases G
     | cons d b =>
      simp only[eY,l9,mP]at h;rw[fJ]at h;split at h
      ·rename_i an;injection h with h;exact⟨0,by simp[an],by simp[h]⟩
      ·obtain⟨a,p,c⟩:=ar b (by simpa using G) h;exact⟨a+1,by simpa using p,by simpa using c⟩
  obtain⟨a,p,c⟩:=au _ _ (by simp) aq;have af:a=s:=by
   have:=(aP.1 p).2;simpa using this
  subst af;have ax:=(aP.1 c).1;have E:vs[a]?=some (vs[a]'(by omega)):=bX (by omega);have:(vs.toArray++Array.replicate (z.ntmps - vs.toArray.size) undef).getD a undef=vs[a]'(by omega):=by
   rw[cM,oT (by simp;omega)];simp[E]
  rw[this];exact I.get a _ j E c
 ·have y:(jC X c M l.res λb=>cZ (scope h c (aK b)=some r) (some ()))=some ()→u.defers=[]∧∃i,(results z u.tmps).run P o.w = .ok i o.w∧∃t,Ending.returned i = .returned t∧∃e,e.w=o.w∧aH g e∧Inv e r.2∧O e t r.1:=λn=>by
    refine⟨K.defers,?_⟩;rw[oz]at n;obtain⟨b,B,n⟩:=ff.1 n;have am:=(iQ.1 n).1;rw[← al]at B;obtain⟨i,ao,aj⟩:=q4 A F K B;obtain⟨e,ap,ab,ae,ak⟩:=wg hi aa F aj am;exact⟨i,ao,i,rfl,e,ap,ab,ae,ak⟩
  cases j with
  |ext a=>cases q
  |aS=>exact y q
  |ret=>exact y q
end
end Go.Pi
namespace Go.Eng
abbrev hH:=@List.mem_singleton
abbrev ie:=@List.take_add_one
abbrev pc:=@List.nodup_cons
end Go.Eng
namespace Go.Proofs.Ytinlnkhheafjaaa
open Go.Eng Go.Pi
open Option renaming bind_some → ES
section
structure gL (lt:Nat→Nat→Prop):Prop where
 ir:∀a,¬lt a a
 tr:∀a b c,lt a b→lt b c→lt a c
 kj:∀a b,lt a b∨a=b∨lt b a
theorem gL.nn{lt:Nat→Nat→Prop}(d:gL lt){a b c:Nat}(h:¬lt b a)(k:¬lt c b):¬lt c a:=λg=>by
 rcases d.kj a b with e|e|e
 ·rcases d.kj b c with f|f|f
  ·exact d.ir _ (d.tr _ _ _ (d.tr _ _ _ e f) g)
  ·subst f;exact d.ir _ (d.tr _ _ _ e g)
  ·exact k f
 ·subst e;exact k g
 ·exact h e
theorem gL.as{lt:Nat→Nat→Prop}(c:gL lt){a b:Nat}(h:lt a b):¬lt b a:=λd=>c.ir _ (c.tr _ _ _ h d)
def gy(a:Nat→Nat)(i j:Nat):Nat→Nat:=λb=>if b=i then a j else if b=j then a i else a b
theorem kx(a:Nat→Nat)(i j:Nat):gy a i j i=a j:=by simp[-ES,gy]
theorem lH(a:Nat→Nat)(i j:Nat):gy a i j j=a i:=by unfold gy;split<;>simp_all [-ES]
theorem ij{a:Nat→Nat}{i j k:Nat}(b:k≠i)(h2:k≠j):gy a i j k=a k:=by simp[-ES,gy,b,h2]
def eT(lt:Nat→Nat→Prop)(b:Nat→Nat)(n:Nat):Prop:=∀a,0<a→a<n→¬lt (b a) (b ((a - 1) / 2))
structure lG (lt:Nat→Nat→Prop) (f:Nat→Nat) (n j:Nat):Prop where
 qQ:j<n
 h:∀k,0<k→k<n→k≠j→¬lt (f k) (f ((k - 1) / 2))
 g:∀k,0<j→k<n→0<k→(k - 1) / 2=j→¬lt (f k) (f ((j - 1) / 2))
theorem xd{lt:Nat→Nat→Prop}{a g:Nat→Nat}{n:Nat}(h:eT lt a n)(c:∀k,k<n→g k=a k):lG lt g (n+1) n:=by
 refine⟨by omega,λk b d f=>?_,λk b d e i=>by omega⟩;rw[c k (by omega),c _ (by omega)];exact h k b (by omega)
theorem xf{lt:Nat→Nat→Prop}{a:Nat→Nat}{n j:Nat}(h:lG lt a n j)(b:j=0∨¬lt (a j) (a ((j - 1) / 2))):eT lt a n:=λd e f=>by
 by_cases c:d=j
 ·subst c;rcases b with b|b
  ·omega
  ·exact b
 ·exact h.h d e f c
theorem xe{lt:Nat→Nat→Prop}(i:gL lt){d:Nat→Nat}{n j:Nat}(h:lG lt d n j)(r:0<j)(l:lt (d j) (d ((j - 1) / 2))):lG lt (gy d ((j - 1) / 2) j) n ((j - 1) / 2):=by
 obtain⟨c,k⟩:∃c,c=(j - 1) / 2:=⟨_,rfl⟩
 rw[← k]at l ⊢;have w:=h.qQ;refine⟨by omega,λa f e t=>?_,λa v e f u=>?_⟩
 ·by_cases b:a=j
  ·subst b;rw[← k,lH,kx];exact i.as l
  ·rw [ij t b];by_cases m:(a - 1) / 2=c
   ·rw[m,kx];have:=h.h a f e b;rw[m]at this;exact λs=>this (i.tr _ _ _ s l)
   ·by_cases o:(a - 1) / 2=j
    ·rw[o,lH];have:=h.g a r e f o;rw[← k]at this;exact this
    ·rw[ij m o];exact h.h a f e b
 ·have q:gy d c j ((c - 1) / 2)=d ((c - 1) / 2):=ij (by omega) (by omega);rw[q];have p:=h.h c v (by omega) (by omega);by_cases b:a=j
  ·subst b;rw[lH];exact p
  ·rw[ij (by omega) b];have:=h.h a f e b;rw[u]at this;exact i.nn p this
structure lF (lt:Nat→Nat→Prop) (f:Nat→Nat) (n i:Nat):Prop where
 h:∀k,0<k→k<n→(k - 1) / 2≠i→¬lt (f k) (f ((k - 1) / 2))
 g:∀k,0<k→k<n→(k - 1) / 2=i→0<i→¬lt (f k) (f ((i - 1) / 2))
theorem wW{lt:Nat→Nat→Prop}{b g:Nat→Nat}{n:Nat}(h:eT lt b (n+1))(c:∀k,0<k→k<n→g k=b k):lF lt g n 0:=by
 refine⟨λk a d e=>?_,λk a d e f=>by omega⟩;rw[c k a d,c _ (by omega) (by omega)];exact h k a (by omega)
theorem wY{lt:Nat→Nat→Prop}{a:Nat→Nat}{n i:Nat}(h:lF lt a n i)(e:∀k,0<k→k<n→(k - 1) / 2=i→¬lt (a k) (a i)):eT lt a n:=λk d c=>by
 by_cases b:(k - 1) / 2=i
 ·rw[b];exact e k d c b
 ·exact h.h k d c b
theorem wX{lt:Nat→Nat→Prop}(o:gL lt){a:Nat→Nat}{n i j:Nat}(h:lF lt a n i)(t:0<j)(q:j<n)(e:(j - 1) / 2=i)(s:∀k,0<k→k<n→(k - 1) / 2=i→¬lt (a k) (a j))(r:lt (a j) (a i)):lF lt (gy a i j) n j:=by
 refine⟨λk b c f=>?_,λk b c f _=>?_⟩
 ·by_cases m:k=j
  ·subst m;rw[e,lH,kx];exact o.as r
  ·by_cases l:k=i
   ·subst l;have p:gy a k j ((k - 1) / 2)=a ((k - 1) / 2):=ij (by omega) (by omega);rw[p,kx];exact h.g j t q e b
   ·rw[ij l m];by_cases d:(k - 1) / 2=i
    ·rw[d,kx];exact s k b c d
    ·rw[ij d f];exact h.h k b c d
 ·rw[e,kx,ij (by omega) (by omega)];have:=h.h k b c (by omega);rw[f]at this;exact this
theorem w8{lt:Nat→Nat→Prop}(b:gL lt){a:Nat→Nat}{n:Nat}(h:eT lt a n):∀k,k<n→¬lt (a k) (a 0):=by
 intro k
 induction k using Nat.strongRecOn with
 | ind k e =>
  intro d;by_cases c:k=0
  ·subst c;exact b.ir _
  ·exact b.nn (e ((k - 1) / 2) (by omega) (by omega)) (h k (by omega) d)
def aB(l:List Nat)(k:Nat):Nat:=l[k]?.getD 0
def gz(l:List Nat)(i j:Nat):List Nat:=(l.set i (aB l j)).set j (aB l i)
theorem nm(l:List Nat)(i j:Nat):(gz l i j).length=l.length:=by simp[-ES,gz]
theorem nk{l:List Nat}{i j:Nat}(hi:i<l.length)(c:j<l.length):∀k,aB (gz l i j) k=gy (aB l) i j k:=λk=>by
 unfold gz aB gy;by_cases b:k=j
 ·subst b;rw[iK (by simpa using c)];by_cases a:k=i
  ·subst a;simp[-ES]
  ·simp[-ES,a]
 ·rw[g7 (by omega)];by_cases a:k=i
  ·subst a;rw[iK hi];simp[-ES]
  ·rw[g7 (by omega)];simp[-ES,b,a]
theorem np{l:List Nat}{i j:Nat}(hi:i<l.length)(a:j<l.length):(gz l i j).Perm l:=by
 have b:aB l i=l[i]:=by simp[-ES,aB,bX hi]
 have c:aB l j=l[j]:=by simp[-ES,aB,bX a]
 unfold gz;rw[b,c];exact List.set_set_perm hi a
end
section
theorem jS:∀{l r:List Nat},l.Nodup→(∀x∈l,x∈r)→l.length≤r.length
 |[],r,_,_=>by simp
 | a::l,r,h,k=>by
  have b:=pc.1 h;have c:a∈r:=k a (by simp);have f:=jS (r:=r.erase a) b.2 λx d=>(List.mem_erase_of_ne (λe=>b.1 (by rw[← e];exact d))).2 (k x (by simp[-ES,d]))
  have g:=List.length_erase_of_mem c;have i:0<r.length:=List.length_pos_of_mem c;simp only[eS];omega
variable (n:Nat) (fl rk:Nat→Int)
def bM(a b:Nat):Prop:=rk b<rk a∨(rk a=rk b∧a<b)
instance (a b:Nat):Decidable (bM rk a b):=by unfold bM;exact inferInstance
theorem fZ:gL (bM rk):=by
 refine⟨λa=>?_,λa b c=>?_,λa b=>?_⟩<;>unfold bM<;>omega
def eK(ps:List Nat)(i:Nat):Prop:=i<n∧i∉ps∧∀a,a<i→fl a=fl i→a∈ps
inductive cO:List Nat→Prop
 |nil:cO []
 |snoc {ps:List Nat} {b:Nat} (h:cO ps) (hf:eK n fl ps b) (hm:∀i,eK n fl ps i→¬bM rk i b):cO (ps++[b])
variable {n fl rk}
theorem cO.inv{l:List Nat}(h:cO n fl rk l):l=[]∨∃ps b,l=ps++[b]∧cO n fl rk ps∧eK n fl ps b∧∀i,eK n fl ps i→¬bM rk i b:=by
 cases h with
 |nil=>exact .inl rfl
 |snoc h a c=>exact .inr ⟨_,_,rfl,h,a,c⟩
theorem cO.tN:∀(m:Nat) {l r:List Nat},cO n fl rk l→cO n fl rk r→l.length=m→r.length=m→l=r
 |0,l,r,_,_,a,d=>by rw[List.length_eq_zero_iff.1 a,List.length_eq_zero_iff.1 d]
 | m+1,l,r,h,k,a,d=>by
  rcases h.inv with rfl|⟨ps,b,rfl,e,h2,f⟩
  ·simp at a
  rcases k.inv with rfl|⟨j,c,rfl,g,k2,i⟩
  ·simp at d
  simp at a d;have:=cO.tN m e g a d;subst this;have:b=c:=by
   rcases(fZ rk).kj b c with h|h|h
   ·exact absurd h (i b h2)
   ·exact h
   ·exact absurd h (f c k2)
  rw[this]
theorem cO.mem{l:List Nat}(h:cO n fl rk l):∀x∈l,x<n:=by
 induction h with
 |nil=>simp[-ES]
 | snoc h b d c =>
  intro x a;rcases fk.1 a with a|a
  ·exact c x a
  ·rw[hH.1 a];exact b.1
theorem cO.nodup{l:List Nat}(h:cO n fl rk l):l.Nodup:=by
 induction h with
 |nil=>exact List.nodup_nil
 | snoc h a f e =>
  rw[List.nodup_append];exact⟨e,by simp,λg c i d=>by rw[hH.1 d];exact λb=>a.2.1 (b▸c)⟩
theorem cO.closed{l:List Nat}(h:cO n fl rk l):∀x∈l,∀k,k<x→fl k=fl x→k∈l:=by
 induction h with
 |nil=>simp[-ES]
 | snoc h d f e =>
  intro x a k b c;rcases fk.1 a with a|a
  ·exact lC _ (e x a k b c)
  ·rw[hH.1 a]at b c;exact lC _ (d.2.2 k b c)
theorem cO.len{l:List Nat}(h:cO n fl rk l):l.length≤n:=by
 have:=jS h.nodup λb a=>hG.2 (h.mem b a)
 simpa using this
theorem sV{ps:List Nat}(p:ps.Nodup)(o:∀x∈ps,x<n)(m:ps.length<n):∃i,eK n fl ps i:=by
 have e:∃i,i<n∧i∉ps:=oV λc=>by
  have:=jS (l:=List.range n) (r:=ps) List.nodup_range λx h=>oV λg=>c ⟨x,hG.1 h,g⟩
  simp at this;omega
 obtain⟨i,d⟩:=e
 induction i using Nat.strongRecOn with
 | ind i j =>
  by_cases c:∀b,b<i→fl b=fl i→b∈ps
  ·exact⟨i,d.1,d.2,c⟩
  ·obtain⟨b,a⟩:=oW.1 c;obtain⟨f,a⟩:=Classical.not_imp.1 a;obtain⟨k,a⟩:=Classical.not_imp.1 a;exact j b f ⟨by omega,a⟩
def pj(n:Nat)(fl:Nat→Int)(k:Nat):Option Nat→Prop
 |some j=>k<j∧j<n∧fl j=fl k∧∀m,k<m→m<j→fl m≠fl k
 |none=>∀m,k<m→m<n→fl m≠fl k
theorem w4{ps:List Nat}(t:∀x∈ps,∀k,k<x→fl k=fl x→k∈ps){k:Nat}(m:eK n fl ps k){a:Option Nat}(q:pj n fl k a)(i:Nat):
  eK n fl (ps++[k]) i↔(eK n fl ps i∧i≠k)∨a=some i:=by
 constructor
 ·rintro⟨j,c,f⟩;simp only[fk,hH,not_or]at c f;by_cases b:fl i=fl k
  ·right;have u:k<i:=by
    rcases hI k i with h|h|h
    ·exact h
    ·exact absurd h.symm c.2
    ·exact absurd (m.2.2 i h b) c.1
   cases a with
   |none=>exact absurd b (q i u j)
   | some r =>
    obtain⟨o,s,e,p⟩:=q;rcases hI i r with h|h|h
    ·exact absurd b (p i u h)
    ·rw[h]
    ·rcases f r h (by rw[e,b])with l|l
     ·exact absurd (t r l k o e.symm) m.2.1
     ·omega
  ·left;refine⟨⟨j,c.1,λd g v=>?_⟩,c.2⟩;rcases f d g v with h|h
   ·exact h
   ·subst h;exact absurd v.symm b
 ·rintro(⟨⟨j,c,f⟩,l⟩|rfl)
  ·exact⟨j,by simp[-ES,c,l],λd g b=>lC _ (f d g b)⟩
  ·obtain⟨o,s,e,p⟩:=q;refine⟨s,?_,λd g b=>?_⟩
   ·simp only[fk,hH,not_or];exact⟨λh=>m.2.1 (t i h k o e.symm),by omega⟩
   ·rw[e]at b;rcases hI k d with h|h|h
    ·exact absurd b (p d h g)
    ·subst h;simp[-ES]
    ·exact lC _ (m.2.2 d h b)
end
section
variable {n:Nat} {fl rk:Nat→Int}
theorem sX{lt:Nat→Nat→Prop}(d:gL lt):∀(l:List Nat),l≠[]→∃b∈l,∀i∈l,¬lt i b
 |[],h=>absurd rfl h
 |[a],_=>⟨a,by simp,λi hi=>by rw[hH.1 hi];exact d.ir _⟩
 | a::c::l,_=>by
  obtain⟨b,f,e⟩:=sX d (c::l) (by simp);rcases d.kj a b with h|h|h
  ·refine⟨a,by simp,λi hi=>?_⟩;rcases e7.1 hi with rfl|hi
   ·exact d.ir _
   ·exact λg=>e i hi (d.tr _ _ _ g h)
  ·refine⟨b,eP _ f,λi hi=>?_⟩;rcases e7.1 hi with rfl|hi
   ·subst h;exact d.ir _
   ·exact e i hi
  ·refine⟨b,eP _ f,λi hi=>?_⟩;rcases e7.1 hi with rfl|hi
   ·exact d.as h
   ·exact e i hi
theorem wV{ps:List Nat}(h:∃i,eK n fl ps i):∃b,eK n fl ps b∧∀i,eK n fl ps i→¬bM rk i b:=by
 classical
 obtain⟨j,a⟩:=h;have g:(List.range n).filter (λi=>decide (eK n fl ps i))≠[]:=λe=>by
  have:j∈(List.range n).filter (λi=>decide (eK n fl ps i)):=eQ.2 ⟨hG.2 a.1,by simp[-ES,a]⟩;rw[e]at this;cases this
 obtain⟨b,d,f⟩:=sX (fZ rk) _ g;refine⟨b,by simpa using(eQ.1 d).2,λi c=>f i (eQ.2 ⟨hG.2 c.1,by simp[-ES,c]⟩)⟩
theorem cO.ex:∀m,m≤n→∃l,cO n fl rk l∧l.length=m
 |0,_=>⟨[],.nil,rfl⟩
 | m+1,h=>by
  obtain⟨l,a,h2⟩:=cO.ex m (by omega);obtain⟨b,c,d⟩:=wV (rk:=rk) (sV a.nodup a.mem (by omega));exact⟨l++[b],.snoc a c d,by simp[-ES,h2]⟩
noncomputable def gm(n:Nat)(fl rk:Nat→Int)(m:Nat):List Nat:=Classical.choose (cO.ex (n:=n) (fl:=fl) (rk:=rk) (min m n) (Nat.min_le_right _ _))
theorem pv(m:Nat):cO n fl rk (gm n fl rk m)∧(gm n fl rk m).length=min m n:=h7 (cO.ex (n:=n) (fl:=fl) (rk:=rk) (min m n) (Nat.min_le_right _ _))
theorem sY{l:List Nat}{m:Nat}(h:cO n fl rk l)(a:l.length=min m n):l=gm n fl rk m:=h.tN _ (pv m).1 a (pv m).2
theorem cO.kD{ps:List Nat}{b:Nat}(h:cO n fl rk ps)(e:eK n fl ps b):((List.range b).filter λk=>decide (fl k=fl b)).length=(ps.filter λx=>decide (fl x=fl b)).length:=by
 have i:∀x∈(List.range b).filter λk=>decide (fl k=fl b),x∈ps.filter λx=>decide (fl x=fl b):=λx f=>by
  obtain⟨d,a⟩:=eQ.1 f;exact eQ.2 ⟨e.2.2 x (hG.1 d) (by simpa using a),a⟩
 have j:∀x∈ps.filter λx=>decide (fl x=fl b),x∈(List.range b).filter λk=>decide (fl k=fl b):=λx f=>by
  obtain⟨d,a⟩:=eQ.1 f;have g:fl x=fl b:=by simpa using a
  refine eQ.2 ⟨hG.2 ?_,a⟩;rcases hI x b with c|c|c
  ·exact c
  ·subst c;exact absurd d e.2.1
  ·exact absurd (h.closed x d b c g.symm) e.2.1
 have l:((List.range b).filter λk=>decide (fl k=fl b)).Nodup:=List.nodup_range.filter _;have m:(ps.filter λx=>decide (fl x=fl b)).Nodup:=h.nodup.filter _;have o:=jS l i;have p:=jS m j;omega
theorem cO.xx{l:List Nat}(h:cO n fl rk l):∀(t b:Nat),l[t]?=some b→cO n fl rk (l.take t)∧eK n fl (l.take t) b:=by
 induction h with
 |nil=>intro t b a;cases a
 | snoc h d j g =>
  rename_i c i;intro t b a;by_cases e:t<c.length
  ·rw[cU e]at a;rw[List.take_append_of_le_length (by omega)];exact g t b a
  ·have f:t=c.length:=by
     have:=(aP.1 a).1;simp at this;omega
   subst f;rw[fW (aX _)]at a;simp at a;subst a;rw[List.take_left']
   ·exact⟨h,d⟩
   ·rfl
end
section
variable {n:Nat} {fl rk:Nat→Int}
def fo(n:Nat)(fl:Nat→Int)(k:Nat)(b:Int):Option Nat:=(List.range n).find? λa=>decide (k≤a)&&decide (fl a=b)
theorem jk{k:Nat}{c:Int}{j:Nat}:fo n fl k c=some j↔(k≤j∧j<n∧fl j=c∧∀m,k≤m→m<j→fl m≠c):=by
 unfold fo;rw[List.find?_eq_some_iff_getElem];constructor
 ·rintro⟨a,o,g,b,d⟩;simp only[List.getElem_range]at b;subst b;simp only[cY,pT]at a;simp only[List.length_range]at g;refine⟨a.1,g,a.2,λm f i l=>?_⟩;have:=d m i;simp[-ES,f,l]at this
 ·rintro⟨a,b,d,h⟩;refine⟨by simp[-ES,a,d],j,by simpa using b,by simp,λm f=>?_⟩;simp only[List.getElem_range];by_cases e:k≤m
  ·simp[-ES,e,h m e f]
  ·simp[-ES,e]
theorem pt{k:Nat}{c:Int}:fo n fl k c=none↔∀m,k≤m→m<n→fl m≠c:=by
 unfold fo;rw[List.find?_eq_none];constructor
 ·intro a m e b f;exact a m (hG.2 b) (by simp[-ES,e,f])
 ·intro a m b;have:=hG.1 b;simp only[cY,pT];exact λd=>a m d.1 this d.2
theorem w9{k:Nat}(a:k<n):fo n fl k (fl k)=some k:=jk.2 ⟨aX _,a,rfl,λd b c=>by omega⟩
theorem xb{k:Nat}{b:Int}(h:fl k≠b):fo n fl k b=fo n fl (k+1) b:=by
 cases c:fo n fl (k+1) b with
 | none =>
  rw[pt]at c ⊢;intro a i l;by_cases d:a=k
  ·subst d;exact h
  ·exact c a (by omega) l
 | some o =>
  rw[jk]at c ⊢;obtain⟨m,e,f,g⟩:=c;refine⟨by omega,e,f,λa i j=>?_⟩;by_cases d:a=k
  ·subst d;exact h
  ·exact g a (by omega) j
theorem xa(a:Int):fo n fl n a=none:=pt.2 λd b c=>by omega
theorem wT(k:Nat):pj n fl k (fo n fl (k+1) (fl k)):=by
 cases a:fo n fl (k+1) (fl k)with
 | none =>
  rw[pt]at a;exact λc d b=>a c (by omega) b
 | some i =>
  rw[jk]at a;obtain⟨d,b,e,f⟩:=a;exact⟨by omega,b,e,λc h g=>f c (by omega) g⟩
theorem w3(i:Nat):eK n fl [] i↔fo n fl 0 (fl i)=some i:=by
 rw[jk];unfold eK;constructor
 ·rintro⟨a,_,b⟩;exact⟨gK _,a,rfl,λe _ c d=>by cases b e c d⟩
 ·rintro⟨_,a,_,b⟩;exact⟨a,by simp,λe c d=>absurd d (b e (gK _) c)⟩
def jj(n:Nat)(fl:Nat→Int)(ps:List Nat)(b:List Nat):Prop:=b.Nodup∧∀a,a∈b↔eK n fl ps a
theorem w6{ps a:List Nat}(h:jj n fl ps a):a.length≤n:=by
 have:=jS (r:=List.range n) h.1 λc b=>hG.2 ((h.2 c).1 b).1
 simpa using this
theorem w5{ps a:List Nat}(h:jj n fl ps a){b:Nat}(c:b∈a)(e:∀i∈a,¬bM rk i b):eK n fl ps b∧∀i,eK n fl ps i→¬bM rk i b:=
 ⟨(h.2 b).1 c,λi d=>e i ((h.2 i).2 d)⟩
theorem sW{ps o:List Nat}(v:cO n fl rk ps)(h:jj n fl ps o){b:Nat}{i j:List Nat}(d:o.Perm (b::i)){a:Option Nat}(f:pj n fl b a)(m:j.Perm (a.toList++i)):jj n fl (ps++[b]) j:=by
 have u:(b::i).Nodup:=d.nodup_iff.1 h.1;obtain⟨q,l⟩:=pc.1 u;have k:eK n fl ps b:=(h.2 b).1 (d.mem_iff.2 (by simp));have t:∀e,e∈j↔eK n fl (ps++[b]) e:=λe=>by
  rw[w4 v.closed k f,m.mem_iff,fk,← h.2 e,d.mem_iff,e7];constructor
  ·rintro(c|c)
   ·right;cases a with
    |none=>simp at c
    |some g=>simp at c;rw[c]
   ·left;exact⟨.inr c,λr=>q (r▸c)⟩
  ·rintro(⟨c|c,p⟩|c)
   ·exact absurd c p
   ·exact .inr c
   ·left;rw[c];simp[-ES]
 refine⟨m.nodup_iff.2 ?_,t⟩;cases a with
 |none=>simpa using l
 | some g =>
  simp only[Option.toList_some,List.singleton_append];refine pc.2 ⟨λs=>?_,l⟩;have c:eK n fl ps g:=(h.2 g).1 (d.mem_iff.2 (eP _ s));have:=c.2.2 b f.1 f.2.2.1.symm;exact k.2.1 this
theorem w7{ps:List Nat}(h:jj n fl ps [])(a:cO n fl rk ps):ps.length=n:=by
 have:=a.len;rcases ez ps.length n with b|b
 ·obtain⟨d,c⟩:=sV (fl:=fl) a.nodup a.mem b;exact absurd ((h.2 d).2 c) (by simp)
 ·omega
end
section
variable {lt:Nat→Nat→Prop}
theorem sU{l:List Nat}{N k:Nat}(h:k<N):aB (l.take N) k=aB l k:=by
 unfold aB;rw[dX,bB h]
theorem wU{l r:List Nat}{k:Nat}(h:k<l.length):aB (l++r) k=aB l k:=by
 unfold aB;rw[cU h]
theorem xc{l:List Nat}{N:Nat}(h:l.length=N+1):l.Perm (aB l N::l.take N):=by
 have d:l=l.take N++[aB l N]:=by
  have a:l.take (N+1)=l.take N++l[N]?.toList:=ie;rw[fE (by omega)]at a;have b:l[N]?=some l[N]:=bX (by omega);have c:aB l N=l[N]:=by unfold aB;rw[b];rfl
  rw[c];rw[b]at a;exact a
 exact(List.Perm.of_eq d).trans List.perm_append_comm
structure kv (lt:Nat→Nat→Prop) (l0 l:List Nat) (j:Nat):Prop where
 p:l.Perm l0
 u:lG lt (aB l) l.length j
theorem xg{l:List Nat}(x:Nat)(h:eT lt (aB l) l.length):kv lt (l++[x]) (l++[x]) l.length:=by
 refine⟨List.Perm.refl _,?_⟩;rw[e6];exact xd h λb a=>wU a
theorem sZ{a l:List Nat}{j:Nat}(h:kv lt a l j)(b:j=0∨¬lt (aB l j) (aB l ((j - 1) / 2))):l.Perm a∧eT lt (aB l) l.length:=⟨h.p,xf h.u b⟩
theorem xh(c:gL lt){b l:List Nat}{j:Nat}(h:kv lt b l j)(d:0<j)(e:lt (aB l j) (aB l ((j - 1) / 2))):kv lt b (gz l ((j - 1) / 2) j) ((j - 1) / 2):=by
 have a:=h.u.qQ;refine⟨(np (by omega) a).trans h.p,?_⟩;have:=xe c h.u d e;rw[nm,show aB (gz l ((j - 1) / 2) j)=gy (aB l) ((j - 1) / 2) j from funext (nk (by omega) a)];exact this
structure ji (lt:Nat→Nat→Prop) (l0 l:List Nat) (N i:Nat):Prop where
 p:l.Perm l0
 n:l.length=N+1
 x:aB l N=aB l0 0
 d:lF lt (aB l) N i
theorem wZ{l:List Nat}{N:Nat}(a:l.length=N+1)(h:eT lt (aB l) l.length):ji lt l (gz l 0 N) N 0:=by
 rw[a]at h;refine⟨np (by omega) (by omega),by rw[nm,a],?_,wW h λc d b=>?_⟩
 ·rw[nk (by omega) (by omega),lH]
 ·rw[nk (by omega) (by omega),ij (by omega) (by omega)]
theorem pq(c:gL lt){b l:List Nat}{N i j:Nat}(h:ji lt b l N i)(o:0<j)(e:j<N)(m:(j - 1) / 2=i)(g:∀k,0<k→k<N→(k - 1) / 2=i→¬lt (aB l k) (aB l j))(f:lt (aB l j) (aB l i)):ji lt b (gz l i j) N j:=by
 have q:=h.n;have a:aB (gz l i j)=gy (aB l) i j:=funext (nk (by omega) (by omega));refine⟨(np (by omega) (by omega)).trans h.p,by rw[nm];exact h.n,?_,?_⟩
 ·rw[a,ij (by omega) (by omega)];exact h.x
 ·rw[a];exact wX c h.d o e m g f
theorem w2(c:gL lt){a l:List Nat}{N i:Nat}(e:eT lt (aB a) a.length)(h:ji lt a l N i)(m:∀k,0<k→k<N→(k - 1) / 2=i→¬lt (aB l k) (aB l i)):
  a.Perm (aB a 0::l.take N)∧eT lt (aB (l.take N)) (l.take N).length∧∀y∈a,¬lt y (aB a 0):=by
 have f:=wY h.d m;have g:(l.take N).length=N:=by rw[lA,h.n];omega
 refine⟨?_,?_,λy o=>?_⟩
 ·have:=xc h.n;rw[h.x]at this;exact h.p.symm.trans this
 ·rw[g];intro k q b;rw[sU b,sU (by omega)];exact f k q b
 ·obtain⟨k,b⟩:=jM o;have j:=(aP.1 b).1;have:=w8 c e k j;unfold aB at this;rw[b]at this;exact this
theorem po(b:gL lt){l:List Nat}{N i:Nat}(j:Nat)(e:(2*i+2<N∧lt (aB l (2*i+2)) (aB l (2*i+1))∧j=2*i+2)∨((¬2*i+2<N∨¬lt (aB l (2*i+2)) (aB l (2*i+1)))∧j=2*i+1)):
  ∀k,0<k→k<N→(k - 1) / 2=i→¬lt (aB l k) (aB l j):=λk h f g=>by
 have c:k=2*i+1∨k=2*i+2:=by omega
 rcases e with⟨a,d,rfl⟩|⟨a,rfl⟩
 ·rcases c with rfl|rfl
  ·exact b.as d
  ·exact b.ir _
 ·rcases c with rfl|rfl
  ·exact b.ir _
  ·rcases a with a|a
   ·exact absurd f a
   ·exact a
end
end Go.Proofs.Ytinlnkhheafjaaa
namespace Go.Proofs.Ytinlnkhheafjaaa
open Go.Eng Go.Pi
def pk{a:Type}(l:List a)(ps:List Nat):List a:=ps.filterMap λb=>l[b]?
def k9(z:Nat):D→Option (List (List D))
 |.J=>some []
 |.sl a _ rows=>if a=z then some rows else none
 |_=>none
def mb(j:Nat)(row:List D):Int:=match row[j]? with
 |some (.int .i64 a)=>a
 |_=>0
def fg(l:List Int)(k:Nat):Int:=l[k]?.getD 0
def qP(p:Int × Int × List UInt8):List D:=[.int .i64 p.1,.int .i64 p.2.1,.str p.2.2]
def zd(p:List UInt8 × List UInt8):List D:=[.str p.1,.str p.2]
def m5(row:List D):Prop:=∃(k l m:List UInt8) (f a g h i j:Int) (d b:D) (e:List (Int × Int × List UInt8)) (c:List (List UInt8 × List UInt8)),
 row=[.str k,.int .i64 f,.int .i64 a,.int .i64 g,.int .i64 h,d,.int .i64 i,.int .i64 j,.str l,.str m,b]∧aY 3 qP e d∧e.length≤9223372036854775807∧aY 2 zd c b∧c.length≤9223372036854775807 ∧ -9223372036854775808≤a∧a≤9223372036854775807
def wS(a c:List (List D)):Prop:=a.length=c.length∧a.length≤400000000∧(∀b∈a,m5 b)∧∀b∈c,∃d,b=[.int .i64 d]
def jb(z:Nat)(rows:List (List D)):D:=match rows with
 |[] =>.J
 |_ =>.sl z false rows
noncomputable def qU(a b:List (List D))(m:Int):List (List D):=pk a (gm a.length (fg (a.map (mb 2))) (fg (b.map (mb 0))) m.toNat)
open Classical in
noncomputable def kH(args:List D)(h:Y):Option (D × Y):=match args with
 | [d,e,.int .i64 c]=>match k9 11 d,k9 1 e with
  |some a,some b=>if wS a b then some (jb 11 (qU a b c),h)else none
  |_,_=>none
 |_=>none
abbrev U:Nat:=3
abbrev ll:Nat:=5
abbrev cB:Nat:=9
abbrev ER:Nat:=20
abbrev hz:Nat:=22
abbrev cD:Nat:=24
abbrev aL:Nat:=25
abbrev bS:Nat:=32
abbrev fS:Nat:=33
abbrev aE:Nat:=35
abbrev aN:Nat:=37
abbrev bP:Nat:=41
abbrev fT:Nat:=44
abbrev fj:Nat:=46
abbrev gE:Nat:=48
abbrev cJ:Nat:=51
abbrev g5:Nat:=68
abbrev bQ:Nat:=71
abbrev uv:Nat:=3
abbrev l2:Nat:=7
abbrev lZ:Nat:=5
abbrev jZ:Nat:=6
abbrev l6:Nat:=8
abbrev j0:Nat:=9
abbrev fh:Nat:=10
abbrev nK:Nat:=11
abbrev nM:Nat:=12
abbrev nN:Nat:=13
abbrev l4:Nat:=14
abbrev p1:Nat:=15
abbrev p5:Nat:=16
abbrev p6:Nat:=17
abbrev p3:Nat:=18
abbrev nL:Nat:=19
abbrev eM:Nat:=20
abbrev nO:Nat:=21
abbrev nP:Nat:=22
abbrev nS:Nat:=23
abbrev nT:Nat:=24
abbrev nU:Nat:=25
abbrev nV:Nat:=26
abbrev p2:Nat:=44
abbrev nQ:Nat:=45
abbrev nR:Nat:=46
abbrev l5:Nat:=47
abbrev p4:Nat:=48
abbrev nW:Nat:=49
abbrev nX:Nat:=50
noncomputable def dR:TI:=⟨.int .i64,1,8,[.int .i64 0],[]⟩
noncomputable def rC:TI:=⟨.int .u8,1,1,[.int .u8 0],[]⟩
noncomputable def wB:TI:=⟨.str,1,16,[.str []],[]⟩
noncomputable def wA:TI:=⟨.uH,1,16,[.gY],[]⟩
noncomputable def rz:TI:=⟨.sl 5,1,24,[.J],[]⟩
noncomputable def ry:TI:=⟨.sl 37,1,24,[.J],[]⟩
noncomputable def jc:TI:=⟨.sl 3,1,24,[.J],[]⟩
noncomputable def rA:TI:=⟨.sl 41,1,24,[.J],[]⟩
noncomputable def rB:TI:=⟨.sl 68,1,24,[.J],[]⟩
noncomputable def oK:TI:=⟨.st [(3,0,1),(3,1,1),(3,2,1),(3,3,1),(32,4,1),(3,5,1),(3,6,1),(9,7,1),(9,8,1),(33,9,1)],10,128,[.int .i64 0,.int .i64 0,.int .i64 0,.int .i64 0,.J,.int .i64 0,.int .i64 0,.str [],.str [],.J],[]⟩
noncomputable def rD:TI:=⟨.st [(9,0,1),(35,1,10)],11,144,[.str [],.int .i64 0,.int .i64 0,.int .i64 0,.int .i64 0,.J,.int .i64 0,.int .i64 0,.str [],.str [],.J],[]⟩
noncomputable def rE:TI:=⟨.st [(3,0,1),(3,1,1),(9,2,1)],3,32,[.int .i64 0,.int .i64 0,.str []],[]⟩
noncomputable def oL:TI:=⟨.st [(22,0,1),(3,1,1)],2,32,[.J,.int .i64 0],[]⟩
noncomputable def wy:TI:=⟨.arr 3 3,3,24,[.int .i64 0,.int .i64 0,.int .i64 0],[]⟩
noncomputable def wz:TI:=⟨.ptr 51,1,8,[.e5],[("Len",some 14),("Less",some 44),("Pop",some 45),("Push",some 46),("Swap",some 47)]⟩
noncomputable def oJ:TI:=⟨.st [(25,0,1),(25,1,1)],2,48,[.J,.J],[]⟩
noncomputable def rv:TI:=⟨.st [(9,0,1),(9,1,1)],2,32,[.str [],.str []],[]⟩
noncomputable def wC:TI:=⟨.sl 9,1,24,[.J],[]⟩
noncomputable def wv:List (Option TI):=[none,none,none,some dR,none,some rC,none,none,none,some wB,none,none,none,none,none,none,none,none,none,none,some wA,none,some rz,none,some ry,some jc,none,none,none,none,none,none,some rA,some rB,none,some oK,none,some rD,none,none,none,some rE,none,none,some oL,none,some wy,none,some wz,none,none,some oJ,none,none,none,none,none,none,none,none,none,none,none,none,none,none,none,none,some rv,none,none,some wC]
noncomputable def tab:aM:=rp wv
abbrev fq(t:Nat)(i:TI):Prop:=lj Try.prog t=some i∧kP Try.prog t=true
theorem fN{t:Nat}{i:TI}(h:lj Try.prog t=some i:=by kernel_rfl)(a:kP Try.prog t=true:=by kernel_rfl):fq t i:=⟨h,a⟩
theorem Du:fq 3 dR:=fN
theorem DD:fq 5 rC:=fN
theorem DI:fq 9 wB:=fN
theorem Dq:fq 20 wA:=fN
theorem Dr:fq 22 rz:=fN
theorem Ds:fq 24 ry:=fN
theorem Dt:fq 25 jc:=fN
theorem Dv:fq 32 rA:=fN
theorem Dw:fq 33 rB:=fN
theorem Dx:fq 35 oK:=fN
theorem Dy:fq 37 rD:=fN
theorem Dz:fq 41 rE:=fN
theorem DA:fq 44 oL:=fN
theorem DB:fq 46 wy:=fN
theorem DC:fq 48 wz:=fN
theorem DF:fq 51 oJ:=fN
theorem DG:fq 68 rv:=fN
theorem DH:fq 71 wC:=fN
theorem oI:aZ Try.prog tab:=Dp (show lJ Try.prog 0 wv from⟨Du,DD,DI,Dq,Dr,Ds,Dt,Dv,Dw,Dx,Dy,Dz,DA,DB,DC,DF,DG,DH,trivial⟩)
theorem oj:Try.prog.follows .mixedOrders=true:=by kernel_rfl
def dZ(a:Func)(n:Nat)(k z b:List Nat)(s:Bool):dW:=⟨a.body.getD .skip,a.results.toList,⟨n,k,z,b⟩,s⟩
noncomputable def i5:=dZ Try.f5 15 [0,1,4,8] [] [] false
noncomputable def i6:=dZ Try.f6 99 [0,1,4,5,6,7,8,9,10,11,12,13,14,30,52,53,54] [90,95] [] true
noncomputable def i8:=dZ Try.f8 86 [0,1,2,3,4,5,6] [2,3,1000006] [] true
noncomputable def i9:=dZ Try.f9 14 [0,1,4] [11] [] true
noncomputable def qe:=dZ Try.f10 33 [0,1,4,11] [] [] false
noncomputable def qf:=dZ Try.f11 52 [0,2,3,4,5,10,24,25,26] [3,43,48] [] true
noncomputable def qg:=dZ Try.f12 8 [0,2,4] [5] [] false
noncomputable def qh:=dZ Try.f13 12 [0,1] [] [] false
noncomputable def qi:=dZ Try.f14 8 [0,2] [] [] false
noncomputable def qj:=dZ Try.f15 15 [0,2,3] [] [] false
noncomputable def qk:=dZ Try.f16 26 [0,1,4,5,10,14,25] [] [] false
noncomputable def ql:=dZ Try.f17 26 [0,1,4,5,10,14,25] [] [] false
noncomputable def qm:=dZ Try.f18 13 [0,2] [] [] false
noncomputable def qn:=dZ Try.f19 49 [0,2,3,4] [4,15,21,24,1000003] [] true
noncomputable def qo:=dZ Try.f20 12 [0,1,4] [] [] false
noncomputable def qp:=dZ Try.f21 23 [0,1,4,17] [] [] false
noncomputable def qq:=dZ Try.f22 48 [0,1,2,6,7,8,9,10,21,33,39] [] [] false
noncomputable def qs:=dZ Try.f23 25 [0,2,3,5,6,7,8,9,14] [6,18,21] [] true
noncomputable def qt:=dZ Try.f24 38 [0,1,2,3,8,9,10,11,17,25] [31] [] true
noncomputable def qu:=dZ Try.f25 98 [0,2,4,5,31,47,57,68,80] [8,13,18,23,28,34,39,44,50,54,60,65,71,76,83,88,93] [] false
noncomputable def qv:=dZ Try.f26 21 [0,1,4,5,6,12] [17] [] false
noncomputable def qx:=dZ Try.f44 44 [0,1,2,6,7,8] [41] [] false
noncomputable def qy:=dZ Try.f45 29 [0,2,3,4] [] [] false
noncomputable def qz:=dZ Try.f46 15 [0,1] [11] [] false
noncomputable def qA:=dZ Try.f47 32 [0,1,2] [] [] false
noncomputable def qB:=dZ Try.f48 18 [0,2,3,5,6,7,8,9,14] [] [] false
noncomputable def qC:=dZ Try.f49 20 [0,1,4,5,6,11,12,13,16,19] [] [] false
noncomputable def qD:=dZ Try.f50 6 [0,2] [] [] false
noncomputable def p7:List (Nat × dW):=[(5,i5),(6,i6),(8,i8),(9,i9),(10,qe),(11,qf),(12,qg),(13,qh),(14,qi),(15,qj),(16,qk),(17,ql),(18,qm),(19,qn),(20,qo),(21,qp),(22,qq),(23,qs),(24,qt),(25,qu),(26,qv),(44,qx),(45,qy),(46,qz),(47,qA),(48,qB),(49,qC),(50,qD)]
noncomputable def Fs:FuncId→Option dW:=l7 p7
theorem ew{a:FuncId}{c:Func}{b:dW}(g:Try.prog.funcs[a]?=some c)(f:∀(d:Array Value) (w:World),(callFunc a d).run Try.prog w = .ok (.enter a d) w)(e:c.body=some b.body:=by kernel_rfl)(h:c.ntmps=b.A.nt:=by kernel_rfl)(i:c.results.toList=b.res:=by kernel_rfl):cN Try.prog a b :=.of g e h i f
theorem zC:cN Try.prog 5 i5:=ew Try.func5 Try.call5
theorem zE:cN Try.prog 6 i6:=ew Try.func6 Try.call6
theorem zG:cN Try.prog 8 i8:=ew Try.func8 Try.call8
theorem zH:cN Try.prog 9 i9:=ew Try.func9 Try.call9
theorem ze:cN Try.prog 10 qe:=ew Try.func10 Try.call10
theorem zf:cN Try.prog 11 qf:=ew Try.func11 Try.call11
theorem zg:cN Try.prog 12 qg:=ew Try.func12 Try.call12
theorem zh:cN Try.prog 13 qh:=ew Try.func13 Try.call13
theorem zi:cN Try.prog 14 qi:=ew Try.func14 Try.call14
theorem zj:cN Try.prog 15 qj:=ew Try.func15 Try.call15
theorem zk:cN Try.prog 16 qk:=ew Try.func16 Try.call16
theorem zl:cN Try.prog 17 ql:=ew Try.func17 Try.call17
theorem zm:cN Try.prog 18 qm:=ew Try.func18 Try.call18
theorem zn:cN Try.prog 19 qn:=ew Try.func19 Try.call19
theorem zo:cN Try.prog 20 qo:=ew Try.func20 Try.call20
theorem zp:cN Try.prog 21 qp:=ew Try.func21 Try.call21
theorem zq:cN Try.prog 22 qq:=ew Try.func22 Try.call22
theorem zr:cN Try.prog 23 qs:=ew Try.func23 Try.call23
theorem zs:cN Try.prog 24 qt:=ew Try.func24 Try.call24
theorem zt:cN Try.prog 25 qu:=ew Try.func25 Try.call25
theorem zu:cN Try.prog 26 qv:=ew Try.func26 Try.call26
theorem zw:cN Try.prog 44 qx:=ew Try.func44 Try.call44
theorem zx:cN Try.prog 45 qy:=ew Try.func45 Try.call45
theorem zy:cN Try.prog 46 qz:=ew Try.func46 Try.call46
theorem zz:cN Try.prog 47 qA:=ew Try.func47 Try.call47
theorem zA:cN Try.prog 48 qB:=ew Try.func48 Try.call48
theorem zB:cN Try.prog 49 qC:=ew Try.func49 Try.call49
theorem zD:cN Try.prog 50 qD:=ew Try.func50 Try.call50
theorem zN:m3 Try.prog p7:=⟨zC,zE,zG,zH,ze,zf,zg,zh,zi,zj,zk,zl,zm,zn,zo,zp,zq,zr,zs,zt,zu,zw,zx,zy,zz,zA,zB,zD,trivial⟩
noncomputable def gl:Nat→Option D:=λ_=>none
noncomputable def xt:bC:=λ_ _ _=>none
theorem DY(X:Cx):eH Try.prog X xt:=λc args d b e a=>by cases a
noncomputable def X:Cx:=⟨tab,gl,xt⟩
noncomputable def R:bC:=dV X Fs
theorem er(b:dW){a:FuncId}{args:List D}{h:Y}{x:Option (D × Y)}(c:Fs a=some b:=by kernel_rfl)(d:nY X R cT b args h=x:=by kernel_rfl):R a args h=x:=(v9 c args h).trans d
theorem s0:eH Try.prog X R:=wb (X:=X) oI oj (DY X) (p9 p7 zN)
noncomputable section
def rV(a b:D)(h:Y):Option (D × Y):=
 (bT tab hz a).bind λc=>(S tab .gtr U c b).bind λc=>(bG c
  ((ga tab hz false true false [a,b]).bind λb=>some (.aS,[b],h))
  (some (.aS,[a],h))).bind λa=>dS a.1 ((dE tab fT [0] [(W 0 a.2.1)]).bind λb=>(mR fT 2 a.2.2 b).bind λb=>some (aK [b.1],b.2)) λb=>fa b (some (aK [.e5],a.2.2))
theorem nD(a b:D)(h:Y):R lZ [a,b] h=rV a b h:=
 er i5
def oX(a b c:D)(d:List D)(e:Y):Option cS:=
 (S tab .lss U (W 1 d) c).bind λc=>bG c
  ((bE tab bS b (W 1 d)).bind λf=>(aD tab bP 0 f).bind λf=>(aA tab e U f).bind λf=>(S tab .add U f a).bind λa=>(bE tab bS b (W 1 d)).bind λb=>(aD tab bP 0 b).bind λb=>((bU tab e U b a).bind λa=>some ((.bF:D),a)).bind λa=>(S tab .add U (W 1 d) (.int .i64 1)).bind λb=>some (.aS,[(W 1 d),b,c],a.2))
  (some ((.ext 2),[(W 0 d),(W 1 d),c],e))
def m1(a:D)(b:D × Y)(ds:List D)(c:Y):Option cS:=
 (S tab .gtr U (W 2 ds) (.int .i64 0)).bind λd=>bG d
  ((R nK [a] c).bind λe=>(some ((.ptr e.2.length 0 0:D),aF e.2 aN 11 [[.str [],.int .i64 0,.int .i64 0,.int .i64 0,.int .i64 0,.J,.int .i64 0,.int .i64 0,.str [],.str [],.J]])).bind λf=>((bU tab f.2 aN f.1 e.1).bind λe=>some ((.bF:D),e)).bind λg=>(R fh [a,.int .i64 3] g.2).bind λg=>(aD tab aN 1 f.1).bind λh=>(aD tab aE 1 h).bind λh=>((bU tab g.2 U h g.1).bind λe=>some ((.bF:D),e)).bind λh=>(bE tab fj b.1 g.1).bind λi=>(aA tab h.2 U i).bind λi=>(aD tab aN 1 f.1).bind λj=>(aD tab aE 2 j).bind λj=>(aA tab h.2 U j).bind λj=>(S tab .sub U i j).bind λi=>(aD tab aN 1 f.1).bind λj=>(aD tab aE 4 j).bind λj=>(aA tab h.2 bS j).bind λj=>(dM tab h.2 bS bS (.J) j).bind λh=>(bT tab bS h.1).bind λj=>((cT (oX i h.1 j) [(W 7 ds),.int .i64 0,(W 11 ds)] h.2).bind λk=>some ((cL 2 k.1),[(W 0 k.2.1),(W 1 k.2.1),(W 2 k.2.1)],k.2.2)).bind λk=>dS k.1 ((aD tab aN 1 f.1).bind λl=>(aD tab aE 2 l).bind λl=>(aA tab k.2.2 U l).bind λl=>(S tab .add U l i).bind λl=>(aD tab aN 1 f.1).bind λm=>(aD tab aE 3 m).bind λm=>(aA tab k.2.2 U m).bind λm=>(S tab .add U m i).bind λm=>(aD tab aN 1 f.1).bind λn=>(aD tab aE 4 n).bind λn=>((bU tab k.2.2 bS n h.1).bind λe=>some ((.bF:D),e)).bind λn=>(aD tab aN 1 f.1).bind λo=>(aD tab aE 2 o).bind λo=>((bU tab n.2 U o l).bind λe=>some ((.bF:D),e)).bind λl=>(aD tab aN 1 f.1).bind λn=>(aD tab aE 3 n).bind λn=>((bU tab l.2 U n m).bind λe=>some ((.bF:D),e)).bind λl=>(aD tab aN 1 f.1).bind λm=>(aD tab aE 3 m).bind λm=>(aA tab l.2 U m).bind λm=>(bE tab fj b.1 g.1).bind λb=>((bU tab l.2 U b m).bind λe=>some ((.bF:D),e)).bind λb=>(aA tab b.2 aN f.1).bind λe=>(bA tab cD 1 [0] [e]).bind λe=>(dM tab b.2 cD cD (W 0 ds) e).bind λb=>(R fh [a,.int .i64 4] b.2).bind λa=>(bA tab aL 1 [0] [a.1]).bind λe=>(dM tab a.2 aL aL (W 1 ds) e).bind λa=>(S tab .sub U (W 2 ds) (.int .i64 1)).bind λe=>some (.aS,[b.1,a.1,e,f.1,g.1,i,h.1,(W 0 k.2.1),d,j,(W 1 k.2.1),(W 2 k.2.1)],a.2)) λa=>dS (cL 1 a) ((S tab .sub U (W 2 ds) (.int .i64 1)).bind λa=>some (.aS,[(W 0 ds),(W 1 ds),a,f.1,g.1,i,h.1,(W 0 k.2.1),d,j,(W 1 k.2.1),(W 2 k.2.1)],k.2.2)) λa=>some (a,[(W 0 ds),(W 1 ds),(W 2 ds),f.1,g.1,i,h.1,(W 0 k.2.1),d,j,(W 1 k.2.1),(W 2 k.2.1)],k.2.2))
  (some ((.ext 0),[(W 0 ds),(W 1 ds),(W 2 ds),(W 3 ds),(W 4 ds),(W 5 ds),(W 6 ds),(W 7 ds),d,(W 9 ds),(W 10 ds),(W 11 ds)],c))
def rZ(a b:D)(h:Y):Option (D × Y):=
 (R fh [a,.int .i64 4] h).bind λc=>(S tab .mul U (.int .i64 10) c.1).bind λd=>(R fh [a,.int .i64 4] c.2).bind λc=>(S tab .mul U (.int .i64 10) c.1).bind λe=>(R fh [a,.int .i64 4] c.2).bind λc=>(S tab .mul U (.int .i64 10) c.1).bind λf=>(dE tab fj [0,1,2] [d,e,f]).bind λd=>(some ((.ptr c.2.length 0 0:D),aF c.2 fj 3 [[.int .i64 0,.int .i64 0,.int .i64 0]])).bind λc=>((bU tab c.2 fj c.1 d).bind λd=>some ((.bF:D),d)).bind λd=>(S tab .add U b (.int .i64 1)).bind λb=>(R fh [a,b] d.2).bind λb=>((cT (m1 a c) [.J,.J,b.1,.any,.any,.any,.any,.any,.any,.any,.any,.any] b.2).bind λa=>some ((cL 0 a.1),[(W 0 a.2.1),(W 1 a.2.1),(W 2 a.2.1),(W 3 a.2.1),(W 4 a.2.1),(W 5 a.2.1),(W 6 a.2.1),(W 7 a.2.1),(W 8 a.2.1),(W 9 a.2.1),(W 10 a.2.1),(W 11 a.2.1)],a.2.2)).bind λa=>dS a.1 (scope h a.2.2 (aK [(W 0 a.2.1),(W 1 a.2.1)])) λb=>fa b (scope h a.2.2 (aK [.J,.J]))
theorem yF(a b:D)(h:Y):R jZ [a,b] h=rZ a b h:=
 er i6
def sk(a b:D)(h:Y):Option (D × Y):=
 (jz a).bind λa=>(jz b).bind λb=>(aD tab aN 1 a).bind λc=>(aA tab h aE c).bind λd=>(aD tab aN 1 b).bind λe=>(aA tab h aE e).bind λf=>(some ((.ptr h.length 0 0:D),aF h aE 10 [[.int .i64 0,.int .i64 0,.int .i64 0,.int .i64 0,.J,.int .i64 0,.int .i64 0,.str [],.str [],.J]])).bind λg=>(some (.any:D)).bind λi=>((bU tab g.2 aE g.1 d).bind λi=>some ((.bF:D),i)).bind λj=>cZ (aA tab g.2 aE c=some d)
 (cZ (aA tab g.2 aE e=some f)
 (cZ (aA tab j.2 aE e=some f)
 (((bU tab (aF j.2 aE 10 [[.int .i64 0,.int .i64 0,.int .i64 0,.int .i64 0,.J,.int .i64 0,.int .i64 0,.str [],.str [],.J]]) aE (.ptr j.2.length 0 0) f).bind λi=>some ((.bF:D),i)).bind λc=>(aD tab aN 0 a).bind λa=>(aA tab c.2 cB a).bind λa=>(aD tab aN 0 b).bind λb=>(aA tab c.2 cB b).bind λb=>(S tab .eql cB a b).bind λa=>(gd a true (aD tab aE 0 g.1)).bind λb=>(gd a true (aA tab c.2 U b)).bind λb=>(gd a true (aD tab aE 0 (.ptr j.2.length 0 0))).bind λd=>(gd a true (aA tab c.2 U d)).bind λd=>(gd a true (S tab .eql U b d)).bind λb=>(e2 a b (.bool false)).bind λa=>(gd a true (aD tab aE 1 g.1)).bind λb=>(gd a true (aA tab c.2 U b)).bind λb=>(gd a true (aD tab aE 1 (.ptr j.2.length 0 0))).bind λd=>(gd a true (aA tab c.2 U d)).bind λd=>(gd a true (S tab .eql U b d)).bind λb=>(e2 a b (.bool false)).bind λa=>(gd a true (aD tab aE 2 g.1)).bind λb=>(gd a true (aA tab c.2 U b)).bind λb=>(gd a true (aD tab aE 2 (.ptr j.2.length 0 0))).bind λd=>(gd a true (aA tab c.2 U d)).bind λd=>(gd a true (S tab .eql U b d)).bind λb=>(e2 a b (.bool false)).bind λa=>(gd a true (aD tab aE 3 g.1)).bind λb=>(gd a true (aA tab c.2 U b)).bind λb=>(gd a true (aD tab aE 3 (.ptr j.2.length 0 0))).bind λd=>(gd a true (aA tab c.2 U d)).bind λd=>(gd a true (S tab .eql U b d)).bind λb=>(e2 a b (.bool false)).bind λa=>(gd a true (aD tab aE 5 g.1)).bind λb=>(gd a true (aA tab c.2 U b)).bind λb=>(gd a true (aD tab aE 5 (.ptr j.2.length 0 0))).bind λd=>(gd a true (aA tab c.2 U d)).bind λd=>(gd a true (S tab .eql U b d)).bind λb=>(e2 a b (.bool false)).bind λa=>(gd a true (aD tab aE 6 g.1)).bind λb=>(gd a true (aA tab c.2 U b)).bind λb=>(gd a true (aD tab aE 6 (.ptr j.2.length 0 0))).bind λd=>(gd a true (aA tab c.2 U d)).bind λd=>(gd a true (S tab .eql U b d)).bind λb=>(e2 a b (.bool false)).bind λa=>(gd a true (aD tab aE 7 g.1)).bind λb=>(gd a true (aA tab c.2 cB b)).bind λb=>(gd a true (aD tab aE 7 (.ptr j.2.length 0 0))).bind λd=>(gd a true (aA tab c.2 cB d)).bind λd=>(gd a true (S tab .eql cB b d)).bind λb=>(e2 a b (.bool false)).bind λa=>(gd a true (aD tab aE 8 g.1)).bind λb=>(gd a true (aA tab c.2 cB b)).bind λb=>(gd a true (aD tab aE 8 (.ptr j.2.length 0 0))).bind λd=>(gd a true (aA tab c.2 cB d)).bind λd=>(gd a true (S tab .eql cB b d)).bind λb=>(e2 a b (.bool false)).bind λa=>(gd a true (aD tab aE 4 g.1)).bind λb=>(gd a true (aA tab c.2 bS b)).bind λb=>(gd a true (aD tab aE 4 (.ptr j.2.length 0 0))).bind λd=>(gd a true (aA tab c.2 bS d)).bind λd=>(fc a true c.2 (R p5 [b,d] c.2)).bind λb=>(e2 a b.1 (.bool false)).bind λa=>(gd a true (aD tab aE 9 g.1)).bind λc=>(gd a true (aA tab b.2 fS c)).bind λc=>(gd a true (aD tab aE 9 (.ptr j.2.length 0 0))).bind λd=>(gd a true (aA tab b.2 fS d)).bind λd=>(fc a true b.2 (R p6 [c,d] b.2)).bind λb=>(e2 a b.1 (.bool false)).bind λa=>scope h b.2 (aK [a]))))
theorem yV(a b:D)(h:Y):R l6 [a,b] h=sk a b h:=
 er i8
def r2(a b:D)(h:Y):Option (D × Y):=
 (some ((.ptr h.length 0 0:D),aF h aN 11 [[.str [],.int .i64 0,.int .i64 0,.int .i64 0,.int .i64 0,.J,.int .i64 0,.int .i64 0,.str [],.str [],.J]])).bind λc=>(S tab .add U b (.int .i64 1)).bind λd=>(dE tab bP [0,1] [b,.int .i64 1]).bind λe=>(bA tab bS 1 [0] [e]).bind λe=>(dE tab aE [1,2,3,4] [a,b,d,e]).bind λa=>(dE tab aN [0,1] [.str [114],a]).bind λa=>((bU tab c.2 aN c.1 a).bind λa=>some ((.bF:D),a)).bind λa=>(aA tab a.2 aN c.1).bind λb=>scope h a.2 (aK [b])
theorem yH(a b:D)(h:Y):R j0 [a,b] h=r2 a b h:=
 er i9
def o1(a b:D)(h:Y):Option (D × Y):=
 (R p3 [a] h).bind λc=>(gR .not c.1).bind λd=>(gd d false (some b)).bind λe=>(gd d false (S tab .lss U e (.int .i64 1))).bind λe=>(e2 d (.bool true) e).bind λd=>bG d
  (some (aK [.int .i64 0],c.2))
  ((eL tab a).bind λd=>(aD tab fT 1 d).bind λd=>(aA tab c.2 U d).bind λd=>(S tab .add U d (.int .i64 1)).bind λd=>(eL tab a).bind λe=>(aD tab fT 1 e).bind λe=>((bU tab c.2 U e d).bind λc=>some ((.bF:D),c)).bind λc=>(eL tab a).bind λd=>(aD tab fT 0 d).bind λd=>(aA tab c.2 hz d).bind λd=>(eL tab a).bind λa=>(aD tab fT 1 a).bind λa=>(aA tab c.2 U a).bind λa=>(S tab .sub U a (.int .i64 1)).bind λa=>(bE tab hz d a).bind λa=>(aA tab c.2 ll a).bind λa=>(jW tab ll U a).bind λa=>(S tab .rem U a b).bind λa=>some (aK [a],c.2))
theorem tV(a b:D)(h:Y):R fh [a,b] h=o1 a b h:=
 er qe
def rX(a:D)(b:D × Y)(c:D)(ds:List D)(d:Y):Option cS:=
 (S tab .lss U (W 1 ds) c).bind λc=>bG c
  ((aD tab aE 4 b.1).bind λe=>(aA tab d bS e).bind λe=>(aD tab aE 4 a).bind λf=>(aA tab d bS f).bind λf=>(bE tab bS f (W 1 ds)).bind λf=>(aD tab bP 0 f).bind λf=>(aA tab d U f).bind λf=>(aD tab aE 4 a).bind λa=>(aA tab d bS a).bind λa=>(bE tab bS a (W 1 ds)).bind λa=>(aD tab bP 1 a).bind λa=>(aA tab d U a).bind λa=>(dE tab bP [0,1] [f,a]).bind λa=>(bA tab bS 1 [0] [a]).bind λa=>(dM tab d bS bS e a).bind λa=>(aD tab aE 4 b.1).bind λb=>((bU tab a.2 bS b a.1).bind λa=>some ((.bF:D),a)).bind λa=>(S tab .add U (W 1 ds) (.int .i64 1)).bind λb=>some (.aS,[(W 1 ds),b,c],a.2))
  (some ((.ext 0),[(W 0 ds),(W 1 ds),c],d))
def rW(a:D)(h:Y):Option (D × Y):=
 (some ((.ptr h.length 0 0:D),aF h aN 11 [[.str [],.int .i64 0,.int .i64 0,.int .i64 0,.int .i64 0,.J,.int .i64 0,.int .i64 0,.str [],.str [],.J]])).bind λb=>(R nL [a] b.2).bind λc=>(hh 10 c.1).bind λd=>(R fh [a,.int .i64 4] c.2).bind λc=>(S tab .lss U c.1 (.int .i64 3)).bind λe=>bG e
  ((aA tab c.2 aE d).bind λe=>(dE tab aN [1] [e]).bind λe=>((bU tab c.2 aN b.1 e).bind λe=>some ((.bF:D),e)).bind λf=>(aA tab f.2 aN b.1).bind λg=>scope h f.2 (aK [g]))
  ((aD tab aE 0 d).bind λf=>(aA tab c.2 U f).bind λf=>(aD tab aE 1 d).bind λi=>(aA tab c.2 U i).bind λi=>(aD tab aE 2 d).bind λj=>(aA tab c.2 U j).bind λj=>(aD tab aE 3 d).bind λk=>(aA tab c.2 U k).bind λk=>(dE tab aE [0,1,2,3] [f,i,j,k]).bind λf=>(some ((.ptr c.2.length 0 0:D),aF c.2 aE 10 [[.int .i64 0,.int .i64 0,.int .i64 0,.int .i64 0,.J,.int .i64 0,.int .i64 0,.str [],.str [],.J]])).bind λc=>((bU tab c.2 aE c.1 f).bind λe=>some ((.bF:D),e)).bind λf=>(aD tab aE 4 d).bind λi=>(aA tab f.2 bS i).bind λi=>(bT tab bS i).bind λi=>((cT (rX d c i) [.any,.int .i64 0,.any] f.2).bind λd=>some ((cL 0 d.1),[(W 0 d.2.1),(W 1 d.2.1),(W 2 d.2.1)],d.2.2)).bind λd=>dS d.1 ((bA tab bQ 3 [0,1,2] [.str [115,97,109,112,108,101],.str [116,111,111,45,108,111,110,103],.str [114,49]]).bind λf=>(R eM [a,f] d.2.2).bind λa=>(aA tab a.2 aE c.1).bind λf=>(dE tab aN [0,1] [a.1,f]).bind λi=>cZ (aA tab d.2.2 aE c.1=some f)
 (((bU tab a.2 aN b.1 i).bind λe=>some ((.bF:D),e)).bind λa=>(aA tab a.2 aN b.1).bind λg=>scope h a.2 (aK [g]))) λa=>fa a ((aA tab d.2.2 aN b.1).bind λg=>scope h d.2.2 (aK [g])))
theorem yD(a:D)(h:Y):R nK [a] h=rW a h:=
 er qf
def m2(a:D)(h:Y):Option (D × Y):=
 (S tab .eql aL a (.J)).bind λb=>bG b
  (some (aK [.J],h))
  ((bA tab aL 0 [] []).bind λb=>(dM tab h aL aL b a).bind λa=>some (aK [a.1],a.2))
theorem pV(a:D)(h:Y):R nM [a] h=m2 a h:=
 er qg
def r3(a b:D)(h:Y):Option (D × Y):=
 (eU tab R "Push" [a,b] h).bind λb=>(eU tab R "Len" [a] b.2).bind λb=>(S tab .sub U b.1 (.int .i64 1)).bind λc=>(R nO [a,c] b.2).bind λa=>some (aK [],a.2)
theorem yI(a b:D)(h:Y):R nN [a,b] h=r3 a b h:=
 er qh
def oY(a:D)(h:Y):Option (D × Y):=
 (eL tab a).bind λa=>(aD tab cJ 0 a).bind λa=>(aA tab h aL a).bind λa=>(bT tab aL a).bind λa=>some (aK [a],h)
theorem tU(a:D)(h:Y):R l4 [a] h=oY a h:=
 er qi
def r4(a:D)(h:Y):Option (D × Y):=
 (eU tab R "Len" [a] h).bind λb=>(S tab .sub U b.1 (.int .i64 1)).bind λc=>(eU tab R "Swap" [a,.int .i64 0,c] b.2).bind λb=>(R nP [a,.int .i64 0,c] b.2).bind λb=>(eU tab R "Pop" [a] b.2).bind λa=>some (aK [a.1],a.2)
theorem yJ(a:D)(h:Y):R p1 [a] h=r4 a h:=
 er qj
def su(a b:D)(ds:List D)(c:Y):Option cS:=
 (bT tab bS a).bind λd=>(S tab .lss U (W 1 ds) d).bind λd=>bG d
  ((bE tab bS a (W 1 ds)).bind λa=>(aA tab c bP a).bind λa=>(bE tab bS b (W 1 ds)).bind λb=>(aA tab c bP b).bind λb=>(S tab .neq bP a b).bind λa=>bG a
  (some (.ret,[.bool false,(W 1 ds),d,a],c))
  ((S tab .add U (W 1 ds) (.int .i64 1)).bind λb=>some (.aS,[(W 0 ds),b,d,a],c)))
  (some ((.ext 0),[(W 0 ds),(W 1 ds),d,(W 3 ds)],c))
def ss(a b:D)(h:Y):Option (D × Y):=
 (bT tab bS a).bind λc=>(bT tab bS b).bind λd=>(S tab .neq U c d).bind λc=>bG c
  (some (aK [.bool false],h))
  (((cT (su a b) [.bool false,.int .i64 0,.any,.any] h).bind λa=>some ((cL 0 a.1),[(W 0 a.2.1),(W 1 a.2.1),(W 2 a.2.1),(W 3 a.2.1)],a.2.2)).bind λa=>dS a.1 (some (aK [.bool true],a.2.2)) λb=>fa b (some (aK [(W 0 a.2.1)],a.2.2)))
theorem yZ(a b:D)(h:Y):R p5 [a,b] h=ss a b h:=
 er qk
def sw(a b:D)(ds:List D)(c:Y):Option cS:=
 (bT tab fS a).bind λd=>(S tab .lss U (W 1 ds) d).bind λd=>bG d
  ((bE tab fS a (W 1 ds)).bind λa=>(aA tab c g5 a).bind λa=>(bE tab fS b (W 1 ds)).bind λb=>(aA tab c g5 b).bind λb=>(S tab .neq g5 a b).bind λa=>bG a
  (some (.ret,[.bool false,(W 1 ds),d,a],c))
  ((S tab .add U (W 1 ds) (.int .i64 1)).bind λb=>some (.aS,[(W 0 ds),b,d,a],c)))
  (some ((.ext 0),[(W 0 ds),(W 1 ds),d,(W 3 ds)],c))
def sv(a b:D)(h:Y):Option (D × Y):=
 (bT tab fS a).bind λc=>(bT tab fS b).bind λd=>(S tab .neq U c d).bind λc=>bG c
  (some (aK [.bool false],h))
  (((cT (sw a b) [.bool false,.int .i64 0,.any,.any] h).bind λa=>some ((cL 0 a.1),[(W 0 a.2.1),(W 1 a.2.1),(W 2 a.2.1),(W 3 a.2.1)],a.2.2)).bind λa=>dS a.1 (some (aK [.bool true],a.2.2)) λb=>fa b (some (aK [(W 0 a.2.1)],a.2.2)))
theorem y0(a b:D)(h:Y):R p6 [a,b] h=sv a b h:=
 er ql
def si(a:D)(h:Y):Option (D × Y):=
 (eL tab a).bind λb=>(aD tab fT 1 b).bind λb=>(aA tab h U b).bind λb=>(eL tab a).bind λa=>(aD tab fT 0 a).bind λa=>(aA tab h hz a).bind λa=>(bT tab hz a).bind λa=>(S tab .lss U b a).bind λa=>some (aK [a],h)
theorem yT(a:D)(h:Y):R p3 [a] h=si a h:=
 er qm
def rY(a:D)(h:Y):Option (D × Y):=
 (some ((.ptr h.length 0 0:D),aF h aE 10 [[.int .i64 0,.int .i64 0,.int .i64 0,.int .i64 0,.J,.int .i64 0,.int .i64 0,.str [],.str [],.J]])).bind λb=>(R fh [a,.int .i64 3] b.2).bind λc=>(R fh [a,.int .i64 3] c.2).bind λd=>(R fh [a,.int .i64 6] d.2).bind λe=>(S tab .mul U (.int .i64 10) e.1).bind λf=>(R fh [a,.int .i64 256] e.2).bind λe=>(S tab .mul U (.int .i64 1000) e.1).bind λg=>(bA tab aL 4 [0,1,2,3] [.int .i64 1,.int .i64 1,.int .i64 2,.int .i64 5040]).bind λi=>(R fh [a,.int .i64 4] e.2).bind λe=>(bE tab aL i e.1).bind λi=>(aA tab e.2 U i).bind λj=>(bA tab bQ 4 [0,1,2,3] [.str [],.str [116,49],.str [116,50],.str [105,100]]).bind λk=>(R eM [a,k] e.2).bind λe=>(bA tab bQ 2 [0,1] [.str [109,97,105,110],.str [97,117,100,105,116]]).bind λk=>(R eM [a,k] e.2).bind λk=>(R nS [a] k.2).bind λl=>(dE tab aE [0,1,2,5,6,7,8,9] [c.1,d.1,f,g,j,e.1,k.1,l.1]).bind λc=>(some (.any:D)).bind λd=>cZ (aA tab e.2 U i=some j)
 (cZ (aA tab k.2 U i=some j)
 (cZ (aA tab l.2 U i=some j)
 (((bU tab (aF l.2 aE 10 [[.int .i64 0,.int .i64 0,.int .i64 0,.int .i64 0,.J,.int .i64 0,.int .i64 0,.str [],.str [],.J]]) aE (.ptr l.2.length 0 0) c).bind λc=>some ((.bF:D),c)).bind λd=>(aD tab aE 2 (.ptr l.2.length 0 0)).bind λe=>(aA tab d.2 U e).bind λe=>(R nT [a,e,.int .i64 3,.bool true] d.2).bind λa=>(aD tab aE 4 (.ptr l.2.length 0 0)).bind λd=>((bU tab a.2 bS d a.1).bind λc=>some ((.bF:D),c)).bind λa=>(aD tab aE 4 (.ptr l.2.length 0 0)).bind λd=>(aA tab a.2 bS d).bind λd=>(aD tab aE 4 (.ptr l.2.length 0 0)).bind λe=>(aA tab a.2 bS e).bind λe=>(bT tab bS e).bind λe=>(S tab .sub U e (.int .i64 1)).bind λe=>(bE tab bS d e).bind λd=>(aA tab a.2 bP d).bind λd=>(hh 3 d).bind λd=>(aD tab bP 0 d).bind λe=>(aA tab a.2 U e).bind λe=>(aD tab bP 1 d).bind λd=>(aA tab a.2 U d).bind λd=>(S tab .add U e d).bind λd=>(aD tab aE 3 (.ptr l.2.length 0 0)).bind λe=>((bU tab a.2 U e d).bind λc=>some ((.bF:D),c)).bind λa=>(aA tab a.2 aE (.ptr l.2.length 0 0)).bind λd=>((bU tab a.2 aE b.1 d).bind λc=>some ((.bF:D),c)).bind λa=>(aA tab a.2 aE b.1).bind λb=>scope h a.2 (aK [b]))))
theorem yE(a:D)(h:Y):R nL [a] h=rY a h:=
 er qn
def sb(a b:D)(h:Y):Option (D × Y):=
 (bT tab bQ b).bind λc=>(R fh [a,c] h).bind λa=>(bE tab bQ b a.1).bind λb=>(aA tab a.2 cB b).bind λb=>some (aK [b],a.2)
theorem yQ(a b:D)(h:Y):R eM [a,b] h=sb a b h:=
 er qo
def oZ(a:D)(ds:List D)(b:Y):Option cS:=
 (S tab .sub U (W 0 ds) (.int .i64 1)).bind λc=>(S tab .quo U c (.int .i64 2)).bind λc=>(S tab .eql U c (W 0 ds)).bind λd=>(gd d false (some a)).bind λe=>(gd d false (some (W 0 ds))).bind λf=>(gd d false (some c)).bind λg=>(fc d false b (eU tab R "Less" [e,f,g] b)).bind λb=>(gd d false (gR .not b.1)).bind λe=>(e2 d (.bool true) e).bind λd=>bG d
  (some ((.ext 0),[(W 0 ds),c,d],b.2))
  ((eU tab R "Swap" [a,c,(W 0 ds)] b.2).bind λa=>some (.aS,[c,c,d],a.2))
def r5(a b:D)(h:Y):Option (D × Y):=
 ((cT (oZ a) [b,.any,.any] h).bind λa=>some ((cL 0 a.1),[(W 0 a.2.1),(W 1 a.2.1),(W 2 a.2.1)],a.2.2)).bind λa=>fa a.1 (some (aK [],a.2.2))
theorem yK(a b:D)(h:Y):R nO [a,b] h=r5 a b h:=
 er qp
def o0(a b:D)(ds:List D)(c:Y):Option cS:=
 (S tab .mul U (.int .i64 2) (W 0 ds)).bind λd=>(S tab .add U d (.int .i64 1)).bind λd=>(S tab .geq U d b).bind λe=>(gd e false (some d)).bind λf=>(gd e false (S tab .lss U f (.int .i64 0))).bind λf=>(e2 e (.bool true) f).bind λe=>bG e
  (some ((.ext 0),[(W 0 ds),d,(W 2 ds),(W 3 ds),e,(W 5 ds),(W 6 ds)],c))
  ((S tab .add U d (.int .i64 1)).bind λf=>(S tab .lss U f b).bind λb=>(gd b true (some a)).bind λg=>(gd b true (some f)).bind λh=>(gd b true (some d)).bind λi=>(fc b true c (eU tab R "Less" [g,h,i] c)).bind λc=>(e2 b c.1 (.bool false)).bind λb=>(bG b
  (some (.aS,[f],c.2))
  (some (.aS,[d],c.2))).bind λc=>dS c.1 ((eU tab R "Less" [a,(W 0 c.2.1),(W 0 ds)] c.2.2).bind λg=>(gR .not g.1).bind λh=>bG h
  (some ((.ext 0),[(W 0 ds),d,(W 0 c.2.1),f,e,b,h],g.2))
  ((eU tab R "Swap" [a,(W 0 ds),(W 0 c.2.1)] g.2).bind λa=>some (.aS,[(W 0 c.2.1),d,(W 0 c.2.1),f,e,b,h],a.2))) λa=>some ((cL 1 a),[(W 0 ds),d,(W 0 c.2.1),f,e,b,(W 6 ds)],c.2.2))
def r6(a b c:D)(h:Y):Option (D × Y):=
 ((cT (o0 a c) [b,.any,.any,.any,.any,.any,.any] h).bind λa=>some ((cL 0 a.1),[(W 0 a.2.1),(W 1 a.2.1),(W 2 a.2.1),(W 3 a.2.1),(W 4 a.2.1),(W 5 a.2.1),(W 6 a.2.1)],a.2.2)).bind λa=>dS a.1 ((S tab .gtr U (W 0 a.2.1) b).bind λb=>some (aK [b],a.2.2)) λb=>fa b (some (aK [.bool false],a.2.2))
theorem yL(a b c:D)(h:Y):R nP [a,b,c] h=r6 a b c h:=
 er qq
def se(a b c:D)(ds:List D)(d:Y):Option cS:=
 (S tab .lss U (W 2 ds) c).bind λc=>bG c
  ((bE tab bQ b (W 2 ds)).bind λb=>(aA tab d cB b).bind λb=>(R fh [a,.int .i64 3] d).bind λe=>(S tab .gtr U e.1 (.int .i64 0)).bind λf=>(bG f
  ((bA tab bQ 8 [0,1,2,3,4,5,6,7] [.str [],.str [49],.str [105,110,102,111],.str [119,97,114,110],.str [97,110,110],.str [50,46,53,48],.str [116,114,117,101],.str [116,49]]).bind λg=>(R eM [a,g] e.2).bind λa=>(dE tab g5 [0,1] [b,a.1]).bind λg=>(bA tab fS 1 [0] [g]).bind λg=>(dM tab a.2 fS fS (W 0 ds) g).bind λa=>some (.aS,[a.1],a.2))
  (some (.aS,[(W 0 ds)],e.2))).bind λa=>dS (cL 1 a.1) ((S tab .add U (W 2 ds) (.int .i64 1)).bind λe=>some (.aS,[(W 0 a.2.1),b,e,c,f],a.2.2)) λe=>some (e,[(W 0 a.2.1),b,(W 2 ds),c,f],a.2.2))
  (some ((.ext 0),[(W 0 ds),(W 1 ds),(W 2 ds),c,(W 4 ds)],d))
def sd(a:D)(h:Y):Option (D × Y):=
 (bA tab bQ 4 [0,1,2,3] [.str [97],.str [105,100],.str [108,101,118,101,108],.str [117,115,101,114]]).bind λb=>(bT tab bQ b).bind λc=>((cT (se a b c) [.J,.any,.int .i64 0,.any,.any] h).bind λa=>some ((cL 0 a.1),[(W 0 a.2.1),(W 1 a.2.1),(W 2 a.2.1),(W 3 a.2.1),(W 4 a.2.1)],a.2.2)).bind λa=>dS a.1 (scope h a.2.2 (aK [(W 0 a.2.1)])) λb=>fa b (scope h a.2.2 (aK [.J]))
theorem yR(a:D)(h:Y):R nS [a] h=sd a h:=
 er qs
def sg(a b:D)(ds:List D)(c:Y):Option cS:=
 (S tab .gtr U (W 2 ds) (.int .i64 0)).bind λd=>bG d
  ((R fh [a,.int .i64 20] c).bind λe=>(S tab .add U (.int .i64 1) e.1).bind λf=>(dE tab bP [0,1] [(W 0 ds),f]).bind λf=>(some ((.ptr e.2.length 0 0:D),aF e.2 bP 3 [[.int .i64 0,.int .i64 0,.str []]])).bind λe=>((bU tab e.2 bP e.1 f).bind λf=>some ((.bF:D),f)).bind λg=>(bG b
  ((R nU [a] g.2).bind λa=>(aD tab bP 2 e.1).bind λh=>((bU tab a.2 cB h a.1).bind λf=>some ((.bF:D),f)).bind λa=>some (.aS,([]:List D),a.2))
  (some (.aS,([]:List D),g.2))).bind λa=>dS a.1 ((aA tab a.2.2 bP e.1).bind λf=>(bA tab bS 1 [0] [f]).bind λf=>(dM tab a.2.2 bS bS (W 1 ds) f).bind λf=>(aD tab bP 1 e.1).bind λg=>(aA tab f.2 U g).bind λg=>(S tab .add U (W 0 ds) g).bind λg=>(S tab .sub U (W 2 ds) (.int .i64 1)).bind λh=>some (.aS,[g,f.1,h,e.1,d,b],f.2)) λf=>dS (cL 1 f) ((S tab .sub U (W 2 ds) (.int .i64 1)).bind λf=>some (.aS,[(W 0 ds),(W 1 ds),f,e.1,d,b],a.2.2)) λf=>some (f,[(W 0 ds),(W 1 ds),(W 2 ds),e.1,d,b],a.2.2))
  (some ((.ext 0),[(W 0 ds),(W 1 ds),(W 2 ds),(W 3 ds),d,(W 5 ds)],c))
def sf(a b c d:D)(h:Y):Option (D × Y):=
 (R fh [a,c] h).bind λc=>(S tab .add U (.int .i64 1) c.1).bind λe=>((cT (sg a d) [b,.J,e,.any,.any,.any] c.2).bind λa=>some ((cL 0 a.1),[(W 0 a.2.1),(W 1 a.2.1),(W 2 a.2.1),(W 3 a.2.1),(W 4 a.2.1),(W 5 a.2.1)],a.2.2)).bind λa=>dS a.1 (scope h a.2.2 (aK [(W 1 a.2.1)])) λb=>fa b (scope h a.2.2 (aK [.J]))
theorem yS(a b c d:D)(h:Y):R nT [a,b,c,d] h=sf a b c d h:=
 er qt
def sj(a:D)(h:Y):Option (D × Y):=
 (R fh [a,.int .i64 8] h).bind λb=>(S tab .eql U b.1 (.int .i64 0)).bind λc=>bG c
  ((bA tab bQ 3 [0,1,2] [.str [49],.str [50],.str [57]]).bind λc=>(R eM [a,c] b.2).bind λc=>(S tab .add cB (.str [50,48,50,54,45,48]) c.1).bind λd=>(S tab .add cB d (.str [45,49])).bind λd=>(bA tab bQ 2 [0,1] [.str [48],.str [53]]).bind λe=>(R eM [a,e] c.2).bind λc=>(S tab .add cB d c.1).bind λd=>(S tab .add cB d (.str [84,49,48,58,48,48,58,48])).bind λd=>(bA tab bQ 2 [0,1] [.str [49],.str [50]]).bind λe=>(R eM [a,e] c.2).bind λc=>(S tab .add cB d c.1).bind λd=>(S tab .add cB d (.str [90,32,108,101,118,101,108,61])).bind λd=>(bA tab bQ 2 [0,1] [.str [105,110,102,111],.str [119,97,114,110]]).bind λe=>(R eM [a,e] c.2).bind λc=>(S tab .add cB d c.1).bind λd=>(S tab .add cB d (.str [32,105,100,61])).bind λd=>(bA tab bQ 3 [0,1,2] [.str [55],.str [116,49],.str [116,50]]).bind λe=>(R eM [a,e] c.2).bind λc=>(S tab .add cB d c.1).bind λd=>some (aK [d],c.2))
  ((S tab .eql U b.1 (.int .i64 1)).bind λc=>bG c
  ((bA tab bQ 3 [0,1,2] [.str [105,110,102,111],.str [119,97,114,110],.str [100,101,98,117,103]]).bind λc=>(R eM [a,c] b.2).bind λc=>(S tab .add cB (.str [108,101,118,101,108,61]) c.1).bind λd=>(S tab .add cB d (.str [32,117,115,101,114,61])).bind λd=>(bA tab bQ 2 [0,1] [.str [97,110,110],.str [98,111,98]]).bind λe=>(R eM [a,e] c.2).bind λc=>(S tab .add cB d c.1).bind λd=>(S tab .add cB d (.str [32,105,112,61])).bind λd=>(bA tab bQ 3 [0,1,2] [.str [49,48,46,50],.str [49,48,46,51],.str [55,46,55]]).bind λe=>(R eM [a,e] c.2).bind λc=>(S tab .add cB d c.1).bind λd=>some (aK [d],c.2))
  ((S tab .eql U b.1 (.int .i64 2)).bind λc=>bG c
  ((bA tab bQ 2 [0,1] [.str [102],.str [103]]).bind λc=>(R eM [a,c] b.2).bind λc=>(S tab .add cB (.str [32,32,97,116,32]) c.1).bind λd=>(bA tab bQ 2 [0,1] [.str [40,49,41],.str [40,50,50,41]]).bind λe=>(R eM [a,e] c.2).bind λc=>(S tab .add cB d c.1).bind λd=>some (aK [d],c.2))
  ((S tab .eql U b.1 (.int .i64 3)).bind λc=>bG c
  ((bA tab bQ 3 [0,1,2] [.str [97,110,110],.str [98,111,98],.str [101,118,101]]).bind λc=>(R eM [a,c] b.2).bind λc=>(S tab .add cB (.str [117,115,101,114,32]) c.1).bind λd=>(S tab .add cB d (.str [32,108,111,103,103,101,100,32])).bind λd=>(bA tab bQ 2 [0,1] [.str [105,110],.str [111,117,116]]).bind λe=>(R eM [a,e] c.2).bind λc=>(S tab .add cB d c.1).bind λd=>some (aK [d],c.2))
  ((S tab .eql U b.1 (.int .i64 4)).bind λc=>bG c
  ((bA tab bQ 2 [0,1] [.str [105,110,102,111],.str [119,97,114,110]]).bind λc=>(R eM [a,c] b.2).bind λc=>(S tab .add cB (.str [123,34,108,101,118,101,108,34,58,32,34]) c.1).bind λd=>(S tab .add cB d (.str [34,44,32,34,110,34,58,32])).bind λd=>(bA tab bQ 3 [0,1,2] [.str [49],.str [45,50,48],.str [116,114,117,101]]).bind λe=>(R eM [a,e] c.2).bind λc=>(S tab .add cB d c.1).bind λd=>(S tab .add cB d (.str [125])).bind λd=>some (aK [d],c.2))
  ((S tab .eql U b.1 (.int .i64 5)).bind λc=>bG c
  ((bA tab bQ 2 [0,1] [.str [49],.str [50]]).bind λc=>(R eM [a,c] b.2).bind λc=>(S tab .add cB (.str [74,97,110,32,49]) c.1).bind λd=>(S tab .add cB d (.str [32,49,48,58,48,48,58,48])).bind λd=>(bA tab bQ 2 [0,1] [.str [49],.str [50]]).bind λe=>(R eM [a,e] c.2).bind λc=>(S tab .add cB d c.1).bind λd=>(S tab .add cB d (.str [32])).bind λd=>(bA tab bQ 2 [0,1] [.str [111,107],.str [102,97,105,108,101,100]]).bind λe=>(R eM [a,e] c.2).bind λc=>(S tab .add cB d c.1).bind λd=>some (aK [d],c.2))
  ((R nV [a,.int .i64 6] b.2).bind λa=>some (aK [a.1],a.2)))))))
theorem yU(a:D)(h:Y):R nU [a] h=sj a h:=
 er qu
def so(a:D)(ds:List D)(b:Y):Option cS:=
 (S tab .gtr U (W 1 ds) (.int .i64 0)).bind λc=>bG c
  ((bA tab bQ 18 [0,1,2,3,4,5,6,7,8,9,10,11,12,13,14,15,16,17] [.str [97],.str [98],.str [32],.str [49],.str [117,115,101,114],.str [61],.str [34],.str [55],.str [46],.str [44],.str [120,32,121],.str [49,48,46,50],.str [45],.str [195,169],.str [91],.str [105,100],.str [9],.str [58]]).bind λd=>(R eM [a,d] b).bind λa=>(S tab .add cB (W 0 ds) a.1).bind λd=>(S tab .sub U (W 1 ds) (.int .i64 1)).bind λe=>some (.aS,[d,e,c],a.2))
  (some ((.ext 0),[(W 0 ds),(W 1 ds),c],b))
def sn(a b:D)(h:Y):Option (D × Y):=
 (S tab .add U b (.int .i64 1)).bind λb=>(R fh [a,b] h).bind λb=>((cT (so a) [.str [],b.1,.any] b.2).bind λa=>some ((cL 0 a.1),[(W 0 a.2.1),(W 1 a.2.1),(W 2 a.2.1)],a.2.2)).bind λa=>dS a.1 (some (aK [(W 0 a.2.1)],a.2.2)) λb=>fa b (some (aK [.str []],a.2.2))
theorem yW(a b:D)(h:Y):R nV [a,b] h=sn a b h:=
 er qv
def r7(a b c:D)(h:Y):Option (D × Y):=
 (eL tab a).bind λd=>(aD tab cJ 0 d).bind λd=>(aA tab h aL d).bind λd=>(bE tab aL d b).bind λb=>(aA tab h U b).bind λb=>(eL tab a).bind λd=>(aD tab cJ 0 d).bind λd=>(aA tab h aL d).bind λd=>(bE tab aL d c).bind λc=>(aA tab h U c).bind λc=>(eL tab a).bind λd=>(aD tab cJ 1 d).bind λd=>(aA tab h aL d).bind λd=>(bE tab aL d c).bind λd=>(aA tab h U d).bind λd=>(eL tab a).bind λa=>(aD tab cJ 1 a).bind λa=>(aA tab h aL a).bind λa=>(bE tab aL a b).bind λa=>(aA tab h U a).bind λa=>(R nW [d,a] h).bind λa=>(R nW [b,c] a.2).bind λb=>(bA tab aL 2 [0,1] [a.1,b.1]).bind λa=>(R p4 [a] b.2).bind λa=>(S tab .lss U a.1 (.int .i64 0)).bind λb=>some (aK [b],a.2)
theorem yM(a b c:D)(h:Y):R p2 [a,b,c] h=r7 a b c h:=
 er qx
def r8(a:D)(h:Y):Option (D × Y):=
 (eL tab a).bind λb=>(aD tab cJ 0 b).bind λb=>(aA tab h aL b).bind λb=>(bT tab aL b).bind λb=>(S tab .sub U b (.int .i64 1)).bind λb=>(eL tab a).bind λc=>(aD tab cJ 0 c).bind λc=>(aA tab h aL c).bind λc=>(bE tab aL c b).bind λc=>(aA tab h U c).bind λc=>(eL tab a).bind λd=>(aD tab cJ 0 d).bind λd=>(aA tab h aL d).bind λd=>(ga tab aL false true false [d,b]).bind λb=>(eL tab a).bind λa=>(aD tab cJ 0 a).bind λa=>((bU tab h aL a b).bind λa=>some ((.bF:D),a)).bind λa=>(some (.iface U c:D)).bind λb=>some (aK [b],a.2)
theorem yN(a:D)(h:Y):R nQ [a] h=r8 a h:=
 er qy
def r9(a b:D)(h:Y):Option (D × Y):=
 (eL tab a).bind λc=>(aD tab cJ 0 c).bind λc=>(aA tab h aL c).bind λc=>(jo U b).bind λb=>(bA tab aL 1 [0] [b]).bind λb=>(dM tab h aL aL c b).bind λb=>(eL tab a).bind λa=>(aD tab cJ 0 a).bind λa=>((bU tab b.2 aL a b.1).bind λa=>some ((.bF:D),a)).bind λa=>some (aK [],a.2)
theorem yO(a b:D)(h:Y):R nR [a,b] h=r9 a b h:=
 er qz
def sa(a b c:D)(h:Y):Option (D × Y):=
 (eL tab a).bind λd=>(aD tab cJ 0 d).bind λd=>(aA tab h aL d).bind λd=>(eL tab a).bind λe=>(aD tab cJ 0 e).bind λe=>(aA tab h aL e).bind λe=>(eL tab a).bind λf=>(aD tab cJ 0 f).bind λf=>(aA tab h aL f).bind λf=>(bE tab aL f c).bind λf=>(aA tab h U f).bind λf=>(eL tab a).bind λa=>(aD tab cJ 0 a).bind λa=>(aA tab h aL a).bind λa=>(bE tab aL a b).bind λa=>(aA tab h U a).bind λa=>(bE tab aL d b).bind λb=>((bU tab h U b f).bind λb=>some ((.bF:D),b)).bind λd=>(bE tab aL e c).bind λc=>((bU tab d.2 U c a).bind λb=>some ((.bF:D),b)).bind λa=>some (aK [],a.2)
theorem yP(a b c:D)(h:Y):R l5 [a,b,c] h=sa a b c h:=
 er qA
def lr(a b c:D)(ds:List D)(d:Y):Option cS:=
 (S tab .lss U (W 2 ds) c).bind λc=>bG c
  ((bE tab aL b (W 2 ds)).bind λb=>(aA tab d U b).bind λb=>(S tab .neq U b a).bind λa=>bG a
  (some (.ret,[b,b,(W 2 ds),c,a],d))
  ((S tab .add U (W 2 ds) (.int .i64 1)).bind λe=>some (.aS,[(W 0 ds),b,e,c,a],d)))
  (some ((.ext 0),[(W 0 ds),(W 1 ds),(W 2 ds),c,(W 4 ds)],d))
def sq(a:D)(h:Y):Option (D × Y):=
 (bT tab aL a).bind λb=>((cT (lr (.int .i64 0) a b) [.int .i64 0,.any,.int .i64 0,.any,.any] h).bind λa=>some ((cL 0 a.1),[(W 0 a.2.1),(W 1 a.2.1),(W 2 a.2.1),(W 3 a.2.1),(W 4 a.2.1)],a.2.2)).bind λa=>dS a.1 (some (aK [.int .i64 0],a.2.2)) λb=>fa b (some (aK [(W 0 a.2.1)],a.2.2))
theorem yX(a:D)(h:Y):R p4 [a] h=sq a h:=
 er qB
def sr(a b:D)(h:Y):Option (D × Y):=
 (R nX [a] h).bind λc=>(R nX [b] c.2).bind λd=>bG c.1
  (bG d.1
  (some (aK [.int .i64 0],d.2))
  (some (aK [.int .i64 (-1)],d.2)))
  (bG d.1
  (some (aK [.int .i64 1],d.2))
  ((S tab .lss U a b).bind λc=>bG c
  (some (aK [.int .i64 (-1)],d.2))
  ((S tab .gtr U a b).bind λa=>bG a
  (some (aK [.int .i64 1],d.2))
  (some (aK [.int .i64 0],d.2)))))
theorem yY(a b:D)(h:Y):R nW [a,b] h=sr a b h:=
 er qC
def sx(a:D)(h:Y):Option (D × Y):=
 (S tab .neq U a a).bind λa=>some (aK [a],h)
theorem y1(a:D)(h:Y):R nX [a] h=sx a h:=
 er qD
end
noncomputable def i7:dW:=⟨Try.f7.body.getD .skip,Try.f7.results.toList,⟨107,[0,1,2,6,7,8,9,10,11,12,14,15,16,32,49,63,65,81,97],[91],[]⟩,true⟩
theorem zF:cN Try.prog 7 i7 :=.of Try.func7 (by kernel_rfl) (by kernel_rfl) (by kernel_rfl) Try.call7
noncomputable def jf(n r g k:D)(a:List D)(i:Y):Option cS:=
 (bT tab cD (W 0 a)).bind λs=>(S tab .lss U s r).bind λc=>(gd c true (some (g:D))).bind λt=>(fc c true i (R l4 [t] i)).bind λe=>(gd c true (S tab .gtr U e.1 (.int .i64 0))).bind λu=>(e2 c u (.bool false)).bind λh=>bG h
  ((some (.iface gE g:D)).bind λv=>(R p1 [v] e.2).bind λf=>(jo U f.1).bind λd=>(bE tab cD n d).bind λw=>(aA tab f.2 aN w).bind λx=>(bA tab cD 1 [0] [x]).bind λy=>(dM tab f.2 cD cD (W 0 a) y).bind λb=>(bE tab aL k d).bind λz=>(aA tab b.2 U z).bind λA=>(S tab .geq U A (.int .i64 0)).bind λl=>(bG l
  ((some (.iface gE g:D)).bind λB=>(bE tab aL k d).bind λo=>(aA tab b.2 U o).bind λp=>(some (.iface U p:D)).bind λq=>(R nN [B,q] b.2).bind λm=>some (.aS,([]:List D),m.2))
  (some (.aS,([]:List D),b.2))).bind λj=>some ((cL 5 j.1),[b.1,d,h,l],j.2.2))
  (some ((.ext 4),[(W 0 a),(W 1 a),h,(W 3 a)],e.2))
noncomputable def lx(o e:D)(i:List D)(c:Y)(g:Mp)(d:Ex→List D→Y→Mp→Option Unit):Option Unit:=
 mr g e λk b=>(iv 0 k).bind λa=>bG a
  (mq b e λl h=>(iv 1 l).bind λf=>(some (.iface gE o:D)).bind λm=>(some (.iface U f:D)).bind λn=>(R nN [m,n] c).bind λj=>d .aS [f,a] j.2 h)
  (d (.ext 2) [(W 0 i),a] c b)
noncomputable def m4(j m n:D)(ds:List D)(i:Y)(h:Mp)(k:Ex→List D→Y→Mp→Option Unit):Option Unit:=
 (S tab .geq U (W 0 ds) (.int .i64 0)).bind λc=>bG c
  ((bE tab aL m (W 0 ds)).bind λs=>((bU tab i U s (.int .i64 (-1))).bind λf=>some ((.bF:D),f)).bind λg=>(bE tab cD j (W 0 ds)).bind λt=>(aD tab aN 1 t).bind λu=>(aD tab aE 1 u).bind λv=>(aA tab g.2 U v).bind λw=>iY h n w true λl e=>(iv 0 l).bind λd=>(iv 1 l).bind λa=>(bG a
  ((bE tab aL m (W 0 ds)).bind λx=>((bU tab g.2 U x d).bind λf=>some ((.bF:D),f)).bind λp=>some (.aS,([]:List D),p.2))
  (some (.aS,([]:List D),g.2))).bind λb=>dS b.1 ((bE tab cD j (W 0 ds)).bind λy=>(aD tab aN 1 y).bind λz=>(aD tab aE 1 z).bind λA=>(aA tab b.2.2 U A).bind λB=>j4 e n B (W 0 ds) λF o=>(S tab .sub U (W 0 ds) (.int .i64 1)).bind λq=>k .aS [q,d,a,c,a] b.2.2 o) λC=>dS (cL 1 C) ((S tab .sub U (W 0 ds) (.int .i64 1)).bind λr=>k .aS [r,d,a,c,a] b.2.2 e) λE=>k E [(W 0 ds),d,a,c,a] b.2.2 e)
  (k (.ext 0) [(W 0 ds),(W 1 ds),(W 2 ds),c,(W 4 ds)] i h)
noncomputable def lv(b q r:D)(h:Y)(c:D→Y→Option Unit):Option Unit:=
 (R nM [q] h).bind λj=>(bT tab cD b).bind λs=>(dM tab j.2 aL U j.1 s).bind λk=>(dE tab cJ [1] [k.1]).bind λt=>(mR cJ 2 k.2 t).bind λe=>(bT tab cD b).bind λl=>(lR tab e.2 aL l l).bind λf=>kY M0 λm n=>(bT tab cD b).bind λu=>(S tab .sub U u (.int .i64 1)).bind λv=>hs (m4 b f.1 m) [v,.any,.any,.any,.any] f.2 n λx E g o=>dS (cL 0 x) (mu o m λw p=>hs (lx e.1 w) [.any,.any] g p λz F i C=>dS (cL 2 z) (((cT (jf b r e.1 f.1) [.J,.any,.any,.any] i).bind λa=>some ((cL 4 a.1),[(W 0 a.2.1),(W 1 a.2.1),(W 2 a.2.1),(W 3 a.2.1)],a.2.2)).bind λd=>dS d.1 (c (aK [(W 0 d.2.1)]) d.2.2) λB=>fa B (c (aK [.J]) d.2.2)) λA=>fa A (c (aK [.J]) i)) λy=>fa y (c (aK [.J]) g)
theorem zX(b c d:D)(h:Y)(a:D→Y→Option Unit):mF X R cT 31 i7 [b,c,d] h a=lv b c d h a:=by kernel_rfl
theorem vk:jh Try.prog 31 3:=⟨by kernel_rfl,by kernel_rfl,λa=>by kernel_rfl⟩
abbrev p0:Nat:=4
noncomputable def i4:dW:=⟨Try.f4.body.getD .skip,Try.f4.results.toList,⟨39,[0,1,2],[9,10],[]⟩,false⟩
noncomputable def p8:List (Nat × dW):=[(4,i4)]
noncomputable def lu:FuncId→Option dW:=l7 p8
theorem zv:cN Try.prog 4 i4 :=.of Try.func4 (by kernel_rfl) (by kernel_rfl) (by kernel_rfl) Try.call4
theorem zO:m3 Try.prog p8:=⟨zv,trivial⟩
noncomputable def mV:bC:=λa args b=>if a=l2 then kH args b else R a args b
noncomputable def X1:Cx:=⟨tab,gl,mV⟩
noncomputable def R1:bC:=dV X1 lu
theorem y6(b:dW){a:FuncId}{args:List D}{h:Y}{x:Option (D × Y)}(c:lu a=some b)(d:nY X1 R1 cT b args h=x):R1 a args h=x:=(v9 c args h).trans d
theorem wJ(args:List D)(h:Y):R1 l2 args h=kH args h:=(wc (X:=X1) (F:=lu) (by kernel_rfl) _ _).trans (by simp only[X1,mV,bL,cV])
theorem r1(a:Nat)(b:lu a=none)(c:a≠l2)(args:List D)(h:Y):R1 a args h=R a args h:=(wc (X:=X1) (F:=lu) b _ _).trans (by simp only[X1,mV,c,cV])
theorem CG(args:List D)(h:Y):R1 lZ args h=R lZ args h:=r1 _ (by kernel_rfl) (by decide) _ _
theorem CH(args:List D)(h:Y):R1 jZ args h=R jZ args h:=r1 _ (by kernel_rfl) (by decide) _ _
theorem CJ(args:List D)(h:Y):R1 l6 args h=R l6 args h:=r1 _ (by kernel_rfl) (by decide) _ _
theorem CI(args:List D)(h:Y):R1 j0 args h=R j0 args h:=r1 _ (by kernel_rfl) (by decide) _ _
noncomputable def r0(h:Y):Option (D × Y):=
 (kA R1 (.fn (.func j0) [] []) [.int .i64 1,.int .i64 0] h).bind λa=>(kA R1 (.fn (.func j0) [] []) [.int .i64 2,.int .i64 0] a.2).bind λb=>(kA R1 (.fn (.func j0) [] []) [.int .i64 1,.int .i64 1] b.2).bind λc=>(bA tab cD 3 [0,1,2] [a.1,b.1,c.1]).bind λa=>(bA tab aL 3 [0,1,2] [.int .i64 0,.int .i64 5,.int .i64 9]).bind λb=>(R1 l2 [a,b,.int .i64 2] c.2).bind λa=>(bT tab cD a.1).bind λb=>(S tab .eql U b (.int .i64 2)).bind λb=>(gd b true (some a.1)).bind λc=>(gd b true (bE tab cD c (.int .i64 0))).bind λc=>(gd b true (aD tab aN 1 c)).bind λc=>(gd b true (aD tab aE 1 c)).bind λc=>(gd b true (aA tab a.2 U c)).bind λc=>(gd b true (S tab .eql U c (.int .i64 2))).bind λc=>(e2 b c (.bool false)).bind λb=>(gd b true (some a.1)).bind λc=>(gd b true (bE tab cD c (.int .i64 1))).bind λc=>(gd b true (aD tab aN 1 c)).bind λc=>(gd b true (aD tab aE 1 c)).bind λc=>(gd b true (aA tab a.2 U c)).bind λc=>(gd b true (S tab .eql U c (.int .i64 1))).bind λc=>(e2 b c (.bool false)).bind λb=>(gd b true (some a.1)).bind λc=>(gd b true (bE tab cD c (.int .i64 1))).bind λc=>(gd b true (aD tab aN 1 c)).bind λc=>(gd b true (aD tab aE 2 c)).bind λc=>(gd b true (aA tab a.2 U c)).bind λc=>(gd b true (S tab .eql U c (.int .i64 0))).bind λc=>(e2 b c (.bool false)).bind λb=>some (aK [b],a.2)
theorem yG(h:Y):R1 p0 [] h=r0 h:=
 y6 i4 (by kernel_rfl) (by kernel_rfl)
noncomputable def i3:dW:=⟨Try.f3.body.getD .skip,Try.f3.results.toList,⟨80,[0,1,4,5,6,7,8,9,11,12,13,15,17,37,39,40,41,42,45,46,47,48,57,64,72],[11,15],[]⟩,false⟩
theorem ur:cN Try.prog 3 i3 :=.of Try.func3 (by kernel_rfl) (by kernel_rfl) (by kernel_rfl) Try.call3
noncomputable def o4(F h l m:D)(a:List D)(b:Y)(g:Mp)(e:Ex→List D→Y→Mp→Option Unit):Option Unit:=
 (S tab .lss U (W 3 a) m).bind λd=>bG d
  ((bE tab cD l (W 3 a)).bind λn=>(aA tab b aN n).bind λo=>(hh 11 o).bind λc=>(aD tab aN 1 c).bind λp=>(aD tab aE 1 p).bind λq=>(aA tab b U q).bind λr=>(aD tab aN 1 h).bind λs=>(aD tab aE 1 s).bind λt=>(aA tab b U t).bind λu=>(S tab .neq U r u).bind λf=>bG f
  ((S tab .add U (W 3 a) (.int .i64 1)).bind λC=>e .aS [(W 0 a),(W 1 a),c,C,d,f,(W 6 a)] b g)
  ((aD tab aN 1 h).bind λv=>(aD tab aE 1 v).bind λw=>(aA tab b U w).bind λx=>iY g F x false λy j=>(S tab .eql U (W 0 a) y).bind λi=>bG i
  ((aA tab b aN h).bind λz=>(aA tab b aN c).bind λA=>(R1 l6 [z,A] b).bind λk=>e (.ext 2) [(W 0 a),k.1,c,(W 3 a),d,f,i] k.2 j)
  ((S tab .add U (W 0 a) (.int .i64 1)).bind λB=>(S tab .add U (W 3 a) (.int .i64 1)).bind λE=>e .aS [B,(W 1 a),c,E,d,f,i] b j)))
  (e (.ext 2) [(W 0 a),(W 1 a),(W 2 a),(W 3 a),d,(W 5 a),(W 6 a)] b g)
noncomputable def o3(d j p q:D)(ds:List D)(h:Y)(l:Mp)(k:Ex→List D→Y→Mp→Option Unit):Option Unit:=
 (S tab .lss U (W 5 ds) q).bind λc=>bG c
  ((bE tab cD p (W 5 ds)).bind λr=>(aA tab h aN r).bind λs=>(hh 11 s).bind λb=>(bT tab cD d).bind λf=>hs (o4 j b d f) [.int .i64 0,.bool false,(W 4 ds),.int .i64 0,(W 10 ds),(W 11 ds),(W 12 ds)] h l λz a e g=>dS (cL 2 z) ((gR .not (W 1 a)).bind λi=>bG i
  (k .ret [.bool false,b,(W 0 a),(W 1 a),(W 2 a),(W 5 ds),c,d,f,(W 3 a),(W 4 a),(W 5 a),(W 6 a),i] e g)
  ((aD tab aN 1 b).bind λt=>(aD tab aE 1 t).bind λu=>(aA tab e U u).bind λm=>iY g j m false λv n=>(S tab .add U v (.int .i64 1)).bind λw=>j4 n j m w λC o=>(S tab .add U (W 5 ds) (.int .i64 1)).bind λx=>k .aS [(W 0 ds),b,(W 0 a),(W 1 a),(W 2 a),x,c,d,f,(W 3 a),(W 4 a),(W 5 a),(W 6 a),i] e o)) λA=>dS (cL 1 A) ((S tab .add U (W 5 ds) (.int .i64 1)).bind λy=>k .aS [(W 0 ds),b,(W 0 a),(W 1 a),(W 2 a),y,c,d,f,(W 3 a),(W 4 a),(W 5 a),(W 6 a),(W 13 ds)] e g) λB=>k B [(W 0 ds),b,(W 0 a),(W 1 a),(W 2 a),(W 5 ds),c,d,f,(W 3 a),(W 4 a),(W 5 a),(W 6 a),(W 13 ds)] e g)
  (k (.ext 0) [(W 0 ds),(W 1 ds),(W 2 ds),(W 3 ds),(W 4 ds),(W 5 ds),c,(W 7 ds),(W 8 ds),(W 9 ds),(W 10 ds),(W 11 ds),(W 12 ds),(W 13 ds)] h l)
noncomputable def sA(l m:D)(h:Y)(b:D→Y→Option Unit):Option Unit:=
 (R1 p0 [] h).bind λc=>(gR .not c.1).bind λn=>bG n
  (b (aK [.bool false]) c.2)
  ((R1 lZ [l,.int .i64 240] c.2).bind λg=>(R1 jZ [g.1,.int .i64 10] g.2).bind λd=>(iv 0 d.1).bind λe=>(iv 1 d.1).bind λo=>(jW tab ll U m).bind λp=>(S tab .rem U p (.int .i64 12)).bind λi=>(R1 l2 [e,o,i] d.2).bind λa=>(bT tab cD a.1).bind λq=>(bT tab cD e).bind λr=>(jq i r).bind λs=>(S tab .neq U q s).bind λt=>bG t
  (b (aK [.bool false]) a.2)
  (kY M0 λu j=>(bT tab cD a.1).bind λv=>hs (o3 e u a.1 v) [.bool false,.any,.any,.any,.any,.int .i64 0,.any,.any,.any,.any,.any,.any,.any,.any] a.2 j λw k f y=>dS (cL 0 w) (b (aK [.bool true]) f) λx=>fa x (b (aK [(W 0 k)]) f)))
theorem zW(b c:D)(h:Y)(a:D→Y→Option Unit):mF X1 R1 cT 31 i3 [b,c] h a=sA b c h a:=by kernel_rfl
@[simp] theorem EG(z:Nat)(a:Bool)(rows:List (List D)):bT tab hz (.sl z a rows)=some (.int .i64 rows.length):=id rfl
@[simp] theorem xC (b:D) (c:b.one=true):dE tab fT [0] [b]=some (.agg [b,.int .i64 0]):=by
 have a:=k5 c;refine pB (T:=tab) (i:=oL) (fs:=[(22,0,1),(3,1,1)]) (id rfl) (id rfl) ?_;rw[show oL.zero=[.J,.int .i64 0]from id rfl];rw[iB (off:=0) (Z:=1) (id rfl) (by rw[a.1];rfl) (by simp[cH,iq,iu,im,il]) a.2,a.1];exact id rfl
theorem DU{h:Y}{o T Z kk off:Nat}{rows:List (List D)}{row:List D}{v:D}(e:h[o]?=some (.row T Z rows))(f:rows[kk]?=some row)(g:(bD v).length=3)(d:off+3≤row.length)(c:v.ey=true){b:Type}{a:Y→Option b}{Q:b→Prop}
  (k:∀h',h'[o]?=some (.row T Z (rows.set kk (cH row off (bD v))))→bN o h h'→Wp (a h') Q):Wp ((bU tab h fj (.ptr o kk off) v).bind a) Q:=
 by rw[show bU tab h fj (.ptr o kk off) v=g3 3 h (.ptr o kk off) v from rfl];exact jA e f g d c k
theorem oR{h:Y}{o T Z kk off:Nat}{rows:List (List D)}{row:List D}{v:D}(e:h[o]?=some (.row T Z rows))(f:rows[kk]?=some row)(g:(bD v).length=11)(d:off+11≤row.length)(c:v.ey=true){b:Type}{a:Y→Option b}{Q:b→Prop}
  (k:∀h',h'[o]?=some (.row T Z (rows.set kk (cH row off (bD v))))→bN o h h'→Wp (a h') Q):Wp ((bU tab h aN (.ptr o kk off) v).bind a) Q:=
 by rw[show bU tab h aN (.ptr o kk off) v=g3 11 h (.ptr o kk off) v from rfl];exact jA e f g d c k
@[simp] theorem kM(o k a:Nat):aD tab aN 1 (.ptr o k a)=some (.ptr o k (a+1)):=id rfl
@[simp] theorem y8(o k a:Nat):aD tab aE 1 (.ptr o k a)=some (.ptr o k (a+1)):=id rfl
theorem iH{h:Y}{o T Z kk off:Nat}{rows:List (List D)}{row:List D}{v:D}(e:h[o]?=some (.row T Z rows))(f:rows[kk]?=some row)(g:(bD v).length=1)(d:off+1≤row.length)(c:v.ey=true){b:Type}{a:Y→Option b}{Q:b→Prop}
  (k:∀h',h'[o]?=some (.row T Z (rows.set kk (cH row off (bD v))))→bN o h h'→Wp (a h') Q):Wp ((bU tab h U (.ptr o kk off) v).bind a) Q:=
 by rw[show bU tab h U (.ptr o kk off) v=g3 1 h (.ptr o kk off) v from rfl];exact jA e f g d c k
@[simp] theorem n7(c:D)(cs:List D)(h:Y):aA tab h U (.aG (c::cs))=some c:=id rfl
@[simp] theorem gW(h:Y)(o k a:Nat):aA tab h U (.ptr o k a)=(h.row o k).bind λrow=>(row.drop a).head?:=by show(match h.row o k with|some row=>_|none=>none)=_;cases h.row o k<;>rfl
@[simp] theorem lV(o k a:Nat):aD tab aE 2 (.ptr o k a)=some (.ptr o k (a+2)):=id rfl
@[simp] theorem nF(o k a:Nat):aD tab aE 4 (.ptr o k a)=some (.ptr o k (a+4)):=id rfl
@[simp] theorem uU(c:D)(cs:List D)(h:Y):aA tab h bS (.aG (c::cs))=some c:=id rfl
@[simp] theorem qK(h:Y)(o k a:Nat):aA tab h bS (.ptr o k a)=(h.row o k).bind λrow=>(row.drop a).head?:=by show(match h.row o k with|some row=>_|none=>none)=_;cases h.row o k<;>rfl
theorem rI{h:Y}{n0:Nat}(f:n0≤h.length){rows:List (List D)}{x y:D}(g:aT h n0 bP 3 rows x){ys:List (List D)}(l:gn h 3 y=some ys)(e:(rows.length+ys.length)*32≤140737488355328){d:Type}{c:D × Y→Option d}{Q:d→Prop}
  (k:∀b h',aT h' n0 bP 3 (rows++ys) b→h.length≤h'.length→(∀a,a<n0→h'[a]?=h[a]?)→(∀a,a<h.length→¬x.dN a→h'[a]?=h[a]?)→(∀a,b.dN a→x.dN a∨h.length≤a)→Wp (c (b,h')) Q):Wp ((dM tab h bS bS x y).bind c) Q:=
 nv (T:=tab) (i:=rA) (j:=rE) (id rfl) (id rfl) (id rfl) (by decide) f g l (kT e (by omega)) k
@[simp] theorem mi {b:Type} {a:b→List D} {l:List b} {d:D} (h:aY 3 a l d):bT tab bS d=some (.int .i64 l.length):=
 by
  rcases h with⟨rfl,rfl⟩|⟨c,rfl⟩
  ·rfl
  ·show some (D.int .i64 ((l.map a).length:Nat))=_;simp
theorem A5{h:Y}{n0 a z:Nat}{rows:List (List D)}{d:D}(b:aT h n0 a z rows d):bT tab bS d=some (.int .i64 rows.length):=by
 rcases b with⟨rfl,rfl⟩|⟨c,_,rfl,_⟩<;>rfl
@[simp] theorem AM(a:Bool)(rows:List (List D))(i:Int):bE tab bS (.sl 3 a rows) (.int .i64 i)=if 0≤i then(rows[i.toNat]?).map .aG else none:=by show(if 3=3∧0≤i then(match rows[i.toNat]? with|some c=>some (D.aG c)|none=>none)else none)=_;by_cases b:0≤i<;>simp[b]<;>cases rows[i.toNat]?<;>rfl
@[simp] theorem AO(o r n:Nat)(i:Int):bE tab bS (.aC 3 o r n) (.int .i64 i)=if 0≤i∧i<n then some (.ptr o (r+i.toNat) 0)else none:=by show(if 3=3∧0≤i∧i<n then some (D.ptr o (r+i.toNat) 0)else none)=_;simp
@[simp] theorem n6 {b:Type} {a:b→List D} {l:List b} {d:D} (h:aY 3 a l d) (i:Int):bE tab bS d (.int .i64 i)=if 0≤i then(l[i.toNat]?).map λp =>.aG (a p)else none:=
 by
  rcases h with⟨rfl,rfl⟩|⟨c,rfl⟩
  ·show none=_;simp
  ·rw[AM];simp[kp]
@[simp] theorem ui(a:D)(cs:List D):aD tab bP 0 (.aG (a::cs))=some (.aG (a::cs)):=id rfl
@[simp] theorem y9(o k a:Nat):aD tab bP 0 (.ptr o k a)=some (.ptr o k (a+0)):=id rfl
@[simp] theorem lW(o k a:Nat):aD tab aE 3 (.ptr o k a)=some (.ptr o k (a+3)):=id rfl
theorem rK{h:Y}{o T Z kk off:Nat}{rows:List (List D)}{row:List D}{v:D}(e:h[o]?=some (.row T Z rows))(f:rows[kk]?=some row)(g:(bD v).length=1)(d:off+1≤row.length)(c:v.ey=true){b:Type}{a:Y→Option b}{Q:b→Prop}
  (k:∀h',h'[o]?=some (.row T Z (rows.set kk (cH row off (bD v))))→bN o h h'→Wp (a h') Q):Wp ((bU tab h bS (.ptr o kk off) v).bind a) Q:=
 by rw[show bU tab h bS (.ptr o kk off) v=g3 1 h (.ptr o kk off) v from rfl];exact jA e f g d c k
@[simp] theorem uV(h:Y)(o k a:Nat):aA tab h aN (.ptr o k a)=(h.row o k).bind λrow=>lh 11 (row.drop a):=by show(match h.row o k with|some row=>_|none=>none)=_;cases h.row o k<;>rfl
theorem wG{h:Y}{n0:Nat}(f:n0≤h.length){rows:List (List D)}{x y:D}(g:aT h n0 aN 11 rows x){ys:List (List D)}(l:gn h 11 y=some ys)(e:(rows.length+ys.length)*144≤140737488355328){d:Type}{c:D × Y→Option d}{Q:d→Prop}
  (k:∀b h',aT h' n0 aN 11 (rows++ys) b→h.length≤h'.length→(∀a,a<n0→h'[a]?=h[a]?)→(∀a,a<h.length→¬x.dN a→h'[a]?=h[a]?)→(∀a,b.dN a→x.dN a∨h.length≤a)→Wp (c (b,h')) Q):Wp ((dM tab h cD cD x y).bind c) Q:=
 nv (T:=tab) (i:=ry) (j:=rD) (id rfl) (id rfl) (id rfl) (by decide) f g l (kT e (by omega)) k
@[simp] theorem xH(n0:Int):bA tab aL 1 [0] [.int .i64 n0]=some (.sl 1 true [[.int .i64 n0]]):=id rfl
theorem DN{h:Y}{n0:Nat}(f:n0≤h.length){rows:List (List D)}{x y:D}(g:aT h n0 U 1 rows x){ys:List (List D)}(l:gn h 1 y=some ys)(e:(rows.length+ys.length)*8≤140737488355328){d:Type}{c:D × Y→Option d}{Q:d→Prop}
  (k:∀b h',aT h' n0 U 1 (rows++ys) b→h.length≤h'.length→(∀a,a<n0→h'[a]?=h[a]?)→(∀a,a<h.length→¬x.dN a→h'[a]?=h[a]?)→(∀a,b.dN a→x.dN a∨h.length≤a)→Wp (c (b,h')) Q):Wp ((dM tab h aL aL x y).bind c) Q:=
 nv (T:=tab) (i:=jc) (j:=dR) (id rfl) (id rfl) (id rfl) (by decide) f g l (kT e (by omega)) k
@[simp] theorem A0(h:Y)(o k a:Nat):aA tab h aE (.ptr o k a)=(h.row o k).bind λrow=>lh 10 (row.drop a):=by show(match h.row o k with|some row=>_|none=>none)=_;cases h.row o k<;>rfl
theorem mU{h:Y}{o T Z kk off:Nat}{rows:List (List D)}{row:List D}{v:D}(e:h[o]?=some (.row T Z rows))(f:rows[kk]?=some row)(g:(bD v).length=10)(d:off+10≤row.length)(c:v.ey=true){b:Type}{a:Y→Option b}{Q:b→Prop}
  (k:∀h',h'[o]?=some (.row T Z (rows.set kk (cH row off (bD v))))→bN o h h'→Wp (a h') Q):Wp ((bU tab h aE (.ptr o kk off) v).bind a) Q:=
 by rw[show bU tab h aE (.ptr o kk off) v=g3 10 h (.ptr o kk off) v from rfl];exact jA e f g d c k
@[simp] theorem AX(c:D)(cs:List D)(h:Y):aA tab h cB (.aG (c::cs))=some c:=id rfl
@[simp] theorem EF(h:Y)(o k a:Nat):aA tab h cB (.ptr o k a)=(h.row o k).bind λrow=>(row.drop a).head?:=by show(match h.row o k with|some row=>_|none=>none)=_;cases h.row o k<;>rfl
@[simp] theorem Ej(o k a:Nat):aD tab aE 0 (.ptr o k a)=some (.ptr o k (a+0)):=id rfl
@[simp] theorem Ek(o k a:Nat):aD tab aE 5 (.ptr o k a)=some (.ptr o k (a+5)):=id rfl
@[simp] theorem El(o k a:Nat):aD tab aE 6 (.ptr o k a)=some (.ptr o k (a+6)):=id rfl
@[simp] theorem Em(o k a:Nat):aD tab aE 7 (.ptr o k a)=some (.ptr o k (a+7)):=id rfl
@[simp] theorem En(o k a:Nat):aD tab aE 8 (.ptr o k a)=some (.ptr o k (a+8)):=id rfl
@[simp] theorem Eo(o k a:Nat):aD tab aE 9 (.ptr o k a)=some (.ptr o k (a+9)):=id rfl
@[simp] theorem EE(h:Y)(o k a:Nat):aA tab h fS (.ptr o k a)=(h.row o k).bind λrow=>(row.drop a).head?:=by show(match h.row o k with|some row=>_|none=>none)=_;cases h.row o k<;>rfl
@[simp] theorem tf(n0:Int)(a:Int):dE tab bP [0,1] [.int .i64 n0,.int .i64 a]=some (.agg [.int .i64 n0,.int .i64 a,.str []]):=id rfl
@[simp] theorem tk(a b c:D):bA tab bS 1 [0] [.agg [a,b,c]]=some (.sl 3 true [[a,b,c]]):=id rfl
@[simp] theorem xB(a:List UInt8)(b c d e f g h i j k:D):dE tab aN [0,1] [.str a,.agg [b,c,d,e,f,g,h,i,j,k]]=some (.agg [.str a,b,c,d,e,f,g,h,i,j,k]):=id rfl
@[simp] theorem Er(o k a:Nat):aD tab fT 1 (.ptr o k a)=some (.ptr o k (a+1)):=id rfl
@[simp] theorem Ep(o k a:Nat):aD tab fT 0 (.ptr o k a)=some (.ptr o k (a+0)):=id rfl
@[simp] theorem ED(h:Y)(o k a:Nat):aA tab h hz (.ptr o k a)=(h.row o k).bind λrow=>(row.drop a).head?:=by show(match h.row o k with|some row=>_|none=>none)=_;cases h.row o k<;>rfl
@[simp] theorem EB(a:Bool)(rows:List (List D))(i:Int):bE tab hz (.sl 1 a rows) (.int .i64 i)=if 0≤i then(rows[i.toNat]?).map .aG else none:=by show(if 1=1∧0≤i then(match rows[i.toNat]? with|some c=>some (D.aG c)|none=>none)else none)=_;by_cases b:0≤i<;>simp[b]<;>cases rows[i.toNat]?<;>rfl
@[simp] theorem EC(c:D)(cs:List D)(h:Y):aA tab h ll (.aG (c::cs))=some c:=id rfl
@[simp] theorem D4(k:IntKind)(n:Int):jW tab ll U (.int k n)=some (.int .i64 (IntKind.wrap .i64 n)):=id rfl
@[simp] theorem xz(n0:Int)(a:Int)(b:Int)(c:Int):dE tab aE [0,1,2,3] [.int .i64 n0,.int .i64 a,.int .i64 b,.int .i64 c]=some (.agg [.int .i64 n0,.int .i64 a,.int .i64 b,.int .i64 c,.J,.int .i64 0,.int .i64 0,.str [],.str [],.J]):=id rfl
@[simp] theorem uj(b a:D)(cs:List D):aD tab bP 1 (.aG (b::a::cs))=some (.aG (a::cs)):=id rfl
@[simp] theorem za(o k a:Nat):aD tab bP 1 (.ptr o k a)=some (.ptr o k (a+1)):=id rfl
def mo:List (List UInt8):=[[115,97,109,112,108,101],[116,111,111,45,108,111,110,103],[114,49]]
@[simp] theorem BZ:bA tab bQ 3 [0,1,2] [.str [115,97,109,112,108,101],.str [116,111,111,45,108,111,110,103],.str [114,49]]=some (.sl 1 true (mo.map λs=>[.str s])):=id rfl
@[simp] theorem tm: bA tab aL 0 [] []=some (.sl 1 true []):=id rfl
@[simp] theorem qL(h:Y)(o k a:Nat):aA tab h aL (.ptr o k a)=(h.row o k).bind λrow=>(row.drop a).head?:=by show(match h.row o k with|some row=>_|none=>none)=_;cases h.row o k<;>rfl
@[simp] theorem A6 {b:Type} {a:b→List D} {l:List b} {d:D} (h:aY 1 a l d):bT tab aL d=some (.int .i64 l.length):=
 by
  rcases h with⟨rfl,rfl⟩|⟨c,rfl⟩
  ·rfl
  ·show some (D.int .i64 ((l.map a).length:Nat))=_;simp
@[simp] theorem uW(z o r n:Nat):bT tab aL (.aC z o r n)=some (.int .i64 n):=id rfl
@[simp] theorem A3:bT tab aL .J=some (.int .i64 0):=id rfl
@[simp] theorem A1(h:Y)(o k a:Nat):aA tab h bP (.ptr o k a)=(h.row o k).bind λrow=>lh 3 (row.drop a):=by show(match h.row o k with|some row=>_|none=>none)=_;cases h.row o k<;>rfl
@[simp] theorem D2(a d:Int)(b e:Int)(c f:List UInt8):S tab .neq bP (.agg [.int .i64 a,.int .i64 b,.str c]) (.agg [.int .i64 d,.int .i64 e,.str f])=some (.bool (!(a==d&&(b==e&&(c==f&&true))))):=id rfl
@[simp] theorem qM {b:Type} {a:b→List D} {l:List b} {d:D} (h:aY 2 a l d):bT tab fS d=some (.int .i64 l.length):=
 by
  rcases h with⟨rfl,rfl⟩|⟨c,rfl⟩
  ·rfl
  ·show some (D.int .i64 ((l.map a).length:Nat))=_;simp
@[simp] theorem AN(a:Bool)(rows:List (List D))(i:Int):bE tab fS (.sl 2 a rows) (.int .i64 i)=if 0≤i then(rows[i.toNat]?).map .aG else none:=by show(if 2=2∧0≤i then(match rows[i.toNat]? with|some c=>some (D.aG c)|none=>none)else none)=_;by_cases b:0≤i<;>simp[b]<;>cases rows[i.toNat]?<;>rfl
@[simp] theorem uQ {b:Type} {a:b→List D} {l:List b} {d:D} (h:aY 2 a l d) (i:Int):bE tab fS d (.int .i64 i)=if 0≤i then(l[i.toNat]?).map λp =>.aG (a p)else none:=
 by
  rcases h with⟨rfl,rfl⟩|⟨c,rfl⟩
  ·show none=_;simp
  ·rw[AN];simp[kp]
@[simp] theorem D1(a c:List UInt8)(b d:List UInt8):S tab .neq g5 (.agg [.str a,.str b]) (.agg [.str c,.str d])=some (.bool (!(a==c&&(b==d&&true)))):=id rfl
def kU:List Int:=[1,1,2,5040]
@[simp] theorem Bo:bA tab aL 4 [0,1,2,3] [.int .i64 1,.int .i64 1,.int .i64 2,.int .i64 5040]=some (.sl 1 true (kU.map λn=>[.int .i64 n])):=id rfl
@[simp] theorem uO(a:Bool)(rows:List (List D))(i:Int):bE tab aL (.sl 1 a rows) (.int .i64 i)=if 0≤i then(rows[i.toNat]?).map .aG else none:=by show(if 1=1∧0≤i then(match rows[i.toNat]? with|some c=>some (D.aG c)|none=>none)else none)=_;by_cases b:0≤i<;>simp[b]<;>cases rows[i.toNat]?<;>rfl
@[simp] theorem jw(o r n:Nat)(i:Int):bE tab aL (.aC 1 o r n) (.int .i64 i)=if 0≤i∧i<n then some (.ptr o (r+i.toNat) 0)else none:=by show(if 1=1∧0≤i∧i<n then some (D.ptr o (r+i.toNat) 0)else none)=_;simp
@[simp] theorem uR {b:Type} {a:b→List D} {l:List b} {d:D} (h:aY 1 a l d) (i:Int):bE tab aL d (.int .i64 i)=if 0≤i then(l[i.toNat]?).map λp =>.aG (a p)else none:=
 by
  rcases h with⟨rfl,rfl⟩|⟨c,rfl⟩
  ·show none=_;simp
  ·rw[uO];simp[kp]
def kV:List (List UInt8):=[[],[116,49],[116,50],[105,100]]
@[simp] theorem Bp:bA tab bQ 4 [0,1,2,3] [.str [],.str [116,49],.str [116,50],.str [105,100]]=some (.sl 1 true (kV.map λs=>[.str s])):=id rfl
def kW:List (List UInt8):=[[109,97,105,110],[97,117,100,105,116]]
@[simp] theorem Bq:bA tab bQ 2 [0,1] [.str [109,97,105,110],.str [97,117,100,105,116]]=some (.sl 1 true (kW.map λs=>[.str s])):=id rfl
@[simp] theorem xA (n0:Int) (c:Int) (d:Int) (e:Int) (f:Int) (g:List UInt8) (h:List UInt8) (b:D) (j:b.one=true):dE tab aE [0,1,2,5,6,7,8,9] [.int .i64 n0,.int .i64 c,.int .i64 d,.int .i64 e,.int .i64 f,.str g,.str h,b]=some (.agg [.int .i64 n0,.int .i64 c,.int .i64 d,.int .i64 0,.J,.int .i64 e,.int .i64 f,.str g,.str h,b]):=by
 have a:=k5 j;refine pB (T:=tab) (i:=oK) (fs:=[(3,0,1),(3,1,1),(3,2,1),(3,3,1),(32,4,1),(3,5,1),(3,6,1),(9,7,1),(9,8,1),(33,9,1)]) (id rfl) (id rfl) ?_;rw[show oK.zero=[.int .i64 0,.int .i64 0,.int .i64 0,.int .i64 0,.J,.int .i64 0,.int .i64 0,.str [],.str [],.J]from id rfl];rw[iB (off:=0) (Z:=1) (id rfl) (id rfl) (by simp[cH,iq,iu,im,il]) (id rfl)];rw[iB (off:=1) (Z:=1) (id rfl) (id rfl) (by simp[cH,iq,iu,im,il]) (id rfl)];rw[iB (off:=2) (Z:=1) (id rfl) (id rfl) (by simp[cH,iq,iu,im,il]) (id rfl)];rw[iB (off:=5) (Z:=1) (id rfl) (id rfl) (by simp[cH,iq,iu,im,il]) (id rfl)];rw[iB (off:=6) (Z:=1) (id rfl) (id rfl) (by simp[cH,iq,iu,im,il]) (id rfl)];rw[iB (off:=7) (Z:=1) (id rfl) (id rfl) (by simp[cH,iq,iu,im,il]) (id rfl)];rw[iB (off:=8) (Z:=1) (id rfl) (id rfl) (by simp[cH,iq,iu,im,il]) (id rfl)];rw[iB (off:=9) (Z:=1) (id rfl) (by rw[a.1];rfl) (by simp[cH,iq,iu,im,il]) a.2,a.1];exact id rfl
theorem DV{h:Y}{o T Z kk off:Nat}{rows:List (List D)}{row:List D}{v:D}(e:h[o]?=some (.row T Z rows))(f:rows[kk]?=some row)(g:(bD v).length=3)(d:off+3≤row.length)(c:v.ey=true){b:Type}{a:Y→Option b}{Q:b→Prop}
  (k:∀h',h'[o]?=some (.row T Z (rows.set kk (cH row off (bD v))))→bN o h h'→Wp (a h') Q):Wp ((bU tab h bP (.ptr o kk off) v).bind a) Q:=
 by rw[show bU tab h bP (.ptr o kk off) v=g3 3 h (.ptr o kk off) v from rfl];exact jA e f g d c k
@[simp] theorem A7 {b:Type} {a:b→List D} {l:List b} {d:D} (h:aY 1 a l d):bT tab bQ d=some (.int .i64 l.length):=
 by
  rcases h with⟨rfl,rfl⟩|⟨c,rfl⟩
  ·rfl
  ·show some (D.int .i64 ((l.map a).length:Nat))=_;simp
@[simp] theorem A2(z:Nat)(a:Bool)(rows:List (List D)):bT tab bQ (.sl z a rows)=some (.int .i64 rows.length):=id rfl
@[simp] theorem uP(a:Bool)(rows:List (List D))(i:Int):bE tab bQ (.sl 1 a rows) (.int .i64 i)=if 0≤i then(rows[i.toNat]?).map .aG else none:=by show(if 1=1∧0≤i then(match rows[i.toNat]? with|some c=>some (D.aG c)|none=>none)else none)=_;by_cases b:0≤i<;>simp[b]<;>cases rows[i.toNat]?<;>rfl
@[simp] theorem AP {b:Type} {a:b→List D} {l:List b} {d:D} (h:aY 1 a l d) (i:Int):bE tab bQ d (.int .i64 i)=if 0≤i then(l[i.toNat]?).map λp =>.aG (a p)else none:=
 by
  rcases h with⟨rfl,rfl⟩|⟨c,rfl⟩
  ·show none=_;simp
  ·rw[uP];simp[kp]
def hv:List (List UInt8):=[[97],[105,100],[108,101,118,101,108],[117,115,101,114]]
@[simp] theorem Br:hv.length=4:=id rfl
@[simp] theorem Bs:bA tab bQ 4 [0,1,2,3] [.str [97],.str [105,100],.str [108,101,118,101,108],.str [117,115,101,114]]=some (.sl 1 true (hv.map λs=>[.str s])):=id rfl
def kX:List (List UInt8):=[[],[49],[105,110,102,111],[119,97,114,110],[97,110,110],[50,46,53,48],[116,114,117,101],[116,49]]
@[simp] theorem Bt:bA tab bQ 8 [0,1,2,3,4,5,6,7] [.str [],.str [49],.str [105,110,102,111],.str [119,97,114,110],.str [97,110,110],.str [50,46,53,48],.str [116,114,117,101],.str [116,49]]=some (.sl 1 true (kX.map λs=>[.str s])):=id rfl
@[simp] theorem xy(a:List UInt8)(b:List UInt8):dE tab g5 [0,1] [.str a,.str b]=some (.agg [.str a,.str b]):=id rfl
@[simp] theorem xG(a b:D):bA tab fS 1 [0] [.agg [a,b]]=some (.sl 2 true [[a,b]]):=id rfl
theorem DM{h:Y}{n0:Nat}(f:n0≤h.length){rows:List (List D)}{x y:D}(g:aT h n0 g5 2 rows x){ys:List (List D)}(l:gn h 2 y=some ys)(e:(rows.length+ys.length)*32≤140737488355328){d:Type}{c:D × Y→Option d}{Q:d→Prop}
  (k:∀b h',aT h' n0 g5 2 (rows++ys) b→h.length≤h'.length→(∀a,a<n0→h'[a]?=h[a]?)→(∀a,a<h.length→¬x.dN a→h'[a]?=h[a]?)→(∀a,b.dN a→x.dN a∨h.length≤a)→Wp (c (b,h')) Q):Wp ((dM tab h fS fS x y).bind c) Q:=
 nv (T:=tab) (i:=rB) (j:=rv) (id rfl) (id rfl) (id rfl) (by decide) f g l (kT e (by omega)) k
@[simp] theorem zb(o k a:Nat):aD tab bP 2 (.ptr o k a)=some (.ptr o k (a+2)):=id rfl
theorem DW{h:Y}{o T Z kk off:Nat}{rows:List (List D)}{row:List D}{v:D}(e:h[o]?=some (.row T Z rows))(f:rows[kk]?=some row)(g:(bD v).length=1)(d:off+1≤row.length)(c:v.ey=true){b:Type}{a:Y→Option b}{Q:b→Prop}
  (k:∀h',h'[o]?=some (.row T Z (rows.set kk (cH row off (bD v))))→bN o h h'→Wp (a h') Q):Wp ((bU tab h cB (.ptr o kk off) v).bind a) Q:=
 by rw[show bU tab h cB (.ptr o kk off) v=g3 1 h (.ptr o kk off) v from rfl];exact jA e f g d c k
def Bu:List (List UInt8):=[[49],[50],[57]]
@[simp] theorem Bv:bA tab bQ 3 [0,1,2] [.str [49],.str [50],.str [57]]=some (.sl 1 true (Bu.map λs=>[.str s])):=id rfl
def Bw:List (List UInt8):=[[48],[53]]
@[simp] theorem Bx:bA tab bQ 2 [0,1] [.str [48],.str [53]]=some (.sl 1 true (Bw.map λs=>[.str s])):=id rfl
def Bz:List (List UInt8):=[[49],[50]]
@[simp] theorem BA:bA tab bQ 2 [0,1] [.str [49],.str [50]]=some (.sl 1 true (Bz.map λs=>[.str s])):=id rfl
def BB:List (List UInt8):=[[105,110,102,111],[119,97,114,110]]
@[simp] theorem BC:bA tab bQ 2 [0,1] [.str [105,110,102,111],.str [119,97,114,110]]=some (.sl 1 true (BB.map λs=>[.str s])):=id rfl
def BD:List (List UInt8):=[[55],[116,49],[116,50]]
@[simp] theorem BE:bA tab bQ 3 [0,1,2] [.str [55],.str [116,49],.str [116,50]]=some (.sl 1 true (BD.map λs=>[.str s])):=id rfl
def BF:List (List UInt8):=[[105,110,102,111],[119,97,114,110],[100,101,98,117,103]]
@[simp] theorem BG:bA tab bQ 3 [0,1,2] [.str [105,110,102,111],.str [119,97,114,110],.str [100,101,98,117,103]]=some (.sl 1 true (BF.map λs=>[.str s])):=id rfl
def BH:List (List UInt8):=[[97,110,110],[98,111,98]]
@[simp] theorem BI:bA tab bQ 2 [0,1] [.str [97,110,110],.str [98,111,98]]=some (.sl 1 true (BH.map λs=>[.str s])):=id rfl
def BJ:List (List UInt8):=[[49,48,46,50],[49,48,46,51],[55,46,55]]
@[simp] theorem BK:bA tab bQ 3 [0,1,2] [.str [49,48,46,50],.str [49,48,46,51],.str [55,46,55]]=some (.sl 1 true (BJ.map λs=>[.str s])):=id rfl
def BL:List (List UInt8):=[[102],[103]]
@[simp] theorem BM:bA tab bQ 2 [0,1] [.str [102],.str [103]]=some (.sl 1 true (BL.map λs=>[.str s])):=id rfl
def BN:List (List UInt8):=[[40,49,41],[40,50,50,41]]
@[simp] theorem BO:bA tab bQ 2 [0,1] [.str [40,49,41],.str [40,50,50,41]]=some (.sl 1 true (BN.map λs=>[.str s])):=id rfl
def BP:List (List UInt8):=[[97,110,110],[98,111,98],[101,118,101]]
@[simp] theorem BQ:bA tab bQ 3 [0,1,2] [.str [97,110,110],.str [98,111,98],.str [101,118,101]]=some (.sl 1 true (BP.map λs=>[.str s])):=id rfl
def BR:List (List UInt8):=[[105,110],[111,117,116]]
@[simp] theorem BS:bA tab bQ 2 [0,1] [.str [105,110],.str [111,117,116]]=some (.sl 1 true (BR.map λs=>[.str s])):=id rfl
def BT:List (List UInt8):=[[49],[45,50,48],[116,114,117,101]]
@[simp] theorem BU:bA tab bQ 3 [0,1,2] [.str [49],.str [45,50,48],.str [116,114,117,101]]=some (.sl 1 true (BT.map λs=>[.str s])):=id rfl
def BV:List (List UInt8):=[[111,107],[102,97,105,108,101,100]]
@[simp] theorem BW:bA tab bQ 2 [0,1] [.str [111,107],.str [102,97,105,108,101,100]]=some (.sl 1 true (BV.map λs=>[.str s])):=id rfl
def ve:List (List UInt8):=[[97],[98],[32],[49],[117,115,101,114],[61],[34],[55],[46],[44],[120,32,121],[49,48,46,50],[45],[195,169],[91],[105,100],[9],[58]]
@[simp] theorem BX:bA tab bQ 18 [0,1,2,3,4,5,6,7,8,9,10,11,12,13,14,15,16,17] [.str [97],.str [98],.str [32],.str [49],.str [117,115,101,114],.str [61],.str [34],.str [55],.str [46],.str [44],.str [120,32,121],.str [49,48,46,50],.str [45],.str [195,169],.str [91],.str [105,100],.str [9],.str [58]]=some (.sl 1 true (ve.map λs=>[.str s])):=id rfl
theorem wI{h:Y}{o T Z kk off:Nat}{rows:List (List D)}{row:List D}{v:D}(e:h[o]?=some (.row T Z rows))(f:rows[kk]?=some row)(g:(bD v).length=1)(d:off+1≤row.length)(c:v.ey=true){b:Type}{a:Y→Option b}{Q:b→Prop}
  (k:∀h',h'[o]?=some (.row T Z (rows.set kk (cH row off (bD v))))→bN o h h'→Wp (a h') Q):Wp ((bU tab h aL (.ptr o kk off) v).bind a) Q:=
 by rw[show bU tab h aL (.ptr o kk off) v=g3 1 h (.ptr o kk off) v from rfl];exact jA e f g d c k
@[simp] theorem mh {b:Type} {a:b→List D} {l:List b} {d:D} (h:aY 11 a l d):bT tab cD d=some (.int .i64 l.length):=
 by
  rcases h with⟨rfl,rfl⟩|⟨c,rfl⟩
  ·rfl
  ·show some (D.int .i64 ((l.map a).length:Nat))=_;simp
theorem A4{h:Y}{n0 a z:Nat}{rows:List (List D)}{d:D}(b:aT h n0 a z rows d):bT tab cD d=some (.int .i64 rows.length):=by
 rcases b with⟨rfl,rfl⟩|⟨c,_,rfl,_⟩<;>rfl
@[simp] theorem AL(a:Bool)(rows:List (List D))(i:Int):bE tab cD (.sl 11 a rows) (.int .i64 i)=if 0≤i then(rows[i.toNat]?).map .aG else none:=by show(if 11=11∧0≤i then(match rows[i.toNat]? with|some c=>some (D.aG c)|none=>none)else none)=_;by_cases b:0≤i<;>simp[b]<;>cases rows[i.toNat]?<;>rfl
@[simp] theorem n5 {b:Type} {a:b→List D} {l:List b} {d:D} (h:aY 11 a l d) (i:Int):bE tab cD d (.int .i64 i)=if 0≤i then(l[i.toNat]?).map λp =>.aG (a p)else none:=
 by
  rcases h with⟨rfl,rfl⟩|⟨c,rfl⟩
  ·show none=_;simp
  ·rw[AL];simp[kp]
@[simp] theorem te (b:D) (c:b.one=true):dE tab cJ [1] [b]=some (.agg [.J,b]):=by
 have a:=k5 c;refine pB (T:=tab) (i:=oJ) (fs:=[(25,0,1),(25,1,1)]) (id rfl) (id rfl) ?_;rw[show oJ.zero=[.J,.J]from id rfl];rw[iB (off:=1) (Z:=1) (id rfl) (by rw[a.1];rfl) (by simp[cH,iq,iu,im,il]) a.2,a.1];exact id rfl
@[simp] theorem uI(d:D)(xs:List D)(h:Y):eU tab R "Len" (.iface gE d::xs) h=R l4 (d::xs) h:=by kernel_rfl
@[simp] theorem mc(d:D)(xs:List D)(h:Y):eU tab R "Less" (.iface gE d::xs) h=R p2 (d::xs) h:=by kernel_rfl
@[simp] theorem AD(d:D)(xs:List D)(h:Y):eU tab R "Pop" (.iface gE d::xs) h=R nQ (d::xs) h:=by kernel_rfl
@[simp] theorem AE(d:D)(xs:List D)(h:Y):eU tab R "Push" (.iface gE d::xs) h=R nR (d::xs) h:=by kernel_rfl
@[simp] theorem me(d:D)(xs:List D)(h:Y):eU tab R "Swap" (.iface gE d::xs) h=R l5 (d::xs) h:=by kernel_rfl
end Go.Proofs.Ytinlnkhheafjaaa
namespace Go.Eng
abbrev fP:=@Int.toNat_natCast
abbrev iL:=@List.map_append
abbrev o5:=@Int.natCast_nonneg
abbrev pa:=@List.head?_cons
abbrev px:=@UInt8.lt_iff_toNat_lt
abbrev sP:=@List.not_mem_nil
end Go.Eng
namespace Go.Proofs.Ytinlnkhheafjaaa
open Go.Eng Go.Pi
open Option renaming bind_some → ES
abbrev aR:=List UInt8
def fb(p:aR × aR):List D:=[.str p.1,.str p.2]
structure dJ where
 off:Int
 len:Int
 gg:aR
 deriving DecidableEq
def bW(l:dJ):List D:=[.int .i64 l.off,.int .i64 l.len,.str l.gg]
structure Ev where
 a0:Int
 a1:Int
 a2:Int
 a3:Int
 ls:List dJ
 ld:D
 a5:Int
 a6:Int
 s7:aR
 s8:aR
 fs:List (aR × aR)
 fd:D
 jv:aY 2 fb fs fd
 hl:fs.length≤9223372036854775807
 iC:aY 3 bW ls ld
 uG:ls.length≤9223372036854775807
def bY(a:Ev):List D:=[.int .i64 a.a0,.int .i64 a.a1,.int .i64 a.a2,.int .i64 a.a3,a.ld,.int .i64 a.a5,.int .i64 a.a6,.str a.s7,.str a.s8,a.fd]
structure It where
 r:aR
 e:Ev
def aJ(i:It):List D :=.str i.r::bY i.e
theorem uu(n0:Nat)(h:Y)(n:Nat)(p:aR × aR):∀d∈fb p,aW n0 h n d=d:=by simp[-ES,fb]
theorem pZ(n:Nat)(p:aR × aR):∀d∈fb p,Ok n d:=by
 intro d a;simp[-ES,fb]at a;rcases a with rfl|rfl<;>constructor
theorem oa(n0:Nat)(h:Y)(n:Nat)(p:dJ):∀d∈bW p,aW n0 h n d=d:=by simp[-ES,bW]
theorem qN(n:Nat)(p:dJ):∀d∈bW p,Ok n d:=by
 intro d a;simp[-ES,bW]at a;rcases a with rfl|rfl|rfl<;>constructor
theorem ua(n0:Nat)(h:Y)(n:Nat)(b:Ev):∀d∈bY b,aW n0 h (n+1) d=d:=by
 intro d c;simp[-ES,bY]at c;rcases c with rfl|rfl|rfl|rfl|rfl|rfl|rfl|rfl|rfl|rfl
 all_goals first|exact rj b.iC (λa _=>oa _ _ _ a)|exact rj b.jv (λa _=>uu _ _ _ a)|simp[-ES]
theorem ub(n:Nat)(b:Ev):∀d∈bY b,Ok n d:=by
 intro d c;simp[-ES,bY]at c;rcases c with rfl|rfl|rfl|rfl|rfl|rfl|rfl|rfl|rfl|rfl
 all_goals first|exact jE b.iC (λa _=>qN _ a)|exact jE b.jv (λa _=>pZ _ a)|constructor
theorem qG(n:Nat)(i:It):Ok n (.agg (aJ i)):=by
 refine .agg _ λc b=>?_
 simp[-ES,aJ,bY]at b;rcases b with rfl|rfl|rfl|rfl|rfl|rfl|rfl|rfl|rfl|rfl|rfl
 all_goals first|exact jE i.e.iC (λa _=>qN _ a)|exact jE i.e.jv (λa _=>pZ _ a)|constructor
theorem uK(n0:Nat)(h:Y)(n:Nat)(i:It):∀d∈aJ i,aW n0 h (n+1) d=d:=by
 intro d a;rcases e7.1 a with rfl|a
 ·simp[-ES]
 ·exact ua n0 h n i.e d a
theorem uL(n:Nat)(i:It):∀d∈aJ i,Ok n d:=by
 intro d a;rcases e7.1 a with rfl|a
 ·exact .str _
 ·exact ub n i.e d a
theorem tZ(a:Ev)(h:Y):aA tab h aE (.aG (bY a))=some (.agg (bY a)):=id rfl
theorem mf(i:It):aD tab aN 1 (.aG (aJ i))=some (.aG (bY i.e)):=id rfl
theorem AG(i:It):aD tab aN 0 (.aG (aJ i))=some (.aG (aJ i)):=id rfl
theorem AH(i:It)(h:Y):aA tab h cB (.aG (aJ i))=some (.str i.r):=id rfl
theorem qI(i:It)(h:Y):aA tab h aN (.aG (aJ i))=some (.agg (aJ i)):=id rfl
theorem tj(i:It):hh 11 (.agg (aJ i))=some (.aG (aJ i)):=pD 11 _ rfl
theorem xI(i:It):bA tab cD 1 [0] [.agg (aJ i)]=some (.sl 11 true [aJ i]):=id rfl
theorem u0(l:dJ)(h:Y):aA tab h bP (.aG (bW l))=some (.agg (bW l)):=id rfl
theorem zJ(l:aR × aR)(h:Y):aA tab h g5 (.aG (fb l))=some (.agg (fb l)):=id rfl
theorem A9(a b:dJ):S tab .neq bP (.agg (bW a)) (.agg (bW b))=some (.bool (decide (a≠b))):=by
 obtain⟨c,d,e⟩:=a;obtain⟨f,g,h⟩:=b;simp[-ES,bW];by_cases i:c=f<;>by_cases j:d=g<;>by_cases k:e=h<;>simp[-ES,i,j,k]
theorem zK(a b:aR × aR):S tab .neq g5 (.agg (fb a)) (.agg (fb b))=some (.bool (decide (a≠b))):=by
 obtain⟨c,d⟩:=a;obtain⟨e,f⟩:=b;simp[-ES,fb];by_cases g:c=e<;>by_cases h:d=f<;>simp[-ES,g,h]
theorem C6(l r:List dJ)(d v:D)(h:Y)(m:aY 3 bW l d)(w:aY 3 bW r v)(F:l.length≤9223372036854775807):R p5 [d,v] h=some (.bool (decide (l=r)),h):=by
 apply Wp.val;rw[yZ];simp only[ss,bs,cQ,mi m,mi w,pG];refine Wp.fv ?_ ?_
 ·intro g;have g:l.length≠r.length:=by
   have:¬(l.length:Int)=r.length:=by simpa using g
   omega
  have o:l≠r:=λn=>g (by rw[n])
  simp only[bs,dO];exact .some (by simp[-ES,o])
 ·intro g;have g:l.length=r.length:=by
   have:(l.length:Int)=r.length:=by simpa using g
   omega
  refine Wp.loop (λq i k=>k=h∧∃s t u,∃a:Nat,i=[s,.int .i64 a,t,u]∧q+a=l.length∧l.take a=r.take a)
   (λb=>b.2.2=h∧((b.1 = .ret∧W 0 b.2.1 = .bool false∧l≠r)∨(b.1 = .ext 0∧l=r))) l.length ⟨rfl,_,_,_,0,rfl,rfl,rfl⟩ ?_ ?_
  ·rintro q i k ⟨rfl,s,t,u,a,rfl,E,x⟩;simp only[su,dA,fL,bs,cQ,mi m,hj];refine Wp.fv ?_ ?_
   ·intro f;have f:a<l.length:=lT f;have j:l[a]?=some l[a]:=bX f;have c:r[a]?=some (r[a]'(by omega)):=bX (by omega);have C:=ln a (by omega);generalize l[a]=b at j;generalize r[a]'(by omega)=y at c;simp only[n6 m,n6 w,o5,bL,fP,j,c,gk,bs,u0,A9];refine Wp.fv ?_ ?_
    ·intro e;have e:b≠y:=by simpa using e
     try simp only[bs]
     refine .some (.inr ⟨by simp,rfl,.inl ⟨rfl,rfl,λn=>?_⟩⟩);subst n;rw[j]at c;injection c with c;exact e c
    ·intro e;have e:b=y:=by simpa using e
     subst e;simp only[fH,bs,C];refine .some (.inl ⟨rfl,q - 1,by omega,rfl,_,_,_,a+1,rfl,by omega,?_⟩);rw[ie,ie,x,j,c]
   ·intro f;have f:a=l.length:=by
     have:¬(a:Int)<l.length:=by simpa using f
     omega
    refine .some (.inr ⟨by simp,rfl,.inr ⟨rfl,?_⟩⟩);have z:l.take a=l:=fE (by omega);have A:r.take a=r:=fE (by omega);rw[← z,← A,x]
  ·rintro⟨b,i,k⟩ ⟨rfl,⟨rfl,p,o⟩|⟨rfl,B⟩⟩
   ·replace p:W 0 i = .bool false:=p;simp only[wE,wD,ue,dA,bs,p,dO];exact .some (by simp[-ES,o])
   ·simp only[gh,eB,bs,dO];exact .some (by simp[-ES,B])
theorem C7(l r:List (aR × aR))(d v:D)(h:Y)(m:aY 2 fb l d)(w:aY 2 fb r v)(F:l.length≤9223372036854775807):R p6 [d,v] h=some (.bool (decide (l=r)),h):=by
 apply Wp.val;rw[y0];simp only[sv,bs,cQ,qM m,qM w,pG];refine Wp.fv ?_ ?_
 ·intro g;have g:l.length≠r.length:=by
   have:¬(l.length:Int)=r.length:=by simpa using g
   omega
  have o:l≠r:=λn=>g (by rw[n])
  simp only[bs,dO];exact .some (by simp[-ES,o])
 ·intro g;have g:l.length=r.length:=by
   have:(l.length:Int)=r.length:=by simpa using g
   omega
  refine Wp.loop (λq i k=>k=h∧∃s t u,∃a:Nat,i=[s,.int .i64 a,t,u]∧q+a=l.length∧l.take a=r.take a)
   (λb=>b.2.2=h∧((b.1 = .ret∧W 0 b.2.1 = .bool false∧l≠r)∨(b.1 = .ext 0∧l=r))) l.length ⟨rfl,_,_,_,0,rfl,rfl,rfl⟩ ?_ ?_
  ·rintro q i k ⟨rfl,s,t,u,a,rfl,E,x⟩;simp only[sw,dA,fL,bs,cQ,qM m,hj];refine Wp.fv ?_ ?_
   ·intro f;have f:a<l.length:=lT f;have j:l[a]?=some l[a]:=bX f;have c:r[a]?=some (r[a]'(by omega)):=bX (by omega);have C:=ln a (by omega);generalize l[a]=b at j;generalize r[a]'(by omega)=y at c;simp only[uQ m,uQ w,o5,bL,fP,j,c,gk,bs,zJ,zK];refine Wp.fv ?_ ?_
    ·intro e;have e:b≠y:=by simpa using e
     try simp only[bs]
     refine .some (.inr ⟨by simp,rfl,.inl ⟨rfl,rfl,λn=>?_⟩⟩);subst n;rw[j]at c;injection c with c;exact e c
    ·intro e;have e:b=y:=by simpa using e
     subst e;simp only[fH,bs,C];refine .some (.inl ⟨rfl,q - 1,by omega,rfl,_,_,_,a+1,rfl,by omega,?_⟩);rw[ie,ie,x,j,c]
   ·intro f;have f:a=l.length:=by
     have:¬(a:Int)<l.length:=by simpa using f
     omega
    refine .some (.inr ⟨by simp,rfl,.inr ⟨rfl,?_⟩⟩);have z:l.take a=l:=fE (by omega);have A:r.take a=r:=fE (by omega);rw[← z,← A,x]
  ·rintro⟨b,i,k⟩ ⟨rfl,⟨rfl,p,o⟩|⟨rfl,B⟩⟩
   ·replace p:W 0 i = .bool false:=p;simp only[wE,wD,ue,dA,bs,p,dO];exact .some (by simp[-ES,o])
   ·simp only[gh,eB,bs,dO];exact .some (by simp[-ES,B])
def gq(a b:Ev):Bool:=decide (a.a0=b.a0)&&(decide (a.a1=b.a1)&&(decide (a.a2=b.a2)&&(decide (a.a3=b.a3)&&(decide (a.a5=b.a5)&&(decide (a.a6=b.a6)&&(decide (a.s7=b.s7)&&(decide (a.s8=b.s8)&&(decide (a.ls=b.ls)&&decide (a.fs=b.fs)))))))))
def gu(i j:It):Bool:=decide (i.r=j.r)&&gq i.e j.e
theorem C9(a:Ev):gq a a=true:=by simp[-ES,gq]
theorem Da(a:It):gu a a=true:=by simp[-ES,gu,C9]
theorem C3(i j:It)(h:Y):R l6 [.agg (aJ i),.agg (aJ j)] h=some (.bool (gu i j),h):=by
 apply Wp.val;rw[yV];simp only[sk,CB,bs,cQ,mf,AG,AH,tZ];generalize y:aF h aE 10 [[.int .i64 0,.int .i64 0,.int .i64 0,.int .i64 0,.J,.int .i64 0,.int .i64 0,.str [],.str [],.J]]=B;have Q:B.length=h.length+1:=by simp[-ES,← y,aF]
 have N:∀b,b<h.length→B[b]?=h[b]?:=λb A=>by simp only[← y,aF];rw[cU A]
 have X:B[h.length]?=some (.row aE 10 [[.int .i64 0,.int .i64 0,.int .i64 0,.int .i64 0,.J,.int .i64 0,.int .i64 0,.str [],.str [],.J]]):=by simp[-ES,← y,aF]
 clear y;refine mU X (by rfl) (by rfl) (by simp) (by rfl) λw s L=>?_
 replace s:w[h.length]?=some (.row aE 10 [bY i.e]):=s;have K:w.length=h.length+1:=by rw[L.1,Q]
 try simp only[kC]
 rw[K];generalize z:aF w aE 10 [[.int .i64 0,.int .i64 0,.int .i64 0,.int .i64 0,.J,.int .i64 0,.int .i64 0,.str [],.str [],.J]]=C;have ad:h.length≤C.length:=by simp[-ES,← z,aF];omega
 have I:∀b,b<h.length+1→C[b]?=w[b]?:=λb A=>by simp only[← z,aF];rw[cU (by omega)]
 have aa:C[h.length+1]?=some (.row aE 10 [[.int .i64 0,.int .i64 0,.int .i64 0,.int .i64 0,.J,.int .i64 0,.int .i64 0,.str [],.str [],.J]]):=by
  simp only[← z,aF];rw[← K,fW (aX _)];simp[-ES]
 replace s:=(I h.length (by omega)).trans s;clear z;refine mU aa (by rfl) (by rfl) (by simp) (by rfl) λp E F=>?_
 replace E:p[h.length+1]?=some (.row aE 10 [bY j.e]):=E;replace s:=(F.2 h.length (by omega)).trans s;have P:∀b,b<h.length→p[b]?=h[b]?:=λb A=>(((F.2 b (by omega)).trans (I b (by omega))).trans (L.2 b (by omega))).trans (N b A)
 have T:h.length≤p.length:=by have:=F.1;omega
 have k:p.row h.length 0=some (bY i.e):=eG s;have l:p.row (h.length+1) 0=some (bY j.e):=eG E;have f:∀v:Bool,scope h p (.bool v)=some (.bool v,h):=λv=>mL (by simp) (.bool v) T P
 obtain⟨ab,a⟩:=i;obtain⟨ac,c⟩:=j;by_cases d:ab=ac
 case neg=>exact⟨_,by simp[-ES,d,f,gu],rfl⟩
 by_cases g:a.a0=c.a0
 case neg=>exact⟨_,by simp[-ES,d,g,f,gu,gq,k,l,bY],rfl⟩
 by_cases m:a.a1=c.a1
 case neg=>exact⟨_,by simp[-ES,d,g,m,f,gu,gq,k,l,bY],rfl⟩
 by_cases o:a.a2=c.a2
 case neg=>exact⟨_,by simp[-ES,d,g,m,o,f,gu,gq,k,l,bY],rfl⟩
 by_cases q:a.a3=c.a3
 case neg=>exact⟨_,by simp[-ES,d,g,m,o,q,f,gu,gq,k,l,bY],rfl⟩
 by_cases r:a.a5=c.a5
 case neg=>exact⟨_,by simp[-ES,d,g,m,o,q,r,f,gu,gq,k,l,bY],rfl⟩
 by_cases t:a.a6=c.a6
 case neg=>exact⟨_,by simp[-ES,d,g,m,o,q,r,t,f,gu,gq,k,l,bY],rfl⟩
 by_cases u:a.s7=c.s7
 case neg=>exact⟨_,by simp[-ES,d,g,m,o,q,r,t,u,f,gu,gq,k,l,bY],rfl⟩
 by_cases x:a.s8=c.s8
 case neg=>exact⟨_,by simp[-ES,d,g,m,o,q,r,t,u,x,f,gu,gq,k,l,bY],rfl⟩
 have G:=C6 a.ls c.ls a.ld c.ld p a.iC c.iC a.uG;have M:=C7 a.fs c.fs a.fd c.fd p a.jv c.jv a.hl;by_cases D:a.ls=c.ls
 case neg=>exact⟨_,by simp[-ES,d,g,m,o,q,r,t,u,x,D,f,gu,gq,k,l,bY,G],rfl⟩
 by_cases H:a.fs=c.fs
 case neg=>exact⟨_,by simp[-ES,d,g,m,o,q,r,t,u,x,D,H,f,gu,gq,k,l,bY,G,M],rfl⟩
 exact⟨_,by simp[-ES,d,g,m,o,q,r,t,u,x,D,H,f,gu,gq,k,l,bY,G,M],rfl⟩
theorem uE{a:List Int}{d:D}(b:gv .u8 a d):bT tab hz d=some (.int .i64 a.length):=by
 rcases b with⟨rfl,rfl⟩|rfl
 ·rfl
 ·simp[-ES,ints]
theorem z1{b:List Int}{d:D}(c:gv .u8 b d)(i:Nat)(z:Int)(a:b[i]?=some z):bE tab hz d (.int .i64 i)=some (.aG [.int .u8 z]):=by
 rcases c with⟨rfl,rfl⟩|rfl
 ·cases a
 ·simp[-ES,ints,a]
theorem Dn(h:Y)(o k a:Nat)(v:D):bU tab h U (.ptr o k a) v=g3 1 h (.ptr o k a) v:=rfl
def blank(l:dJ):dJ:={ l with gg:=[] }
theorem n8{h:Y}{a T z:Nat}{cs:List D}(c:h[a]?=some (.row T z [cs]))(b:cs.length=10):aA tab h aE (.ptr a 0 0)=some (.agg cs):=by
 rw[A0,eG c];simp[-ES,lh,b];exact fE (by omega)
theorem qJ{h:Y}{a T z:Nat}{cs:List D}(c:h[a]?=some (.row T z [cs]))(b:cs.length=11):aA tab h aN (.ptr a 0 0)=some (.agg cs):=by
 rw[uV,eG c];simp[-ES,lh,b];exact fE (by omega)
theorem C8(n:Int)(h:Y):R nX [.int .i64 n] h=some (.bool false,h):=by
 rw[y1];simp[-ES,sx]
def gO(a b:Int):Int:=if a<b then -1 else if b<a then 1 else 0
theorem C5(a b:Int)(h:Y):R nW [.int .i64 a,.int .i64 b] h=some (.int .i64 (gO a b),h):=by
 rw[yY];simp[-ES,sr,C8,gO];by_cases c:a<b
 ·simp[-ES,c]
 ·by_cases d:b<a<;>simp[-ES,c,d]
def uX(c:Int):Bool:=(decide (97≤c)&&decide (c≤122))||(decide (65≤c)&&decide (c≤90))
def x4(c:Int):Bool:=decide (48≤c)&&decide (c≤57)
def DS(c:Int):Bool:=(x4 c||uX c)||decide (c=95)
def Co(c:UInt8):Bool:=DS c.toNat||decide ((c.toNat:Int)=46)
def nZ(s:aR):Bool:=match s with
 |[]=>false
 |c::a=>decide ((c::a).length≤32)&&(uX c.toNat||decide ((c.toNat:Int)=95))&&(c::a).all Co
def mY(l:List (aR × aR)):Prop:=∀c a b,l[c]?=some a→l[c+1]?=some b→Op.bytesLess a.1 b.1=true∧a.1≠b.1
def bZ(n:Int):List D:=[.int .i64 n]
def g2:List Int→Int
 |[]=>0
 |x::r=>if x=0 then g2 r else x
theorem AQ(l:List Int)(d:D)(h:Y)(m:aY 1 bZ l d)(x:l.length≤9223372036854775807){s:Type}(g:cS→Option s)(X:Int→Option s)
   (u:∀v r,g (.ret,.int .i64 v::r,h)=X v) (w:∀r,g (.ext 0,r,h)=X 0):∀(e c:List Int),l=c++e→∀n:Int,n=c.length→∀a b i j,
   (cT (lr (.int .i64 0) d (.int .i64 l.length)) [a,b,.int .i64 n,i,j] h).bind g=X (g2 e):=by
 intro e
 induction e with
 | nil =>
  rintro c rfl n rfl a b i j;rw[oi];simp[-ES,lr,w,g2]
 | cons f e z =>
  rintro c rfl n rfl a b i j;have y:IntKind.wrap .i64 ((c.length:Int)+1)=(c++[f]).length:=by
   rw[cE (by omega) (by simp at x;omega)];simp[-ES]
  have p:(c.length:Int)<(c++f::e).length:=by simp;omega
  rw[oi];generalize k:c++f::e=t at *;have o:t[c.length]?=some f:=by rw[← k];exact uD _ _ _
  by_cases q:f=0
  ·subst q;have:=z (c++[0]) (by simp[-ES,← k]) _ rfl a (.int .i64 0) (.bool true) (.bool false);simp only[← y]at this;simp[-ES,lr,uR m,p,o,bZ,g2];exact this
  ·simp[-ES,lr,uR m,p,o,bZ,q,u,g2]
theorem C4(l:List Int)(d:D)(h:Y)(a:aY 1 bZ l d)(c:l.length≤9223372036854775807):R p4 [d] h=some (.int .i64 (g2 l),h):=by
 rw[yX];simp only[sq,bs,A6 a,cQ];rw[AQ l d h a c _ (λb=>some (.int .i64 b,h)) (λb e=>by simp) (λe=>by simp) l [] rfl 0 rfl]
theorem vx(o pos:Nat)(a:List Int)(d:D)(h:Y)(c:h[o]?=some (.row fT 2 [[d,.int .i64 pos]]))(b:gv .u8 a d):R p3 [.ptr o 0 0] h=some (.bool (decide (pos<a.length)),h):=by
 rw[yT];simp[-ES,si,Y.row,c,uE b]
def CM(h:Y)(o:Nat):Prop:=∃(b:D) (a:List Int) (c:Nat),h[o]?=some (.row fT 2 [[b,.int .i64 c]])∧gv .u8 a b∧a.length≤400∧c≤400∧∀d∈a,0≤d∧d<256
theorem CM.aO{h h':Y}{o:Nat}(b:CM h o)(c:h'[o]?=h[o]?):CM h' o:=by
 obtain⟨a,g,f,d,e⟩:=b;exact⟨a,g,f,by rw[c];exact d,e⟩
theorem CM.lt{h:Y}{o:Nat}(a:CM h o):o<h.length:=by
 obtain⟨c,f,e,b,d⟩:=a;exact(aP.1 b).1
theorem CM.ok{h:Y}{o:Nat}(e:CM h o)(n:Nat):∀T Z rows,h[o]?=some (.row T Z rows)→∀row∈rows,∀d∈row,Ok n d:=by
 obtain⟨d,k,i,g,f,_⟩:=e;intro T Z rows a row b j c;rw[g]at a;injection a with a;injection a with _ _ a;subst a;simp at b;subst b;simp at c;rcases c with rfl|rfl
 ·exact z2 f n
 ·exact .int _ _
theorem fK{h:Y}{o:Nat}(r:CM h o)(n:Int)(B:1≤n)(C:n≤1000000000):∃v h',R fh [.ptr o 0 0,.int .i64 n] h=some (.int .i64 v,h')∧CM h' o∧bN o h h'∧0≤v∧v<n:=by
 obtain⟨c,b,a,e,d,k,u,i⟩:=r;have s:¬n<1:=by omega
 have t:¬n=0:=by omega
 by_cases g:a<b.length
 ·have j:b[a]?=some b[a]:=bX g;have l:=i b[a] (sL _);generalize b[a]=f at j l;have x:IntKind.wrap .i64 ((a:Int)+1)=(a:Int)+1:=cE (by omega) (by omega);have y:IntKind.wrap .i64 ((a:Int)+1 - 1)=(a:Int):=by rw[cE (by omega) (by omega)];omega
  have z:IntKind.wrap .i64 (a:Int)=(a:Int):=cE (by omega) (by omega);have A:IntKind.wrap .i64 f=f:=cE (by omega) (by omega);have m:o<h.length:=(aP.1 e).1;have w:∀X,(h.set o X)[o]?=some X:=λX=>iK m
  have p:=Int.tmod_nonneg n l.1;have q:=Int.tmod_lt_of_pos f (show 0<n by omega);refine⟨f.tmod n,h.set o (.row fT 2 [[c,.int .i64 ((a+1:Nat):Int)]]),?_,⟨c,b,a+1,by simp[-ES,m],d,k,by omega,i⟩,⟨by simp,λF E=>by rw[g7 (by omega)]⟩,p,q⟩;rw[tV];simp[-ES,o1,vx o a b c h e d,g,s,t,Y.row,e,Dn,g3,D.ey,bD,D.one,cH,x,y,z,z1 d a f j,A,w]
 ·refine⟨0,h,?_,⟨c,b,a,e,d,k,u,i⟩,.refl _ _,by omega,by omega⟩;rw[tV];simp[-ES,o1,vx o a b c h e d,g]
theorem B5{h:Y}{o:Nat}(f:CM h o)(l:List aR)(d:D)(a:aY 1 (λs=>[.str s]) l d)(n:1≤l.length)(h2:l.length≤1000):∃s h',R eM [.ptr o 0 0,d] h=some (.str s,h')∧CM h' o∧bN o h h'∧s∈l:=by
 obtain⟨k,h',e,c,j,b,m⟩:=fK f l.length (by omega) (by omega);obtain⟨s,i,g⟩:=vK l k b m;refine⟨s,h',?_,c,j,i⟩;rw[yQ];simp[-ES,sb,A7 a,e,AP a,b,g]
theorem hZ{h:Y}{o:Nat}(g:CM h o)(l:List aR)(m:Nat)(i:∀s∈l,s.length≤m)(f:1≤l.length)(h2:l.length≤1000){c:Type}{a:D × Y→Option c}{Q:c→Prop}
  (k:∀s h',CM h' o→bN o h h'→s∈l→s.length≤m→Wp (a (.str s,h')) Q):Wp ((R eM [.ptr o 0 0,.sl 1 true (l.map λs=>[.str s])] h).bind a) Q:=by
 obtain⟨s,h',e,d,j,b⟩:=B5 g l _ (.mk _ _ _ _) f h2;rw[e];exact k s h' d j b (i s b)
theorem jT(t:Nat){s a:aR}(d:s.length≤1000000000)(e:a.length≤1000000000){c:Type}{b:D→Option c}{Q:c→Prop}(k:∀v:aR,v.length=s.length+a.length→Wp (b (.str v)) Q):Wp ((S tab .add t (.str s) (.str a)).bind b) Q:=by
 rw[x3 _ _ _ _ (by omega)];exact k _ (by simp)
theorem B9{h:Y}{o:Nat}(v:CM h o)(b:Int)(F:0≤b)(G:b≤20):∃s h',R nV [.ptr o 0 0,.int .i64 b] h=some (.str s,h')∧CM h' o∧bN o h h'∧s.length≤80:=by
 suffices Wp (R nV [.ptr o 0 0,.int .i64 b] h) (λk=>∃s,k.1 = .str s∧CM k.2 o∧bN o h k.2∧s.length≤80) by
  obtain⟨⟨C,h'⟩,p,s,rfl,u⟩:=this;exact⟨s,h',p,u⟩
 rw[yW];have r:=cE (n:=b+1) (by omega) (by omega);simp only[sn,bs,cQ,fH,r];obtain⟨z,p,t,i,y,A,K⟩:=fK v (b+1) (by omega) (by omega);refine Wp.step t ?_;simp only[bs];refine Wp.loop (λa j e=>∃s c,j=[.str s,.int .i64 a,c]∧CM e o∧bN o h e∧a≤20∧s.length+4*a≤80) (λf=>f.1 = .ext 0∧∃s c l,f.2.1=[.str s,c,l]∧CM f.2.2 o∧bN o h f.2.2∧s.length≤80) z.toNat ⟨[],.any,by rw[Int.toNat_of_nonneg A],i,y,by omega,by simp;omega⟩ ?_ ?_
 ·rintro a j e ⟨s,c,rfl,d,g,E,q⟩;simp only[so,dA,fL,bs,iR];refine Wp.fv ?_ ?_
  ·intro m;have m:0<(a:Int):=by simpa using m
   simp only[BX,bs];refine hZ d ve 4 (by decide) (by decide) (by decide) λI D i x _ H=>?_
   simp only[bs];refine jT _ (by omega) (by omega) λB r=>?_
   have w:IntKind.wrap .i64 ((a:Int) - 1)=((a - 1:Nat):Int):=by
    rw[cE (by omega) (by omega)];omega
   simp only[bs,gP,w];exact .some (.inl ⟨rfl,a - 1,by omega,B,_,rfl,i,g.trans x,by omega,by omega⟩)
  ·intro _;exact .some (.inr ⟨by simp,rfl,s,_,_,rfl,d,g,by omega⟩)
 ·rintro⟨C,j,e⟩ ⟨rfl,s,c,l,rfl,d,g,q⟩;simp only[gh,eB,dA,bs,dO];exact .some ⟨s,rfl,d,g,q⟩
theorem B8{h:Y}{o:Nat}(v:CM h o):∃s h',R nU [.ptr o 0 0] h=some (.str s,h')∧CM h' o∧bN o h h'∧s.length≤200:=by
 suffices Wp (R nU [.ptr o 0 0] h) (λg=>∃s,g.1 = .str s∧CM g.2 o∧bN o h g.2∧s.length≤200) by
  obtain⟨⟨B,h'⟩,m,s,rfl,u⟩:=this;exact⟨s,h',m,u⟩
 rw[yU];simp only[sj,bs,cQ,Bv,Bx,BA,BC,BE,BG,BI,BK,BM,BO,BQ,BS,BU,BW];obtain⟨y,m,l,e,a,z,A⟩:=fK v 8 (by omega) (by omega);refine Wp.step l ?_;clear l;simp only[nx,bs];have f:∀(s:aR) (c:Y),CM c o→bN o h c→s.length≤200→Wp (some ((.str s:D),c)) (λg=>∃s,g.1 = .str s∧CM g.2 o∧bN o h g.2∧s.length≤200):=λs c n p q =>.some ⟨s,rfl,n,p,q⟩
 refine Wp.fv (λ_=>?_) (λ_=>?_)
 ·repeat first
    | (refine hZ (by assumption) _ 8 (by decide) (by decide) (by decide) λj c e b _ i=>?_
       replace a:=a.trans b;clear b
       try simp only[bs])
    | (refine jT _ (by first|omega|(simp[-ES];omega)|simp[-ES]) (by first|omega|(simp[-ES];omega)|simp[-ES]) λk d=>?_
       try simp only[eS,fD]at d
       try simp only[bs])
  try simp only[dO]
  exact f _ _ (by assumption) a (by omega)
 refine Wp.fv (λ_=>?_) (λ_=>?_)
 ·repeat first
    | (refine hZ (by assumption) _ 8 (by decide) (by decide) (by decide) λj c e b _ i=>?_
       replace a:=a.trans b;clear b
       try simp only[bs])
    | (refine jT _ (by first|omega|(simp[-ES];omega)|simp[-ES]) (by first|omega|(simp[-ES];omega)|simp[-ES]) λk d=>?_
       try simp only[eS,fD]at d
       try simp only[bs])
  try simp only[dO]
  exact f _ _ (by assumption) a (by omega)
 refine Wp.fv (λ_=>?_) (λ_=>?_)
 ·repeat first
    | (refine hZ (by assumption) _ 8 (by decide) (by decide) (by decide) λj c e b _ i=>?_
       replace a:=a.trans b;clear b
       try simp only[bs])
    | (refine jT _ (by first|omega|(simp[-ES];omega)|simp[-ES]) (by first|omega|(simp[-ES];omega)|simp[-ES]) λk d=>?_
       try simp only[eS,fD]at d
       try simp only[bs])
  try simp only[dO]
  exact f _ _ (by assumption) a (by omega)
 refine Wp.fv (λ_=>?_) (λ_=>?_)
 ·repeat first
    | (refine hZ (by assumption) _ 8 (by decide) (by decide) (by decide) λj c e b _ i=>?_
       replace a:=a.trans b;clear b
       try simp only[bs])
    | (refine jT _ (by first|omega|(simp[-ES];omega)|simp[-ES]) (by first|omega|(simp[-ES];omega)|simp[-ES]) λk d=>?_
       try simp only[eS,fD]at d
       try simp only[bs])
  try simp only[dO]
  exact f _ _ (by assumption) a (by omega)
 refine Wp.fv (λ_=>?_) (λ_=>?_)
 ·repeat first
    | (refine hZ (by assumption) _ 8 (by decide) (by decide) (by decide) λj c e b _ i=>?_
       replace a:=a.trans b;clear b
       try simp only[bs])
    | (refine jT _ (by first|omega|(simp[-ES];omega)|simp[-ES]) (by first|omega|(simp[-ES];omega)|simp[-ES]) λk d=>?_
       try simp only[eS,fD]at d
       try simp only[bs])
  try simp only[dO]
  exact f _ _ (by assumption) a (by omega)
 refine Wp.fv (λ_=>?_) (λ_=>?_)
 ·repeat first
    | (refine hZ (by assumption) _ 8 (by decide) (by decide) (by decide) λj c e b _ i=>?_
       replace a:=a.trans b;clear b
       try simp only[bs])
    | (refine jT _ (by first|omega|(simp[-ES];omega)|simp[-ES]) (by first|omega|(simp[-ES];omega)|simp[-ES]) λk d=>?_
       try simp only[eS,fD]at d
       try simp only[bs])
  try simp only[dO]
  exact f _ _ (by assumption) a (by omega)
 obtain⟨s,c,t,r,w,x⟩:=B9 e 6 (by omega) (by omega);simp only[t,bs,dO];exact f _ _ r (a.trans w) (by omega)
structure Sm (h0:Y) (o:Nat) (g:Y):Prop where
 lt:o<h0.length
 cd:CM g o
 gr:iJ h0.length o h0 g
theorem Sm.refl{h:Y}{o:Nat}(a:CM h o):Sm h o h:=⟨a.lt,a,.refl _ _ _⟩
theorem Sm.next{a g g':Y}{o:Nat}(s:Sm a o g)(b:CM g' o)(c:bN o g g'):Sm a o g':=⟨s.lt,b,s.gr.trans c.grow⟩
theorem Sm.app{b g g':Y}{o:Nat}(s:Sm b o g)(d:g.length≤g'.length)(c:∀a,a<b.length→g'[a]?=g[a]?):Sm b o g':=⟨s.lt,s.cd.aO (c o s.lt),s.gr.trans ⟨d,λa e _=>c a e⟩⟩
theorem Sm.le{a g:Y}{o:Nat}(s:Sm a o g):a.length≤g.length:=s.gr.1
theorem Sm.scope{a g:Y}{o:Nat}(s:Sm a o g){d d':D}(f:aW a.length g 4 d=d')(h:Ok a.length d'):∃h',scope a g d=some (d',h')∧CM h' o∧bN o a h':=by
 obtain⟨b,c,e⟩:=Dd f h s.gr (s.cd.ok a.length);exact⟨_,b,s.cd.aO (e o s.lt),c⟩
def eR:Int→List dJ→Int→Prop
 |a,[],b=>a=b
 |a,l::r,b=>l.off=a∧1≤l.len∧l.len≤20∧l.gg.length≤200∧eR (a+l.len) r b
theorem vn:∀(f:List dJ) (a b:Int) (l:dJ),eR a f b→l.off=b→1≤l.len→l.len≤20→l.gg.length≤200→eR a (f++[l]) (b+l.len)
 | [],a,b,l,h,c,h2,d,e=>by
  simp only[eR]at h;subst h;exact⟨c,h2,d,e,rfl⟩
 |x::r,a,b,l,h,c,h2,d,e=>⟨h.1,h.2.1,h.2.2.1,h.2.2.2.1,vn r _ b l h.2.2.2.2 c h2 d e⟩
theorem iZ:∀(c:List dJ) (a b:Int),eR a c b→a+c.length≤b∧b≤a+20*c.length
 |[],a,b,h=>by simp[-ES,eR]at h;simp[-ES];omega
 | x::r,a,b,h=>by
  have:=iZ r _ b h.2.2.2.2;have:=h.2.1;have:=h.2.2.1;simp only[eS];omega
theorem AZ{h:Y}{a T z:Nat}{cs:List D}(c:h[a]?=some (.row T z [cs]))(b:cs.length=3):aA tab h bP (.ptr a 0 0)=some (.agg cs):=by
 rw[A1,eG c];simp[-ES,lh,b];exact fE (by omega)
theorem k1(g:Y)(T z:Nat)(rows:List (List D)):(aF g T z rows)[g.length]?=some (.row T z rows):=by simp[-ES,aF]
theorem k3(g:Y)(T z:Nat)(rows:List (List D)){a:Nat}(b:a<g.length):(aF g T z rows)[a]?=g[a]?:=by
 simp only[aF];rw[cU b]
theorem iF(g:Y)(T z:Nat)(rows:List (List D)):(aF g T z rows).length=g.length+1:=by simp[-ES,aF]
theorem B7{h:Y}{o:Nat}(ac:CM h o)(fr:Int)(ba:0≤fr)(bb:fr≤1000000)(m:Int)(bg:1≤m)(bh:m≤10):∃x h',R nT [.ptr o 0 0,.int .i64 fr,.int .i64 m,.bool true] h=some (x,h')∧CM h' o∧bN o h h'∧∃b p,aY 3 bW b x∧eR fr b p∧1≤b.length∧b.length≤m.toNat:=by
 suffices Wp (R nT [.ptr o 0 0,.int .i64 fr,.int .i64 m,.bool true] h) (λP=>CM P.2 o∧bN o h P.2∧∃b p,aY 3 bW b P.1∧eR fr b p∧1≤b.length∧b.length≤m.toNat) by
  obtain⟨⟨x,h'⟩,X,ao⟩:=this;exact⟨x,h',X,ao⟩
 rw[yS];simp only[sf,bs,cQ];obtain⟨H,X,u,I,F,bk,bl⟩:=fK ac m (by omega) (by omega);have r:=(Sm.refl ac).next I F;refine Wp.step u ?_;clear u;have az:=cE (n:=1+H) (by omega) (by omega);simp only[fH,az,bs];refine Wp.loop (λj K v=>∃(d:Int) (x g s t:D) (b:List dJ),K=[.int .i64 d,x,.int .i64 j,g,s,t]∧Sm h o v∧aT v h.length bP 3 (b.map bW) x∧eR fr b d∧b.length+j=(1+H).toNat)
  (λE=>E.1 = .ext 0∧∃(g x s t S p:D) (d:Int) (b:List dJ),E.2.1=[g,x,s,t,S,p]∧Sm h o E.2.2∧aT E.2.2 h.length bP 3 (b.map bW) x∧eR fr b d∧b.length=(1+H).toNat)
  (1+H).toNat ⟨fr,.J,.any,.any,.any,[],by rw[Int.toNat_of_nonneg (by omega)],r,aT.J _ _ _ _,rfl,by simp⟩ ?_ ?_
 ·rintro j K v ⟨d,x,g,s,t,b,rfl,l,e,y,bc⟩;simp only[sg,dA,fL,bs,iR];refine Wp.fv ?_ ?_
  ·intro w;have w:0<(j:Int):=by simpa using w
   have a9:=iZ _ _ _ y;obtain⟨i,c,u,I,F,bi,bj⟩:=fK l.cd 20 (by omega) (by omega);have r:=l.next I F;replace e:=e.same F l.lt;refine Wp.step u ?_;clear u;have a0:=cE (n:=1+i) (by omega) (by omega);have N:∀a,x.dN a→a<c.length:=λa f=>(e.lt f).2
   simp only[fH,a0,bs,cQ,tf,tk];generalize B:aF c bP 3 [[.int .i64 0,.int .i64 0,.str []]]=L;have ag:L[c.length]?=some (.row bP 3 [[.int .i64 0,.int .i64 0,.str []]]):=by rw[← B];exact k1 _ _ _ _
   have aa:∀a,a<c.length→L[a]?=c[a]?:=λa f=>by rw[← B];exact k3 _ _ _ _ f
   have ae:L.length=c.length+1:=by rw[← B];exact iF _ _ _ _
   clear B;have bf:=r.le;refine DV ag (by rfl) (by rfl) (by simp) (by rfl) λA q k=>?_
   replace q:A[c.length]?=some (.row bP 3 [[.int .i64 d,.int .i64 (1+i),.str []]]):=q;have ab:∀a,a<c.length→A[a]?=c[a]?:=λa f=>(k.2 a (by omega)).trans (aa a f)
   have ar:A.length=c.length+1:=k.1.trans ae;have Q:=r.app (by omega) λa f=>ab a (by omega)
   replace e:aT A h.length bP 3 (b.map bW) x:=e.aO λa _ f=>ab a (N a f)
   clear ag aa ae k;simp only[cW,bL,cQ,bs];obtain⟨z,am,T,al,G,ay⟩:=B8 Q.cd;have ah:=Q.next al G;replace e:=e.same G l.lt;have av:o≠c.length:=λad=>by have:=r.lt;omega
   replace q:=(G.2 c.length (Ne.symm av)).trans q;have au:am.length=c.length+1:=G.1.trans ar;refine Wp.step T ?_;clear T;simp only[bs,zb,dP];refine DW q (by rfl) (by rfl) (by simp) (by rfl) λM C k=>?_
   replace C:M[c.length]?=some (.row bP 3 [bW ⟨d,1+i,z⟩]):=C;have be:M.length=c.length+1:=k.1.trans au;have ai:=ah.app (by omega) λa f=>k.2 a (by omega)
   replace e:aT M h.length bP 3 (b.map bW) x:=e.aO λa _ f=>k.2 a (by have:=N a f;omega)
   clear q k;simp only[bs,eB,AZ C rfl];rw[show bA tab bS 1 [0] [.agg (bW ⟨d,1+i,z⟩)]=some (.sl 3 true [bW ⟨d,1+i,z⟩])from id rfl];simp only[bs];refine rI (by omega) e (mH _ _ _ _) (by simp;omega) λa7 an a4 a3 ak a2 _=>?_
   have aj:=ai.app a3 ak;have a5:=(a2 c.length (by omega) (λad=>by have:=N _ ad;omega)).trans C;have a6:an.row c.length 0=some (bW ⟨d,1+i,z⟩):=eG a5;have a1:=cE (n:=d+(1+i)) (by omega) (by omega);have aq:IntKind.wrap .i64 ((j:Int) - 1)=((j - 1:Nat):Int):=by
    rw[cE (by omega) (by omega)];omega
   simp only[bs,za,dP,gW,a6,bW,ly,kq,pa,fH,a1,gP,aq];exact .some (.inl ⟨rfl,j - 1,by omega,d+(1+i),a7,_,_,_,b++[⟨d,1+i,z⟩],rfl,aj,by rw[iL];exact a4,vn _ _ _ _ y rfl (by simp;omega) (by simp;omega) (by simpa using ay),by simp;omega⟩)
  ·intro w;have w:¬0<(j:Int):=by simpa using w
   exact .some (.inr ⟨by simp,rfl,_,x,_,_,_,_,d,b,rfl,l,e,y,by omega⟩)
 ·rintro⟨a8,K,v⟩ ⟨rfl,g,x,s,t,S,p,d,b,rfl,l,e,y,bd⟩;simp only[gh,eB,dA,fL,bs,dO];have af:=mC (n:=3) e (aX _) (λg _=>oa _ v _ g);obtain⟨h',aw,ap,ax⟩:=l.scope rfl (jE af λg _=>qN _ g);rw[aw];exact .some ⟨ap,ax,b,d,af,y,by omega,by omega⟩
def MF(l:List (aR × aR)):Prop:=(l.map (·.1)).Sublist hv∧∀a∈l,a.2∈kX
theorem B6{h:Y}{o:Nat}(t:CM h o):∃x h',R nS [.ptr o 0 0] h=some (x,h')∧CM h' o∧bN o h h'∧∃l,aY 2 fb l x∧MF l:=by
 suffices Wp (R nS [.ptr o 0 0] h) (λe=>CM e.2 o∧bN o h e.2∧∃l,aY 2 fb l e.1∧MF l) by
  obtain⟨⟨x,h'⟩,y,I⟩:=this;exact⟨x,h',y,I⟩
 rw[yR];simp only[sd,bs,cQ,Bs,A2,gw,Br];refine Wp.loop (λu s c=>∃x d m p,∃(a:Nat) (l:List (aR × aR)),s=[x,d,.int .i64 a,m,p]∧Sm h o c∧u+a=4∧aT c h.length g5 2 (l.map fb) x∧(l.map (·.1)).Sublist (hv.take a)∧∀e∈l,e.2∈kX)
  (λk=>k.1 = .ext 0∧∃x d m p w l,k.2.1=[x,d,m,p,w]∧Sm h o k.2.2∧aT k.2.2 h.length g5 2 (l.map fb) x∧MF l) 4 ⟨.J,.any,.any,.any,0,[],rfl,.refl t,rfl,aT.J _ _ _ _,by simp,by simp⟩ ?_ ?_
 ·rintro u s c ⟨x,d,m,p,a,l,rfl,f,ac,b,j,q⟩;have S:IntKind.wrap .i64 ((a:Int)+1)=(a+1:Nat):=by
   rw[cE (by omega) (by omega)];omega
  simp only[se,dA,fL,bs,cQ,hj];refine Wp.fv ?_ ?_
  ·intro g;have g:a<4:=lT g;have z:hv[a]?=some hv[a]:=bX g;simp only[uP,o5,bL,fP,dK,z,gk,bs,AX];obtain⟨ae,y,G,E,B,af,ag⟩:=fK f.cd 3 (by omega) (by omega);have r:=f.next E B;replace b:=b.same B t.lt;refine Wp.step G ?_;simp only[iR,bs];refine Wp.join (P:=λk=>∃x c,∃l:List (aR × aR),k=(.aS,[x],c)∧Sm h o c∧aT c h.length g5 2 (l.map fb) x∧(l.map (·.1)).Sublist (hv.take (a+1))∧∀e∈l,e.2∈kX) ?_ ?_ ?_
   ·intro _;simp only[Bt,bs];refine hZ r.cd kX 8 (by decide) (by decide) (by decide) λX ab F C Q _=>?_
    have v:=r.next F C;replace b:=b.same C t.lt;simp only[bs,xy,xG];have ad:l.length≤4:=by
     have:=j.length_le;simp at this;omega
    refine DM v.le b (mH _ _ _ _) (by simp;omega) λaa H b T D _ _=>?_
    simp only[bs];refine .some ⟨aa,H,l++[(hv[a],X)],rfl,v.app T D,by rw[iL];exact b,?_,?_⟩
    ·rw[ie,z,iL];exact j.append (List.Sublist.refl _)
    ·intro e i;rcases fk.1 i with i|i
     ·exact q e i
     ·simp at i;subst i;exact Q
   ·intro _;refine .some ⟨_,_,l,rfl,r,b,j.trans ?_,q⟩;rw[ie];exact List.sublist_append_left _ _
   ·rintro _ ⟨x,c,l,rfl,f,b,j,q⟩;simp only[mQ,eB,dA,fH,bs,S];exact .some (.inl ⟨rfl,u - 1,by omega,x,_,_,_,a+1,l,rfl,f,by omega,b,j,q⟩)
  ·intro g;have g:¬a<4:=by
    have:¬(a:Int)<4:=by simpa using g
    omega
   refine .some (.inr ⟨by simp,rfl,x,_,_,_,_,l,rfl,f,b,j.trans (List.take_sublist _ _),q⟩)
 ·rintro⟨x,s,c⟩ ⟨rfl,x,d,m,p,w,l,rfl,f,b,L⟩;simp only[gh,eB,dA,bs,dO];have A:=mC (n:=3) b (aX _) (λd _=>uu _ c _ d);obtain⟨h',M,K,N⟩:=f.scope rfl (jE A λd _=>pZ _ d);exact⟨_,M,K,N,l,A,L⟩
structure lq (e:Ev):Prop where
 h0:0≤e.a0
 h2:e.a0≤2
 f0:0≤e.a1
 f2:e.a1≤2
 a0:0≤e.a2
 a9:e.a2≤100
 ch:eR e.a2 e.ls e.a3
 l1:1≤e.ls.length
 l3:e.ls.length≤3
 t0:0≤e.a5
 t9:e.a5≤255000
 wt:e.a6∈kU
 tr:e.s7∈kV
 st:e.s8∈kW
 fs:MF e.fs
theorem B3{h:Y}{o:Nat}(a4:CM h o):∃v h',R nL [.ptr o 0 0] h=some (.agg (bY v),h')∧CM h' o∧bN o h h'∧lq v:=by
 suffices Wp (R nL [.ptr o 0 0] h) (λaa=>∃v,aa.1 = .agg (bY v)∧CM aa.2 o∧bN o h aa.2∧lq v) by
  obtain⟨⟨ad,h'⟩,y,v,rfl,z⟩:=this;exact⟨v,h',y,z⟩
 have c3:=a4.lt;rw[yE];simp only[rY,bs,cQ,Bo,Bp,Bq];generalize A:aF h aE 10 [[.int .i64 0,.int .i64 0,.int .i64 0,.int .i64 0,.J,.int .i64 0,.int .i64 0,.str [],.str [],.J]]=K;have i:K[h.length]?=some (.row aE 10 [[.int .i64 0,.int .i64 0,.int .i64 0,.int .i64 0,.J,.int .i64 0,.int .i64 0,.str [],.str [],.J]]):=by rw[← A];exact k1 _ _ _ _
 have H:Sm h o K:=(Sm.refl a4).app (by rw[← A,iF];omega) λa l=>by rw[← A];exact k3 _ _ _ _ l
 have b4:K.length=h.length+1:=by rw[← A];exact iF _ _ _ _
 clear A;obtain⟨m,ct,ar,ai,be,bo,cp⟩:=fK H.cd 3 (by omega) (by omega);refine Wp.step ar ?_;clear ar;simp only[bs];obtain⟨p,cu,av,ak,bf,bp,cq⟩:=fK ai 3 (by omega) (by omega);refine Wp.step av ?_;clear av;simp only[bs];obtain⟨g,cw,aw,al,bg,cn,cr⟩:=fK ak 6 (by omega) (by omega);refine Wp.step aw ?_;clear aw;simp only[bs,jV,cE (n:=10*g) (by omega) (by omega)];obtain⟨j,cx,ax,am,bh,co,cs⟩:=fK al 256 (by omega) (by omega);refine Wp.step ax ?_;clear ax;simp only[bs,jV,cE (n:=1000*j) (by omega) (by omega)];obtain⟨cm,cy,ay,an,bi,ah,bq⟩:=fK am 4 (by omega) (by omega);obtain⟨t,ch,b1⟩:=vK kU cm ah bq;refine Wp.step ay ?_;clear ay;simp only[bs,uO,ah,bL,dK,b1,gk,n7];refine hZ an kV 8 (by decide) (by decide) (by decide) λs cz ao bj ce _=>?_
 simp only[bs];refine hZ ao kW 8 (by decide) (by decide) (by decide) λsm c0 ap bk cb _=>?_
 simp only[bs];obtain⟨q,k,az,aq,bl,a0,ba,a5⟩:=B6 ap;refine Wp.step az ?_;clear az;have ci:=oH ba;simp only[bs,xA _ _ _ _ _ _ _ q ci,kC];have G:=((((((be.trans bf).trans bg).trans bh).trans bi).trans bj).trans bk).trans bl;have ag:=H.next aq G;replace i:=(G.2 h.length (by omega)).trans i;have a9:k.length=h.length+1:=G.1.trans b4;clear H ai ak al am an ao ap be bf bg bh bi bj bk bl G;generalize F:aF k aE 10 [[.int .i64 0,.int .i64 0,.int .i64 0,.int .i64 0,.J,.int .i64 0,.int .i64 0,.str [],.str [],.J]]=M;have bb:M[k.length]?=some (.row aE 10 [[.int .i64 0,.int .i64 0,.int .i64 0,.int .i64 0,.J,.int .i64 0,.int .i64 0,.str [],.str [],.J]]):=by rw[← F];exact k1 _ _ _ _
 have a3:∀a,a<k.length→M[a]?=k[a]?:=λa l=>by rw[← F];exact k3 _ _ _ _ l
 have b6:M.length=k.length+1:=by rw[← F];exact iF _ _ _ _
 clear F;refine mU bb (by rfl) (by rfl) (by simp) (by rfl) λE r b=>?_
 replace r:E[k.length]?=some (.row aE 10 [[.int .i64 m,.int .i64 p,.int .i64 (10*g),.int .i64 0,.J,.int .i64 (1000*j),.int .i64 t,.str s,.str sm,q]]):=r;have N:∀a,a<k.length→E[a]?=k[a]?:=λa l=>(b.2 a (by omega)).trans (a3 a l)
 have a7:E.length=h.length+2:=by have:=b.1;omega
 have I:=ag.app (by omega) λa l=>N a (by omega)
 replace i:=(N h.length (by omega)).trans i;rw[a9]at r ⊢;clear bb a3 b6 b N ag aq a9;have bd:E.row (h.length+1) 0=some [.int .i64 m,.int .i64 p,.int .i64 (10*g),.int .i64 0,.J,.int .i64 (1000*j),.int .i64 t,.str s,.str sm,q]:=eG r;simp only[bs,lV,dP,gW,bd,ly,kq,pa];obtain⟨x,br,au,aj,C,c,e,B,P,a6,b5⟩:=B7 I.cd (10*g) (by omega) (by omega) 3 (by omega) (by omega);refine Wp.step au ?_;clear au bd;have ae:=I.next aj C;replace r:=(C.2 (h.length+1) (by omega)).trans r;replace i:=(C.2 h.length (by omega)).trans i;have a8:br.length=h.length+2:=C.1.trans a7;have X:=k5 (oH B);simp only[bs,nF,dP];refine rK r (by rfl) (by rw[X.1];rfl) (by simp) X.2 λL w b=>?_
 rw[X.1]at w;replace w:L[h.length+1]?=some (.row aE 10 [[.int .i64 m,.int .i64 p,.int .i64 (10*g),.int .i64 0,x,.int .i64 (1000*j),.int .i64 t,.str s,.str sm,q]]):=w;have af:=ae.app (ig b.1.symm) λa l=>b.2 a (by omega)
 replace i:=(b.2 h.length (by omega)).trans i;have c2:L.length=h.length+2:=b.1.trans a8;clear I ae r b C aj a8 a7;have cl:L.row (h.length+1) 0=some [.int .i64 m,.int .i64 p,.int .i64 (10*g),.int .i64 0,x,.int .i64 (1000*j),.int .i64 t,.str s,.str sm,q]:=eG w;have b0:=iZ _ _ _ P;have b8:∃f,c[((c.length:Int) - 1).toNat]?=some f∧f.off+f.len=e:=by
  clear b0 B;have ck:∀(c:List dJ) (D e:Int),eR D c e→1≤c.length→∃f,c[c.length - 1]?=some f∧f.off+f.len=e:=by
   intro c
   induction c with
   |nil=>intro D e _ b3;simp at b3
   | cons ad bc cj =>
    intro D e T _;cases bc with
    | nil =>
     have bu:D+ad.len=e:=T.2.2.2.2;exact⟨ad,rfl,by rw[T.1];exact bu⟩
    | cons c4 bc =>
     obtain⟨f,y,z⟩:=cj _ e T.2.2.2.2 (by simp);exact⟨f,by simpa using y,z⟩
  obtain⟨f,y,z⟩:=ck c _ e P a6;exact⟨f,by rw[show((c.length:Int) - 1).toNat=c.length - 1 by omega];exact y,z⟩
 obtain⟨f,b2,b7⟩:=b8;have cf:=cE (n:=(c.length:Int) - 1) (by omega) (by omega);have cg:=cE (n:=e) (by omega) (by omega);have b9:(0:Int)≤(c.length:Int) - 1:=by omega
 have bx:hh 3 (.agg (bW f))=some (.aG (bW f)):=pD 3 _ rfl;simp only[bs,qK,cl,ly,kq,pa,mi B,gP,cf,n6 B,b9,bL,b2,gk,u0,bx];simp only[bW,ui,uj,n7,bs,fH,b7,cg,lW,dP];refine iH w (by rfl) (by rfl) (by simp) (by rfl) λbt ab b=>?_
 replace ab:bt[h.length+1]?=some (.row aE 10 [[.int .i64 m,.int .i64 p,.int .i64 (10*g),.int .i64 e,x,.int .i64 (1000*j),.int .i64 t,.str s,.str sm,q]]):=ab;have bm:=af.app (ig b.1.symm) λa l=>b.2 a (by omega)
 replace i:=(b.2 h.length (by omega)).trans i;clear w b af;simp only[bs,n8 ab rfl];refine mU i (by rfl) (by rfl) (by simp) (by rfl) λa1 ac b=>?_
 replace ac:a1[h.length]?=some (.row aE 10 [[.int .i64 m,.int .i64 p,.int .i64 (10*g),.int .i64 e,x,.int .i64 (1000*j),.int .i64 t,.str s,.str sm,q]]):=ac;have bn:=bm.app (ig b.1.symm) λa l=>b.2 a (by omega)
 simp only[bs,n8 ac rfl,dO];have c1:a0.length≤4:=by
  have:=a5.1.length_le;simpa using this
 generalize a2:(⟨m,p,10*g,e,c,x,1000*j,t,s,sm,a0,q,ba,by omega,B,by omega⟩:Ev)=u;have bw:bY u=[.int .i64 m,.int .i64 p,.int .i64 (10*g),.int .i64 e,x,.int .i64 (1000*j),.int .i64 t,.str s,.str sm,q]:=by rw[← a2];rfl
 have bv:lq u:=by rw[← a2];exact⟨bo,by show m≤2;omega,bp,by show p≤2;omega,by show 0≤10*g;omega,by show 10*g≤100;omega,P,a6,b5,by show 0≤1000*j;omega,by show 1000*j≤255000;omega,ch,ce,cb,a5⟩
 rw[← bw];obtain⟨h',ca,bz,cc⟩:=bn.scope (d :=.agg (bY u)) (d' :=.agg (bY u)) (by
  rw[uz,j5 λd Q=>ua h.length a1 2 u d Q]) (.agg _ λd Q=>ub _ u d Q)
 rw[ca];exact .some ⟨u,rfl,bz,cc,bv⟩
def k6(a:Ev):Bool:=(decide (0≤a.a0)&&decide (a.a0≤999))&&((decide (0≤a.a1)&&decide (a.a1≤2147483646))&&(decide (0≤a.a2)&&(decide (a.a2<a.a3)&&decide (a.a3≤60000))))
def oh(a b:Int):Int→List dJ→Int
 |_,[]=>0
 |at_,l::r=>if l.off=at_∧¬l.len<1∧¬IntKind.wrap .i64 (a - at_)<l.len∧¬(r=[]∧l.len<IntKind.wrap .i64 (a - at_))then(if b<l.gg.length then 3 else oh a b (IntKind.wrap .i64 (at_+l.len)) r)else 19
def iW(a:Ev)(b:Int):Int:=if a.ls.length=0 then 9 else if 40<a.ls.length then 4 else oh a.a3 b a.a2 a.ls
def dn{b:Type}(c:b→b→Int)(a:Nat):Nat→List b→List b
 |0,l=>l
 | j+1,l=>match l[j+1]?,l[j]? with
  |some x,some y=>if a<j+1∧c x y<0 then dn c a j ((l.set (j+1) y).set j x)else l
  |_,_=>l
def n4{b:Type}(c:b→b→Int)(a:Nat):Nat→Nat→List b→List b
 |_,0,l=>l
 |i,n+1,l=>n4 c a (i+1) n (dn c a i l)
theorem tB:∀(a b:aR),Lib.compareBytes a b<0↔Op.bytesLess a b=true
 |[],[]=>by simp[-ES,Lib.compareBytes,Op.bytesLess]
 |[],_::_=>by simp[-ES,Lib.compareBytes,Op.bytesLess]
 |_::_,[]=>by simp[-ES,Lib.compareBytes,Op.bytesLess]
 | x::a,y::b=>by
  have g:=tB a b;simp only[Lib.compareBytes,Op.bytesLess];by_cases c:x<y
  ·simp[-ES,c]
  ·by_cases d:y<x
   ·have e:¬x=y:=λf=>by subst f;exact c d
    simp[-ES,c,d,e]
   ·have e:x=y:=by
      apply UInt8.toNat_inj.1;have:=mt px.2 c;have:=mt px.2 d;omega
    subst e;simp[-ES,c,g]
def cF(x y:aR × aR):Int:=Lib.compareBytes x.1 y.1
def rn(l:List (aR × aR)):List (aR × aR):=n4 cF 0 1 (l.length - 1) l
def ns:List (aR × aR)→Bool
 |x::y::r=>y.1==x.1||ns (y::r)
 |_=>false
def kh(l:List (aR × aR)):Int × List (aR × aR):=if 32<l.length then(4,[])else if l.all (λa=>nZ a.1)=true then(if ns (rn l)=true then(7,[])else(0,rn l))else(6,[])
def tY(a:Ev):Int:=
 if(!k6 a || !(decide (0≤a.a5)&&decide (a.a5≤253402300799999)))=true then 2
 else if a.a6<1∨Int.tmod 5040 a.a6≠0 then 21
 else if iW a 2000≠0 then iW a 2000
 else if 32<a.s7.length∨32<a.s8.length then 3
 else if(kh a.fs).1≠0 then(kh a.fs).1
 else if(kh a.fs).2≠a.fs then 19
 else if((kh a.fs).2.any λb=>decide (2000<b.2.length))=true then 3 else 0
def qF(i:It):Int:=
 if i.r=[]then tY i.e
 else if 32<i.r.length then 3
 else if k6 i.e=false then 2
 else if iW i.e 60000=9∨iW i.e 60000=4∨iW i.e 60000=19 then iW i.e 60000
 else if i.e.a5≠0∨i.e.a6≠0∨i.e.s7≠[]∨i.e.s8≠[]∨i.e.fs.length≠0∨(i.e.ls.any λa => !(a.gg==[]))=true then 19 else 0
theorem AY{g:Y}{a T z:Nat}{i:It}(b:g[a]?=some (Ob.row T z [aJ i])):aA tab g aN (.ptr a 0 0)=some (.agg (aJ i)):=qJ b rfl
theorem tC:∀(a b:aR),Lib.compareBytes a b = - Lib.compareBytes b a
 |[],[]=>rfl
 |[],_::_=>rfl
 |_::_,[]=>rfl
 | x::a,y::b=>by
  have f:=tC a b;simp only[Lib.compareBytes];by_cases c:x<y
  ·have d:¬y<x:=by
     have:=px.1 c;intro e;have:=px.1 e;omega
   simp[-ES,c,d]
  ·by_cases d:y<x
   ·simp[-ES,c,d]
   ·simp[-ES,c,d,f]
theorem xw{l:List (aR × aR)}(h:mY l):rn l=l:=by
 have j:∀a,dn cF 0 a l=l:=λa=>by
  cases a with
  |zero=>rfl
  | succ a =>
   unfold dn;split
   ·rename_i d e m n;split
    ·rename_i i;exfalso;have f:=(h a e d n m).1;have p:=(tB e.1 d.1).2 f;have q:=tC d.1 e.1;have g:=i.2;unfold cF at g;omega
    ·rfl
   ·rfl
 have k:∀b c,n4 cF 0 c b l=l:=λb=>by
  induction b with
  |zero=>intro c;rfl
  |succ b o=>intro c;unfold n4;rw[j];exact o _
 exact k _ _
theorem tc:∀{l:List (aR × aR)},mY l→ns l=false
 |[],_=>rfl
 |[_],_=>rfl
 | x::y::r,h=>by
  unfold ns;have a:=(h 0 x y rfl rfl).2;have b:(y.1==x.1)=false:=by simp;exact λc=>a c.symm
  rw[b,mZ];exact tc λf g i d e=>h (f+1) g i d e
theorem xv{l:List (aR × aR)}(h:mY l)(d:l.length≤32)(c:∀p∈l,nZ p.1=true):kh l=(0,l):=by
 have a:¬32<l.length:=by omega
 have b:l.all (λp=>nZ p.1)=true:=eD.2 c;simp only[kh,a,cV,b,bL,xw h,tc h,dT]
theorem u6(b m:Int)(g:200≤m)(j:b≤60000):∀(d:List dJ) (a:Int),0≤a→eR a d b→oh b m a d=0
 |[],a,_,_=>rfl
 | l::r,a,q,h=>by
  obtain⟨e,h2,o,p,c⟩:=h;have s:=iZ r _ _ c;have k:IntKind.wrap .i64 (b - a)=b - a:=cE (by omega) (by omega);have n:IntKind.wrap .i64 (a+l.len)=a+l.len:=cE (by omega) (by omega);unfold oh;rw[bB,bO (by omega),n]
  ·exact u6 b m g j r _ (by omega) c
  ·rw[k];refine⟨e,by omega,by omega,λf=>?_⟩;obtain⟨i,t⟩:=f;subst i;have c:a+l.len=b:=c;omega
theorem Bb{a:Ev}(m:Int)(f:200≤m)(d:0≤a.a2)(g:a.a3≤60000)(h:1≤a.ls.length)(i:a.ls.length≤40)(e:eR a.a2 a.ls a.a3):iW a m=0:=by
 have b:¬a.ls.length=0:=by omega
 have c:¬40<a.ls.length:=by omega
 simp only[iW,b,c,cV];exact u6 _ _ f g _ _ d e
theorem Cf{l:List (aR × aR)}(h:MF l):mY l:=by
 have i:hv.Pairwise λc d=>Op.bytesLess c d=true∧c≠d:=by decide
 have:=i.sublist h.1;rw[List.pairwise_iff_getElem]at this;intro e j k a b;obtain⟨f,a⟩:=aP.1 a;obtain⟨g,b⟩:=aP.1 b;have:=this e (e+1) (by simpa using f) (by simpa using g) (by omega);simpa[-ES,a,b]using this
theorem Ch{l:List (aR × aR)}(h:MF l):kh l=(0,l):=by
 have e:l.length≤4:=by
  have:=h.1.length_le;simpa using this
 refine xv (Cf h) (by omega) λa c=>?_
 have b:a.1∈hv:=h.1.subset (eE.2 ⟨a,c,rfl⟩);exact(show ∀d∈hv,nZ d=true by decide) _ b
theorem Cg{l:List (aR × aR)}(h:MF l):l.length≤4:=by
 have:=h.1.length_le;simpa using this
structure rS (e:Ev):Prop where
 h0:0≤e.a0
 h2:e.a0≤2
 f0:0≤e.a1
 f2:e.a1≤2
 a0:0≤e.a2
 b9:e.a3≤1000
 ch:eR e.a2 e.ls e.a3
 l1:1≤e.ls.length
 l3:e.ls.length≤3
 t0:0≤e.a5
 t9:e.a5≤255000
 wt:e.a6∈kU
 tr:e.s7∈kV
 st:e.s8∈kW
 fs:MF e.fs
theorem lq.k{a:Ev}(h:lq a):rS a:=⟨h.h0,h.h2,h.f0,h.f2,h.a0,by have:=iZ _ _ _ h.ch;have:=h.a9;have:=h.l3;omega,h.ch,h.l1,h.l3,h.t0,h.t9,h.wt,h.tr,h.st,h.fs⟩
theorem B1(c:List Int)(d:D)(n:Int)(h:Y)(g:gv .u8 c d)(r:0≤n)(w:n≤400)(o:∀z∈c,0≤z∧z<256)(x:c.length≤9223372036854775807):∃h',R lZ [d,.int .i64 n] h=some (.ptr h.length 0 0,h')∧CM h' h.length∧h'.length=h.length+1∧∀b,b<h.length→h'[b]?=h[b]?:=by
 rw[nD];simp only[rV,bs,cQ,uE g,iR];have m:∀a e,gv .u8 e a→e.length≤400→(∀z∈e,0≤z∧z<256)→∃h',((dE tab fT [0] [a]).bind λv=>(mR fT 2 h v).bind λp=>some (aK [p.1],p.2))=some (.ptr h.length 0 0,h')∧CM h' h.length∧h'.length=h.length+1∧∀b,b<h.length→h'[b]?=h[b]?:=λa e f q l=>by
  rw[xC a (z3 f)];simp only[bs];rw[rG fT 2 h [a,.int .i64 0] rfl (by omega)];exact⟨_,rfl,⟨a,e,0,k1 _ _ _ _,f,q,by omega,l⟩,iF _ _ _ _,λb s=>k3 _ _ _ _ s⟩
 by_cases k:n<(c.length:Int)
 ·obtain⟨a,u,f⟩:=z0 (T:=tab) (t:=hz) (i:=rz) (j:=rC) (id rfl) (id rfl) (id rfl) (id rfl) g (k2 :=.i64) r (Int.le_of_lt k);simp only[k,iz,cW,bL,u,bs,eB,dA];exact m a _ f (by simp;omega) λz l=>o z (fm l)
 ·simp only[k,iT,cW,dT,cV,bs,eB,dA];exact m d c g (by omega) o
theorem vl:∀(c:List dJ) (a b:Int),eR a c b→eR a (c.map blank) b
 |[],a,b,h=>h
 |x::r,a,b,h=>⟨h.1,h.2.1,h.2.2.1,by simp[-ES,blank],vl r _ b h.2.2.2.2⟩
structure s3 (i:It):Prop where
 r:i.r∈mo
 h0:0≤i.e.a0
 h2:i.e.a0≤2
 f0:0≤i.e.a1
 f2:i.e.a1≤2
 a0:0≤i.e.a2
 b9:i.e.a3≤1000
 ch:eR i.e.a2 i.e.ls i.e.a3
 l1:1≤i.e.ls.length
 l3:i.e.ls.length≤3
 tx:∀l∈i.e.ls,l.gg=[]
 t0:i.e.a5=0
 w0:i.e.a6=0
 tr:i.e.s7=[]
 st:i.e.s8=[]
 fs:i.e.fs=[]
def hB(i:It):Prop:=(i.r=[]∧rS i.e)∨s3 i
theorem hB.l3{i:It}(h:hB i):i.e.ls.length≤3:=by
 rcases h with⟨_,h⟩|h
 ·exact h.l3
 ·exact h.l3
theorem hB.fs{i:It}(h:hB i):i.e.fs.length≤4:=by
 rcases h with⟨_,h⟩|h
 ·exact Cg h.fs
 ·rw[h.fs];simp[-ES]
theorem hB.ch{i:It}(h:hB i):eR i.e.a2 i.e.ls i.e.a3∧0≤i.e.a2∧i.e.a3≤1000∧1≤i.e.ls.length:=by
 rcases h with⟨_,h⟩|h
 ·exact⟨h.ch,h.a0,h.b9,h.l1⟩
 ·exact⟨h.ch,h.a0,h.b9,h.l1⟩
theorem B2{h:Y}{o:Nat}(am:CM h o):∃i h',R nK [.ptr o 0 0] h=some (.agg (aJ i),h')∧CM h' o∧bN o h h'∧hB i:=by
 suffices Wp (R nK [.ptr o 0 0] h) (λv=>∃i,v.1 = .agg (aJ i)∧CM v.2 o∧bN o h v.2∧hB i) by
  obtain⟨⟨f,h'⟩,a4,i,rfl,a7⟩:=this;exact⟨i,h',a4,a7⟩
 have bu:=am.lt;rw[yD];simp only[rW,bs,cQ];generalize B:aF h aN 11 [[.str [],.int .i64 0,.int .i64 0,.int .i64 0,.int .i64 0,.J,.int .i64 0,.int .i64 0,.str [],.str [],.J]]=X;have e:X[h.length]?=some (Ob.row aN 11 [[.str [],.int .i64 0,.int .i64 0,.int .i64 0,.int .i64 0,.J,.int .i64 0,.int .i64 0,.str [],.str [],.J]]):=by rw[← B];exact k1 _ _ _ _
 have N:Sm h o X:=(Sm.refl am).app (by rw[← B,iF];omega) λb p=>by rw[← B];exact k3 _ _ _ _ p
 have bc:X.length=h.length+1:=by rw[← B];exact iF _ _ _ _
 clear B;obtain⟨a,br,ak,S,M,k⟩:=B3 N.cd;refine Wp.step ak ?_;clear ak;have ba:hh 10 (.agg (bY a))=some (.aG (bY a)):=pD 10 _ rfl;simp only[bs,ba];obtain⟨bv,s,al,G,q,bw,bx⟩:=fK S 4 (by omega) (by omega);refine Wp.step al ?_;clear al;have z:=(N.next S M).next G q;have ap:s.length=h.length+1:=by have:=M.1;have:=q.1;omega
 replace e:=(q.2 h.length (by omega)).trans ((M.2 h.length (by omega)).trans e);clear N M q S bc;have a9:dE tab aN [1] [.agg (bY a)]=some (.agg (aJ ⟨[],a⟩)):=id rfl;have az:∀(c:Y) (l:It),Sm h o c→c[h.length]?=some (Ob.row aN 11 [aJ l])→hB l→Wp ((aA tab c aN (.ptr h.length 0 0)).bind λd=>scope h c (aK [d])) (λv:D × Y=>∃i,v.1 = .agg (aJ i)∧CM v.2 o∧bN o h v.2∧hB i):=λc l r b K=>by
  simp only[AY b,bs,dO];obtain⟨h',ae,ac,af⟩:=r.scope (d :=.agg (aJ l)) (d' :=.agg (aJ l)) (by
   rw[uz,j5 λd bb=>uK h.length c 2 l d bb]) (qG _ _)
  rw[ae];exact .some ⟨l,rfl,ac,af,K⟩
 simp only[hj,bs];refine Wp.fv ?_ ?_
 ·intro _;simp only[tZ,bs,a9];refine oR e (by rfl) (by rfl) (by simp) (by rfl) λj m g=>?_
  replace m:j[h.length]?=some (Ob.row aN 11 [aJ ⟨[],a⟩]):=m;exact az j _ (z.app (ig g.1.symm) λb p=>g.2 b (by omega)) m (.inl ⟨rfl,k.k⟩)
 ·intro _;have bl:aD tab aE 0 (.aG (bY a))=some (.aG (bY a)):=id rfl;have bm:aD tab aE 1 (.aG (bY a))=some (.aG [.int .i64 a.a1,.int .i64 a.a2,.int .i64 a.a3,a.ld,.int .i64 a.a5,.int .i64 a.a6,.str a.s7,.str a.s8,a.fd]):=id rfl;have bn:aD tab aE 2 (.aG (bY a))=some (.aG [.int .i64 a.a2,.int .i64 a.a3,a.ld,.int .i64 a.a5,.int .i64 a.a6,.str a.s7,.str a.s8,a.fd]):=id rfl;have bo:aD tab aE 3 (.aG (bY a))=some (.aG [.int .i64 a.a3,a.ld,.int .i64 a.a5,.int .i64 a.a6,.str a.s7,.str a.s8,a.fd]):=id rfl;have ax:aD tab aE 4 (.aG (bY a))=some (.aG [a.ld,.int .i64 a.a5,.int .i64 a.a6,.str a.s7,.str a.s8,a.fd]):=id rfl;have av:∀c,aA tab c U (.aG (bY a))=some (.int .i64 a.a0):=λc=>id rfl
  simp only[bl,bm,bn,bo,ax,av,n7,bs,xz];generalize H:aF s aE 10 [[.int .i64 0,.int .i64 0,.int .i64 0,.int .i64 0,.J,.int .i64 0,.int .i64 0,.str [],.str [],.J]]=j;have m:j[s.length]?=some (Ob.row aE 10 [[.int .i64 0,.int .i64 0,.int .i64 0,.int .i64 0,.J,.int .i64 0,.int .i64 0,.str [],.str [],.J]]):=by rw[← H];exact k1 _ _ _ _
  have ab:∀b,b<h.length+1→j[b]?=s[b]?:=λb p=>by rw[← H];exact k3 _ _ _ _ (by omega)
  have aq:j.length=h.length+2:=by rw[← H,iF];omega
  clear H;rw[ap]at m ⊢;have F:=z.app (by omega) λb p=>ab b (by omega)
  replace e:=(ab h.length (by omega)).trans e;refine mU m (by rfl) (by rfl) (by simp) (by rfl) λaa C g=>?_
  replace C:aa[h.length+1]?=some (Ob.row aE 10 [[.int .i64 a.a0,.int .i64 a.a1,.int .i64 a.a2,.int .i64 a.a3,.J,.int .i64 0,.int .i64 0,.str [],.str [],.J]]):=C;have P:=F.app (ig g.1.symm) λb p=>g.2 b (by omega)
  replace e:=(g.2 h.length (by omega)).trans e;have ar:aa.length=h.length+2:=g.1.trans aq;clear m ab F z g aq G ap;simp only[bs,uU,mi a.iC];refine Wp.loop (λag T c=>∃t A f,∃n:Nat,T=[t,.int .i64 n,A]∧ag+n=a.ls.length∧Sm h o c∧h.length+2≤c.length∧c[h.length]?=some (Ob.row aN 11 [[.str [],.int .i64 0,.int .i64 0,.int .i64 0,.int .i64 0,.J,.int .i64 0,.int .i64 0,.str [],.str [],.J]])
    ∧ c[h.length+1]?=some (Ob.row aE 10 [[.int .i64 a.a0,.int .i64 a.a1,.int .i64 a.a2,.int .i64 a.a3,f,.int .i64 0,.int .i64 0,.str [],.str [],.J]])∧aT c (h.length+2) bP 3 (((a.ls.take n).map blank).map bW) f)
   (λx=>x.1 = .ext 0∧∃t A aj f,x.2.1=[t,A,aj]∧Sm h o x.2.2∧h.length+2≤x.2.2.length∧x.2.2[h.length]?=some (Ob.row aN 11 [[.str [],.int .i64 0,.int .i64 0,.int .i64 0,.int .i64 0,.J,.int .i64 0,.int .i64 0,.str [],.str [],.J]])
    ∧ x.2.2[h.length+1]?=some (Ob.row aE 10 [[.int .i64 a.a0,.int .i64 a.a1,.int .i64 a.a2,.int .i64 a.a3,f,.int .i64 0,.int .i64 0,.str [],.str [],.J]])∧aT x.2.2 (h.length+2) bP 3 ((a.ls.map blank).map bW) f) a.ls.length
   ⟨_,_,.J,0,rfl,rfl,P,by omega,e,C,aT.J _ _ _ _⟩ ?_ ?_
  ·clear e C P ar;rintro ag T c ⟨t,A,f,n,rfl,bt,r,I,e,w,y⟩;have an:=k.l3;simp only[rX,dA,fL,bs,cQ,hj];refine Wp.fv ?_ ?_
   ·intro u;have u:n<a.ls.length:=lT u;have ad:a.ls[n]?=some a.ls[n]:=bX u;have bf:=ln n (by omega);have au:(a.ls.take (n+1)).map blank=(a.ls.take n).map blank++[blank a.ls[n]]:=by
     rw[ie,ad,iL];rfl
    generalize a.ls[n]=bg at ad au;have r1:c.row (h.length+1) 0=some [.int .i64 a.a0,.int .i64 a.a1,.int .i64 a.a2,.int .i64 a.a3,f,.int .i64 0,.int .i64 0,.str [],.str [],.J]:=eG w;simp only[nF,qK,r1,dP,ly,kq,pa,ax,uU,bs,n6 a.iC,o5,bL,fP,ad,gk];simp only[bW,ui,uj,n7,bs,tf,tk];refine rI I y (mH _ _ _ _) (by simp;omega) λay bq aw bh Q _ _=>?_
    have ah:=k5 (vG aw);simp only[bs];refine rK ((Q (h.length+1) (by omega)).trans w) (by rfl) (by rw[ah.1];rfl) (by simp) ah.2 λs L E=>?_
    rw[ah.1]at L;replace L:s[h.length+1]?=some (Ob.row aE 10 [[.int .i64 a.a0,.int .i64 a.a1,.int .i64 a.a2,.int .i64 a.a3,ay,.int .i64 0,.int .i64 0,.str [],.str [],.J]]):=L;simp only[bs,fH,bf];refine .some (.inl ⟨rfl,ag - 1,by omega,_,_,ay,n+1,rfl,by omega,(r.app bh λb p=>Q b (by omega)).app (ig E.1.symm) λb p=>E.2 b (by omega),by show h.length+2≤s.length;have:=E.1;omega,(E.2 h.length (by omega)).trans ((Q h.length (by omega)).trans e),L,?_⟩);rw[au,iL];exact aw.aO λb p _=>E.2 b (by omega)
   ·intro u;have u:a.ls.length≤n:=by
     have:¬(n:Int)<a.ls.length:=by simpa using u
     omega
    rw[fE u]at y;exact .some (.inr ⟨by simp,rfl,_,_,_,f,rfl,r,I,e,w,y⟩)
  ·clear e C P ar aa;rintro⟨bp,T,c⟩ ⟨rfl,t,A,aj,f,rfl,r,I,e,w,y⟩;simp only at r I e w y;simp only[gh,eB,bs,BZ];refine hZ r.cd mo 8 (by decide) (by decide) (by decide) λai s G q be _=>?_
   have z:=r.next G q;have bk:=(q.2 (h.length+1) (by omega)).trans w;replace e:=(q.2 h.length (by omega)).trans e;have bi:=y.same q (by omega);simp only[bs,n8 bk rfl,n8 w rfl,xB,kC];refine oR e (by rfl) (by rfl) (by simp) (by rfl) λj m g=>?_
   replace m:j[h.length]?=some (Ob.row aN 11 [[.str ai,.int .i64 a.a0,.int .i64 a.a1,.int .i64 a.a2,.int .i64 a.a3,f,.int .i64 0,.int .i64 0,.str [],.str [],.J]]):=m;have F:=z.app (ig g.1.symm) λb p=>g.2 b (by omega)
   have bj:=bi.aO (h':=j) λb p _=>g.2 b (by omega)
   have bd:=mC (n0:=h.length) (n:=2) bj (by omega) (λt _=>oa _ j _ t);have an:=k.l3;simp only[qJ m rfl,bs,dO];generalize K:(⟨ai,⟨a.a0,a.a1,a.a2,a.a3,a.ls.map blank,aW h.length j 3 f,0,0,[],[],[],.J,aY.J _ _,by simp,bd,by simp;omega⟩⟩:It)=l;have a8:s3 l:=by
    subst K;exact⟨be,k.h0,k.h2,k.f0,k.f2,k.a0,k.k.b9,vl _ _ _ k.ch,by simpa using k.l1,by simpa using an,λbg ao=>by
     simp at ao;obtain⟨av,_,rfl⟩:=ao;rfl,rfl,rfl,rfl,rfl,rfl⟩
   obtain⟨h',ae,ac,af⟩:=F.scope (d :=.agg [.str ai,.int .i64 a.a0,.int .i64 a.a1,.int .i64 a.a2,.int .i64 a.a3,f,.int .i64 0,.int .i64 0,.str [],.str [],.J]) (d' :=.agg (aJ l)) (by subst K;simp[-ES,aJ,bY]) (qG _ _);rw[ae];exact .some ⟨l,rfl,ac,af,.inr a8⟩
structure s5 where
 h:Int
 r:aR
 n:Int
def xY(a b:aR):Int:=if Op.bytesLess a b=true then -1 else if a=b then 0 else 1
def gr:List Ev→List Ev→Bool
 |[],_=>true
 |_::_,[]=>false
 |x::a,y::b=>if gq x y=true then gr a b else gr (x::a) b
def sm(a:s5→Int):List s5→Int
 |[]=>0
 |t::r=>a t+sm a r
theorem AK(i:It):(D.agg (aJ i)).ey=true:=by
 have a:=oH i.e.iC;have b:=oH i.e.jv;have f:(D.agg (aJ i)) = .agg [.str i.r,.int .i64 i.e.a0,.int .i64 i.e.a1,.int .i64 i.e.a2,.int .i64 i.e.a3,i.e.ld,.int .i64 i.e.a5,.int .i64 i.e.a6,.str i.e.s7,.str i.e.s8,i.e.fd]:=rfl;rw[f];generalize i.e.ld=c at a;generalize i.e.fd=d at b;cases c<;>first|(cases d<;>first|rfl|(simp[-ES,D.one]at b))|(simp[-ES,D.one]at a)
def mE:Nat→Int→List Int
 |0,_=>[]
 |n+1,v=>IntKind.wrap .u8 (v.fdiv (2 ^ (8*n)))::mE n v
theorem q1:∀(n:Nat) (v:Int),(mE n v).length=n
 |0,v=>rfl
 |n+1,v=>by simp[-ES,mE,q1 n v]
def ra(s:aR):List Int:=s.map λa=>(a.toNat:Int)
theorem Db(s:aR):(ra s).length=s.length:=by simp[-ES,ra]
def pI(n:Int):List Int:=mE 8 (IntKind.wrap .u64 n)
def pN(n:Nat):List Int:=mE 4 (IntKind.wrap .u64 n)
def pS(s:aR):List Int:=pN s.length++ra s
theorem vH(n:Int):(pI n).length=8:=q1 _ _
theorem vI(n:Nat):(pN n).length=4:=q1 _ _
theorem qY(s:aR):(pS s).length=4+s.length:=by simp[-ES,pS,vI,Db]
def qO(l:dJ):List Int:=pI l.off++pI l.len++pS l.gg
def nG(a:aR × aR):List Int:=pS a.1++pS a.2
def tg(i:It):List Int:=pS i.r++pI i.e.a0++pI i.e.a1++pI i.e.a2++pI i.e.a3++pN i.e.ls.length
def th(i:It):List Int:=tg i++(i.e.ls.map qO).flatten++pI i.e.a5++pI i.e.a6++pS i.e.s7++pS i.e.s8++pN i.e.fs.length
def ti(i:It):List Int:=th i++(i.e.fs.map nG).flatten
theorem pX{c:Type}(b:c→List Int)(m:Nat):∀(l:List c),(∀a∈l,(b a).length≤m)→(l.map b).flatten.length≤l.length*m
 |[],_=>by simp
 | a::l,h=>by
  have f:=h a (by simp);have g:=pX b m l λd e=>h d (by simp[-ES,e])
  simp only[hD,gH,e6,eS,Nat.succ_mul];omega
theorem j8{h:Y}{n0 b z:Nat}{rows:List (List D)}{d:D}(i:aT h n0 b z rows d){c:Nat}(g:d.dN c):h[c]?=some (.row b z rows):=by
 obtain⟨m,k,rfl⟩:=g;rcases i with⟨a,_⟩|⟨l,j,a,f⟩
 ·cases a
 ·injection a with _ e;subst e;exact f
def gC(r:aR)(a b c d:Int)(h:D)(e f:Int)(i j:aR)(g:D):List D:=[.str r,.int .i64 a,.int .i64 b,.int .i64 c,.int .i64 d,h,.int .i64 e,.int .i64 f,.str i,.str j,g]
structure RI where
 r:aR
 a0:Int
 a1:Int
 a2:Int
 a3:Int
 ls:List dJ
 a5:Int
 a6:Int
 t7:aR
 t8:aR
 fs:List (aR × aR)
def RI.row(x:RI)(b a:D):List D:=gC x.r x.a0 x.a1 x.a2 x.a3 b x.a5 x.a6 x.t7 x.t8 a
def eJ(n:Int):Prop := -9223372036854775808≤n∧n<9223372036854775808
structure sR (l:dJ):Prop where
 o:eJ l.off
 n:eJ l.len
 t:l.gg.length<4294967296
structure wP (i:It):Prop where
 r:i.r.length<4294967296
 a0:eJ i.e.a0
 a1:eJ i.e.a1
 a2:eJ i.e.a2
 a3:eJ i.e.a3
 nl:i.e.ls.length<4294967296
 ls:∀l∈i.e.ls,sR l
 a5:eJ i.e.a5
 a6:eJ i.e.a6
 t7:i.e.s7.length<4294967296
 t8:i.e.s8.length<4294967296
 nf:i.e.fs.length<4294967296
 fs:∀p∈i.e.fs,p.1.length<4294967296∧p.2.length<4294967296
def h4(i:It):RI:=⟨i.r,i.e.a0,i.e.a1,i.e.a2,i.e.a3,i.e.ls,i.e.a5,i.e.a6,i.e.s7,i.e.s8,i.e.fs⟩
def vt(x:RI)(b a:D)(c:aY 3 bW x.ls b)(h2:aY 2 fb x.fs a)(d:x.ls.length≤9223372036854775807)(e:x.fs.length≤9223372036854775807):It:=⟨x.r,⟨x.a0,x.a1,x.a2,x.a3,x.ls,b,x.a5,x.a6,x.t7,x.t8,x.fs,a,h2,e,c,d⟩⟩
theorem Ci(x:RI)(b a:D)(c:aY 3 bW x.ls b)(h2:aY 2 fb x.fs a)(d:x.ls.length≤9223372036854775807)(e:x.fs.length≤9223372036854775807):h4 (vt x b a c h2 d e)=x:=rfl
def rM:It:=⟨[],⟨0,0,0,0,[],.J,0,0,[],[],[],.J,aY.J _ _,by simp,aY.J _ _,by simp⟩⟩
theorem vo:∀(e:List dJ) (a b:Int),eR a e b→0≤a→b≤1000000→∀l∈e,sR l∧l.gg.length≤200
 |[],a,b,_,_,_,l,c=>by cases c
 | x::r,a,b,h,j,k,l,c=>by
  obtain⟨g1,g,i,f,d⟩:=h;have m:=iZ r _ _ d;rcases e7.1 c with rfl|c
  ·exact⟨⟨by unfold eJ;omega,by unfold eJ;omega,by omega⟩,f⟩
  ·exact vo r _ _ d (by omega) (by omega) l c
theorem Dg{c:Type}(a b:List c)(x y:c)(n:Nat)(d:a.length=n):(a++x::b).set n y=a++y::b:=by
 subst d;rw[List.set_append_right _ _ (aX _)];simp[-ES]
structure Rw where
 k:List aR
 kd:D
 hk:aY 1 (λs=>[D.str s]) k kd
 Ez:k.length≤1000000
 n:List Int
 nd:D
 hn:aY 1 bZ n nd
 EA:n.length≤1000000
 er:Int
def rwa:Rw:=⟨[],.J,.J _ _,by simp,[1],.sl 1 true [[.int .i64 1]],.inr ⟨true,rfl⟩,by simp,0⟩
structure nj (i:It):Prop where
 r:wP i
 b:(ti i).length≤20000
 e:qF i=0
theorem vm(k:Int):∀(c:List dJ) (a b:Int),eR a c b→eR (a+k) (c.map λl=>⟨l.off+k,l.len,l.gg⟩) (b+k)
 |[],a,b,h=>by show a+k=b+k;rw[show a=b from h]
 | l::r,a,b,h=>by
  obtain⟨d,h2,e,f,g⟩:=h;refine⟨by show l.off+k=a+k;rw[d],h2,e,f,?_⟩;have:=vm k r _ b g;show eR (a+k+l.len) _ _;rw[show a+k+l.len=a+l.len+k by omega];exact this
def mz(x:RI)(b k:Int):RI:=⟨x.r,x.a0,b,x.a2+k,x.a3+k,x.ls.map λa=>⟨a.off+k,a.len,a.gg⟩,x.a5,x.a6,x.t7,x.t8,x.fs⟩
theorem Cn{i j:It}(hi:hB i){E k:Int}(bb:0≤E)(bc:E≤2)(a9:0≤i.e.a2+k)(X:i.e.a3+k≤50000)(aa:h4 j=mz (h4 i) E k):nj j:=by
 obtain⟨F,⟨t,u,m,n,g,D,o,v,q,s,f,C,P,Q,R,T⟩⟩:=j;simp only[h4,mz,RI.mk.injEq]at aa;obtain⟨H,aw,ax,ay,az,I,af,K,L,M,B⟩:=aa;have bf:=hi.l3;have aj:=hi.fs;obtain⟨ai,a6,a7,be⟩:=hi.ch;have w:=vm k _ _ _ ai;rw[← ay,← az,← I]at w;have a8:g.length=i.e.ls.length:=by rw[I];simp[-ES]
 have bd:=iZ _ _ _ w;have ag:=vo _ _ _ w (by omega) (by omega);have an:F.length≤32∧q.length≤32∧s.length≤32∧eJ t∧eJ u∧eJ o∧eJ v∧∀b∈f,b.1.length≤1000∧b.2.length≤1000:=by
  rw[H,aw,ax,af,K,L,M,B];rcases hi with⟨l,d⟩|d
  ·have x:=d.h0;have y:=d.h2;have ak:=d.t0;have al:=d.t9;have z:=(show ∀a∈kU,(-10000:Int)≤a∧a≤10000 by decide) _ d.wt;refine⟨by rw[l];simp[-ES],(show ∀a∈kV,a.length≤32 by decide) _ d.tr,(show ∀a∈kW,a.length≤32 by decide) _ d.st,by unfold eJ;omega,by unfold eJ;omega,by unfold eJ;omega,by unfold eJ;omega,λb c=>⟨?_,(show ∀a∈kX,a.length≤1000 by decide) _ (d.fs.2 b c)⟩⟩;exact(show ∀a∈hv,a.length≤1000 by decide) _ (d.fs.1.subset (eE.2 ⟨b,c,rfl⟩))
  ·have x:=d.h0;have y:=d.h2;have ak:=d.t0;have al:=d.w0;exact⟨(show ∀a∈mo,a.length≤32 by decide) _ d.r,by rw[d.tr];simp[-ES],by rw[d.st];simp[-ES],by unfold eJ;omega,by unfold eJ;omega,by unfold eJ;omega,by unfold eJ;omega,λb c=>by rw[d.fs]at c;cases c⟩
 obtain⟨r1,bg,bh,a0,a1,a4,a5,N⟩:=an;have ah:f.length≤4:=by rw[B];exact aj
 refine⟨⟨by show F.length<_;omega,a0,a1,by unfold eJ;show _≤m∧m<_;omega,by unfold eJ;show _≤n∧n<_;omega,by show g.length<_;omega,λG p=>(ag G p).1,a4,a5,by show q.length<_;omega,by show s.length<_;omega,by show f.length<_;omega,λb c=>by have:=N b c;omega⟩,?_,?_⟩
 ·have x:=pX qO 220 g (λG p=>by
    have:=(ag G p).2;simp only[qO,e6,vH,qY];omega)
  have y:(f.map nG).flatten.length≤f.length*2008:=pX nG 2008 f (λb c=>by
   have:=N b c;simp only[nG,e6,qY];omega)
  have am:(f.length*2008:Nat)≤4*2008:=gj _ ah;have X:(g.length*220:Nat)≤3*220:=gj _ (by omega);simp only[ti,th,tg,e6,vH,qY,vI];omega
 ·have p:∀A:Int,200≤A→iW (⟨t,u,m,n,g,D,o,v,q,s,f,C,P,Q,R,T⟩:Ev) A=0:=λA ap=>Bb A ap (by show 0≤m;omega) (by show n≤60000;omega) (by show 1≤g.length;omega) (by show g.length≤40;omega) w
  rcases hi with⟨l,h⟩|h
  ·have x:=h.h0;have y:=h.h2;have am:=h.t0;have X:=h.t9;have z:=(show ∀a∈kU,¬a<1∧Int.tmod 5040 a=0 by decide) _ h.wt;have ad:=(show ∀a∈kV,¬32<a.length by decide) _ h.tr;have ac:=(show ∀a∈kW,¬32<a.length by decide) _ h.st;have ab:=Ch h.fs;have au:(f.any λb=>decide (2000<b.2.length))=false:=by
    rw[List.any_eq_false];intro b c;have:=(N b c).2;simp[-ES];omega
   rw[← K]at z;rw[← L]at ad;rw[← M]at ac;rw[← B]at ab;have aq:F=[]:=by rw[H];exact l
   have ar:(decide (0≤o)&&decide (o≤253402300799999))=true:=by simp;omega
   have c:k6 (⟨t,u,m,n,g,D,o,v,q,s,f,C,P,Q,R,T⟩:Ev)=true:=by
    simp[-ES,k6];omega
   simp[-ES,qF,aq,tY,c,ar,z.1,z.2,p 2000 (by omega),ad,ac,ab,au]
  ·have l:=(show ∀a∈mo,a≠[]∧¬32<a.length by decide) _ h.r;rw[← H]at l;have x:=h.h0;have y:=h.h2;obtain rfl:o=0:=af.trans h.t0;obtain rfl:v=0:=K.trans h.w0;obtain rfl:q=[]:=L.trans h.tr;obtain rfl:s=[]:=M.trans h.st;obtain rfl:f=[]:=B.trans h.fs;have c:k6 (⟨t,u,m,n,g,D,0,0,[],[],[],C,P,Q,R,T⟩:Ev)=true:=by
    simp[-ES,k6];omega
   have ae:∀b∈g,b.gg=[]:=λb c=>by
    rw[I]at c;obtain⟨av,ao,rfl⟩:=eE.1 c;exact h.tx av ao
   have ba:(g.any λb => !(b.gg==[]))=false:=by
    rw[List.any_eq_false];intro b c;simp[-ES,ae b c]
   simp[-ES,qF,l.1,l.2,c,p 60000 (by omega)];exact ae
def hX(k:Int)(l:dJ):dJ:=⟨l.off+k,l.len,l.gg⟩
theorem Dh(s:Int)(a:List dJ)(i:Nat)(hi:i<a.length):(((a.take i).map (hX s)++a.drop i).map bW).set i (bW (hX s a[i]))=((a.take (i+1)).map (hX s)++a.drop (i+1)).map bW:=by
 have b:a[i]?=some a[i]:=bX hi;rw[sE hi,ie,b];generalize a[i]=c;rw[iL,hD,Dg _ _ _ _ i (by simp;omega)];simp[-ES]
theorem CE{s:Int}{c:List dJ}{x:D}{n0:Nat}{g:Y}(aa:aT g n0 bP 3 (c.map bW) x)(af:c.length≤1000)(P:∀l∈c, -9223372036854775808≤l.off+s∧l.off+s<9223372036854775808)(a b:D){E:Type}{t:cS→Option E}{Q:E→Prop}
  (k:∀g' i j m,g'.length=g.length→(∀e,¬x.dN e→g'[e]?=g[e]?)→aT g' n0 bP 3 ((c.map (hX s)).map bW) x→Wp (t (.ext 2,[i,j,m],g')) Q) :
  Wp ((cT (oX (.int .i64 s) x (.int .i64 c.length)) [a,.int .i64 0,b] g).bind t) Q:=by
 refine Wp.loop (λh r g'=>∃B C,∃d:Nat,r=[B,.int .i64 d,C]∧h+d=c.length∧g'.length=g.length∧(∀e,¬x.dN e→g'[e]?=g[e]?)∧aT g' n0 bP 3 (((c.take d).map (hX s)++c.drop d).map bW) x)
  (λh=>h.1 = .ext 2∧∃i j m,h.2.1=[i,j,m]∧h.2.2.length=g.length∧(∀e,¬x.dN e→h.2.2[e]?=g[e]?)∧aT h.2.2 n0 bP 3 ((c.map (hX s)).map bW) x) c.length ⟨_,_,0,rfl,by omega,rfl,λ_ _=>rfl,by simpa using aa⟩ ?_ ?_
 ·rintro h r g' ⟨B,C,d,rfl,ae,q,o,n⟩;simp only[oX,dA,fL,bs,cQ,hj];refine Wp.fv ?_ ?_
  ·intro f;have f:d<c.length:=lT f;have F:c[d]?=some c[d]:=bX f;have M:=Dh s c d f;have I:c[d]∈c:=sL f;have p:(((c.take d).map (hX s)++c.drop d).map bW)[d]?=some (bW c[d]):=by
    rw[dK,fW (by simp;omega)];have:d - ((c.take d).map (hX s)).length=0:=by simp;omega
    rw[this,hC];simp[-ES,F]
   have u:(((c.take d).map (hX s)++c.drop d).map bW).length=c.length:=by simp;omega
   obtain⟨ab,ag⟩:=P _ I;generalize c[d]=l at *;have T:IntKind.wrap .i64 (l.off+s)=l.off+s:=cE ab (by omega);have R:=ln d (by omega);rcases n with⟨_,K⟩|⟨y,L,rfl,v⟩
   ·rw[K]at p;cases p
   rw[u];have H:(0:Int)≤d∧(d:Int)<c.length:=⟨by omega,by omega⟩
   have X:aA tab g' U (.ptr y d 0)=some (.int .i64 l.off):=by rw[gW,eG v,p];rfl
   rw[u]at o;simp only[AO,H,ik,bL,bs,dP,fP,y9,jP,X,fH,T];refine iH (kk:=d) (off:=0) (row:=bW l) v p (by rfl) (by simp[-ES,bW]) (by rfl) λad z A=>?_
   have N:cH (bW l) 0 (bD (.int .i64 (l.off+s)))=bW (hX s l):=id rfl;rw[N,M]at z;simp only[bs,R];refine .some (.inl ⟨rfl,h - 1,by omega,_,_,d+1,rfl,by omega,A.1.trans q,λe w=>?_,?_⟩)
   ·rw[A.2 e λG=>w ⟨3,c.length,by rw[G]⟩];exact o e w
   ·refine .inr ⟨y,L,?_,z⟩;have:(((c.take (d+1)).map (hX s)++c.drop (d+1)).map bW).length=c.length:=by simp;omega
    rw[this]
  ·intro f;have f:d=c.length:=by
    have:¬(d:Int)<c.length:=by simpa using f
    omega
   subst f;rw[sQ,List.drop_length,o6]at n;exact .some (.inr ⟨by simp,rfl,_,_,_,rfl,q,o,n⟩)
 ·rintro⟨ac,r,g'⟩ ⟨rfl,i,j,m,rfl,q,o,n⟩;exact k g' i j m q o n
def jl(g:Y)(n0:Nat)(x:RI)(row:List D):Prop:=∃b a,row=x.row b a∧aT g n0 bP 3 (x.ls.map bW) b∧aY 2 fb x.fs a∧x.ls.length≤1000∧x.fs.length≤1000
inductive gA (g:Y) (n0:Nat):List RI→List (List D)→Prop
 |nil:gA g n0 [] []
 |cons {x row xs rows}:jl g n0 x row→gA g n0 xs rows→gA g n0 (x::xs) (row::rows)
theorem gA.snoc{g:Y}{n0:Nat}{x:RI}{row:List D}:∀{xs:List RI} {rows:List (List D)},gA g n0 xs rows→jl g n0 x row→gA g n0 (xs++[x]) (rows++[row])
 |_,_,.nil,h =>.cons h .nil
 |_,_,.cons a b,h =>.cons a (b.snoc h)
theorem gA.len{g:Y}{n0:Nat}:∀{xs:List RI} {rows:List (List D)},gA g n0 xs rows→rows.length=xs.length
 |_,_,.nil=>rfl
 |_,_,.cons a b=>by simp[-ES,b.len]
theorem jl.aO{g g':Y}{n0:Nat}{x:RI}{row:List D}(h:jl g n0 x row)(i:∀a l,n0≤a→a<g.length→g[a]?=some (.row bP 3 l)→g'[a]?=g[a]?):jl g' n0 x row:=by
 obtain⟨k,d,e,b,f⟩:=h;exact⟨k,d,e,b.aO λa j c=>i a _ j (b.lt c).2 (j8 b c),f⟩
theorem gA.aO{g g':Y}{n0:Nat}(d:∀c e,n0≤c→c<g.length→g[c]?=some (.row bP 3 e)→g'[c]?=g[c]?):∀{xs:List RI} {rows:List (List D)},gA g n0 xs rows→gA g' n0 xs rows
 |_,_,.nil =>.nil
 |_,_,.cons a b =>.cons (a.aO d) (b.aO d)
theorem jl.V{g:Y}{n0 m:Nat}(k:m≤n0){x:RI}{row:List D}(h:jl g n0 x row):∃j:It,h4 j=x∧row.map (Pi.aW m g 2)=aJ j:=by
 obtain⟨d,a,rfl,f,b,p,q⟩:=h;have l:=mC (n0:=m) (n:=1) f k (λe _=>oa _ g _ e);have i:Pi.aW m g 2 a=a:=rj (n:=1) b λr _ o c=>by
  simp only[fb,e7,sP,or_false]at c;rcases c with rfl|rfl<;>rfl
 refine⟨vt x (Pi.aW m g 2 d) a l b (by omega) (by omega),Ci _ _ _ _ _ _ _,?_⟩;show[_,_,_,_,_,Pi.aW m g 2 d,_,_,_,_,Pi.aW m g 2 a]=_;rw[i];rfl
theorem gA.V{g:Y}{n0 m:Nat}(d:m≤n0):∀{xs:List RI} {rows:List (List D)},gA g n0 xs rows→∃c:List It,c.map h4=xs∧rows.map (λrow=>row.map (Pi.aW m g 2))=c.map aJ
 |_,_,.nil=>⟨[],rfl,rfl⟩
 | _,_,.cons a b=>by
  obtain⟨j,e,h2⟩:=a.V d;obtain⟨c,f,h⟩:=b.V d;exact⟨j::c,by simp[-ES,e,f],by simp[-ES,h2,h]⟩
theorem CA{g:Y}{a m b z n:Nat}{rows:List (List D)}{d:D}(c:aT g a b z rows d)(i:m≤a):(rows=[]∧aW m g (n+1) d = .J)∨aW m g (n+1) d = .sl z false (rows.map λrow=>row.map (aW m g n)):=by
 rcases c with⟨rfl,f⟩|⟨h,j,rfl,e⟩
 ·exact .inl ⟨f,rfl⟩
 ·right;have:Nat.ble m h=true:=by rw[Nat.ble_eq];omega
  simp only[Pi.aW,this,e,kq,sQ]
theorem uN(o k:Nat)(a:Int)(b:0≤a)(e:a<3):bE tab fj (.ptr o k 0) (.int .i64 a)=some (.ptr o k a.toNat):=by
 have c:jX tab fj=some (dR,some 3):=id rfl;have d:dR.Z=1:=id rfl;have f:a<((3:Nat):Int):=e;simp only[bE,c,d,b,f,ik,bL,Nat.zero_lt_one];simp[-ES]
def gS(a:List Int):List D:=a.map (.int .i64 ·)
structure QA (h g k:Y) (o:Nat) (es:List Int) (row:List D):Prop where
 s:Sm h o k
 e:k[h.length]?=some (.row fj 3 [gS es])
 i:k[g.length]?=some (.row aN 11 [row])
 a:∀q,q<g.length→q≠o→q≠h.length→k[q]?=g[q]?
 hg:h.length<g.length
theorem QA.l{h g k:Y}{o:Nat}{b:List Int}{row:List D}(a:QA h g k o b row):g.length<k.length:=(aP.1 a.i).1
theorem QA.next{h g k d:Y}{o:Nat}{f:List Int}{row:List D}(b:QA h g k o f row)(c:CM d o)(s:bN o k d):QA h g d o f row:=
 have p:=b.s.lt;have hg:=b.hg
 ⟨b.s.next c s,by rw[s.2 _ (by omega)];exact b.e,by rw[s.2 _ (by omega)];exact b.i,λl m j n=>by rw[s.2 l j];exact b.a l m j n,b.hg⟩
theorem QA.put{h g k d:Y}{o:Nat}{f:List Int}{row i:List D}(b:QA h g k o f row)(p:d[g.length]?=some (.row aN 11 [i]))(s:bN g.length k d):QA h g d o f i:=
 have n:=b.s.lt;have hg:=b.hg
 ⟨b.s.app (ig s.1.symm) λc q=>s.2 c (by omega),by rw[s.2 _ (by omega)];exact b.e,p,λc j l m=>by rw[s.2 c (by omega)];exact b.a c j l m,b.hg⟩
theorem QA.ends{h g k d:Y}{o:Nat}{j e:List Int}{row:List D}(b:QA h g k o j row)(p:d[h.length]?=some (.row fj 3 [gS e]))(s:bN h.length k d):QA h g d o e row:=
 have n:=b.s.lt;have hg:=b.hg
 ⟨b.s.app (ig s.1.symm) λc q=>s.2 c (by omega),p,by rw[s.2 _ (by omega)];exact b.i,λc l m f=>by rw[s.2 c f];exact b.a c l m f,b.hg⟩
theorem QA.grow{h g k d:Y}{o:Nat}{f:List Int}{row:List D}(c:QA h g k o f row)(l:k.length≤d.length)(s:∀b,b<g.length+1→d[b]?=k[b]?):QA h g d o f row:=
 have p:=c.s.lt;have hg:=c.hg
 ⟨c.s.app l λb q=>s b (by omega),by rw[s _ (by omega)];exact c.e,by rw[s _ (by omega)];exact c.i,λb j m n=>by rw[s b (by omega)];exact c.a b j m n,c.hg⟩
theorem y4(b:List Int)(a v:Int)(c:b.length=3)(g:0≤a)(h:a<3):cH (gS b) a.toNat (bD (.int .i64 v))=gS (b.set a.toNat v):=by
 match b,c with
 | [d,e,f],_ =>
  have:a=0∨a=1∨a=2:=by omega
  rcases this with rfl|rfl|rfl<;>rfl
theorem y3(b:List Int)(a:Int)(g:b.length=3)(h:0≤a)(i:a<3):∃c,b[a.toNat]?=some c∧((gS b).drop a.toNat).head?=some (.int .i64 c)∧c∈b:=by
 match b,g with
 | [d,e,f],_ =>
  have:a=0∨a=1∨a=2:=by omega
  rcases this with rfl|rfl|rfl
  ·exact⟨d,rfl,rfl,by simp⟩
  ·exact⟨e,rfl,rfl,by simp⟩
  ·exact⟨f,rfl,rfl,by simp⟩
def ke(r:Int):List D:=[.int .i64 r]
structure QP (h g:Y) (o:Nat) (es:List Int) (xs:List RI) (rows:List (List D)) (rs:List Int) (x y:D):Prop where
 s:Sm h o g
 e:g[h.length]?=some (.row fj 3 [gS es])
 e3:es.length=3
 eb:∀e∈es,0≤e∧e≤40+1000*xs.length
 q:gA g (h.length+1) xs rows
 x:aT g (h.length+1) aN 11 rows x
 y:aT g (h.length+1) U 1 (rs.map ke) y
 ok:∀z∈xs,∀j:It,h4 j=z→nj j
 rl:rs.length=xs.length
theorem QP.hg{h g:Y}{o:Nat}{a:List Int}{xs:List RI}{rows:List (List D)}{b:List Int}{x y:D}(P:QP h g o a xs rows b x y):h.length<g.length:=(aP.1 P.e).1
theorem CF{h g:Y}{o:Nat}{j:List Int}{xs:List RI}{rows:List (List D)}{E:List Int}{x y:D}(P:QP h g o j xs rows E x y)(m:xs.length≤40){n:Int}(c5:0<n)(eg:n≤1000){b2:D × Y}(bj:b2.1 = .ptr h.length 0 0)(cd ce cf cg ci cj ck cb cc:D){Q:cS→Prop}
  (k:∀g' cu z rows' r aj ak cm X cn co cp cq cr nD cl,QP h g' o cu (xs++[z]) rows' (E++[r]) aj ak→Q (.aS,[aj,ak,.int .i64 (n - 1),cm,X,cn,co,cp,cq,cr,nD,cl],g')) :
  Wp (m1 (.ptr o 0 0) b2 [x,y,.int .i64 n,cd,ce,cf,cg,ci,cj,ck,cb,cc] g) Q:=by
 have c3:decide (n>0)=true:=hR c5;have eh:=P.s.lt;have bh:=P.hg;simp only[m1,dA,fL,bs,cQ,iR,c3,cW,bL];obtain⟨a,A,be,b9,ai,l⟩:=B2 P.s.cd;obtain⟨bg,d3,d4,ej⟩:=l.ch;have ee:=iZ _ _ _ bg;have ek:=l.l3;have d7:=l.fs;simp only[be,bs];have av:A.length=g.length:=ai.1;have n0:(aF A aN 11 [[.str [],.int .i64 0,.int .i64 0,.int .i64 0,.int .i64 0,.J,.int .i64 0,.int .i64 0,.str [],.str [],.J]])[g.length]?=some (.row aN 11 [aJ rM]):=by rw[← av];exact hP _ _ _ _
 have ag:∀b,b<g.length→(aF A aN 11 [[.str [],.int .i64 0,.int .i64 0,.int .i64 0,.int .i64 0,.J,.int .i64 0,.int .i64 0,.str [],.str [],.J]])[b]?=A[b]?:=λb f=>gQ _ _ _ _ (by omega)
 have dp:(aF A aN 11 [[.str [],.int .i64 0,.int .i64 0,.int .i64 0,.int .i64 0,.J,.int .i64 0,.int .i64 0,.str [],.str [],.J]]).length=g.length+1:=by rw[← av];exact iF _ _ _ _
 rw[av];generalize aF A aN 11 [[.str [],.int .i64 0,.int .i64 0,.int .i64 0,.int .i64 0,.J,.int .i64 0,.int .i64 0,.str [],.str [],.J]]=cw at *;have al:QA h g cw o j (aJ rM):=⟨(P.s.next b9 ai).app (by omega) λb f=>ag b (by omega),by rw[ag _ bh,ai.2 _ (by omega)];exact P.e,n0,λb c c0 ea=>by rw[ag b c,ai.2 b c0],bh⟩
 clear n0 ag dp;refine oR (kk:=0) (off:=0) (row:=aJ rM) (v :=.agg (aJ a)) al.i (by rfl) (by rfl) (by exact aX _) (AK _) λcx b0 b5=>?_
 have am:QA h g cx o j (gC a.r a.e.a0 a.e.a1 a.e.a2 a.e.a3 a.e.ld a.e.a5 a.e.a6 a.e.s7 a.e.s8 a.e.fd):=al.put b0 b5;clear b0 b5 al be;obtain⟨e,d8,X,bd,b6,I,aa⟩:=fK am.s.cd 3 (by omega) (by omega);have an:=am.next bd b6;clear am b6 bd;simp only[X,bs,kM,y8];refine iH (kk:=0) (off:=0+1+1) (v :=.int .i64 e) an.i (by rfl) (by rfl) (by simp[-ES,gC]) (by rfl) λK b1 b7=>?_
 have F:QA h g K o j (gC a.r a.e.a0 e a.e.a2 a.e.a3 a.e.ld a.e.a5 a.e.a6 a.e.s7 a.e.s8 a.e.fd):=an.put b1 b7;clear b1 b7 an X;obtain⟨d,ad,c1,c2⟩:=y3 j e P.e3 I aa;obtain⟨d5,d6⟩:=P.eb d c2;have di:aA tab K U (.ptr h.length 0 e.toNat)=some (.int .i64 d):=by rw[gW,eG F.e];exact c1
 have dj:aA tab K U (.ptr g.length 0 (0+1+2))=some (.int .i64 a.e.a2):=by rw[gW,eG F.i];rfl
 have dl:aA tab K bS (.ptr g.length 0 (0+1+4))=some a.e.ld:=by rw[qK,eG F.i];rfl
 have dc:IntKind.wrap .i64 (d - a.e.a2)=d - a.e.a2:=cE (by omega) (by omega);simp only[bs,bj,uN _ _ e I aa,di,kM,lV,nF,dj,dl,gP,dc];refine rI (n0:=K.length) (rows:=[]) (aX _) (.J _ _ _ _) (Dj _ a.e.iC) (by simp;omega) λq d9 ah dg bk _ _=>?_
 rw[nb]at ah;have el:=F.l;have bb:=F.grow dg λb f=>bk b (by omega)
 have dm:bT tab bS q=some (.int .i64 a.e.ls.length):=by rw[A5 ah];simp[-ES]
 have c7:∀C∈a.e.ls,0≤C.off∧C.off≤1000:=by
  have df:∀(af:List dJ) (T H:Int),eR T af H→∀y∈af,T≤y.off∧y.off≤H:=by
   intro af
   induction af with
   |nil=>intro T H _ y M;simp at M
   | cons z r dd =>
    intro T H h y M;have ec:=iZ _ _ _ h.2.2.2.2;rcases e7.1 M with rfl|M
    ·have:=h.1;have:=h.2.1;omega
    ·have:=dd _ H h.2.2.2.2 y M;have:=h.2.1;omega
  intro C ar;have:=df _ _ _ bg C ar;omega
 simp only[bs,dm,cQ];refine CE (s:=d - a.e.a2) ah (by omega) (λC ar=>by have:=c7 C ar;omega) _ _ λaq eu es et en bl bv=>?_
 have G:QA h g aq o j _:=bb.grow (by omega) λb f=>bl b λae=>by have:=(ah.lt ae).1;omega
 clear bl bb bk;have bp:aA tab aq U (.ptr g.length 0 (0+1+2))=some (.int .i64 a.e.a2):=by rw[gW,eG G.i];rfl
 have bq:aA tab aq U (.ptr g.length 0 (0+1+3))=some (.int .i64 a.e.a3):=by rw[gW,eG G.i];rfl
 have da:IntKind.wrap .i64 (a.e.a2+(d - a.e.a2))=a.e.a2+(d - a.e.a2):=cE (by omega) (by omega);have db:IntKind.wrap .i64 (a.e.a3+(d - a.e.a2))=a.e.a3+(d - a.e.a2):=cE (by omega) (by omega);simp only[bs,gh,eB,dA,fL,kM,lV,lW,nF,bp,bq,fH,da,db,cQ];have aw:=k5 (vG bv);refine rK (kk:=0) (off:=0+1+4) G.i (by rfl) (by rw[aw.1];rfl) (by simp[-ES,gC]) aw.2 λcy ax az=>?_
 rw[aw.1]at ax;have ao:QA h g cy o j (gC a.r a.e.a0 e a.e.a2 a.e.a3 q a.e.a5 a.e.a6 a.e.s7 a.e.s8 a.e.fd):=G.put ax az;have bw:=bv.same az (by omega);clear ax az G bp bq
 try simp only[bs,kM,lV,lW]
 refine iH (kk:=0) (off:=0+1+2) (v :=.int .i64 (a.e.a2+(d - a.e.a2))) ao.i (by rfl) (by rfl) (by simp[-ES,gC]) (by rfl) λcz b3 a4=>?_
 have ap:QA h g cz o j (gC a.r a.e.a0 e (a.e.a2+(d - a.e.a2)) a.e.a3 q a.e.a5 a.e.a6 a.e.s7 a.e.s8 a.e.fd):=ao.put b3 a4;have bx:=bw.same a4 (by omega);clear b3 a4 ao bw
 try simp only[bs,kM,lV,lW]
 refine iH (kk:=0) (off:=0+1+3) (v :=.int .i64 (a.e.a3+(d - a.e.a2))) ap.i (by rfl) (by rfl) (by simp[-ES,gC]) (by rfl) λbf b4 a7=>?_
 have R:QA h g bf o j (gC a.r a.e.a0 e (a.e.a2+(d - a.e.a2)) (a.e.a3+(d - a.e.a2)) q a.e.a5 a.e.a6 a.e.s7 a.e.s8 a.e.fd):=ap.put b4 a7;have bz:=bx.same a7 (by omega);clear b4 a7 ap bx;have br:aA tab bf U (.ptr g.length 0 (0+1+3))=some (.int .i64 (a.e.a3+(d - a.e.a2))):=by rw[gW,eG R.i];rfl
 simp only[bs,kM,lW,br,bj,uN _ _ e I aa];refine iH (kk:=0) (off:=e.toNat) (v :=.int .i64 (a.e.a3+(d - a.e.a2))) R.e (by rfl) (by rfl) (by simp only[gS,gw,P.e3];omega) (by rfl) λL ay a8=>?_
 rw[y4 j e _ P.e3 I aa]at ay;have w:QA h g L o (j.set e.toNat (a.e.a3+(d - a.e.a2))) _:=R.ends ay a8;have dq:=bz.same a8 (by omega);clear ay a8 R bz br;have dk:aA tab L aN (.ptr g.length 0 0)=some (.agg (gC a.r a.e.a0 e (a.e.a2+(d - a.e.a2)) (a.e.a3+(d - a.e.a2)) q a.e.a5 a.e.a6 a.e.s7 a.e.s8 a.e.fd)):=qJ w.i rfl;have c4:bA tab cD 1 [0] [.agg (gC a.r a.e.a0 e (a.e.a2+(d - a.e.a2)) (a.e.a3+(d - a.e.a2)) q a.e.a5 a.e.a6 a.e.s7 a.e.s8 a.e.fd)]=some (.sl 11 true [gC a.r a.e.a0 e (a.e.a2+(d - a.e.a2)) (a.e.a3+(d - a.e.a2)) q a.e.a5 a.e.a6 a.e.s7 a.e.s8 a.e.fd]):=id rfl;simp only[bs,dk,c4];have ae:∀{i z:Nat} {rw:List (List D)} {t:D},aT g (h.length+1) i z rw t→aT L (h.length+1) i z rw t:=λp=>p.aO λb f l=>w.a b (p.lt l).2 (by omega) (by omega)
 have a9:=ae P.x;have d1:=ae P.y;have dw:=P.q.aO (g':=L) λb _ f c8 _=>w.a b c8 (by omega) (by omega)
 have ef:rows.length≤40:=by rw[P.q.len];exact m
 have eo:=w.l;refine wG (n0:=h.length+1) (by omega) a9 (mH _ _ _ _) (by simp;omega) λaj ab dr dh kc bm _=>?_
 have bc:=w.s.app dh λb f=>kc b (by omega)
 have bt:∀{i z:Nat} {rw:List (List D)} {t:D} {N:Nat},aT L N i z rw t→i≠aN→aT ab N i z rw t:=λp au=>p.aO λb f l=>bm b (p.lt l).2 λm=>by
  have c:=j8 p l;rw[j8 a9 m]at c;injection c with c;injection c with c;exact au c.symm
 have d2:=bt d1 (by decide);have dt:=bt dq (by decide);have dx:=dw.aO (g':=ab) λb E _ f c=>bm b f λm=>by
  rw[j8 a9 m]at c;injection c with c;injection c with c;exact absurd c (by decide)
 have cs:ab[h.length]?=some (.row fj 3 [gS (j.set e.toNat (a.e.a3+(d - a.e.a2)))]):=by rw[kc _ (by omega)];exact w.e
 obtain⟨r,gd,ct,ca,u,ep,eq⟩:=fK bc.cd 4 (by omega) (by omega);have b8:=bc.next ca u;simp only[bs,ct,xH];have d0:=dr.same u (by omega);have ba:=d2.same u (by omega);have du:=dt.same u (by omega);have dy:=dx.aO (g':=gd) λb E f _ _=>u.2 b (by omega)
 have ed:gd.length=ab.length:=u.1;have ei:E.length≤40:=by rw[P.rl];exact m
 refine DN (ys:=[ke r]) (n0:=h.length+1) (by omega) ba (mH _ _ _ _) (by simp;omega) λak ac ds le bn bo _=>?_
 have bu:∀{i z:Nat} {rw:List (List D)} {t:D} {N:Nat},aT gd N i z rw t→i≠U→aT ac N i z rw t:=λp au=>p.aO λb f l=>bo b (p.lt l).2 λm=>by
  have c:=j8 p l;rw[j8 ba m]at c;injection c with c;injection c with c;exact au c.symm
 have c6:IntKind.wrap .i64 (n - 1)=n - 1:=cE (by omega) (by omega);simp only[bs,gP,c6];have dz:=dy.aO (g':=ac) λb E _ f c=>bo b f λm=>by
  rw[j8 ba m]at c;injection c with c;injection c with c;exact absurd c (by decide)
 have c9:jl ac (h.length+1) (mz (h4 a) e (d - a.e.a2)) (gC a.r a.e.a0 e (a.e.a2+(d - a.e.a2)) (a.e.a3+(d - a.e.a2)) q a.e.a5 a.e.a6 a.e.s7 a.e.s8 a.e.fd):=
  ⟨q,a.e.fd,rfl,(bu du (by decide)).from (by omega),a.e.jv,by simp only[mz,h4,gw];omega,by show a.e.fs.length≤1000;omega⟩
 refine .some (k ac _ (mz (h4 a) e (d - a.e.a2)) _ r aj ak _ _ _ _ _ _ _ _ _ ⟨b8.app le λb f=>bn b (by omega),by rw[bn _ (by omega),u.2 _ (by omega)];exact cs,by simpa using P.e3,λi ad=>?_,dz.snoc c9,bu d0 (by decide),by rw[iL];exact ds,λz B de bi=>?_,by simp[-ES,P.rl]⟩)
 ·rcases sN ad with ad|rfl
  ·have:=P.eb i ad;simp only[e6,eS,fD];omega
  ·simp only[e6,eS,fD];omega
 ·rcases fk.1 B with B|B
  ·exact P.ok z B de bi
  ·simp only[hH]at B;subst B;exact Cn l I (by omega) (by omega) (by omega) bi
theorem CR(n0:Nat)(h:Y)(n:Nat)(r:Int):∀d∈ke r,aW n0 h n d=d:=by
 intro d a;simp only[ke,hH]at a;subst a;exact zQ _ _ _ _ _
theorem B4{h:Y}{o:Nat}(F:CM h o)(m:Nat)(b9:m≤40):∃(a:List It) (b:List Int) (p q:D) (h':Y),R jZ [.ptr o 0 0,.int .i64 m] h=some (.bR [p,q],h')∧aY 11 aJ a p∧aY 1 ke b q∧(∀i∈a,nj i)∧a.length≤m∧b.length=a.length∧CM h' o∧bN o h h':=by
 suffices Wp (R jZ [.ptr o 0 0,.int .i64 m] h) (λK=>∃(a:List It) (b:List Int) (p q:D),K.1 = .bR [p,q]∧aY 11 aJ a p∧aY 1 ke b q∧(∀i∈a,nj i)∧a.length≤m∧b.length=a.length∧CM K.2 o∧bN o h K.2) by
  obtain⟨⟨e,h'⟩,al,a,b,p,q,rfl,bh⟩:=this;exact⟨a,b,p,q,h',al,bh⟩
 have ca:=F.lt;have G:∀v:Int,0≤v→v<4→IntKind.wrap .i64 (10*v)=10*v:=λv ak al=>cE (by omega) (by omega)
 rw[yF];simp only[rZ,bs,cQ];obtain⟨y,b5,bd,P,av,a4,a7⟩:=fK F 4 (by omega) (by omega);simp only[bd,bs,jV,G y a4 a7];obtain⟨z,b6,be,Q,aw,a5,a8⟩:=fK P 4 (by omega) (by omega);simp only[be,bs,jV,G z a5 a8];obtain⟨A,u,ai,bb,ax,a6,a9⟩:=fK Q 4 (by omega) (by omega);have bi:dE tab fj [0,1,2] [.int .i64 (10*y),.int .i64 (10*z),.int .i64 (10*A)]=some (.agg (gS [10*y,10*z,10*A])):=id rfl;simp only[ai,bs,jV,G A a6 a9,bi,cQ];have I:u.length=h.length:=by have:=av.1;have:=aw.1;have:=ax.1;omega
 have a1:=(((Sm.refl F).next P av).next Q aw).next bb ax;have n0:(aF u fj 3 [[.int .i64 0,.int .i64 0,.int .i64 0]])[h.length]?=some (.row fj 3 [gS [0,0,0]]):=by rw[← I];exact hP _ _ _ _
 have bo:∀c,c<h.length→(aF u fj 3 [[.int .i64 0,.int .i64 0,.int .i64 0]])[c]?=u[c]?:=λc H=>gQ _ _ _ _ (by omega)
 have cc:(aF u fj 3 [[.int .i64 0,.int .i64 0,.int .i64 0]]).length=h.length+1:=by rw[← I];exact iF _ _ _ _
 rw[I];generalize aF u fj 3 [[.int .i64 0,.int .i64 0,.int .i64 0]]=bf at *;have a2:=a1.app (g':=bf) (by omega) λc H=>bo c H
 refine DU (kk:=0) (off:=0) (row:=gS [0,0,0]) (v :=.agg (gS [10*y,10*z,10*A])) n0 (by rfl) (by rfl) (by exact aX _) (by rfl) λbg L ay=>?_
 have L:bg[h.length]?=some (.row fj 3 [gS [10*y,10*z,10*A]]):=L;have N:=a2.app (ig ay.1.symm) λc H=>ay.2 c (by omega)
 have bl:IntKind.wrap .i64 ((m:Int)+1)=(m:Int)+1:=cE (by omega) (by omega);simp only[bs,fH,bl];obtain⟨n,b7,aj,bc,az,bu,bv⟩:=fK N.cd ((m:Int)+1) (by omega) (by omega);have a3:=N.next bc az;simp only[bs,aj];obtain⟨l,rfl⟩:∃l:Nat,n=l:=⟨n.toNat,by omega⟩
 have b8:l≤m:=by omega
 refine Wp.loop (λj E r=>∃e g aa ab ac ad ae af ag T X,∃t k x b,E=[e,g,.int .i64 (j:Nat),aa,ab,ac,ad,ae,af,ag,T,X]∧j+k.length=l∧QP h r o t k x b e g)
  (λc=>c.1 = .ext 0∧∃e g t k x b,W 0 c.2.1=e∧W 1 c.2.1=g∧k.length=l∧QP h c.2.2 o t k x b e g) l ⟨.J,.J,_,_,_,_,_,_,_,_,_,[10*y,10*z,10*A],[],[],[],rfl,by simp,⟨a3,by rw[az.2 _ (by omega)];exact L,rfl,λah am=>?_,.nil,.J _ _ _ _,.J _ _ _ _,λbt bn=>by simp at bn,rfl⟩⟩ ?_ ?_
 ·simp only[e7,sP,or_false]at am;simp only[fD];rcases am with rfl|rfl|rfl<;>omega
 ·rintro j E r ⟨e,g,aa,ab,ac,ad,ae,af,ag,T,X,t,k,x,b,rfl,cb,f⟩;by_cases ak:j=0
  ·subst ak;simp only[m1,dA,fL,bs,cQ,iR,show decide (((0:Nat):Int)>0)=false by decide,cW,dT,cV];exact .some (.inr ⟨by simp,rfl,e,g,t,k,x,b,rfl,rfl,by omega,f⟩)
  ·refine CF f (by omega) (n:=(j:Int)) (by omega) (by omega) rfl _ _ _ _ _ _ _ _ _ λg' b3 bt cf ce cg ch ai bx bz aj b0 b1 b2 nD bw a0=>?_
   have bm:(j:Int) - 1=((j - 1:Nat):Int):=by omega
   rw[bm];exact .inl ⟨rfl,j - 1,by omega,_,_,_,_,_,_,_,_,_,_,_,_,_,_,_,rfl,by simp only[e6,eS,fD];omega,a0⟩
 ·rintro⟨b4,E,r⟩ ⟨rfl,e,g,t,k,x,b,ap,ar,aq,f⟩;simp only at ap ar f;simp only[gh,eB,bs,dA,fL,ap,ar,Cj];obtain⟨a,au,M⟩:=f.q.V (m:=h.length) (by omega);have an:aY 11 aJ a (aW h.length r 3 e):=by
   rcases CA (m:=h.length) (n:=2) f.x (by omega)with⟨bq,br⟩|w
   ·rw[br];have:a=[]:=by rw[bq]at M;simpa using M.symm
    rw[this];exact .J _ _
   ·rw[w,M];exact .mk _ _ _ _
  have ao:=mC (n0:=h.length) (n:=2) f.y (by omega) (λC _=>CR _ r 2 C);have bk:a.length=l:=by rw[← aq,← au];simp[-ES]
  obtain⟨h',ah,ba,bp⟩:=f.s.scope (d :=.bR [e,g]) (d' :=.bR [aW h.length r 3 e,aW h.length r 3 g]) (by rfl) (.bR _ λd B=>by
   simp at B;rcases B with rfl|rfl
   ·exact jE an λC _=>uL _ C
   ·exact jE ao λC _ d B=>by
      simp only[ke,hH]at B;subst B;exact .int _ _)
  rw[ah];refine .some ⟨a,b,_,_,rfl,an,ao,λi bj=>f.ok (h4 i) ?_ i rfl,by omega,by rw[f.rl,aq,bk],ba,bp⟩;rw[← au];exact eE.2 ⟨i,bj,rfl⟩
theorem uD{d:Type}{l:List d}{a b:Nat}{x:d}(h:x∈(l.take b).drop a):∃j,a≤j∧j<b∧l[j]?=some x:=by
 obtain⟨e,c⟩:=List.mem_iff_getElem?.1 h;rw[hC,dX]at c;split at c
 ·exact⟨a+e,by omega,by assumption,c⟩
 ·cases c
structure Kd where
 e:Ev
 v:aR
 ix:Int
def kc(x y:Kd):Int:=g2 [xY x.v y.v,gO x.e.a5 y.e.a5,gO x.ix y.ix]
theorem DK{n:Int}(h:(decide (IntKind.u8.min≤n)&&decide (n≤IntKind.u8.max))=true):0≤n∧n<256:=by
 have a:IntKind.u8.min=0:=rfl;have b:IntKind.u8.max=255:=rfl;rw[a,b]at h;simp at h;omega
def cX(k:Nat):List D:=[.int .i64 (k:Nat)]
structure cR (g:Y) (o r:Nat) (rks:List Int) (pl:List Nat) (dp:D):Prop where
 ob:g[o]?=some (.row cJ 2 [[dp,.aC 1 r 0 rks.length]])
 rr:r≠o
 rk:∃ex,g[r]?=some (.row U 1 (rks.map bZ++ex))
 pp:(dp = .J∧pl=[])∨∃op ex,op≠o∧op≠r∧dp = .aC 1 op 0 pl.length∧g[op]?=some (.row U 1 (pl.map cX++ex))
 pb:∀k∈pl,k<rks.length
def aU(rks:List Int)(k:Nat):Int:=rks[k]?.getD 0
theorem kQ{g:Y}{o:Nat}{a b:D}(h:g[o]?=some (.row cJ 2 [[a,b]])):aA tab g aL (.ptr o 0 (0+0))=some a∧aA tab g aL (.ptr o 0 (0+1))=some b:=by
 constructor
 ·rw[qL,eG h];rfl
 ·rw[qL,eG h];rfl
theorem j1(o:Nat):aD tab cJ 0 (.ptr o 0 0)=some (.ptr o 0 (0+0))∧aD tab cJ 1 (.ptr o 0 0)=some (.ptr o 0 (0+1)):=⟨id rfl,id rfl⟩
theorem q9{g:Y}{o r:Nat}{rks:List Int}{a:List Nat}{c:D}(b:cR g o r rks a c):R l4 [.ptr o 0 0] g=some (.int .i64 (a.length:Nat),g):=by
 have d:bT tab aL c=some (.int .i64 (a.length:Nat)):=by
  rcases b.pp with⟨rfl,rfl⟩|⟨f,e,_,_,rfl,_⟩
  ·rfl
  ·exact uW _ _ _ _
 rw[tU];simp only[oY,k4,(j1 o).1,(kQ b.ob).1,d,bs,dO]
theorem lM{l:List Nat}{i:Nat}(hi:i<l.length):l[i]?=some (aB l i):=by
 have:=bX hi;unfold aB;rw[this];rfl
theorem vW{l:List Int}{i:Nat}(hi:i<l.length):l[i]?=some (aU l i):=by
 have:=bX hi;unfold aU;rw[this];rfl
theorem xX(rks:List Int)(a b:Nat):decide (g2 [gO (aU rks b) (aU rks a),gO (a:Int) (b:Int)]<0)=decide (bM (aU rks) a b):=by
 unfold bM gO;rcases Int.lt_trichotomy (aU rks b) (aU rks a)with h|h|h
 ·have c:¬aU rks a<aU rks b:=by omega
  simp[-ES,g2,h,c]
 ·have c:¬aU rks a<aU rks b:=by omega
  have d:¬aU rks b<aU rks a:=by omega
  rcases hI a b with k|k|k
  ·simp[-ES,g2,h,k]
  ·subst k;simp[-ES,g2,h]
  ·have e:¬a<b:=by omega
   simp[-ES,g2,h,k,e]
 ·have c:¬aU rks b<aU rks a:=by omega
  have d:¬aU rks a=aU rks b:=by omega
  simp[-ES,g2,h,c,d]
theorem mI{g:Y}{o r:Nat}{rks:List Int}{a:List Nat}{v:D}(e:cR g o r rks a v)(E:rks.length≤1000000000){i j:Nat}(hi:i<a.length)(p:j<a.length):R p2 [.ptr o 0 0,.int .i64 (i:Nat),.int .i64 (j:Nat)] g=some (.bool (decide (bM (aU rks) (aB a i) (aB a j))),g):=by
 rcases e.pp with⟨rfl,rfl⟩|⟨h,A,B,C,rfl,x⟩
 ·simp at hi
 obtain⟨er,y⟩:=e.rk;have m:=lM hi;have n:=lM p;have k:=e.pb _ (dB m);have l:=e.pb _ (dB n);have q:∀b:Nat,b<a.length→bE tab aL (.aC 1 h 0 a.length) (.int .i64 (b:Int))=some (.ptr h b 0):=λb d=>by rw[jw,bB (by omega),fP,dP]
 have s:∀b:Nat,b<rks.length→bE tab aL (.aC 1 r 0 rks.length) (.int .i64 (b:Int))=some (.ptr r b 0):=λb d=>by rw[jw,bB (by omega),fP,dP]
 have t:∀(b c:Nat),a[b]?=some c→aA tab g U (.ptr h b 0)=some (.int .i64 (c:Nat)):=λb c d=>by
  have f:=(aP.1 d).1;rw[gW,eG x,cU (by simpa using f),dK,d];rfl
 have u:∀(b:Nat) (c:Int),rks[b]?=some c→aA tab g U (.ptr r b 0)=some (.int .i64 c):=λb c d=>by
  have f:=(aP.1 d).1;rw[gW,eG y,cU (by simpa using f),dK,d];rfl
 have z:bA tab aL 2 [0,1] [.int .i64 (gO (aU rks (aB a j)) (aU rks (aB a i))),.int .i64 (gO (aB a i:Int) (aB a j:Int))]=some (.sl 1 true ([gO (aU rks (aB a j)) (aU rks (aB a i)),gO (aB a i:Int) (aB a j:Int)].map bZ)):=id rfl;have w:=C4 [gO (aU rks (aB a j)) (aU rks (aB a i)),gO (aB a i:Int) (aB a j:Int)] _ g (aY.mk 1 bZ _ true) (by simp);rw[yM];simp only[r7,k4,(j1 o).1,(j1 o).2,(kQ e.ob).1,(kQ e.ob).2,q i hi,q j p,t _ _ m,t _ _ n,s _ k,s _ l,u _ _ (vW k),u _ _ (vW l),C5,z,w,hj,bs,dO,xX]
def Fr(b:D)(g g':Y):Prop:=g'.length=g.length∧∀a,(∀c,b ≠ .aC 1 a 0 c)→g'[a]?=g[a]?
theorem Fr.refl(a:D)(g:Y):Fr a g g:=⟨rfl,λ_ _=>rfl⟩
theorem Fr.trans{a:D}{g g' b:Y}(h:Fr a g g')(k:Fr a g' b):Fr a g b:=⟨k.1.trans h.1,λd c=>(k.2 d c).trans (h.2 d c)⟩
theorem vM(l:List Nat)(a:List (List D)){i:Nat}(hi:i<l.length)(x:Nat):(l.map cX++a).set i (cX x)=(l.set i x).map cX++a:=by
 rw[List.set_append_left _ _ (by simpa using hi),← List.map_set]
theorem mJ{g:Y}{o r:Nat}{rks:List Int}{a:List Nat}{h:D}(e:cR g o r rks a h){i j:Nat}(hi:i<a.length)(f:j<a.length):∃g',R l5 [.ptr o 0 0,.int .i64 (i:Nat),.int .i64 (j:Nat)] g=some (aK [],g')∧cR g' o r rks (gz a i j) h∧Fr h g g':=by
 suffices Wp (R l5 [.ptr o 0 0,.int .i64 (i:Nat),.int .i64 (j:Nat)] g) (λw=>w.1=aK []∧cR w.2 o r rks (gz a i j) h∧Fr h g w.2) by
  obtain⟨⟨T,g'⟩,p,rfl,q⟩:=this;exact⟨g',p,q⟩
 rcases e.pp with⟨rfl,rfl⟩|⟨c,k,p,q,rfl,B⟩
 ·simp at hi
 have A:=lM hi;have H:=lM f;have C:∀b:Nat,b<a.length→bE tab aL (.aC 1 c 0 a.length) (.int .i64 (b:Int))=some (.ptr c b 0):=λb m=>by rw[jw,bB (by omega),fP,dP]
 have E:∀(b s:Nat),a[b]?=some s→aA tab g U (.ptr c b 0)=some (.int .i64 (s:Nat)):=λb s m=>by
  have I:=(aP.1 m).1;rw[gW,eG B,cU (by simpa using I),dK,m];rfl
 rw[yP];simp only[sa,k4,(j1 o).1,(kQ e.ob).1,C i hi,C j f,E _ _ A,E _ _ H,bs,cQ];have M:(a.map cX++k)[i]?=some (cX (aB a i)):=by rw[cU (by simpa using hi),dK,A];rfl
 refine iH (off:=0) (row:=cX (aB a i)) (v :=.int .i64 (aB a j:Nat)) B M (by rfl) (by simp[-ES,cX]) (by rfl) λG x P=>?_
 have x:G[c]?=some (.row U 1 ((a.set i (aB a j)).map cX++k)):=by
  rw[x,show cH (cX (aB a i)) 0 (bD (.int .i64 (aB a j:Nat)))=cX (aB a j)from rfl,vM _ _ hi]
 try simp only[bs]
 obtain⟨n,L⟩:∃n,(a.set i (aB a j))[j]?=some n:=⟨_,bX (by simpa using f)⟩
 have N:((a.set i (aB a j)).map cX++k)[j]?=some (cX n):=by rw[cU (by simpa using f),dK,L];rfl
 refine iH (off:=0) (row:=cX n) (v :=.int .i64 (aB a i:Nat)) x N (by rfl) (by simp[-ES,cX]) (by rfl) λz y Q=>?_
 have y:z[c]?=some (.row U 1 ((gz a i j).map cX++k)):=by
  rw[y,show cH (cX n) 0 (bD (.int .i64 (aB a i:Nat)))=cX (aB a i)from rfl,vM _ _ (by simpa using f)];rfl
 try simp only[bs]
 have F:=P.trans Q;have t:∀d,d≠c→z[d]?=g[d]?:=λd u=>F.2 d u
 refine .some ⟨rfl,⟨by rw[t _ (λl=>p l.symm)];exact e.ob,e.rr,?_,.inr ⟨c,k,p,q,by rw[nm],y⟩,λb m=>e.pb b ((np hi f).mem_iff.1 m)⟩,F.1,λd u=>t d λl=>u a.length (by rw[l])⟩;obtain⟨er,K⟩:=e.rk;exact⟨er,by rw[t _ (λl=>q l.symm)];exact K⟩
theorem CZ{g:Y}{o r:Nat}{rks:List Int}{f l:List Nat}{c:D}(H:rks.length≤1000000000)(N:f.length≤1000000000){j:Nat}(B:cR g o r rks l c)(U:kv (bM (aU rks)) f l j):
  ∃g' a,R nO [.iface gE (.ptr o 0 0),.int .i64 (j:Nat)] g=some (aK [],g')∧cR g' o r rks a c∧Fr c g g'∧a.Perm f∧eT (bM (aU rks)) (aB a) a.length:=by
 suffices Wp (R nO [.iface gE (.ptr o 0 0),.int .i64 (j:Nat)] g) (λq=>q.1=aK []∧∃a,cR q.2 o r rks a c∧Fr c g q.2∧a.Perm f∧eT (bM (aU rks)) (aB a) a.length) by
  obtain⟨⟨Q,g'⟩,m,rfl,a,n⟩:=this;exact⟨g',a,m,n⟩
 rw[yK];simp only[r5,bs,cQ];refine Wp.loop (λz k g'=>∃b:Nat,W 0 k = .int .i64 (b:Nat)∧z=b∧∃a,cR g' o r rks a c∧Fr c g g'∧kv (bM (aU rks)) f a b)
  (λs=>s.1 = .ext 0∧∃a,cR s.2.2 o r rks a c∧Fr c g s.2.2∧a.Perm f∧eT (bM (aU rks)) (aB a) a.length) j ⟨j,rfl,rfl,l,B,Fr.refl _ _,U⟩ ?_ ?_
 ·rintro z k g' ⟨b,x,M,a,d,e,h⟩;have y:b<a.length:=h.u.qQ;have P:=h.p.length_eq;by_cases G:b=0
  ·subst G;have t:IntKind.wrap .i64 (((0:Nat):Int) - 1) = -1:=by rw[cE (by omega) (by omega)];omega
   have v:IntKind.wrap .i64 ((-1:Int).tdiv 2)=0:=by decide
   simp only[oZ,x,bs,cQ,gP,t,tG,show ¬((2:Int)=0) by decide,cV,v,nx,show decide ((0:Int)=((0:Nat):Int))=true by decide,iU,jt,Bool.true_eq_false,l8,uB,hQ,bL,cW];exact .some (.inr ⟨by simp,rfl,a,d,e,sZ h (.inl rfl)⟩)
  ·have t:IntKind.wrap .i64 ((b:Int) - 1)=((b - 1:Nat):Int):=by rw[cE (by omega) (by omega)];omega
   have v:IntKind.wrap .i64 (((b - 1:Nat):Int).tdiv 2)=(((b - 1) / 2:Nat):Int):=by
    have:((b - 1:Nat):Int).tdiv 2=(((b - 1) / 2:Nat):Int):=by rw[Int.tdiv_eq_ediv_of_nonneg (by omega)];omega
    rw[this,cE (by omega) (by omega)]
   have I:decide ((((b - 1) / 2:Nat):Int)=(b:Int))=false:=iy (by omega);have w:(b - 1) / 2<a.length:=by omega
   have F:=mI d H y w;simp only[oZ,x,bs,cQ,gP,t,tG,show ¬((2:Int)=0) by decide,cV,v,nx,I,iU,jt,bL,mc,F,nA,hQ,dT,cW];by_cases i:bM (aU rks) (aB a b) (aB a ((b - 1) / 2))
   ·obtain⟨L,E,C,A⟩:=mJ d w y;have p:decide (bM (aU rks) (aB a b) (aB a ((b - 1) / 2)))=true:=hR i;simp only[p,jJ,dT,cV,me,E,bs];exact .some (.inl ⟨rfl,(b - 1) / 2,by omega,_,rfl,rfl,_,C,e.trans A,xh (fZ _) h (by omega) i⟩)
   ·have p:decide (bM (aU rks) (aB a b) (aB a ((b - 1) / 2)))=false:=iy i;rw[p];exact .some (.inr ⟨by simp,rfl,a,d,e,sZ h (.inr i)⟩)
 ·rintro⟨K,k,g'⟩ ⟨r1,a,d,e,m,n⟩;simp only at r1 d e;subst r1;simp only[gh,y7,bs];exact .some ⟨rfl,a,d,e,m,n⟩
theorem C0 {g:Y} {o r:Nat} {rks:List Int} {f l:List Nat} {p:D} (M:rks.length≤1000000000) (av:f.length≤1000000000) {N:Nat} (ah:cR g o r rks l p) (ak:eT (bM (aU rks)) (aB f) f.length) (U:ji (bM (aU rks)) f l N 0) :
  ∃g' a v,R nP [.iface gE (.ptr o 0 0),.int .i64 0,.int .i64 (N:Nat)] g=some (v,g')∧cR g' o r rks a p∧Fr p g g'∧a.length=N+1∧aB a N=aB f 0∧f.Perm (aB f 0::a.take N)∧eT (bM (aU rks)) (aB (a.take N)) (a.take N).length∧∀y∈f,¬bM (aU rks) y (aB f 0):=by
 suffices Wp (R nP [.iface gE (.ptr o 0 0),.int .i64 0,.int .i64 (N:Nat)] g) (λag=>∃a i,cR ag.2 o r rks a p∧Fr p g ag.2∧ji (bM (aU rks)) f a N i∧∀c,0<c→c<N→(c - 1) / 2=i→¬bM (aU rks) (aB a c) (aB a i)) by
  obtain⟨⟨ar,g'⟩,L,a,i,z,al,aa,am⟩:=this;obtain⟨an,ao,ap⟩:=w2 (fZ _) ak aa am;exact⟨g',a,ar,L,z,al,aa.n,aa.x,an,ao,ap⟩
 rw[yL];simp only[r6,bs,cQ];refine Wp.loop (λc X g'=>∃b:Nat,W 0 X = .int .i64 (b:Nat)∧c=N - b∧b≤N∧∃a,cR g' o r rks a p∧Fr p g g'∧ji (bM (aU rks)) f a N b)
  (λP=>P.1 = .ext 0∧(∃af:Int,W 0 P.2.1 = .int .i64 af)∧∃a i,cR P.2.2 o r rks a p∧Fr p g P.2.2∧ji (bM (aU rks)) f a N i∧∀c,0<c→c<N→(c - 1) / 2=i→¬bM (aU rks) (aB a c) (aB a i)) (N - 0) ⟨0,rfl,rfl,gK _,l,ah,Fr.refl _ _,U⟩ ?_ ?_
 ·rintro c X g' ⟨b,ae,w,ax,a,d,m,n⟩;have ay:=n.p.length_eq;have aw:=n.n;by_cases L:2*b+1<N
  ·have A:b<a.length:=by omega
   have ab:IntKind.wrap .i64 (2*(b:Int))=((2*b:Nat):Int):=by rw[cE (by omega) (by omega)];omega
   have ac:IntKind.wrap .i64 (((2*b:Nat):Int)+1)=((2*b+1:Nat):Int):=by rw[cE (by omega) (by omega)];omega
   have aq:IntKind.wrap .i64 (((2*b+1:Nat):Int)+1)=((2*b+2:Nat):Int):=by rw[cE (by omega) (by omega)];omega
   have Q:decide ((N:Int)≤((2*b+1:Nat):Int))=false:=iy (by omega);have ai:decide (((2*b+1:Nat):Int)<0)=false:=iy (by omega);simp only[o0,ae,bs,cQ,jV,ab,fH,ac,lO,Q,iU,bL,hj,ai,hQ,dT,cV,cW,aq];by_cases z:2*b+2<N
   ·have T:decide (((2*b+2:Nat):Int)<(N:Int))=true:=hR (by omega);have aj:=mI d M (i:=2*b+2) (j:=2*b+1) (by omega) (by omega);simp only[T,bL,jt,mc,aj,bs,hQ];by_cases x:bM (aU rks) (aB a (2*b+2)) (aB a (2*b+1))
    ·rw [hR x];simp only[bL,cW,bs,eB,dA];obtain⟨j,s⟩:∃j:Nat,j=2*b+2:=⟨_,rfl⟩
     have K:j<N:=by omega
     have t:j<a.length:=by omega
     have u:=po (fZ (aU rks)) (l:=a) (N:=N) (i:=b) j (.inl ⟨z,x,s⟩);have H:=mI d M t A;have I:(((2*b+2:Nat)):Int)=((j:Nat):Int):=by rw[s]
     simp only[I,mc,H,nA,cW,bs,eB,dA];by_cases e:bM (aU rks) (aB a j) (aB a b)
     ·obtain⟨ad,G,F,E⟩:=mJ d A t;have k:decide (bM (aU rks) (aB a j) (aB a b))=true:=hR e;simp only[k,jJ,dT,cV,me,G,bs];exact .some (.inl ⟨rfl,N - j,by omega,j,rfl,rfl,by omega,_,F,m.trans E,pq (fZ _) n (by omega) K (by omega) u e⟩)
     ·have k:decide (bM (aU rks) (aB a j) (aB a b))=false:=iy e;rw[k];exact .some (.inr ⟨by simp,rfl,⟨_,rfl⟩,a,b,d,m,n,λc C w B q=>u c C w B (by
       rcases(fZ (aU rks)).kj (aB a j) (aB a b)with h|h|h
       ·exact absurd h e
       ·rw[h];exact q
       ·exact(fZ (aU rks)).tr _ _ _ q h)⟩)
    ·rw [iy x];simp only[dT,cV,cW,bs,eB,dA];obtain⟨j,s⟩:∃j:Nat,j=2*b+1:=⟨_,rfl⟩
     have K:j<N:=by omega
     have t:j<a.length:=by omega
     have u:=po (fZ (aU rks)) (l:=a) (N:=N) (i:=b) j (.inr ⟨.inr x,s⟩);have H:=mI d M t A;have I:(((2*b+1:Nat)):Int)=((j:Nat):Int):=by rw[s]
     simp only[I,mc,H,nA,cW,bs,eB,dA];by_cases e:bM (aU rks) (aB a j) (aB a b)
     ·obtain⟨ad,G,F,E⟩:=mJ d A t;have k:decide (bM (aU rks) (aB a j) (aB a b))=true:=hR e;simp only[k,jJ,dT,cV,me,G,bs];exact .some (.inl ⟨rfl,N - j,by omega,j,rfl,rfl,by omega,_,F,m.trans E,pq (fZ _) n (by omega) K (by omega) u e⟩)
     ·have k:decide (bM (aU rks) (aB a j) (aB a b))=false:=iy e;rw[k];exact .some (.inr ⟨by simp,rfl,⟨_,rfl⟩,a,b,d,m,n,λc C w B q=>u c C w B (by
       rcases(fZ (aU rks)).kj (aB a j) (aB a b)with h|h|h
       ·exact absurd h e
       ·rw[h];exact q
       ·exact(fZ (aU rks)).tr _ _ _ q h)⟩)
   ·have T:decide (((2*b+2:Nat):Int)<(N:Int))=false:=iy (by omega);simp only[T,dT,cV,jt,uB,l8,bs,hQ,cW,eB,dA];obtain⟨j,s⟩:∃j:Nat,j=2*b+1:=⟨_,rfl⟩
    have K:j<N:=by omega
    have t:j<a.length:=by omega
    have u:=po (fZ (aU rks)) (l:=a) (N:=N) (i:=b) j (.inr ⟨.inl z,s⟩);have H:=mI d M t A;have I:(((2*b+1:Nat)):Int)=((j:Nat):Int):=by rw[s]
    simp only[I,mc,H,nA,cW,bs,eB,dA];by_cases e:bM (aU rks) (aB a j) (aB a b)
    ·obtain⟨ad,G,F,E⟩:=mJ d A t;have k:decide (bM (aU rks) (aB a j) (aB a b))=true:=hR e;simp only[k,jJ,dT,cV,me,G,bs];exact .some (.inl ⟨rfl,N - j,by omega,j,rfl,rfl,by omega,_,F,m.trans E,pq (fZ _) n (by omega) K (by omega) u e⟩)
    ·have k:decide (bM (aU rks) (aB a j) (aB a b))=false:=iy e;rw[k];exact .some (.inr ⟨by simp,rfl,⟨_,rfl⟩,a,b,d,m,n,λc C w B q=>u c C w B (by
      rcases(fZ (aU rks)).kj (aB a j) (aB a b)with h|h|h
      ·exact absurd h e
      ·rw[h];exact q
      ·exact(fZ (aU rks)).tr _ _ _ q h)⟩)
  ·have ab:IntKind.wrap .i64 (2*(b:Int))=((2*b:Nat):Int):=by rw[cE (by omega) (by omega)];omega
   have ac:IntKind.wrap .i64 (((2*b:Nat):Int)+1)=((2*b+1:Nat):Int):=by rw[cE (by omega) (by omega)];omega
   have Q:decide ((N:Int)≤((2*b+1:Nat):Int))=true:=hR (by omega);simp only[o0,ae,bs,cQ,jV,ab,fH,ac,lO,Q,iU,Bool.true_eq_false,cV,l8,hQ,bL,cW];exact .some (.inr ⟨by simp,rfl,⟨_,rfl⟩,a,b,d,m,n,λc C w B=>by omega⟩)
 ·rintro⟨au,X,g'⟩ ⟨r1,⟨af,x⟩,a,i,d,m,L,z⟩;simp only at r1 d m x;subst r1;simp only[gh,eB,dA,x,iR,bs];exact .some ⟨a,i,d,m,L,z⟩
theorem C1{g:Y}{o r:Nat}{rks:List Int}{l:List Nat}{k:D}(c:cR g o r rks l k){N:Nat}(n:l.length=N+1)(H:l.length≤1000000000):
  ∃g' d,R nQ [.ptr o 0 0] g=some (aK [.iface U (.int .i64 (aB l N:Nat))],g')∧cR g' o r rks (l.take N) d∧g'.length=g.length∧(∀b,b≠o→g'[b]?=g[b]?)∧∃a,k = .aC 1 a 0 (N+1)∧d = .aC 1 a 0 N:=by
 suffices Wp (R nQ [.ptr o 0 0] g) (λf=>f.1=aK [.iface U (.int .i64 (aB l N:Nat))]∧∃d,cR f.2 o r rks (l.take N) d∧f.2.length=g.length∧(∀b,b≠o→f.2[b]?=g[b]?)∧∃a,k = .aC 1 a 0 (N+1)∧d = .aC 1 a 0 N) by
  obtain⟨⟨I,g'⟩,e,rfl,d,m⟩:=this;exact⟨g',d,e,m⟩
 rcases c.pp with⟨rfl,rfl⟩|⟨a,u,e,m,rfl,s⟩
 ·simp at n
 rw[n]at c ⊢;have q:l[N]?=some (aB l N):=lM (by omega);have G:IntKind.wrap .i64 (((N+1:Nat):Int) - 1)=((N:Nat):Int):=by rw[cE (by omega) (by omega)];omega
 have B:bE tab aL (.aC 1 a 0 (N+1)) (.int .i64 (N:Int))=some (.ptr a N 0):=by rw[jw,bB (by omega),fP,dP]
 have E:aA tab g U (.ptr a N 0)=some (.int .i64 (aB l N:Nat)):=by
  rw[gW,eG s,cU (by simp;omega),dK,q];rfl
 have F:ga tab aL false true false [.aC 1 a 0 (N+1),.int .i64 (N:Int)]=some (.aC 1 a 0 N):=Ck (T:=tab) (t:=aL) (i:=jc) (j:=dR) (id rfl) (id rfl) (id rfl) (id rfl) (by decide) (by omega);rw[yN];simp only[r8,k4,(j1 o).1,(kQ c.ob).1,uW,gP,G,B,E,F,bs,cQ];refine wI (kk:=0) (off:=0) (row:=[.aC 1 a 0 (N+1),.aC 1 r 0 rks.length]) (v :=.aC 1 a 0 N) c.ob (by rfl) (by rfl) (by simp) (by rfl) λw p h=>?_
 have p:w[o]?=some (.row cJ 2 [[.aC 1 a 0 N,.aC 1 r 0 rks.length]]):=p
 try simp only[bs]
 have x:l=l.take N++[aB l N]:=by
  have e:l.take (N+1)=l.take N++l[N]?.toList:=ie;rw[fE (by omega),q]at e;exact e
 obtain⟨er,A⟩:=c.rk;refine .some ⟨rfl,_,⟨p,c.rr,⟨er,by rw[h.2 _ c.rr];exact A⟩,.inr ⟨a,cX (aB l N)::u,e,m,by rw[lA,n];congr 1;omega,?_⟩,λC y=>c.pb C (fm y)⟩,h.1,λb z=>h.2 b z,a,rfl,rfl⟩;rw[h.2 _ e,s];congr 2
 conv=>lhs;rw[x]
 simp[-ES]
theorem CY{g:Y}{o r:Nat}{rks:List Int}{l:List Nat}{d:D}(I:rks.length≤1000000000){N:Nat}(s:l.length=N+1)(E:l.length≤1000000000)(k:cR g o r rks l d)(q:eT (bM (aU rks)) (aB l) l.length):
  ∃g' m b,R p1 [.iface gE (.ptr o 0 0)] g=some (.iface U (.int .i64 (aB l 0:Nat)),g')∧cR g' o r rks b m∧l.Perm (aB l 0::b)∧eT (bM (aU rks)) (aB b) b.length∧(∀y∈l,¬bM (aU rks) y (aB l 0))∧g'.length=g.length∧(∀a,a≠o→(∀n,d ≠ .aC 1 a 0 n)→g'[a]?=g[a]?)∧∃c,d = .aC 1 c 0 (N+1)∧m = .aC 1 c 0 N:=by
 have aa:IntKind.wrap .i64 (((N+1:Nat):Int) - 1)=((N:Nat):Int):=by rw[cE (by omega) (by omega)];omega
 have p:=q9 k;obtain⟨B,e,u,f⟩:=mJ k (i:=0) (j:=N) (by omega) (by omega);obtain⟨ac,L,ad,z,v,h,M,ab,Q,T,X⟩:=C0 I E u q (wZ s q);obtain⟨C,x,A,w,P,K,c,F,G⟩:=C1 v M (by omega);rw[s]at p;have e:R l5 [.ptr o 0 0,.int .i64 0,.int .i64 (N:Nat)] g=some (aK [],B):=e;refine⟨C,x,L.take N,?_,w,Q,T,X,by rw[P,h.1,f.1],λa H t=>by rw[K a H,h.2 a t,f.2 a t],c,F,G⟩;rw[yJ];simp only[r4,uI,p,gP,aa,me,e,z,AD,A,bs,dO,ab]
theorem xo{g:Y}{o r:Nat}{rks:List Int}{a:List Nat}{h:D}(j:cR g o r rks a h)(I:a.length≤1000000000)(k:Nat):
  ∃c g1 b,dM tab g aL aL h (.sl 1 true [cX k])=some (.aC 1 c 0 (a.length+1),g1)∧g1[c]?=some (.row U 1 ((a++[k]).map cX++b))∧c≠o∧c≠r∧g.length≤g1.length∧((∃n,h = .aC 1 c 0 n)∨g.length≤c)∧∀e,(∀n,h ≠ .aC 1 e 0 n)→e<g.length→g1[e]?=g[e]?:=by
 have t:tab aL=some jc:=id rfl;have u:jc.td = .sl U:=id rfl;have v:tab U=some dR:=id rfl;have w:dR.Z=1:=id rfl;have x:dR.ft=8:=id rfl;have s:iw g jc dR (.sl 1 true [cX k])=some [cX k]:=id rfl;have l:Nat.blt 0 1=true:=rfl;have K:=(aP.1 j.ob).1;obtain⟨er,E⟩:=j.rk;have L:=(aP.1 E).1;have f:bH (a.length+1) 8=true:=kT (by omega) (by omega);rcases j.pp with⟨rfl,rfl⟩|⟨c,b,A,B,rfl,q⟩
 ·refine⟨g.length,aF g U 1 [cX k],[],?_,by rw[hP];rfl,by omega,by omega,by simp[-ES,aF],.inr (aX _),λe _ i=>gQ _ _ _ _ i⟩;unfold dM;have f:bH 1 8=true:=f;simp only[t,u,v,w,x,s,l,eS,fD,dP,f,bL]
 ·have C:=(aP.1 q).1;cases b with
  | nil =>
   refine⟨g.length,aF (g.set c .dead) U 1 ((a++[k]).map cX),[],?_,?_,by omega,by omega,by simp[-ES,aF],.inr (aX _),λe p i=>?_⟩
   ·unfold dM;simp only[t,u,v,w,x,s,l,q,o6,gw,eS,fD,dP,f,aX,ik,bL,iL,hD,List.map_nil]
   ·have:=hP (g.set c .dead) U 1 ((a++[k]).map cX);rw[List.length_set]at this;rw[this,o6]
   ·rw[gQ _ _ _ _ (by rw[List.length_set];exact i),g7 (λm=>p a.length (by rw[m]))]
  | cons d b =>
   refine⟨c,g.set c (.row U 1 ((a++[k]).map cX++b)),b,?_,iK C,A,B,by simp,.inl ⟨_,rfl⟩,λe p i=>g7 (λm=>p a.length (by rw[m]))⟩;unfold dM;have F:¬a.length=(a.map cX++d::b).length:=by simp
   have G:a.length+1≤(a.map cX++d::b).length:=by simp
   have H:a.length≤(a.map cX++d::b).length:=by simp
   have y:(a.map cX++d::b).take a.length=a.map cX:=List.take_left' (by simp);have z:(a.map cX++d::b).drop (a.length+1)=b:=by
    have:a.map cX++d::b=(a.map cX++[d])++b:=by simp
    rw[this];exact List.drop_left' (by simp)
   simp only[t,u,v,w,x,s,l,q,eS,fD,dP,f,F,G,H,ik,bL,cV,y,z,iL,hD,List.map_nil]
theorem C2{g:Y}{o r:Nat}{rks:List Int}{h:List Nat}{f:D}(c:cR g o r rks h f)(I:h.length≤1000000000){k:Nat}(H:k<rks.length):
  ∃g' i,R nR [.ptr o 0 0,.iface U (.int .i64 (k:Nat))] g=some (aK [],g')∧cR g' o r rks (h++[k]) i∧g.length≤g'.length∧(∃b,i = .aC 1 b 0 (h.length+1)∧((∃n,f = .aC 1 b 0 n)∨g.length≤b))∧∀a,a≠o→(∀n,f ≠ .aC 1 a 0 n)→a<g.length→g'[a]?=g[a]?:=by
 suffices Wp (R nR [.ptr o 0 0,.iface U (.int .i64 (k:Nat))] g) (λm=>m.1=aK []∧∃i,cR m.2 o r rks (h++[k]) i∧g.length≤m.2.length∧(∃b,i = .aC 1 b 0 (h.length+1)∧((∃n,f = .aC 1 b 0 n)∨g.length≤b))∧∀a,a≠o→(∀n,f ≠ .aC 1 a 0 n)→a<g.length→m.2[a]?=g[a]?) by
  obtain⟨⟨w,g'⟩,B,rfl,i,C⟩:=this;exact⟨g',i,B,C⟩
 obtain⟨b,ab,z,y,aa,u,T,Q,x,q⟩:=xo c I k;have M:=(aP.1 c.ob).1;obtain⟨er,t⟩:=c.rk;have P:=(aP.1 t).1;have F:∀n,f ≠ .aC 1 o 0 n:=λn j=>by
  rcases c.pp with⟨d,_⟩|⟨X,_,d,_,e,_⟩
  ·rw[j]at d;cases d
  ·rw[j]at e;injection e with _ e;exact d e.symm
 have G:∀n,f ≠ .aC 1 r 0 n:=λn j=>by
  rcases c.pp with⟨d,_⟩|⟨X,_,_,d,e,_⟩
  ·rw[j]at d;cases d
  ·rw[j]at e;injection e with _ e;exact d e.symm
 have E:jo U (.iface U (.int .i64 (k:Nat)))=some (.int .i64 (k:Nat)):=by simp[-ES,jo]
 have lt:bA tab aL 1 [0] [.int .i64 (k:Nat)]=some (.sl 1 true [cX k]):=id rfl;rw[yO];simp only[r9,k4,(j1 o).1,(kQ c.ob).1,E,lt,y,bs,cQ];refine wI (kk:=0) (off:=0) (row:=[f,.aC 1 r 0 rks.length]) (v :=.aC 1 b 0 (h.length+1)) (by rw[q o F M];exact c.ob) (by rfl) (by rfl) (by simp) (by rfl) λA s p=>?_
 have s:A[o]?=some (.row cJ 2 [[.aC 1 b 0 (h.length+1),.aC 1 r 0 rks.length]]):=s
 try simp only[bs]
 refine .some ⟨rfl,_,⟨s,c.rr,⟨er,by rw[p.2 _ c.rr,q r G P];exact t⟩,.inr ⟨b,z,u,T,by simp,by rw[p.2 _ u];exact aa⟩,λw l=>?_⟩,by rw[p.1];exact Q,⟨b,rfl,x⟩,λa N L K=>by rw[p.2 a N];exact q a L K⟩;rcases fk.1 l with l|l
 ·exact c.pb w l
 ·rw[hH.1 l];exact H
theorem we{g:Y}{o r:Nat}{rks:List Int}{a:List Nat}{f:D}(H:rks.length≤1000000000)(T:a.length≤999999999){k:Nat}(C:k<rks.length)(v:cR g o r rks a f)(B:eT (bM (aU rks)) (aB a) a.length):
  ∃g' l e,R nN [.iface gE (.ptr o 0 0),.iface U (.int .i64 (k:Nat))] g=some (aK [],g')∧cR g' o r rks e l∧e.Perm (a++[k])∧eT (bM (aU rks)) (aB e) e.length∧g.length≤g'.length∧(∃c m,l = .aC 1 c 0 m∧((∃n,f = .aC 1 c 0 n)∨g.length≤c))∧∀b,b≠o→(∀n,f ≠ .aC 1 b 0 n)→b<g.length→g'[b]?=g[b]?:=by
 obtain⟨Q,x,y,j,L,⟨c,u,q⟩,I⟩:=C2 v (by omega) C;have p:=q9 j;have s:(a++[k]).length=a.length+1:=by simp
 have P:IntKind.wrap .i64 (((a.length+1:Nat):Int) - 1)=((a.length:Nat):Int):=by rw[cE (by omega) (by omega)];omega
 rw[s]at p;obtain⟨A,K,z,w,i,M,N⟩:=CZ H (by rw[s];omega) j (xg k B);refine⟨A,x,K,?_,w,M,N,by rw[i.1];exact L,⟨c,_,u,q⟩,λb G t E=>?_⟩
 ·rw[yI];simp only[r3,AE,uI,y,p,gP,P,z,bs]
 ·rw[i.2 b (λn d=>by
    rw[u]at d;injection d with _ d;subst d;rcases q with⟨m,F⟩|h
    ·exact t m F
    ·omega),I b G t E]
theorem DO(h:Y)(x y:D):dM tab h aL aL x y=oM U dR jc h x y:=id rfl
theorem DP(h:Y)(x y:D):dM tab h aL U x y=oM U dR dR h x y:=id rfl
theorem n9{n:Nat}(h:n≤2000000000):bH n dR.ft=true:=kT (show n*8≤140737488355328 by omega) (by omega)
theorem CX{rks:List Int}{d:D}(m:aY 1 bZ rks d)(h:Y)(o:rks.length≤900000000)(f:0<rks.length):R nM [d] h=some (.aC 1 h.length 0 rks.length,aF h U 1 (rks.map bZ)):=by
 rcases m with⟨rfl,rfl⟩|⟨a,rfl⟩
 ·simp at f
 rw[pV];have j:S tab .eql aL (.sl 1 a (rks.map bZ)) .J=some (.bool false):=id rfl;have k:dM tab h aL aL (.sl 1 true []) (.sl 1 a (rks.map bZ))=some (.aC 1 h.length 0 rks.length,aF h U 1 (rks.map bZ)):=by
  rw[DO];have l:iw h jc dR (.sl 1 a (rks.map bZ))=some (rks.map bZ):=by
   show(if 1=dR.Z then some (rks.map bZ)else none)=_;exact bB rfl
  unfold oM;rw[l];obtain⟨b,c,rfl⟩:∃b c,rks=b::c:=by
   cases rks with
   |nil=>simp at f
   |cons g i=>exact⟨g,i,rfl⟩
  have e:bH ((b::c).length) dR.ft=true:=n9 (by omega);have n:dR.Z=1:=id rfl;simp only[n,show Nat.blt 0 1=true from rfl,hD,eS,fD,dP,nb,gw]at e ⊢;simp only[e,ik,bL]
 simp only[m2,j,cW,tm,k,bs,dO,dT,cV]
theorem wq{x:Option Unit}(h:Wp x λ_=>True):x=some ():=by
 obtain⟨a,h,_⟩:=h;cases a;exact h
theorem qw{x:Option Unit}(h:x=some ()):Wp x λ_=>True:=⟨(),h,trivial⟩
theorem Cc{a:Mp}{b m:Nat}{c:Int→Option Int}(e:a b=some (.mp m c)){i:Int}(hi:cP i)(d:MK):iY a (.raw (.map (some b))) (.int .i64 i) true d=d (.bR [.int .i64 ((c i).getD 0),.bool (c i).isSome]) a:=by
 unfold iY;simp only[e,cZ,hi,bL]
theorem vh{a:Mp}{b m:Nat}{d:Int→Option Int}(e:a b=some (.mp m d)){i:Int}(hi:cP i)(c:MK):iY a (.raw (.map (some b))) (.int .i64 i) false c=c (.int .i64 ((d i).getD 0)) a:=by
 unfold iY;simp only[e,cZ,hi,bL]
end Go.Proofs.Ytinlnkhheafjaaa
