/- Part 3 of the texts that the theorem needs: an interpreter on data, proved sound; the functions on data; laws about them. -/
import Derived.Test.YtinlnkhheafjaaaGreatDoorM2
import Derived.Lib.Bytealg
import Derived.Laws.Externs
import Derived.Test.YtinlnkhheafjaaaGreatDoorM1
import Derived.ProofKit
import Derived.OpenShut
import Derived.Below
import Derived.Deep.Slices
import Derived.MakeChecks
import Derived.FnData
import Derived.ChangeArms
import Derived.Maps.RangeWalk
import Derived.Test.YtinlnkhheafjaaaGreatDoorChecked
import Derived.KernelRfl
set_option linter.unusedSimpArgs false
set_option linter.unusedVariables false
set_option linter.unnecessarySimpa false
set_option maxRecDepth 100000
namespace Go.Eng
abbrev mB:=@Classical.choose_spec
end Go.Eng
namespace Go.Pi
open Go.Eng
noncomputable def fR(X:Cx)(F:FuncId→Option gp):Nat→dP
 |0,_,_,_=>none
 | n+1,f,args,h=>match F f with
  |some fi=>ma X (fR X F n) (gU n) fi args h
  |none=>X.xt f args h
section
variable {P:Program} {X:Cx} {F:FuncId→Option gp}
theorem Sj(n:Nat):qX (gU n):=λ_ _ _ _ a=>⟨n,a⟩
theorem FF(c:dO P X.T)(i:P.follows .mixedOrders=true)(j:hQ P X X.xt)(b:∀f fi,F f=some fi→cG P f fi):∀n,hQ P X (fR X F n)
 |0=>λf args h d h' a=>by cases a
 | n+1=>λf args h d h' a=>by
  simp only[fR]at a;split at a
  ·rename_i fi e;exact λg vs hi k l =>.inl ⟨(b f fi e).enter _ _,P7 c i (FF c i j b n) (Sj n) (b f fi e) a hi k l⟩
  ·exact j f args h d h' a
def Le{b:Type}(x y:Option b):Prop:=∀a,x=some a→y=some a
theorem Le.refl{b:Type}(x:Option b):Le x x:=λ_ a=>a
theorem Le.trans{c:Type}{x y z:Option c}(h:Le x y)(k:Le y z):Le x z:=λa b=>k a (h a b)
theorem Le.bind{b j:Type}{x y:Option b}{f g:b→Option j}(h:Le x y)(k:∀a,Le (f a) (g a)):Le (x.bind f) (y.bind g):=λi e=>by
 obtain⟨a,c,d⟩:=iL.1 e;rw[h a c];exact k a i d
def kN(c d:dP):Prop:=∀a args b,Le (c a args b) (d a args b)
def u0(l e:ka):Prop:=∀(c d:List D→J→Option bN),(∀a b,Le (c a b) (d a b))→∀a b,Le (l c a b) (e d a b)
theorem Lr{c b:dP}(d:kN c b)(f:FuncId)(args:List D)(h:J):Le (kb c f args h) (kb b f args h):=λj a=>by
 unfold kb at a ⊢;split at a
 ·rename_i g i e;rw[d _ _ _ _ e];exact a
 ·cases a
theorem Ly{c b:dP}(a:kN c b)(d:Nat)(f:FuncId)(args:List D)(h:J):Le (calls d c f args h) (calls d b f args h):=by
 unfold calls;split
 ·exact a _ _ _
 ·exact Lr a _ _ _
 ·exact a _ _ _
theorem Lu{T:cT}{c a:dP}(b:kN c a)(m:String)(ds:List D)(h:J):Le (ie T c m ds h) (ie T a m ds h):=by
 unfold ie;split
 ·split
  ·exact b _ _ _
  ·exact Le.refl _
 ·exact Le.refl _
theorem FG{T:cT}{c a:dP}(b:kN c a)(d:Nat)(o:Op)(ds:List D)(h:J):Le (kY T c d o ds h) (kY T a d o ds h):=by
 unfold kY;simp only[zI];split
 ·split
  ·split
   ·exact Ly b _ _ _ _
   ·exact Le.refl _
  ·exact Lu b _ _ _
  ·exact Le.refl _
 ·exact Le.refl _
theorem Qk{g:D}{b:Bool}{h:J}{x y:Option (D × J)}(c:Le x y):Le (fA g b h x) (fA g b h y):=λd a=>by
 unfold fA at a ⊢;split at a
 ·split at a
  ·exact c d a
  ·exact a
 ·exact a
 ·cases a
theorem TS{c b:dP}(d:kN c b){fz a:List Nat}{l:List Oper}{o:Oper}{e:DE}{h:J}:Le (hP X c fz a l o e h) (hP X b fz a l o e h):=by
 unfold hP;split
 ·exact Le.refl _
 ·split
  ·split
   ·exact Le.refl _
   ·exact Le.refl _
   ·exact Le.refl _
   ·exact FG d _ _ _ _
   ·exact Le.refl _
  ·split
   ·exact Le.refl _
   ·split
    ·exact Le.refl _
    ·split
     ·exact Le.refl _
     ·exact Le.refl _
     ·exact Le.refl _
     ·exact Qk (FG d _ _ _ _)
     ·exact Le.refl _
theorem IP{R:Type}{f:Nat}{dst:Option Nat}{d:D}{e:DE}{h:J}{a b:DE→J→Option R}(c:∀e h,Le (a e h) (b e h)):Le (iQ f dst d e h a) (iQ f dst d e h b):=by
 unfold iQ;split
 ·exact c _ _
 ·split
  ·exact c _ _
  ·exact Le.refl _
theorem BW{R:Type}{c f:dP}(j:kN c f){g:Nat}{fz d:List Nat}{l:List Oper}{o:Oper}{e:DE}{h:J}{a b:DE→J→Option R}(i:∀e h,Le (a e h) (b e h)):Le (lj X c g fz d l o e h a) (lj X f g fz d l o e h b):=by
 rw[wQ,wQ];exact(TS j).bind λk=>IP i
theorem w7{R:Type}{c i:dP}(f:kN c i){j:Nat}{fz g:List Nat}{l:List Oper}:∀{k:List Oper} {e:DE} {h:J} {b d:DE→J→Option R},(∀e h,Le (b e h) (d e h))→Le (iv X c j fz g l k e h b) (iv X i j fz g l k e h d)
 |[],e,h,b,d,a=>a e h
 |[o],e,h,b,d,a=>BW f a
 | o::p::r,e,h,b,d,a=>by
  simp only[iv];split
  ·split
   ·exact(Le.refl _).bind λm=>IP λe h=>w7 f a
   ·exact Le.refl _
  ·exact BW f λe h=>w7 f a
theorem JB{R:Type}{c i:dP}(j:kN c i){k:Nat}{fz g:List Nat}{l:List Oper}:∀{m:List Oper} {e:DE} {h:J} {a:List J} {b d:DE→J→List J→Option R},(∀e h a,Le (b e h a) (d e h a))→Le (nA X c k fz g l m e h a b) (nA X i k fz g l m e h a d)
 |[],e,h,a,b,d,f=>f e h a
 |o::r,e,h,a,b,d,f=>BW j λe h=>JB j f
theorem FN{R:Type}{l:List Oper}{e:DE}{b:List J}{x y:Option R}(h:Le x y):∀{ps:List (Nat × Nat)},Le (l6 X l e b ps x) (l6 X l e b ps y)
 |[]=>h
 | (i, k)::r=>λz a=>by
  simp only[l6]at a ⊢;split at a
  ·unfold e7 at a ⊢;split at a
   ·rename_i c;rw[bE c];exact FN h z a
   ·cases a
  ·cases a
theorem CC{R:Type}{fz:List Nat}:∀{d:List Oper} {e:DE} {h:J} {a b:DE→J→Option R},(∀e h,Le (a e h) (b e h))→Le (kG X fz d e h a) (kG X fz d e h b)
 |[],e,h,a,b,c=>c e h
 | o::r,e,h,a,b,c=>by
  unfold kG;split
  ·split
   ·exact CC c
   ·exact Le.refl _
  ·exact CC c
theorem Mx{R:Type}{c f:dP}(g:kN c f){i:Nat}{fz d:List Nat}{m:Nat}{l:List Oper}{e:DE}{h:J}{a b:DE→J→Option R}(j:∀e h,Le (a e h) (b e h)):Le (mV X c i fz d m l e h a) (mV X f i fz d m l e h b):=by
 unfold mV;split
 ·exact Le.refl _
 ·exact JB g λe h k=>FN (CC λe h=>w7 g j)
theorem FY{R:Type}{d:D}{x x' y a:Option R}(b:Le x x')(c:Le y a):Le (S d x y) (S d x' a):=by
 unfold S;split
 ·exact b
 ·exact c
 ·exact Le.refl _
theorem Lp{c l:dP}(m:kN c l){n o:ka}(s:u0 n o){A:pD}:∀(k:Code) {e:DE} {h:J} {R:Type} {b d:Ex→DE→J→Option R},(∀x e h,Le (b x e h) (d x e h))→Le (cK X c n A k e h R b) (cK X l o A k e h R d):=by
 intro k
 induction k with
 |skip=>intro e h R b d a;exact a _ _ _
 |label u=>intro e h R b d a;exact a _ _ _
 |ret=>intro e h R b d a;exact a _ _ _
 |exit t=>intro e h R b d a;exact a _ _ _
 |goto u=>intro e h R b d a;exact Le.refl _
 |scope f g=>intro e h R b d a;exact Le.refl _
 |refuse F=>intro e h R b d a;exact Le.refl _
 |rangeFunc y D v f z B=>intro e h R b d a;exact Le.refl _
 | region id C r =>
  intro e h R b d a;simp only[cK];cases r with
  |false=>exact w7 m λe h=>a _ _ _
  |true=>exact Mx m λe h=>a _ _ _
 | seq q f i j =>
  intro e h R b d a;simp only[cK];refine i λx e h=>?_
  cases x with
  |aS=>exact j a
  |ext t=>exact a _ _ _
  |ret=>exact a _ _ _
 | cond E q f i j =>
  intro e h R b d a;simp only[cK];split
  ·exact Le.refl _
  ·split
   ·exact(FY (i λ_ _ _=>Le.refl _) (j λ_ _ _=>Le.refl _)).bind λp=>a _ _ _
   ·exact FY (i a) (j a)
 | block id f g =>
  intro e h R b d a;simp only[cK];split
  ·exact(g λ_ _ _=>Le.refl _).bind λp=>a _ _ _
  ·exact g λx e h=>a _ _ _
 | loop f g =>
  intro e h R b d a;simp only[cK];exact(s _ _ (λw h=>g λ_ _ _=>Le.refl _) _ _).bind λp=>a _ _ _
theorem tZ:∀{n m:Nat},n≤m→u0 (gU n) (gU m)
 |0,m,_=>λb c a ds h r e=>by cases e
 |n+1,0,h=>by omega
 | n+1,m+1,h=>λb c a ds d=>by
  simp only[gU];refine(a ds d).bind λr=>?_
  split
  ·exact tZ (by omega) b c a _ _
  ·exact Le.refl _
theorem GU{c a:dP}(e:kN c a){b d:ka}(f:u0 b d){fi:gp}{args:List D}{h:J}:Le (ma X c b fi args h) (ma X a d fi args h):=by
 unfold ma;split
 ·exact Lp e f _ λ_ _ _=>Le.refl _
 ·exact Le.refl _
theorem vq:∀{n m:Nat},n≤m→kN (fR X F n) (fR X F m)
 |0,m,_=>λf args h r a=>by cases a
 |n+1,0,h=>by omega
 | n+1,m+1,h=>λf args b=>by
  simp only[fR];split
  ·exact GU (vq (by omega)) (tZ (by omega))
  ·exact Le.refl _
open Classical in
noncomputable def run(X:Cx)(F:FuncId→Option gp):dP:=λa args b=>if c:∃d e,fR X F d a args b=some e then some (Classical.choose (mB c))else none
open Classical in
noncomputable def cA:ka:=λa b c=>if d:∃e f,gU e a b c=some f then some (Classical.choose (mB d))else none
theorem se{f:FuncId}{args:List D}{h:J}{r:D × J}:run X F f args h=some r↔∃n,fR X F n f args h=some r:=by
 unfold run;constructor
 ·intro b;split at b
  ·rename_i a;injection b with b;exact⟨_,by rw[mB (mB a),b]⟩
  ·cases b
 ·rintro⟨n,d⟩;have a:∃n r,fR X F n f args h=some r:=⟨n,r,d⟩
  rw[dif_pos a];have e:=mB (mB a);have g:=vq (Nat.le_max_left (Classical.choose a) n) f args h _ e;have c:=vq (Nat.le_max_right (Classical.choose a) n) f args h _ d;rw[g]at c;exact c
theorem pc{a:List D→J→Option bN}{ds:List D}{h:J}{r:bN}:cA a ds h=some r↔∃n,gU n a ds h=some r:=by
 unfold cA;constructor
 ·intro c;split at c
  ·rename_i b;injection c with c;exact⟨_,by rw[mB (mB b),c]⟩
  ·cases c
 ·rintro⟨n,e⟩;have b:∃n r,gU n a ds h=some r:=⟨n,r,e⟩
  rw[dif_pos b];have f:=mB (mB b);have g:=tZ (Nat.le_max_left (Classical.choose b) n) a a (λ_ _=>Le.refl _) ds h _ f;have d:=tZ (Nat.le_max_right (Classical.choose b) n) a a (λ_ _=>Le.refl _) ds h _ e;rw[g]at d;exact d
theorem IE{c:Type}{x y:Option c}(b:Le x y)(h2:Le y x):x=y:=by
 cases x with
 |some a=>exact(b a rfl).symm
 | none =>
  cases y with
  |none=>rfl
  |some a=>exact h2 a rfl
theorem jJ(g:List D→J→Option bN)(ds:List D)(h:J):cA g ds h=(g ds h).bind λr=>match r.1 with
  |.aS=>cA g r.2.1 r.2.2
  |x=>some (x,r.2.1,r.2.2):=by
 refine IE (λr i=>?_) (λr i=>?_)
 ·obtain⟨e,d⟩:=pc.1 i;cases e with
  |zero=>cases d
  | succ e =>
   simp only[gU]at d;obtain⟨j,f,a⟩:=iL.1 d;rw[f,iA];split at a
   ·rename_i b;rw[b];exact pc.2 ⟨e,a⟩
   ·rename_i b;cases c:j.1 with
    |aS=>exact absurd c b
    |ext k=>rw[c]at a;exact a
    |ret=>rw[c]at a;exact a
 ·obtain⟨j,f,a⟩:=iL.1 i;split at a
  ·rename_i b;obtain⟨e,d⟩:=pc.1 a;refine pc.2 ⟨e+1,?_⟩;simp only[gU,f,iA,b];exact d
  ·rename_i b;refine pc.2 ⟨1,?_⟩;simp only[gU,f,iA];cases c:j.1 with
   |aS=>exact absurd c b
   |ext k=>rw[c]at a;exact a
   |ret=>rw[c]at a;exact a
def dI{c:Type}(x:Option c)(xs:Nat→Option c):Prop:=∀b,x=some b→∃d,∀a,d≤a→xs a=some b
theorem dI.const{b:Type}(x:Option b):dI x λ_=>x:=λc a=>⟨0,λ_ _=>a⟩
theorem dI.bind{c d:Type}{x:Option c}{xs:Nat→Option c}{f:c→Option d}{fs:Nat→c→Option d}(h:dI x xs)(k:∀a,dI (f a) λn=>fs n a):dI (x.bind f) λn=>(xs n).bind (fs n):=λo l=>by
 obtain⟨a,e,g⟩:=iL.1 l;obtain⟨n,j⟩:=h a e;obtain⟨m,i⟩:=k a o g;exact⟨max n m,λb p=>by
  show(xs b).bind (fs b)=_;rw[j b (by omega),iA];exact i b (by omega)⟩
theorem w4(f:FuncId)(args:List D)(h:J):dI (run X F f args h) λn=>fR X F n f args h:=λd c=>by
 obtain⟨n,b⟩:=se.1 c;exact⟨n,λe a=>vq a f args h d b⟩
theorem Lt(f:FuncId)(args:List D)(h:J):dI (kb (run X F) f args h) λn=>kb (fR X F n) f args h:=λj a=>by
 unfold kb at a;split at a
 ·rename_i g i b;obtain⟨n,d⟩:=w4 _ _ _ _ b;exact⟨n,λe c=>by show kb _ _ _ _=_;unfold kb;have:=d e c;simp only at this;rw[this];exact a⟩
 ·cases a
theorem LA(a:Nat)(f:FuncId)(args:List D)(h:J):dI (calls a (run X F) f args h) λn=>calls a (fR X F n) f args h:=by
 unfold calls;split
 ·exact w4 _ _ _
 ·exact Lt _ _ _
 ·exact w4 _ _ _
theorem Lv{T:cT}(m:String)(ds:List D)(h:J):dI (ie T (run X F) m ds h) λn=>ie T (fR X F n) m ds h:=by
 unfold ie;split
 ·split
  ·exact w4 _ _ _
  ·exact dI.const _
 ·exact dI.const _
theorem FH{T:cT}(a:Nat)(o:Op)(ds:List D)(h:J):dI (kY T (run X F) a o ds h) λn=>kY T (fR X F n) a o ds h:=by
 unfold kY;simp only[zI];split
 ·split
  ·split
   ·exact LA _ _ _ _
   ·exact dI.const _
  ·exact Lv _ _ _
  ·exact dI.const _
 ·exact dI.const _
theorem Ql{g:D}{b:Bool}{h:J}{x:Option (D × J)}{xs:Nat→Option (D × J)}(a:dI x xs):dI (fA g b h x) λn=>fA g b h (xs n):=by
 unfold fA;split
 ·split
  ·exact a
  ·exact dI.const _
 ·exact dI.const _
 ·exact dI.const _
theorem TT{fz a:List Nat}{l:List Oper}{o:Oper}{e:DE}{h:J}:dI (hP X (run X F) fz a l o e h) λn=>hP X (fR X F n) fz a l o e h:=by
 unfold hP;split
 ·exact dI.const _
 ·split
  ·split
   ·exact dI.const _
   ·exact dI.const _
   ·exact dI.const _
   ·exact FH _ _ _ _
   ·exact dI.const _
  ·split
   ·exact dI.const _
   ·split
    ·exact dI.const _
    ·split
     ·exact dI.const _
     ·exact dI.const _
     ·exact dI.const _
     ·exact Ql (FH _ _ _ _)
     ·exact dI.const _
section
variable {R:Type}
theorem IQ{c:Nat}{dst:Option Nat}{d:D}{e:DE}{h:J}{a:DE→J→Option R}{Ks:Nat→DE→J→Option R}(b:∀e h,dI (a e h) λn=>Ks n e h):dI (iQ c dst d e h a) λn=>iQ c dst d e h (Ks n):=by
 unfold iQ;split
 ·exact b _ _
 ·split
  ·exact b _ _
  ·exact dI.const _
theorem BX{c:Nat}{fz b:List Nat}{l:List Oper}{o:Oper}{e:DE}{h:J}{a:DE→J→Option R}{Ks:Nat→DE→J→Option R}(d:∀e h,dI (a e h) λn=>Ks n e h):dI (lj X (run X F) c fz b l o e h a) λn=>lj X (fR X F n) c fz b l o e h (Ks n):=by
 simp only[wQ];exact TT.bind λf=>IQ d
theorem w9{d:Nat}{fz c:List Nat}{l:List Oper}:∀{i:List Oper} {e:DE} {h:J} {b:DE→J→Option R} {Ks:Nat→DE→J→Option R},(∀e h,dI (b e h) λn=>Ks n e h)→dI (iv X (run X F) d fz c l i e h b) λn=>iv X (fR X F n) d fz c l i e h (Ks n)
 |[],e,h,b,Ks,a=>a e h
 |[o],e,h,b,Ks,a=>BX a
 | o::p::r,e,h,b,Ks,a=>by
  simp only[iv];split
  ·split
   ·exact(dI.const _).bind λj=>IQ (Ks:=λn f g=>iv X (fR X F n) d fz c l r f g (Ks n)) λe h=>w9 a
   ·exact dI.const _
  ·exact BX (Ks:=λn f g=>iv X (fR X F n) d fz c l (p::r) f g (Ks n)) λe h=>w9 a
theorem JC{f:Nat}{fz c:List Nat}{l:List Oper}:∀{i:List Oper} {e:DE} {h:J} {a:List J} {b:DE→J→List J→Option R} {Ks:Nat→DE→J→List J→Option R},(∀e h a,dI (b e h a) λn=>Ks n e h a)→dI (nA X (run X F) f fz c l i e h a b) λn=>nA X (fR X F n) f fz c l i e h a (Ks n)
 |[],e,h,a,b,Ks,d=>d e h a
 | o::r,e,h,a,b,Ks,d=>BX (Ks:=λn j g=>nA X (fR X F n) f fz c l r j g (match ij X.T fz o with
  |true=>a++[g]
  |false=>a) (Ks n)) λe h=>JC d
theorem FP{l:List Oper}{e:DE}{a:List J}{x:Option R}{xs:Nat→Option R}(h:dI x xs):∀{ps:List (Nat × Nat)},dI (l6 X l e a ps x) λn=>l6 X l e a ps (xs n)
 |[]=>h
 | (i,k)::r=>by
  simp only[l6];split
  ·unfold e7;split
   ·exact FP h
   ·exact dI.const _
  ·exact dI.const _
theorem CD{fz:List Nat}:∀{c:List Oper} {e:DE} {h:J} {a:DE→J→Option R} {Ks:Nat→DE→J→Option R},(∀e h,dI (a e h) λn=>Ks n e h)→dI (kG X fz c e h a) λn=>kG X fz c e h (Ks n)
 |[],e,h,a,Ks,b=>b e h
 | o::r,e,h,a,Ks,b=>by
  unfold kG;split
  ·split
   ·exact CD b
   ·exact dI.const _
  ·exact CD b
theorem Mz{b:Nat}{fz a:List Nat}{m:Nat}{l:List Oper}{e:DE}{h:J}{f:DE→J→Option R}{Ks:Nat→DE→J→Option R}(k:∀e h,dI (f e h) λn=>Ks n e h):dI (mV X (run X F) b fz a m l e h f) λn=>mV X (fR X F n) b fz a m l e h (Ks n):=by
 unfold mV;split
 ·exact dI.const _
 ·exact JC (Ks:=λn g j i=>l6 X l g i (xn X.T fz m l) (kG X fz (l.take m) g j λc d=>iv X (fR X F n) b fz a l (l.drop m) c d (Ks n))) λe h i=>FP (CD (Ks:=λn c d=>iv X (fR X F n) b fz a l (l.drop m) c d (Ks n)) λe h=>w9 k)
theorem FZ{d:D}{x y:Option R}{xs ys:Nat→Option R}(a:dI x xs)(b:dI y ys):dI (S d x y) λn=>S d (xs n) (ys n):=by
 unfold S;split
 ·exact a
 ·exact b
 ·exact dI.const _
end
theorem Sq{b:List D→J→Option bN}{W:Nat→List D→J→Option bN}(s:∀ds h,dI (b ds h) λn=>W n ds h)(ds:List D)(h:J):dI (cA b ds h) λn=>gU n (W n) ds h:=λg f=>by
 obtain⟨d,t⟩:=pc.1 f;have y:∀(d:Nat) (ds:List D) (h:J) (g:bN),gU d b ds h=some g→∃n,∀c a,n≤c→d≤a→gU a (W c) ds h=some g:=by
  intro d
  induction d with
  |zero=>intro ds h g f;cases f
  | succ d x =>
   intro ds h g f;simp only[gU]at f;obtain⟨q,r,e⟩:=iL.1 f;obtain⟨p,o⟩:=s ds h q r;split at e
   ·rename_i j;obtain⟨z,v⟩:=x _ _ _ e;refine⟨max p z,λc a m w=>?_⟩;obtain⟨a,rfl⟩:∃l,a=l+1:=⟨a - 1,by omega⟩
    simp only[gU];have i:=o c (by omega);simp only at i;rw[i,iA,j];exact v c a (by omega) (by omega)
   ·refine⟨p,λc a m w=>?_⟩;obtain⟨a,rfl⟩:∃l,a=l+1:=⟨a - 1,by omega⟩
    simp only[gU];have i:=o c (by omega);simp only at i;rw[i,iA];rename_i j;cases k:q.1 with
    |aS=>exact absurd k j
    |ext A=>rw[k]at e;exact e
    |ret=>rw[k]at e;exact e
 obtain⟨n,u⟩:=y d ds h g t;exact⟨max n d,λc m=>u c c (by omega) (by omega)⟩
theorem Lq{A:pD}:∀(k:Code) {e:DE} {h:J} {R:Type} {b:Ex→DE→J→Option R} {Ks:Nat→Ex→DE→J→Option R},(∀x e h,dI (b x e h) λn=>Ks n x e h)→dI (cK X (run X F) cA A k e h R b) λn=>cK X (fR X F n) (gU n) A k e h R (Ks n):=by
 intro k
 induction k with
 |skip=>intro e h R b Ks a;exact a _ _ _
 |label s=>intro e h R b Ks a;exact a _ _ _
 |ret=>intro e h R b Ks a;exact a _ _ _
 |exit r=>intro e h R b Ks a;exact a _ _ _
 |goto s=>intro e h R b Ks a;exact dI.const _
 |scope f g=>intro e h R b Ks a;exact dI.const _
 |refuse C=>intro e h R b Ks a;exact dI.const _
 |rangeFunc u z t f v w=>intro e h R b Ks a;exact dI.const _
 | region id y p =>
  intro e h R b Ks a;simp only[cK];cases p with
  |false=>exact w9 λe h=>a _ _ _
  |true=>exact Mz λe h=>a _ _ _
 | seq o f i j =>
  intro e h R b Ks a;simp only[cK];refine i (Ks:=λn x c d=>toEnd x (cK X (fR X F n) (gU n) A f c d R (Ks n)) λx=>Ks n x c d) λx e h=>?_
  cases x with
  |aS=>exact j a
  |ext r=>exact a _ _ _
  |ret=>exact a _ _ _
 | cond B o f i j =>
  intro e h R b Ks a;simp only[cK];split
  ·exact dI.const _
  ·split
   ·exact(FZ (i (Ks:=λ_ x c d=>some (x,jz c _,d)) λ_ _ _=>dI.const _) (j (Ks:=λ_ x c d=>some (x,jz c _,d)) λ_ _ _=>dI.const _)).bind λm=>a _ _ _
   ·exact FZ (i a) (j a)
 | block id f g =>
  intro e h R b Ks a;simp only[cK];split
  ·exact(g (Ks:=λ_ x c d=>some (bQ id x,jz c _,d)) λ_ _ _=>dI.const _).bind λm=>a _ _ _
  ·exact g (Ks:=λn x c d=>Ks n (bQ id x) c d) λx e h=>a _ _ _
 | loop f g =>
  intro e h R b Ks a;simp only[cK];refine(Sq (W:=λn q d=>cK X (fR X F n) (gU n) A f _ d bN λx c l=>some (x,jz c _,l)) (λq h=>g (Ks:=λ_ x c l=>some (x,jz c _,l)) λ_ _ _=>dI.const _) _ _).bind λm=>a _ _ _
theorem P8{fi:gp}{args:List D}{h:J}:dI (ma X (run X F) cA fi args h) λn=>ma X (fR X F n) (gU n) fi args h:=by
 unfold ma;split
 ·exact Lq _ (Ks:=λ_ d c a=>dD d ((jM X a c fi.res).bind λb=>match fi.sc with
      |true=>scope h a (aH b)
      |false=>some (aH b,a))) λ_ _ _=>dI.const _
 ·exact dI.const _
theorem Uu:∀n,kN (fR X F n) (run X F):=λn b args c d a=>se.2 ⟨n,a⟩
theorem Sl:∀n,u0 (gU n) cA:=λn a b e c d g f=>pc.2 ⟨n,tZ (aX n) a b e c d g f⟩
theorem Jc(f:FuncId)(args:List D)(h:J):run X F f args h=match F f with
  |some fi=>ma X (run X F) cA fi args h
  |none=>X.xt f args h:=by
 refine IE (λe c=>?_) (λe c=>?_)
 ·obtain⟨a,b⟩:=se.1 c;cases a with
  |zero=>cases b
  | succ a =>
   simp only[fR]at b;split at b
   ·exact GU (Uu a) (Sl a) e b
   ·exact b
 ·split at c
  ·rename_i fi d;obtain⟨a,b⟩:=P8 e c;refine se.2 ⟨a+1,?_⟩;simp only[fR,d];exact b a (aX a)
  ·rename_i d;refine se.2 ⟨1,?_⟩;simp only[fR,d];exact c
theorem uv{f:FuncId}(a:F f=none)(args:List D)(h:J):run X F f args h=X.xt f args h:=by
 rw[Jc,a]
def pq{R:Type}(X:Cx)(h:J)(e:DE):List ResultVar→(List D→Option R)→Option R
 |[],a=>a []
 | .tmp t::r,a=>match dB e t with
  |some d=>pq X h e r λds=>a (d::ds)
  |none=>none
 | .cell t ty::r,a=>match dB e t with
  |some p=>(aA X.T h ty p).bind λd=>pq X h e r λds=>a (d::ds)
  |none=>none
theorem wY{R:Type}(h:J)(e:DE):∀(b:List ResultVar) (a:List D→Option R),pq X h e b a=(jM X h e b).bind a
 |[],a=>rfl
 | .tmp t::r,a=>by
  simp only[pq,jM];cases dB e t with
  |none=>rfl
  |some d=>simp only[wY h e r,aU,iA]
 | .cell t ty::r,a=>by
  simp only[pq,jM];cases dB e t with
  |none=>rfl
  |some p=>simp only[wY h e r,aU,iA]
noncomputable def wo(X:Cx)(c:dP)(e:ka)(fi:gp)(args:List D)(h:J):Option (D × J):=
 (match Nat.ble args.length fi.A.nt with
 |true=>cK X c e fi.A fi.body (iw (List.range args.length) args []) h (D × J) λf d a=>dD f (pq X a d fi.res λb=>match fi.sc with
   |true=>scope h a (aH b)
   |false=>some (aH b,a))
 |false=>none)
theorem Jf{f:FuncId}{fi:gp}(a:F f=some fi)(args:List D)(h:J):run X F f args h=wo X (run X F) cA fi args h:=by
 rw[Jc,a];simp only[ma,wo,wY];rfl
theorem Jh(e:dO P X.T)(h:P.follows .mixedOrders=true)(j:hQ P X X.xt)(d:∀f fi,F f=some fi→cG P f fi):hQ P X (run X F):=λf args b a c g=>by
 obtain⟨k,i⟩:=se.1 g;exact FF e h j d k f args b a c i
end
def Xe(off:Nat)(x:D):Option D:=match x with
 | .aI a=>match Nat.blt off a.length with
  |true=>some (.aI (a.drop off))
  |false=>none
 |.ptr d b c=>some (.ptr d b (c+off))
 |_=>none
def Xg(h:J)(p:D):Option D:=match p with
 |.aI a=>a.head?
 | .ptr c b d=>match h.row c b with
  |some e=>(e.drop d).head?
  |none=>none
 |_=>none
def pw(n:Nat)(cs:List D):Option D:=match Nat.ble n cs.length with
 |true=>some (.agg (cs.take n))
 |false=>none
def Xf(x y:D):Option D:=match x,y with
 | .str c,.int _ a=>if 0≤a then match c[a.toNat]? with
  |some b=>some (.int .u8 b.toNat)
  |none=>none
  else none
 |_,_=>none
def Xi(x:D):Option D:=match x with
 |.str a=>some (.int .i64 a.length)
 |_=>none
def Xh(x:D):Option D:=match x with
 |.aB=>some (.int .i64 0)
 |.sl _ _ b=>some (.int .i64 b.length)
 |.aO _ _ _ a=>some (.int .i64 a)
 |_=>none
def ga(x:D):Option D:=if x.fT then some (.aI (cP x))else none
def bJ(T:cT)(t n:Nat)(a:List Nat)(ds:List D):Option D:=(mU T t n a ds).bind λ(_,c,b)=>some (.sl c true b)
def jL (n:Nat) (h:J) (p v:D):Option J:=match p with
 | .ptr b a c=>match h[b]? with
  | some (.row f g e)=>match e[a]? with
   | some d=>match Nat.beq (cP v).length n&&Nat.ble (c+n) d.length&&v.fT with
    |true=>some (h.set b (.row f g (e.set a (dQ d c (cP v)))))
    |false=>none
   |none=>none
  |_=>none
 |_=>none
def py(e Y:Nat)(h:J)(x:D):Option (D × J):=if x.fT=true∧(cP x).length=Y∧0<Y then some (.ptr h.length 0 0,aZ h e Y [cP x])else none
def J6(e:Nat)(h:J)(x:D):Option (D × J):=match x with
 |.str a=>if lim a.length 1=true then some (.aO 1 h.length 0 a.length,aZ h e 1 (iB a))else none
 |_=>none
def sn (e:Nat) (j o:TI) (h:J) (x y:D):Option (D × J):=match Nat.blt 0 j.Y,k0 h o j y with
 | true,some []=>match x with
  |.aB=>some (.aB,h)
  |.sl g i k=>some (.sl g i k,h)
  |.aO g i k n=>some (.aO g i k n,h)
  |_=>none
 | true, some a=>match x with
  |.aB=>if lim a.length j.gI=true then some (.aO j.Y h.length 0 a.length,aZ h e j.Y a)else none
  |.sl d true b=>if d=j.Y∧lim (b.length+a.length) j.gI=true then some (.aO j.Y h.length 0 (b.length+a.length),aZ h e j.Y (b++a))else none
  | .aO d f 0 c=>match h[f]? with
   | some (.row l m b)=>if d=j.Y∧m=d∧l=e∧c≤b.length∧lim (c+a.length) j.gI=true then
     (if c=b.length then some (.aO j.Y h.length 0 (c+a.length),aZ (h.set f .dead) e j.Y (b++a))
     else if c+a.length≤b.length then some (.aO d f 0 (c+a.length),h.set f (.row l m (b.take c++a++b.drop (c+a.length))))else none)
    else none
   |_=>none
  |_=>none
 |_,_=>none
def gu(b:dP)(f:D)(a:List D)(h:J):Option (D × J):=kY (λ_=>none) b 0 (.call ⟨.value (.tmp 0), #[], #[]⟩) (f::a) h
theorem FI(b:dP)(f:FuncId)(a xs ys:List D)(h:J):gu b (.fn (.func f) xs ys) a h=b f (xs++a++ys) h:=rfl
def Z(k:Nat)(ds:List D):D:=match k with
 |0=>tL ds
 |k+1=>Z k (uE ds)
def CI(a:List (Option TI)):cT:=λc=>match a[c]? with
 |some (some b)=>some b
 |_=>none
def sT(P:Program):Nat→List (Option TI)→Prop
 |_,[]=>True
 |k,none::r=>sT P (k+1) r
 |k,some i::r=>(sk P k=some i∧rU P k=true)∧sT P (k+1) r
theorem CJ{P:Program}:∀(b:List (Option TI)) (k:Nat),sT P k b→∀t i,b[t]?=some (some i)→sk P (k+t)=some i∧rU P (k+t)=true
 |[],k,_,t,i,h=>by simp at h
 | none::r,k,a,t,i,h=>by
  cases t with
  |zero=>simp at h
  | succ t =>
   have:=CJ r (k+1) a t i (by simpa using h)
   rwa [show k+1+t=k+(t+1)from by omega]at this
 | some c::r,k,a,t,i,h=>by
  cases t with
  | zero =>
   simp at h;subst h;exact a.1
  | succ t =>
   have:=CJ r (k+1) a.2 t i (by simpa using h)
   rwa [show k+1+t=k+(t+1)from by omega]at this
theorem VJ{P:Program}{b:List (Option TI)}(h:sT P 0 b):dO P (CI b):=λe f a=>by
 unfold CI at a;split at a
 ·rename_i d c;injection a with a;subst a;have:=CJ b 0 h e d c
  rwa [dF]at this
 ·cases a
def tK:List (Nat × gp)→FuncId→Option gp
 |[],_=>none
 | (k,i)::r,f=>match Nat.beq k f with
  |true=>some i
  |false=>tK r f
def uW(P:Program):List (Nat × gp)→Prop
 |[]=>True
 |(k,i)::r=>cG P k i∧uW P r
theorem zD{P:Program}:∀(a:List (Nat × gp)),uW P a→∀f fi,tK a f=some fi→cG P f fi
 |[],_,f,fi,h=>by cases h
 | (k,i)::r,b,f,fi,h=>by
  simp only[tK]at h;split at h
  ·rename_i c;injection h with h;subst h;have:=ib c;subst this;exact b.1
  ·exact zD r b.2 f fi h
theorem cG.of{P:Program}{f:FuncId}{fn:Func}{fi:gp}(d:P.funcs[f]?=some fn)(b:fn.body=some fi.body)(e:fn.ntmps=fi.A.nt)(g:fn.results.toList=fi.res)(c:∀(a:Array Value) (w:World),(callFunc f a).run P w = .ok (.enter f a) w):cG P f fi:=⟨⟨fn,d,b,e,g⟩,c⟩
theorem LO{P:Program}{f:FuncId}(e:∀(d:Array Value) (w:World),(callFunc f d).run P w=((Extern.BytealgCompare.compare d).run P w).andThen λv w' =>.ok (.value v) w')
  {a b:List UInt8} {g:Gh} {h:J} {vs:List Value} (hi:Inv g h) (i:cC g vs [.str a,.str b]):kJ P f vs g h (.int .i64 (Lib.compareBytes a b)):=by
 cases i with
 | cons j c=>cases c with
  | cons k c=>cases c with
   | nil =>
    cases j;cases k;refine .inr ⟨.int .i64 (Lib.compareBytes a b),g,?_,cE.refl g,hi,.int _ _⟩;rw[e,Lib.run_compareString];simp[Result.andThen]
def vx(args:List D)(h:J):Option (D × J):=match args with
 |[.str a,.str b]=>some (.int .i64 (Lib.compareBytes a b),h)
 |_=>none
end Go.Pi
namespace Go.Eng
abbrev p6:=@decide_eq_true_eq
end Go.Eng
namespace Go.Eng
open Go.ChangeShapes Go.WideShapes Go.ChangeAt Go.RowKit
def Gw.all(w:World)(N:Nat):Gw:=⟨w,λa=>if a<w.heap.size then N else 0,λa b=>by rw[cH (by omega)]⟩
theorem Wy{n:Int}(h:(Lit.int .u8 n).wf=true):0≤n∧n<256:=by
 simp only[Lit.wf,eO,p6]at h;have a:IntKind.min .u8=0:=rfl;have b:IntKind.max .u8=255:=rfl;omega
section
variable {H:Type} {enc:TypeId × Value→H} {P:Program} {W:World}
end
theorem dT{P:Program}{f:FuncId}{args:Array Value}{W:World}{N:Nat}{a:Value}(h:mz P f args W (vm yl (Gw.all W N) λv _=>v=a)):Calls P f args W λe w'=>e = .returned a∧Below W.heap.size W w':=
 pH h (by
  rintro e w' ⟨v,rfl,c,rfl,b,rfl⟩;exact⟨rfl,b.below⟩)
end Go.Eng
namespace Go.Eng
abbrev sV:=@World.block_lt_of_cell?
abbrev Fj:=@World.cell?_spot
end Go.Eng
namespace Go.Pi
open Go.Eng Go.ChangeShapes Go.WideShapes Go.ChangeAt Go.RowKit
def Gh.all(w:World):Gh:=⟨w,[],λ_=>False⟩
theorem Rk(w:World):Inv (Gh.all w) []:=⟨rfl,λb c f e a=>by simp at a,λb j c f g l e k d i a=>by simp at a,λh a=>a.elim,λb d a=>by simp[Gh.all]at a⟩
theorem cE.below{g:Gh}{W:World}(h:cE (Gh.all W) g):Below W.heap.size W g.w:=⟨h.os,h.tape,h.output,h.size,λb a=>(h.fz b ⟨a,λh=>h⟩).2⟩
def ints(k:IntKind)(zs:List Int):List (List D):=zs.map λa=>[.int k a]
def kM(k:IntKind)(zs:List Int)(d:D):Prop:=(d = .aB∧zs=[])∨d = .sl 1 false (ints k zs)
section
variable {H:Type} {enc:TypeId × Value→H} {P:Program} {W:World}
theorem Qz{t e:TypeId}{k:IntKind}{a:Option Addr}{n cap:Nat}{d:DataW H}{p:List MemPlace}(Q:P.underlying t=some (.slice e))(E:P.underlying e=some (.int k))(C:P.cellsOf e=1)
  (h:DataW.Trod enc P W 0 (λ_=>true) true t (.slice a n cap) d p):∃(zs:List Int) (x:D),aM (Gh.all W) (.slice a n cap) x∧kM k zs x∧zs.length≤9223372036854775807∧(∀z∈zs,(Lit.int k z).wf=true)∧((d = .nil∧zs=[])∨∃T,d = .slice (lits k zs) T):=by
 obtain⟨aa,F⟩:=h;rcases open_ints Q E C F with⟨j,s⟩|⟨x,ad,X,zs,j,_,I,L,m,s,r,R⟩
 ·simp[Value.cells]at j;obtain⟨rfl,rfl,rfl⟩:=j;exact⟨[],.aB,.aB,.inl ⟨rfl,rfl⟩,by simp,(λz m=>by cases m),.inl ⟨gi Prod.fst s,rfl⟩⟩
 ·simp [Value.cells]at j;obtain⟨rfl,rfl,rfl⟩:=j;have ac:zs.length=cap:=by simpa using m
  have M:cap≤9223372036854775807:=by simpa[maxLen]using L
  have K:(zs.take n).length=n:=by rw[lV];omega
  have y:∀(b:Nat) (f:List D),(ints k (zs.take n))[b]?=some f→b<n∧f=[.int k (zs.getD b 0)]:=λb f c=>by
   simp only[ints,dH]at c;cases l:(zs.take n)[b]? with
   |none=>rw[l]at c;cases c
   | some ae =>
    rw[l]at c;simp only[fW,kU]at c;have o:b<n:=by
     have:=(bO.1 l).1;omega
    rw[fF,bE o]at l;exact⟨o,by rw[← c,qW,l];rfl⟩
  refine⟨zs.take n,_,.sl x n cap 1 false (ints k (zs.take n)) (by simp only[ints,eQ];exact K) I M (λh=>by cases h) (by decide) (λf A=>?_) (λN=>?_) (λb _ =>.int k (zs.getD b 0)) (λb f c g d i=>?_) (λb f c g d i=>rfl) (λb f c g d i=>?_),.inr rfl,by omega,λz m=>R z (ja m),.inr ⟨_,gi Prod.fst s⟩⟩
  ·simp only[ints,e8]at A;obtain⟨z,_,rfl⟩:=A;rfl
  ·have ab:0<n:=by
     rcases pU n with q|q
     ·subst q;exact absurd (by simp[ints]) N
     ·exact q
   obtain⟨w,B,v⟩:=x;have nZ:=r 0 (by omega);have u:v=none:=by simpa[Addr.add]using Fj nZ
   subst u;refine⟨rfl,?_,λh=>h⟩;have:W.cell? ⟨w,B,none⟩=some (.int k (zs.getD 0 0)):=by simpa[Addr.add]using nZ
   exact sV W _ this
  ·obtain⟨o,rfl⟩:=y b f c;have G:g=0:=by
    cases g with
    |zero=>rfl
    |succ g=>simp at i
   subst G;obtain⟨w,B,v⟩:=x;have u:v=none:=by simpa[Addr.add]using Fj (r 0 (by omega))
   subst u;have nZ:=r b (by omega);rw[jl]at nZ;simpa[Gh.all]using nZ
  ·obtain⟨o,rfl⟩:=y b f c;cases g with
   |zero=>simp at i;subst i;exact .int k _
   |succ g=>simp at i
theorem Qy{t e:TypeId}{k:IntKind}{a:Option Addr}{n cap:Nat}{d:DataW H}{p:List MemPlace}(l:P.underlying t=some (.slice e))(j:P.underlying e=some (.int k))(i:P.cellsOf e=1)
  (h:DataW.Trod enc P W 0 (λ_=>true) true t (.slice a n cap) d p):∃(zs:List Int) (x:D),aM (Gh.all W) (.slice a n cap) x∧kM k zs x∧zs.length≤9223372036854775807∧∀z∈zs,(Lit.int k z).wf=true:=by
 obtain⟨zs,x,b,c,f,g,_⟩:=Qz l j i h;exact⟨zs,x,b,c,f,g⟩
end
theorem Ur{P:Program}{X:Cx}{R:dP}(j:hQ P X R){f:FuncId}(l:∀(b:Array Value) (w:World),(callFunc f b).run P w = .ok (.enter f b) w){args:List D}{d:D}{h':J}(h:R f args []=some (d,h')){W:World}(m:fP (Gh.all W) X.gl){vs:List Value}(n:cC (Gh.all W) vs args){i:Value}(o:∀g v,aM g v d→v=i):
  Calls P f vs.toArray W λe w'=>e = .returned i∧Below W.heap.size W w':=
 pH (show mz P f vs.toArray W _ from by
  rcases j _ _ _ _ _ h (Gh.all W) vs (Rk W) m n with⟨_,a⟩|⟨v,c,a,_⟩
  ·exact a
  ·have:=(l vs.toArray (Gh.all W).w).symm.trans a;injection this with this;cases this) (by
  rintro e w' ⟨v,rfl,c,rfl,k,_,p⟩;rw[o c v p];exact⟨rfl,k.below⟩)
theorem Uj{g:Gh}{v:Value}{b:Bool}(h:aM g v (.bool b)):v = .bool b:=by cases h;rfl
theorem hZ(h:J)(T Y:Nat)(rows:List (List D)):(aZ h T Y rows)[h.length]?=some (.row T Y rows):=by
 unfold aZ;rw[hV (aX _)];simp
theorem gQ(h:J)(T Y:Nat)(rows:List (List D)){o:Nat}(a:o<h.length):(aZ h T Y rows)[o]?=h[o]?:=by
 unfold aZ;rw[eV a]
end Go.Pi
namespace Go.Pi
open Go.Eng
open Option renaming bind_some → Xm
@[simp] theorem W{b c:Type}(a:b)(f:b→Option c):(some a).bind f=f a:=id rfl
@[simp] theorem bR(d:D):aH [d]=d:=id rfl
@[simp] theorem jK(a b:D)(r:List D):aH (a::b::r) = .bZ (a::b::r):=id rfl
@[simp] theorem aK{R:Type}(b:Bool)(x y:Option R):S (.bool b) x y=if b=true then x else y:=by cases b<;>exact id rfl
@[simp] theorem fK(b:Bool):fx .not (.bool b)=some (.bool (!b)):=id rfl
@[simp] theorem bI(b:Bool)(x y:D):cD (.bool b) x y=some (if b=true then x else y):=by cases b<;>exact id rfl
@[simp] theorem bL(b c:Bool)(x:Option D):O (.bool b) c x=if b=c then x else some .bU:=by cases b<;>cases c<;>exact id rfl
@[simp] theorem eL(c:Bool)(x:Option D):O .bU c x=some .bU:=id rfl
@[simp] theorem nY(c:Bool)(h:J)(x:Option (D × J)):fA .bU c h x=some (.bU,h):=id rfl
@[simp] theorem fS(b c:Bool)(h:J)(x:Option (D × J)):fA (.bool b) c h x=if b=c then x else some (.bU,h):=by cases b<;>cases c<;>exact id rfl
@[simp] theorem cL{R:Type}(n:Option R)(k:Ex→Option R):toEnd .aS n k=n:=id rfl
@[simp] theorem mv{R:Type}(n:Option R)(k:Ex→Option R):toEnd .ret n k=k .ret:=id rfl
@[simp] theorem Xj{R:Type}(i:Nat)(n:Option R)(k:Ex→Option R):toEnd (.ext i) n k=k (.ext i):=id rfl
@[simp] theorem rB{R:Type}(r:Option R):dD .aS r=r:=id rfl
@[simp] theorem l7{R:Type}(r:Option R):dD .ret r=r:=id rfl
@[simp] theorem gV(i:Nat):bQ i .aS = .aS:=id rfl
@[simp] theorem mw(i:Nat):bQ i .ret = .ret:=id rfl
@[simp] theorem dV(i:Nat):bQ i (.ext i) = .aS:=by simp[-Xm,bQ]
@[simp] theorem bD(d:D)(r:List D):Z 0 (d::r)=d:=id rfl
@[simp] theorem bY(k:Nat)(d:D)(r:List D):Z (k+1) (d::r)=Z k r:=id rfl
@[simp] theorem ke{R:Type}(p:Prop)(x:Option R)(h:p):e7 p x=x:=by unfold e7;exact bE h
@[simp] theorem s6(b:dP)(f:FuncId)(a xs ys:List D)(h:J):gu b (.fn (.func f) xs ys) a h=b f (xs++a++ys) h:=id rfl
@[simp] theorem Xd(s:List UInt8):ga (.str s)=some (.aI [.str s]):=id rfl
@[simp] theorem IF(k:IntKind)(n:Int):ga (.int k n)=some (.aI [.int k n]):=id rfl
@[simp] theorem Xa(b:Bool):ga (.bool b)=some (.aI [.bool b]):=id rfl
@[simp] theorem jj(cs:List D):ga (.agg cs)=some (.aI cs):=id rfl
@[simp] theorem Xb:ga .aB=some (.aI [.aB]):=id rfl
@[simp] theorem Xc(z:Nat)(f:Bool)(r:List (List D)):ga (.sl z f r)=some (.aI [.sl z f r]):=id rfl
section
variable (T:cT) (t:Nat) (k:IntKind) (a b:Int) (s u:List UInt8) (p q:Bool)
@[simp] theorem cI:V T .lss t (.int k a) (.int k b)=some (.bool (decide (a<b))):=by simp[-Xm,V,iN]
@[simp] theorem ig:V T .leq t (.int k a) (.int k b)=some (.bool (decide (a≤b))):=by simp[-Xm,V,iN]
@[simp] theorem cZ:V T .gtr t (.int k a) (.int k b)=some (.bool (decide (b<a))):=by simp[-Xm,V,iN]
@[simp] theorem ju:V T .geq t (.int k a) (.int k b)=some (.bool (decide (b≤a))):=by simp[-Xm,V,iN]
@[simp] theorem fa:V T .eql t (.int k a) (.int k b)=some (.bool (decide (a=b))):=by simp[-Xm,V,iN];rfl
@[simp] theorem dE:V T .neq t (.int k a) (.int k b)=some (.bool (decide (a≠b))):=by simp[-Xm,V,iN,bne];rfl
@[simp] theorem cY:V T .add t (.int k a) (.int k b)=some (.int k (k.wrap (a+b))):=by simp[-Xm,V,iN]
@[simp] theorem eH:V T .sub t (.int k a) (.int k b)=some (.int k (k.wrap (a - b))):=by simp[-Xm,V,iN]
@[simp] theorem nP:V T .mul t (.int k a) (.int k b)=some (.int k (k.wrap (a*b))):=by simp[-Xm,V,iN]
@[simp] theorem FW:V T .quo t (.int k a) (.int k b)=if b=0 then none else some (.int k (k.wrap (a.tdiv b))):=by simp[-Xm,V,iN]
@[simp] theorem ta:V T .rem t (.int k a) (.int k b)=if b=0 then none else some (.int k (a.tmod b)):=by simp[-Xm,V,iN]
@[simp] theorem nQ:V T .eql t (.str s) (.str u)=some (.bool (s==u)):=id rfl
@[simp] theorem lC:V T .neq t (.str s) (.str u)=some (.bool (!(s==u))):=id rfl
@[simp] theorem WS:V T .lss t (.str s) (.str u)=some (.bool (Op.bytesLess s u)):=id rfl
end
@[simp] theorem mP(n:Nat)(cs:List D)(h:cs.length=n):gY n (.agg cs)=some (.aI cs):=by subst h;simp[-Xm,gY,D.fT,cP]
@[simp] theorem jd(i:Nat)(ds:List D):eZ i (.bZ ds)=ds[i]?:=id rfl
@[simp] theorem WV (k:IntKind) (a b:Int):rp (.int k a) (.int k b)=some (.int k (if a≤b then a else b)):=by
 first|rfl|(simp[-Xm,rp];done)|(simp only[rp];split<;>simp_all [-Xm]<;>omega)
theorem cN{n:Int}(a : -9223372036854775808≤n)(b:n≤9223372036854775807):IntKind.wrap .i64 n=n:=by
 unfold IntKind.wrap;simp[-Xm,IntKind.signed,IntKind.bits,IntKind.min,IntKind.max];omega
theorem rT{a:Type}(b:List a)(p:a)(c:List a):(b++p::c)[b.length]?=some p:=by simp
def aR{a:Type}(z:Nat)(f:a→List D)(l:List a)(d:D):Prop:=(d = .aB∧l=[])∨∃b,d = .sl z b (l.map f)
theorem aR.aB{a:Type}(z:Nat)(f:a→List D):aR z f [] .aB :=.inl ⟨rfl,rfl⟩
theorem aR.mk{a:Type}(z:Nat)(f:a→List D)(l:List a)(b:Bool):aR z f l (.sl z b (l.map f)) :=.inr ⟨_,rfl⟩
theorem Sk{B:List D→J→Option bN}(c:Nat→List D→J→Prop)(d:Ex→List D→J→Prop)
  (step:∀k ds h,c k ds h→∃x a h',B ds h=some (x,a,h')∧((x = .aS∧∃b,b<k∧c b a h')∨(x ≠ .aS∧d x a h'))) :
  ∀(k:Nat) (ds:List D) (h:J),c k ds h→∃x a h',cA B ds h=some (x,a,h')∧d x a h':=by
 intro k
 induction k using Nat.strongRecOn with
 | _ k n =>
  intro ds h f;obtain⟨x,a,h',e,m⟩:=step k ds h f;rw[jJ,e];rcases m with⟨rfl,b,j,g⟩|⟨l,i⟩
  ·exact n b j a h' g
  ·refine⟨x,a,h',?_,i⟩;cases x with
   |aS=>exact absurd rfl l
   |ext o=>rfl
   |ret=>rfl
end Go.Pi
namespace Go.Eng
abbrev j9:=@List.take_length
abbrev mI:=@Nat.le_of_eq
abbrev ou:=@List.getElem_mem
abbrev uM:=@Bool.and_self
abbrev u2:=@List.append_nil
abbrev u6:=@List.length_range
abbrev BU:=@of_decide_eq_true
end Go.Eng
namespace Go.Pi
open Go.Eng
theorem lK{n b:Nat}(h:n*b≤140737488355328)(h2:n≤9223372036854775807):lim n b=true:=by
 simp only[lim,eO];exact⟨jX h,jX h2⟩
def Own(h:J)(n0 e z:Nat)(rows:List (List D))(d:D):Prop:=(d = .aB∧rows=[])∨∃a,n0≤a∧d = .aO z a 0 rows.length∧h[a]?=some (.row e z rows)
theorem Own.aB(h:J)(n0 e z:Nat):Own h n0 e z [] .aB :=.inl ⟨rfl,rfl⟩
def D.e9(d:D)(b:Nat):Prop:=∃c a,d = .aO c b 0 a
theorem Own.bH{h h':J}{n0 e z:Nat}{rows:List (List D)}{d:D}(a:Own h n0 e z rows d)(i:∀b,n0≤b→d.e9 b→h'[b]?=h[b]?):Own h' n0 e z rows d:=by
 rcases a with a|⟨f,c,a,g⟩
 ·exact .inl a
 ·exact .inr ⟨f,c,a,by rw[i f c ⟨_,_,a⟩];exact g⟩
theorem Own.from{h:J}{n0 b e z:Nat}{rows:List (List D)}{d:D}(g:b≤n0)(a:Own h n0 e z rows d):Own h b e z rows d:=by
 rcases a with a|⟨f,i,a,c⟩
 ·exact .inl a
 ·exact .inr ⟨f,by omega,a,c⟩
theorem Own.lt{h:J}{n0 e z:Nat}{rows:List (List D)}{d:D}(a:Own h n0 e z rows d){b:Nat}(i:d.e9 b):n0≤b∧b<h.length:=by
 obtain⟨l,j,rfl⟩:=i;rcases a with⟨a,_⟩|⟨k,g,a,f⟩
 ·cases a
 ·injection a with _ c;subst c;exact⟨g,(bO.1 f).1⟩
theorem KV{T:cT}{t e:Nat}{i j:TI}(s:T t=some i)(hi:i.td = .sl e)(n:T e=some j)(v:0<j.Y){h:J}{n0:Nat}(g:n0≤h.length){rows:List (List D)}{x y:D}(l:Own h n0 e j.Y rows x)
  {ys:List (List D)} (u:jH h j.Y y=some ys) (d:lim (rows.length+ys.length) j.gI=true) :
  ∃x' h',cW T h t t x y=some (x',h')∧Own h' n0 e j.Y (rows++ys) x'∧h.length≤h'.length∧(∀b,b<h.length→¬x.e9 b→h'[b]?=h[b]?)∧∀b,x'.e9 b→x.e9 b∨h.length≤b:=by
 have w:Nat.blt 0 j.Y=true:=jX v;have r:k0 h i j y=some ys:=by simp[k0,hi,u]
 unfold cW;simp only[s,hi,n,w,r];cases ys with
 | nil =>
  rcases l with⟨rfl,rfl⟩|⟨f,k,rfl,c⟩
  ·exact⟨_,_,rfl,.inl ⟨rfl,rfl⟩,aX _,λ_ _ _=>rfl,λb a =>.inl a⟩
  ·exact⟨_,_,rfl,by rw[u2];exact .inr ⟨f,k,rfl,c⟩,aX _,λ_ _ _=>rfl,λb a =>.inl a⟩
 | cons C E =>
  rcases l with⟨rfl,rfl⟩|⟨f,k,rfl,c⟩
  ·simp only[eJ,dF]at d;simp only[d,aJ];refine⟨_,_,rfl,.inr ⟨h.length,g,by simp,by simp[aZ]⟩,by simp[aZ],λb a _=>by simp only[aZ];rw[eV a],λb a =>.inr ?_⟩;obtain⟨A,z,a⟩:=a;injection a with _ m;omega
  ·have B:=(bO.1 c).1;simp only[c,d,true_and,and_true,aX,aJ];refine⟨_,_,rfl,.inr ⟨h.length,g,by simp,by simp[aZ]⟩,by simp[aZ],λb a p=>?_,λb a =>.inr ?_⟩
   ·have q:f≠b:=λo=>p ⟨_,_,by rw[o]⟩
    simp only[aZ];rw[eV (by simpa using a),jS q]
   ·obtain⟨A,z,a⟩:=a;injection a with _ m;omega
theorem KU{T:cT}{t e:Nat}{i j:TI}(p:T t=some i)(hi:i.td = .sl e)(l:T e=some j)(r:0<j.Y){h:J}{n0:Nat}(o:n0≤h.length){rows:List (List D)}{x y:D}(c:Own h n0 e j.Y rows x)
  {ys:List (List D)} (q:jH h j.Y y=some ys) (n:lim (rows.length+ys.length) j.gI=true) :
  ∃x' h',cW T h t t x y=some (x',h')∧Own h' n0 e j.Y (rows++ys) x'∧h.length≤h'.length∧(∀a,a<n0→h'[a]?=h[a]?)∧(∀a,a<h.length→¬x.e9 a→h'[a]?=h[a]?)∧∀a,x'.e9 a→x.e9 a∨h.length≤a:=by
 obtain⟨x',h',d,f,g,b,k⟩:=KV p hi l r o c q n;exact⟨x',h',d,f,g,λa s=>b a (by omega) λm=>by have:=(c.lt m).1;omega,b,k⟩
@[simp] theorem iq(h:J)(z:Nat)(f:Bool)(rows:List (List D)):jH h z (.sl z f rows)=some rows:=by simp[jH]
def bW(o:Nat)(h h':J):Prop:=h'.length=h.length∧∀a,a≠o→h'[a]?=h[a]?
theorem bW.refl(o:Nat)(h:J):bW o h h:=⟨rfl,λ_ _=>rfl⟩
theorem bW.trans{o:Nat}{h h' c:J}(a:bW o h h')(b:bW o h' c):bW o h c:=⟨b.1.trans a.1,λe d=>(b.2 e d).trans (a.2 e d)⟩
def nJ(n0 o:Nat)(h h':J):Prop:=h.length≤h'.length∧∀a,a<n0→a≠o→h'[a]?=h[a]?
theorem nJ.refl(n0 o:Nat)(h:J):nJ n0 o h h:=⟨aX _,λ_ _ _=>rfl⟩
theorem nJ.trans{n0 o:Nat}{h h' c:J}(a:nJ n0 o h h')(b:nJ n0 o h' c):nJ n0 o h c:=⟨hX a.1 b.1,λf e d=>(b.2 f e d).trans (a.2 f e d)⟩
theorem bW.grow{n0 o:Nat}{h h':J}(a:bW o h h'):nJ n0 o h h':=⟨mI a.1.symm,λc _ b=>a.2 c b⟩
@[simp] theorem G0(n0:Nat)(h:J)(n:Nat)(k:IntKind)(i:Int):cV n0 h n (.int k i) = .int k i:=by cases n<;>rfl
@[simp] theorem Qf(n0:Nat)(h:J)(n:Nat)(s:List UInt8):cV n0 h n (.str s) = .str s:=by cases n<;>rfl
@[simp] theorem Qc(n0:Nat)(h:J)(n:Nat)(b:Bool):cV n0 h n (.bool b) = .bool b:=by cases n<;>rfl
@[simp] theorem W5(n0:Nat)(h:J)(n:Nat):cV n0 h n .aB = .aB:=by cases n<;>rfl
@[simp] theorem wv(n0:Nat)(h:J)(n:Nat)(cs:List D):cV n0 h (n+1) (.agg cs) = .agg (cs.map (cV n0 h n)):=rfl
@[simp] theorem Qg(n0:Nat)(h:J)(n:Nat)(cs:List D):cV n0 h (n+1) (.bZ cs) = .bZ (cs.map (cV n0 h n)):=rfl
theorem Qd(n0:Nat)(h:J)(n z:Nat)(f:Bool)(rows:List (List D)):cV n0 h (n+1) (.sl z f rows) = .sl z f (rows.map λrow=>row.map (cV n0 h n)):=rfl
theorem G1{n0:Nat}{h:J}{o:Nat}{T z:Nat}{rows:List (List D)}(b:n0≤o)(a:h[o]?=some (.row T z rows))(n s r k:Nat):cV n0 h (n+1) (.aO s o r k) = .sl s false (((rows.drop r).take k).map λrow=>row.map (cV n0 h n)):=by
 have:Nat.ble n0 o=true:=jX b;simp only[cV,this,a]
theorem lL{a:Type}{f:a→a}:∀{l:List a},(∀x∈l,f x=x)→l.map f=l
 |[],_=>rfl
 |x::l,h=>by rw[gO,h x (by simp),lL λy b=>h y (by simp[b])]
theorem Qe{n0:Nat}{h:J}{n z:Nat}{f:Bool}{rows:List (List D)}(a:∀row∈rows,∀d∈row,cV n0 h n d=d):cV n0 h (n+1) (.sl z f rows) = .sl z f rows:=by
 rw[Qd,lL λrow b=>lL (a row b)]
theorem G2{n0:Nat}{h:J}{n a e z:Nat}{rows:List (List D)}{d:D}(b:Own h a e z rows d)(i:n0≤a)(f:∀row∈rows,∀d∈row,cV n0 h n d=d):(cV n0 h (n+1) d = .aB∧rows=[])∨cV n0 h (n+1) d = .sl z false rows:=by
 rcases b with⟨rfl,rfl⟩|⟨k,j,rfl,c⟩
 ·exact .inl ⟨rfl,rfl⟩
 ·right;rw[G1 (by omega) c];simp only[gx,j9];rw[lL λrow g=>lL (f row g)]
theorem jy{n0:Nat}{h:J}{n g e z:Nat}{i:Type}{f:i→List D}{l:List i}{d:D}(c:Own h g e z (l.map f) d)(m:n0≤g)(o:∀a∈l,∀d∈f a,cV n0 h n d=d):aR z f l (cV n0 h (n+1) d):=by
 rcases G2 c m (n:=n) (λq p d c=>by
  obtain⟨a,k,rfl⟩:=e8.1 p;exact o a k d c)with⟨b,j⟩|b
 ·rw[b];exact .inl ⟨rfl,by simpa using j⟩
 ·rw[b];exact .mk _ _ _ _
theorem uz{n0:Nat}{h:J}{n z:Nat}{c:Type}{f:c→List D}{l:List c}{d:D}(b:aR z f l d)(g:∀a∈l,∀d∈f a,cV n0 h n d=d):cV n0 h (n+1) d=d:=by
 rcases b with⟨rfl,_⟩|⟨j,rfl⟩
 ·rfl
 ·exact Qe λk i d b=>by
    obtain⟨a,e,rfl⟩:=e8.1 i;exact g a e d b
theorem jA{n z:Nat}{c:Type}{f:c→List D}{l:List c}{d:D}(b:aR z f l d)(g:∀a∈l,∀d∈f a,Ok n d):Ok n d:=by
 rcases b with⟨rfl,_⟩|⟨i,rfl⟩
 ·exact .aB
 ·exact .sl _ _ _ λj h d b=>by
    obtain⟨a,e,rfl⟩:=e8.1 h;exact g a e d b
theorem qC{z:Nat}{a:Type}{f:a→List D}{l:List a}{d:D}(b:aR z f l d):d.one=true:=by
 rcases b with⟨rfl,_⟩|⟨c,rfl⟩<;>rfl
theorem kE{h:J}{n0 e z:Nat}{rows:List (List D)}{d:D}(a:Own h n0 e z rows d):d.one=true:=by
 rcases a with⟨rfl,_⟩|⟨b,_,rfl,_⟩<;>rfl
theorem Vl{h h2:J}{d d':D}{o:Nat}(j:cV h.length h2 4 d=d')(m:Ok h.length d')(c:nJ h.length o h h2)(l:∀T Y rows,h2[o]?=some (.row T Y rows)→∀row∈rows,∀d∈row,Ok h.length d):
  scope h h2 d=some (d',h2.take h.length)∧bW o h (h2.take h.length)∧∀a,a<h.length→(h2.take h.length)[a]?=h2[a]?:=by
 have k:h.length≤h2.length:=c.1;have i:∀a,a<h.length→(h2.take h.length)[a]?=h2[a]?:=λa b=>by rw[fF,bE b]
 refine⟨?_,⟨by simp[k],λa b=>?_⟩,i⟩
 ·unfold scope;rw[j,ke];refine⟨m,λa T Y rows b g=>?_⟩;by_cases f:a=o
  ·subst f;exact .inr (l T Y rows g)
  ·left;rw[← c.2 a b f];exact g
 ·by_cases e:a<h.length
  ·rw[i a e];exact c.2 a e b
  ·rw[mH (by simp;omega),mH (by omega)]
theorem iu{h h2:J}{d d':D}(e:cV h.length h2 4 d=d')(f:Ok h.length d')(k:h.length≤h2.length)(c:∀a,a<h.length→h2[a]?=h[a]?):scope h h2 d=some (d',h):=by
 have i:h2.take h.length=h:=u3 λa=>by
  rw[fF];split
  ·rename_i b;exact c a b
  ·rename_i b;rw[mH (by omega)]
 unfold scope;rw[e,i,ke];exact⟨f,λa j m l b g =>.inl (by rw[← c a b];exact g)⟩
theorem sj{z:Nat}{a:Type}{f:a→List D}{l:List a}{d:D}(h:J)(b:aR z f l d):jH h z d=some (l.map f):=by
 rcases b with⟨rfl,rfl⟩|⟨c,rfl⟩
 ·rfl
 ·simp
theorem Vv{h:J}{n n0 e z:Nat}{c:Type}{f:c→List D}{l:List c}{d:D}(b:Own h n0 e z (l.map f) d)(k:∀a∈l,∀d∈f a,snap h n d=d):aR z f l (snap h (n+1) d):=by
 rcases b with⟨rfl,j⟩|⟨p,o,rfl,i⟩
 ·exact .inl ⟨rfl,by simpa using j⟩
 ·right;refine⟨false,?_⟩;simp only[snap,i,gx,j9];rw[lL λq m=>lL λd b=>by
   obtain⟨a,g,rfl⟩:=e8.1 m;exact k a g d b]
theorem IH{a:Type}(l:List a)(v:Int)(b:0≤v)(c:v<l.length):∃s,s∈l∧l[v.toNat]?=some s:=by
 have:v.toNat<l.length:=by omega
 exact⟨l[v.toNat],ou _,cJ this⟩
theorem Qw{k:IntKind}{zs:List Int}{d:D}(a:kM k zs d)(n:Nat):Ok n d:=by
 rcases a with⟨rfl,_⟩|rfl
 ·exact .aB
 ·refine .sl _ _ _ λc b d a=>?_
  simp only[ints,e8]at b;obtain⟨e,_,rfl⟩:=b;simp at a;subst a;exact .int _ _
theorem Own.same{h h':J}{n0 e z o:Nat}{rows:List (List D)}{d:D}(a:Own h n0 e z rows d)(b:bW o h h')(f:o<n0):Own h' n0 e z rows d:=a.bH λc g _=>b.2 c (by omega)
def Wp{b:Type}(x:Option b)(Q:b→Prop):Prop:=∃a,x=some a∧Q a
theorem Wp.some{b:Type}{a:b}{Q:b→Prop}(h:Q a):Wp (some a) Q:=⟨a,rfl,h⟩
theorem Wp.bind{b c:Type}{x:Option b}{f:b→Option c}{P:b→Prop}{Q:c→Prop}(h:Wp x P)(k:∀a,P a→Wp (f a) Q):Wp (x.bind f) Q:=by
 obtain⟨a,rfl,d⟩:=h;exact k a d
theorem Wp.step{b c:Type}{x:Option b}{a:b}{f:b→Option c}{Q:c→Prop}(h:x=Option.some a)(k:Wp (f a) Q):Wp (x.bind f) Q:=by
 subst h;exact k
theorem Wp.dS{a:Type}{b:Bool}{x y:Option a}{Q:a→Prop}(c:b=true→Wp x Q)(d:b=false→Wp y Q):Wp (S (.bool b) x y) Q:=by
 cases b
 ·exact d rfl
 ·exact c rfl
theorem Wp.join{c d:Type}{b:Bool}{x y:Option c}{f:c→Option d}{P:c→Prop}{Q:d→Prop}(e:b=true→Wp x P)(g:b=false→Wp y P)(k:∀a,P a→Wp (f a) Q):Wp ((S (.bool b) x y).bind f) Q:=Wp.bind (Wp.dS e g) k
theorem Wp.mono{b:Type}{x:Option b}{P Q:b→Prop}(h:Wp x P)(k:∀a,P a→Q a):Wp x Q:=by
 obtain⟨a,rfl,c⟩:=h;exact⟨a,rfl,k a c⟩
theorem Wp.e7{a:Type}{p:Prop}{x:Option a}{Q:a→Prop}(b:p)(h:Wp x Q):Wp (e7 p x) Q:=by
 rw[ke p x b];exact h
theorem Wp.loop{l:Type}{B:List D→J→Option bN}{ds:List D}{h:J}{f:bN→Option l}{Q:l→Prop}(a:Nat→List D→J→Prop)(c:bN→Prop)(n:Nat)(m:a n ds h)
  (step:∀k ds h,a k ds h→Wp (B ds h) λr=>(r.1 = .aS∧∃j,j<k∧a j r.2.1 r.2.2)∨(r.1 ≠ .aS∧c r)) (k:∀r,c r→Wp (f r) Q):Wp ((cA B ds h).bind f) Q:=by
 obtain⟨b,g,i,d,e⟩:=Sk a (λb ds h=>c (b,ds,h)) (λk ds h o=>by
  obtain⟨⟨b,g,i⟩,d,e⟩:=step k ds h o;exact⟨b,g,i,d,e⟩) n ds h m
 rw[d];exact k _ e
theorem sX{T:cT}{t e:Nat}{i j:TI}(q:T t=Option.some i)(hi:i.td = .sl e)(n:T e=Option.some j)(u:0<j.Y){h:J}{n0:Nat}(p:n0≤h.length){rows:List (List D)}{x y:D}(r:Own h n0 e j.Y rows x)
  {ys:List (List D)} (s:jH h j.Y y=Option.some ys) (o:lim (rows.length+ys.length) j.gI=true) {b:Type} {f:D × J→Option b} {Q:b→Prop}
  (k:∀x' h',Own h' n0 e j.Y (rows++ys) x'→h.length≤h'.length→(∀a,a<n0→h'[a]?=h[a]?)→(∀a,a<h.length→¬x.e9 a→h'[a]?=h[a]?)→(∀a,x'.e9 a→x.e9 a∨h.length≤a)→Wp (f (x',h')) Q):Wp ((cW T h t t x y).bind f) Q:=by
 obtain⟨x',h',e,c,d,g,l,m⟩:=KU q hi n u p r s o;rw[e];exact k x' h' c d g l m
theorem lP{n:Nat}{h:J}{o T Y kk off:Nat}{rows:List (List D)}{row:List D}{v:D}(a:h[o]?=Option.some (.row T Y rows))(l:rows[kk]?=Option.some row)(m:(cP v).length=n)(g:off+n≤row.length)(e:v.fT=true){b:Type}{f:J→Option b}{Q:b→Prop}
  (k:∀h',h'[o]?=Option.some (.row T Y (rows.set kk (dQ row off (cP v))))→bW o h h'→Wp (f h') Q):Wp ((jL n h (.ptr o kk off) v).bind f) Q:=by
 have i:=(bO.1 a).1;have c:jL n h (.ptr o kk off) v=Option.some (h.set o (.row T Y (rows.set kk (dQ row off (cP v))))):=by
  subst m;have d:Nat.ble (off+(cP v).length) row.length=true:=jX g;simp only[jL,a,l,Nat.beq_refl,d,e,Bool.and_true]
 rw[c];exact k _ (by simp[i]) ⟨by simp,λp j=>jS (Ne.symm j)⟩
@[simp] theorem FV(T:cT)(t:Nat)(k:IntKind)(a b:Int):V T .and t (.int k a) (.int k b)=Option.some (.int k (k.wrap (BitVec.ofInt k.bits a &&& BitVec.ofInt k.bits b).toNat)):=by simp[V,iN]
@[simp] theorem WQ(T:cT)(t:Nat)(k:IntKind)(a b:Int):V T .or t (.int k a) (.int k b)=Option.some (.int k (k.wrap (BitVec.ofInt k.bits a ||| BitVec.ofInt k.bits b).toNat)):=by simp[V,iN]
@[simp] theorem WT(T:cT)(t:Nat)(k:IntKind)(a b:Int):V T .xor t (.int k a) (.int k b)=Option.some (.int k (k.wrap (BitVec.ofInt k.bits a ^^^ BitVec.ofInt k.bits b).toNat)):=by simp[V,iN]
@[simp] theorem WW(k:IntKind)(a:Int):fx .neg (.int k a)=Option.some (.int k (k.wrap (0 - a))):=id rfl
@[simp] theorem WX(k:IntKind)(a:Int):fx .xor (.int k a)=Option.some (.int k (k.wrap (BitVec.ofInt k.bits (if k.signed then -1 else k.max) ^^^ BitVec.ofInt k.bits a).toNat)):=id rfl
theorem dT{h:J}{o T Y kk:Nat}{rows:List (List D)}(a:h[o]?=Option.some (.row T Y rows)):h.row o kk=rows[kk]?:=by simp[J.row,a]
theorem BZ{h:J}{n0 e z:Nat}{rows:List (List D)}{d:D}(a:Own h n0 e z rows d){i:Nat}(hi:i<rows.length):∃b,n0≤b∧d = .aO z b 0 rows.length∧h[b]?=Option.some (.row e z rows):=by
 rcases a with⟨rfl,rfl⟩|⟨g,f,a,c⟩
 ·simp at hi
 ·exact⟨g,f,a,c⟩
@[simp] theorem r7(T:cT)(o i f:Nat):hd T (.ptr o i f)=Option.some (.ptr o i f):=id rfl
@[simp] theorem vw(T:cT)(t:Nat)(k k2:IntKind)(a b:Int):V T .shr t (.int k a) (.int k2 b)=if b<0 then none else some (.int k (a.fdiv (2 ^ (min b.toNat k.bits)))):=id rfl
@[simp] theorem WR(T:cT)(t:Nat)(k k2:IntKind)(a b:Int):V T .shl t (.int k a) (.int k2 b)=if b<0 then none else some (.int k (k.wrap (a*2 ^ (min b.toNat k.bits)))):=id rfl
theorem LV(T:cT)(t:Nat)(s a:List UInt8)(h:s.length+a.length≤9223372036854775807):V T .add t (.str s) (.str a)=some (.str (s++a)):=bE h
theorem JI{T:cT}{t e z:Nat}{i j:TI}(m:T t=some i)(hi:i.td = .sl e)(h:T e=some j)(o:j.Y=z){c:Type}{f:c→List D}{l:List c}{d:D}(g:aR z f l d){k:IntKind}{n:Int}(a:0≤n)(b:n≤l.length):
  ∃d',gj T t false true false [d,.int k n]=some d'∧aR z f (l.take n.toNat) d':=by
 simp only[gj,gZ,W,kg,m,hi,h];rcases g with⟨rfl,rfl⟩|⟨p,rfl⟩
 ·have:n=0:=by simpa using Int.le_antisymm b a
  subst this;exact⟨_,rfl,.inl ⟨rfl,rfl⟩⟩
 ·simp[o,a,b];right;exact⟨_,by rw[u7]⟩
theorem Vt{T:cT}{t e z:Nat}{i j:TI}(m:T t=some i)(hi:i.td = .sl e)(h:T e=some j)(o:j.Y=z){c:Type}{f:c→List D}{l:List c}{d:D}(g:aR z f l d){k:IntKind}{n:Int}(a:0≤n)(b:n≤l.length):
  ∃d',gj T t true false false [d,.int k n]=some d'∧aR z f (l.drop n.toNat) d':=by
 simp only[gj,gZ,W,kg,m,hi,h];rcases g with⟨rfl,rfl⟩|⟨p,rfl⟩
 ·have:n=0:=by simpa using Int.le_antisymm b a
  subst this;exact⟨_,rfl,.inl ⟨rfl,rfl⟩⟩
 ·simp[o,a,b];right;refine⟨_,gi _ ?_⟩;rw[List.map_drop,iz (by simp)]
theorem Qu{T:cT}{t e:Nat}{i j:TI}(g:T t=some i)(hi:i.td = .sl e)(f:T e=some j)(h:j.Y=1){k:IntKind}{zs:List Int}{d:D}(c:kM k zs d){k2:IntKind}{n:Int}(a:0≤n)(b:n≤zs.length):
  ∃d',gj T t false true false [d,.int k2 n]=some d'∧kM k (zs.take n.toNat) d':=by
 simp only[gj,gZ,W,kg,g,hi,f];rcases c with⟨rfl,rfl⟩|rfl
 ·have:n=0:=by simpa using Int.le_antisymm b a
  subst this;exact⟨_,rfl,.inl ⟨rfl,rfl⟩⟩
 ·simp[h,a,b,ints];right;simp[ints]
theorem j5{d:D}(h:d.one=true):cP d=[d]∧d.fT=true:=by cases d<;>first|exact⟨rfl,rfl⟩|(simp[D.one]at h)
theorem I9:∀(ds:List D) (k:Nat),(∀d∈ds,d.one=true)→p5 1 k (List.range' k ds.length) ds=Option.some (ds.map λd=>[d])
 |[],k,_=>rfl
 | d::ds,k,h=>by
  have a:=j5 (h d (by simp));have c:=I9 ds (k+1) λe b=>h e (by simp[b])
  simp[List.range'_succ,p5,a.1,a.2,c]
theorem Se{T:cT}{t n e:Nat}{i j:TI}(h:T t=Option.some i)(hi:i.td = .sl e)(b:T e=Option.some j)(k:j.Y=1)(ds:List D)(f:ds.length=n)(g:n≤16777216)(c:∀d∈ds,d.one=true):bJ T t n (List.range n) ds=Option.some (.sl 1 true (ds.map λd=>[d])):=by
 subst f;have a:(Nat.blt 0 1&&Nat.ble (ds.length*1) 16777216&&Nat.beq (List.range ds.length).length ds.length)=true:=by
  simp only[Nat.mul_one,u6,eO];exact⟨⟨rfl,jX g⟩,Nat.beq_refl _⟩
 simp only[bJ,mU,h,hi,b,k,a];rw[List.range_eq_range',I9 ds 0 c];rfl
theorem Qx{k:IntKind}{zs:List Int}{d:D}(a:kM k zs d):d.one=true:=by
 rcases a with⟨rfl,_⟩|rfl<;>rfl
theorem so(e Y:Nat)(h:J)(cs:List D)(a:cs.length=Y)(b:0<Y):py e Y h (.agg cs)=some (.ptr h.length 0 0,aZ h e Y [cs]):=by
 simp[py,D.fT,cP,a,b]
theorem mS(k:IntKind)(n:Int):cP (.int k n)=[.int k n]:=id rfl
theorem mT(s:List UInt8):cP (.str s)=[.str s]:=id rfl
theorem mR(b:Bool):cP (.bool b)=[.bool b]:=id rfl
theorem mQ(cs:List D):cP (.agg cs)=cs:=id rfl
theorem yF{T:cT}{t:Nat}{i:TI}{fs:List (Nat × Nat × Nat)}(b:T t=Option.some i)(hi:i.td = .st fs){a:List Nat}{ds cs:List D}(h:lD fs i.zero a ds=Option.some cs):eX T t a ds=Option.some (.agg cs):=by
 simp only[eX,b,hi,h,W]
theorem ng{fs:List (Nat × Nat × Nat)}{cs:List D}{i:Nat}{a:List Nat}{d:D}{ds:List D}{h off Y:Nat}(e:fs[i]?=Option.some (h,off,Y))(h2:(cP d).length=Y)(f:off+Y≤cs.length)(g:d.fT=true):
  lD fs cs (i::a) (d::ds)=lD fs (dQ cs off (cP d)) a ds:=by
 have b:Nat.beq (cP d).length Y=true:=by rw[h2];exact Nat.beq_refl Y
 have c:Nat.ble (off+Y) cs.length=true:=jX f;simp only[lD,e,b,c,g,uM]
theorem Rc{T:cT}{t e n z:Nat}{i j:TI}(g:T t=Option.some i)(hi:i.td = .arr n e)(c:T e=Option.some j)(h:j.Y=z)(f:0<z){cs:List D}{k:IntKind}{v:Int}(a:0≤v)(b:v<(n:Int))(d:v.toNat*z<cs.length):
  aQ T t (.aI cs) (.int k v)=Option.some (.aI (cs.drop (v.toNat*z))):=by
 simp[aQ,oK,g,hi,c,h,a,b,f,d]
theorem TE{T:cT}{t e z o r n:Nat}{i j:TI}(f:T t=some i)(hi:i.td = .sl e)(c:T e=some j)(g:j.Y=z)(d:0<z){k:IntKind}{m:Nat}(h:m<n)(_:0≤m):
  gj T t true false false [.aO z o r n,.int k m]=some (.aO z o (r+m) (n - m)):=by
 have l:(0:Int)≤(m:Int)∧(m:Int)≤(n:Int)∧(n:Int)≤(n:Int):=by omega
 have a:(m:Int)<(n:Int):=by omega
 have b:((n:Int) - (m:Int)).toNat=n - m:=by omega
 have p:¬(n<m):=by omega
 simp[gj,gZ,kg,f,hi,c,g,d,a,b];omega
theorem Ir{T:cT}{t e z o r n:Nat}{i j:TI}(d:T t=some i)(hi:i.td = .sl e)(b:T e=some j)(f:j.Y=z)(c:0<z){k:IntKind}{m:Nat}(a:m≤n):
  gj T t false true false [.aO z o r n,.int k m]=some (.aO z o r m):=by
 have g:(m:Int)≤(n:Int):=by omega
 simp[gj,gZ,kg,d,hi,b,f,c,a]
theorem LG{T:cT}{t e o r n:Nat}{i j:TI}(f:T t=some i)(hi:i.td = .sl e)(b:T e=some j)(d:0<j.Y){h:J}{U:Nat}{rows:List (List D)}(c:h[o]?=some (.row U j.Y rows))(k:0<n):
  ∃z,p3 T h t (.aO j.Y o r n)=some (.bZ [],h.set o (.row U j.Y (rows.take r++z))):=by
 have g:Nat.blt 0 j.Y=true:=jX d;obtain⟨a,rfl⟩:∃a,n=a+1:=⟨n - 1,by omega⟩
 refine⟨List.replicate (a+1) j.zero++rows.drop (r+(a+1)),?_⟩;simp[p3,f,hi,b,g,c]
theorem Wp.val{b:Type}{x:Option b}{a:b}(h:Wp x λp=>p=a):x=Option.some a:=by
 obtain⟨p,c,rfl⟩:=h;exact c
theorem iR{a:Type}{l:List a}{n:Nat}(h:n<l.length):∃x,l[n]?=Option.some x:=⟨_,cJ h⟩
theorem fD(n:Nat)(h:n<9223372036854775807):IntKind.wrap .i64 ((n:Int)+1)=((n+1:Nat):Int):=by
 rw[cN (by omega) (by omega)];omega
theorem gS{a b:Nat}(h:decide ((a:Int)<(b:Int))=true):a<b:=by
 have:=BU h;omega
end Go.Pi
namespace Go.Eng
abbrev E3:=@List.mem_iff_getElem?
end Go.Eng
namespace Go.Pi
open Go.Eng Go.ChangeShapes Go.WideShapes Go.ChangeAt Go.RowKit Go.Deep
def xj(P:Program):Nat→List Field→Nat→Bool
 |a,[],n=>Nat.beq a n
 |a,f::r,n=>Nat.beq f.offset a&&xj P (a+P.cellsOf f.type) r n
def sS(P:Program):Nat→TypeId→Bool
 |0,_=>false
 | m+1,t=>match P.underlying t with
  |some .bool=>true
  |some (.int _)=>true
  |some .string=>true
  |some (.slice e)=>sS P m e&&Nat.ble 1 (P.cellsOf e)
  |some (.struct fs)=>xj P 0 fs.toList (P.cellsOf t)&&fs.toList.all λf=>sS P m f.type
  |_=>false
def gG(P:Program):Nat→TypeId→List D→Prop
 |0,_,_=>False
 | m+1,t,ds=>match P.underlying t with
  |some .bool=>∃b,ds=[.bool b]
  |some (.int k)=>∃z,ds=[.int k z]∧(Lit.int k z).wf=true
  |some .string=>∃s:List UInt8,ds=[.str s]∧s.length≤9223372036854775807
  |some (.slice e)=>ds=[.aB]∨∃rows,ds=[.sl (P.cellsOf e) false rows]∧rows.length≤9223372036854775807∧∀row∈rows,gG P m e row
  |some (.struct fs)=>ds.length=P.cellsOf t∧∀f∈fs.toList,gG P m f.type ((ds.drop f.offset).take (P.cellsOf f.type))
  |_=>False
section
variable {H:Type} {enc:TypeId × Value→H} {P:Program} {W:World}
theorem J4{g:Gh}{cs:List Value}{Q:Field→List D→Prop}:∀(l:List Field) (a:Nat),xj P a l cs.length=true→(∀f∈l,∃ds,cC g ((cs.drop f.offset).take (P.cellsOf f.type)) ds∧Q f ds∧∀d∈ds,d.one=true) →
  a≤cs.length∧∃ds,cC g (cs.drop a) ds∧(∀f∈l,a≤f.offset∧Q f ((ds.drop (f.offset - a)).take (P.cellsOf f.type)))∧∀d∈ds,d.one=true
 | [],a,h,_=>by
  have:a=cs.length:=ib h;subst this;exact⟨aX _,[],by simpa using cC.nil,λf s=>by simp at s,λd b=>by simp at b⟩
 | f::w,a,h,m=>by
  simp only[xj,eO]at h;have o:f.offset=a:=ib h.1;obtain⟨x,j,p,q,r⟩:=J4 w (a+P.cellsOf f.type) h.2 λc e=>m c (by simp[e])
  obtain⟨i,k,t,u⟩:=m f (by simp);rw[o]at k;have n:i.length=P.cellsOf f.type:=by
   rw[← k.length];simp;omega
  refine⟨by omega,i++j,?_,?_,?_⟩
  ·have:cs.drop a=(cs.drop a).take (P.cellsOf f.type)++cs.drop (a+P.cellsOf f.type):=by
     rw[← List.drop_drop,jU]
   rw[this];exact k.append p
  ·intro c e;rcases dW.1 e with rfl|e
   ·refine⟨by omega,?_⟩;rw[o,Nat.sub_self,gx,← n,List.take_left];exact t
   ·obtain⟨y,v⟩:=q c e;refine⟨by omega,?_⟩;have:(i++j).drop (c.offset - a)=j.drop (c.offset - (a+P.cellsOf f.type)):=by
     rw[sE,ot (by omega),jE,n];congr 1;omega
    rw[this];exact v
  ·intro d b;rcases eI.1 b with b|b
   ·exact u d b
   ·exact r d b
theorem Qt:∀ (m:Nat) (t:TypeId),sS P m t=true→∀(aa:Nat) (cs:List Value) (x:DataW H × List MemPlace),DataW.trod enc P W 0 (λ_=>true) true aa t cs=some x→∃ds,cC (Gh.all W) cs ds∧gG P m t ds∧∀d∈ds,d.one=true:=by
 intro m
 induction m with
 |zero=>intro t C;cases C
 | succ m af =>
  intro t p aa cs x G;unfold sS at p;unfold gG;split at p
  ·rename_i r;obtain⟨z,rfl,rfl⟩:=DataW.trod_bool r G;exact⟨[.bool z],.cons (.bool z) .nil,by exact⟨z,rfl⟩,by simp[D.one]⟩
  ·rename_i ag r;obtain⟨y,rfl,rfl,N⟩:=DataW.trod_int r G;exact⟨[.int ag y],.cons (.int ag y) .nil,by exact⟨y,rfl,N⟩,by simp[D.one]⟩
  ·rename_i r;obtain⟨B,rfl,rfl,N⟩:=DataW.trod_string r G;have aq:B=⟨B.data.toList.toArray⟩:=by cases B;simp
   refine⟨[.str B.data.toList],.cons ?_ .nil,by exact⟨_,rfl,by simpa[maxLen]using N⟩,by simp[D.one]⟩;have:aM (Gh.all W) (.string ⟨B.data.toList.toArray⟩) (.str B.data.toList) :=.str _
   rwa [← aq]at this
  ·rename_i i r;simp only[eO]at p;have a0:1≤P.cellsOf i:=eW p.2;rcases open_slice r G with⟨rfl,_⟩|⟨n,l,ai,au,y,ax,ay,rfl,_,L,ad,ao,_,al⟩
   ·exact⟨[.aB],.cons .aB .nil,by exact .inl rfl,by simp[D.one]⟩
   ·have az:l≤au:=by rw[ao];simp;exact L
    have aj:∀a,a<l→∃f:List Value × List D,W.cells? 0 (n.add (a*P.cellsOf i)) (P.cellsOf i)=some f.1∧cC (Gh.all W) f.1 f.2∧gG P m i f.2∧∀d∈f.2,d.one=true:=λa c=>by
     obtain⟨T,b,k⟩:=al a (by omega);obtain⟨ds,j,K,ak⟩:=af i p.1 y T _ k;exact⟨(T,ds),b,j,K,ak⟩
    obtain⟨f,q⟩:=choose_lt aj;have E:∀(a:Nat) (h:List D),((List.range l).map λa=>(f a).2)[a]?=some h→a<l∧h=(f a).2:=λa h c=>by
     simp only[dH]at c;cases v:(List.range l)[a]? with
     |none=>rw[v]at c;cases c
     | some e =>
      rw[v]at c;have M:=(bO.1 v).1;have an:e=a:=by
       have:=(bO.1 v).2;simpa using this.symm
      subst an;simp at c;exact⟨by simpa using M,c.symm⟩
    have A:∀a,a<l→(f a).1.length=P.cellsOf i∧∀e,e<P.cellsOf i→W.cell? ((n.add (a*P.cellsOf i)).add e)=(f a).1[e]?:=λa c=>by
     obtain⟨_,k,j⟩:=World.cells?_some (q a c).1;exact⟨k,λe o=>j e o⟩
    have ae:0<l→n.spot=none∧(Gh.all W).fz n.block:=λu=>by
     have b:∃R,W.cell? ((n.add (0*P.cellsOf i)).add 0)=some R:=by
      rw[(A 0 u).2 0 (by omega)];exact⟨_,cJ (by rw[(A 0 u).1];omega)⟩
     obtain⟨R,b⟩:=b;have k:=Fj b;have j:n.spot=none:=by simpa[Addr.add]using k
     refine⟨j,?_,λC=>C⟩;have K:W.cell? n=some R:=by simpa[Addr.add]using b
     obtain⟨z,ah,av⟩:=n;simp only at j;subst j;exact sV W _ K
    refine⟨[.sl (P.cellsOf i) false ((List.range l).map λa=>(f a).2)],.cons (.sl n l ai _ false _ (by simp) L (by simpa[maxLen]using ad) (λC=>by cases C) (by omega) ?_ (λap=>?_) (λa e=>((f a).1[e]?).getD undef) (λa h c e d o=>?_) (λa h c e d o=>?_) λa h c e d o=>?_) .nil,?_,by simp[D.one]⟩
    ·intro h v;obtain⟨a,c⟩:=lv v;obtain⟨b,rfl⟩:=E a h c;rw[← (q a b).2.1.length,(A a b).1]
    ·refine ae ?_;rcases pU l with u|u
     ·subst u;simp at ap
     ·exact u
    ·obtain⟨b,rfl⟩:=E a h c;have w:e<P.cellsOf i:=by
      have:=(bO.1 o).1;rw[← (q a b).2.1.length,(A a b).1]at this;exact this
     have k:=(A a b).2 e w;have u:0<l:=by omega
     obtain⟨z,ah,av⟩:=n;obtain⟨j,_⟩:=ae u;simp only at j;subst j;rw[cJ (by rw[(A a b).1];omega)]at k ⊢;rw[add_add,jl]at k;show W.cell? ⟨z,ah+a*P.cellsOf i+e,none⟩=_;rw[nM];exact k
    ·obtain⟨b,rfl⟩:=E a h c;have w:=(bO.1 o).1;rw[← (q a b).2.1.length]at w;have F:(f a).1[e]?=some (f a).1[e]:=cJ w;rw[F];exact((q a b).2.1.get e _ d F o).one ((q a b).2.2.2 d (eS o))
    ·obtain⟨b,rfl⟩:=E a h c;have w:=(bO.1 o).1;rw[← (q a b).2.1.length]at w;have F:(f a).1[e]?=some (f a).1[e]:=cJ w;rw[F];exact(q a b).2.1.get e _ d F o
    ·refine .inr ⟨_,rfl,by simp;simpa[maxLen]using hX L ad,λh v=>?_⟩;obtain⟨a,c⟩:=lv v;obtain⟨b,rfl⟩:=E a h c;exact(q a b).2.2.1
  ·rename_i X r;simp only[eO,gg]at p;obtain⟨aw,y,rfl,_,ac,ar,am⟩:=DataW.trod_struct r G;rw[← ac]at p;obtain⟨_,ds,b,k,j⟩:=J4 (g:=Gh.all W) (Q:=λs ds=>gG P m s.type ds) X.toList 0 p.1 λs I=>by
    obtain⟨a,c⟩:=lv I;have ab:X[a]?=some s:=by simpa using c
    have M:a<aw.length:=by
     rw[ar];exact(iI.1 ab).1
    have b:=am a s ab;rw[cJ M]at b;exact af s.type (p.2 s I) y _ _ b
   refine⟨ds,by simpa using b,?_,j⟩;refine⟨by rw[← b.length];simp[ac],λs I=>by simpa using(k s I).2⟩
  ·cases p
theorem Qs{t:TypeId}(m:Nat)(n:sS P m t=true){cs:Array Value}{d:DataW H}{p:List MemPlace}(h:DataW.Trod enc P W 0 (λ_=>true) true t (.agg cs) d p):∃ds,aM (Gh.all W) (.agg cs) (.agg ds)∧gG P m t ds:=by
 obtain⟨f,l⟩:=h;obtain⟨ds,a,i,j⟩:=Qt m t n f _ _ l;have k:(Value.agg cs).cells.toList=cs.toList:=by simp[Value.cells]
 rw[k]at a;refine⟨ds,?_,i⟩;have:=aM.agg (g:=Gh.all W) cs.toList ds a.length (λq o=>by
  obtain⟨b,e⟩:=E3.1 o;have r:=(bO.1 e).1;have c:ds[b]?=some (ds[b]'(by have:=a.length;omega)):=cJ _;exact(a.get b q _ e c).one (j _ (eS c))) a.get
 simpa using this
theorem Ff{t e:TypeId}{m:Nat}{x:D}(c:P.underlying t=some (.slice e))(h:gG P (m+1) t [x]):x = .aB∨∃rows,x = .sl (P.cellsOf e) false rows∧rows.length≤9223372036854775807∧∀row∈rows,gG P m e row:=by
 unfold gG at h;rw[c]at h;rcases h with h|⟨rows,a,b⟩
 ·left;simpa using h
 ·right;exact⟨rows,by simpa using a,b⟩
theorem q5{t:TypeId}{m:Nat}{ds:List D}(a:P.underlying t=some .string)(h:gG P (m+1) t ds):∃s:List UInt8,ds=[.str s]∧s.length≤9223372036854775807:=by
 unfold gG at h;rw[a]at h;exact h
theorem oE{t:TypeId}{k:IntKind}{m:Nat}{ds:List D}(a:P.underlying t=some (.int k))(h:gG P (m+1) t ds):∃z,ds=[.int k z]∧(Lit.int k z).wf=true:=by
 unfold gG at h;rw[a]at h;exact h
theorem vn{t:TypeId}{fs:Array Field}{m:Nat}{ds:List D}(a:P.underlying t=some (.struct fs))(h:gG P (m+1) t ds):ds.length=P.cellsOf t∧∀f∈fs.toList,gG P m f.type ((ds.drop f.offset).take (P.cellsOf f.type)):=by
 unfold gG at h;rw[a]at h;exact h
end
end Go.Pi
namespace Go.Eng
abbrev yo:=@Option.some.inj
end Go.Eng
namespace Go.Pi
open Go.Eng Go.ChangeShapes Go.WideShapes Go.ChangeAt Go.RowKit
theorem QB{P:Program}{f:World}{v:String}{g t n e:Nat}{k:IntKind}{zs:List Int}{laid:List (String × DataW Unit)}(s:P.globalNamed v=some g)(M:(P.globals[g]?).map (·.type)=some t)(Q:P.underlying t=some (.array n e))
  (D:P.underlying e=some (.int k)) (B:P.cellsOf e=1) (L:(laid.all λx=>x.2.handleName?.isNone)=true) (I:laid=[(v,.agg (zs.map λz =>.lit (.int k z)))]) (h:laidMetH P laid f) :
  aM (Gh.all f) (.pointer (some ⟨g,0,none⟩)) (.aI (zs.map λz =>.int k z)):=by
 rw[MakeChecks.laidMetH_plain _ _ _ L]at h;subst I;obtain⟨af,⟨X,ai,m,W,ae,ag,F,N,R,C,_,_⟩,_,_⟩:=h;obtain rfl:=yo (s.symm.trans F);obtain rfl:=yo (M.symm.trans N);obtain⟨i,ad,rfl,l,aa,ab,E⟩:=DataW.trod_array Q C;simp only[vh,DataW.agg.injEq]at l;have ac:zs.length=i.length:=by
  have:=gi List.length l.1;simpa using this
 have r:∀(b:Nat) (z:Int),zs[b]?=some z→f.cell? ⟨g,b,none⟩=some (.int k z):=λb z c=>by
  have H:b<n:=by
   have:=(bO.1 c).1;omega
  have u:i[b]?=some i[b]:=cJ (by omega);have p:=E b H;rw[u,B,Nat.mul_one]at p;obtain⟨j,w,y,_⟩:=DataW.trod_int D p;have T:j=z:=by
   have q:(i.map (·.1))[b]?=some (.lit (.int k j)):=by rw[dH,u,y];rfl
   rw[← l.1,dH,c]at q;simpa using q.symm
  subst T;rw[World.var?_cell s R b];have A:(m.toList.drop b)[0]?=some (.int k j):=by
   have:((m.toList.drop b).take 1)[0]?=some (.int k j):=by rw[w];rfl
   rw[fF]at this;simpa using this
  simpa using A
 refine .aI g 0 _ (λd =>.int k (zs.getD d 0)) (λK=>⟨?_,λG=>G⟩) (λd o a=>?_) (λd o a=>rfl) (λd o a=>?_)
 ·cases zs with
  |nil=>simp at K
  |cons z ah=>exact sV f _ (r 0 z rfl)
 ·rw[dH]at a;cases c:zs[d]? with
  |none=>rw[c]at a;cases a
  | some z =>
   rw[dF];show f.cell? ⟨g,d,none⟩=_;rw[r d z c,qW,c];rfl
 ·rw[dH]at a;cases c:zs[d]? with
  |none=>rw[c]at a;cases a
  | some z =>
   rw[c]at a;simp at a;subst a;rw[qW,c];exact .int k z
end Go.Pi
namespace Go.Pi
open Go.Eng
inductive MO where
 |mp (n:Nat) (f:Int→Option Int)
 |it (m n:Nat) (f:Int→Option Int) (left:Int→Bool) (cur:Option (Int × Int))
abbrev Mp:=Nat→Option MO
def Mp.set(M:Mp)(b:Nat)(o:MO):Mp:=λa=>if a=b then some o else M a
def Mp.my(M:Mp)(b:Nat)(o:MO):Mp:=λc=>if c=b then some o else match M c with
 |some (.it a g e f d)=>if a=b then none else some (.it a g e f d)
 |y=>y
def M0:Mp:=λ_=>none
def dZ(x:Int):Prop := -9223372036854775808≤x∧x≤9223372036854775807
instance (x:Int):Decidable (dZ x):=by unfold dZ;exact inferInstance
open Classical in
noncomputable def sW{b:Type}(f:b→Option Unit):Option Unit:=if ∀a,f a=some ()then some ()else none
open Classical in
noncomputable def rY(p:Prop)(x:Option Unit):Option Unit:=if p then x else some ()
theorem oG{b:Type}{f:b→Option Unit}:sW f=some ()↔∀a,f a=some ():=by
 unfold sW;split<;>simp_all
theorem nj{p:Prop}{x:Option Unit}:rY p x=some ()↔(p→x=some ()):=by
 unfold rY;split<;>simp_all
theorem rh{p:Prop}{x:Option Unit}:e7 p x=some ()↔p∧x=some ():=by
 unfold e7;split<;>simp_all
abbrev MK:=D→Mp→Option Unit
noncomputable def wK(M:Mp)(b:MK):Option Unit:=sW λa=>rY (M a=none) (b (.raw (.map (some a))) (M.set a (.mp 0 λ_=>none)))
noncomputable def ub(M:Mp)(e f:D)(g:Bool)(c:MK):Option Unit:=match e,f with
 | .raw (.map (some d)),.int .i64 a=>match M d with
  | some (.mp _ b)=>e7 (dZ a) (match g with
   |true=>c (.bZ [.int .i64 ((b a).getD 0),.bool (b a).isSome]) M
   |false=>c (.int .i64 ((b a).getD 0)) M)
  |_=>none
 |_,_=>none
noncomputable def r4(M:Mp)(g h dv:D)(f:MK):Option Unit:=match g,h,dv with
 | .raw (.map (some a)),.int .i64 c,.int .i64 b=>match M a with
  |some (.mp d i)=>e7 (dZ c∧dZ b∧d<1000000000) (f .bU (M.my a (.mp (d+1) λe=>if e=c then some b else i e)))
  |_=>none
 |_,_,_=>none
noncomputable def ud(M:Mp)(e:D)(d:MK):Option Unit:=match e with
 | .raw (.map (some b))=>match M b with
  |some (.mp f c)=>sW λa=>rY (M a=none) (d (.raw (.pointer (some ⟨a,0,none⟩))) (M.set a (.it b f c (λg=>(c g).isSome) none)))
  |_=>none
 |_=>none
noncomputable def uc(M:Mp)(h:D)(d:MK):Option Unit:=match h with
 | .raw (.pointer (some ⟨f,0,none⟩))=>match M f with
  |some (.it g i e c _)=>(rY (∀b,dZ b→c b=false) (d (.bZ [.bool false]) M)).bind λ_ =>
    sW λa:Int × Int=>rY (dZ a.1∧dZ a.2∧c a.1=true∧e a.1=some a.2) (d (.bZ [.bool true,.int .i64 a.1,.int .i64 a.2]) (M.set f (.it g i e (λb=>c b && !(b==a.1)) (some a))))
  |_=>none
 |_=>none
noncomputable def ua(M:Mp)(c:D)(b:MK):Option Unit:=match c with
 | .raw (.pointer (some ⟨d,0,none⟩))=>match M d with
  |some (.it _ _ _ _ (some a))=>b (.bZ [.int .i64 a.1,.int .i64 a.2]) M
  |_=>none
 |_=>none
def Hf:Op→Bool
 |.makeMap _ _=>true
 |.lookup _ _ _ _=>true
 |.mapUpdate _ _ _ _=>true
 |.range _ _=>true
 |.next _ _=>true
 |.entry _=>true
 |_=>false
noncomputable def BN(X:Cx)(mt:Nat)(j:Op)(e:DE)(M:Mp)(b:MK):Option Unit:=match j with
 | .makeMap t none=>match Nat.beq t mt with
  |true=>wK M b
  |false=>none
 | .lookup t c g i=>match Nat.beq t mt,je X e c,je X e g with
  |true,some a,some d=>ub M a d i b
  |_,_,_=>none
 | .mapUpdate t c g k=>match Nat.beq t mt,je X e c,je X e g,je X e k with
  |true,some a,some d,some h=>r4 M a d h b
  |_,_,_,_=>none
 | .range t c=>match Nat.beq t mt,je X e c with
  |true,some a=>ud M a b
  |_,_=>none
 | .next f false=>match je X e f with
  |some a=>uc M a b
  |none=>none
 | .entry f=>match je X e f with
  |some a=>ua M a b
  |none=>none
 |_=>none
noncomputable def ue(X:Cx)(f:dP)(b:Nat)(fz c:List Nat)(mt:Nat)(l:List Oper):List Oper→DE→J→Mp→(DE→J→Mp→Option Unit)→Option Unit
 |[],e,h,M,a=>a e h M
 | o::r,e,h,M,a=>match Hf o.op with
  | true=>match o.guard with
   |none=>BN X mt o.op e M λd g=>iQ b o.dst d e h λe' h'=>ue X f b fz c mt l r e' h' g a
   |some _=>none
  |false=>lj X f b fz c l o e h λe' h'=>ue X f b fz c mt l r e' h' M a
structure nL (P:Program) (t k:Nat):Prop where
 ht:P.underlying t=some (.map k k)
 hk:P.underlying k=some (.int .i64)
 z:∀w,(zeroValue k).run P w = .ok (.int .i64 0) w
def jW(A:DataW Unit)(f:Int→Option Int):Prop:=Maps.IsMap A∧∀a,dZ a→Maps.has A (.int .i64 a)=(f a).isSome∧∀b,A.atKey (.int .i64 a) b=match f a with
 |some c =>.lit (.int .i64 c)
 |none=>b
theorem pz{x:Int}:(Lit.int .i64 x).wf=true↔dZ x:=by
 have a:IntKind.min .i64 = -9223372036854775808:=rfl;have b:IntKind.max .i64=9223372036854775807:=rfl;simp only[Lit.wf,eO,p6,dZ,a,b]
section
variable {P:Program} {t k:Nat} (hM:nL P t k)
include hM
theorem nL.key{x:Int}(a:dZ x):keyOf P k (.int .i64 x)=some (.int .i64 x):=Maps.keyOf_int_mk hM.hk (pz.2 a)
theorem nL.isKey{x:Int}(a:dZ x):WideAt.IsKeyLit (.int .i64 x):=(Maps.int_keyed hM.hk).key (hM.key a)
omit hM in
theorem jW.empty:jW (.map []) λ_=>none:=⟨Maps.isMap_empty,λa _=>⟨rfl,λb=>rfl⟩⟩
theorem jW.put{A:DataW Unit}{f:Int→Option Int}(h:jW A f){i c:Int}(hi:dZ i):jW (A.put (.int .i64 i) (.lit (.int .i64 c))) λx=>if x=i then some c else f x:=by
 refine⟨h.1.put _ _,λx a=>?_⟩;by_cases b:x=i
 ·subst b;simp only[bE rfl];exact⟨Maps.has_put_same h.1 (hM.isKey a) _,λe=>Maps.atKey_put_same h.1 (hM.isKey a) _ _⟩
 ·have d:(Lit.int .i64 x) ≠ .int .i64 i:=λg=>b (by injection g)
  simp only[cH b];refine⟨(Maps.has_put_other d _).trans (h.2 x a).1,λe=>?_⟩;rw[Maps.atKey_put_other d];exact(h.2 x a).2 e
end
def sL(P:Program)(k:Nat)(w:World)(b:Nat):MO→Prop
 |.mp n f=>∃A,w.ownsMap P k (plainElem P k) b n A∧jW A f
 |.it m n f left e=>∃A a d,w.ranges P k (plainElem P k) m b n A a d∧jW A f∧(∀x,dZ x→a (.int .i64 x)=left x) ∧
   ∀x c,e=some (x,c)→(Instr.entry (.pointer (some ⟨b,0,none⟩))).run P w = .ok (.tuple #[.int .i64 x,.int .i64 c]) w
theorem Og{P:Program}{w w':World}{b m:Nat}{e:Nat}{seen:Array Nat}{a:Nat}{d:Array MapEntry}{c:Nat}(o:w'.heap[b]?=w.heap[b]?)(q:w'.heap[m]?=w.heap[m]?)
  (i:w.heap[b]?=some (.mapIter (some m) e seen a)) (h2:w.heap[m]?=some (.map d c)) {v:Value} (h:(Instr.entry (.pointer (some ⟨b,0,none⟩))).run P w = .ok v w):(Instr.entry (.pointer (some ⟨b,0,none⟩))).run P w' = .ok v w':=by
 have l:(getObj b).run P w = .ok (.mapIter (some m) e seen a) w:=by simp[getObj,Sem.run,i]
 have f:(getObj m).run P w = .ok (.map d c) w:=by simp[getObj,Sem.run,h2]
 have n:(getObj b).run P w' = .ok (.mapIter (some m) e seen a) w':=by simp[getObj,Sem.run,o,i]
 have g:(getObj m).run P w' = .ok (.map d c) w':=by simp[getObj,Sem.run,q,h2]
 unfold Instr.entry at h ⊢;simp only[gq,l,f,n,g,gB]at h ⊢;cases k:seen.back? with
 |none=>simp[k]at h
 | some r =>
  simp only[k,gq,f,g,gB]at h ⊢;by_cases j:(c != a)=true
  ·simp[j]at h
  ·simp only[j]at h ⊢;cases p:d.find? (·.born==r)with
   |none=>simp[p]at h
   |some s=>simp_all
theorem sL.bH{P:Program}{k:Nat}{w w':World}{b:Nat}{o:MO}(h:sL P k w b o)(j:w'.heap[b]?=w.heap[b]?)(A:∀m n f l c,o = .it m n f l c→w'.heap[m]?=w.heap[m]?):sL P k w' b o:=by
 cases o with
 | mp n f =>
  obtain⟨d,⟨g,e,a,v⟩,i⟩:=h;exact⟨d,⟨g,e,j.trans a,v⟩,i⟩
 | it m n f l c =>
  obtain⟨d,s,u,⟨g,e,E,seen,t,a,r,B,z,q,D⟩,i,x,y⟩:=h;have p:=A _ _ _ _ _ rfl;exact⟨d,s,u,⟨g,e,E,seen,t,p.trans a,r,B,z,j.trans q,D⟩,i,x,λF G C=>Og j p q a (y F G C)⟩
structure jV (P:Program) (k B0:Nat) (g:Gh) (M:Mp):Prop where
 of:∀b o,M b=some o→B0≤b∧g.lim b∧sL P k g.w b o
 it:∀b m n f l c,M b=some (.it m n f l c)→∃n' f',M m=some (.mp n' f')
theorem jV.zero(P:Program)(k b:Nat)(g:Gh):jV P k b g M0:=⟨λc j a=>(by cases a),λc h i e f d a=>(by cases a)⟩
theorem jV.ext{P:Program}{k d:Nat}{g g':Gh}{M:Mp}(h:jV P k d g M)(b:cE g g'):jV P k d g' M:=by
 refine⟨λa r f=>?_,h.it⟩;obtain⟨l,e,m⟩:=h.of a r f;refine⟨l,(b.lim a e).1,m.bH (b.lim a e).2 λc q j p i n=>?_⟩;subst n;obtain⟨t,s,o⟩:=h.it a c q j p i f;exact(b.lim c (h.of c _ o).2.1).2
theorem HR{g:Gh}{h:J}(hi:Inv g h){w':World}(d:g.w.grownBy w' none)(E:w'.heap.size=g.w.heap.size+1):∃g':Gh,g'.w=w'∧cE g g'∧Inv g' h∧g'.lim g.w.heap.size:=by
 let g':Gh:=⟨w',g.ms,λa=>g.L a∨a=g.w.heap.size⟩
 have l:∀a,a<g.w.heap.size→w'.heap[a]?=g.w.heap[a]?:=λa b=>d.block a b (by simp)
 have x:jQ g g':=⟨d.os,d.tape,d.output,d.size,λ_ _ k=>k,λa b=>⟨⟨by show a<w'.heap.size;have:=b.1;omega,λi=>by
  rcases i with i|i
  ·exact b.2 i
  ·have:=b.1;omega⟩,l a b.1⟩⟩
 have n:cE g g':=⟨x,λa b=>⟨⟨by show a<w'.heap.size;have:=b.1;omega,.inl b.2.1,b.2.2⟩,l a b.1⟩⟩
 refine⟨g',rfl,n,⟨hi.len,λf o B r1 e=>?_,hi.inj,λa b=>?_,λf j e=>?_⟩,?_,.inr rfl,λf j e=>?_⟩
 ·obtain⟨m,p,k,c⟩:=hi.live f o B r1 e;refine⟨m,p,k,?_,c.hI,c.pos,.inl c.hL,c.len,c.le,c.room,c.row,λy A r z q s=>?_⟩
  ·show ∃D,w'.heap[m.b]?=_∧_;rw[l m.b (hi.ly c.hL)];exact c.gH
  ·obtain⟨C,t,u,v⟩:=c.cell y A r z q s;exact⟨C,t,u,v.ext n⟩
 ·show a<w'.heap.size;rcases b with b|b
  ·have:=hi.L a b;omega
  ·omega
 ·show j.b<w'.heap.size;have:=hi.msb f j e;omega
 ·show g.w.heap.size<w'.heap.size;omega
 ·have:=hi.msb f j e;omega
theorem HS{n g:Gh}{h:J}(f:cE n g)(hi:Inv g h){b:Nat}(M:n.w.heap.size≤b)(r:g.lim b){w':World}(d:g.w.grownBy w' (some b)):∃g':Gh,g'.w=w'∧cE n g'∧jQ g g'∧Inv g' h∧(∀c,g.lim c→g'.lim c):=by
 let g':Gh:=⟨w',g.ms,g.L⟩
 have k:∀c,c<g.w.heap.size→c≠b→w'.heap[c]?=g.w.heap[c]?:=λc a C=>d.block c a (by simpa using λo=>C o)
 have s:jQ g g':=⟨d.os,d.tape,d.output,d.size,λ_ _ j=>j,λc a=>⟨⟨jq a.1 d.size,a.2⟩,k c a.1 λo=>a.2 (o▸r.2.1)⟩⟩
 refine⟨g',rfl,⟨⟨d.os.trans f.os,d.tape.trans f.tape,d.output.trans f.output,hX f.size d.size,f.ms,λc a=>?_⟩,λc a=>?_⟩,s,⟨hi.len,λm t H r1 p=>?_,hi.inj,λc a=>jq (hi.L c a) d.size,λm F p=>jq (hi.msb m F p) d.size⟩,λc a=>⟨jq a.1 d.size,a.2⟩⟩
 ·obtain⟨i,q⟩:=f.fz c a;refine⟨⟨jq i.1 d.size,i.2⟩,(k c i.1 ?_).trans q⟩;have:=a.1;omega
 ·obtain⟨i,q⟩:=f.lim c a;refine⟨⟨jq i.1 d.size,i.2⟩,(k c i.1 ?_).trans q⟩;have:=a.1;omega
 ·obtain⟨l,u,j,e⟩:=hi.live m t H r1 p;refine⟨l,u,j,?_,e.hI,e.pos,e.hL,e.len,e.le,e.room,e.row,λD G x E v y=>?_⟩
  ·show ∃K,w'.heap[l.b]?=_∧_;rw[k l.b (hi.ly e.hL) (r.2.2 m l j)];exact e.gH
  ·obtain⟨I,z,A,B⟩:=e.cell D G x E v y;exact⟨I,z,A,B.jf s⟩
theorem fG.jf{n:Nat}{g g':Gh}{e:DE}{a:Act}(h:fG n g e a)(d:jQ g g'):fG n g' e a:=⟨h.size,h.defers,λt b c=>(h.get t b c).jf d⟩
theorem sa{g:Gh}{v a:Value}(h:aM g v (.raw a)):v=a:=by cases h;rfl
theorem wX{g:Gh}{v:Value}{i:Int}(h:aM g v (.int .i64 i)):v = .int .i64 i:=by cases h;rfl
section
variable {P:Program} {X:Cx} {mt k:Nat} {g0 g:Gh} {h:J} {nt:Nat} {e:DE} {a:Act} {M:Mp}
theorem BR(d:jV P k g0.w.heap.size g M){g':Gh}{b:Nat}(v:∀c,g.lim c→g'.lim c)(e:∀c,c<g.w.heap.size→c≠b→g'.w.heap[c]?=g.w.heap[c]?){c:Nat}{o:MO}(h:M c=some o)(q:c≠b)(r:∀m n f l a,o = .it m n f l a→m≠b):sL P k g'.w c o:=by
 obtain⟨u,j,p⟩:=d.of c o h;refine p.bH (e c j.1 q) λm n f l a i=>?_
 have:=r m n f l a i;subst i;obtain⟨x,t,s⟩:=d.it c m n f l a h;exact e m (d.of m _ s).2.1.1 this
theorem Ts (q:nL P mt k) (ab:cE g0 g) (hi:Inv g h) (cb:fP g X.gl) (ch:fG nt g e a) (i:jV P k g0.w.heap.size g M) {o:Oper} (ak:o.guard=none) {bm:MK} (c:BN X mt o.op e M bm=some ()) {bu:Array Oper} {bw:List Oper} {Q:Exit→Act→World→Prop}
  (ae:∀d bo g' v,bm d bo=some ()→cE g0 g'→jQ g g'→Inv g' h→jV P k g0.w.heap.size g' bo→aM g' v d→wpList P bu Q bw (a.put o.dst v) g'.w):wpList P bu Q (o::bw) a g.w:=by
 have ev:∀{j:Operand} {d:D},je X e j=some d→aM g (a.eval j) d:=λ{j d} az=>tj cb (λau d _ F=>ch.get au d F) az
 have av:=Maps.int_keyed q.hk;unfold BN at c;split at c
 ·
  rename_i au H;split at c
  case h_2=>cases c
  have c:=oG.1 c g.w.heap.size;have bj:M g.w.heap.size=none:=by
   cases x:M g.w.heap.size with
   |none=>rfl
   |some G=>have:=(i.of _ _ x).2.1.1;omega
  have c:=nj.1 c bj;obtain⟨g',B,aj,am,E⟩:=HR hi (w':=g.w.alloc (.map #[] 0)) (World.grownBy_alloc g.w _ none) (wz _ _);refine wpList_plain ak λb2 bc=>?_
  unfold Oper.wp;have bk:(execOp a.eval o).run P g.w = .ok (.value (.map (some g.w.heap.size))) (g.w.alloc (.map #[] 0)):=by simp[execOp,H,show(Instr.makeMap au none).run P g.w = .ok (.map (some g.w.heap.size)) (g.w.alloc (.map #[] 0))from rfl,Result.andThen]
  rw[bk,pW,← B];refine bc _ _ (ae _ _ g' _ c (ab.trans aj) aj.tojQ am ⟨λs G b=>?_,λs r m n R f b=>?_⟩ (.raw _))
  ·unfold Mp.set at b;split at b
   ·rename_i ai;injection b with b;subst b;subst ai;refine⟨ab.size,E,.map [],?_,jW.empty⟩;rw[B];exact World.ownsMap_made g.w P k _
   ·exact(i.ext aj).of s G b
  ·unfold Mp.set at b;split at b
   ·cases b
   ·obtain⟨C,A,p⟩:=i.it s r m n R f b;have:=(i.of _ _ p).2.1.1;refine⟨C,A,?_⟩;unfold Mp.set;rw[cH (by omega)];exact p
 ·
  rename_i au r j cq H;split at c
  case h_2=>cases c
  rename_i a3 b5 F aa a4;have F:=ib F;subst F;unfold ub at c;split at c
  case h_2=>cases c
  rename_i s ag;split at c
  case h_2=>cases c
  rename_i m n an;obtain⟨ap,c⟩:=rh.1 c;obtain⟨ac,ad,z,aq,L⟩:=i.of s _ an;obtain⟨ci,cj⟩:=L.2 ag ap;have aw:∀f,z.atKey (.int .i64 ag) (.lit (.int .i64 0)) = .lit (.int .i64 f)→f=(n ag).getD 0:=λf u=>by
   rw[cj]at u;cases ax:n ag with
   |none=>rw[ax]at u;simp at u;simp[u]
   |some G=>rw[ax]at u;simp at u;simp[u]
  cases cq with
  | false =>
   refine wpList_lookup_own_int g.w ak r j _ H k k .i64 av q.ht q.hk (q.z _) s m z (sa (ev aa)) aq _ _ (wX (ev a4)) (q.key ap) λf u _=>?_
   rw[aw f u];exact ae _ _ g _ c ab (cE.refl g).tojQ hi i (.int _ _)
  | true =>
   refine wpList_lookup_own_ok_int g.w ak r j _ H k k .i64 av q.ht q.hk (q.z _) s m z (sa (ev aa)) aq _ _ (wX (ev a4)) (q.key ap) λf u _=>?_
   rw[aw f u,ci];refine ae _ _ g _ c ab (cE.refl g).tojQ hi i (.bZ [_,_] [_,_] rfl λN v d y K=>?_)
   match N with
   |0=>cases y;cases K;exact .int _ _
   |1=>cases y;cases K;exact .bool _
   |N+2=>cases y
 ·
  rename_i au r j v H;split at c
  case h_2=>cases c
  rename_i a3 b5 cs F aa a4 b6;have F:=ib F;subst F;unfold r4 at c;split at c
  case h_2=>cases c
  rename_i s ag f;split at c
  case h_2=>cases c
  rename_i m n an;obtain⟨⟨ap,bg,cu⟩,c⟩:=rh.1 c;obtain⟨ac,ad,z,aq,L⟩:=i.of s _ an;refine wpList_mapUpdate_own g.w ak r j v _ H k k av q.ht (plainElem P k) s m z (sa (ev aa)) aq (by unfold maxLen;omega) _ _ _ (wX (ev a4)) (wX (ev b6)) (q.key ap) _ [] (plainElem_int q.hk (pz.2 bg)) λw' cf al=>?_
  obtain⟨g',B,bd,be,am,E⟩:=HS ab hi ac ad al;have a7:∀f,f<g.w.heap.size→f≠s→g'.w.heap[f]?=g.w.heap[f]?:=λf u af=>by rw[B];exact al.block f u (by simpa using λl=>af l)
  rw[← B];refine ae _ _ g' _ c bd be am ⟨λah G b=>?_,λah r m n R f b=>?_⟩ .bU
  ·unfold Mp.my at b;split at b
   ·rename_i ai;injection b with b;subst b;subst ai;refine⟨ac,E _ ad,_,?_,jW.put q L ap⟩;rw[B];exact cf
   ·rename_i af;split at b
    ·rename_i co cp b7 cn b3 x;split at b
     ·cases b
     ·rename_i bh;injection b with b;subst b;obtain⟨a0,a1,bv⟩:=i.of _ _ x;exact⟨a0,E _ a1,BR i E a7 x af λr m n R I l=>by injection l with l;subst l;exact bh⟩
    ·rename_i bi;obtain⟨a0,a1,bv⟩:=i.of _ _ b;exact⟨a0,E _ a1,BR i E a7 b af λr m n R I l=>absurd (l▸b) (bi r m n R I)⟩
  ·unfold Mp.my at b;split at b
   ·cases b
   ·split at b
    ·rename_i co cp b7 cn b3 x;split at b
     ·cases b
     ·rename_i bh;injection b with b;injection b with a2 bx bz b0 b1;subst a2;obtain⟨C,A,cm⟩:=i.it _ _ _ _ _ _ x;exact⟨C,A,by unfold Mp.my;rw[cH bh,cm]⟩
    ·rename_i bi;exact absurd b (bi _ _ _ _ _)
 ·
  rename_i au r H;split at c
  case h_2=>cases c
  rename_i a3 F aa;have F:=ib F;subst F;unfold ud at c;split at c
  case h_2=>cases c
  rename_i s;split at c
  case h_2=>cases c
  rename_i m n an;obtain⟨ac,ad,z,aq,L⟩:=i.of s _ an;have c:=oG.1 c g.w.heap.size;have bj:M g.w.heap.size=none:=by
   cases x:M g.w.heap.size with
   |none=>rfl
   |some G=>have:=(i.of _ _ x).2.1.1;omega
  have c:=nj.1 c bj;refine wpList_range_own g.w ak r _ H k k av q.ht (plainElem P k) s m z (sa (ev aa)) aq λw' a8 al br=>?_
  obtain⟨g',B,aj,am,E⟩:=HR hi al br;rw[← B];refine ae _ _ g' _ c (ab.trans aj) aj.tojQ am ⟨λah G b=>?_,λah r m n R f b=>?_⟩ (.raw _)
  ·unfold Mp.set at b;split at b
   ·rename_i ai;injection b with b;subst b;subst ai;refine⟨ab.size,E,z,Maps.has z,Maps.size z,?_,L,λj az=>(L.2 j az).1,λj f l=>by cases l⟩;rw[B];exact a8
   ·exact(i.ext aj).of ah G b
  ·have ay:∀I G,M I=some G→∀T,(M.set g.w.heap.size T) I=some G:=λI G x T=>by
     have:=(i.of _ _ x).2.1.1;unfold Mp.set;rw[cH (by omega)];exact x
   unfold Mp.set at b;split at b
   ·injection b with b;injection b with a2 bx bz b0 b1;subst a2;exact⟨_,_,ay _ _ an _⟩
   ·obtain⟨C,A,p⟩:=i.it ah r m n R f b;exact⟨C,A,ay _ _ p _⟩
 ·
  rename_i ag H;split at c
  case h_2=>cases c
  rename_i a3 aa;unfold uc at c;split at c
  case h_2=>cases c
  rename_i ar;split at c
  case h_2=>cases c
  rename_i s m n R cr ao;obtain⟨cw,cc,cd⟩:=iL.1 c;obtain⟨ac,ad,z,bn,bp,a8,L,a5,bq⟩:=i.of ar _ ao;refine wpList_next_ranges_ii g.w ak ag H k k .i64 .i64 av q.hk q.hk s ar m z bn bp (sa (ev aa)) a8 (λ_ b9=>?_) (λj f w' b4 cl ck b8 aw cg ct al br bf=>?_)
  ·refine ae _ _ g _ (nj.1 cc λj az=>by rw[← a5 j az];exact b9 _) ab (cE.refl g).tojQ hi i (.bZ [_] [_] rfl λN v d y K=>?_)
   match N with
   |0=>cases y;cases K;exact .bool _
   |N+1=>cases y
  ·have a6:=pz.1 cl;have bg:=pz.1 ck;have ca:n j=some f:=by
    have p:=(L.2 j a6).1;have ba:=(L.2 j a6).2;rw[Maps.has_true_of_atKey aw]at p;cases ax:n j with
    |none=>rw[ax]at p;cases p
    | some G =>
     have bb:=ba (.lit (.int .i64 0));rw[aw,ax]at bb;simp at bb;rw[bb]
   have c:=nj.1 (oG.1 cd (j,f)) ⟨a6,bg,by rw[← a5 j a6];exact b8,ca⟩;obtain⟨g',B,bd,be,am,E⟩:=HS ab hi ac ad al;have a7:∀f,f<g.w.heap.size→f≠ar→g'.w.heap[f]?=g.w.heap[f]?:=λf u af=>by rw[B];exact al.block f u (by simpa using λl=>af l)
   rw[← B];refine ae _ _ g' _ c bd be am ⟨λah G b=>?_,λah r m n R f b=>?_⟩ (.bZ [_,_,_] [_,_,_] rfl λN v d y K=>?_)
   ·unfold Mp.set at b;split at b
    ·rename_i ai;injection b with b;subst b;subst ai;refine⟨ac,E _ ad,z,_,b4,by rw[B];exact cg,L,λT bt=>?_,λT I l=>?_⟩
     ·have:(Lit.int .i64 T).sameKey (.int .i64 j)=(T==j):=by
        by_cases bl:T=j
        ·subst bl;rw[WideAt.sameKey_self (q.isKey bt)];simp
        ·rw[Maps.sameKey_ne (λl=>bl (by injection l))];simp[bl]
      rw[a5 T bt,this]
     ·injection l with l;injection l with p ba;subst p;subst ba;rw[B];exact bf
    ·rename_i af;obtain⟨a0,a1,bv⟩:=i.of _ _ b;refine⟨a0,E _ a1,BR i E a7 b af λr m n R I l ce=>?_⟩;subst l;obtain⟨C,A,p⟩:=i.it _ _ _ _ _ _ b;rw[ce,ao]at p;cases p
   ·have ay:∀I C A,M I=some (.mp C A)→∀T,(M.set ar T) I=some (.mp C A):=λI C A x T=>by
      unfold Mp.set;rw[cH (λl=>by rw[l,ao]at x;cases x)];exact x
    unfold Mp.set at b;split at b
    ·injection b with b;injection b with a2 bx bz b0 b1;subst a2;obtain⟨C,A,p⟩:=i.it _ _ _ _ _ _ ao;exact⟨C,A,ay _ _ _ p _⟩
    ·obtain⟨C,A,p⟩:=i.it _ _ _ _ _ _ b;exact⟨C,A,ay _ _ _ p _⟩
   ·match N with
    |0=>cases y;cases K;exact .bool _
    |1=>cases y;cases K;exact .int _ _
    |2=>cases y;cases K;exact .int _ _
    |N+3=>cases y
 ·
  rename_i ag H;split at c
  case h_2=>cases c
  rename_i a3 aa;unfold ua at c;split at c
  case h_2=>cases c
  rename_i ar;split at c
  case h_2=>cases c
  rename_i r m n R a9 ao;obtain⟨ac,ad,z,bn,bp,a8,L,a5,bq⟩:=i.of ar _ ao;have bf:=bq a9.1 a9.2 rfl;refine wpList_plain ak λb2 bc=>?_
  unfold Oper.wp;have bk:(execOp a.eval o).run P g.w = .ok (.value (.tuple #[.int .i64 a9.1,.int .i64 a9.2])) g.w:=by simp[execOp,H,sa (ev aa),bf,Result.andThen]
  rw[bk,pW];refine bc _ _ (ae _ _ g _ c ab (cE.refl g).tojQ hi i (.bZ [_,_] [_,_] rfl λN v d y K=>?_))
  match N with
  |0=>cases y;cases K;exact .int _ _
  |1=>cases y;cases K;exact .int _ _
  |N+2=>cases y
 ·cases c
end
def mh:Code→Bool
 |.region _ c _=>c.toList.any λo=>Hf o.op
 |.seq a b=>mh a||mh b
 |.cond _ a b=>mh a||mh b
 |.block _ b=>mh b
 |.loop b=>mh b
 |_=>false
abbrev MB:=List D→J→Mp→(Ex→List D→J→Mp→Option Unit)→Option Unit
noncomputable def uC(b:Nat→List D→J→Mp→Prop)(n:Nat)(c:Ex→List D→J→Mp→Option Unit)(x:Ex)(ds:List D)(h:J)(M:Mp):Option Unit:=match x with
 |.aS=>e7 (∃a,a<n∧b a ds h M) (some ())
 |x=>c x ds h M
open Classical in
noncomputable def pa(B:MB)(ds:List D)(h:J)(M:Mp)(c:Ex→List D→J→Mp→Option Unit):Option Unit:=
 if ∃(b:Nat→List D→J→Mp→Prop) (a:Nat),b a ds h M∧∀a ds h M,b a ds h M→B ds h M (uC b a c)=some ()then some ()else none
theorem BH{B:MB}{ds:List D}{h:J}{M:Mp}{b:Ex→List D→J→Mp→Option Unit}(a:Nat→List D→J→Mp→Prop)(n:Nat)(c:a n ds h M)(d:∀n ds h M,a n ds h M→B ds h M (uC a n b)=some ()):pa B ds h M b=some ():=bE ⟨a,n,c,d⟩
noncomputable def mK(X:Cx)(g:dP)(i:ka)(A:pD)(mt:Nat):Code→DE→J→Mp→(Ex→DE→J→Mp→Option Unit)→Option Unit
 | .region id l m,e,h,M,f=>match mh (.region id l m)with
  |false=>cK X g i A (.region id l m) e h Unit λx e' h'=>f x e' h' M
  | true=>match m with
   |false=>ue X g A.nt A.fz A.fX mt l.toList l.toList e h M (f .aS)
   |true=>none
 | .seq a b,e,h,M,f=>match mh (.seq a b)with
  |false=>cK X g i A (.seq a b) e h Unit λx e' h'=>f x e' h' M
  |true=>mK X g i A mt a e h M λx e' h' j=>toEnd x (mK X g i A mt b e' h' j f) λx=>f x e' h' j
 | .cond c a b,e,h,M,f=>match mh (.cond c a b)with
  |false=>cK X g i A (.cond c a b) e h Unit λx e' h'=>f x e' h' M
  | true=>match je X e c with
   |none=>none
   |some d=>S d (mK X g i A mt a e h M f) (mK X g i A mt b e h M f)
 | .block id b,e,h,M,f=>match mh (.block id b)with
  |false=>cK X g i A (.block id b) e h Unit λx e' h'=>f x e' h' M
  |true=>mK X g i A mt b e h M λx e' h' j=>f (bQ id x) e' h' j
 | .loop b,e,h,M,f=>match mh (.loop b)with
  |false=>cK X g i A (.loop b) e h Unit λx e' h'=>f x e' h' M
  |true=>pa (λds h' j k=>mK X g i A mt b (iw (im A.bH b) ds (mr A.bH b e)) h' j λx e' o n=>k x (jz e' (im A.bH b)) o n) (jz e (im A.bH b)) h M
    λx ds h' j=>f x (iw (im A.bH b) ds (mr A.bH b e)) h' j
 |c,e,h,M,f=>cK X g i A c e h Unit λx e' h'=>f x e' h' M
noncomputable def mF(X:Cx)(c:dP)(f:ka)(mt:Nat)(fi:gp)(args:List D)(h:J)(b:D→J→Option Unit):Option Unit:=match Nat.ble args.length fi.A.nt with
 |true=>mK X c f fi.A mt fi.body (iw (List.range args.length) args []) h M0 λg e a _=>dD g (pq X a e fi.res λd=>b (aH d) a)
 |false=>none
section
variable {P:Program} {X:Cx} {mt k:Nat}
theorem uf(F:nL P mt k)(G:dO P X.T){ad:dP}(H:hQ P X ad){ab:Nat}{fz ah:List Nat}{l:List Oper}{E:Gh}(C:fP E X.gl){Q:Exit→Act→World→Prop}:∀(ac:List Oper) (e:DE) (h:J) (M:Mp) (L:DE→J→Mp→Option Unit),ue X ad ab fz ah mt l ac e h M L=some () →
  ∀(g:Gh) (a:Act),cE E g→Inv g h→fG ab g e a→jV P k E.w.heap.size g M→(∀e' h' b g' i,L e' h' b=some ()→(∀t,t∉fL ac→dB e' t=dB e t)→cE E g'→Inv g' h'→fG ab g' e' i→jV P k E.w.heap.size g' b→Q .normal i g'.w)→wpList P l.toArray Q ac a g.w
 |[],e,h,M,L,n,g,a,q,hi,p,K,D=>D e h M g a n (λ_ _=>rfl) q hi p K
 | o::r,e,h,M,L,n,g,a,q,hi,p,K,D=>by
  simp only[ue]at n;split at n
  ·split at n
   case h_2=>cases n
   rename_i aj;refine Ts F q hi (C.ext q) p K aj n λd b g' v m ae af I ag R=>?_
   rcases B3 m with⟨c,m⟩|⟨t,c,N,m⟩
   ·rw[c];refine uf F G H C r _ _ _ _ m g' a ae I (p.jf af) ag λe' h' b g' i s k2 u x y z=>D e' h' b g' i s (λA f=>k2 A λj=>f ?_) u x y z
    simp only[fL,pP,c]at j ⊢;exact j
   ·rw[c];refine uf F G H C r _ _ _ _ m g' _ ae I ((p.jf af).put N R) ag λe' h' b g' i s k2 u x y z=>D e' h' b g' i s (λA f=>?_) u x y z
    simp only[fL,pP,c,dW,not_or]at f;rw[k2 A f.2,jw,cH (λj=>f.1 j.symm)]
  ·obtain⟨d,h',al,ai⟩:=wR n;have am:q6 P l.toArray Q o a g (wpList P l.toArray Q r):=by
    refine uj G H al hi (C.ext q) (λt d _ an=>p.get t d an) λg' v B I R _=>?_
    rcases ai with⟨c,m⟩|⟨t,c,N,m⟩
    ·rw[c];refine uf F G H C r _ _ _ _ m g' a (q.trans B) I (p.ext B) (K.ext B) λe' h' b g' i s k2 u x y z=>D e' h' b g' i s (λA f=>k2 A λj=>f ?_) u x y z
     simp only[fL,pP,c]at j ⊢;exact j
    ·rw[c];refine uf F G H C r _ _ _ _ m g' _ (q.trans B) I ((p.ext B).put N R) (K.ext B) λe' h' b g' i s k2 u x y z=>D e' h' b g' i s (λA f=>?_) u x y z
     simp only[fL,pP,c,dW,not_or]at f;rw[k2 A f.2,jw,cH (λj=>f.1 j.symm)]
   unfold wpList;rcases am with⟨aa,ao⟩|⟨aa,ak⟩
   ·rw[bE aa];exact .inl ao
   ·rw[cH (by simp[aa])];exact ak
theorem Tp (bf:nL P mt k) (a5:dO P X.T) (bn:P.follows .mixedOrders=true) {am:dP} (a6:hQ P X am) {loop:ka} (bl:qX loop) {A:pD} {t:Gh} (ap:fP t X.gl):∀(c:Code) (e:DE) (h:J) (M:Mp) (d:Ex→DE→J→Mp→Option Unit),mK X am loop A mt c e h M d=some () →
  ∀(Q:Exit→Act→World→Prop) (g:Gh) (a:Act),cE t g→Inv g h→fG A.nt g e a→jV P k t.w.heap.size g M→(∀x e' h' v g' y,d x e' h' v=some ()→nN A.bH c e e'→cE t g'→Inv g' h'→fG A.nt g' e' y→jV P k t.w.heap.size g' v→Q (cv x) y g'.w)→c.wp P Q a g.w:=by
 have p:∀(c:Code) (e:DE) (h:J) (M:Mp) (d:Ex→DE→J→Mp→Option Unit),(cK X am loop A c e h Unit λx e' h'=>d x e' h' M)=some () →
  ∀(Q:Exit→Act→World→Prop) (g:Gh) (a:Act),cE t g→Inv g h→fG A.nt g e a→jV P k t.w.heap.size g M→(∀x e' h' v g' y,d x e' h' v=some ()→nN A.bH c e e'→cE t g'→Inv g' h'→fG A.nt g' e' y→jV P k t.w.heap.size g' v→Q (cv x) y g'.w)→c.wp P Q a g.w:=λc e h M d b Q g a n r o s m =>
  FE a5 bn a6 bl c e h Unit _ () b Q g a r (ap.ext n) o λx e' h' g' y ax ay ak az a0=>m x e' h' M g' y ax ay (n.trans ak) az a0 (s.ext ak)
 intro c
 induction c with
 |skip=>intro e h M d b;exact p _ e h M d b
 |label a1=>intro e h M d b;exact p _ e h M d b
 |ret=>intro e h M d b;exact p _ e h M d b
 |exit C=>intro e h M d b;exact p _ e h M d b
 |goto a1=>intro e h M d b;exact p _ e h M d b
 |scope z aj=>intro e h M d b;exact p _ e h M d b
 |refuse a8=>intro e h M d b;exact p _ e h M d b
 |rangeFunc bx b2 bv z b0 b1=>intro e h M d b;exact p _ e h M d b
 | region id bu bw =>
  intro e h M d b;simp only[mK]at b;split at b
  ·exact p _ e h M d b
  ·intro Q g a n r o s m;obtain⟨a1⟩:=bu;split at b
   ·refine wp_region_lit (uf bf a5 a6 ap a1 e h M (d .aS) b g a n r o s λe' h' v g' y ax ay ak az a0 bq=>?_);exact m .aS e' h' v g' y ax (λi _ ai=>ay i (by rw[yV]at ai;exact ai)) ak az a0 bq
   ·cases b
 | seq x a9 av aw =>
  intro e h M d b;simp only[mK]at b;split at b
  ·exact p _ e h M d b
  ·intro Q g a n r o s m;refine wp_seq (av e h M _ b _ g a n r o s λbb w f q u l ar bo R E I F=>?_);have au:∀i,i∈A.bH→i∉fM (.seq x a9)→dB w i=dB e i:=λi f j=>bo i f (λD=>j (by simp[fM,D]))
   cases bb with
   | aS =>
    refine aw w f q d ar Q u l R E I F λa4 ao j K L af bj ac bh aa ad ab=>m a4 ao j K L af bj (λi f j=>?_) bh aa ad ab
    rw[ac i f (λD=>j (by simp[fM,D])),au i f j]
   |ext C=>exact m (.ext C) w f q u l ar au R E I F
   |ret=>exact m .ret w f q u l ar au R E I F
 | cond a3 x a9 av aw =>
  intro e h M d b;simp only[mK]at b;split at b
  ·exact p _ e h M d b
  ·intro Q g a n r o s m;split at b
   ·cases b
   rename_i an bg;have a7:aM g (a.eval a3) an:=tj (ap.ext n) (λi an _ ai=>o.get i an ai) bg;obtain⟨z,rfl,ah⟩:=yO b;have H:a.eval a3 = .bool z:=by
    generalize bz:a.eval a3=b3 at a7;cases a7;rfl
   cases z with
   |true=>exact wp_cond_true H (av e h M d ah Q g a n r o s λae w f q u l B G=>m ae w f q u l B (λi f j=>G i f (λD=>j (by simp[fM,D]))))
   |false=>exact wp_cond_false H (aw e h M d ah Q g a n r o s λae w f q u l B G=>m ae w f q u l B (λi f j=>G i f (λD=>j (by simp[fM,D]))))
 | block id z aj =>
  intro e h M d b;simp only[mK]at b;split at b
  ·exact p _ e h M d b
  ·intro Q g a n r o s m;have bp:∀(x:Ex) (l:Act) (al:World),Q (cv (bQ id x)) l al→Exit.inBlock id Q (cv x) l al:=λx l al H=>by
    cases x with
    |aS=>exact H
    |ret=>exact H
    | ext C =>
     simp only[cv,Exit.inBlock];by_cases aq:C=id
     ·subst aq;rw[bE rfl];simpa[bQ,cv]using H
     ·rw[cH aq];have:Nat.beq C id=false:=by
       cases ah:Nat.beq C id with
       |false=>rfl
       |true=>exact absurd (ib ah) aq
      simpa[bQ,this,cv]using H
   exact wp_block (aj e h M _ b _ g a n r o s λae w f q u l B G N E I F=>bp _ _ _ (m (bQ id ae) w f q u l B G N E I F))
 | loop z aj =>
  intro e h M d b;simp only[mK]at b;split at b
  ·exact p _ e h M d b
  ·intro Q g a n r o s m;unfold pa at b;split at b
   case isFalse=>cases b
   rename_i bi;obtain⟨ba,bt,be,bc⟩:=bi;refine wp_loop_ghost (λa2 a a8=>∃ag h' v g',a8=g'.w∧cE t g'∧Inv g' h'∧fG A.nt g' (iw (im A.bH z) ag (mr A.bH z e)) a∧jV P k t.w.heap.size g' v∧ba a2 ag h' v) bt
    ⟨_,h,M,g,rfl,n,r,np (e':=e) (λ_ _ _=>rfl) o,s,be⟩ ?_
   rintro a2 l al ⟨ag,f,q,u,rfl,R,E,I,F,bk⟩;refine aj _ f q _ (bc a2 ag f q bk) _ u l R E I F λa4 ao j K L af B G N aa ad ab=>?_
   have ac:nN A.bH z e ao:=λi f j=>by
    rw[G i f j];exact oY i f j
   cases a4 with
   | aS =>
    obtain⟨⟨br,bm,bd⟩,_⟩:=rh.1 B;exact⟨br,bm,_,j,K,L,rfl,N,aa,np ac ad,ab,bd⟩
   |ext C=>exact m (.ext C) _ j K L af B oY N aa (np ac ad) ab
   |ret=>exact m .ret _ j K L af B oY N aa (np ac ad) ab
theorem To (M:nL P mt k) (z:dO P X.T) (ag:P.follows .mixedOrders=true) {v:dP} (Q:hQ P X v) {K:ka} (af:qX K) {f:FuncId} {fi:gp} (B:cG P f fi) {args:List D} {h:J} {r:D × J}
  (m:(mF X v K mt fi args h λd h'=>e7 (scope h h' d=some r) (some ()))=some ()) {g:Gh} {vs:List Value} (hi:Inv g h) (ac:fP g X.gl) (H:cC g vs args):kJ P f vs g r.2 r.1:=by
 refine .inl ⟨B.enter _ _,?_⟩;obtain⟨y,ab,N,ah,ak⟩:=B.body;unfold mF at m;split at m
 case h_2=>cases m
 rename_i G;have G:=eW G;have az:=H.length;refine calls_of_wp ab N (Tp M z ag Q af ac fi.body _ h _ _ m _ g _ (cE.refl g) hi ⟨by simp[ah];omega,rfl,λs l ap=>?_⟩ (jV.zero P k _ g) λl L c au o u q ay R E I ax=>?_)
 ·have ar:∀(i:List Nat) (b:List D),i.length=b.length→dB (iw i b []) s=some l→∃a:Nat,i[a]?=some s∧b[a]?=some l:=by
    intro i
    induction i with
    |nil=>intro b _ h;cases h
    | cons t r aq =>
     intro b F h;cases b with
     |nil=>cases F
     | cons d b =>
      simp only[iw,tL,uE]at h;rw[jw]at h;split at h
      ·rename_i am;injection h with h;exact⟨0,by simp[am],by simp[h]⟩
      ·obtain⟨a,p,c⟩:=aq b (by simpa using F) h;exact⟨a+1,by simpa using p,by simpa using c⟩
  obtain⟨a,p,c⟩:=ar _ _ (by simp) ap;have ae:a=s:=by
   have:=(bO.1 p).2;simpa using this
  subst ae;have aw:=(bO.1 c).1;have C:vs[a]?=some (vs[a]'(by omega)):=cJ (by omega);have:(vs.toArray++Array.replicate (y.ntmps - vs.toArray.size) undef).getD a undef=vs[a]'(by omega):=by
   rw[fg,xr (by simp;omega)];simp[C]
  rw[this];exact H.get a _ l C c
 ·have x:(pq X c L fi.res λb=>e7 (scope h c (aH b)=some r) (some ()))=some ()→u.defers=[]∧∃j,(results y u.tmps).run P o.w = .ok j o.w∧∃t,Ending.returned j = .returned t∧∃e,e.w=o.w∧cE g e∧Inv e r.2∧aM e t r.1:=λn=>by
    refine⟨I.defers,?_⟩;rw[wY]at n;obtain⟨b,A,n⟩:=iL.1 n;have al:=(rh.1 n).1;rw[← ak]at A;obtain⟨j,an,ai⟩:=Ce z E I A;obtain⟨e,ao,aa,ad,aj⟩:=JA hi R E ai al;exact⟨j,an,j,rfl,e,ao,aa,ad,aj⟩
  cases l with
  |ext a=>cases q
  |aS=>exact x q
  |ret=>exact x q
end
end Go.Pi
namespace Go.Eng
abbrev gz:=@List.mem_singleton
abbrev gA:=@List.take_add_one
abbrev sK:=@List.nodup_cons
abbrev yf:=@List.getElem_range
abbrev yg:=@List.nodup_append
abbrev yi:=@List.perm_append_comm
abbrev E1:=@List.length_eq_zero_iff
end Go.Eng
namespace Go.Proofs.YtinlnkhheafjaaaGreatDoor
open Go.Eng Go.Pi
open Option renaming bind_some → Xm
section
structure kV (lt:Nat→Nat→Prop):Prop where
 ir:∀a,¬lt a a
 tr:∀a b c,lt a b→lt b c→lt a c
 qH:∀a b,lt a b∨a=b∨lt b a
theorem kV.nn{lt:Nat→Nat→Prop}(d:kV lt){a b c:Nat}(h:¬lt b a)(k:¬lt c b):¬lt c a:=λg=>by
 rcases d.qH a b with e|e|e
 ·rcases d.qH b c with f|f|f
  ·exact d.ir _ (d.tr _ _ _ (d.tr _ _ _ e f) g)
  ·subst f;exact d.ir _ (d.tr _ _ _ e g)
  ·exact k f
 ·subst e;exact k g
 ·exact h e
theorem kV.as{lt:Nat→Nat→Prop}(c:kV lt){a b:Nat}(h:lt a b):¬lt b a:=λd=>c.ir _ (c.tr _ _ _ h d)
def kv(f:Nat→Nat)(i j:Nat):Nat→Nat:=λa=>if a=i then f j else if a=j then f i else f a
theorem q0(f:Nat→Nat)(i j:Nat):kv f i j i=f j:=by simp[-Xm,kv]
theorem sQ(f:Nat→Nat)(i j:Nat):kv f i j j=f i:=by unfold kv;split<;>simp_all [-Xm]
theorem mO{f:Nat→Nat}{i j k:Nat}(a:k≠i)(h2:k≠j):kv f i j k=f k:=by simp[-Xm,kv,a,h2]
def ic(lt:Nat→Nat→Prop)(f:Nat→Nat)(n:Nat):Prop:=∀a,0<a→a<n→¬lt (f a) (f ((a - 1) / 2))
structure sP (lt:Nat→Nat→Prop) (f:Nat→Nat) (n j:Nat):Prop where
 BJ:j<n
 h:∀k,0<k→k<n→k≠j→¬lt (f k) (f ((k - 1) / 2))
 g:∀k,0<j→k<n→0<k→(k - 1) / 2=j→¬lt (f k) (f ((j - 1) / 2))
theorem KI{lt:Nat→Nat→Prop}{f g:Nat→Nat}{n:Nat}(h:ic lt f n)(b:∀k,k<n→g k=f k):sP lt g (n+1) n:=by
 refine⟨by omega,λk a c e=>?_,λk a c d i=>by omega⟩;rw[b k (by omega),b _ (by omega)];exact h k a (by omega)
theorem KK{lt:Nat→Nat→Prop}{f:Nat→Nat}{n j:Nat}(h:sP lt f n j)(a:j=0∨¬lt (f j) (f ((j - 1) / 2))):ic lt f n:=λc d e=>by
 by_cases b:c=j
 ·subst b;rcases a with a|a
  ·omega
  ·exact a
 ·exact h.h c d e b
theorem KJ{lt:Nat→Nat→Prop}(i:kV lt){f:Nat→Nat}{n j:Nat}(h:sP lt f n j)(r:0<j)(l:lt (f j) (f ((j - 1) / 2))):sP lt (kv f ((j - 1) / 2) j) n ((j - 1) / 2):=by
 obtain⟨c,k⟩:∃c,c=(j - 1) / 2:=⟨_,rfl⟩
 rw[← k]at l ⊢;have w:=h.BJ;refine⟨by omega,λa e d t=>?_,λa v d e u=>?_⟩
 ·by_cases b:a=j
  ·subst b;rw[← k,sQ,q0];exact i.as l
  ·rw [mO t b];by_cases m:(a - 1) / 2=c
   ·rw[m,q0];have:=h.h a e d b;rw[m]at this;exact λs=>this (i.tr _ _ _ s l)
   ·by_cases o:(a - 1) / 2=j
    ·rw[o,sQ];have:=h.g a r d e o;rw[← k]at this;exact this
    ·rw[mO m o];exact h.h a e d b
 ·have q:kv f c j ((c - 1) / 2)=f ((c - 1) / 2):=mO (by omega) (by omega);rw[q];have p:=h.h c v (by omega) (by omega);by_cases b:a=j
  ·subst b;rw[sQ];exact p
  ·rw[mO (by omega) b];have:=h.h a e d b;rw[u]at this;exact i.nn p this
structure sO (lt:Nat→Nat→Prop) (f:Nat→Nat) (n i:Nat):Prop where
 h:∀k,0<k→k<n→(k - 1) / 2≠i→¬lt (f k) (f ((k - 1) / 2))
 g:∀k,0<k→k<n→(k - 1) / 2=i→0<i→¬lt (f k) (f ((i - 1) / 2))
theorem Kt{lt:Nat→Nat→Prop}{f g:Nat→Nat}{n:Nat}(h:ic lt f (n+1))(b:∀k,0<k→k<n→g k=f k):sO lt g n 0:=by
 refine⟨λk a c d=>?_,λk a c d e=>by omega⟩;rw[b k a c,b _ (by omega) (by omega)];exact h k a (by omega)
theorem Kv{lt:Nat→Nat→Prop}{f:Nat→Nat}{n i:Nat}(h:sO lt f n i)(d:∀k,0<k→k<n→(k - 1) / 2=i→¬lt (f k) (f i)):ic lt f n:=λk c b=>by
 by_cases a:(k - 1) / 2=i
 ·rw[a];exact d k c b a
 ·exact h.h k c b a
theorem Ku{lt:Nat→Nat→Prop}(o:kV lt){f:Nat→Nat}{n i j:Nat}(h:sO lt f n i)(t:0<j)(q:j<n)(d:(j - 1) / 2=i)(s:∀k,0<k→k<n→(k - 1) / 2=i→¬lt (f k) (f j))(r:lt (f j) (f i)):sO lt (kv f i j) n j:=by
 refine⟨λk a b e=>?_,λk a b e _=>?_⟩
 ·by_cases m:k=j
  ·subst m;rw[d,sQ,q0];exact o.as r
  ·by_cases l:k=i
   ·subst l;have p:kv f k j ((k - 1) / 2)=f ((k - 1) / 2):=mO (by omega) (by omega);rw[p,q0];exact h.g j t q d a
   ·rw[mO l m];by_cases c:(k - 1) / 2=i
    ·rw[c,q0];exact s k a b c
    ·rw[mO c e];exact h.h k a b c
 ·rw[d,q0,mO (by omega) (by omega)];have:=h.h k a b (by omega);rw[e]at this;exact this
theorem KD{lt:Nat→Nat→Prop}(a:kV lt){f:Nat→Nat}{n:Nat}(h:ic lt f n):∀k,k<n→¬lt (f k) (f 0):=by
 intro k
 induction k using Nat.strongRecOn with
 | ind k d =>
  intro c;by_cases b:k=0
  ·subst b;exact a.ir _
  ·exact a.nn (d ((k - 1) / 2) (by omega) (by omega)) (h k (by omega) c)
def bF(l:List Nat)(k:Nat):Nat:=l[k]?.getD 0
def kx(l:List Nat)(i j:Nat):List Nat:=(l.set i (bF l j)).set j (bF l i)
theorem vj(l:List Nat)(i j:Nat):(kx l i j).length=l.length:=by simp[-Xm,kx]
theorem vi{l:List Nat}{i j:Nat}(hi:i<l.length)(c:j<l.length):∀k,bF (kx l i j) k=kv (bF l) i j k:=λk=>by
 unfold kx bF kv;by_cases b:k=j
 ·subst b;rw[lx (by simpa using c)];by_cases a:k=i
  ·subst a;simp[-Xm]
  ·simp[-Xm,a]
 ·rw[jS (by omega)];by_cases a:k=i
  ·subst a;rw[lx hi];simp[-Xm]
  ·rw[jS (by omega)];simp[-Xm,b,a]
theorem vk{l:List Nat}{i j:Nat}(hi:i<l.length)(a:j<l.length):(kx l i j).Perm l:=by
 have b:bF l i=l[i]:=by simp[-Xm,bF,cJ hi]
 have c:bF l j=l[j]:=by simp[-Xm,bF,cJ a]
 unfold kx;rw[b,c];exact List.set_set_perm hi a
end
section
theorem pX:∀{l r:List Nat},l.Nodup→(∀x∈l,x∈r)→l.length≤r.length
 |[],r,_,_=>by simp
 | a::l,r,h,k=>by
  have b:=sK.1 h;have c:a∈r:=k a (by simp);have f:=pX (r:=r.erase a) b.2 λx d=>(List.mem_erase_of_ne (λe=>b.1 (by rw[← e];exact d))).2 (k x (by simp[-Xm,d]))
  have g:=List.length_erase_of_mem c;have i:0<r.length:=List.length_pos_of_mem c;simp only[eP];omega
variable (n:Nat) (fl rk:Nat→Int)
def eF(a b:Nat):Prop:=rk b<rk a∨(rk a=rk b∧a<b)
instance (a b:Nat):Decidable (eF rk a b):=by unfold eF;exact inferInstance
theorem jY:kV (eF rk):=by
 refine⟨λa=>?_,λa b c=>?_,λa b=>?_⟩<;>unfold eF<;>omega
def fI(ps:List Nat)(i:Nat):Prop:=i<n∧i∉ps∧∀a,a<i→fl a=fl i→a∈ps
inductive fw:List Nat→Prop
 |nil:fw []
 |snoc {ps:List Nat} {b:Nat} (h:fw ps) (hf:fI n fl ps b) (hm:∀i,fI n fl ps i→¬eF rk i b):fw (ps++[b])
variable {n fl rk}
theorem fw.inv{l:List Nat}(h:fw n fl rk l):l=[]∨∃ps b,l=ps++[b]∧fw n fl rk ps∧fI n fl ps b∧∀i,fI n fl ps i→¬eF rk i b:=by
 cases h with
 |nil=>exact .inl rfl
 |snoc h a c=>exact .inr ⟨_,_,rfl,h,a,c⟩
theorem fw.F3:∀(m:Nat) {l r:List Nat},fw n fl rk l→fw n fl rk r→l.length=m→r.length=m→l=r
 |0,l,r,_,_,a,d=>by rw[E1.1 a,E1.1 d]
 | m+1,l,r,h,k,a,d=>by
  rcases h.inv with rfl|⟨ps,b,rfl,e,h2,f⟩
  ·simp at a
  rcases k.inv with rfl|⟨j,c,rfl,g,k2,i⟩
  ·simp at d
  simp at a d;have:=fw.F3 m e g a d;subst this;have:b=c:=by
   rcases(jY rk).qH b c with h|h|h
   ·exact absurd h (i b h2)
   ·exact h
   ·exact absurd h (f c k2)
  rw[this]
theorem fw.mem{l:List Nat}(h:fw n fl rk l):∀x∈l,x<n:=by
 induction h with
 |nil=>simp[-Xm]
 | snoc h b d c =>
  intro x a;rcases eI.1 a with a|a
  ·exact c x a
  ·rw[gz.1 a];exact b.1
theorem fw.nodup{l:List Nat}(h:fw n fl rk l):l.Nodup:=by
 induction h with
 |nil=>exact List.nodup_nil
 | snoc h a f e =>
  rw[yg];exact⟨e,by simp,λg c i d=>by rw[gz.1 d];exact λb=>a.2.1 (b▸c)⟩
theorem fw.closed{l:List Nat}(h:fw n fl rk l):∀x∈l,∀k,k<x→fl k=fl x→k∈l:=by
 induction h with
 |nil=>simp[-Xm]
 | snoc h d f e =>
  intro x a k b c;rcases eI.1 a with a|a
  ·exact sJ _ (e x a k b c)
  ·rw[gz.1 a]at b c;exact sJ _ (d.2.2 k b c)
theorem fw.len{l:List Nat}(h:fw n fl rk l):l.length≤n:=by
 have:=pX h.nodup λb a=>lX.2 (h.mem b a)
 simpa using this
theorem yu{ps:List Nat}(p:ps.Nodup)(o:∀x∈ps,x<n)(m:ps.length<n):∃i,fI n fl ps i:=by
 have e:∃i,i<n∧i∉ps:=mA λc=>by
  have:=pX (l:=List.range n) (r:=ps) List.nodup_range λx h=>mA λg=>c ⟨x,lX.1 h,g⟩
  simp at this;omega
 obtain⟨i,d⟩:=e
 induction i using Nat.strongRecOn with
 | ind i j =>
  by_cases c:∀b,b<i→fl b=fl i→b∈ps
  ·exact⟨i,d.1,d.2,c⟩
  ·obtain⟨b,a⟩:=xw.1 c;obtain⟨f,a⟩:=Classical.not_imp.1 a;obtain⟨k,a⟩:=Classical.not_imp.1 a;exact j b f ⟨by omega,a⟩
def yq(n:Nat)(fl:Nat→Int)(k:Nat):Option Nat→Prop
 |some j=>k<j∧j<n∧fl j=fl k∧∀m,k<m→m<j→fl m≠fl k
 |none=>∀m,k<m→m<n→fl m≠fl k
theorem Kz{ps:List Nat}(t:∀x∈ps,∀k,k<x→fl k=fl x→k∈ps){k:Nat}(m:fI n fl ps k){a:Option Nat}(q:yq n fl k a)(i:Nat):
  fI n fl (ps++[k]) i↔(fI n fl ps i∧i≠k)∨a=some i:=by
 constructor
 ·rintro⟨j,c,f⟩;simp only[eI,gz,not_or]at c f;by_cases b:fl i=fl k
  ·right;have u:k<i:=by
    rcases lY k i with h|h|h
    ·exact h
    ·exact absurd h.symm c.2
    ·exact absurd (m.2.2 i h b) c.1
   cases a with
   |none=>exact absurd b (q i u j)
   | some r =>
    obtain⟨o,s,e,p⟩:=q;rcases lY i r with h|h|h
    ·exact absurd b (p i u h)
    ·rw[h]
    ·rcases f r h (by rw[e,b])with l|l
     ·exact absurd (t r l k o e.symm) m.2.1
     ·omega
  ·left;refine⟨⟨j,c.1,λd g v=>?_⟩,c.2⟩;rcases f d g v with h|h
   ·exact h
   ·subst h;exact absurd v.symm b
 ·rintro(⟨⟨j,c,f⟩,l⟩|rfl)
  ·exact⟨j,by simp[-Xm,c,l],λd g b=>sJ _ (f d g b)⟩
  ·obtain⟨o,s,e,p⟩:=q;refine⟨s,?_,λd g b=>?_⟩
   ·simp only[eI,gz,not_or];exact⟨λh=>m.2.1 (t i h k o e.symm),by omega⟩
   ·rw[e]at b;rcases lY k d with h|h|h
    ·exact absurd b (p d h g)
    ·subst h;simp[-Xm]
    ·exact sJ _ (m.2.2 d h b)
end
section
variable {n:Nat} {fl rk:Nat→Int}
theorem Fb{lt:Nat→Nat→Prop}(d:kV lt):∀(l:List Nat),l≠[]→∃b∈l,∀i∈l,¬lt i b
 |[],h=>absurd rfl h
 |[a],_=>⟨a,by simp,λi hi=>by rw[gz.1 hi];exact d.ir _⟩
 | a::c::l,_=>by
  obtain⟨b,f,e⟩:=Fb d (c::l) (by simp);rcases d.qH a b with h|h|h
  ·refine⟨a,by simp,λi hi=>?_⟩;rcases dW.1 hi with rfl|hi
   ·exact d.ir _
   ·exact λg=>e i hi (d.tr _ _ _ g h)
  ·refine⟨b,gy _ f,λi hi=>?_⟩;rcases dW.1 hi with rfl|hi
   ·subst h;exact d.ir _
   ·exact e i hi
  ·refine⟨b,gy _ f,λi hi=>?_⟩;rcases dW.1 hi with rfl|hi
   ·exact d.as h
   ·exact e i hi
theorem Kr{ps:List Nat}(h:∃i,fI n fl ps i):∃b,fI n fl ps b∧∀i,fI n fl ps i→¬eF rk i b:=by
 classical
 obtain⟨j,a⟩:=h;have g:(List.range n).filter (λi=>decide (fI n fl ps i))≠[]:=λe=>by
  have:j∈(List.range n).filter (λi=>decide (fI n fl ps i)):=gh.2 ⟨lX.2 a.1,by simp[-Xm,a]⟩;rw[e]at this;cases this
 obtain⟨b,d,f⟩:=Fb (jY rk) _ g;refine⟨b,by simpa using(gh.1 d).2,λi c=>f i (gh.2 ⟨lX.2 c.1,by simp[-Xm,c]⟩)⟩
theorem fw.ex:∀m,m≤n→∃l,fw n fl rk l∧l.length=m
 |0,_=>⟨[],.nil,rfl⟩
 | m+1,h=>by
  obtain⟨l,a,h2⟩:=fw.ex m (by omega);obtain⟨b,c,d⟩:=Kr (rk:=rk) (yu a.nodup a.mem (by omega));exact⟨l++[b],.snoc a c d,by simp[-Xm,h2]⟩
noncomputable def jZ(n:Nat)(fl rk:Nat→Int)(m:Nat):List Nat:=Classical.choose (fw.ex (n:=n) (fl:=fl) (rk:=rk) (min m n) (Nat.min_le_right _ _))
theorem yx(m:Nat):fw n fl rk (jZ n fl rk m)∧(jZ n fl rk m).length=min m n:=mB (fw.ex (n:=n) (fl:=fl) (rk:=rk) (min m n) (Nat.min_le_right _ _))
theorem yw{l:List Nat}{m:Nat}(h:fw n fl rk l)(a:l.length=min m n):l=jZ n fl rk m:=h.F3 _ (yx m).1 a (yx m).2
theorem fw.nO{ps:List Nat}{b:Nat}(h:fw n fl rk ps)(e:fI n fl ps b):((List.range b).filter λk=>decide (fl k=fl b)).length=(ps.filter λx=>decide (fl x=fl b)).length:=by
 have i:∀x∈(List.range b).filter λk=>decide (fl k=fl b),x∈ps.filter λx=>decide (fl x=fl b):=λx f=>by
  obtain⟨d,a⟩:=gh.1 f;exact gh.2 ⟨e.2.2 x (lX.1 d) (by simpa using a),a⟩
 have j:∀x∈ps.filter λx=>decide (fl x=fl b),x∈(List.range b).filter λk=>decide (fl k=fl b):=λx f=>by
  obtain⟨d,a⟩:=gh.1 f;have g:fl x=fl b:=by simpa using a
  refine gh.2 ⟨lX.2 ?_,a⟩;rcases lY x b with c|c|c
  ·exact c
  ·subst c;exact absurd d e.2.1
  ·exact absurd (h.closed x d b c g.symm) e.2.1
 have l:((List.range b).filter λk=>decide (fl k=fl b)).Nodup:=List.nodup_range.filter _;have m:(ps.filter λx=>decide (fl x=fl b)).Nodup:=h.nodup.filter _;have o:=pX l i;have p:=pX m j;omega
end
section
variable {n:Nat} {fl rk:Nat→Int}
def jb(n:Nat)(fl:Nat→Int)(k:Nat)(f:Int):Option Nat:=(List.range n).find? λa=>decide (k≤a)&&decide (fl a=f)
theorem oA{k:Nat}{f:Int}{j:Nat}:jb n fl k f=some j↔(k≤j∧j<n∧fl j=f∧∀m,k≤m→m<j→fl m≠f):=by
 unfold jb;rw[List.find?_eq_some_iff_getElem];constructor
 ·rintro⟨a,o,g,b,c⟩;simp only[yf]at b;subst b;simp only[eO,p6]at a;simp only[u6]at g;refine⟨a.1,g,a.2,λm e i l=>?_⟩;have:=c m i;simp[-Xm,e,l]at this
 ·rintro⟨a,b,c,h⟩;refine⟨by simp[-Xm,a,c],j,by simpa using b,by simp,λm e=>?_⟩;simp only[yf];by_cases d:k≤m
  ·simp[-Xm,d,h m d e]
  ·simp[-Xm,d]
theorem yv{k:Nat}{f:Int}:jb n fl k f=none↔∀m,k≤m→m<n→fl m≠f:=by
 unfold jb;rw[List.find?_eq_none];constructor
 ·intro a m d b e;exact a m (lX.2 b) (by simp[-Xm,d,e])
 ·intro a m b;have:=lX.1 b;simp only[eO,p6];exact λc=>a m c.1 this c.2
theorem KE{k:Nat}(a:k<n):jb n fl k (fl k)=some k:=oA.2 ⟨aX _,a,rfl,λd b c=>by omega⟩
theorem KG{k:Nat}{f:Int}(h:fl k≠f):jb n fl k f=jb n fl (k+1) f:=by
 cases b:jb n fl (k+1) f with
 | none =>
  rw[yv]at b ⊢;intro a i l;by_cases c:a=k
  ·subst c;exact h
  ·exact b a (by omega) l
 | some o =>
  rw[oA]at b ⊢;obtain⟨m,d,e,g⟩:=b;refine⟨by omega,d,e,λa i j=>?_⟩;by_cases c:a=k
  ·subst c;exact h
  ·exact g a (by omega) j
theorem KF(f:Int):jb n fl n f=none:=yv.2 λc a b=>by omega
theorem Ko(k:Nat):yq n fl k (jb n fl (k+1) (fl k)):=by
 cases a:jb n fl (k+1) (fl k)with
 | none =>
  rw[yv]at a;exact λc d b=>a c (by omega) b
 | some i =>
  rw[oA]at a;obtain⟨d,b,e,f⟩:=a;exact⟨by omega,b,e,λc h g=>f c (by omega) g⟩
theorem Ky(i:Nat):fI n fl [] i↔jb n fl 0 (fl i)=some i:=by
 rw[oA];unfold fI;constructor
 ·rintro⟨a,_,b⟩;exact⟨jr _,a,rfl,λe _ c d=>by cases b e c d⟩
 ·rintro⟨_,a,_,b⟩;exact⟨a,by simp,λe c d=>absurd d (b e (jr _) c)⟩
def oz(n:Nat)(fl:Nat→Int)(ps:List Nat)(b:List Nat):Prop:=b.Nodup∧∀a,a∈b↔fI n fl ps a
theorem KB{ps a:List Nat}(h:oz n fl ps a):a.length≤n:=by
 have:=pX (r:=List.range n) h.1 λc b=>lX.2 ((h.2 c).1 b).1
 simpa using this
theorem KA{ps a:List Nat}(h:oz n fl ps a){b:Nat}(c:b∈a)(e:∀i∈a,¬eF rk i b):fI n fl ps b∧∀i,fI n fl ps i→¬eF rk i b:=
 ⟨(h.2 b).1 c,λi d=>e i ((h.2 i).2 d)⟩
theorem Fa{ps o:List Nat}(v:fw n fl rk ps)(h:oz n fl ps o){b:Nat}{i j:List Nat}(d:o.Perm (b::i)){a:Option Nat}(f:yq n fl b a)(m:j.Perm (a.toList++i)):oz n fl (ps++[b]) j:=by
 have u:(b::i).Nodup:=d.nodup_iff.1 h.1;obtain⟨q,l⟩:=sK.1 u;have k:fI n fl ps b:=(h.2 b).1 (d.mem_iff.2 (by simp));have t:∀e,e∈j↔fI n fl (ps++[b]) e:=λe=>by
  rw[Kz v.closed k f,m.mem_iff,eI,← h.2 e,d.mem_iff,dW];constructor
  ·rintro(c|c)
   ·right;cases a with
    |none=>simp at c
    |some g=>simp at c;rw[c]
   ·left;exact⟨.inr c,λr=>q (r▸c)⟩
  ·rintro(⟨c|c,p⟩|c)
   ·exact absurd c p
   ·exact .inr c
   ·left;rw[c];simp[-Xm]
 refine⟨m.nodup_iff.2 ?_,t⟩;cases a with
 |none=>simpa using l
 | some g =>
  simp only[Option.toList_some,List.singleton_append];refine sK.2 ⟨λs=>?_,l⟩;have c:fI n fl ps g:=(h.2 g).1 (d.mem_iff.2 (gy _ s));have:=c.2.2 b f.1 f.2.2.1.symm;exact k.2.1 this
theorem KC{ps:List Nat}(h:oz n fl ps [])(a:fw n fl rk ps):ps.length=n:=by
 have:=a.len;rcases fm ps.length n with b|b
 ·obtain⟨d,c⟩:=yu (fl:=fl) a.nodup a.mem b;exact absurd ((h.2 d).2 c) (by simp)
 ·omega
end
section
variable {lt:Nat→Nat→Prop}
theorem E9{l:List Nat}{N k:Nat}(h:k<N):bF (l.take N) k=bF l k:=by
 unfold bF;rw[fF,bE h]
theorem Kq{l r:List Nat}{k:Nat}(h:k<l.length):bF (l++r) k=bF l k:=by
 unfold bF;rw[eV h]
theorem KH{l:List Nat}{N:Nat}(h:l.length=N+1):l.Perm (bF l N::l.take N):=by
 have d:l=l.take N++[bF l N]:=by
  have a:l.take (N+1)=l.take N++l[N]?.toList:=gA;rw[iz (by omega)]at a;have b:l[N]?=some l[N]:=cJ (by omega);have c:bF l N=l[N]:=by unfold bF;rw[b];rfl
  rw[c];rw[b]at a;exact a
 exact(List.Perm.of_eq d).trans yi
structure qZ (lt:Nat→Nat→Prop) (l0 l:List Nat) (j:Nat):Prop where
 p:l.Perm l0
 u:sP lt (bF l) l.length j
theorem KL{l:List Nat}(x:Nat)(h:ic lt (bF l) l.length):qZ lt (l++[x]) (l++[x]) l.length:=by
 refine⟨List.Perm.refl _,?_⟩;rw[dL];exact KI h λb a=>Kq a
theorem Fc{a l:List Nat}{j:Nat}(h:qZ lt a l j)(b:j=0∨¬lt (bF l j) (bF l ((j - 1) / 2))):l.Perm a∧ic lt (bF l) l.length:=⟨h.p,KK h.u b⟩
theorem KM(c:kV lt){b l:List Nat}{j:Nat}(h:qZ lt b l j)(d:0<j)(e:lt (bF l j) (bF l ((j - 1) / 2))):qZ lt b (kx l ((j - 1) / 2) j) ((j - 1) / 2):=by
 have a:=h.u.BJ;refine⟨(vk (by omega) a).trans h.p,?_⟩;have:=KJ c h.u d e;rw[vj,show bF (kx l ((j - 1) / 2) j)=kv (bF l) ((j - 1) / 2) j from funext (vi (by omega) a)];exact this
structure oy (lt:Nat→Nat→Prop) (l0 l:List Nat) (N i:Nat):Prop where
 p:l.Perm l0
 n:l.length=N+1
 x:bF l N=bF l0 0
 d:sO lt (bF l) N i
theorem Kw{l:List Nat}{N:Nat}(a:l.length=N+1)(h:ic lt (bF l) l.length):oy lt l (kx l 0 N) N 0:=by
 rw[a]at h;refine⟨vk (by omega) (by omega),by rw[vj,a],?_,Kt h λc d b=>?_⟩
 ·rw[vi (by omega) (by omega),sQ]
 ·rw[vi (by omega) (by omega),mO (by omega) (by omega)]
theorem yt(c:kV lt){b l:List Nat}{N i j:Nat}(h:oy lt b l N i)(o:0<j)(e:j<N)(m:(j - 1) / 2=i)(g:∀k,0<k→k<N→(k - 1) / 2=i→¬lt (bF l k) (bF l j))(f:lt (bF l j) (bF l i)):oy lt b (kx l i j) N j:=by
 have q:=h.n;have a:bF (kx l i j)=kv (bF l) i j:=funext (vi (by omega) (by omega));refine⟨(vk (by omega) (by omega)).trans h.p,by rw[vj];exact h.n,?_,?_⟩
 ·rw[a,mO (by omega) (by omega)];exact h.x
 ·rw[a];exact Ku c h.d o e m g f
theorem Kx(c:kV lt){a l:List Nat}{N i:Nat}(e:ic lt (bF a) a.length)(h:oy lt a l N i)(m:∀k,0<k→k<N→(k - 1) / 2=i→¬lt (bF l k) (bF l i)):
  a.Perm (bF a 0::l.take N)∧ic lt (bF (l.take N)) (l.take N).length∧∀y∈a,¬lt y (bF a 0):=by
 have f:=Kv h.d m;have g:(l.take N).length=N:=by rw[lV,h.n];omega
 refine⟨?_,?_,λy o=>?_⟩
 ·have:=KH h.n;rw[h.x]at this;exact h.p.symm.trans this
 ·rw[g];intro k q b;rw[E9 b,E9 (by omega)];exact f k q b
 ·obtain⟨k,b⟩:=lv o;have j:=(bO.1 b).1;have:=KD c e k j;unfold bF at this;rw[b]at this;exact this
theorem yr(b:kV lt){l:List Nat}{N i:Nat}(j:Nat)(e:(2*i+2<N∧lt (bF l (2*i+2)) (bF l (2*i+1))∧j=2*i+2)∨((¬2*i+2<N∨¬lt (bF l (2*i+2)) (bF l (2*i+1)))∧j=2*i+1)):
  ∀k,0<k→k<N→(k - 1) / 2=i→¬lt (bF l k) (bF l j):=λk h f g=>by
 have c:k=2*i+1∨k=2*i+2:=by omega
 rcases e with⟨a,d,rfl⟩|⟨a,rfl⟩
 ·rcases c with rfl|rfl
  ·exact b.as d
  ·exact b.ir _
 ·rcases c with rfl|rfl
  ·exact b.ir _
  ·rcases a with a|a
   ·exact absurd f a
   ·exact a
end
end Go.Proofs.YtinlnkhheafjaaaGreatDoor
namespace Go.Proofs.YtinlnkhheafjaaaGreatDoor
open Go.Eng Go.Pi
def pk{a:Type}(l:List a)(ps:List Nat):List a:=ps.filterMap λb=>l[b]?
def lp(z:Nat):D→Option (List (List D))
 |.aB=>some []
 |.sl a _ rows=>if a=z then some rows else none
 |_=>none
def tN(j:Nat)(row:List D):Int:=match row[j]? with
 |some (.int .i64 a)=>a
 |_=>0
def fJ(l:List Int)(k:Nat):Int:=l[k]?.getD 0
def BG(p:Int × Int × List UInt8):List D:=[.int .i64 p.1,.int .i64 p.2.1,.str p.2.2]
def Ot(p:List UInt8 × List UInt8):List D:=[.str p.1,.str p.2]
def uY(row:List D):Prop:=∃(k l m:List UInt8) (f a g h i j:Int) (d b:D) (e:List (Int × Int × List UInt8)) (c:List (List UInt8 × List UInt8)),
 row=[.str k,.int .i64 f,.int .i64 a,.int .i64 g,.int .i64 h,d,.int .i64 i,.int .i64 j,.str l,.str m,b]∧aR 3 BG e d∧e.length≤9223372036854775807∧aR 2 Ot c b∧c.length≤9223372036854775807 ∧ -9223372036854775808≤a∧a≤9223372036854775807
def Kn(a c:List (List D)):Prop:=a.length=c.length∧a.length≤400000000∧(∀b∈a,uY b)∧∀b∈c,∃d,b=[.int .i64 d]
def lQ(z:Nat)(rows:List (List D)):D:=match rows with
 |[] =>.aB
 |_ =>.sl z false rows
noncomputable def BT(a b:List (List D))(m:Int):List (List D):=pk a (jZ a.length (fJ (a.map (tN 2))) (fJ (b.map (tN 0))) m.toNat)
open Classical in
noncomputable def rq(args:List D)(h:J):Option (D × J):=match args with
 | [d,e,.int .i64 c]=>match lp 11 d,lp 1 e with
  |some a,some b=>if Kn a b then some (lQ 11 (BT a b c),h)else none
  |_,_=>none
 |_=>none
end Go.Proofs.YtinlnkhheafjaaaGreatDoor
namespace Go.Pi
open Go.Eng
def fj(i:Nat)(r:List D):Option Int:=match r[i]? with
 |some (.int .i64 a)=>some a
 |_=>none
def pt(fi ti:Nat)(r:List D):Bool:=(fj fi r).isSome&&(fj ti r).isSome
def qn(fi ti:Nat)(f:Int)(rows:List (List D)):Int × Bool:=rows.foldl (λb a=>if fj fi a=some f then((fj ti a).getD 0,true)else b) (0,false)
theorem RQ(fi ti:Nat)(f:Int)(rows:List (List D))(r:List D):qn fi ti f (rows++[r])=if fj fi r=some f then((fj ti r).getD 0,true)else qn fi ti f rows:=by simp[qn]
def tc(Y fi ti:Nat)(args:List D)(h:J):Option (D × J):=match args with
 |[.aB,.int .i64 b]=>some (.bZ [.int .i64 0,.bool false],h)
 |[.sl c _ a,.int .i64 b]=>if c=Y∧a.all (pt fi ti)=true∧a.length*8≤140737488351232 then some (.bZ [.int .i64 (qn fi ti b a).1,.bool (qn fi ti b a).2],h)else none
 |_=>none
end Go.Pi
namespace Go.Eng
abbrev jn:=@List.pairwise_cons
end Go.Eng
namespace Go.Pi
open Go.Eng
structure lA (f:Int→Option Int) (out:List (Int × Int)):Prop where
 mem:∀p,p∈out↔dZ p.1∧f p.1=some p.2
 up:out.Pairwise λa b=>a.1<b.1
theorem J5:∀{a b:List (Int × Int)},a.Pairwise (λa b=>a.1<b.1)→b.Pairwise (λa b=>a.1<b.1)→(∀p,p∈a↔p∈b)→a=b
 |[],[],_,_,_=>rfl
 |[],d::b,_,_,h=>absurd ((h d).2 (by simp)) (by simp)
 |p::a,[],_,_,h=>absurd ((h p).1 (by simp)) (by simp)
 | p::a,d::b,m,n,h=>by
  obtain⟨i,k⟩:=jn.1 m;obtain⟨j,l⟩:=jn.1 n;have o:p=d:=by
   rcases dW.1 ((h p).1 (by simp))with e|e
   ·exact e
   ·rcases dW.1 ((h d).2 (by simp))with g|g
    ·exact g.symm
    ·have:=j p e;have:=i d g;omega
  subst o;rw[J5 k l λf=>?_];constructor
  ·intro c;rcases dW.1 ((h f).1 (gy _ c))with e|e
   ·subst e;have:=i f c;omega
   ·exact e
  ·intro c;rcases dW.1 ((h f).2 (gy _ c))with e|e
   ·subst e;have:=j f c;omega
   ·exact e
theorem lA.uniq{f:Int→Option Int}{a b:List (Int × Int)}(c:lA f a)(d:lA f b):a=b:=J5 c.up d.up λe=>(c.mem e).trans (d.mem e).symm
end Go.Pi
namespace Go.Proofs.YtinlnkhheafjaaaGreatDoor
open Go.Eng Go.Pi
def uF(k t:Nat)(f:Int→Option Int)(r:List D):Int→Option Int:=λa=>if a=(fj k r).getD 0 then some ((fj t r).getD 0)else f a
def oO(a b:List (List D)):Int→Option Int:=b.foldl (uF 2 4) (a.reverse.foldl (uF 0 1) λ_=>none)
def cX(p:Int × Int):List D:=[.int .i64 p.1,.int .i64 p.2]
def pj(k t:Nat)(r:List D):Prop:=∃a b,fj k r=some a∧dZ a∧fj t r=some b∧dZ b
open Classical in
noncomputable def rj(args:List D)(h:J):Option (D × J):=match args with
 | [g,e]=>match lp 11 g,lp 2 e with
  |some c,some b=>if d:∃f,lA (oO b c) f then(if c.length≤100000000∧b.length≤100000000∧(∀a∈c,pj 2 4 a)∧(∀a∈b,pj 0 1 a)then some (lQ 2 (d.choose.map cX),h)else none)else none
  |_,_=>none
 |_=>none
theorem LW{f m:D}{c b:List (List D)}(l:lp 11 f=some c)(k:lp 2 m=some b)(g:c.length≤100000000)(h2:b.length≤100000000)(i:∀r∈c,pj 2 4 r)(j:∀r∈b,pj 0 1 r){a:List (Int × Int)}(d:lA (oO b c) a)(h:J):rj [f,m] h=some (lQ 2 (a.map cX),h):=by
 have e:∃a,lA (oO b c) a:=⟨a,d⟩
 unfold rj;simp only[l,k];rw[dif_pos e,bE ⟨g,h2,i,j⟩,e.choose_spec.uniq d]
abbrev U:Nat:=3
abbrev iW:Nat:=4
abbrev fE:Nat:=5
abbrev bP:Nat:=9
abbrev Xl:Nat:=20
abbrev j7:Nat:=22
abbrev bA:Nat:=23
abbrev bM:Nat:=24
abbrev aG:Nat:=26
abbrev aF:Nat:=28
abbrev aV:Nat:=32
abbrev aW:Nat:=33
abbrev eT:Nat:=36
abbrev iH:Nat:=43
abbrev nC:Nat:=50
abbrev bS:Nat:=55
abbrev jO:Nat:=58
abbrev iV:Nat:=59
abbrev dU:Nat:=61
abbrev bB:Nat:=69
abbrev kq:Nat:=74
abbrev ff:Nat:=76
abbrev Xk:Nat:=77
abbrev qI:Nat:=80
abbrev eE:Nat:=99
abbrev kI:Nat:=119
abbrev xl:Nat:=157
abbrev rL:Nat:=19
abbrev rM:Nat:=25
abbrev rG:Nat:=5
abbrev nh:Nat:=6
abbrev rJ:Nat:=7
abbrev fN:Nat:=8
abbrev oS:Nat:=9
abbrev oU:Nat:=10
abbrev tF:Nat:=11
abbrev tH:Nat:=12
abbrev oR:Nat:=13
abbrev oP:Nat:=14
abbrev nV:Nat:=15
abbrev nX:Nat:=16
abbrev qc:Nat:=17
abbrev rK:Nat:=18
abbrev rP:Nat:=20
abbrev qe:Nat:=21
abbrev rN:Nat:=22
abbrev rQ:Nat:=23
abbrev tC:Nat:=24
abbrev qd:Nat:=26
abbrev zx:Nat:=27
abbrev ts:Nat:=29
abbrev vJ:Nat:=30
abbrev wb:Nat:=31
abbrev lH:Nat:=32
abbrev gD:Nat:=33
abbrev tJ:Nat:=34
abbrev vX:Nat:=35
abbrev oT:Nat:=36
abbrev ni:Nat:=37
abbrev zy:Nat:=38
abbrev vY:Nat:=39
abbrev tD:Nat:=40
abbrev zt:Nat:=41
abbrev tI:Nat:=42
abbrev zv:Nat:=43
abbrev vO:Nat:=44
abbrev wc:Nat:=45
abbrev vP:Nat:=46
abbrev wi:Nat:=50
abbrev tt:Nat:=52
abbrev vT:Nat:=53
abbrev vU:Nat:=54
abbrev zi:Nat:=55
abbrev tu:Nat:=56
abbrev zd:Nat:=57
abbrev vK:Nat:=58
abbrev vL:Nat:=59
abbrev we:Nat:=60
abbrev wg:Nat:=61
abbrev zA:Nat:=62
abbrev wj:Nat:=63
abbrev vZ:Nat:=64
abbrev v7:Nat:=65
abbrev tG:Nat:=66
abbrev nW:Nat:=67
abbrev rH:Nat:=68
abbrev vQ:Nat:=69
abbrev vR:Nat:=70
abbrev zb:Nat:=71
abbrev vS:Nat:=72
abbrev wm:Nat:=76
abbrev rI:Nat:=78
abbrev tw:Nat:=79
abbrev zj:Nat:=80
abbrev zk:Nat:=81
abbrev tz:Nat:=82
abbrev ze:Nat:=83
abbrev vM:Nat:=84
abbrev wh:Nat:=85
abbrev zl:Nat:=96
abbrev zc:Nat:=97
abbrev tA:Nat:=98
abbrev qa:Nat:=99
abbrev zm:Nat:=100
abbrev zn:Nat:=101
abbrev zf:Nat:=102
abbrev zo:Nat:=108
abbrev zp:Nat:=109
abbrev vV:Nat:=110
abbrev GS:Nat:=111
abbrev vN:Nat:=112
abbrev zg:Nat:=113
abbrev qb:Nat:=115
abbrev oQ:Nat:=116
abbrev zh:Nat:=118
abbrev zq:Nat:=119
abbrev tB:Nat:=120
abbrev zu:Nat:=137
abbrev v8:Nat:=138
abbrev wa:Nat:=139
abbrev tE:Nat:=140
abbrev zz:Nat:=141
noncomputable def gb:TI:=⟨.int .i64,1,8,[.int .i64 0],[]⟩
noncomputable def oh:TI:=⟨.bool,1,1,[.bool false],[]⟩
noncomputable def xh:TI:=⟨.int .u8,1,1,[.int .u8 0],[]⟩
noncomputable def J2:TI:=⟨.str,1,16,[.str []],[]⟩
noncomputable def J0:TI:=⟨.Hb,1,16,[.ko],[]⟩
noncomputable def CP:TI:=⟨.sl 5,1,24,[.aB],[]⟩
noncomputable def qF:TI:=⟨.sl 55,1,24,[.aB],[]⟩
noncomputable def xf:TI:=⟨.sl 69,1,24,[.aB],[]⟩
noncomputable def xg:TI:=⟨.st [(3,0,1),(3,1,1),(3,2,1),(3,3,1),(23,4,1),(3,5,1),(3,6,1),(9,7,1),(9,8,1),(24,9,1)],10,128,[.int .i64 0,.int .i64 0,.int .i64 0,.int .i64 0,.aB,.int .i64 0,.int .i64 0,.str [],.str [],.aB],[]⟩
noncomputable def mu:TI:=⟨.st [(9,0,1),(26,1,10)],11,144,[.str [],.int .i64 0,.int .i64 0,.int .i64 0,.int .i64 0,.aB,.int .i64 0,.int .i64 0,.str [],.str [],.aB],[]⟩
noncomputable def qE:TI:=⟨.sl 28,1,24,[.aB],[]⟩
noncomputable def nB:TI:=⟨.sl 3,1,24,[.aB],[]⟩
noncomputable def xd:TI:=⟨.sl 61,1,24,[.aB],[]⟩
noncomputable def J1:TI:=⟨.int .i64,1,8,[.int .i64 0],[]⟩
noncomputable def CO:TI:=⟨.sl 36,1,24,[.aB],[]⟩
noncomputable def px:TI:=⟨.st [(3,0,1),(3,1,1),(9,2,1)],3,32,[.int .i64 0,.int .i64 0,.str []],[]⟩
noncomputable def xi:TI:=⟨.st [(22,0,1),(3,1,1)],2,32,[.aB,.int .i64 0],[]⟩
noncomputable def JW:TI:=⟨.arr 3 3,3,24,[.int .i64 0,.int .i64 0,.int .i64 0],[]⟩
noncomputable def CN:TI:=⟨.st [(3,0,1),(3,1,1)],2,16,[.int .i64 0,.int .i64 0],[]⟩
noncomputable def uD:TI:=⟨.st [(9,0,1),(9,1,1)],2,32,[.str [],.str []],[]⟩
noncomputable def JY:TI:=⟨.ptr 76,1,8,[.h9],[("Len",some 40),("Less",some 137),("Pop",some 138),("Push",some 139),("Swap",some 140)]⟩
noncomputable def xe:TI:=⟨.st [(33,0,1),(33,1,1)],2,48,[.aB,.aB],[]⟩
noncomputable def JX:TI:=⟨.uk,1,8,[.any],[]⟩
noncomputable def JV:TI:=⟨.sl 4,1,24,[.aB],[]⟩
noncomputable def J3:TI:=⟨.sl 9,1,24,[.aB],[]⟩
noncomputable def JZ:TI:=⟨.int .u64,1,8,[.int .u64 0],[]⟩
noncomputable def CL:TI:=⟨.arr 256 5,256,256,[.int .u8 0,.int .u8 0,.int .u8 0,.int .u8 0,.int .u8 0,.int .u8 0,.int .u8 0,.int .u8 0,.int .u8 0,.int .u8 0,.int .u8 0,.int .u8 0,.int .u8 0,.int .u8 0,.int .u8 0,.int .u8 0,.int .u8 0,.int .u8 0,.int .u8 0,.int .u8 0,.int .u8 0,.int .u8 0,.int .u8 0,.int .u8 0,.int .u8 0,.int .u8 0,.int .u8 0,.int .u8 0,.int .u8 0,.int .u8 0,.int .u8 0,.int .u8 0,.int .u8 0,.int .u8 0,.int .u8 0,.int .u8 0,.int .u8 0,.int .u8 0,.int .u8 0,.int .u8 0,.int .u8 0,.int .u8 0,.int .u8 0,.int .u8 0,.int .u8 0,.int .u8 0,.int .u8 0,.int .u8 0,.int .u8 0,.int .u8 0,.int .u8 0,.int .u8 0,.int .u8 0,.int .u8 0,.int .u8 0,.int .u8 0,.int .u8 0,.int .u8 0,.int .u8 0,.int .u8 0,.int .u8 0,.int .u8 0,.int .u8 0,.int .u8 0,.int .u8 0,.int .u8 0,.int .u8 0,.int .u8 0,.int .u8 0,.int .u8 0,.int .u8 0,.int .u8 0,.int .u8 0,.int .u8 0,.int .u8 0,.int .u8 0,.int .u8 0,.int .u8 0,.int .u8 0,.int .u8 0,.int .u8 0,.int .u8 0,.int .u8 0,.int .u8 0,.int .u8 0,.int .u8 0,.int .u8 0,.int .u8 0,.int .u8 0,.int .u8 0,.int .u8 0,.int .u8 0,.int .u8 0,.int .u8 0,.int .u8 0,.int .u8 0,.int .u8 0,.int .u8 0,.int .u8 0,.int .u8 0,.int .u8 0,.int .u8 0,.int .u8 0,.int .u8 0,.int .u8 0,.int .u8 0,.int .u8 0,.int .u8 0,.int .u8 0,.int .u8 0,.int .u8 0,.int .u8 0,.int .u8 0,.int .u8 0,.int .u8 0,.int .u8 0,.int .u8 0,.int .u8 0,.int .u8 0,.int .u8 0,.int .u8 0,.int .u8 0,.int .u8 0,.int .u8 0,.int .u8 0,.int .u8 0,.int .u8 0,.int .u8 0,.int .u8 0,.int .u8 0,.int .u8 0,.int .u8 0,.int .u8 0,.int .u8 0,.int .u8 0,.int .u8 0,.int .u8 0,.int .u8 0,.int .u8 0,.int .u8 0,.int .u8 0,.int .u8 0,.int .u8 0,.int .u8 0,.int .u8 0,.int .u8 0,.int .u8 0,.int .u8 0,.int .u8 0,.int .u8 0,.int .u8 0,.int .u8 0,.int .u8 0,.int .u8 0,.int .u8 0,.int .u8 0,.int .u8 0,.int .u8 0,.int .u8 0,.int .u8 0,.int .u8 0,.int .u8 0,.int .u8 0,.int .u8 0,.int .u8 0,.int .u8 0,.int .u8 0,.int .u8 0,.int .u8 0,.int .u8 0,.int .u8 0,.int .u8 0,.int .u8 0,.int .u8 0,.int .u8 0,.int .u8 0,.int .u8 0,.int .u8 0,.int .u8 0,.int .u8 0,.int .u8 0,.int .u8 0,.int .u8 0,.int .u8 0,.int .u8 0,.int .u8 0,.int .u8 0,.int .u8 0,.int .u8 0,.int .u8 0,.int .u8 0,.int .u8 0,.int .u8 0,.int .u8 0,.int .u8 0,.int .u8 0,.int .u8 0,.int .u8 0,.int .u8 0,.int .u8 0,.int .u8 0,.int .u8 0,.int .u8 0,.int .u8 0,.int .u8 0,.int .u8 0,.int .u8 0,.int .u8 0,.int .u8 0,.int .u8 0,.int .u8 0,.int .u8 0,.int .u8 0,.int .u8 0,.int .u8 0,.int .u8 0,.int .u8 0,.int .u8 0,.int .u8 0,.int .u8 0,.int .u8 0,.int .u8 0,.int .u8 0,.int .u8 0,.int .u8 0,.int .u8 0,.int .u8 0,.int .u8 0,.int .u8 0,.int .u8 0,.int .u8 0,.int .u8 0,.int .u8 0,.int .u8 0,.int .u8 0,.int .u8 0,.int .u8 0,.int .u8 0,.int .u8 0,.int .u8 0,.int .u8 0,.int .u8 0,.int .u8 0,.int .u8 0,.int .u8 0,.int .u8 0,.int .u8 0,.int .u8 0,.int .u8 0,.int .u8 0,.int .u8 0,.int .u8 0,.int .u8 0,.int .u8 0,.int .u8 0,.int .u8 0],[]⟩
noncomputable def JT:List (Option TI):=[none,none,none,some gb,some oh,some xh,none,none,none,some J2,none,none,none,none,none,none,none,none,none,none,some J0,none,some CP,some qF,some xf,none,some xg,none,some mu,none,none,none,some qE,some nB,none,none,some xd,none,none,none,none,none,none,some J1,none,none,none,none,none,none,some CO,none,none,none,none,some px,none,none,some xi,some JW,none,some CN,none,none,none,none,none,none,none,some uD,none,none,none,none,some JY,none,some xe,some JX,none,none,some JV,none,none,none,none,none,none,none,none,none,none,none,none,none,none,none,none,none,none,some J3,none,none,none,none,none,none,none,none,none,none,none,none,none,none,none,none,none,none,none,some JZ,none,none,none,none,none,none,none,none,none,none,none,none,none,none,none,none,none,none,none,none,none,none,none,none,none,none,none,none,none,none,none,none,none,none,none,none,none,some CL]
noncomputable def tab:cT:=CI JT
abbrev gC(t:Nat)(i:TI):Prop:=sk Tryz.prog t=some i∧rU Tryz.prog t=true
theorem gM{t:Nat}{i:TI}(h:sk Tryz.prog t=some i:=by kernel_rfl)(a:rU Tryz.prog t=true:=by kernel_rfl):gC t i:=⟨h,a⟩
theorem VS:gC 3 gb:=gM
theorem VW:gC 4 oh:=gM
theorem VY:gC 5 xh:=gM
theorem V9:gC 9 J2:=gM
theorem VM:gC 20 J0:=gM
theorem VN:gC 22 CP:=gM
theorem VO:gC 23 qF:=gM
theorem VP:gC 24 xf:=gM
theorem VQ:gC 26 xg:=gM
theorem VR:gC 28 mu:=gM
theorem VT:gC 32 qE:=gM
theorem VU:gC 33 nB:=gM
theorem VV:gC 36 xd:=gM
theorem VX:gC 43 J1:=gM
theorem VZ:gC 50 CO:=gM
theorem V0:gC 55 px:=gM
theorem V1:gC 58 xi:=gM
theorem V2:gC 59 JW:=gM
theorem V3:gC 61 CN:=gM
theorem V4:gC 69 uD:=gM
theorem V5:gC 74 JY:=gM
theorem V6:gC 76 xe:=gM
theorem V7:gC 77 JX:=gM
theorem V8:gC 80 JV:=gM
theorem Wa:gC 99 J3:=gM
theorem VK:gC 119 JZ:=gM
theorem VL:gC 157 CL:=gM
theorem CH:dO Tryz.prog tab:=VJ (show sT Tryz.prog 0 JT from⟨VS,VW,VY,V9,VM,VN,VO,VP,VQ,VR,VT,VU,VV,VX,VZ,V0,V1,V2,V3,V4,V5,V6,V7,V8,Wa,VK,VL,trivial⟩)
theorem BO:Tryz.prog.follows .mixedOrders=true:=by kernel_rfl
def cQ(f:Func)(n:Nat)(k z b:List Nat)(s:Bool):gp:=⟨f.body.getD .skip,f.results.toList,⟨n,k,z,b⟩,s⟩
noncomputable def i5:=cQ Tryz.f5 15 [0,1,4,8] [] [] false
noncomputable def i6:=cQ Tryz.f6 99 [0,1,4,5,6,7,8,9,10,11,12,13,14,30,52,53,54] [90,95] [] true
noncomputable def i7:=cQ Tryz.f7 20 [0,2,3,4,6,11] [17] [] true
noncomputable def i8:=cQ Tryz.f8 33 [0,1,4,11] [] [] false
noncomputable def i9:=cQ Tryz.f9 53 [0,1,2,6,7,8,9,10,21,22,23,24,25,51] [] [] true
noncomputable def qi:=cQ Tryz.f10 57 [0,1,2,6,7,8,9,20,24,32,56] [] [] false
noncomputable def zP:=cQ Tryz.f11 13 [0,1,4,8] [] [] false
noncomputable def zY:=cQ Tryz.f12 13 [0,1,4,8] [] [] false
noncomputable def z1:=cQ Tryz.f13 147 [0,1,3,4,5,6,18,28,52,57,62,67,72,77,82,87,99,104,116,119,132,138] [6,45,124,129,135,141] [] true
noncomputable def Aa:=cQ Tryz.f14 52 [0,2,3,4,5,10,24,25,26] [3,43,48] [] true
noncomputable def Ad:=cQ Tryz.f15 51 [0,1,2,3,4,7,10,11,12,13,14,15,19,36,40] [7,44,49] [] true
noncomputable def Ae:=cQ Tryz.f16 51 [0,1,2,3,4,7,10,11,12,13,14,15,19,36,40] [7,44,49] [] true
noncomputable def Af:=cQ Tryz.f17 27 [0,1,4,5,10,14,26] [] [] false
noncomputable def Ag:=cQ Tryz.f18 26 [0,1,4,5,10,14,25] [] [] false
noncomputable def Ah:=cQ Tryz.f20 93 [0,1,2,6,7,8,9,10,11,12,26,30,40,80] [90] [] true
noncomputable def Ai:=cQ Tryz.f21 43 [0,1,4,5,6,7,12,33] [] [] true
noncomputable def Aj:=cQ Tryz.f22 56 [0,1,2,6,7,8,9,10,11,12,13,14,15,16,17,29,37,45] [40,51] [] true
noncomputable def Ak:=cQ Tryz.f23 57 [0,1,2,6,7,8,9,10,11,12,13,14,15,19,34,42] [14,46,53] [] true
noncomputable def Al:=cQ Tryz.f24 26 [0,1,4,5,10,14,25] [] [] false
noncomputable def Am:=cQ Tryz.f26 14 [0,1,4] [11] [] true
noncomputable def An:=cQ Tryz.f27 13 [0,2] [] [] false
noncomputable def Ao:=cQ Tryz.f29 64 [0,1,2,3,4,7,13,18,33,63] [1,3] [] false
noncomputable def Ap:=cQ Tryz.f30 71 [0,1,2,3,4,5,6,9,16,22,31,56,61,70] [1,3] [] false
noncomputable def Aq:=cQ Tryz.f31 28 [0,1,4,5,6,11,21] [] [] false
noncomputable def Ar:=cQ Tryz.f32 18 [0,2,3,7] [4] [] false
noncomputable def As:=cQ Tryz.f33 12 [0,1,4] [] [] false
noncomputable def Au:=cQ Tryz.f34 21 [0,1,4,5,6,12] [17] [] false
noncomputable def Av:=cQ Tryz.f35 49 [0,2,3,4] [4,15,21,24,1000003] [] true
noncomputable def Aw:=cQ Tryz.f36 8 [0,2,4] [5] [] false
noncomputable def Ax:=cQ Tryz.f37 8 [0,2,4] [5] [] false
noncomputable def Ay:=cQ Tryz.f38 86 [0,1,2,3,4,5,6] [2,3,1000006] [] true
noncomputable def Az:=cQ Tryz.f39 12 [0,1] [] [] false
noncomputable def AA:=cQ Tryz.f40 8 [0,2] [] [] false
noncomputable def AB:=cQ Tryz.f41 15 [0,2,3] [] [] false
noncomputable def AD:=cQ Tryz.f42 51 [0,1,3,4,6,7,15,35] [3,21] [] false
noncomputable def AE:=cQ Tryz.f43 17 [0,1,3,4,5,6,11] [3] [] false
noncomputable def AF:=cQ Tryz.f44 45 [0,1,2,3,4,5,6,11,26] [3] [] true
noncomputable def AG:=cQ Tryz.f45 25 [0,1,4,5,6,10,19] [] [] false
noncomputable def AH:=cQ Tryz.f46 60 [0,1,2,4,5,6,7,12,18,25,36,48] [44] [] true
noncomputable def AJ:=cQ Tryz.f50 20 [0,1,4,5,6,11,12,13,16,19] [] [] false
noncomputable def AK:=cQ Tryz.f52 57 [0,1,2,3,4,5,6,16,29,40,48,54,56] [1] [] true
noncomputable def AL:=cQ Tryz.f53 28 [0,1,2] [1] [] false
noncomputable def AM:=cQ Tryz.f54 75 [0,1,2,4,5,6,7,8,9,14,22,23,24,25,64,69] [2] [] true
noncomputable def AN:=cQ Tryz.f55 9 [0,1,4] [] [] false
noncomputable def AO:=cQ Tryz.f56 6 [0,1,2] [1] [] false
noncomputable def AP:=cQ Tryz.f57 68 [0,1,2,3,4,5,6,7,21,25,29,40,48,54,58,67] [1] [] false
noncomputable def AQ:=cQ Tryz.f58 38 [0,1,2,37] [1] [] false
noncomputable def AR:=cQ Tryz.f59 74 [0,1,2,4,5,6,7,11,15,22,64,69] [2,7] [] false
noncomputable def AU:=cQ Tryz.f60 25 [0,2,3,5,6,7,8,9,14] [6,18,21] [] true
noncomputable def AV:=cQ Tryz.f61 38 [0,1,2,3,8,9,10,11,17,25] [31] [] true
noncomputable def AW:=cQ Tryz.f62 26 [0,1,4,5,10,14,25] [] [] false
noncomputable def AX:=cQ Tryz.f63 26 [0,1,4,5,10,14,25] [] [] false
noncomputable def AY:=cQ Tryz.f64 23 [0,1,4,17] [] [] false
noncomputable def AZ:=cQ Tryz.f65 48 [0,1,2,6,7,8,9,10,21,33,39] [] [] false
noncomputable def A0:=cQ Tryz.f66 19 [0,1,4,5,7,8,9,16] [] [] false
noncomputable def A1:=cQ Tryz.f67 8 [0,1,2,3] [2] [] false
noncomputable def A2:=cQ Tryz.f68 19 [0,1,4,5,7,8,9,16] [] [] false
noncomputable def A3:=cQ Tryz.f69 8 [0,1,2,3] [2] [] false
noncomputable def A4:=cQ Tryz.f70 42 [0,1,4,5,6,7,12,19,29] [7] [] false
noncomputable def A5:=cQ Tryz.f71 8 [0,2,4] [5] [] false
noncomputable def A6:=cQ Tryz.f72 8 [0,1,2,3] [2] [] false
noncomputable def A7:=cQ Tryz.f76 6 [0,2] [] [] false
noncomputable def A8:=cQ Tryz.f78 15 [0,1,2,6] [] [] false
noncomputable def A9:=cQ Tryz.f79 44 [0,2,3,5,6,9,10,11,12,13,19,28,42] [5] [] false
noncomputable def Ba:=cQ Tryz.f80 26 [0,1,4,5,10,12,13,14,24] [] [] false
noncomputable def Bb:=cQ Tryz.f81 9 [0,1,4] [] [] false
noncomputable def Bc:=cQ Tryz.f82 7 [0,1,2] [1] [] false
noncomputable def Bd:=cQ Tryz.f83 14 [0,2] [] [] false
noncomputable def Be:=cQ Tryz.f84 89 [0,2,3,4,5,6,7,10,14,23,27,54,87] [37] [] true
noncomputable def Bf:=cQ Tryz.f85 98 [0,2,4,5,31,47,57,68,80] [8,13,18,23,28,34,39,44,50,54,60,65,71,76,83,88,93] [] false
noncomputable def Bg:=cQ Tryz.f96 38 [0,2,4,22,24,25,26,27,36] [] [] true
noncomputable def Bh:=cQ Tryz.f97 8 [0,2,4] [5] [] false
noncomputable def Bi:=cQ Tryz.f98 9 [0,1] [] [] false
noncomputable def Bj:=cQ Tryz.f99 10 [0,1,2,3,4] [2,3] [] false
noncomputable def zK:=cQ Tryz.f100 8 [0,1,4] [] [] false
noncomputable def zL:=cQ Tryz.f101 19 [0,1,4,5,7,8,9,16] [] [] false
noncomputable def zM:=cQ Tryz.f102 40 [0,2,3,22,26,39] [] [] false
noncomputable def zN:=cQ Tryz.f108 8 [0,2] [] [] false
noncomputable def zO:=cQ Tryz.f109 12 [0,2] [] [] false
noncomputable def zQ:=cQ Tryz.f110 63 [0,1,2,6,7,8,9,13,30,35,54] [] [] false
noncomputable def zR:=cQ Tryz.f111 8 [0,1,4] [] [] false
noncomputable def zS:=cQ Tryz.f112 17 [0,2] [] [] false
noncomputable def zT:=cQ Tryz.f113 13 [0,2] [] [] false
noncomputable def zU:=cQ Tryz.f115 53 [0,1,2,3,8,9,14,34] [] [] false
noncomputable def zV:=cQ Tryz.f116 220 [0,1,2,3,4,10,11,12,13,14,15,16,17,18,19,20,21,22,23,24,28,33,50,58,80,85,103,110,140,151,171,185,199,213] [] [] false
noncomputable def zW:=cQ Tryz.f118 9 [0,2] [] [] false
noncomputable def zX:=cQ Tryz.f119 58 [0,1,2,3,4,10,11,20,23] [] [] false
noncomputable def zZ:=cQ Tryz.f120 38 [0,1,2,3,10,13] [] [] false
noncomputable def z6:=cQ Tryz.f137 44 [0,1,2,6,7,8] [41] [] false
noncomputable def z7:=cQ Tryz.f138 29 [0,2,3,4] [] [] false
noncomputable def z8:=cQ Tryz.f139 15 [0,1] [11] [] false
noncomputable def Ab:=cQ Tryz.f140 32 [0,1,2] [] [] false
noncomputable def Ac:=cQ Tryz.f141 18 [0,2,3,5,6,7,8,9,14] [] [] false
noncomputable def zB:List (Nat × gp):=[(5,i5),(6,i6),(7,i7),(8,i8),(9,i9),(10,qi),(11,zP),(12,zY),(13,z1),(14,Aa),(15,Ad),(16,Ae),(17,Af),(18,Ag),(20,Ah),(21,Ai),(22,Aj),(23,Ak),(24,Al),(26,Am),(27,An),(29,Ao),(30,Ap),(31,Aq),(32,Ar),(33,As),(34,Au),(35,Av),(36,Aw),(37,Ax),(38,Ay),(39,Az),(40,AA),(41,AB),(42,AD),(43,AE),(44,AF),(45,AG),(46,AH),(50,AJ),(52,AK),(53,AL),(54,AM),(55,AN),(56,AO),(57,AP),(58,AQ),(59,AR),(60,AU),(61,AV),(62,AW),(63,AX),(64,AY),(65,AZ),(66,A0),(67,A1),(68,A2),(69,A3),(70,A4),(71,A5),(72,A6),(76,A7),(78,A8),(79,A9),(80,Ba),(81,Bb),(82,Bc),(83,Bd),(84,Be),(85,Bf),(96,Bg),(97,Bh),(98,Bi),(99,Bj),(100,zK),(101,zL),(102,zM),(108,zN),(109,zO),(110,zQ),(111,zR),(112,zS),(113,zT),(115,zU),(116,zV),(118,zW),(119,zX),(120,zZ),(137,z6),(138,z7),(139,z8),(140,Ab),(141,Ac)]
noncomputable def Fs:FuncId→Option gp:=tK zB
theorem cS{f:FuncId}{fn:Func}{fi:gp}(d:Tryz.prog.funcs[f]?=some fn)(c:∀(a:Array Value) (w:World),(callFunc f a).run Tryz.prog w = .ok (.enter f a) w)(b:fn.body=some fi.body:=by kernel_rfl)(e:fn.ntmps=fi.A.nt:=by kernel_rfl)(g:fn.results.toList=fi.res:=by kernel_rfl):cG Tryz.prog f fi :=.of d b e g c
theorem Pr:cG Tryz.prog 5 i5:=cS Tryz.func5 Tryz.call5
theorem PB:cG Tryz.prog 6 i6:=cS Tryz.func6 Tryz.call6
theorem PM:cG Tryz.prog 7 i7:=cS Tryz.func7 Tryz.call7
theorem PU:cG Tryz.prog 8 i8:=cS Tryz.func8 Tryz.call8
theorem P1:cG Tryz.prog 9 i9:=cS Tryz.func9 Tryz.call9
theorem Ov:cG Tryz.prog 10 qi:=cS Tryz.func10 Tryz.call10
theorem OB:cG Tryz.prog 11 zP:=cS Tryz.func11 Tryz.call11
theorem OM:cG Tryz.prog 12 zY:=cS Tryz.func12 Tryz.call12
theorem OO:cG Tryz.prog 13 z1:=cS Tryz.func13 Tryz.call13
theorem OS:cG Tryz.prog 14 Aa:=cS Tryz.func14 Tryz.call14
theorem OV:cG Tryz.prog 15 Ad:=cS Tryz.func15 Tryz.call15
theorem OW:cG Tryz.prog 16 Ae:=cS Tryz.func16 Tryz.call16
theorem OX:cG Tryz.prog 17 Af:=cS Tryz.func17 Tryz.call17
theorem OY:cG Tryz.prog 18 Ag:=cS Tryz.func18 Tryz.call18
theorem O0:cG Tryz.prog 20 Ah:=cS Tryz.func20 Tryz.call20
theorem O1:cG Tryz.prog 21 Ai:=cS Tryz.func21 Tryz.call21
theorem O2:cG Tryz.prog 22 Aj:=cS Tryz.func22 Tryz.call22
theorem O3:cG Tryz.prog 23 Ak:=cS Tryz.func23 Tryz.call23
theorem O4:cG Tryz.prog 24 Al:=cS Tryz.func24 Tryz.call24
theorem O5:cG Tryz.prog 26 Am:=cS Tryz.func26 Tryz.call26
theorem O6:cG Tryz.prog 27 An:=cS Tryz.func27 Tryz.call27
theorem O7:cG Tryz.prog 29 Ao:=cS Tryz.func29 Tryz.call29
theorem O8:cG Tryz.prog 30 Ap:=cS Tryz.func30 Tryz.call30
theorem O9:cG Tryz.prog 31 Aq:=cS Tryz.func31 Tryz.call31
theorem Pa:cG Tryz.prog 32 Ar:=cS Tryz.func32 Tryz.call32
theorem Pb:cG Tryz.prog 33 As:=cS Tryz.func33 Tryz.call33
theorem Pc:cG Tryz.prog 34 Au:=cS Tryz.func34 Tryz.call34
theorem Pd:cG Tryz.prog 35 Av:=cS Tryz.func35 Tryz.call35
theorem Pe:cG Tryz.prog 36 Aw:=cS Tryz.func36 Tryz.call36
theorem Pf:cG Tryz.prog 37 Ax:=cS Tryz.func37 Tryz.call37
theorem Pg:cG Tryz.prog 38 Ay:=cS Tryz.func38 Tryz.call38
theorem Ph:cG Tryz.prog 39 Az:=cS Tryz.func39 Tryz.call39
theorem Pk:cG Tryz.prog 40 AA:=cS Tryz.func40 Tryz.call40
theorem Pl:cG Tryz.prog 41 AB:=cS Tryz.func41 Tryz.call41
theorem Pm:cG Tryz.prog 42 AD:=cS Tryz.func42 Tryz.call42
theorem Pn:cG Tryz.prog 43 AE:=cS Tryz.func43 Tryz.call43
theorem Po:cG Tryz.prog 44 AF:=cS Tryz.func44 Tryz.call44
theorem Pp:cG Tryz.prog 45 AG:=cS Tryz.func45 Tryz.call45
theorem Pq:cG Tryz.prog 46 AH:=cS Tryz.func46 Tryz.call46
theorem Ps:cG Tryz.prog 50 AJ:=cS Tryz.func50 Tryz.call50
theorem Pt:cG Tryz.prog 52 AK:=cS Tryz.func52 Tryz.call52
theorem Pu:cG Tryz.prog 53 AL:=cS Tryz.func53 Tryz.call53
theorem Pv:cG Tryz.prog 54 AM:=cS Tryz.func54 Tryz.call54
theorem Pw:cG Tryz.prog 55 AN:=cS Tryz.func55 Tryz.call55
theorem Px:cG Tryz.prog 56 AO:=cS Tryz.func56 Tryz.call56
theorem Py:cG Tryz.prog 57 AP:=cS Tryz.func57 Tryz.call57
theorem Pz:cG Tryz.prog 58 AQ:=cS Tryz.func58 Tryz.call58
theorem PA:cG Tryz.prog 59 AR:=cS Tryz.func59 Tryz.call59
theorem PC:cG Tryz.prog 60 AU:=cS Tryz.func60 Tryz.call60
theorem PD:cG Tryz.prog 61 AV:=cS Tryz.func61 Tryz.call61
theorem PE:cG Tryz.prog 62 AW:=cS Tryz.func62 Tryz.call62
theorem PF:cG Tryz.prog 63 AX:=cS Tryz.func63 Tryz.call63
theorem PG:cG Tryz.prog 64 AY:=cS Tryz.func64 Tryz.call64
theorem PH:cG Tryz.prog 65 AZ:=cS Tryz.func65 Tryz.call65
theorem PI:cG Tryz.prog 66 A0:=cS Tryz.func66 Tryz.call66
theorem PJ:cG Tryz.prog 67 A1:=cS Tryz.func67 Tryz.call67
theorem PK:cG Tryz.prog 68 A2:=cS Tryz.func68 Tryz.call68
theorem PL:cG Tryz.prog 69 A3:=cS Tryz.func69 Tryz.call69
theorem PN:cG Tryz.prog 70 A4:=cS Tryz.func70 Tryz.call70
theorem PO:cG Tryz.prog 71 A5:=cS Tryz.func71 Tryz.call71
theorem PQ:cG Tryz.prog 72 A6:=cS Tryz.func72 Tryz.call72
theorem PR:cG Tryz.prog 76 A7:=cS Tryz.func76 Tryz.call76
theorem PS:cG Tryz.prog 78 A8:=cS Tryz.func78 Tryz.call78
theorem PT:cG Tryz.prog 79 A9:=cS Tryz.func79 Tryz.call79
theorem PV:cG Tryz.prog 80 Ba:=cS Tryz.func80 Tryz.call80
theorem PW:cG Tryz.prog 81 Bb:=cS Tryz.func81 Tryz.call81
theorem PX:cG Tryz.prog 82 Bc:=cS Tryz.func82 Tryz.call82
theorem PY:cG Tryz.prog 83 Bd:=cS Tryz.func83 Tryz.call83
theorem PZ:cG Tryz.prog 84 Be:=cS Tryz.func84 Tryz.call84
theorem P0:cG Tryz.prog 85 Bf:=cS Tryz.func85 Tryz.call85
theorem P2:cG Tryz.prog 96 Bg:=cS Tryz.func96 Tryz.call96
theorem P3:cG Tryz.prog 97 Bh:=cS Tryz.func97 Tryz.call97
theorem P4:cG Tryz.prog 98 Bi:=cS Tryz.func98 Tryz.call98
theorem P5:cG Tryz.prog 99 Bj:=cS Tryz.func99 Tryz.call99
theorem Ow:cG Tryz.prog 100 zK:=cS Tryz.func100 Tryz.call100
theorem Ox:cG Tryz.prog 101 zL:=cS Tryz.func101 Tryz.call101
theorem Oy:cG Tryz.prog 102 zM:=cS Tryz.func102 Tryz.call102
theorem Oz:cG Tryz.prog 108 zN:=cS Tryz.func108 Tryz.call108
theorem OA:cG Tryz.prog 109 zO:=cS Tryz.func109 Tryz.call109
theorem OC:cG Tryz.prog 110 zQ:=cS Tryz.func110 Tryz.call110
theorem OD:cG Tryz.prog 111 zR:=cS Tryz.func111 Tryz.call111
theorem OE:cG Tryz.prog 112 zS:=cS Tryz.func112 Tryz.call112
theorem OG:cG Tryz.prog 113 zT:=cS Tryz.func113 Tryz.call113
theorem OH:cG Tryz.prog 115 zU:=cS Tryz.func115 Tryz.call115
theorem OI:cG Tryz.prog 116 zV:=cS Tryz.func116 Tryz.call116
theorem OJ:cG Tryz.prog 118 zW:=cS Tryz.func118 Tryz.call118
theorem OL:cG Tryz.prog 119 zX:=cS Tryz.func119 Tryz.call119
theorem ON:cG Tryz.prog 120 zZ:=cS Tryz.func120 Tryz.call120
theorem OP:cG Tryz.prog 137 z6:=cS Tryz.func137 Tryz.call137
theorem OQ:cG Tryz.prog 138 z7:=cS Tryz.func138 Tryz.call138
theorem OR:cG Tryz.prog 139 z8:=cS Tryz.func139 Tryz.call139
theorem OT:cG Tryz.prog 140 Ab:=cS Tryz.func140 Tryz.call140
theorem OU:cG Tryz.prog 141 Ac:=cS Tryz.func141 Tryz.call141
theorem P9:uW Tryz.prog zB:=⟨Pr,PB,PM,PU,P1,Ov,OB,OM,OO,OS,OV,OW,OX,OY,O0,O1,O2,O3,O4,O5,O6,O7,O8,O9,Pa,Pb,Pc,Pd,Pe,Pf,Pg,Ph,Pk,Pl,Pm,Pn,Po,Pp,Pq,Ps,Pt,Pu,Pv,Pw,Px,Py,Pz,PA,PC,PD,PE,PF,PG,PH,PI,PJ,PK,PL,PN,PO,PQ,PR,PS,PT,PV,PW,PX,PY,PZ,P0,P2,P3,P4,P5,Ow,Ox,Oy,Oz,OA,OC,OD,OE,OG,OH,OI,OJ,OL,ON,OP,OQ,OR,OT,OU,trivial⟩
def n9:List Int:=[0,0,0,0,0,0,0,0,0,4,0,0,0,0,0,0,0,0,0,0,0,0,0,0,0,0,0,0,0,0,0,0,4,0,0,0,0,0,0,0,0,0,0,0,0,0,0,0,1,1,1,1,1,1,1,1,1,1,0,0,0,0,0,0,0,2,2,2,2,2,2,2,2,2,2,2,2,2,2,2,2,2,2,2,2,2,2,2,2,2,2,0,0,0,0,0,0,2,2,2,2,2,2,2,2,2,2,2,2,2,2,2,2,2,2,2,2,2,2,2,2,2,2,0,0,0,0,0,0,0,0,0,0,0,0,0,0,0,0,0,0,0,0,0,0,0,0,0,0,0,0,0,0,0,0,0,0,0,0,0,0,0,0,0,0,0,0,0,0,0,0,0,0,0,0,0,0,0,0,0,0,0,0,0,0,0,0,0,0,0,0,0,0,0,0,0,0,0,0,0,0,0,0,0,0,0,0,0,0,0,0,0,0,0,0,0,0,0,0,0,0,0,0,0,0,0,0,0,0,0,0,0,0,0,0,0,0,0,0,0,0,0,0,0,0,0,0,0,0,0,0,0,0,0,0,0]
def mg:List D:=n9.map λa =>.int .u8 a
noncomputable def gl:Nat→Option D:=λa=>if a=0 then some (.aI mg)else none
abbrev vW:Nat:=117
theorem Oh(vs:Array Value)(w:World):(callFunc 117 vs).run Tryz.prog w=((Extern.BytealgCompare.compare vs).run Tryz.prog w).andThen λv w' =>.ok (.value v) w':=run_callFunc_extern Tryz.func117 (by kernel_rfl) (by kernel_rfl) (by kernel_rfl) (by kernel_rfl) vs w
theorem LK{args:List D}{h h':J}{d:D}(a:vx args h=some (d,h')){g:Gh}{vs:List Value}(hi:Inv g h)(e:cC g vs args):kJ Tryz.prog 117 vs g h' d:=by
 unfold vx at a;split at a
 ·injection a with a;injection a with b c;subst b;subst c;exact LO Oh hi e
 ·cases a
abbrev rO:Nat:=28
noncomputable def xt:dP:=λa args b=>if a=vW then vx args b else if a=rO then tc 11 2 4 args b else none
noncomputable def X:Cx:=⟨tab,gl,xt⟩
noncomputable def R:dP:=run X Fs
theorem er(fi:gp){f:FuncId}{args:List D}{h:J}{x:Option (D × J)}(a:Fs f=some fi:=by kernel_rfl)(b:wo X R cA fi args h=x:=by kernel_rfl):R f args h=x:=(Jf a args h).trans b
theorem WG(a b:List UInt8)(h:J):R vW [.str a,.str b] h=some (.int .i64 (Lib.compareBytes a b),h):=(uv (X:=X) (F:=Fs) (by kernel_rfl) _ _).trans (by simp[X,xt,vx])
theorem WH(args:List D)(h:J):R rO args h=tc 11 2 4 args h:=(uv (X:=X) (F:=Fs) (by kernel_rfl) _ _).trans (by simp only[X,xt,show ¬(rO=vW) by decide,aJ,aL])
noncomputable section
def C7(a b:D)(h:J):Option (D × J):=
 (aT tab j7 a).bind λc=>(V tab .gtr U c b).bind λc=>(S c
  ((gj tab j7 false true false [a,b]).bind λb=>some (.aS,[b],h))
  (some (.aS,[a],h))).bind λa=>toEnd a.1 ((eX tab jO [0] [(Z 0 a.2.1)]).bind λb=>(py jO 2 a.2.2 b).bind λb=>some (aH [b.1],b.2)) λb=>dD b (some (aH [.h9],a.2.2))
theorem ry(a b:D)(h:J):R rG [a,b] h=C7 a b h:=
 er i5
def xT(a b c:D)(d:List D)(e:J):Option bN:=
 (V tab .lss U (Z 1 d) c).bind λc=>S c
  ((aQ tab bA b (Z 1 d)).bind λf=>(aC tab bS 0 f).bind λf=>(aA tab e U f).bind λf=>(V tab .add U f a).bind λa=>(aQ tab bA b (Z 1 d)).bind λb=>(aC tab bS 0 b).bind λb=>((bT tab e U b a).bind λa=>some ((.bU:D),a)).bind λa=>(V tab .add U (Z 1 d) (.int .i64 1)).bind λb=>some (.aS,[(Z 1 d),b,c],a.2))
  (some ((.ext 2),[(Z 0 d),(Z 1 d),c],e))
def uR(a:D)(b:D × J)(ds:List D)(c:J):Option bN:=
 (V tab .gtr U (Z 2 ds) (.int .i64 0)).bind λd=>S d
  ((R oP [a] c).bind λe=>(some ((.ptr e.2.length 0 0:D),aZ e.2 aF 11 [[.str [],.int .i64 0,.int .i64 0,.int .i64 0,.int .i64 0,.aB,.int .i64 0,.int .i64 0,.str [],.str [],.aB]])).bind λf=>((bT tab f.2 aF f.1 e.1).bind λe=>some ((.bU:D),e)).bind λg=>(R fN [a,.int .i64 3] g.2).bind λg=>(aC tab aF 1 f.1).bind λh=>(aC tab aG 1 h).bind λh=>((bT tab g.2 U h g.1).bind λe=>some ((.bU:D),e)).bind λh=>(aQ tab iV b.1 g.1).bind λi=>(aA tab h.2 U i).bind λi=>(aC tab aF 1 f.1).bind λj=>(aC tab aG 2 j).bind λj=>(aA tab h.2 U j).bind λj=>(V tab .sub U i j).bind λi=>(aC tab aF 1 f.1).bind λj=>(aC tab aG 4 j).bind λj=>(aA tab h.2 bA j).bind λj=>(cW tab h.2 bA bA (.aB) j).bind λh=>(aT tab bA h.1).bind λj=>((cA (xT i h.1 j) [(Z 7 ds),.int .i64 0,(Z 11 ds)] h.2).bind λk=>some ((bQ 2 k.1),[(Z 0 k.2.1),(Z 1 k.2.1),(Z 2 k.2.1)],k.2.2)).bind λk=>toEnd k.1 ((aC tab aF 1 f.1).bind λl=>(aC tab aG 2 l).bind λl=>(aA tab k.2.2 U l).bind λl=>(V tab .add U l i).bind λl=>(aC tab aF 1 f.1).bind λm=>(aC tab aG 3 m).bind λm=>(aA tab k.2.2 U m).bind λm=>(V tab .add U m i).bind λm=>(aC tab aF 1 f.1).bind λn=>(aC tab aG 4 n).bind λn=>((bT tab k.2.2 bA n h.1).bind λe=>some ((.bU:D),e)).bind λn=>(aC tab aF 1 f.1).bind λo=>(aC tab aG 2 o).bind λo=>((bT tab n.2 U o l).bind λe=>some ((.bU:D),e)).bind λl=>(aC tab aF 1 f.1).bind λn=>(aC tab aG 3 n).bind λn=>((bT tab l.2 U n m).bind λe=>some ((.bU:D),e)).bind λl=>(aC tab aF 1 f.1).bind λm=>(aC tab aG 3 m).bind λm=>(aA tab l.2 U m).bind λm=>(aQ tab iV b.1 g.1).bind λb=>((bT tab l.2 U b m).bind λe=>some ((.bU:D),e)).bind λb=>(aA tab b.2 aF f.1).bind λe=>(bJ tab aV 1 [0] [e]).bind λe=>(cW tab b.2 aV aV (Z 0 ds) e).bind λb=>(R fN [a,.int .i64 4] b.2).bind λa=>(bJ tab aW 1 [0] [a.1]).bind λe=>(cW tab a.2 aW aW (Z 1 ds) e).bind λa=>(V tab .sub U (Z 2 ds) (.int .i64 1)).bind λe=>some (.aS,[b.1,a.1,e,f.1,g.1,i,h.1,(Z 0 k.2.1),d,j,(Z 1 k.2.1),(Z 2 k.2.1)],a.2)) λa=>toEnd (bQ 1 a) ((V tab .sub U (Z 2 ds) (.int .i64 1)).bind λa=>some (.aS,[(Z 0 ds),(Z 1 ds),a,f.1,g.1,i,h.1,(Z 0 k.2.1),d,j,(Z 1 k.2.1),(Z 2 k.2.1)],k.2.2)) λa=>some (a,[(Z 0 ds),(Z 1 ds),(Z 2 ds),f.1,g.1,i,h.1,(Z 0 k.2.1),d,j,(Z 1 k.2.1),(Z 2 k.2.1)],k.2.2))
  (some ((.ext 0),[(Z 0 ds),(Z 1 ds),(Z 2 ds),(Z 3 ds),(Z 4 ds),(Z 5 ds),(Z 6 ds),(Z 7 ds),d,(Z 9 ds),(Z 10 ds),(Z 11 ds)],c))
def DW(a b:D)(h:J):Option (D × J):=
 (R fN [a,.int .i64 4] h).bind λc=>(V tab .mul U (.int .i64 10) c.1).bind λd=>(R fN [a,.int .i64 4] c.2).bind λc=>(V tab .mul U (.int .i64 10) c.1).bind λe=>(R fN [a,.int .i64 4] c.2).bind λc=>(V tab .mul U (.int .i64 10) c.1).bind λf=>(eX tab iV [0,1,2] [d,e,f]).bind λd=>(some ((.ptr c.2.length 0 0:D),aZ c.2 iV 3 [[.int .i64 0,.int .i64 0,.int .i64 0]])).bind λc=>((bT tab c.2 iV c.1 d).bind λd=>some ((.bU:D),d)).bind λd=>(V tab .add U b (.int .i64 1)).bind λb=>(R fN [a,b] d.2).bind λb=>((cA (uR a c) [.aB,.aB,b.1,.any,.any,.any,.any,.any,.any,.any,.any,.any] b.2).bind λa=>some ((bQ 0 a.1),[(Z 0 a.2.1),(Z 1 a.2.1),(Z 2 a.2.1),(Z 3 a.2.1),(Z 4 a.2.1),(Z 5 a.2.1),(Z 6 a.2.1),(Z 7 a.2.1),(Z 8 a.2.1),(Z 9 a.2.1),(Z 10 a.2.1),(Z 11 a.2.1)],a.2.2)).bind λa=>toEnd a.1 (scope h a.2.2 (aH [(Z 0 a.2.1),(Z 1 a.2.1)])) λb=>dD b (scope h a.2.2 (aH [.aB,.aB]))
theorem Ns(a b:D)(h:J):R nh [a,b] h=DW a b h:=
 er i6
def DV(a:D)(ds:List D)(b:J):Option bN:=
 (V tab .lss U (Z 1 ds) (.int .i64 4)).bind λc=>S c
  ((R fN [a,.int .i64 2] b).bind λd=>(V tab .eql U d.1 (.int .i64 1)).bind λe=>(S e
  ((R fN [a,.int .i64 120] d.2).bind λa=>(eX tab dU [0,1] [(Z 1 ds),a.1]).bind λf=>(bJ tab eT 1 [0] [f]).bind λf=>(cW tab a.2 eT eT (Z 0 ds) f).bind λa=>some (.aS,[a.1],a.2))
  (some (.aS,[(Z 0 ds)],d.2))).bind λa=>toEnd (bQ 1 a.1) ((V tab .add U (Z 1 ds) (.int .i64 1)).bind λd=>some (.aS,[(Z 0 a.2.1),d,c,e],a.2.2)) λd=>some (d,[(Z 0 a.2.1),(Z 1 ds),c,e],a.2.2))
  (some ((.ext 0),[(Z 0 ds),(Z 1 ds),c,(Z 3 ds)],b))
def DU(a:D)(h:J):Option (D × J):=
 ((cA (DV a) [.aB,.int .i64 0,.any,.any] h).bind λa=>some ((bQ 0 a.1),[(Z 0 a.2.1),(Z 1 a.2.1),(Z 2 a.2.1),(Z 3 a.2.1)],a.2.2)).bind λa=>toEnd a.1 (scope h a.2.2 (aH [(Z 0 a.2.1)])) λb=>dD b (scope h a.2.2 (aH [.aB]))
theorem Nr(a:D)(h:J):R rJ [a] h=DU a h:=
 er i7
def ya(a b:D)(h:J):Option (D × J):=
 (R zx [a] h).bind λc=>(fx .not c.1).bind λd=>(O d false (some b)).bind λe=>(O d false (V tab .lss U e (.int .i64 1))).bind λe=>(cD d (.bool true) e).bind λd=>S d
  (some (aH [.int .i64 0],c.2))
  ((hd tab a).bind λd=>(aC tab jO 1 d).bind λd=>(aA tab c.2 U d).bind λd=>(V tab .add U d (.int .i64 1)).bind λd=>(hd tab a).bind λe=>(aC tab jO 1 e).bind λe=>((bT tab c.2 U e d).bind λc=>some ((.bU:D),c)).bind λc=>(hd tab a).bind λd=>(aC tab jO 0 d).bind λd=>(aA tab c.2 j7 d).bind λd=>(hd tab a).bind λa=>(aC tab jO 1 a).bind λa=>(aA tab c.2 U a).bind λa=>(V tab .sub U a (.int .i64 1)).bind λa=>(aQ tab j7 d a).bind λa=>(aA tab c.2 fE a).bind λa=>(kf tab fE U a).bind λa=>(V tab .rem U a b).bind λa=>some (aH [a],c.2))
theorem Gk(a b:D)(h:J):R fN [a,b] h=ya a b h:=
 er i8
def Ed(a b c:D)(ds:List D)(d:J):Option bN:=
 (V tab .lss U (Z 5 ds) c).bind λc=>S c
  ((aQ tab aV b (Z 5 ds)).bind λb=>(aA tab d aF b).bind λb=>(some ((.ptr d.length 0 0:D),aZ d aF 11 [[.str [],.int .i64 0,.int .i64 0,.int .i64 0,.int .i64 0,.aB,.int .i64 0,.int .i64 0,.str [],.str [],.aB]])).bind λe=>((bT tab e.2 aF e.1 b).bind λb=>some ((.bU:D),b)).bind λb=>(gj tab aV false true false [a,(Z 5 ds)]).bind λa=>(aC tab aF 1 e.1).bind λf=>(aC tab aG 1 f).bind λf=>(aA tab b.2 U f).bind λf=>(R rO [a,f] b.2).bind λa=>(eZ 0 a.1).bind λb=>(eZ 1 a.1).bind λf=>(aA tab a.2 aF e.1).bind λg=>(R ts [g] a.2).bind λa=>(V tab .neq iH a.1 (.int .i64 0)).bind λg=>(O g false (some f)).bind λh=>(O g false (some h)).bind λh=>(O h true (some b)).bind λi=>(O h true (aC tab aF 1 e.1)).bind λj=>(O h true (aC tab aG 2 j)).bind λj=>(O h true (aA tab a.2 U j)).bind λj=>(O h true (V tab .neq U i j)).bind λi=>(O g false (cD h i (.bool false))).bind λh=>(cD g (.bool true) h).bind λg=>S g
  (some (.ret,[.bool false,(Z 5 ds),e.1,b,f,(Z 5 ds),c,g],a.2))
  ((V tab .add U (Z 5 ds) (.int .i64 1)).bind λh=>some (.aS,[(Z 0 ds),(Z 5 ds),e.1,b,f,h,c,g],a.2)))
  (some ((.ext 0),[(Z 0 ds),(Z 1 ds),(Z 2 ds),(Z 3 ds),(Z 4 ds),(Z 5 ds),c,(Z 7 ds)],d))
def uS(a b c:D)(h:J):Option (D × J):=
 (aT tab aV a).bind λd=>(V tab .gtr U d c).bind λc=>(O c false (some b)).bind λb=>(O c false (aT tab aW b)).bind λb=>(O c false (some a)).bind λd=>(O c false (aT tab aV d)).bind λd=>(O c false (V tab .neq U b d)).bind λb=>(cD c (.bool true) b).bind λb=>S b
  (scope h h (aH [.bool false]))
  ((aT tab aV a).bind λb=>((cA (Ed a a b) [.bool false,.any,.any,.any,.any,.int .i64 0,.any,.any] h).bind λa=>some ((bQ 0 a.1),[(Z 0 a.2.1),(Z 1 a.2.1),(Z 2 a.2.1),(Z 3 a.2.1),(Z 4 a.2.1),(Z 5 a.2.1),(Z 6 a.2.1),(Z 7 a.2.1)],a.2.2)).bind λa=>toEnd a.1 (scope h a.2.2 (aH [.bool true])) λb=>dD b (scope h a.2.2 (aH [(Z 0 a.2.1)])))
theorem NI(a b c:D)(h:J):R oS [a,b,c] h=uS a b c h:=
 er i9
def Ek(a:D)(ds:List D)(b:J):Option bN:=
 (aT tab aV a).bind λc=>(V tab .lss U (Z 1 ds) c).bind λc=>S c
  ((aQ tab aV a (Z 1 ds)).bind λd=>(aA tab b aF d).bind λd=>(R vJ [d] b).bind λd=>(V tab .neq iH d.1 (.int .i64 0)).bind λe=>S e
  (some (.ret,[.bool false,(Z 1 ds),(Z 2 ds),(Z 3 ds),c,e,(Z 6 ds)],d.2))
  ((gj tab aV false true false [a,(Z 1 ds)]).bind λf=>(aQ tab aV a (Z 1 ds)).bind λg=>(aC tab aF 1 g).bind λg=>(aC tab aG 1 g).bind λg=>(aA tab d.2 U g).bind λg=>(R wb [f,g] d.2).bind λd=>(eZ 0 d.1).bind λf=>(eZ 1 d.1).bind λg=>(O g true (some f)).bind λh=>(O g true (some a)).bind λa=>(O g true (some (Z 1 ds))).bind λi=>(O g true (aQ tab aV a i)).bind λa=>(O g true (aC tab aF 1 a)).bind λa=>(O g true (aC tab aG 2 a)).bind λa=>(O g true (aA tab d.2 U a)).bind λa=>(O g true (V tab .neq U h a)).bind λa=>(cD g a (.bool false)).bind λa=>S a
  (some (.ret,[.bool false,(Z 1 ds),f,g,c,e,a],d.2))
  ((V tab .add U (Z 1 ds) (.int .i64 1)).bind λh=>some (.aS,[(Z 0 ds),h,f,g,c,e,a],d.2))))
  (some ((.ext 0),[(Z 0 ds),(Z 1 ds),(Z 2 ds),(Z 3 ds),c,(Z 5 ds),(Z 6 ds)],b))
def uV(a b c:D)(h:J):Option (D × J):=
 (aT tab aV a).bind λd=>(V tab .gtr U d c).bind λc=>(O c false (some b)).bind λb=>(O c false (aT tab aW b)).bind λb=>(O c false (some a)).bind λd=>(O c false (aT tab aV d)).bind λd=>(O c false (V tab .neq U b d)).bind λb=>(cD c (.bool true) b).bind λb=>S b
  (some (aH [.bool false],h))
  (((cA (Ek a) [.bool false,.int .i64 0,.any,.any,.any,.any,.any] h).bind λa=>some ((bQ 0 a.1),[(Z 0 a.2.1),(Z 1 a.2.1),(Z 2 a.2.1),(Z 3 a.2.1),(Z 4 a.2.1),(Z 5 a.2.1),(Z 6 a.2.1)],a.2.2)).bind λa=>toEnd a.1 (some (aH [.bool true],a.2.2)) λb=>dD b (some (aH [(Z 0 a.2.1)],a.2.2)))
theorem NO(a b c:D)(h:J):R oU [a,b,c] h=uV a b c h:=
 er qi
def xY(a b:D)(h:J):Option (D × J):=
 (aT tab aV a).bind λc=>(V tab .leq U b c).bind λc=>S c
  (some (aH [.int .i64 0],h))
  ((aT tab aV a).bind λa=>(V tab .sub U b a).bind λa=>some (aH [a],h))
theorem NH(a b:D)(h:J):R tF [a,b] h=xY a b h:=
 er zP
def El(a b:D)(h:J):Option (D × J):=
 (aT tab aV a).bind λc=>(V tab .lss U b c).bind λc=>S c
  (some (aH [.int .i64 0],h))
  ((aT tab aV a).bind λa=>(V tab .sub U b a).bind λa=>some (aH [a],h))
theorem NP(a b:D)(h:J):R tH [a,b] h=El a b h:=
 er zY
def DR(a:D × J)(ds:List D)(b:J):Option bN:=
 (aC tab aG 4 a.1).bind λc=>(aA tab b bA c).bind λc=>(aT tab bA c).bind λc=>(V tab .gtr U c (.int .i64 0)).bind λc=>(O c true (aC tab aG 4 a.1)).bind λd=>(O c true (aA tab b bA d)).bind λd=>(O c true (aT tab bA d)).bind λd=>(O c true (V tab .leq U d (.int .i64 40))).bind λd=>(cD c d (.bool false)).bind λc=>S c
  ((aC tab aG 4 a.1).bind λd=>(aA tab b bA d).bind λd=>(aC tab aG 4 a.1).bind λe=>(aA tab b bA e).bind λe=>(aT tab bA e).bind λe=>(V tab .sub U e (.int .i64 1)).bind λe=>(aQ tab bA d e).bind λd=>(aA tab b bS d).bind λd=>(gY 3 d).bind λd=>(aC tab aG 4 a.1).bind λe=>(aA tab b bA e).bind λe=>(aC tab bS 0 d).bind λf=>(aA tab b U f).bind λf=>(aC tab bS 1 d).bind λg=>(aA tab b U g).bind λg=>(V tab .add U f g).bind λf=>(eX tab bS [0,1] [f,.int .i64 1]).bind λf=>(bJ tab bA 1 [0] [f]).bind λf=>(cW tab b bA bA e f).bind λe=>(aC tab aG 4 a.1).bind λf=>((bT tab e.2 bA f e.1).bind λe=>some ((.bU:D),e)).bind λf=>(aC tab aG 3 a.1).bind λg=>(aA tab f.2 U g).bind λg=>(V tab .add U g (.int .i64 1)).bind λg=>(aC tab aG 3 a.1).bind λa=>((bT tab f.2 U a g).bind λe=>some ((.bU:D),e)).bind λa=>some (.aS,[d,c],a.2))
  (some ((.ext 1),[(Z 0 ds),c],b))
def DQ(a b:D)(h:J):Option (D × J):=
 (py aF 11 h b).bind λb=>(some ((.ptr b.2.length 0 0:D),aZ b.2 aF 11 [[.str [],.int .i64 0,.int .i64 0,.int .i64 0,.int .i64 0,.aB,.int .i64 0,.int .i64 0,.str [],.str [],.aB]])).bind λc=>(aC tab aF 1 b.1).bind λd=>(aA tab c.2 aG d).bind λd=>(some ((.ptr c.2.length 0 0:D),aZ c.2 aG 10 [[.int .i64 0,.int .i64 0,.int .i64 0,.int .i64 0,.aB,.int .i64 0,.int .i64 0,.str [],.str [],.aB]])).bind λe=>((bT tab e.2 aG e.1 d).bind λd=>some ((.bU:D),d)).bind λf=>(aC tab aG 4 e.1).bind λg=>(aA tab f.2 bA g).bind λg=>(cW tab f.2 bA bA (.aB) g).bind λf=>(aC tab aG 4 e.1).bind λg=>((bT tab f.2 bA g f.1).bind λd=>some ((.bU:D),d)).bind λf=>(aC tab aG 9 e.1).bind λg=>(aA tab f.2 bM g).bind λg=>(cW tab f.2 bM bM (.aB) g).bind λf=>(aC tab aG 9 e.1).bind λg=>((bT tab f.2 bM g f.1).bind λd=>some ((.bU:D),d)).bind λf=>(R fN [a,.int .i64 13] f.2).bind λf=>(V tab .eql U f.1 (.int .i64 0)).bind λg=>(S g
  ((R lH [a] f.2).bind λg=>(aC tab aG 0 e.1).bind λi=>((bT tab g.2 U i g.1).bind λd=>some ((.bU:D),d)).bind λg=>some (.aS,[.any,.any,.any,.any,.any,.any,.any,.any,.any,.any,.any,.any,.any,.any,.any],g.2))
  ((V tab .eql U f.1 (.int .i64 1)).bind λg=>(S g
  ((R lH [a] f.2).bind λi=>(aC tab aG 1 e.1).bind λj=>((bT tab i.2 U j i.1).bind λd=>some ((.bU:D),d)).bind λi=>some (.aS,[.any,.any,.any,.any,.any,.any,.any,.any,.any,.any,.any,.any,.any,.any],i.2))
  ((V tab .eql U f.1 (.int .i64 2)).bind λi=>(S i
  ((R lH [a] f.2).bind λj=>(aC tab aG 2 e.1).bind λk=>((bT tab j.2 U k j.1).bind λd=>some ((.bU:D),d)).bind λj=>some (.aS,[.any,.any,.any,.any,.any,.any,.any,.any,.any,.any,.any,.any,.any],j.2))
  ((V tab .eql U f.1 (.int .i64 3)).bind λj=>(S j
  ((R lH [a] f.2).bind λk=>(aC tab aG 3 e.1).bind λl=>((bT tab k.2 U l k.1).bind λd=>some ((.bU:D),d)).bind λk=>some (.aS,[.any,.any,.any,.any,.any,.any,.any,.any,.any,.any,.any,.any],k.2))
  ((V tab .eql U f.1 (.int .i64 4)).bind λk=>(S k
  ((R lH [a] f.2).bind λl=>(aC tab aG 5 e.1).bind λm=>((bT tab l.2 U m l.1).bind λd=>some ((.bU:D),d)).bind λl=>some (.aS,[.any,.any,.any,.any,.any,.any,.any,.any,.any,.any,.any],l.2))
  ((V tab .eql U f.1 (.int .i64 5)).bind λl=>(S l
  ((R lH [a] f.2).bind λm=>(aC tab aG 6 e.1).bind λn=>((bT tab m.2 U n m.1).bind λd=>some ((.bU:D),d)).bind λm=>some (.aS,[.any,.any,.any,.any,.any,.any,.any,.any,.any,.any],m.2))
  ((V tab .eql U f.1 (.int .i64 6)).bind λm=>(S m
  ((aC tab aG 4 e.1).bind λn=>(aA tab f.2 bA n).bind λn=>(aT tab bA n).bind λn=>(V tab .gtr U n (.int .i64 0)).bind λn=>(S n
  ((aC tab aG 4 e.1).bind λo=>(aA tab f.2 bA o).bind λp=>(aC tab aG 4 e.1).bind λq=>(aA tab f.2 bA q).bind λq=>(aT tab bA q).bind λq=>(R fN [a,q] f.2).bind λq=>(R lH [a] q.2).bind λr=>(aQ tab bA p q.1).bind λs=>(aC tab bS 0 s).bind λs=>((bT tab r.2 U s r.1).bind λd=>some ((.bU:D),d)).bind λs=>e7 (aA tab q.2 bA o=some p)
 (e7 (aA tab r.2 bA o=some p)
 (some (.aS,([]:List D),s.2))))
  (some (.aS,([]:List D),f.2))).bind λo=>some (o.1,[.any,.any,n,.any,.any,.any,.any,.any,.any],o.2.2))
  ((V tab .eql U f.1 (.int .i64 7)).bind λn=>(S n
  ((aC tab aG 4 e.1).bind λo=>(aA tab f.2 bA o).bind λo=>(aT tab bA o).bind λo=>(V tab .gtr U o (.int .i64 0)).bind λo=>(S o
  ((aC tab aG 4 e.1).bind λp=>(aA tab f.2 bA p).bind λq=>(aC tab aG 4 e.1).bind λr=>(aA tab f.2 bA r).bind λr=>(aT tab bA r).bind λr=>(R fN [a,r] f.2).bind λr=>(R lH [a] r.2).bind λs=>(aQ tab bA q r.1).bind λt=>(aC tab bS 1 t).bind λt=>((bT tab s.2 U t s.1).bind λd=>some ((.bU:D),d)).bind λt=>e7 (aA tab r.2 bA p=some q)
 (e7 (aA tab s.2 bA p=some q)
 (some (.aS,([]:List D),t.2))))
  (some (.aS,([]:List D),f.2))).bind λp=>some (p.1,[.any,.any,o,.any,.any,.any,.any],p.2.2))
  ((V tab .eql U f.1 (.int .i64 8)).bind λo=>(S o
  ((aC tab aG 4 e.1).bind λp=>((bT tab f.2 bA p (.aB)).bind λd=>some ((.bU:D),d)).bind λp=>some (.aS,[.any,.any,.any,.any,.any],p.2))
  ((V tab .eql U f.1 (.int .i64 9)).bind λp=>(S p
  ((aC tab aG 9 e.1).bind λq=>(aA tab f.2 bM q).bind λr=>(bJ tab eE 4 [0,1,2,3] [.str [97],.str [122,122],.str [],.str [49]]).bind λs=>(R gD [a,s] f.2).bind λs=>(R tJ [a,.int .i64 3] s.2).bind λt=>(eX tab bB [0,1] [s.1,t.1]).bind λu=>(bJ tab bM 1 [0] [u]).bind λu=>(cW tab t.2 bM bM r u).bind λu=>e7 (aA tab s.2 bM q=some r)
 (e7 (aA tab t.2 bM q=some r)
 ((aC tab aG 9 e.1).bind λq=>((bT tab u.2 bM q u.1).bind λd=>some ((.bU:D),d)).bind λq=>some (.aS,[.any,.any,.any,.any],q.2))))
  ((V tab .eql U f.1 (.int .i64 10)).bind λq=>(S q
  ((bJ tab eE 3 [0,1,2] [.str [],.str [114],.str [97,98,99,100,101,102,103,104,105,106,107,108,109,110,111,112,113,114,115,116,117,118,119,120,121,122,97,98,99,100,101,102,103]]).bind λr=>(R gD [a,r] f.2).bind λr=>(aC tab aF 0 b.1).bind λs=>((bT tab r.2 bP s r.1).bind λd=>some ((.bU:D),d)).bind λr=>some (.aS,[.any,.any,.any],r.2))
  ((V tab .eql U f.1 (.int .i64 11)).bind λr=>(S r
  ((bJ tab eE 2 [0,1] [.str [120],.str [97,98,99,100,101,102,103,104,105,106,107,108,109,110,111,112,113,114,115,116,117,118,119,120,121,122,97,98,99,100,101,102,103]]).bind λs=>(R gD [a,s] f.2).bind λa=>(aC tab aG 7 e.1).bind λs=>((bT tab a.2 bP s a.1).bind λd=>some ((.bU:D),d)).bind λa=>some (.aS,[.any,.any],a.2))
  (((cA (DR e) [.any,.any] f.2).bind λa=>some ((bQ 1 a.1),[(Z 0 a.2.1),(Z 1 a.2.1)],a.2.2)).bind λa=>some (a.1,[(Z 0 a.2.1),(Z 1 a.2.1)],a.2.2))).bind λa=>some (a.1,[(Z 0 a.2.1),(Z 1 a.2.1),r],a.2.2))).bind λa=>some (a.1,[(Z 0 a.2.1),(Z 1 a.2.1),q,(Z 2 a.2.1)],a.2.2))).bind λa=>some (a.1,[(Z 0 a.2.1),(Z 1 a.2.1),p,(Z 2 a.2.1),(Z 3 a.2.1)],a.2.2))).bind λa=>some (a.1,[(Z 0 a.2.1),(Z 1 a.2.1),.any,o,(Z 2 a.2.1),(Z 3 a.2.1),(Z 4 a.2.1)],a.2.2))).bind λa=>some (a.1,[(Z 0 a.2.1),(Z 1 a.2.1),.any,n,(Z 2 a.2.1),(Z 3 a.2.1),(Z 4 a.2.1),(Z 5 a.2.1),(Z 6 a.2.1)],a.2.2))).bind λa=>some (a.1,[(Z 0 a.2.1),(Z 1 a.2.1),m,(Z 2 a.2.1),(Z 3 a.2.1),(Z 4 a.2.1),(Z 5 a.2.1),(Z 6 a.2.1),(Z 7 a.2.1),(Z 8 a.2.1)],a.2.2))).bind λa=>some (a.1,[(Z 0 a.2.1),(Z 1 a.2.1),l,(Z 2 a.2.1),(Z 3 a.2.1),(Z 4 a.2.1),(Z 5 a.2.1),(Z 6 a.2.1),(Z 7 a.2.1),(Z 8 a.2.1),(Z 9 a.2.1)],a.2.2))).bind λa=>some (a.1,[(Z 0 a.2.1),(Z 1 a.2.1),k,(Z 2 a.2.1),(Z 3 a.2.1),(Z 4 a.2.1),(Z 5 a.2.1),(Z 6 a.2.1),(Z 7 a.2.1),(Z 8 a.2.1),(Z 9 a.2.1),(Z 10 a.2.1)],a.2.2))).bind λa=>some (a.1,[(Z 0 a.2.1),(Z 1 a.2.1),j,(Z 2 a.2.1),(Z 3 a.2.1),(Z 4 a.2.1),(Z 5 a.2.1),(Z 6 a.2.1),(Z 7 a.2.1),(Z 8 a.2.1),(Z 9 a.2.1),(Z 10 a.2.1),(Z 11 a.2.1)],a.2.2))).bind λa=>some (a.1,[(Z 0 a.2.1),(Z 1 a.2.1),i,(Z 2 a.2.1),(Z 3 a.2.1),(Z 4 a.2.1),(Z 5 a.2.1),(Z 6 a.2.1),(Z 7 a.2.1),(Z 8 a.2.1),(Z 9 a.2.1),(Z 10 a.2.1),(Z 11 a.2.1),(Z 12 a.2.1)],a.2.2))).bind λa=>some (a.1,[(Z 0 a.2.1),(Z 1 a.2.1),g,(Z 2 a.2.1),(Z 3 a.2.1),(Z 4 a.2.1),(Z 5 a.2.1),(Z 6 a.2.1),(Z 7 a.2.1),(Z 8 a.2.1),(Z 9 a.2.1),(Z 10 a.2.1),(Z 11 a.2.1),(Z 12 a.2.1),(Z 13 a.2.1)],a.2.2))).bind λa=>toEnd (bQ 0 a.1) ((aA tab a.2.2 aG e.1).bind λe=>(aC tab aF 1 b.1).bind λf=>((bT tab a.2.2 aG f e).bind λd=>some ((.bU:D),d)).bind λe=>(aA tab e.2 aF b.1).bind λb=>((bT tab e.2 aF c.1 b).bind λd=>some ((.bU:D),d)).bind λb=>(aA tab b.2 aF c.1).bind λd=>scope h b.2 (aH [d])) λb=>dD b ((aA tab a.2.2 aF c.1).bind λd=>scope h a.2.2 (aH [d]))
theorem Nn(a b:D)(h:J):R oR [a,b] h=DQ a b h:=
 er z1
def Dj(a:D)(b:D × J)(c:D)(ds:List D)(d:J):Option bN:=
 (V tab .lss U (Z 1 ds) c).bind λc=>S c
  ((aC tab aG 4 b.1).bind λe=>(aA tab d bA e).bind λe=>(aC tab aG 4 a).bind λf=>(aA tab d bA f).bind λf=>(aQ tab bA f (Z 1 ds)).bind λf=>(aC tab bS 0 f).bind λf=>(aA tab d U f).bind λf=>(aC tab aG 4 a).bind λa=>(aA tab d bA a).bind λa=>(aQ tab bA a (Z 1 ds)).bind λa=>(aC tab bS 1 a).bind λa=>(aA tab d U a).bind λa=>(eX tab bS [0,1] [f,a]).bind λa=>(bJ tab bA 1 [0] [a]).bind λa=>(cW tab d bA bA e a).bind λa=>(aC tab aG 4 b.1).bind λb=>((bT tab a.2 bA b a.1).bind λa=>some ((.bU:D),a)).bind λa=>(V tab .add U (Z 1 ds) (.int .i64 1)).bind λb=>some (.aS,[(Z 1 ds),b,c],a.2))
  (some ((.ext 0),[(Z 0 ds),(Z 1 ds),c],d))
def Di(a:D)(h:J):Option (D × J):=
 (some ((.ptr h.length 0 0:D),aZ h aF 11 [[.str [],.int .i64 0,.int .i64 0,.int .i64 0,.int .i64 0,.aB,.int .i64 0,.int .i64 0,.str [],.str [],.aB]])).bind λb=>(R vX [a] b.2).bind λc=>(gY 10 c.1).bind λd=>(R fN [a,.int .i64 4] c.2).bind λc=>(V tab .lss U c.1 (.int .i64 3)).bind λe=>S e
  ((aA tab c.2 aG d).bind λe=>(eX tab aF [1] [e]).bind λe=>((bT tab c.2 aF b.1 e).bind λe=>some ((.bU:D),e)).bind λf=>(aA tab f.2 aF b.1).bind λg=>scope h f.2 (aH [g]))
  ((aC tab aG 0 d).bind λf=>(aA tab c.2 U f).bind λf=>(aC tab aG 1 d).bind λi=>(aA tab c.2 U i).bind λi=>(aC tab aG 2 d).bind λj=>(aA tab c.2 U j).bind λj=>(aC tab aG 3 d).bind λk=>(aA tab c.2 U k).bind λk=>(eX tab aG [0,1,2,3] [f,i,j,k]).bind λf=>(some ((.ptr c.2.length 0 0:D),aZ c.2 aG 10 [[.int .i64 0,.int .i64 0,.int .i64 0,.int .i64 0,.aB,.int .i64 0,.int .i64 0,.str [],.str [],.aB]])).bind λc=>((bT tab c.2 aG c.1 f).bind λe=>some ((.bU:D),e)).bind λf=>(aC tab aG 4 d).bind λi=>(aA tab f.2 bA i).bind λi=>(aT tab bA i).bind λi=>((cA (Dj d c i) [.any,.int .i64 0,.any] f.2).bind λd=>some ((bQ 0 d.1),[(Z 0 d.2.1),(Z 1 d.2.1),(Z 2 d.2.1)],d.2.2)).bind λd=>toEnd d.1 ((bJ tab eE 3 [0,1,2] [.str [115,97,109,112,108,101],.str [116,111,111,45,108,111,110,103],.str [114,49]]).bind λf=>(R gD [a,f] d.2.2).bind λa=>(aA tab a.2 aG c.1).bind λf=>(eX tab aF [0,1] [a.1,f]).bind λi=>e7 (aA tab d.2.2 aG c.1=some f)
 (((bT tab a.2 aF b.1 i).bind λe=>some ((.bU:D),e)).bind λa=>(aA tab a.2 aF b.1).bind λg=>scope h a.2 (aH [g]))) λa=>dD a ((aA tab d.2.2 aF b.1).bind λg=>scope h d.2.2 (aH [g])))
theorem MT(a:D)(h:J):R oP [a] h=Di a h:=
 er Aa
def xX(a b c d e:D)(h:J):Option (D × J):=
 (ga c).bind λc=>(aA tab h aF c).bind λf=>(R ts [f] h).bind λf=>(V tab .neq iH f.1 (.int .i64 0)).bind λg=>S g
  (scope h f.2 (aH [.aB,.aB,f.1]))
  ((aC tab aF 1 c).bind λg=>(aC tab aG 1 g).bind λg=>(aA tab f.2 U g).bind λg=>(R rO [a,g] f.2).bind λf=>(eZ 0 f.1).bind λg=>(eZ 1 f.1).bind λi=>(O i true (some g)).bind λg=>(O i true (aC tab aF 1 c)).bind λj=>(O i true (aC tab aG 2 j)).bind λj=>(O i true (aA tab f.2 U j)).bind λj=>(O i true (V tab .neq U g j)).bind λg=>(cD i g (.bool false)).bind λg=>S g
  (scope h f.2 (aH [.aB,.aB,.int .i64 19]))
  ((aT tab aV a).bind λg=>(V tab .geq U g e).bind λe=>S e
  (scope h f.2 (aH [.aB,.aB,.int .i64 16]))
  ((R oT [a] f.2).bind λa=>(aA tab a.2 aF c).bind λe=>(bJ tab aV 1 [0] [e]).bind λg=>(cW tab a.2 aV aV a.1 g).bind λa=>(R ni [b] a.2).bind λb=>(bJ tab aW 1 [0] [d]).bind λd=>(cW tab b.2 aW aW b.1 d).bind λb=>e7 (aA tab f.2 aF c=some e)
 (scope h b.2 (aH [a.1,b.1,.int .i64 0])))))
theorem Gi(a b c d e:D)(h:J):R nV [a,b,c,d,e] h=xX a b c d e h:=
 er Ad
def x7(a b c d e:D)(h:J):Option (D × J):=
 (ga c).bind λc=>(aA tab h aF c).bind λf=>(R vJ [f] h).bind λf=>(V tab .neq iH f.1 (.int .i64 0)).bind λg=>S g
  (scope h f.2 (aH [.aB,.aB,f.1]))
  ((aC tab aF 1 c).bind λg=>(aC tab aG 1 g).bind λg=>(aA tab f.2 U g).bind λg=>(R wb [a,g] f.2).bind λf=>(eZ 0 f.1).bind λg=>(eZ 1 f.1).bind λi=>(O i true (some g)).bind λg=>(O i true (aC tab aF 1 c)).bind λj=>(O i true (aC tab aG 2 j)).bind λj=>(O i true (aA tab f.2 U j)).bind λj=>(O i true (V tab .neq U g j)).bind λg=>(cD i g (.bool false)).bind λg=>S g
  (scope h f.2 (aH [.aB,.aB,.int .i64 19]))
  ((aT tab aV a).bind λg=>(V tab .geq U g e).bind λe=>S e
  (scope h f.2 (aH [.aB,.aB,.int .i64 16]))
  ((cW tab f.2 aV aV (.aB) a).bind λa=>(aA tab a.2 aF c).bind λe=>(bJ tab aV 1 [0] [e]).bind λg=>(cW tab a.2 aV aV a.1 g).bind λa=>(cW tab a.2 aW aW (.aB) b).bind λb=>(bJ tab aW 1 [0] [d]).bind λd=>(cW tab b.2 aW aW b.1 d).bind λb=>e7 (aA tab f.2 aF c=some e)
 (scope h b.2 (aH [a.1,b.1,.int .i64 0])))))
theorem Gj(a b c d e:D)(h:J):R nX [a,b,c,d,e] h=x7 a b c d e h:=
 er Ae
def D0(a b:D)(ds:List D)(c:J):Option bN:=
 (aT tab aV a).bind λd=>(V tab .lss U (Z 1 ds) d).bind λd=>S d
  ((aQ tab aV a (Z 1 ds)).bind λa=>(aA tab c aF a).bind λa=>(aQ tab aV b (Z 1 ds)).bind λb=>(aA tab c aF b).bind λb=>(R zy [a,b] c).bind λa=>(fx .not a.1).bind λb=>S b
  (some (.ret,[.bool false,(Z 1 ds),d,b],a.2))
  ((V tab .add U (Z 1 ds) (.int .i64 1)).bind λe=>some (.aS,[(Z 0 ds),e,d,b],a.2)))
  (some ((.ext 0),[(Z 0 ds),(Z 1 ds),d,(Z 3 ds)],c))
def DZ(a b:D)(h:J):Option (D × J):=
 (aT tab aV a).bind λc=>(aT tab aV b).bind λd=>(V tab .neq U c d).bind λc=>S c
  (some (aH [.bool false],h))
  (((cA (D0 a b) [.bool false,.int .i64 0,.any,.any] h).bind λa=>some ((bQ 0 a.1),[(Z 0 a.2.1),(Z 1 a.2.1),(Z 2 a.2.1),(Z 3 a.2.1)],a.2.2)).bind λa=>toEnd a.1 (some (aH [.bool true],a.2.2)) λb=>dD b (some (aH [(Z 0 a.2.1)],a.2.2)))
theorem Nu(a b:D)(h:J):R qc [a,b] h=DZ a b h:=
 er Af
def D2(a b:D)(ds:List D)(c:J):Option bN:=
 (aT tab aW a).bind λd=>(V tab .lss U (Z 1 ds) d).bind λd=>S d
  ((aQ tab aW a (Z 1 ds)).bind λa=>(aA tab c U a).bind λa=>(aQ tab aW b (Z 1 ds)).bind λb=>(aA tab c U b).bind λb=>(V tab .neq U a b).bind λa=>S a
  (some (.ret,[.bool false,(Z 1 ds),d,a],c))
  ((V tab .add U (Z 1 ds) (.int .i64 1)).bind λb=>some (.aS,[(Z 0 ds),b,d,a],c)))
  (some ((.ext 0),[(Z 0 ds),(Z 1 ds),d,(Z 3 ds)],c))
def D1(a b:D)(h:J):Option (D × J):=
 (aT tab aW a).bind λc=>(aT tab aW b).bind λd=>(V tab .neq U c d).bind λc=>S c
  (some (aH [.bool false],h))
  (((cA (D2 a b) [.bool false,.int .i64 0,.any,.any] h).bind λa=>some ((bQ 0 a.1),[(Z 0 a.2.1),(Z 1 a.2.1),(Z 2 a.2.1),(Z 3 a.2.1)],a.2.2)).bind λa=>toEnd a.1 (some (aH [.bool true],a.2.2)) λb=>dD b (some (aH [(Z 0 a.2.1)],a.2.2)))
theorem Nv(a b:D)(h:J):R rK [a,b] h=D1 a b h:=
 er Ag
def x9(a b:D)(c:List D)(d:List D)(e:J):Option bN:=
 (V tab .lss U (Z 1 d) (Z 1 c)).bind λf=>S f
  ((O (Z 0 d) true (some (b:D))).bind λb=>(O (Z 0 d) true (some (Z 1 d))).bind λg=>(O (Z 0 d) true (aQ tab qI b g)).bind λb=>(O (Z 0 d) true (aA tab e iW b)).bind λb=>(O (Z 0 d) true (some b)).bind λb=>(O b false (some a)).bind λg=>(O b false (some (Z 1 d))).bind λh=>(O b false (aQ tab aV g h)).bind λg=>(O b false (aC tab aF 1 g)).bind λg=>(O b false (aC tab aG 1 g)).bind λg=>(O b false (aA tab e U g)).bind λg=>(O b false (some a)).bind λa=>(O b false (some (Z 1 c))).bind λc=>(O b false (aQ tab aV a c)).bind λa=>(O b false (aC tab aF 1 a)).bind λa=>(O b false (aC tab aG 1 a)).bind λa=>(O b false (aA tab e U a)).bind λa=>(O b false (V tab .neq U g a)).bind λa=>(O (Z 0 d) true (cD b (.bool true) a)).bind λa=>(cD (Z 0 d) a (.bool false)).bind λa=>(V tab .add U (Z 1 d) (.int .i64 1)).bind λb=>some (.aS,[a,b,f],e))
  (some ((.ext 4),[(Z 0 d),(Z 1 d),f],e))
def x8(a b c:D)(d:List D)(e:J):Option bN:=
 (aT tab aV a).bind λf=>(V tab .lss U (Z 1 d) f).bind λf=>S f
  ((aQ tab qI c (Z 1 d)).bind λg=>(aA tab e iW g).bind λg=>(fx .not g).bind λg=>((cA (x9 a c d) [g,.int .i64 0,(Z 5 d)] e).bind λa=>some ((bQ 4 a.1),[(Z 0 a.2.1),(Z 1 a.2.1),(Z 2 a.2.1)],a.2.2)).bind λa=>toEnd a.1 ((O (Z 0 a.2.1) true (some (Z 0 d))).bind λc=>(O (Z 0 a.2.1) true (V tab .lss U c (.int .i64 0))).bind λc=>(O (Z 0 a.2.1) true (some c)).bind λc=>(O c false (some b)).bind λg=>(O c false (some (Z 1 d))).bind λh=>(O c false (aQ tab aW g h)).bind λg=>(O c false (aA tab a.2.2 U g)).bind λg=>(O c false (some b)).bind λb=>(O c false (some (Z 0 d))).bind λh=>(O c false (aQ tab aW b h)).bind λb=>(O c false (aA tab a.2.2 U b)).bind λb=>(O c false (V tab .gtr U g b)).bind λb=>(O (Z 0 a.2.1) true (cD c (.bool true) b)).bind λb=>(cD (Z 0 a.2.1) b (.bool false)).bind λb=>(S b
  (some (.aS,[(Z 1 d)],a.2.2))
  (some (.aS,[(Z 0 d)],a.2.2))).bind λc=>toEnd (bQ 3 c.1) ((V tab .add U (Z 1 d) (.int .i64 1)).bind λg=>some (.aS,[(Z 0 c.2.1),g,(Z 0 a.2.1),(Z 1 a.2.1),f,(Z 2 a.2.1),b],c.2.2)) λg=>some (g,[(Z 0 c.2.1),(Z 1 d),(Z 0 a.2.1),(Z 1 a.2.1),f,(Z 2 a.2.1),b],c.2.2)) λb=>toEnd (bQ 3 b) ((V tab .add U (Z 1 d) (.int .i64 1)).bind λb=>some (.aS,[(Z 0 d),b,(Z 0 a.2.1),(Z 1 a.2.1),f,(Z 2 a.2.1),(Z 6 d)],a.2.2)) λb=>some (b,[(Z 0 d),(Z 1 d),(Z 0 a.2.1),(Z 1 a.2.1),f,(Z 2 a.2.1),(Z 6 d)],a.2.2))
  (some ((.ext 2),[(Z 0 d),(Z 1 d),(Z 2 d),(Z 3 d),f,(Z 5 d),(Z 6 d)],e))
def En(a b c d:D)(ds:List D)(e:J):Option bN:=
 (aT tab aV (Z 0 ds)).bind λf=>(V tab .lss U f c).bind λc=>(O c true (some (Z 0 ds))).bind λf=>(O c true (aT tab aV f)).bind λf=>(O c true (some a)).bind λg=>(O c true (aT tab aV g)).bind λg=>(O c true (V tab .lss U f g)).bind λf=>(cD c f (.bool false)).bind λc=>S c
  (((cA (x8 a b d) [.int .i64 (-1),.int .i64 0,(Z 3 ds),(Z 4 ds),(Z 6 ds),(Z 7 ds),(Z 8 ds)] e).bind λb=>some ((bQ 2 b.1),[(Z 0 b.2.1),(Z 1 b.2.1),(Z 2 b.2.1),(Z 3 b.2.1),(Z 4 b.2.1),(Z 5 b.2.1),(Z 6 b.2.1)],b.2.2)).bind λb=>toEnd b.1 ((aQ tab qI d (Z 0 b.2.1)).bind λd=>((bT tab b.2.2 iW d (.bool true)).bind λd=>some ((.bU:D),d)).bind λd=>(aQ tab aV a (Z 0 b.2.1)).bind λa=>(aA tab d.2 aF a).bind λa=>(bJ tab aV 1 [0] [a]).bind λa=>(cW tab d.2 aV aV (Z 0 ds) a).bind λa=>some (.aS,[a.1,(Z 0 b.2.1),(Z 1 b.2.1),(Z 2 b.2.1),(Z 3 b.2.1),c,(Z 4 b.2.1),(Z 5 b.2.1),(Z 6 b.2.1)],a.2)) λa=>some ((bQ 1 a),[(Z 0 ds),(Z 0 b.2.1),(Z 1 b.2.1),(Z 2 b.2.1),(Z 3 b.2.1),c,(Z 4 b.2.1),(Z 5 b.2.1),(Z 6 b.2.1)],b.2.2))
  (some ((.ext 0),[(Z 0 ds),(Z 1 ds),(Z 2 ds),(Z 3 ds),(Z 4 ds),c,(Z 6 ds),(Z 7 ds),(Z 8 ds)],e))
def Em(a b c:D)(h:J):Option (D × J):=
 (aT tab aV a).bind λd=>(p4 tab h qI d d).bind λd=>((cA (En a b c d.1) [.aB,.any,.any,.any,.any,.any,.any,.any,.any] d.2).bind λa=>some ((bQ 0 a.1),[(Z 0 a.2.1),(Z 1 a.2.1),(Z 2 a.2.1),(Z 3 a.2.1),(Z 4 a.2.1),(Z 5 a.2.1),(Z 6 a.2.1),(Z 7 a.2.1),(Z 8 a.2.1)],a.2.2)).bind λa=>toEnd a.1 (scope h a.2.2 (aH [(Z 0 a.2.1)])) λb=>dD b (scope h a.2.2 (aH [.aB]))
theorem NQ(a b c:D)(h:J):R rP [a,b,c] h=Em a b c h:=
 er Ah
def Ep(a:D)(ds:List D)(b:J):Option bN:=
 (V tab .geq U (Z 1 ds) (.int .i64 0)).bind λc=>S c
  ((aQ tab aV a (Z 1 ds)).bind λd=>(aC tab aF 1 d).bind λd=>(aC tab aG 1 d).bind λd=>(aA tab b U d).bind λd=>(aQ tab aV a (Z 1 ds)).bind λa=>(aC tab aF 1 a).bind λa=>(aC tab aG 3 a).bind λa=>(aA tab b U a).bind λa=>(eX tab dU [0,1] [d,a]).bind λa=>(R tI [(Z 0 ds),a] b).bind λa=>(V tab .sub U (Z 1 ds) (.int .i64 1)).bind λd=>some (.aS,[a.1,d,c],a.2))
  (some ((.ext 0),[(Z 0 ds),(Z 1 ds),c],b))
def Er(a:D)(b:List D)(c:J):Option bN:=
 (aT tab eT a).bind λd=>(V tab .lss U (Z 1 b) d).bind λd=>S d
  ((aQ tab eT a (Z 1 b)).bind λa=>(aA tab c dU a).bind λa=>(R tI [(Z 0 b),a] c).bind λa=>(V tab .add U (Z 1 b) (.int .i64 1)).bind λe=>some (.aS,[a.1,e,d],a.2))
  (some ((.ext 2),[(Z 0 b),(Z 1 b),d],c))
def Eo(a b:D)(h:J):Option (D × J):=
 (aT tab aV a).bind λc=>(V tab .sub U c (.int .i64 1)).bind λc=>((cA (Ep a) [.aB,c,.any] h).bind λa=>some ((bQ 0 a.1),[(Z 0 a.2.1),(Z 1 a.2.1),(Z 2 a.2.1)],a.2.2)).bind λa=>toEnd a.1 (((cA (Er b) [(Z 0 a.2.1),.int .i64 0,.any] a.2.2).bind λb=>some ((bQ 2 b.1),[(Z 0 b.2.1),(Z 1 b.2.1),(Z 2 b.2.1)],b.2.2)).bind λb=>toEnd b.1 (scope h b.2.2 (aH [(Z 0 b.2.1)])) λc=>dD c (scope h b.2.2 (aH [.aB]))) λb=>dD b (scope h a.2.2 (aH [.aB]))
theorem NR(a b:D)(h:J):R qe [a,b] h=Eo a b h:=
 er Ai
def Ef(a b c d:D)(ds:List D)(e:J):Option bN:=
 (V tab .lss U (Z 6 ds) d).bind λd=>S d
  (((aQ tab aV c (Z 6 ds)).bind λc=>(aA tab e aF c).bind λc=>(some ((.ptr e.length 0 0:D),aZ e aF 11 [[.str [],.int .i64 0,.int .i64 0,.int .i64 0,.int .i64 0,.aB,.int .i64 0,.int .i64 0,.str [],.str [],.aB]])).bind λf=>((bT tab f.2 aF f.1 c).bind λc=>some ((.bU:D),c)).bind λg=>(aC tab aF 1 f.1).bind λh=>(aC tab aG 1 h).bind λh=>(aA tab g.2 U h).bind λh=>(R zv [b,h] g.2).bind λb=>(eZ 0 b.1).bind λg=>(eZ 1 b.1).bind λh=>(S h
  ((aA tab b.2 aF f.1).bind λi=>(R vO [i,g] b.2).bind λi=>(eZ 0 i.1).bind λj=>(eZ 1 i.1).bind λk=>((bT tab i.2 aF f.1 j).bind λc=>some ((.bU:D),c)).bind λc=>(fx .not k).bind λi=>S i
  (some ((.ext 1),[k,i],c.2))
  (some (.aS,[k,i],c.2)))
  (some (.aS,[h,(Z 9 ds)],b.2))).bind λb=>toEnd b.1 ((aA tab b.2.2 aF f.1).bind λc=>(bJ tab aV 1 [0] [c]).bind λc=>(cW tab b.2.2 aV aV (Z 0 ds) c).bind λc=>(aT tab aW a).bind λi=>(V tab .lss U (Z 6 ds) i).bind λi=>(S i
  ((aQ tab aW a (Z 6 ds)).bind λa=>(aA tab c.2 U a).bind λa=>(bJ tab aW 1 [0] [a]).bind λa=>(cW tab c.2 aW aW (Z 1 ds) a).bind λa=>some (.aS,[a.1],a.2))
  (some (.aS,[(Z 1 ds)],c.2))).bind λa=>some ((bQ 1 a.1),[c.1,(Z 0 a.2.1),(Z 6 ds),f.1,g,(Z 0 b.2.1),h,(Z 1 b.2.1),i],a.2.2)) λa=>some ((bQ 1 a),[(Z 0 ds),(Z 1 ds),(Z 6 ds),f.1,g,(Z 0 b.2.1),h,(Z 1 b.2.1),(Z 10 ds)],b.2.2)).bind λa=>toEnd a.1 ((V tab .add U (Z 6 ds) (.int .i64 1)).bind λb=>some (.aS,[(Z 0 a.2.1),(Z 1 a.2.1),(Z 2 a.2.1),(Z 3 a.2.1),(Z 4 a.2.1),(Z 5 a.2.1),b,d,(Z 6 a.2.1),(Z 7 a.2.1),(Z 8 a.2.1)],a.2.2)) λb=>some (b,[(Z 0 a.2.1),(Z 1 a.2.1),(Z 2 a.2.1),(Z 3 a.2.1),(Z 4 a.2.1),(Z 5 a.2.1),(Z 6 ds),d,(Z 6 a.2.1),(Z 7 a.2.1),(Z 8 a.2.1)],a.2.2))
  (some ((.ext 0),[(Z 0 ds),(Z 1 ds),(Z 2 ds),(Z 3 ds),(Z 4 ds),(Z 5 ds),(Z 6 ds),d,(Z 8 ds),(Z 9 ds),(Z 10 ds)],e))
def Ee(a b c:D)(h:J):Option (D × J):=
 (aT tab aV a).bind λd=>((cA (Ef b c a d) [.aB,.aB,.any,.any,.any,.any,.int .i64 0,.any,.any,.any,.any] h).bind λa=>some ((bQ 0 a.1),[(Z 0 a.2.1),(Z 1 a.2.1),(Z 2 a.2.1),(Z 3 a.2.1),(Z 4 a.2.1),(Z 5 a.2.1),(Z 6 a.2.1),(Z 7 a.2.1),(Z 8 a.2.1),(Z 9 a.2.1),(Z 10 a.2.1)],a.2.2)).bind λa=>toEnd a.1 (scope h a.2.2 (aH [(Z 0 a.2.1),(Z 1 a.2.1)])) λb=>dD b (scope h a.2.2 (aH [.aB,.aB]))
theorem NJ(a b c:D)(h:J):R rN [a,b,c] h=Ee a b c h:=
 er Aj
def Et(a b c:D)(ds:List D)(d:J):Option bN:=
 (aT tab aV a).bind λe=>(V tab .lss U (Z 2 ds) e).bind λe=>S e
  (((aQ tab aV a (Z 2 ds)).bind λa=>(aA tab d aF a).bind λa=>(some ((.ptr d.length 0 0:D),aZ d aF 11 [[.str [],.int .i64 0,.int .i64 0,.int .i64 0,.int .i64 0,.aB,.int .i64 0,.int .i64 0,.str [],.str [],.aB]])).bind λf=>((bT tab f.2 aF f.1 a).bind λa=>some ((.bU:D),a)).bind λg=>(aC tab aF 1 f.1).bind λh=>(aC tab aG 1 h).bind λh=>(aA tab g.2 U h).bind λh=>(R wc [c,h] g.2).bind λc=>(eZ 0 c.1).bind λg=>(eZ 1 c.1).bind λh=>(S h
  ((aA tab c.2 aF f.1).bind λi=>(R vP [i,g] c.2).bind λi=>(eZ 0 i.1).bind λj=>(eZ 1 i.1).bind λk=>(gY 11 j).bind λj=>(fx .not k).bind λl=>S l
  (some ((.ext 1),[j,k,l],i.2))
  ((aA tab i.2 aF j).bind λm=>((bT tab i.2 aF f.1 m).bind λa=>some ((.bU:D),a)).bind λa=>some (.aS,[j,k,l],a.2)))
  (some (.aS,[(Z 6 ds),(Z 7 ds),(Z 10 ds)],c.2))).bind λa=>toEnd a.1 ((aA tab a.2.2 aF f.1).bind λc=>(bJ tab aV 1 [0] [c]).bind λc=>(cW tab a.2.2 aV aV (Z 0 ds) c).bind λc=>(aQ tab aW b (Z 2 ds)).bind λb=>(aA tab c.2 U b).bind λi=>(bJ tab aW 1 [0] [i]).bind λj=>e7 (aA tab a.2.2 U b=some i)
 ((cW tab c.2 aW aW (Z 1 ds) j).bind λb=>some (.aS,[c.1,b.1,f.1,g,h,(Z 0 a.2.1),(Z 1 a.2.1),h,(Z 2 a.2.1)],b.2))) λb=>some ((bQ 1 b),[(Z 0 ds),(Z 1 ds),f.1,g,h,(Z 0 a.2.1),(Z 1 a.2.1),h,(Z 2 a.2.1)],a.2.2)).bind λa=>toEnd a.1 ((V tab .add U (Z 2 ds) (.int .i64 1)).bind λb=>some (.aS,[(Z 0 a.2.1),(Z 1 a.2.1),b,(Z 2 a.2.1),(Z 3 a.2.1),(Z 4 a.2.1),(Z 5 a.2.1),(Z 6 a.2.1),e,(Z 7 a.2.1),(Z 8 a.2.1)],a.2.2)) λb=>some (b,[(Z 0 a.2.1),(Z 1 a.2.1),(Z 2 ds),(Z 2 a.2.1),(Z 3 a.2.1),(Z 4 a.2.1),(Z 5 a.2.1),(Z 6 a.2.1),e,(Z 7 a.2.1),(Z 8 a.2.1)],a.2.2))
  (some ((.ext 0),[(Z 0 ds),(Z 1 ds),(Z 2 ds),(Z 3 ds),(Z 4 ds),(Z 5 ds),(Z 6 ds),(Z 7 ds),e,(Z 9 ds),(Z 10 ds)],d))
def Es(a b c:D)(h:J):Option (D × J):=
 ((cA (Et a b c) [.aB,.aB,.int .i64 0,.any,.any,.any,.any,.any,.any,.any,.any] h).bind λa=>some ((bQ 0 a.1),[(Z 0 a.2.1),(Z 1 a.2.1),(Z 2 a.2.1),(Z 3 a.2.1),(Z 4 a.2.1),(Z 5 a.2.1),(Z 6 a.2.1),(Z 7 a.2.1),(Z 8 a.2.1),(Z 9 a.2.1),(Z 10 a.2.1)],a.2.2)).bind λa=>toEnd a.1 (scope h a.2.2 (aH [(Z 0 a.2.1),(Z 1 a.2.1)])) λb=>dD b (scope h a.2.2 (aH [.aB,.aB]))
theorem NS(a b c:D)(h:J):R rQ [a,b,c] h=Es a b c h:=
 er Ak
def DY(a b:D)(ds:List D)(c:J):Option bN:=
 (aT tab eT a).bind λd=>(V tab .lss U (Z 1 ds) d).bind λd=>S d
  ((aQ tab eT a (Z 1 ds)).bind λa=>(aA tab c dU a).bind λa=>(aQ tab eT b (Z 1 ds)).bind λb=>(aA tab c dU b).bind λb=>(V tab .neq dU a b).bind λa=>S a
  (some (.ret,[.bool false,(Z 1 ds),d,a],c))
  ((V tab .add U (Z 1 ds) (.int .i64 1)).bind λb=>some (.aS,[(Z 0 ds),b,d,a],c)))
  (some ((.ext 0),[(Z 0 ds),(Z 1 ds),d,(Z 3 ds)],c))
def DX(a b:D)(h:J):Option (D × J):=
 (aT tab eT a).bind λc=>(aT tab eT b).bind λd=>(V tab .neq U c d).bind λc=>S c
  (some (aH [.bool false],h))
  (((cA (DY a b) [.bool false,.int .i64 0,.any,.any] h).bind λa=>some ((bQ 0 a.1),[(Z 0 a.2.1),(Z 1 a.2.1),(Z 2 a.2.1),(Z 3 a.2.1)],a.2.2)).bind λa=>toEnd a.1 (some (aH [.bool true],a.2.2)) λb=>dD b (some (aH [(Z 0 a.2.1)],a.2.2)))
theorem Nt(a b:D)(h:J):R tC [a,b] h=DX a b h:=
 er Al
def D4(a b:D)(h:J):Option (D × J):=
 (some ((.ptr h.length 0 0:D),aZ h aF 11 [[.str [],.int .i64 0,.int .i64 0,.int .i64 0,.int .i64 0,.aB,.int .i64 0,.int .i64 0,.str [],.str [],.aB]])).bind λc=>(V tab .add U b (.int .i64 1)).bind λd=>(eX tab bS [0,1] [b,.int .i64 1]).bind λe=>(bJ tab bA 1 [0] [e]).bind λe=>(eX tab aG [1,2,3,4] [a,b,d,e]).bind λa=>(eX tab aF [0,1] [.str [114],a]).bind λa=>((bT tab c.2 aF c.1 a).bind λa=>some ((.bU:D),a)).bind λa=>(aA tab a.2 aF c.1).bind λb=>scope h a.2 (aH [b])
theorem Nx(a b:D)(h:J):R qd [a,b] h=D4 a b h:=
 er Am
def EH(a:D)(h:J):Option (D × J):=
 (hd tab a).bind λb=>(aC tab jO 1 b).bind λb=>(aA tab h U b).bind λb=>(hd tab a).bind λa=>(aC tab jO 0 a).bind λa=>(aA tab h j7 a).bind λa=>(aT tab j7 a).bind λa=>(V tab .lss U b a).bind λa=>some (aH [a],h)
theorem NZ(a:D)(h:J):R zx [a] h=EH a h:=
 er An
def Dn(a:D)(h:J):Option (D × J):=
 (ga a).bind λa=>(aC tab aF 1 a).bind λb=>(aA tab h aG b).bind λb=>(gY 10 b).bind λb=>(aC tab aF 0 a).bind λc=>(aA tab h bP c).bind λc=>(V tab .eql bP c (.str [])).bind λc=>S c
  ((aA tab h aG b).bind λc=>(R tt [c] h).bind λc=>some (aH [c.1],c.2))
  ((aC tab aF 0 a).bind λa=>(aA tab h bP a).bind λa=>(aT tab bP a).bind λa=>(V tab .gtr U a (.int .i64 32)).bind λa=>S a
  (some (aH [.int .i64 3],h))
  ((aA tab h aG b).bind λa=>(R vT [a] h).bind λa=>(fx .not a.1).bind λc=>S c
  (some (aH [.int .i64 2],a.2))
  ((aA tab a.2 aG b).bind λc=>(R vU [c,.int .i64 60000] a.2).bind λa=>(V tab .eql iH a.1 (.int .i64 9)).bind λc=>(O c false (some a.1)).bind λd=>(O c false (V tab .eql iH d (.int .i64 4))).bind λd=>(cD c (.bool true) d).bind λc=>(O c false (some a.1)).bind λd=>(O c false (V tab .eql iH d (.int .i64 19))).bind λd=>(cD c (.bool true) d).bind λc=>S c
  (some (aH [a.1],a.2))
  ((aC tab aG 5 b).bind λc=>(aA tab a.2 U c).bind λc=>(V tab .neq U c (.int .i64 0)).bind λc=>(O c false (aC tab aG 6 b)).bind λd=>(O c false (aA tab a.2 U d)).bind λd=>(O c false (V tab .neq U d (.int .i64 0))).bind λd=>(cD c (.bool true) d).bind λc=>(O c false (aC tab aG 7 b)).bind λd=>(O c false (aA tab a.2 bP d)).bind λd=>(O c false (V tab .neq bP d (.str []))).bind λd=>(cD c (.bool true) d).bind λc=>(O c false (aC tab aG 8 b)).bind λd=>(O c false (aA tab a.2 bP d)).bind λd=>(O c false (V tab .neq bP d (.str []))).bind λd=>(cD c (.bool true) d).bind λc=>(O c false (aC tab aG 9 b)).bind λd=>(O c false (aA tab a.2 bM d)).bind λd=>(O c false (aT tab bM d)).bind λd=>(O c false (V tab .neq U d (.int .i64 0))).bind λd=>(cD c (.bool true) d).bind λc=>(O c false (aC tab aG 4 b)).bind λb=>(O c false (aA tab a.2 bA b)).bind λb=>(fA c false a.2 (R zi [b,.fn (.func tu) [] []] a.2)).bind λa=>(cD c (.bool true) a.1).bind λb=>S b
  (some (aH [.int .i64 19],a.2))
  (some (aH [.int .i64 0],a.2))))))
theorem MW(a:D)(h:J):R ts [a] h=Dn a h:=
 er Ao
def xx(a:D)(ds:List D)(b:J):Option bN:=
 (aC tab aG 4 a).bind λc=>(aA tab b bA c).bind λc=>(aT tab bA c).bind λc=>(V tab .lss U (Z 1 ds) c).bind λc=>S c
  ((aC tab aG 4 a).bind λa=>(aA tab b bA a).bind λa=>(aQ tab bA a (Z 1 ds)).bind λa=>(aC tab bS 2 a).bind λa=>(aA tab b bP a).bind λa=>(V tab .neq bP a (.str [])).bind λa=>S a
  (some (.ret,[.int .i64 19,(Z 1 ds),c,a],b))
  ((V tab .add U (Z 1 ds) (.int .i64 1)).bind λd=>some (.aS,[(Z 0 ds),d,c,a],b)))
  (some ((.ext 0),[(Z 0 ds),(Z 1 ds),c,(Z 3 ds)],b))
def C8(a:D)(h:J):Option (D × J):=
 (ga a).bind λa=>(aC tab aF 0 a).bind λb=>(aA tab h bP b).bind λb=>(V tab .eql bP b (.str [])).bind λb=>S b
  ((aC tab aF 1 a).bind λb=>(aA tab h aG b).bind λb=>(R zd [b] h).bind λb=>some (aH [b.1],b.2))
  ((aC tab aF 0 a).bind λb=>(aA tab h bP b).bind λb=>(aT tab bP b).bind λb=>(V tab .gtr U b (.int .i64 32)).bind λb=>S b
  (some (aH [.int .i64 3],h))
  ((aC tab aF 1 a).bind λa=>(aA tab h aG a).bind λa=>(gY 10 a).bind λa=>(aA tab h aG a).bind λb=>(R vK [b] h).bind λb=>(V tab .neq iH b.1 (.int .i64 0)).bind λc=>S c
  (some (aH [b.1],b.2))
  ((aA tab b.2 aG a).bind λc=>(R vL [c,.int .i64 20000] b.2).bind λb=>(V tab .neq iH b.1 (.int .i64 0)).bind λc=>(O c true (some b.1)).bind λd=>(O c true (V tab .neq iH d (.int .i64 3))).bind λd=>(cD c d (.bool false)).bind λc=>S c
  (some (aH [b.1],b.2))
  ((aC tab aG 5 a).bind λc=>(aA tab b.2 U c).bind λc=>(V tab .neq U c (.int .i64 0)).bind λc=>(O c false (aC tab aG 6 a)).bind λd=>(O c false (aA tab b.2 U d)).bind λd=>(O c false (V tab .neq U d (.int .i64 0))).bind λd=>(cD c (.bool true) d).bind λc=>(O c false (aC tab aG 7 a)).bind λd=>(O c false (aA tab b.2 bP d)).bind λd=>(O c false (V tab .neq bP d (.str []))).bind λd=>(cD c (.bool true) d).bind λc=>(O c false (aC tab aG 8 a)).bind λd=>(O c false (aA tab b.2 bP d)).bind λd=>(O c false (V tab .neq bP d (.str []))).bind λd=>(cD c (.bool true) d).bind λc=>(O c false (aC tab aG 9 a)).bind λd=>(O c false (aA tab b.2 bM d)).bind λd=>(O c false (aT tab bM d)).bind λd=>(O c false (V tab .neq U d (.int .i64 0))).bind λd=>(cD c (.bool true) d).bind λc=>S c
  (some (aH [.int .i64 19],b.2))
  (((cA (xx a) [.int .i64 0,.int .i64 0,.any,.any] b.2).bind λa=>some ((bQ 0 a.1),[(Z 0 a.2.1),(Z 1 a.2.1),(Z 2 a.2.1),(Z 3 a.2.1)],a.2.2)).bind λa=>toEnd a.1 (some (aH [.int .i64 0],a.2.2)) λb=>dD b (some (aH [(Z 0 a.2.1)],a.2.2)))))))
theorem ME(a:D)(h:J):R vJ [a] h=C8 a h:=
 er Ap
def Ew(a b:D)(ds:List D)(c:J):Option bN:=
 (V tab .geq U (Z 2 ds) (.int .i64 0)).bind λd=>S d
  ((aQ tab aV a (Z 2 ds)).bind λe=>(aC tab aF 1 e).bind λe=>(aC tab aG 1 e).bind λe=>(aA tab c U e).bind λe=>(V tab .eql U e b).bind λb=>S b
  ((aQ tab aV a (Z 2 ds)).bind λa=>(aC tab aF 1 a).bind λa=>(aC tab aG 3 a).bind λa=>(aA tab c U a).bind λa=>some (.ret,[a,.bool true,(Z 2 ds),d,b],c))
  ((V tab .sub U (Z 2 ds) (.int .i64 1)).bind λa=>some (.aS,[(Z 0 ds),(Z 1 ds),a,d,b],c)))
  (some ((.ext 0),[(Z 0 ds),(Z 1 ds),(Z 2 ds),d,(Z 4 ds)],c))
def Eu(a b:D)(h:J):Option (D × J):=
 (aT tab aV a).bind λc=>(V tab .sub U c (.int .i64 1)).bind λc=>((cA (Ew a b) [.int .i64 0,.bool false,c,.any,.any] h).bind λa=>some ((bQ 0 a.1),[(Z 0 a.2.1),(Z 1 a.2.1),(Z 2 a.2.1),(Z 3 a.2.1),(Z 4 a.2.1)],a.2.2)).bind λa=>toEnd a.1 (some (aH [.int .i64 0,.bool false],a.2.2)) λb=>dD b (some (aH [(Z 0 a.2.1),(Z 1 a.2.1)],a.2.2))
theorem NT(a b:D)(h:J):R wb [a,b] h=Eu a b h:=
 er Aq
def DS(a:D)(h:J):Option (D × J):=
 (bJ tab aW 12 [0,1,2,3,4,5,6,7,8,9,10,11] [.int .i64 9223372036854775807,.int .i64 (-9223372036854775808),.int .i64 4294967296,.int .i64 (-1),.int .i64 (-2),.int .i64 65536,.int .i64 999,.int .i64 1000,.int .i64 253402300799999,.int .i64 253402300800000,.int .i64 0,.int .i64 41]).bind λb=>(R fN [a,.int .i64 4] h).bind λc=>(V tab .eql U c.1 (.int .i64 3)).bind λd=>S d
  ((aT tab aW b).bind λd=>(R fN [a,d] c.2).bind λd=>(aQ tab aW b d.1).bind λb=>(aA tab d.2 U b).bind λb=>some (aH [b],d.2))
  ((R fN [a,.int .i64 60] c.2).bind λa=>(V tab .sub U a.1 (.int .i64 3)).bind λb=>some (aH [b],a.2))
theorem Np(a:D)(h:J):R lH [a] h=DS a h:=
 er Ar
def EC(a b:D)(h:J):Option (D × J):=
 (aT tab eE b).bind λc=>(R fN [a,c] h).bind λa=>(aQ tab eE b a.1).bind λb=>(aA tab a.2 bP b).bind λb=>some (aH [b],a.2)
theorem NW(a b:D)(h:J):R gD [a,b] h=EC a b h:=
 er As
def EL(a:D)(ds:List D)(b:J):Option bN:=
 (V tab .gtr U (Z 1 ds) (.int .i64 0)).bind λc=>S c
  ((bJ tab eE 18 [0,1,2,3,4,5,6,7,8,9,10,11,12,13,14,15,16,17] [.str [97],.str [98],.str [32],.str [49],.str [117,115,101,114],.str [61],.str [34],.str [55],.str [46],.str [44],.str [120,32,121],.str [49,48,46,50],.str [45],.str [195,169],.str [91],.str [105,100],.str [9],.str [58]]).bind λd=>(R gD [a,d] b).bind λa=>(V tab .add bP (Z 0 ds) a.1).bind λd=>(V tab .sub U (Z 1 ds) (.int .i64 1)).bind λe=>some (.aS,[d,e,c],a.2))
  (some ((.ext 0),[(Z 0 ds),(Z 1 ds),c],b))
def EK(a b:D)(h:J):Option (D × J):=
 (V tab .add U b (.int .i64 1)).bind λb=>(R fN [a,b] h).bind λb=>((cA (EL a) [.str [],b.1,.any] b.2).bind λa=>some ((bQ 0 a.1),[(Z 0 a.2.1),(Z 1 a.2.1),(Z 2 a.2.1)],a.2.2)).bind λa=>toEnd a.1 (some (aH [(Z 0 a.2.1)],a.2.2)) λb=>dD b (some (aH [.str []],a.2.2))
theorem N2(a b:D)(h:J):R tJ [a,b] h=EK a b h:=
 er Au
def DT(a:D)(h:J):Option (D × J):=
 (some ((.ptr h.length 0 0:D),aZ h aG 10 [[.int .i64 0,.int .i64 0,.int .i64 0,.int .i64 0,.aB,.int .i64 0,.int .i64 0,.str [],.str [],.aB]])).bind λb=>(R fN [a,.int .i64 3] b.2).bind λc=>(R fN [a,.int .i64 3] c.2).bind λd=>(R fN [a,.int .i64 6] d.2).bind λe=>(V tab .mul U (.int .i64 10) e.1).bind λf=>(R fN [a,.int .i64 256] e.2).bind λe=>(V tab .mul U (.int .i64 1000) e.1).bind λg=>(bJ tab aW 4 [0,1,2,3] [.int .i64 1,.int .i64 1,.int .i64 2,.int .i64 5040]).bind λi=>(R fN [a,.int .i64 4] e.2).bind λe=>(aQ tab aW i e.1).bind λi=>(aA tab e.2 U i).bind λj=>(bJ tab eE 4 [0,1,2,3] [.str [],.str [116,49],.str [116,50],.str [105,100]]).bind λk=>(R gD [a,k] e.2).bind λe=>(bJ tab eE 2 [0,1] [.str [109,97,105,110],.str [97,117,100,105,116]]).bind λk=>(R gD [a,k] e.2).bind λk=>(R we [a] k.2).bind λl=>(eX tab aG [0,1,2,5,6,7,8,9] [c.1,d.1,f,g,j,e.1,k.1,l.1]).bind λc=>(some (.any:D)).bind λd=>e7 (aA tab e.2 U i=some j)
 (e7 (aA tab k.2 U i=some j)
 (e7 (aA tab l.2 U i=some j)
 (((bT tab (aZ l.2 aG 10 [[.int .i64 0,.int .i64 0,.int .i64 0,.int .i64 0,.aB,.int .i64 0,.int .i64 0,.str [],.str [],.aB]]) aG (.ptr l.2.length 0 0) c).bind λc=>some ((.bU:D),c)).bind λd=>(aC tab aG 2 (.ptr l.2.length 0 0)).bind λe=>(aA tab d.2 U e).bind λe=>(R wg [a,e,.int .i64 3,.bool true] d.2).bind λa=>(aC tab aG 4 (.ptr l.2.length 0 0)).bind λd=>((bT tab a.2 bA d a.1).bind λc=>some ((.bU:D),c)).bind λa=>(aC tab aG 4 (.ptr l.2.length 0 0)).bind λd=>(aA tab a.2 bA d).bind λd=>(aC tab aG 4 (.ptr l.2.length 0 0)).bind λe=>(aA tab a.2 bA e).bind λe=>(aT tab bA e).bind λe=>(V tab .sub U e (.int .i64 1)).bind λe=>(aQ tab bA d e).bind λd=>(aA tab a.2 bS d).bind λd=>(gY 3 d).bind λd=>(aC tab bS 0 d).bind λe=>(aA tab a.2 U e).bind λe=>(aC tab bS 1 d).bind λd=>(aA tab a.2 U d).bind λd=>(V tab .add U e d).bind λd=>(aC tab aG 3 (.ptr l.2.length 0 0)).bind λe=>((bT tab a.2 U e d).bind λc=>some ((.bU:D),c)).bind λa=>(aA tab a.2 aG (.ptr l.2.length 0 0)).bind λd=>((bT tab a.2 aG b.1 d).bind λc=>some ((.bU:D),c)).bind λa=>(aA tab a.2 aG b.1).bind λb=>scope h a.2 (aH [b]))))
theorem Nq(a:D)(h:J):R vX [a] h=DT a h:=
 er Av
def uT(a:D)(h:J):Option (D × J):=
 (V tab .eql aV a (.aB)).bind λb=>S b
  (some (aH [.aB],h))
  ((bJ tab aV 0 [] []).bind λb=>(cW tab h aV aV b a).bind λa=>some (aH [a.1],a.2))
theorem yX(a:D)(h:J):R oT [a] h=uT a h:=
 er Aw
def qR(a:D)(h:J):Option (D × J):=
 (V tab .eql aW a (.aB)).bind λb=>S b
  (some (aH [.aB],h))
  ((bJ tab aW 0 [] []).bind λb=>(cW tab h aW aW b a).bind λa=>some (aH [a.1],a.2))
theorem th(a:D)(h:J):R ni [a] h=qR a h:=
 er Ax
def EJ(a b:D)(h:J):Option (D × J):=
 (ga a).bind λa=>(ga b).bind λb=>(aC tab aF 1 a).bind λc=>(aA tab h aG c).bind λd=>(aC tab aF 1 b).bind λe=>(aA tab h aG e).bind λf=>(some ((.ptr h.length 0 0:D),aZ h aG 10 [[.int .i64 0,.int .i64 0,.int .i64 0,.int .i64 0,.aB,.int .i64 0,.int .i64 0,.str [],.str [],.aB]])).bind λg=>(some (.any:D)).bind λi=>((bT tab g.2 aG g.1 d).bind λi=>some ((.bU:D),i)).bind λj=>e7 (aA tab g.2 aG c=some d)
 (e7 (aA tab g.2 aG e=some f)
 (e7 (aA tab j.2 aG e=some f)
 (((bT tab (aZ j.2 aG 10 [[.int .i64 0,.int .i64 0,.int .i64 0,.int .i64 0,.aB,.int .i64 0,.int .i64 0,.str [],.str [],.aB]]) aG (.ptr j.2.length 0 0) f).bind λi=>some ((.bU:D),i)).bind λc=>(aC tab aF 0 a).bind λa=>(aA tab c.2 bP a).bind λa=>(aC tab aF 0 b).bind λb=>(aA tab c.2 bP b).bind λb=>(V tab .eql bP a b).bind λa=>(O a true (aC tab aG 0 g.1)).bind λb=>(O a true (aA tab c.2 U b)).bind λb=>(O a true (aC tab aG 0 (.ptr j.2.length 0 0))).bind λd=>(O a true (aA tab c.2 U d)).bind λd=>(O a true (V tab .eql U b d)).bind λb=>(cD a b (.bool false)).bind λa=>(O a true (aC tab aG 1 g.1)).bind λb=>(O a true (aA tab c.2 U b)).bind λb=>(O a true (aC tab aG 1 (.ptr j.2.length 0 0))).bind λd=>(O a true (aA tab c.2 U d)).bind λd=>(O a true (V tab .eql U b d)).bind λb=>(cD a b (.bool false)).bind λa=>(O a true (aC tab aG 2 g.1)).bind λb=>(O a true (aA tab c.2 U b)).bind λb=>(O a true (aC tab aG 2 (.ptr j.2.length 0 0))).bind λd=>(O a true (aA tab c.2 U d)).bind λd=>(O a true (V tab .eql U b d)).bind λb=>(cD a b (.bool false)).bind λa=>(O a true (aC tab aG 3 g.1)).bind λb=>(O a true (aA tab c.2 U b)).bind λb=>(O a true (aC tab aG 3 (.ptr j.2.length 0 0))).bind λd=>(O a true (aA tab c.2 U d)).bind λd=>(O a true (V tab .eql U b d)).bind λb=>(cD a b (.bool false)).bind λa=>(O a true (aC tab aG 5 g.1)).bind λb=>(O a true (aA tab c.2 U b)).bind λb=>(O a true (aC tab aG 5 (.ptr j.2.length 0 0))).bind λd=>(O a true (aA tab c.2 U d)).bind λd=>(O a true (V tab .eql U b d)).bind λb=>(cD a b (.bool false)).bind λa=>(O a true (aC tab aG 6 g.1)).bind λb=>(O a true (aA tab c.2 U b)).bind λb=>(O a true (aC tab aG 6 (.ptr j.2.length 0 0))).bind λd=>(O a true (aA tab c.2 U d)).bind λd=>(O a true (V tab .eql U b d)).bind λb=>(cD a b (.bool false)).bind λa=>(O a true (aC tab aG 7 g.1)).bind λb=>(O a true (aA tab c.2 bP b)).bind λb=>(O a true (aC tab aG 7 (.ptr j.2.length 0 0))).bind λd=>(O a true (aA tab c.2 bP d)).bind λd=>(O a true (V tab .eql bP b d)).bind λb=>(cD a b (.bool false)).bind λa=>(O a true (aC tab aG 8 g.1)).bind λb=>(O a true (aA tab c.2 bP b)).bind λb=>(O a true (aC tab aG 8 (.ptr j.2.length 0 0))).bind λd=>(O a true (aA tab c.2 bP d)).bind λd=>(O a true (V tab .eql bP b d)).bind λb=>(cD a b (.bool false)).bind λa=>(O a true (aC tab aG 4 g.1)).bind λb=>(O a true (aA tab c.2 bA b)).bind λb=>(O a true (aC tab aG 4 (.ptr j.2.length 0 0))).bind λd=>(O a true (aA tab c.2 bA d)).bind λd=>(fA a true c.2 (R zA [b,d] c.2)).bind λb=>(cD a b.1 (.bool false)).bind λa=>(O a true (aC tab aG 9 g.1)).bind λc=>(O a true (aA tab b.2 bM c)).bind λc=>(O a true (aC tab aG 9 (.ptr j.2.length 0 0))).bind λd=>(O a true (aA tab b.2 bM d)).bind λd=>(fA a true b.2 (R wj [c,d] b.2)).bind λb=>(cD a b.1 (.bool false)).bind λa=>scope h b.2 (aH [a]))))
theorem N1(a b:D)(h:J):R zy [a,b] h=EJ a b h:=
 er Ay
def D5(a b:D)(h:J):Option (D × J):=
 (ie tab R "Push" [a,b] h).bind λb=>(ie tab R "Len" [a] b.2).bind λb=>(V tab .sub U b.1 (.int .i64 1)).bind λc=>(R vZ [a,c] b.2).bind λa=>some (aH [],a.2)
theorem Ny(a b:D)(h:J):R vY [a,b] h=D5 a b h:=
 er Az
def xU(a:D)(h:J):Option (D × J):=
 (hd tab a).bind λa=>(aC tab ff 0 a).bind λa=>(aA tab h aW a).bind λa=>(aT tab aW a).bind λa=>some (aH [a],h)
theorem Gg(a:D)(h:J):R tD [a] h=xU a h:=
 er AA
def D6(a:D)(h:J):Option (D × J):=
 (ie tab R "Len" [a] h).bind λb=>(V tab .sub U b.1 (.int .i64 1)).bind λc=>(ie tab R "Swap" [a,.int .i64 0,c] b.2).bind λb=>(R v7 [a,.int .i64 0,c] b.2).bind λb=>(ie tab R "Pop" [a] b.2).bind λa=>some (aH [a.1],a.2)
theorem Nz(a:D)(h:J):R zt [a] h=D6 a h:=
 er AB
def Ez(a b:D)(ds:List D)(c:J):Option bN:=
 (V tab .gtr U (Z 0 ds) (.int .i64 0)).bind λd=>(O d true (some (a:D))).bind λe=>(O d true (some (Z 0 ds))).bind λf=>(O d true (V tab .sub U f (.int .i64 1))).bind λf=>(O d true (aQ tab eT e f)).bind λe=>(O d true (aC tab dU 0 e)).bind λe=>(O d true (aA tab c U e)).bind λe=>(O d true (aC tab dU 0 b)).bind λb=>(O d true (aA tab c U b)).bind λb=>(O d true (V tab .gtr U e b)).bind λb=>(cD d b (.bool false)).bind λb=>S b
  ((V tab .sub U (Z 0 ds) (.int .i64 1)).bind λd=>(aQ tab eT a d).bind λd=>(aA tab c dU d).bind λd=>(aQ tab eT a (Z 0 ds)).bind λa=>((bT tab c dU a d).bind λa=>some ((.bU:D),a)).bind λa=>(V tab .sub U (Z 0 ds) (.int .i64 1)).bind λd=>some (.aS,[d,b],a.2))
  (some ((.ext 0),[(Z 0 ds),b],c))
def Ey(a b:D)(h:J):Option (D × J):=
 (ga b).bind λb=>(aC tab dU 0 b).bind λc=>(aA tab h U c).bind λc=>(R wc [a,c] h).bind λc=>(eZ 0 c.1).bind λd=>(eZ 1 c.1).bind λd=>S d
  (some (aH [a],c.2))
  ((aT tab eT a).bind λd=>(aA tab c.2 dU b).bind λe=>(bJ tab eT 1 [0] [e]).bind λe=>(cW tab c.2 eT eT a e).bind λa=>((cA (Ez a.1 b) [d,.any] a.2).bind λc=>some ((bQ 0 c.1),[(Z 0 c.2.1),(Z 1 c.2.1)],c.2.2)).bind λc=>toEnd c.1 ((aA tab c.2.2 dU b).bind λb=>(aQ tab eT a.1 (Z 0 c.2.1)).bind λd=>((bT tab c.2.2 dU d b).bind λb=>some ((.bU:D),b)).bind λb=>some (aH [a.1],b.2)) λa=>dD a (some (aH [.aB],c.2.2)))
theorem NU(a b:D)(h:J):R tI [a,b] h=Ey a b h:=
 er AD
def Eg(a b:D)(h:J):Option (D × J):=
 (ga b).bind λb=>(some (.fn (.func nW) [] [b]:D)).bind λb=>(R tG [a,b] h).bind λb=>(V tab .lss U b.1 (.int .i64 0)).bind λc=>S c
  (some (aH [.int .i64 0,.bool false],b.2))
  ((aQ tab eT a b.1).bind λa=>(aC tab dU 1 a).bind λa=>(aA tab b.2 U a).bind λa=>some (aH [a,.bool true],b.2))
theorem NK(a b:D)(h:J):R zv [a,b] h=Eg a b h:=
 er AE
def Dk(a b:D)(h:J):Option (D × J):=
 (py aF 11 h a).bind λa=>(ga b).bind λb=>(some ((.ptr a.2.length 0 0:D),aZ a.2 aF 11 [[.str [],.int .i64 0,.int .i64 0,.int .i64 0,.int .i64 0,.aB,.int .i64 0,.int .i64 0,.str [],.str [],.aB]])).bind λc=>(aA tab c.2 U b).bind λd=>(aC tab aF 1 a.1).bind λe=>(aC tab aG 2 e).bind λe=>(aA tab c.2 U e).bind λe=>(V tab .leq U d e).bind λd=>S d
  ((aA tab c.2 aF a.1).bind λd=>((bT tab c.2 aF c.1 d).bind λd=>some ((.bU:D),d)).bind λe=>(aA tab e.2 aF c.1).bind λf=>scope h e.2 (aH [f,.bool true]))
  ((aC tab aF 1 a.1).bind λe=>(aC tab aG 4 e).bind λe=>(aA tab c.2 bA e).bind λe=>(some (.fn (.func vQ) [] [b]:D)).bind λg=>(R rH [e,g] c.2).bind λe=>(aA tab e.2 U b).bind λg=>(aC tab aF 1 a.1).bind λi=>(aC tab aG 3 i).bind λi=>(aA tab e.2 U i).bind λi=>(V tab .geq U g i).bind λg=>(O g false (some e.1)).bind λi=>(O g false (V tab .lss U i (.int .i64 0))).bind λi=>(cD g (.bool true) i).bind λg=>S g
  ((eX tab aF [] []).bind λg=>((bT tab e.2 aF c.1 g).bind λd=>some ((.bU:D),d)).bind λg=>(aA tab g.2 aF c.1).bind λf=>scope h g.2 (aH [f,.bool false]))
  ((aC tab aF 1 a.1).bind λg=>(aC tab aG 4 g).bind λg=>(aA tab e.2 bA g).bind λg=>(R zb [g] e.2).bind λe=>(some (.fn (.func vS) [] [b]:D)).bind λb=>(R vR [e.1,b] e.2).bind λb=>(aC tab aF 1 a.1).bind λe=>(aC tab aG 4 e).bind λe=>((bT tab b.2 bA e b.1).bind λd=>some ((.bU:D),d)).bind λb=>(aC tab aF 1 a.1).bind λe=>(aC tab aG 4 e).bind λe=>(aA tab b.2 bA e).bind λe=>(aQ tab bA e (.int .i64 0)).bind λe=>(aC tab bS 0 e).bind λe=>(aA tab b.2 U e).bind λe=>(aC tab aF 1 a.1).bind λg=>(aC tab aG 2 g).bind λg=>((bT tab b.2 U g e).bind λd=>some ((.bU:D),d)).bind λb=>(aA tab b.2 aF a.1).bind λa=>((bT tab b.2 aF c.1 a).bind λd=>some ((.bU:D),d)).bind λa=>(aA tab a.2 aF c.1).bind λf=>scope h a.2 (aH [f,.bool true])))
theorem MU(a b:D)(h:J):R vO [a,b] h=Dk a b h:=
 er AF
def EB(a b:D)(ds:List D)(c:J):Option bN:=
 (aT tab eT a).bind λd=>(V tab .lss U (Z 2 ds) d).bind λd=>S d
  ((aQ tab eT a (Z 2 ds)).bind λe=>(aC tab dU 0 e).bind λe=>(aA tab c U e).bind λe=>(V tab .eql U e b).bind λb=>S b
  ((aQ tab eT a (Z 2 ds)).bind λa=>(aC tab dU 1 a).bind λa=>(aA tab c U a).bind λa=>some (.ret,[a,.bool true,(Z 2 ds),d,b],c))
  ((V tab .add U (Z 2 ds) (.int .i64 1)).bind λa=>some (.aS,[(Z 0 ds),(Z 1 ds),a,d,b],c)))
  (some ((.ext 0),[(Z 0 ds),(Z 1 ds),(Z 2 ds),d,(Z 4 ds)],c))
def EA(a b:D)(h:J):Option (D × J):=
 ((cA (EB a b) [.int .i64 0,.bool false,.int .i64 0,.any,.any] h).bind λa=>some ((bQ 0 a.1),[(Z 0 a.2.1),(Z 1 a.2.1),(Z 2 a.2.1),(Z 3 a.2.1),(Z 4 a.2.1)],a.2.2)).bind λa=>toEnd a.1 (some (aH [.int .i64 0,.bool false],a.2.2)) λb=>dD b (some (aH [(Z 0 a.2.1),(Z 1 a.2.1)],a.2.2))
theorem NV(a b:D)(h:J):R wc [a,b] h=EA a b h:=
 er AG
def Dm(a:D)(b:D × J)(ds:List D)(c:J):Option bN:=
 (aC tab aF 1 b.1).bind λd=>(aC tab aG 4 d).bind λd=>(aA tab c bA d).bind λd=>(aT tab bA d).bind λd=>(V tab .lss U (Z 1 ds) d).bind λd=>S d
  ((aC tab aF 1 b.1).bind λe=>(aC tab aG 4 e).bind λe=>(aA tab c bA e).bind λe=>(aQ tab bA e (Z 1 ds)).bind λe=>(aC tab bS 0 e).bind λe=>(aA tab c U e).bind λe=>(V tab .geq U e a).bind λa=>(S a
  ((aC tab aF 1 b.1).bind λb=>(aC tab aG 4 b).bind λb=>(aA tab c bA b).bind λb=>(aQ tab bA b (Z 1 ds)).bind λb=>(aA tab c bS b).bind λb=>(bJ tab bA 1 [0] [b]).bind λb=>(cW tab c bA bA (Z 0 ds) b).bind λb=>some (.aS,[b.1],b.2))
  (some (.aS,[(Z 0 ds)],c))).bind λb=>toEnd (bQ 1 b.1) ((V tab .add U (Z 1 ds) (.int .i64 1)).bind λe=>some (.aS,[(Z 0 b.2.1),e,d,a],b.2.2)) λe=>some (e,[(Z 0 b.2.1),(Z 1 ds),d,a],b.2.2))
  (some ((.ext 0),[(Z 0 ds),(Z 1 ds),d,(Z 3 ds)],c))
def Dl(a b:D)(h:J):Option (D × J):=
 (py aF 11 h a).bind λa=>(some ((.ptr a.2.length 0 0:D),aZ a.2 aF 11 [[.str [],.int .i64 0,.int .i64 0,.int .i64 0,.int .i64 0,.aB,.int .i64 0,.int .i64 0,.str [],.str [],.aB]])).bind λc=>(aC tab aF 1 a.1).bind λd=>(aC tab aG 2 d).bind λd=>(aA tab c.2 U d).bind λd=>(V tab .leq U b d).bind λd=>S d
  ((aA tab c.2 aF a.1).bind λd=>((bT tab c.2 aF c.1 d).bind λd=>some ((.bU:D),d)).bind λe=>(aA tab e.2 aF c.1).bind λf=>scope h e.2 (aH [f,.bool true]))
  ((aC tab aF 1 a.1).bind λe=>(aC tab aG 3 e).bind λe=>(aA tab c.2 U e).bind λe=>(V tab .geq U b e).bind λe=>S e
  ((eX tab aF [] []).bind λe=>((bT tab c.2 aF c.1 e).bind λd=>some ((.bU:D),d)).bind λe=>(aA tab e.2 aF c.1).bind λf=>scope h e.2 (aH [f,.bool false]))
  (((cA (Dm b a) [.aB,.int .i64 0,.any,.any] c.2).bind λb=>some ((bQ 0 b.1),[(Z 0 b.2.1),(Z 1 b.2.1),(Z 2 b.2.1),(Z 3 b.2.1)],b.2.2)).bind λb=>toEnd b.1 ((aT tab bA (Z 0 b.2.1)).bind λe=>(V tab .eql U e (.int .i64 0)).bind λe=>S e
  ((eX tab aF [] []).bind λe=>((bT tab b.2.2 aF c.1 e).bind λd=>some ((.bU:D),d)).bind λe=>(aA tab e.2 aF c.1).bind λf=>scope h e.2 (aH [f,.bool false]))
  ((aQ tab bA (Z 0 b.2.1) (.int .i64 0)).bind λe=>(aC tab bS 0 e).bind λe=>(aA tab b.2.2 U e).bind λg=>(aC tab aF 1 a.1).bind λi=>(aC tab aG 4 i).bind λi=>((bT tab b.2.2 bA i (Z 0 b.2.1)).bind λd=>some ((.bU:D),d)).bind λi=>(aC tab aF 1 a.1).bind λj=>(aC tab aG 2 j).bind λj=>((bT tab i.2 U j g).bind λd=>some ((.bU:D),d)).bind λj=>e7 (aA tab i.2 U e=some g)
 ((aA tab j.2 aF a.1).bind λa=>((bT tab j.2 aF c.1 a).bind λd=>some ((.bU:D),d)).bind λa=>(aA tab a.2 aF c.1).bind λf=>scope h a.2 (aH [f,.bool true])))) λa=>dD a ((aA tab b.2.2 aF c.1).bind λf=>scope h b.2.2 (aH [f,.bool false]))))
theorem MV(a b:D)(h:J):R vP [a,b] h=Dl a b h:=
 er AH
def EN(a b:D)(h:J):Option (D × J):=
 (R wm [a] h).bind λc=>(R wm [b] c.2).bind λd=>S c.1
  (S d.1
  (some (aH [.int .i64 0],d.2))
  (some (aH [.int .i64 (-1)],d.2)))
  (S d.1
  (some (aH [.int .i64 1],d.2))
  ((V tab .lss U a b).bind λc=>S c
  (some (aH [.int .i64 (-1)],d.2))
  ((V tab .gtr U a b).bind λa=>S a
  (some (aH [.int .i64 1],d.2))
  (some (aH [.int .i64 0],d.2)))))
theorem N4(a b:D)(h:J):R wi [a,b] h=EN a b h:=
 er AJ
def Dp(a:D)(h:J):Option (D × J):=
 (ga a).bind λa=>(aA tab h aG a).bind λb=>(R vT [b] h).bind λb=>(fx .not b.1).bind λc=>(O c false (aC tab aG 5 a)).bind λd=>(O c false (aA tab b.2 U d)).bind λd=>(fA c false b.2 (R rI [d,.int .i64 0,.int .i64 253402300799999] b.2)).bind λb=>(O c false (fx .not b.1)).bind λd=>(cD c (.bool true) d).bind λc=>S c
  (scope h b.2 (aH [.int .i64 2]))
  ((aC tab aG 6 a).bind λc=>(aA tab b.2 U c).bind λc=>(V tab .lss U c (.int .i64 1)).bind λc=>(O c false (aC tab aG 6 a)).bind λd=>(O c false (aA tab b.2 U d)).bind λd=>(O c false (V tab .rem U (.int .i64 5040) d)).bind λd=>(O c false (V tab .neq U d (.int .i64 0))).bind λd=>(cD c (.bool true) d).bind λc=>S c
  (scope h b.2 (aH [.int .i64 21]))
  ((aA tab b.2 aG a).bind λc=>(R vU [c,.int .i64 2000] b.2).bind λb=>(V tab .neq iH b.1 (.int .i64 0)).bind λc=>S c
  (scope h b.2 (aH [b.1]))
  ((aC tab aG 7 a).bind λc=>(aA tab b.2 bP c).bind λc=>(aT tab bP c).bind λc=>(V tab .gtr U c (.int .i64 32)).bind λc=>(O c false (aC tab aG 8 a)).bind λd=>(O c false (aA tab b.2 bP d)).bind λd=>(O c false (aT tab bP d)).bind λd=>(O c false (V tab .gtr U d (.int .i64 32))).bind λd=>(cD c (.bool true) d).bind λc=>S c
  (scope h b.2 (aH [.int .i64 3]))
  ((aC tab aG 9 a).bind λc=>(aA tab b.2 bM c).bind λc=>(R tw [c] b.2).bind λb=>(eZ 0 b.1).bind λc=>(eZ 1 b.1).bind λd=>(V tab .neq iH d (.int .i64 0)).bind λe=>S e
  (scope h b.2 (aH [d]))
  ((aC tab aG 9 a).bind λa=>(aA tab b.2 bM a).bind λa=>(R zj [c,a] b.2).bind λa=>(fx .not a.1).bind λb=>S b
  (scope h a.2 (aH [.int .i64 19]))
  ((R zk [c,.fn (.func tz) [] []] a.2).bind λa=>S a.1
  (scope h a.2 (aH [.int .i64 3]))
  (scope h a.2 (aH [.int .i64 0]))))))))
theorem MX(a:D)(h:J):R tt [a] h=Dp a h:=
 er AK
def Du(a:D)(h:J):Option (D × J):=
 (ga a).bind λa=>(aC tab aG 0 a).bind λb=>(aA tab h U b).bind λb=>(R rI [b,.int .i64 0,.int .i64 999] h).bind λb=>(O b.1 true (aC tab aG 1 a)).bind λc=>(O b.1 true (aA tab b.2 U c)).bind λc=>(fA b.1 true b.2 (R rI [c,.int .i64 0,.int .i64 2147483646] b.2)).bind λc=>(cD b.1 c.1 (.bool false)).bind λb=>(O b true (aC tab aG 2 a)).bind λd=>(O b true (aA tab c.2 U d)).bind λd=>(O b true (V tab .geq U d (.int .i64 0))).bind λd=>(cD b d (.bool false)).bind λb=>(O b true (aC tab aG 3 a)).bind λd=>(O b true (aA tab c.2 U d)).bind λd=>(O b true (aC tab aG 2 a)).bind λe=>(O b true (aA tab c.2 U e)).bind λe=>(O b true (V tab .gtr U d e)).bind λd=>(cD b d (.bool false)).bind λb=>(O b true (aC tab aG 3 a)).bind λa=>(O b true (aA tab c.2 U a)).bind λa=>(O b true (V tab .leq U a (.int .i64 60000))).bind λa=>(cD b a (.bool false)).bind λa=>some (aH [a],c.2)
theorem M3(a:D)(h:J):R vT [a] h=Du a h:=
 er AL
def Dw(a b c d:D)(ds:List D)(e:J):Option bN:=
 (V tab .lss U (Z 5 ds) d).bind λd=>S d
  ((aQ tab bA c (Z 5 ds)).bind λc=>(aA tab e bS c).bind λc=>(some ((.ptr e.length 0 0:D),aZ e bS 3 [[.int .i64 0,.int .i64 0,.str []]])).bind λf=>((bT tab f.2 bS f.1 c).bind λc=>some ((.bU:D),c)).bind λc=>(aC tab aG 4 b).bind λg=>(aA tab c.2 bA g).bind λg=>(aT tab bA g).bind λg=>(V tab .sub U g (.int .i64 1)).bind λg=>(V tab .eql U (Z 5 ds) g).bind λg=>(aC tab bS 0 f.1).bind λh=>(aA tab c.2 U h).bind λh=>(V tab .neq U h (Z 1 ds)).bind λh=>(O h false (aC tab bS 1 f.1)).bind λi=>(O h false (aA tab c.2 U i)).bind λi=>(O h false (V tab .lss U i (.int .i64 1))).bind λi=>(cD h (.bool true) i).bind λh=>(O h false (aC tab bS 1 f.1)).bind λi=>(O h false (aA tab c.2 U i)).bind λi=>(O h false (aC tab aG 3 b)).bind λj=>(O h false (aA tab c.2 U j)).bind λj=>(O h false (some (Z 1 ds))).bind λk=>(O h false (V tab .sub U j k)).bind λj=>(O h false (V tab .gtr U i j)).bind λi=>(cD h (.bool true) i).bind λh=>(O h false (some g)).bind λi=>(O h false (some i)).bind λi=>(O i true (aC tab bS 1 f.1)).bind λj=>(O i true (aA tab c.2 U j)).bind λj=>(O i true (aC tab aG 3 b)).bind λb=>(O i true (aA tab c.2 U b)).bind λb=>(O i true (some (Z 1 ds))).bind λk=>(O i true (V tab .sub U b k)).bind λb=>(O i true (V tab .lss U j b)).bind λb=>(O h false (cD i b (.bool false))).bind λb=>(cD h (.bool true) b).bind λb=>S b
  (some (.ret,[.int .i64 19,(Z 1 ds),(Z 5 ds),f.1,g,(Z 5 ds),d,b,(Z 8 ds)],c.2))
  ((aC tab bS 2 f.1).bind λh=>(aA tab c.2 bP h).bind λh=>(aT tab bP h).bind λh=>(V tab .gtr U h a).bind λa=>S a
  (some (.ret,[.int .i64 3,(Z 1 ds),(Z 5 ds),f.1,g,(Z 5 ds),d,b,a],c.2))
  ((aC tab bS 1 f.1).bind λh=>(aA tab c.2 U h).bind λh=>(V tab .add U (Z 1 ds) h).bind λh=>(V tab .add U (Z 5 ds) (.int .i64 1)).bind λi=>some (.aS,[(Z 0 ds),h,(Z 5 ds),f.1,g,i,d,b,a],c.2))))
  (some ((.ext 1),[(Z 0 ds),(Z 1 ds),(Z 2 ds),(Z 3 ds),(Z 4 ds),(Z 5 ds),d,(Z 7 ds),(Z 8 ds)],e))
def Dv(a b:D)(h:J):Option (D × J):=
 (ga a).bind λa=>(aC tab aG 4 a).bind λc=>(aA tab h bA c).bind λc=>(aT tab bA c).bind λc=>(V tab .eql U c (.int .i64 0)).bind λc=>S c
  (scope h h (aH [.int .i64 9]))
  ((aC tab aG 4 a).bind λc=>(aA tab h bA c).bind λc=>(aT tab bA c).bind λc=>(V tab .gtr U c (.int .i64 40)).bind λc=>S c
  (scope h h (aH [.int .i64 4]))
  ((aC tab aG 2 a).bind λc=>(aA tab h U c).bind λc=>(aC tab aG 4 a).bind λd=>(aA tab h bA d).bind λd=>(aT tab bA d).bind λe=>((cA (Dw b a d e) [.int .i64 0,c,.any,.any,.any,.int .i64 0,.any,.any,.any] h).bind λa=>some ((bQ 1 a.1),[(Z 0 a.2.1),(Z 1 a.2.1),(Z 2 a.2.1),(Z 3 a.2.1),(Z 4 a.2.1),(Z 5 a.2.1),(Z 6 a.2.1),(Z 7 a.2.1),(Z 8 a.2.1)],a.2.2)).bind λa=>toEnd a.1 (scope h a.2.2 (aH [.int .i64 0])) λb=>dD b (scope h a.2.2 (aH [(Z 0 a.2.1)]))))
theorem M4(a b:D)(h:J):R vU [a,b] h=Dv a b h:=
 er AM
def Dx(a b:D)(h:J):Option (D × J):=
 (R rH [a,b] h).bind λa=>(V tab .geq U a.1 (.int .i64 0)).bind λb=>some (aH [b],a.2)
theorem M5(a b:D)(h:J):R zi [a,b] h=Dx a b h:=
 er AN
def Dy(a:D)(h:J):Option (D × J):=
 (ga a).bind λa=>(aC tab bS 2 a).bind λa=>(aA tab h bP a).bind λa=>(V tab .neq bP a (.str [])).bind λa=>some (aH [a],h)
theorem M6(a:D)(h:J):R tu [a] h=Dy a h:=
 er AO
def xB(a:D)(ds:List D)(b:J):Option bN:=
 (aT tab bM a).bind λc=>(V tab .lss U (Z 1 ds) c).bind λc=>S c
  ((aQ tab bM a (Z 1 ds)).bind λa=>(aC tab bB 1 a).bind λa=>(aA tab b bP a).bind λa=>(aT tab bP a).bind λa=>(V tab .gtr U a (.int .i64 2000)).bind λa=>S a
  (some (.ret,[.int .i64 3,(Z 1 ds),c,a],b))
  ((V tab .add U (Z 1 ds) (.int .i64 1)).bind λd=>some (.aS,[(Z 0 ds),d,c,a],b)))
  (some ((.ext 0),[(Z 0 ds),(Z 1 ds),c,(Z 3 ds)],b))
def C9(a:D)(h:J):Option (D × J):=
 (ga a).bind λa=>(aA tab h aG a).bind λb=>(R vK [b] h).bind λb=>(V tab .neq iH b.1 (.int .i64 0)).bind λc=>(O c false (aC tab aG 5 a)).bind λd=>(O c false (aA tab b.2 U d)).bind λd=>(O c false (V tab .lss U d (.int .i64 0))).bind λd=>(cD c (.bool true) d).bind λc=>(O c false (aC tab aG 5 a)).bind λd=>(O c false (aA tab b.2 U d)).bind λd=>(O c false (V tab .gtr U d (.int .i64 253402300799999))).bind λd=>(cD c (.bool true) d).bind λc=>S c
  (some (aH [.int .i64 2],b.2))
  ((aC tab aG 6 a).bind λc=>(aA tab b.2 U c).bind λc=>(R ze [c] b.2).bind λb=>(fx .not b.1).bind λc=>S c
  (some (aH [.int .i64 21],b.2))
  ((aA tab b.2 aG a).bind λc=>(R vL [c,.int .i64 2000] b.2).bind λb=>(V tab .neq iH b.1 (.int .i64 0)).bind λc=>S c
  (some (aH [b.1],b.2))
  ((aC tab aG 7 a).bind λc=>(aA tab b.2 bP c).bind λc=>(aT tab bP c).bind λc=>(V tab .gtr U c (.int .i64 32)).bind λc=>(O c false (aC tab aG 8 a)).bind λd=>(O c false (aA tab b.2 bP d)).bind λd=>(O c false (aT tab bP d)).bind λd=>(O c false (V tab .gtr U d (.int .i64 32))).bind λd=>(cD c (.bool true) d).bind λc=>S c
  (some (aH [.int .i64 3],b.2))
  ((aC tab aG 9 a).bind λc=>(aA tab b.2 bM c).bind λc=>(R vM [c] b.2).bind λb=>(eZ 0 b.1).bind λc=>(eZ 1 b.1).bind λd=>(V tab .neq iH d (.int .i64 0)).bind λe=>S e
  (some (aH [d],b.2))
  ((aC tab aG 9 a).bind λa=>(aA tab b.2 bM a).bind λa=>(R wj [c,a] b.2).bind λa=>(fx .not a.1).bind λb=>S b
  (some (aH [.int .i64 19],a.2))
  (((cA (xB c) [.int .i64 0,.int .i64 0,.any,.any] a.2).bind λa=>some ((bQ 0 a.1),[(Z 0 a.2.1),(Z 1 a.2.1),(Z 2 a.2.1),(Z 3 a.2.1)],a.2.2)).bind λa=>toEnd a.1 (some (aH [.int .i64 0],a.2.2)) λb=>dD b (some (aH [(Z 0 a.2.1)],a.2.2))))))))
theorem MI(a:D)(h:J):R zd [a] h=C9 a h:=
 er AP
def Da(a:D)(h:J):Option (D × J):=
 (ga a).bind λa=>(aC tab aG 0 a).bind λb=>(aA tab h U b).bind λb=>(V tab .lss U b (.int .i64 0)).bind λb=>(O b false (aC tab aG 0 a)).bind λc=>(O b false (aA tab h U c)).bind λc=>(O b false (V tab .gtr U c (.int .i64 999))).bind λc=>(cD b (.bool true) c).bind λb=>(O b false (aC tab aG 1 a)).bind λc=>(O b false (aA tab h U c)).bind λc=>(O b false (V tab .lss U c (.int .i64 0))).bind λc=>(cD b (.bool true) c).bind λb=>(O b false (aC tab aG 1 a)).bind λc=>(O b false (aA tab h U c)).bind λc=>(O b false (V tab .gtr U c (.int .i64 2147483646))).bind λc=>(cD b (.bool true) c).bind λb=>(O b false (aC tab aG 2 a)).bind λc=>(O b false (aA tab h U c)).bind λc=>(O b false (V tab .lss U c (.int .i64 0))).bind λc=>(cD b (.bool true) c).bind λb=>(O b false (aC tab aG 3 a)).bind λc=>(O b false (aA tab h U c)).bind λc=>(O b false (aC tab aG 2 a)).bind λd=>(O b false (aA tab h U d)).bind λd=>(O b false (V tab .leq U c d)).bind λc=>(cD b (.bool true) c).bind λb=>(O b false (aC tab aG 3 a)).bind λa=>(O b false (aA tab h U a)).bind λa=>(O b false (V tab .gtr U a (.int .i64 60000))).bind λa=>(cD b (.bool true) a).bind λa=>S a
  (some (aH [.int .i64 2],h))
  (some (aH [.int .i64 0],h))
theorem MJ(a:D)(h:J):R vK [a] h=Da a h:=
 er AQ
def Dc(a b:D)(ds:List D)(c:J):Option bN:=
 (aC tab aG 4 b).bind λd=>(aA tab c bA d).bind λd=>(aT tab bA d).bind λd=>(V tab .lss U (Z 2 ds) d).bind λd=>S d
  ((aC tab aG 4 b).bind λe=>(aA tab c bA e).bind λe=>(aQ tab bA e (Z 2 ds)).bind λe=>(aA tab c bS e).bind λe=>(gY 3 e).bind λe=>(aC tab bS 0 e).bind λf=>(aA tab c U f).bind λf=>(V tab .neq U f (Z 1 ds)).bind λf=>(O f false (aC tab bS 1 e)).bind λg=>(O f false (aA tab c U g)).bind λg=>(O f false (V tab .lss U g (.int .i64 1))).bind λg=>(cD f (.bool true) g).bind λf=>(O f false (aC tab bS 1 e)).bind λg=>(O f false (aA tab c U g)).bind λg=>(O f false (aC tab aG 3 b)).bind λh=>(O f false (aA tab c U h)).bind λh=>(O f false (some (Z 1 ds))).bind λi=>(O f false (V tab .sub U h i)).bind λh=>(O f false (V tab .gtr U g h)).bind λg=>(cD f (.bool true) g).bind λf=>(O f false (some (Z 2 ds))).bind λg=>(O f false (aC tab aG 4 b)).bind λh=>(O f false (aA tab c bA h)).bind λh=>(O f false (aT tab bA h)).bind λh=>(O f false (V tab .sub U h (.int .i64 1))).bind λh=>(O f false (V tab .eql U g h)).bind λg=>(O f false (some g)).bind λg=>(O g true (aC tab bS 1 e)).bind λh=>(O g true (aA tab c U h)).bind λh=>(O g true (aC tab aG 3 b)).bind λb=>(O g true (aA tab c U b)).bind λb=>(O g true (some (Z 1 ds))).bind λi=>(O g true (V tab .sub U b i)).bind λb=>(O g true (V tab .neq U h b)).bind λb=>(O f false (cD g b (.bool false))).bind λb=>(cD f (.bool true) b).bind λb=>S b
  (some (.ret,[.int .i64 19,(Z 1 ds),(Z 2 ds),e,d,b,(Z 6 ds)],c))
  ((aC tab bS 2 e).bind λf=>(aA tab c bP f).bind λf=>(aT tab bP f).bind λf=>(V tab .gtr U f a).bind λa=>S a
  (some (.ret,[.int .i64 3,(Z 1 ds),(Z 2 ds),e,d,b,a],c))
  ((aC tab bS 1 e).bind λf=>(aA tab c U f).bind λf=>(V tab .add U (Z 1 ds) f).bind λf=>(V tab .add U (Z 2 ds) (.int .i64 1)).bind λg=>some (.aS,[(Z 0 ds),f,g,e,d,b,a],c))))
  (some ((.ext 0),[(Z 0 ds),(Z 1 ds),(Z 2 ds),(Z 3 ds),d,(Z 5 ds),(Z 6 ds)],c))
def Db(a b:D)(h:J):Option (D × J):=
 (ga a).bind λa=>(aC tab aG 4 a).bind λc=>(aA tab h bA c).bind λc=>(aT tab bA c).bind λc=>(V tab .eql U c (.int .i64 0)).bind λc=>S c
  (some (aH [.int .i64 9],h))
  ((aC tab aG 4 a).bind λc=>(aA tab h bA c).bind λc=>(aT tab bA c).bind λc=>(V tab .gtr U c (.int .i64 40)).bind λc=>S c
  (some (aH [.int .i64 4],h))
  ((aC tab aG 2 a).bind λc=>(aA tab h U c).bind λc=>((cA (Dc b a) [.int .i64 0,c,.int .i64 0,.any,.any,.any,.any] h).bind λa=>some ((bQ 0 a.1),[(Z 0 a.2.1),(Z 1 a.2.1),(Z 2 a.2.1),(Z 3 a.2.1),(Z 4 a.2.1),(Z 5 a.2.1),(Z 6 a.2.1)],a.2.2)).bind λa=>toEnd a.1 (some (aH [.int .i64 0],a.2.2)) λb=>dD b (some (aH [(Z 0 a.2.1)],a.2.2))))
theorem ML(a b:D)(h:J):R vL [a,b] h=Db a b h:=
 er AR
def EE(a b c:D)(ds:List D)(d:J):Option bN:=
 (V tab .lss U (Z 2 ds) c).bind λc=>S c
  ((aQ tab eE b (Z 2 ds)).bind λb=>(aA tab d bP b).bind λb=>(R fN [a,.int .i64 3] d).bind λe=>(V tab .gtr U e.1 (.int .i64 0)).bind λf=>(S f
  ((bJ tab eE 8 [0,1,2,3,4,5,6,7] [.str [],.str [49],.str [105,110,102,111],.str [119,97,114,110],.str [97,110,110],.str [50,46,53,48],.str [116,114,117,101],.str [116,49]]).bind λg=>(R gD [a,g] e.2).bind λa=>(eX tab bB [0,1] [b,a.1]).bind λg=>(bJ tab bM 1 [0] [g]).bind λg=>(cW tab a.2 bM bM (Z 0 ds) g).bind λa=>some (.aS,[a.1],a.2))
  (some (.aS,[(Z 0 ds)],e.2))).bind λa=>toEnd (bQ 1 a.1) ((V tab .add U (Z 2 ds) (.int .i64 1)).bind λe=>some (.aS,[(Z 0 a.2.1),b,e,c,f],a.2.2)) λe=>some (e,[(Z 0 a.2.1),b,(Z 2 ds),c,f],a.2.2))
  (some ((.ext 0),[(Z 0 ds),(Z 1 ds),(Z 2 ds),c,(Z 4 ds)],d))
def ED(a:D)(h:J):Option (D × J):=
 (bJ tab eE 4 [0,1,2,3] [.str [97],.str [105,100],.str [108,101,118,101,108],.str [117,115,101,114]]).bind λb=>(aT tab eE b).bind λc=>((cA (EE a b c) [.aB,.any,.int .i64 0,.any,.any] h).bind λa=>some ((bQ 0 a.1),[(Z 0 a.2.1),(Z 1 a.2.1),(Z 2 a.2.1),(Z 3 a.2.1),(Z 4 a.2.1)],a.2.2)).bind λa=>toEnd a.1 (scope h a.2.2 (aH [(Z 0 a.2.1)])) λb=>dD b (scope h a.2.2 (aH [.aB]))
theorem NX(a:D)(h:J):R we [a] h=ED a h:=
 er AU
def EG(a b:D)(ds:List D)(c:J):Option bN:=
 (V tab .gtr U (Z 2 ds) (.int .i64 0)).bind λd=>S d
  ((R fN [a,.int .i64 20] c).bind λe=>(V tab .add U (.int .i64 1) e.1).bind λf=>(eX tab bS [0,1] [(Z 0 ds),f]).bind λf=>(some ((.ptr e.2.length 0 0:D),aZ e.2 bS 3 [[.int .i64 0,.int .i64 0,.str []]])).bind λe=>((bT tab e.2 bS e.1 f).bind λf=>some ((.bU:D),f)).bind λg=>(S b
  ((R wh [a] g.2).bind λa=>(aC tab bS 2 e.1).bind λh=>((bT tab a.2 bP h a.1).bind λf=>some ((.bU:D),f)).bind λa=>some (.aS,([]:List D),a.2))
  (some (.aS,([]:List D),g.2))).bind λa=>toEnd a.1 ((aA tab a.2.2 bS e.1).bind λf=>(bJ tab bA 1 [0] [f]).bind λf=>(cW tab a.2.2 bA bA (Z 1 ds) f).bind λf=>(aC tab bS 1 e.1).bind λg=>(aA tab f.2 U g).bind λg=>(V tab .add U (Z 0 ds) g).bind λg=>(V tab .sub U (Z 2 ds) (.int .i64 1)).bind λh=>some (.aS,[g,f.1,h,e.1,d,b],f.2)) λf=>toEnd (bQ 1 f) ((V tab .sub U (Z 2 ds) (.int .i64 1)).bind λf=>some (.aS,[(Z 0 ds),(Z 1 ds),f,e.1,d,b],a.2.2)) λf=>some (f,[(Z 0 ds),(Z 1 ds),(Z 2 ds),e.1,d,b],a.2.2))
  (some ((.ext 0),[(Z 0 ds),(Z 1 ds),(Z 2 ds),(Z 3 ds),d,(Z 5 ds)],c))
def EF(a b c d:D)(h:J):Option (D × J):=
 (R fN [a,c] h).bind λc=>(V tab .add U (.int .i64 1) c.1).bind λe=>((cA (EG a d) [b,.aB,e,.any,.any,.any] c.2).bind λa=>some ((bQ 0 a.1),[(Z 0 a.2.1),(Z 1 a.2.1),(Z 2 a.2.1),(Z 3 a.2.1),(Z 4 a.2.1),(Z 5 a.2.1)],a.2.2)).bind λa=>toEnd a.1 (scope h a.2.2 (aH [(Z 1 a.2.1)])) λb=>dD b (scope h a.2.2 (aH [.aB]))
theorem NY(a b c d:D)(h:J):R wg [a,b,c,d] h=EF a b c d h:=
 er AV
def EP(a b:D)(ds:List D)(c:J):Option bN:=
 (aT tab bA a).bind λd=>(V tab .lss U (Z 1 ds) d).bind λd=>S d
  ((aQ tab bA a (Z 1 ds)).bind λa=>(aA tab c bS a).bind λa=>(aQ tab bA b (Z 1 ds)).bind λb=>(aA tab c bS b).bind λb=>(V tab .neq bS a b).bind λa=>S a
  (some (.ret,[.bool false,(Z 1 ds),d,a],c))
  ((V tab .add U (Z 1 ds) (.int .i64 1)).bind λb=>some (.aS,[(Z 0 ds),b,d,a],c)))
  (some ((.ext 0),[(Z 0 ds),(Z 1 ds),d,(Z 3 ds)],c))
def EO(a b:D)(h:J):Option (D × J):=
 (aT tab bA a).bind λc=>(aT tab bA b).bind λd=>(V tab .neq U c d).bind λc=>S c
  (some (aH [.bool false],h))
  (((cA (EP a b) [.bool false,.int .i64 0,.any,.any] h).bind λa=>some ((bQ 0 a.1),[(Z 0 a.2.1),(Z 1 a.2.1),(Z 2 a.2.1),(Z 3 a.2.1)],a.2.2)).bind λa=>toEnd a.1 (some (aH [.bool true],a.2.2)) λb=>dD b (some (aH [(Z 0 a.2.1)],a.2.2)))
theorem N5(a b:D)(h:J):R zA [a,b] h=EO a b h:=
 er AW
def ES(a b:D)(ds:List D)(c:J):Option bN:=
 (aT tab bM a).bind λd=>(V tab .lss U (Z 1 ds) d).bind λd=>S d
  ((aQ tab bM a (Z 1 ds)).bind λa=>(aA tab c bB a).bind λa=>(aQ tab bM b (Z 1 ds)).bind λb=>(aA tab c bB b).bind λb=>(V tab .neq bB a b).bind λa=>S a
  (some (.ret,[.bool false,(Z 1 ds),d,a],c))
  ((V tab .add U (Z 1 ds) (.int .i64 1)).bind λb=>some (.aS,[(Z 0 ds),b,d,a],c)))
  (some ((.ext 0),[(Z 0 ds),(Z 1 ds),d,(Z 3 ds)],c))
def ER(a b:D)(h:J):Option (D × J):=
 (aT tab bM a).bind λc=>(aT tab bM b).bind λd=>(V tab .neq U c d).bind λc=>S c
  (some (aH [.bool false],h))
  (((cA (ES a b) [.bool false,.int .i64 0,.any,.any] h).bind λa=>some ((bQ 0 a.1),[(Z 0 a.2.1),(Z 1 a.2.1),(Z 2 a.2.1),(Z 3 a.2.1)],a.2.2)).bind λa=>toEnd a.1 (some (aH [.bool true],a.2.2)) λb=>dD b (some (aH [(Z 0 a.2.1)],a.2.2)))
theorem N6(a b:D)(h:J):R wj [a,b] h=ER a b h:=
 er AX
def xV(a:D)(ds:List D)(b:J):Option bN:=
 (V tab .sub U (Z 0 ds) (.int .i64 1)).bind λc=>(V tab .quo U c (.int .i64 2)).bind λc=>(V tab .eql U c (Z 0 ds)).bind λd=>(O d false (some a)).bind λe=>(O d false (some (Z 0 ds))).bind λf=>(O d false (some c)).bind λg=>(fA d false b (ie tab R "Less" [e,f,g] b)).bind λb=>(O d false (fx .not b.1)).bind λe=>(cD d (.bool true) e).bind λd=>S d
  (some ((.ext 0),[(Z 0 ds),c,d],b.2))
  ((ie tab R "Swap" [a,c,(Z 0 ds)] b.2).bind λa=>some (.aS,[c,c,d],a.2))
def D7(a b:D)(h:J):Option (D × J):=
 ((cA (xV a) [b,.any,.any] h).bind λa=>some ((bQ 0 a.1),[(Z 0 a.2.1),(Z 1 a.2.1),(Z 2 a.2.1)],a.2.2)).bind λa=>dD a.1 (some (aH [],a.2.2))
theorem NA(a b:D)(h:J):R vZ [a,b] h=D7 a b h:=
 er AY
def xW(a b:D)(ds:List D)(c:J):Option bN:=
 (V tab .mul U (.int .i64 2) (Z 0 ds)).bind λd=>(V tab .add U d (.int .i64 1)).bind λd=>(V tab .geq U d b).bind λe=>(O e false (some d)).bind λf=>(O e false (V tab .lss U f (.int .i64 0))).bind λf=>(cD e (.bool true) f).bind λe=>S e
  (some ((.ext 0),[(Z 0 ds),d,(Z 2 ds),(Z 3 ds),e,(Z 5 ds),(Z 6 ds)],c))
  ((V tab .add U d (.int .i64 1)).bind λf=>(V tab .lss U f b).bind λb=>(O b true (some a)).bind λg=>(O b true (some f)).bind λh=>(O b true (some d)).bind λi=>(fA b true c (ie tab R "Less" [g,h,i] c)).bind λc=>(cD b c.1 (.bool false)).bind λb=>(S b
  (some (.aS,[f],c.2))
  (some (.aS,[d],c.2))).bind λc=>toEnd c.1 ((ie tab R "Less" [a,(Z 0 c.2.1),(Z 0 ds)] c.2.2).bind λg=>(fx .not g.1).bind λh=>S h
  (some ((.ext 0),[(Z 0 ds),d,(Z 0 c.2.1),f,e,b,h],g.2))
  ((ie tab R "Swap" [a,(Z 0 ds),(Z 0 c.2.1)] g.2).bind λa=>some (.aS,[(Z 0 c.2.1),d,(Z 0 c.2.1),f,e,b,h],a.2))) λa=>some ((bQ 1 a),[(Z 0 ds),d,(Z 0 c.2.1),f,e,b,(Z 6 ds)],c.2.2))
def D8(a b c:D)(h:J):Option (D × J):=
 ((cA (xW a c) [b,.any,.any,.any,.any,.any,.any] h).bind λa=>some ((bQ 0 a.1),[(Z 0 a.2.1),(Z 1 a.2.1),(Z 2 a.2.1),(Z 3 a.2.1),(Z 4 a.2.1),(Z 5 a.2.1),(Z 6 a.2.1)],a.2.2)).bind λa=>toEnd a.1 ((V tab .gtr U (Z 0 a.2.1) b).bind λb=>some (aH [b],a.2.2)) λb=>dD b (some (aH [.bool false],a.2.2))
theorem NB(a b c:D)(h:J):R v7 [a,b,c] h=D8 a b c h:=
 er AZ
def Ei(a b c:D)(ds:List D)(d:J):Option bN:=
 (V tab .lss U (Z 2 ds) c).bind λc=>S c
  ((aQ tab eT a (Z 2 ds)).bind λa=>(aA tab d dU a).bind λa=>(gu R b [a] d).bind λa=>S a.1
  (some (.ret,[(Z 2 ds),(Z 2 ds),(Z 2 ds),c,a.1],a.2))
  ((V tab .add U (Z 2 ds) (.int .i64 1)).bind λb=>some (.aS,[(Z 0 ds),(Z 2 ds),b,c,a.1],a.2)))
  (some ((.ext 0),[(Z 0 ds),(Z 1 ds),(Z 2 ds),c,(Z 4 ds)],d))
def Eh(a b:D)(h:J):Option (D × J):=
 (aT tab eT a).bind λc=>((cA (Ei a b c) [.int .i64 0,.any,.int .i64 0,.any,.any] h).bind λa=>some ((bQ 0 a.1),[(Z 0 a.2.1),(Z 1 a.2.1),(Z 2 a.2.1),(Z 3 a.2.1),(Z 4 a.2.1)],a.2.2)).bind λa=>toEnd a.1 (some (aH [.int .i64 (-1)],a.2.2)) λb=>dD b (some (aH [(Z 0 a.2.1)],a.2.2))
theorem NL(a b:D)(h:J):R tG [a,b] h=Eh a b h:=
 er A0
def Ej(a b:D)(h:J):Option (D × J):=
 (ga a).bind λa=>(aC tab dU 0 a).bind λa=>(aA tab h U a).bind λa=>(aA tab h U b).bind λb=>(V tab .eql U a b).bind λa=>some (aH [a],h)
theorem NM(a b:D)(h:J):R nW [a,b] h=Ej a b h:=
 er A1
def nI(a b c:D)(ds:List D)(d:J):Option bN:=
 (V tab .lss U (Z 2 ds) c).bind λc=>S c
  ((aQ tab bA a (Z 2 ds)).bind λa=>(aA tab d bS a).bind λa=>(gu R b [a] d).bind λa=>S a.1
  (some (.ret,[(Z 2 ds),(Z 2 ds),(Z 2 ds),c,a.1],a.2))
  ((V tab .add U (Z 2 ds) (.int .i64 1)).bind λb=>some (.aS,[(Z 0 ds),(Z 2 ds),b,c,a.1],a.2)))
  (some ((.ext 0),[(Z 0 ds),(Z 1 ds),(Z 2 ds),c,(Z 4 ds)],d))
def xy(a b:D)(h:J):Option (D × J):=
 (aT tab bA a).bind λc=>((cA (nI a b c) [.int .i64 0,.any,.int .i64 0,.any,.any] h).bind λa=>some ((bQ 0 a.1),[(Z 0 a.2.1),(Z 1 a.2.1),(Z 2 a.2.1),(Z 3 a.2.1),(Z 4 a.2.1)],a.2.2)).bind λa=>toEnd a.1 (some (aH [.int .i64 (-1)],a.2.2)) λb=>dD b (some (aH [(Z 0 a.2.1)],a.2.2))
theorem Gc(a b:D)(h:J):R rH [a,b] h=xy a b h:=
 er A2
def Dq(a b:D)(h:J):Option (D × J):=
 (ga a).bind λa=>(aC tab bS 0 a).bind λa=>(aA tab h U a).bind λa=>(aA tab h U b).bind λb=>(V tab .geq U a b).bind λa=>some (aH [a],h)
theorem MY(a b:D)(h:J):R vQ [a,b] h=Dq a b h:=
 er A3
def Ds(a b:D)(ds:List D)(c:J):Option bN:=
 (aT tab bA a).bind λd=>(V tab .lss U (Z 1 ds) d).bind λd=>S d
  ((aQ tab bA a (Z 1 ds)).bind λe=>(aA tab c bS e).bind λe=>(gY 3 e).bind λe=>(aA tab c bS e).bind λf=>(gu R b [f] c).bind λb=>(fx .not b.1).bind λf=>(S f
  ((aA tab b.2 bS e).bind λg=>(aQ tab bA a (Z 0 ds)).bind λa=>((bT tab b.2 bS a g).bind λa=>some ((.bU:D),a)).bind λa=>(V tab .add U (Z 0 ds) (.int .i64 1)).bind λg=>some (.aS,[g],a.2))
  (some (.aS,[(Z 0 ds)],b.2))).bind λa=>toEnd (bQ 1 a.1) ((V tab .add U (Z 1 ds) (.int .i64 1)).bind λb=>some (.aS,[(Z 0 a.2.1),b,e,d,f],a.2.2)) λb=>some (b,[(Z 0 a.2.1),(Z 1 ds),e,d,f],a.2.2))
  (some ((.ext 0),[(Z 0 ds),(Z 1 ds),(Z 2 ds),d,(Z 4 ds)],c))
def Dr(a b:D)(h:J):Option (D × J):=
 (R rH [a,b] h).bind λc=>(V tab .eql U c.1 (.int .i64 (-1))).bind λd=>S d
  (some (aH [a],c.2))
  ((V tab .add U c.1 (.int .i64 1)).bind λd=>((cA (Ds a b) [c.1,d,.any,.any,.any] c.2).bind λb=>some ((bQ 0 b.1),[(Z 0 b.2.1),(Z 1 b.2.1),(Z 2 b.2.1),(Z 3 b.2.1),(Z 4 b.2.1)],b.2.2)).bind λb=>toEnd b.1 ((gj tab bA true false false [a,(Z 0 b.2.1)]).bind λc=>(p3 tab b.2.2 bA c).bind λc=>(gj tab bA false true false [a,(Z 0 b.2.1)]).bind λa=>some (aH [a],c.2)) λa=>dD a (some (aH [.aB],b.2.2)))
theorem MZ(a b:D)(h:J):R vR [a,b] h=Dr a b h:=
 er A4
def xz(a:D)(h:J):Option (D × J):=
 (V tab .eql bA a (.aB)).bind λb=>S b
  (some (aH [.aB],h))
  ((bJ tab bA 0 [] []).bind λb=>(cW tab h bA bA b a).bind λa=>some (aH [a.1],a.2))
theorem MG(a:D)(h:J):R zb [a] h=xz a h:=
 er A5
def Dt(a b:D)(h:J):Option (D × J):=
 (ga a).bind λa=>(aC tab bS 0 a).bind λa=>(aA tab h U a).bind λa=>(aA tab h U b).bind λb=>(V tab .lss U a b).bind λa=>some (aH [a],h)
theorem M1(a b:D)(h:J):R vS [a,b] h=Dt a b h:=
 er A6
def ET(a:D)(h:J):Option (D × J):=
 (V tab .neq U a a).bind λa=>some (aH [a],h)
theorem N7(a:D)(h:J):R wm [a] h=ET a h:=
 er A7
def Dz(a b c:D)(h:J):Option (D × J):=
 (V tab .leq U b a).bind λb=>(O b true (some a)).bind λa=>(O b true (some c)).bind λc=>(O b true (V tab .leq U a c)).bind λa=>(cD b a (.bool false)).bind λa=>some (aH [a],h)
theorem M7(a b c:D)(h:J):R rI [a,b,c] h=Dz a b c h:=
 er A8
def xG(a b:D)(ds:List D)(c:J):Option bN:=
 (V tab .lss U (Z 3 ds) b).bind λb=>S b
  ((aQ tab bM a (Z 3 ds)).bind λa=>(aA tab c bB a).bind λa=>(gY 2 a).bind λa=>(aC tab bB 0 a).bind λd=>(aA tab c bP d).bind λd=>(R zl [d] c).bind λd=>(fx .not d.1).bind λe=>S e
  (some (.ret,[.aB,.int .i64 6,a,(Z 3 ds),b,e],d.2))
  ((V tab .add U (Z 3 ds) (.int .i64 1)).bind λf=>some (.aS,[(Z 0 ds),(Z 1 ds),a,f,b,e],d.2)))
  (some ((.ext 0),[(Z 0 ds),(Z 1 ds),(Z 2 ds),(Z 3 ds),b,(Z 5 ds)],c))
def xH(a:D)(b:List D)(c:J):Option bN:=
 (aT tab bM a).bind λd=>(V tab .lss U (Z 2 b) d).bind λd=>S d
  ((aQ tab bM a (Z 2 b)).bind λe=>(aC tab bB 0 e).bind λe=>(aA tab c bP e).bind λe=>(V tab .sub U (Z 2 b) (.int .i64 1)).bind λf=>(aQ tab bM a f).bind λa=>(aC tab bB 0 a).bind λa=>(aA tab c bP a).bind λa=>(V tab .eql bP e a).bind λa=>S a
  (some (.ret,[.aB,.int .i64 7,(Z 2 b),d,a],c))
  ((V tab .add U (Z 2 b) (.int .i64 1)).bind λe=>some (.aS,[(Z 0 b),(Z 1 b),e,d,a],c)))
  (some ((.ext 2),[(Z 0 b),(Z 1 b),(Z 2 b),d,(Z 4 b)],c))
def xF(a:D)(h:J):Option (D × J):=
 (aT tab bM a).bind λb=>(V tab .gtr U b (.int .i64 32)).bind λb=>S b
  (some (aH [.aB,.int .i64 4],h))
  ((aT tab bM a).bind λb=>((cA (xG a b) [.aB,.int .i64 0,.any,.int .i64 0,.any,.any] h).bind λb=>some ((bQ 0 b.1),[(Z 0 b.2.1),(Z 1 b.2.1),(Z 2 b.2.1),(Z 3 b.2.1),(Z 4 b.2.1),(Z 5 b.2.1)],b.2.2)).bind λb=>toEnd b.1 ((R zc [a] b.2.2).bind λa=>(R tA [a.1,.fn (.func qa) [] []] a.2).bind λc=>((cA (xH a.1) [(Z 0 b.2.1),(Z 1 b.2.1),.int .i64 1,.any,.any] c.2).bind λc=>some ((bQ 2 c.1),[(Z 0 c.2.1),(Z 1 c.2.1),(Z 2 c.2.1),(Z 3 c.2.1),(Z 4 c.2.1)],c.2.2)).bind λc=>toEnd c.1 (some (aH [a.1,.int .i64 0],c.2.2)) λa=>dD a (some (aH [(Z 0 c.2.1),(Z 1 c.2.1)],c.2.2))) λa=>dD a (some (aH [(Z 0 b.2.1),(Z 1 b.2.1)],b.2.2)))
theorem M8(a:D)(h:J):R tw [a] h=xF a h:=
 er A9
def DB(a b c:D)(ds:List D)(d:J):Option bN:=
 (V tab .lss U (Z 2 ds) c).bind λc=>S c
  ((aQ tab bM a (Z 2 ds)).bind λa=>(aA tab d bB a).bind λa=>(aQ tab bM b (Z 2 ds)).bind λb=>(aA tab d bB b).bind λb=>(V tab .neq bB a b).bind λa=>S a
  (some (.ret,[.bool false,(Z 2 ds),(Z 2 ds),c,a],d))
  ((V tab .add U (Z 2 ds) (.int .i64 1)).bind λb=>some (.aS,[(Z 0 ds),(Z 2 ds),b,c,a],d)))
  (some ((.ext 0),[(Z 0 ds),(Z 1 ds),(Z 2 ds),c,(Z 4 ds)],d))
def DA(a b:D)(h:J):Option (D × J):=
 (aT tab bM a).bind λc=>(aT tab bM b).bind λd=>(V tab .neq U c d).bind λc=>S c
  (some (aH [.bool false],h))
  ((aT tab bM a).bind λc=>((cA (DB a b c) [.bool false,.any,.int .i64 0,.any,.any] h).bind λa=>some ((bQ 0 a.1),[(Z 0 a.2.1),(Z 1 a.2.1),(Z 2 a.2.1),(Z 3 a.2.1),(Z 4 a.2.1)],a.2.2)).bind λa=>toEnd a.1 (some (aH [.bool true],a.2.2)) λb=>dD b (some (aH [(Z 0 a.2.1)],a.2.2)))
theorem M9(a b:D)(h:J):R zj [a,b] h=DA a b h:=
 er Ba
def DC(a b:D)(h:J):Option (D × J):=
 (R zn [a,b] h).bind λa=>(V tab .geq U a.1 (.int .i64 0)).bind λb=>some (aH [b],a.2)
theorem Na(a b:D)(h:J):R zk [a,b] h=DC a b h:=
 er Bb
def DD(a:D)(h:J):Option (D × J):=
 (ga a).bind λa=>(aC tab bB 1 a).bind λa=>(aA tab h bP a).bind λa=>(aT tab bP a).bind λa=>(V tab .gtr U a (.int .i64 2000)).bind λa=>some (aH [a],h)
theorem Nb(a:D)(h:J):R tz [a] h=DD a h:=
 er Bc
def Dd(a:D)(h:J):Option (D × J):=
 (V tab .geq U a (.int .i64 1)).bind λb=>(O b true (some a)).bind λc=>(O b true (V tab .leq U c (.int .i64 5040))).bind λc=>(cD b c (.bool false)).bind λb=>(O b true (some a)).bind λa=>(O b true (V tab .rem U (.int .i64 5040) a)).bind λa=>(O b true (V tab .eql U a (.int .i64 0))).bind λa=>(cD b a (.bool false)).bind λa=>some (aH [a],h)
theorem MM(a:D)(h:J):R ze [a] h=Dd a h:=
 er Bd
def xD(a:D)(ds:List D)(b:J):Option bN:=
 (aT tab bM a).bind λc=>(V tab .lss U (Z 2 ds) c).bind λc=>S c
  ((aQ tab bM a (Z 2 ds)).bind λa=>(aC tab bB 0 a).bind λa=>(aA tab b bP a).bind λa=>(R zf [a] b).bind λa=>(fx .not a.1).bind λd=>S d
  (some (.ret,[.aB,.int .i64 6,(Z 2 ds),c,d],a.2))
  ((V tab .add U (Z 2 ds) (.int .i64 1)).bind λe=>some (.aS,[(Z 0 ds),(Z 1 ds),e,c,d],a.2)))
  (some ((.ext 0),[(Z 0 ds),(Z 1 ds),(Z 2 ds),c,(Z 4 ds)],b))
def xE(a:D)(b:List D)(c:D)(d:List D)(e:J):Option bN:=
 (V tab .gtr U (Z 0 d) (.int .i64 0)).bind λf=>(O f true (some (c:D))).bind λg=>(O f true (some (Z 0 d))).bind λh=>(O f true (V tab .sub U h (.int .i64 1))).bind λh=>(O f true (aQ tab bM g h)).bind λg=>(O f true (aC tab bB 0 g)).bind λg=>(O f true (aA tab e bP g)).bind λg=>(O f true (some a)).bind λa=>(O f true (some (Z 3 b))).bind λb=>(O f true (aQ tab bM a b)).bind λa=>(O f true (aC tab bB 0 a)).bind λa=>(O f true (aA tab e bP a)).bind λa=>(O f true (V tab .gtr bP g a)).bind λa=>(cD f a (.bool false)).bind λa=>S a
  ((V tab .sub U (Z 0 d) (.int .i64 1)).bind λb=>(aQ tab bM c b).bind λb=>(aA tab e bB b).bind λb=>(aQ tab bM c (Z 0 d)).bind λc=>((bT tab e bB c b).bind λb=>some ((.bU:D),b)).bind λb=>(V tab .sub U (Z 0 d) (.int .i64 1)).bind λc=>some (.aS,[c,a],b.2))
  (some ((.ext 4),[(Z 0 d),a],e))
def De(a:D)(b:List D)(c:J):Option bN:=
 (aT tab bM a).bind λd=>(V tab .lss U (Z 3 b) d).bind λd=>S d
  ((aT tab bM (Z 2 b)).bind λe=>(aQ tab bM a (Z 3 b)).bind λf=>(aA tab c bB f).bind λf=>(bJ tab bM 1 [0] [f]).bind λf=>(cW tab c bM bM (Z 2 b) f).bind λf=>((cA (xE a b f.1) [e,(Z 6 b)] f.2).bind λe=>some ((bQ 4 e.1),[(Z 0 e.2.1),(Z 1 e.2.1)],e.2.2)).bind λe=>toEnd e.1 ((aQ tab bM a (Z 3 b)).bind λg=>(aA tab e.2.2 bB g).bind λg=>(aQ tab bM f.1 (Z 0 e.2.1)).bind λh=>((bT tab e.2.2 bB h g).bind λg=>some ((.bU:D),g)).bind λg=>(V tab .gtr U (Z 0 e.2.1) (.int .i64 0)).bind λh=>(O h true (some f.1)).bind λi=>(O h true (some (Z 0 e.2.1))).bind λj=>(O h true (V tab .sub U j (.int .i64 1))).bind λj=>(O h true (aQ tab bM i j)).bind λi=>(O h true (aC tab bB 0 i)).bind λi=>(O h true (aA tab g.2 bP i)).bind λi=>(O h true (some a)).bind λa=>(O h true (some (Z 3 b))).bind λj=>(O h true (aQ tab bM a j)).bind λa=>(O h true (aC tab bB 0 a)).bind λa=>(O h true (aA tab g.2 bP a)).bind λa=>(O h true (V tab .eql bP i a)).bind λa=>(cD h a (.bool false)).bind λa=>S a
  (some (.ret,[.aB,.int .i64 7,f.1,(Z 3 b),(Z 0 e.2.1),d,(Z 1 e.2.1),a],g.2))
  ((V tab .add U (Z 3 b) (.int .i64 1)).bind λh=>some (.aS,[(Z 0 b),(Z 1 b),f.1,h,(Z 0 e.2.1),d,(Z 1 e.2.1),a],g.2))) λa=>toEnd (bQ 3 a) ((V tab .add U (Z 3 b) (.int .i64 1)).bind λa=>some (.aS,[(Z 0 b),(Z 1 b),f.1,a,(Z 0 e.2.1),d,(Z 1 e.2.1),(Z 7 b)],e.2.2)) λa=>some (a,[(Z 0 b),(Z 1 b),f.1,(Z 3 b),(Z 0 e.2.1),d,(Z 1 e.2.1),(Z 7 b)],e.2.2))
  (some ((.ext 2),[(Z 0 b),(Z 1 b),(Z 2 b),(Z 3 b),(Z 4 b),d,(Z 6 b),(Z 7 b)],c))
def xC(a:D)(h:J):Option (D × J):=
 (aT tab bM a).bind λb=>(V tab .gtr U b (.int .i64 32)).bind λb=>S b
  (scope h h (aH [.aB,.int .i64 4]))
  (((cA (xD a) [.aB,.int .i64 0,.int .i64 0,.any,.any] h).bind λb=>some ((bQ 0 b.1),[(Z 0 b.2.1),(Z 1 b.2.1),(Z 2 b.2.1),(Z 3 b.2.1),(Z 4 b.2.1)],b.2.2)).bind λb=>toEnd b.1 (((cA (De a) [(Z 0 b.2.1),(Z 1 b.2.1),.aB,.int .i64 0,.any,.any,.any,.any] b.2.2).bind λa=>some ((bQ 2 a.1),[(Z 0 a.2.1),(Z 1 a.2.1),(Z 2 a.2.1),(Z 3 a.2.1),(Z 4 a.2.1),(Z 5 a.2.1),(Z 6 a.2.1),(Z 7 a.2.1)],a.2.2)).bind λa=>toEnd a.1 (scope h a.2.2 (aH [(Z 2 a.2.1),.int .i64 0])) λc=>dD c (scope h a.2.2 (aH [(Z 0 a.2.1),(Z 1 a.2.1)]))) λa=>dD a (scope h b.2.2 (aH [(Z 0 b.2.1),(Z 1 b.2.1)])))
theorem MN(a:D)(h:J):R vM [a] h=xC a h:=
 er Be
def EI(a:D)(h:J):Option (D × J):=
 (R fN [a,.int .i64 8] h).bind λb=>(V tab .eql U b.1 (.int .i64 0)).bind λc=>S c
  ((bJ tab eE 3 [0,1,2] [.str [49],.str [50],.str [57]]).bind λc=>(R gD [a,c] b.2).bind λc=>(V tab .add bP (.str [50,48,50,54,45,48]) c.1).bind λd=>(V tab .add bP d (.str [45,49])).bind λd=>(bJ tab eE 2 [0,1] [.str [48],.str [53]]).bind λe=>(R gD [a,e] c.2).bind λc=>(V tab .add bP d c.1).bind λd=>(V tab .add bP d (.str [84,49,48,58,48,48,58,48])).bind λd=>(bJ tab eE 2 [0,1] [.str [49],.str [50]]).bind λe=>(R gD [a,e] c.2).bind λc=>(V tab .add bP d c.1).bind λd=>(V tab .add bP d (.str [90,32,108,101,118,101,108,61])).bind λd=>(bJ tab eE 2 [0,1] [.str [105,110,102,111],.str [119,97,114,110]]).bind λe=>(R gD [a,e] c.2).bind λc=>(V tab .add bP d c.1).bind λd=>(V tab .add bP d (.str [32,105,100,61])).bind λd=>(bJ tab eE 3 [0,1,2] [.str [55],.str [116,49],.str [116,50]]).bind λe=>(R gD [a,e] c.2).bind λc=>(V tab .add bP d c.1).bind λd=>some (aH [d],c.2))
  ((V tab .eql U b.1 (.int .i64 1)).bind λc=>S c
  ((bJ tab eE 3 [0,1,2] [.str [105,110,102,111],.str [119,97,114,110],.str [100,101,98,117,103]]).bind λc=>(R gD [a,c] b.2).bind λc=>(V tab .add bP (.str [108,101,118,101,108,61]) c.1).bind λd=>(V tab .add bP d (.str [32,117,115,101,114,61])).bind λd=>(bJ tab eE 2 [0,1] [.str [97,110,110],.str [98,111,98]]).bind λe=>(R gD [a,e] c.2).bind λc=>(V tab .add bP d c.1).bind λd=>(V tab .add bP d (.str [32,105,112,61])).bind λd=>(bJ tab eE 3 [0,1,2] [.str [49,48,46,50],.str [49,48,46,51],.str [55,46,55]]).bind λe=>(R gD [a,e] c.2).bind λc=>(V tab .add bP d c.1).bind λd=>some (aH [d],c.2))
  ((V tab .eql U b.1 (.int .i64 2)).bind λc=>S c
  ((bJ tab eE 2 [0,1] [.str [102],.str [103]]).bind λc=>(R gD [a,c] b.2).bind λc=>(V tab .add bP (.str [32,32,97,116,32]) c.1).bind λd=>(bJ tab eE 2 [0,1] [.str [40,49,41],.str [40,50,50,41]]).bind λe=>(R gD [a,e] c.2).bind λc=>(V tab .add bP d c.1).bind λd=>some (aH [d],c.2))
  ((V tab .eql U b.1 (.int .i64 3)).bind λc=>S c
  ((bJ tab eE 3 [0,1,2] [.str [97,110,110],.str [98,111,98],.str [101,118,101]]).bind λc=>(R gD [a,c] b.2).bind λc=>(V tab .add bP (.str [117,115,101,114,32]) c.1).bind λd=>(V tab .add bP d (.str [32,108,111,103,103,101,100,32])).bind λd=>(bJ tab eE 2 [0,1] [.str [105,110],.str [111,117,116]]).bind λe=>(R gD [a,e] c.2).bind λc=>(V tab .add bP d c.1).bind λd=>some (aH [d],c.2))
  ((V tab .eql U b.1 (.int .i64 4)).bind λc=>S c
  ((bJ tab eE 2 [0,1] [.str [105,110,102,111],.str [119,97,114,110]]).bind λc=>(R gD [a,c] b.2).bind λc=>(V tab .add bP (.str [123,34,108,101,118,101,108,34,58,32,34]) c.1).bind λd=>(V tab .add bP d (.str [34,44,32,34,110,34,58,32])).bind λd=>(bJ tab eE 3 [0,1,2] [.str [49],.str [45,50,48],.str [116,114,117,101]]).bind λe=>(R gD [a,e] c.2).bind λc=>(V tab .add bP d c.1).bind λd=>(V tab .add bP d (.str [125])).bind λd=>some (aH [d],c.2))
  ((V tab .eql U b.1 (.int .i64 5)).bind λc=>S c
  ((bJ tab eE 2 [0,1] [.str [49],.str [50]]).bind λc=>(R gD [a,c] b.2).bind λc=>(V tab .add bP (.str [74,97,110,32,49]) c.1).bind λd=>(V tab .add bP d (.str [32,49,48,58,48,48,58,48])).bind λd=>(bJ tab eE 2 [0,1] [.str [49],.str [50]]).bind λe=>(R gD [a,e] c.2).bind λc=>(V tab .add bP d c.1).bind λd=>(V tab .add bP d (.str [32])).bind λd=>(bJ tab eE 2 [0,1] [.str [111,107],.str [102,97,105,108,101,100]]).bind λe=>(R gD [a,e] c.2).bind λc=>(V tab .add bP d c.1).bind λd=>some (aH [d],c.2))
  ((R tJ [a,.int .i64 6] b.2).bind λa=>some (aH [a.1],a.2)))))))
theorem N0(a:D)(h:J):R wh [a] h=EI a h:=
 er Bf
def qQ(a:D × J)(b:D)(ds:List D)(c:J):Option bN:=
 (V tab .lss U (Z 2 ds) b).bind λb=>S b
  ((aQ tab j7 a.1 (Z 2 ds)).bind λa=>(aA tab c fE a).bind λa=>(R zp [a] c).bind λd=>(fx .not d.1).bind λe=>(O e true (some a)).bind λf=>(O e true (V tab .neq fE f (.int .u8 46))).bind λf=>(cD e f (.bool false)).bind λe=>S e
  (some (.ret,[.bool false,a,(Z 2 ds),b,e],d.2))
  ((V tab .add U (Z 2 ds) (.int .i64 1)).bind λf=>some (.aS,[(Z 0 ds),a,f,b,e],d.2)))
  (some ((.ext 0),[(Z 0 ds),(Z 1 ds),(Z 2 ds),b,(Z 4 ds)],c))
def qP(a:D)(h:J):Option (D × J):=
 (V tab .eql bP a (.str [])).bind λb=>(O b false (some a)).bind λc=>(O b false (aT tab bP c)).bind λc=>(O b false (V tab .gtr U c (.int .i64 32))).bind λc=>(cD b (.bool true) c).bind λb=>(O b false (some a)).bind λc=>(O b false (lE tab bP c (.int .i64 0))).bind λc=>(fA b false h (R zo [c] h)).bind λc=>(O b false (fx .not c.1)).bind λd=>(O b false (some d)).bind λd=>(O d true (some a)).bind λe=>(O d true (lE tab bP e (.int .i64 0))).bind λe=>(O d true (V tab .neq fE e (.int .u8 95))).bind λe=>(O b false (cD d e (.bool false))).bind λd=>(cD b (.bool true) d).bind λb=>S b
  (scope h c.2 (aH [.bool false]))
  ((J6 fE c.2 a).bind λa=>(aT tab j7 a.1).bind λb=>((cA (qQ a b) [.bool false,.any,.int .i64 0,.any,.any] a.2).bind λa=>some ((bQ 0 a.1),[(Z 0 a.2.1),(Z 1 a.2.1),(Z 2 a.2.1),(Z 3 a.2.1),(Z 4 a.2.1)],a.2.2)).bind λa=>toEnd a.1 (scope h a.2.2 (aH [.bool true])) λb=>dD b (scope h a.2.2 (aH [(Z 0 a.2.1)])))
theorem Nc(a:D)(h:J):R zl [a] h=qP a h:=
 er Bg
def xA(a:D)(h:J):Option (D × J):=
 (V tab .eql bM a (.aB)).bind λb=>S b
  (some (aH [.aB],h))
  ((bJ tab bM 0 [] []).bind λb=>(cW tab h bM bM b a).bind λa=>some (aH [a.1],a.2))
theorem MH(a:D)(h:J):R zc [a] h=xA a h:=
 er Bh
def xI(a b:D)(h:J):Option (D × J):=
 (aT tab bM a).bind λc=>(R vV [a,c,b] h).bind λa=>some (aH [],a.2)
theorem Gd(a b:D)(h:J):R tA [a,b] h=xI a b h:=
 er Bi
def DF(a b:D)(h:J):Option (D × J):=
 (ga a).bind λa=>(ga b).bind λb=>(aC tab bB 0 a).bind λa=>(aA tab h bP a).bind λa=>(aC tab bB 0 b).bind λb=>(aA tab h bP b).bind λb=>(R zm [a,b] h).bind λa=>some (aH [a.1],a.2)
theorem Nd(a b:D)(h:J):R qa [a,b] h=DF a b h:=
 er Bj
def DG(a b:D)(h:J):Option (D × J):=
 (R GS [a,b] h).bind λa=>some (aH [a.1],a.2)
theorem Nf(a b:D)(h:J):R zm [a,b] h=DG a b h:=
 er zK
def sx(a b c:D)(ds:List D)(d:J):Option bN:=
 (V tab .lss U (Z 2 ds) c).bind λc=>S c
  ((aQ tab bM a (Z 2 ds)).bind λa=>(aA tab d bB a).bind λa=>(gu R b [a] d).bind λa=>S a.1
  (some (.ret,[(Z 2 ds),(Z 2 ds),(Z 2 ds),c,a.1],a.2))
  ((V tab .add U (Z 2 ds) (.int .i64 1)).bind λb=>some (.aS,[(Z 0 ds),(Z 2 ds),b,c,a.1],a.2)))
  (some ((.ext 0),[(Z 0 ds),(Z 1 ds),(Z 2 ds),c,(Z 4 ds)],d))
def DH(a b:D)(h:J):Option (D × J):=
 (aT tab bM a).bind λc=>((cA (sx a b c) [.int .i64 0,.any,.int .i64 0,.any,.any] h).bind λa=>some ((bQ 0 a.1),[(Z 0 a.2.1),(Z 1 a.2.1),(Z 2 a.2.1),(Z 3 a.2.1),(Z 4 a.2.1)],a.2.2)).bind λa=>toEnd a.1 (some (aH [.int .i64 (-1)],a.2.2)) λb=>dD b (some (aH [(Z 0 a.2.1)],a.2.2))
theorem Ng(a b:D)(h:J):R zn [a,b] h=DH a b h:=
 er zL
def qO(a:D)(ds:List D)(b:J):Option bN:=
 (aT tab bP a).bind λc=>(V tab .lss U (Z 1 ds) c).bind λc=>S c
  ((lE tab bP a (Z 1 ds)).bind λd=>(R zg [d] b).bind λd=>(fx .not d.1).bind λe=>(O e true (some a)).bind λa=>(O e true (some (Z 1 ds))).bind λf=>(O e true (lE tab bP a f)).bind λa=>(O e true (V tab .neq fE a (.int .u8 46))).bind λa=>(cD e a (.bool false)).bind λa=>S a
  (some (.ret,[.bool false,(Z 1 ds),c,a],d.2))
  ((V tab .add U (Z 1 ds) (.int .i64 1)).bind λe=>some (.aS,[(Z 0 ds),e,c,a],d.2)))
  (some ((.ext 0),[(Z 0 ds),(Z 1 ds),c,(Z 3 ds)],b))
def qN(a:D)(h:J):Option (D × J):=
 (aT tab bP a).bind λb=>(V tab .lss U b (.int .i64 1)).bind λb=>(O b false (some a)).bind λc=>(O b false (aT tab bP c)).bind λc=>(O b false (V tab .gtr U c (.int .i64 32))).bind λc=>(cD b (.bool true) c).bind λb=>(O b false (some a)).bind λc=>(O b false (lE tab bP c (.int .i64 0))).bind λc=>(fA b false h (R vN [c] h)).bind λc=>(O b false (fx .not c.1)).bind λd=>(O b false (some d)).bind λd=>(O d true (some a)).bind λe=>(O d true (lE tab bP e (.int .i64 0))).bind λe=>(O d true (V tab .neq fE e (.int .u8 95))).bind λe=>(O b false (cD d e (.bool false))).bind λd=>(cD b (.bool true) d).bind λb=>S b
  (some (aH [.bool false],c.2))
  (((cA (qO a) [.bool false,.int .i64 0,.any,.any] c.2).bind λa=>some ((bQ 0 a.1),[(Z 0 a.2.1),(Z 1 a.2.1),(Z 2 a.2.1),(Z 3 a.2.1)],a.2.2)).bind λa=>toEnd a.1 (some (aH [.bool true],a.2.2)) λb=>dD b (some (aH [(Z 0 a.2.1)],a.2.2)))
theorem MP(a:D)(h:J):R zf [a] h=qN a h:=
 er zM
def DI(a:D)(h:J):Option (D × J):=
 (aQ tab xl (.aI mg) a).bind λa=>(aA tab h fE a).bind λa=>(V tab .and fE a (.int .u8 2)).bind λa=>(V tab .neq fE a (.int .u8 0)).bind λa=>some (aH [a],h)
theorem Nh(a:D)(h:J):R zo [a] h=DI a h:=
 er zN
def DJ(a:D)(h:J):Option (D × J):=
 (aQ tab xl (.aI mg) a).bind λb=>(aA tab h fE b).bind λb=>(V tab .and fE b (.int .u8 3)).bind λb=>(V tab .neq fE b (.int .u8 0)).bind λb=>(O b false (some a)).bind λa=>(O b false (V tab .eql fE a (.int .u8 95))).bind λa=>(cD b (.bool true) a).bind λa=>some (aH [a],h)
theorem Ni(a:D)(h:J):R zp [a] h=DJ a h:=
 er zO
def xK(a b c d:D)(ds:List D)(e:J):Option bN:=
 (V tab .leq U (Z 1 ds) b).bind λb=>S b
  ((R qb [a,(Z 0 ds),(Z 1 ds),c] e).bind λa=>(V tab .add U (Z 1 ds) d).bind λc=>some (.aS,[(Z 1 ds),c,b],a.2))
  (some ((.ext 0),[(Z 0 ds),(Z 1 ds),b],e))
def DK(a b c:D)(d:List D)(e:List D)(f:J):Option bN:=
 (V tab .leq U (Z 1 e) b).bind λb=>S b
  ((V tab .add U (Z 0 e) (Z 0 d)).bind λg=>(R oQ [a,(Z 0 e),g,(Z 1 e),c] f).bind λa=>(V tab .mul U (.int .i64 2) (Z 0 d)).bind λc=>(V tab .add U (Z 1 e) c).bind λc=>some (.aS,[(Z 1 e),c,b],a.2))
  (some ((.ext 4),[(Z 0 e),(Z 1 e),b],f))
def xL(a b c:D)(d:List D)(e:J):Option bN:=
 (V tab .lss U (Z 0 d) b).bind λf=>S f
  ((V tab .mul U (.int .i64 2) (Z 0 d)).bind λg=>((cA (DK a b c d) [.int .i64 0,g,(Z 5 d)] e).bind λg=>some ((bQ 4 g.1),[(Z 0 g.2.1),(Z 1 g.2.1),(Z 2 g.2.1)],g.2.2)).bind λg=>toEnd g.1 ((V tab .add U (Z 0 g.2.1) (Z 0 d)).bind λh=>(V tab .lss U h b).bind λi=>(S i
  ((R oQ [a,(Z 0 g.2.1),h,b,c] g.2.2).bind λa=>some (.aS,([]:List D),a.2))
  (some (.aS,([]:List D),g.2.2))).bind λa=>toEnd a.1 ((V tab .mul U (Z 0 d) (.int .i64 2)).bind λb=>some (.aS,[b,(Z 0 g.2.1),(Z 1 g.2.1),h,f,(Z 2 g.2.1),i],a.2.2)) λb=>some ((bQ 3 b),[(Z 0 d),(Z 0 g.2.1),(Z 1 g.2.1),h,f,(Z 2 g.2.1),i],a.2.2)) λa=>some ((bQ 3 a),[(Z 0 d),(Z 0 g.2.1),(Z 1 g.2.1),(Z 3 d),f,(Z 2 g.2.1),(Z 6 d)],g.2.2))
  (some ((.ext 2),[(Z 0 d),(Z 1 d),(Z 2 d),(Z 3 d),f,(Z 5 d),(Z 6 d)],e))
def xJ(a b c:D)(h:J):Option (D × J):=
 ((cA (xK a b c (.int .i64 20)) [.int .i64 0,.int .i64 20,.any] h).bind λd=>some ((bQ 0 d.1),[(Z 0 d.2.1),(Z 1 d.2.1),(Z 2 d.2.1)],d.2.2)).bind λd=>toEnd d.1 ((R qb [a,(Z 0 d.2.1),b,c] d.2.2).bind λe=>((cA (xL a b c) [.int .i64 20,(Z 0 d.2.1),(Z 1 d.2.1),.any,.any,.any,.any] e.2).bind λa=>some ((bQ 2 a.1),[(Z 0 a.2.1),(Z 1 a.2.1),(Z 2 a.2.1),(Z 3 a.2.1),(Z 4 a.2.1),(Z 5 a.2.1),(Z 6 a.2.1)],a.2.2)).bind λa=>dD a.1 (some (aH [],a.2.2))) λa=>dD a (some (aH [],d.2.2))
theorem Ge(a b c:D)(h:J):R vV [a,b,c] h=xJ a b c h:=
 er zQ
def DL(a b:D)(h:J):Option (D × J):=
 (R vW [a,b] h).bind λa=>some (aH [a.1],a.2)
theorem Nj(a b:D)(h:J):R GS [a,b] h=DL a b h:=
 er zR
def Df(a:D)(h:J):Option (D × J):=
 (V tab .geq fE a (.int .u8 97)).bind λb=>(O b true (some a)).bind λc=>(O b true (V tab .leq fE c (.int .u8 122))).bind λc=>(cD b c (.bool false)).bind λb=>(O b false (some a)).bind λc=>(O b false (V tab .geq fE c (.int .u8 65))).bind λc=>(O b false (some c)).bind λc=>(O c true (some a)).bind λa=>(O c true (V tab .leq fE a (.int .u8 90))).bind λa=>(O b false (cD c a (.bool false))).bind λa=>(cD b (.bool true) a).bind λa=>some (aH [a],h)
theorem MQ(a:D)(h:J):R vN [a] h=Df a h:=
 er zS
def Dg(a:D)(h:J):Option (D × J):=
 (R zh [a] h).bind λb=>(O b.1 false (some a)).bind λc=>(fA b.1 false b.2 (R vN [c] b.2)).bind λc=>(cD b.1 (.bool true) c.1).bind λb=>(O b false (some a)).bind λa=>(O b false (V tab .eql fE a (.int .u8 95))).bind λa=>(cD b (.bool true) a).bind λa=>some (aH [a],c.2)
theorem MR(a:D)(h:J):R zg [a] h=Dg a h:=
 er zT
end
noncomputable section
def xO(a b c:D)(d:List D)(e:J):Option bN:=
 (V tab .gtr U (Z 0 d) b).bind λb=>(O b true (some c)).bind λc=>(O b true (some a)).bind λf=>(O b true (some (Z 0 d))).bind λg=>(O b true (aQ tab bM f g)).bind λf=>(O b true (aA tab e bB f)).bind λf=>(O b true (some a)).bind λg=>(O b true (some (Z 0 d))).bind λh=>(O b true (V tab .sub U h (.int .i64 1))).bind λh=>(O b true (aQ tab bM g h)).bind λg=>(O b true (aA tab e bB g)).bind λg=>(fA b true e (gu R c [f,g] e)).bind λc=>(O b true (V tab .lss U c.1 (.int .i64 0))).bind λe=>(cD b e (.bool false)).bind λb=>S b
  ((V tab .sub U (Z 0 d) (.int .i64 1)).bind λe=>(V tab .sub U (Z 0 d) (.int .i64 1)).bind λf=>(aQ tab bM a f).bind λf=>(aA tab c.2 bB f).bind λf=>(aQ tab bM a (Z 0 d)).bind λg=>(aA tab c.2 bB g).bind λg=>(aQ tab bM a (Z 0 d)).bind λh=>((bT tab c.2 bB h f).bind λf=>some ((.bU:D),f)).bind λh=>(aQ tab bM a e).bind λa=>((bT tab h.2 bB a g).bind λf=>some ((.bU:D),f)).bind λa=>(V tab .sub U (Z 0 d) (.int .i64 1)).bind λe=>some (.aS,[e,b],a.2))
  (some ((.ext 2),[(Z 0 d),b],c.2))
def xN(a b c d:D)(ds:List D)(e:J):Option bN:=
 (V tab .lss U (Z 0 ds) c).bind λc=>S c
  (((cA (xO a b d) [(Z 0 ds),(Z 3 ds)] e).bind λa=>some ((bQ 2 a.1),[(Z 0 a.2.1),(Z 1 a.2.1)],a.2.2)).bind λa=>toEnd (bQ 1 a.1) ((V tab .add U (Z 0 ds) (.int .i64 1)).bind λb=>some (.aS,[b,(Z 0 a.2.1),c,(Z 1 a.2.1)],a.2.2)) λb=>some (b,[(Z 0 ds),(Z 0 a.2.1),c,(Z 1 a.2.1)],a.2.2))
  (some ((.ext 0),[(Z 0 ds),(Z 1 ds),c,(Z 3 ds)],e))
def xM(a b c d:D)(h:J):Option (D × J):=
 (V tab .add U b (.int .i64 1)).bind λe=>((cA (xN a b c d) [e,.any,.any,.any] h).bind λa=>some ((bQ 0 a.1),[(Z 0 a.2.1),(Z 1 a.2.1),(Z 2 a.2.1),(Z 3 a.2.1)],a.2.2)).bind λa=>dD a.1 (some (aH [],a.2.2))
theorem Gf(a b c d:D)(h:J):R qb [a,b,c,d] h=xM a b c d h:=
 er zU
def uQ(a b c:D)(ds:List D)(d:J):Option bN:=
 (V tab .lss U (Z 0 ds) (Z 1 ds)).bind λe=>S e
  ((V tab .add U (Z 0 ds) (Z 1 ds)).bind λf=>(kf tab U kI f).bind λf=>(V tab .shr kI f (.int .u64 1)).bind λf=>(kf tab kI U f).bind λf=>(V tab .sub U c f).bind λc=>(aQ tab bM a c).bind λc=>(aA tab d bB c).bind λc=>(aQ tab bM a f).bind λa=>(aA tab d bB a).bind λa=>(gu R b [c,a] d).bind λa=>(V tab .lss U a.1 (.int .i64 0)).bind λb=>(fx .not b).bind λb=>(S b
  ((V tab .add U f (.int .i64 1)).bind λc=>some (.aS,[c,(Z 1 ds)],a.2))
  (some (.aS,[(Z 0 ds),f],a.2))).bind λa=>some ((bQ 9 a.1),[(Z 0 a.2.1),(Z 1 a.2.1),f,e,b],a.2.2))
  (some ((.ext 8),[(Z 0 ds),(Z 1 ds),(Z 2 ds),e,(Z 4 ds)],d))
def sA(a b c d e:D)(f:J):Option (D × J):=
  (V tab .add U b d).bind λg=>(kf tab U kI g).bind λg=>(V tab .shr kI g (.int .u64 1)).bind λg=>(kf tab kI U g).bind λg=>(V tab .add U g c).bind λh=>(V tab .gtr U c g).bind λi=>(S i
   ((V tab .sub U h d).bind λi=>some (.aS,[i,g],f))
   (some (.aS,[b,c],f))).bind λf=>toEnd f.1 ((V tab .sub U h (.int .i64 1)).bind λi=>((cA (uQ a e i) [(Z 0 f.2.1),(Z 1 f.2.1),.any,.any,.any] f.2.2).bind λi=>some ((bQ 8 i.1),[(Z 0 i.2.1),(Z 1 i.2.1),(Z 2 i.2.1),(Z 3 i.2.1),(Z 4 i.2.1)],i.2.2)).bind λi=>toEnd i.1 ((V tab .sub U h (Z 0 i.2.1)).bind λh=>(V tab .lss U (Z 0 i.2.1) c).bind λj=>(O j true (some c)).bind λk=>(O j true (some h)).bind λl=>(O j true (V tab .lss U k l)).bind λk=>(cD j k (.bool false)).bind λj=>(S j
   ((R zq [a,(Z 0 i.2.1),c,h,e] i.2.2).bind λc=>some (.aS,([]:List D),c.2))
   (some (.aS,([]:List D),i.2.2))).bind λc=>toEnd c.1 ((V tab .lss U b (Z 0 i.2.1)).bind λj=>(O j true (some (Z 0 i.2.1))).bind λk=>(O j true (some g)).bind λl=>(O j true (V tab .lss U k l)).bind λk=>(cD j k (.bool false)).bind λj=>(S j
   ((R oQ [a,b,(Z 0 i.2.1),g,e] c.2.2).bind λb=>some (.aS,([]:List D),b.2))
   (some (.aS,([]:List D),c.2.2))).bind λb=>toEnd b.1 ((V tab .lss U g h).bind λj=>(O j true (some h)).bind λk=>(O j true (some d)).bind λl=>(O j true (V tab .lss U k l)).bind λk=>(cD j k (.bool false)).bind λj=>(S j
   ((R oQ [a,g,h,d,e] b.2.2).bind λa=>some (.aS,([]:List D),a.2))
   (some (.aS,([]:List D),b.2.2))).bind λa=>dD a.1 (some (aH [],a.2.2))) λa=>dD a (some (aH [],b.2.2))) λa=>dD a (some (aH [],c.2.2))) λa=>dD a (some (aH [],i.2.2))) λa=>dD a (some (aH [],f.2.2))
def xP(a b c:D)(d:List D)(e:J):Option bN:=
 (V tab .lss U (Z 0 d) (Z 1 d)).bind λf=>S f
  ((V tab .add U (Z 0 d) (Z 1 d)).bind λg=>(kf tab U kI g).bind λg=>(V tab .shr kI g (.int .u64 1)).bind λg=>(kf tab kI U g).bind λg=>(aQ tab bM a b).bind λb=>(aA tab e bB b).bind λb=>(aQ tab bM a g).bind λa=>(aA tab e bB a).bind λa=>(gu R c [b,a] e).bind λa=>(V tab .lss U a.1 (.int .i64 0)).bind λb=>(fx .not b).bind λb=>(S b
  ((V tab .add U g (.int .i64 1)).bind λc=>some (.aS,[c,(Z 1 d)],a.2))
  (some (.aS,[(Z 0 d),g],a.2))).bind λa=>some ((bQ 5 a.1),[(Z 0 a.2.1),(Z 1 a.2.1),g,f,b],a.2.2))
  (some ((.ext 4),[(Z 0 d),(Z 1 d),(Z 2 d),f,(Z 4 d)],e))
def xQ(a:D)(b:bN)(c:List D)(d:J):Option bN:=
 (V tab .gtr U (Z 0 c) (Z 0 b.2.1)).bind λb=>S b
  ((V tab .sub U (Z 0 c) (.int .i64 1)).bind λe=>(V tab .sub U (Z 0 c) (.int .i64 1)).bind λf=>(aQ tab bM a f).bind λf=>(aA tab d bB f).bind λf=>(aQ tab bM a (Z 0 c)).bind λg=>(aA tab d bB g).bind λg=>(aQ tab bM a (Z 0 c)).bind λh=>((bT tab d bB h f).bind λf=>some ((.bU:D),f)).bind λh=>(aQ tab bM a e).bind λa=>((bT tab h.2 bB a g).bind λf=>some ((.bU:D),f)).bind λa=>(V tab .sub U (Z 0 c) (.int .i64 1)).bind λe=>some (.aS,[e,b],a.2))
  (some ((.ext 6),[(Z 0 c),b],d))
def sy(a b c d e:D)(f:J):Option (D × J):=
  (V tab .sub U d c).bind λg=>(V tab .eql U g (.int .i64 1)).bind λg=>S g
   (((cA (xP a c e) [b,c,.any,.any,.any] f).bind λg=>some ((bQ 4 g.1),[(Z 0 g.2.1),(Z 1 g.2.1),(Z 2 g.2.1),(Z 3 g.2.1),(Z 4 g.2.1)],g.2.2)).bind λg=>toEnd g.1 (((cA (xQ a g) [c,.any] g.2.2).bind λh=>some ((bQ 6 h.1),[(Z 0 h.2.1),(Z 1 h.2.1)],h.2.2)).bind λh=>toEnd h.1 (some (aH [],h.2.2)) λi=>toEnd i (sA a b c d e h.2.2) λi=>dD i (some (aH [],h.2.2))) λh=>toEnd h (sA a b c d e g.2.2) λh=>dD h (some (aH [],g.2.2)))
   (sA a b c d e f)
def xR(a b c:D)(d:List D)(e:J):Option bN:=
 (V tab .lss U (Z 0 d) (Z 1 d)).bind λf=>S f
  ((V tab .add U (Z 0 d) (Z 1 d)).bind λg=>(kf tab U kI g).bind λg=>(V tab .shr kI g (.int .u64 1)).bind λg=>(kf tab kI U g).bind λg=>(aQ tab bM a g).bind λh=>(aA tab e bB h).bind λh=>(aQ tab bM a b).bind λa=>(aA tab e bB a).bind λa=>(gu R c [h,a] e).bind λa=>(V tab .lss U a.1 (.int .i64 0)).bind λb=>(S b
  ((V tab .add U g (.int .i64 1)).bind λc=>some (.aS,[c,(Z 1 d)],a.2))
  (some (.aS,[(Z 0 d),g],a.2))).bind λa=>some ((bQ 1 a.1),[(Z 0 a.2.1),(Z 1 a.2.1),g,f,b],a.2.2))
  (some ((.ext 0),[(Z 0 d),(Z 1 d),(Z 2 d),f,(Z 4 d)],e))
def xS(a:D)(b:bN)(c:List D)(d:J):Option bN:=
 (V tab .sub U (Z 0 b.2.1) (.int .i64 1)).bind λb=>(V tab .lss U (Z 0 c) b).bind λb=>S b
  ((V tab .add U (Z 0 c) (.int .i64 1)).bind λe=>(V tab .add U (Z 0 c) (.int .i64 1)).bind λf=>(aQ tab bM a f).bind λf=>(aA tab d bB f).bind λf=>(aQ tab bM a (Z 0 c)).bind λg=>(aA tab d bB g).bind λg=>(aQ tab bM a (Z 0 c)).bind λh=>((bT tab d bB h f).bind λf=>some ((.bU:D),f)).bind λh=>(aQ tab bM a e).bind λa=>((bT tab h.2 bB a g).bind λf=>some ((.bU:D),f)).bind λa=>(V tab .add U (Z 0 c) (.int .i64 1)).bind λe=>some (.aS,[e,b],a.2))
  (some ((.ext 2),[(Z 0 c),b],d))
def uP(a b c d e:D)(h:J):Option (D × J):=
 (V tab .sub U c b).bind λf=>(V tab .eql U f (.int .i64 1)).bind λf=>S f
  (((cA (xR a b e) [c,d,.any,.any,.any] h).bind λf=>some ((bQ 0 f.1),[(Z 0 f.2.1),(Z 1 f.2.1),(Z 2 f.2.1),(Z 3 f.2.1),(Z 4 f.2.1)],f.2.2)).bind λf=>toEnd f.1 (((cA (xS a f) [b,.any] f.2.2).bind λg=>some ((bQ 2 g.1),[(Z 0 g.2.1),(Z 1 g.2.1)],g.2.2)).bind λg=>toEnd g.1 (some (aH [],g.2.2)) λi=>toEnd i (sy a b c d e g.2.2) λi=>dD i (some (aH [],g.2.2))) λg=>toEnd g (sy a b c d e f.2.2) λg=>dD g (some (aH [],f.2.2)))
  (sy a b c d e h)
theorem yW(a b c d e:D)(h:J):R oQ [a,b,c,d,e] h=uP a b c d e h:=
 er zV
def Dh(a:D)(h:J):Option (D × J):=
 (V tab .geq fE a (.int .u8 48)).bind λb=>(O b true (some a)).bind λa=>(O b true (V tab .leq fE a (.int .u8 57))).bind λa=>(cD b a (.bool false)).bind λa=>some (aH [a],h)
theorem MS(a:D)(h:J):R zh [a] h=Dh a h:=
 er zW
def DN(a b c:D)(ds:List D)(d:J):Option bN:=
 (V tab .neq U (Z 0 ds) (Z 1 ds)).bind λe=>S e
  ((V tab .gtr U (Z 0 ds) (Z 1 ds)).bind λf=>(S f
  ((V tab .sub U b (Z 0 ds)).bind λg=>(R tB [a,g,b,(Z 1 ds),c] d).bind λg=>(V tab .sub U (Z 0 ds) (Z 1 ds)).bind λh=>some (.aS,[h,(Z 1 ds)],g.2))
  ((V tab .sub U b (Z 0 ds)).bind λg=>(V tab .add U b (Z 1 ds)).bind λb=>(V tab .sub U b (Z 0 ds)).bind λb=>(R tB [a,g,b,(Z 0 ds),c] d).bind λa=>(V tab .sub U (Z 1 ds) (Z 0 ds)).bind λb=>some (.aS,[(Z 0 ds),b],a.2))).bind λa=>some ((bQ 1 a.1),[(Z 0 a.2.1),(Z 1 a.2.1),e,f],a.2.2))
  (some ((.ext 0),[(Z 0 ds),(Z 1 ds),e,(Z 3 ds)],d))
def DM(a b c d e:D)(h:J):Option (D × J):=
 (V tab .sub U c b).bind λb=>(V tab .sub U d c).bind λd=>((cA (DN a c e) [b,d,.any,.any] h).bind λb=>some ((bQ 0 b.1),[(Z 0 b.2.1),(Z 1 b.2.1),(Z 2 b.2.1),(Z 3 b.2.1)],b.2.2)).bind λb=>toEnd b.1 ((V tab .sub U c (Z 0 b.2.1)).bind λd=>(R tB [a,d,c,(Z 0 b.2.1),e] b.2.2).bind λa=>some (aH [],a.2)) λa=>dD a (some (aH [],b.2.2))
theorem Nk(a b c d e:D)(h:J):R zq [a,b,c,d,e] h=DM a b c d e h:=
 er zX
def DP(a b c d:D)(ds:List D)(e:J):Option bN:=
 (V tab .lss U (Z 0 ds) d).bind λd=>S d
  ((V tab .add U b (Z 0 ds)).bind λf=>(V tab .add U c (Z 0 ds)).bind λg=>(V tab .add U c (Z 0 ds)).bind λc=>(aQ tab bM a c).bind λc=>(aA tab e bB c).bind λc=>(V tab .add U b (Z 0 ds)).bind λb=>(aQ tab bM a b).bind λb=>(aA tab e bB b).bind λb=>(aQ tab bM a f).bind λf=>((bT tab e bB f c).bind λc=>some ((.bU:D),c)).bind λf=>(aQ tab bM a g).bind λa=>((bT tab f.2 bB a b).bind λc=>some ((.bU:D),c)).bind λa=>(V tab .add U (Z 0 ds) (.int .i64 1)).bind λb=>some (.aS,[b,d],a.2))
  (some ((.ext 0),[(Z 0 ds),d],e))
def DO(a b c d e:D)(h:J):Option (D × J):=
 ((cA (DP a b c d) [.int .i64 0,.any] h).bind λa=>some ((bQ 0 a.1),[(Z 0 a.2.1),(Z 1 a.2.1)],a.2.2)).bind λa=>dD a.1 (some (aH [],a.2.2))
theorem Nl(a b c d e:D)(h:J):R tB [a,b,c,d,e] h=DO a b c d e h:=
 er zZ
def D9(a b c:D)(h:J):Option (D × J):=
 (hd tab a).bind λd=>(aC tab ff 0 d).bind λd=>(aA tab h aW d).bind λd=>(aQ tab aW d b).bind λb=>(aA tab h U b).bind λb=>(hd tab a).bind λd=>(aC tab ff 0 d).bind λd=>(aA tab h aW d).bind λd=>(aQ tab aW d c).bind λc=>(aA tab h U c).bind λc=>(hd tab a).bind λd=>(aC tab ff 1 d).bind λd=>(aA tab h aW d).bind λd=>(aQ tab aW d c).bind λd=>(aA tab h U d).bind λd=>(hd tab a).bind λa=>(aC tab ff 1 a).bind λa=>(aA tab h aW a).bind λa=>(aQ tab aW a b).bind λa=>(aA tab h U a).bind λa=>(R wi [d,a] h).bind λa=>(R wi [b,c] a.2).bind λb=>(bJ tab aW 2 [0,1] [a.1,b.1]).bind λa=>(R zz [a] b.2).bind λa=>(V tab .lss U a.1 (.int .i64 0)).bind λb=>some (aH [b],a.2)
theorem NC(a b c:D)(h:J):R zu [a,b,c] h=D9 a b c h:=
 er z6
def Ea(a:D)(h:J):Option (D × J):=
 (hd tab a).bind λb=>(aC tab ff 0 b).bind λb=>(aA tab h aW b).bind λb=>(aT tab aW b).bind λb=>(V tab .sub U b (.int .i64 1)).bind λb=>(hd tab a).bind λc=>(aC tab ff 0 c).bind λc=>(aA tab h aW c).bind λc=>(aQ tab aW c b).bind λc=>(aA tab h U c).bind λc=>(hd tab a).bind λd=>(aC tab ff 0 d).bind λd=>(aA tab h aW d).bind λd=>(gj tab aW false true false [d,b]).bind λb=>(hd tab a).bind λa=>(aC tab ff 0 a).bind λa=>((bT tab h aW a b).bind λa=>some ((.bU:D),a)).bind λa=>(some (.iface U c:D)).bind λb=>some (aH [b],a.2)
theorem ND(a:D)(h:J):R v8 [a] h=Ea a h:=
 er z7
def Eb(a b:D)(h:J):Option (D × J):=
 (hd tab a).bind λc=>(aC tab ff 0 c).bind λc=>(aA tab h aW c).bind λc=>(oI U b).bind λb=>(bJ tab aW 1 [0] [b]).bind λb=>(cW tab h aW aW c b).bind λb=>(hd tab a).bind λa=>(aC tab ff 0 a).bind λa=>((bT tab b.2 aW a b.1).bind λa=>some ((.bU:D),a)).bind λa=>some (aH [],a.2)
theorem NF(a b:D)(h:J):R wa [a,b] h=Eb a b h:=
 er z8
def Ec(a b c:D)(h:J):Option (D × J):=
 (hd tab a).bind λd=>(aC tab ff 0 d).bind λd=>(aA tab h aW d).bind λd=>(hd tab a).bind λe=>(aC tab ff 0 e).bind λe=>(aA tab h aW e).bind λe=>(hd tab a).bind λf=>(aC tab ff 0 f).bind λf=>(aA tab h aW f).bind λf=>(aQ tab aW f c).bind λf=>(aA tab h U f).bind λf=>(hd tab a).bind λa=>(aC tab ff 0 a).bind λa=>(aA tab h aW a).bind λa=>(aQ tab aW a b).bind λa=>(aA tab h U a).bind λa=>(aQ tab aW d b).bind λb=>((bT tab h U b f).bind λb=>some ((.bU:D),b)).bind λd=>(aQ tab aW e c).bind λc=>((bT tab d.2 U c a).bind λb=>some ((.bU:D),b)).bind λa=>some (aH [],a.2)
theorem NG(a b c:D)(h:J):R tE [a,b,c] h=Ec a b c h:=
 er Ab
def sB(a b c:D)(ds:List D)(d:J):Option bN:=
 (V tab .lss U (Z 2 ds) c).bind λc=>S c
  ((aQ tab aW b (Z 2 ds)).bind λb=>(aA tab d U b).bind λb=>(V tab .neq U b a).bind λa=>S a
  (some (.ret,[b,b,(Z 2 ds),c,a],d))
  ((V tab .add U (Z 2 ds) (.int .i64 1)).bind λe=>some (.aS,[(Z 0 ds),b,e,c,a],d)))
  (some ((.ext 0),[(Z 0 ds),(Z 1 ds),(Z 2 ds),c,(Z 4 ds)],d))
def EM(a:D)(h:J):Option (D × J):=
 (aT tab aW a).bind λb=>((cA (sB (.int .i64 0) a b) [.int .i64 0,.any,.int .i64 0,.any,.any] h).bind λa=>some ((bQ 0 a.1),[(Z 0 a.2.1),(Z 1 a.2.1),(Z 2 a.2.1),(Z 3 a.2.1),(Z 4 a.2.1)],a.2.2)).bind λa=>toEnd a.1 (some (aH [.int .i64 0],a.2.2)) λb=>dD b (some (aH [(Z 0 a.2.1)],a.2.2))
theorem N3(a:D)(h:J):R zz [a] h=EM a h:=
 er Ac
end
noncomputable def G9:gp:=⟨Tryz.f19.body.getD .skip,Tryz.f19.results.toList,⟨107,[0,1,2,6,7,8,9,10,11,12,14,15,16,32,49,63,65,81,97],[91],[]⟩,true⟩
theorem OZ:cG Tryz.prog 19 G9 :=.of Tryz.func19 (by kernel_rfl) (by kernel_rfl) (by kernel_rfl) Tryz.call19
noncomputable def oq(n r g k:D)(a:List D)(i:J):Option bN:=
 (aT tab aV (Z 0 a)).bind λs=>(V tab .lss U s r).bind λc=>(O c true (some (g:D))).bind λt=>(fA c true i (R tD [t] i)).bind λe=>(O c true (V tab .gtr U e.1 (.int .i64 0))).bind λu=>(cD c u (.bool false)).bind λh=>S h
  ((some (.iface kq g:D)).bind λv=>(R zt [v] e.2).bind λf=>(oI U f.1).bind λd=>(aQ tab aV n d).bind λw=>(aA tab f.2 aF w).bind λx=>(bJ tab aV 1 [0] [x]).bind λy=>(cW tab f.2 aV aV (Z 0 a) y).bind λb=>(aQ tab aW k d).bind λz=>(aA tab b.2 U z).bind λA=>(V tab .geq U A (.int .i64 0)).bind λl=>(S l
  ((some (.iface kq g:D)).bind λB=>(aQ tab aW k d).bind λo=>(aA tab b.2 U o).bind λp=>(some (.iface U p:D)).bind λq=>(R vY [B,q] b.2).bind λm=>some (.aS,([]:List D),m.2))
  (some (.aS,([]:List D),b.2))).bind λj=>some ((bQ 5 j.1),[b.1,d,h,l],j.2.2))
  (some ((.ext 4),[(Z 0 a),(Z 1 a),h,(Z 3 a)],e.2))
noncomputable def sD(o e:D)(i:List D)(c:J)(g:Mp)(d:Ex→List D→J→Mp→Option Unit):Option Unit:=
 uc g e λk b=>(eZ 0 k).bind λa=>S a
  (ua b e λl h=>(eZ 1 l).bind λf=>(some (.iface kq o:D)).bind λm=>(some (.iface U f:D)).bind λn=>(R vY [m,n] c).bind λj=>d .aS [f,a] j.2 h)
  (d (.ext 2) [(Z 0 i),a] c b)
noncomputable def uX(j m n:D)(ds:List D)(i:J)(h:Mp)(k:Ex→List D→J→Mp→Option Unit):Option Unit:=
 (V tab .geq U (Z 0 ds) (.int .i64 0)).bind λc=>S c
  ((aQ tab aW m (Z 0 ds)).bind λs=>((bT tab i U s (.int .i64 (-1))).bind λf=>some ((.bU:D),f)).bind λg=>(aQ tab aV j (Z 0 ds)).bind λt=>(aC tab aF 1 t).bind λu=>(aC tab aG 1 u).bind λv=>(aA tab g.2 U v).bind λw=>ub h n w true λl e=>(eZ 0 l).bind λd=>(eZ 1 l).bind λa=>(S a
  ((aQ tab aW m (Z 0 ds)).bind λx=>((bT tab g.2 U x d).bind λf=>some ((.bU:D),f)).bind λp=>some (.aS,([]:List D),p.2))
  (some (.aS,([]:List D),g.2))).bind λb=>toEnd b.1 ((aQ tab aV j (Z 0 ds)).bind λy=>(aC tab aF 1 y).bind λz=>(aC tab aG 1 z).bind λA=>(aA tab b.2.2 U A).bind λB=>r4 e n B (Z 0 ds) λF o=>(V tab .sub U (Z 0 ds) (.int .i64 1)).bind λq=>k .aS [q,d,a,c,a] b.2.2 o) λC=>toEnd (bQ 1 C) ((V tab .sub U (Z 0 ds) (.int .i64 1)).bind λr=>k .aS [r,d,a,c,a] b.2.2 e) λE=>k E [(Z 0 ds),d,a,c,a] b.2.2 e)
  (k (.ext 0) [(Z 0 ds),(Z 1 ds),(Z 2 ds),c,(Z 4 ds)] i h)
noncomputable def sC(b q r:D)(h:J)(c:D→J→Option Unit):Option Unit:=
 (R ni [q] h).bind λj=>(aT tab aV b).bind λs=>(cW tab j.2 aW U j.1 s).bind λk=>(eX tab ff [1] [k.1]).bind λt=>(py ff 2 k.2 t).bind λe=>(aT tab aV b).bind λl=>(p4 tab e.2 aW l l).bind λf=>wK M0 λm n=>(aT tab aV b).bind λu=>(V tab .sub U u (.int .i64 1)).bind λv=>pa (uX b f.1 m) [v,.any,.any,.any,.any] f.2 n λx E g o=>toEnd (bQ 0 x) (ud o m λw p=>pa (sD e.1 w) [.any,.any] g p λz F i C=>toEnd (bQ 2 z) (((cA (oq b r e.1 f.1) [.aB,.any,.any,.any] i).bind λa=>some ((bQ 4 a.1),[(Z 0 a.2.1),(Z 1 a.2.1),(Z 2 a.2.1),(Z 3 a.2.1)],a.2.2)).bind λd=>toEnd d.1 (c (aH [(Z 0 d.2.1)]) d.2.2) λB=>dD B (c (aH [.aB]) d.2.2)) λA=>dD A (c (aH [.aB]) i)) λy=>dD y (c (aH [.aB]) g)
abbrev JS:Nat:=77
noncomputable abbrev Ha:gp:=G9
theorem Qj(b c d:D)(h:J)(a:D→J→Option Unit):mF X R cA JS Ha [b,c,d] h a=sC b c d h a:=by kernel_rfl
theorem Tu:nL Tryz.prog 77 3:=⟨by kernel_rfl,by kernel_rfl,λa=>by kernel_rfl⟩
abbrev zw:Nat:=3
abbrev zr:Nat:=4
noncomputable def i3:gp:=⟨Tryz.f3.body.getD .skip,Tryz.f3.results.toList,⟨250,[0,1,2,3,7,8,9,10,11,12,13,16,18,19,20,21,22,23,24,26,28,29,30,31,32,33,34,36,48,69,70,71,72,83,87,94,104,105,106,107,142,148,149,150,151,163,168,169,170,171,207,213],[7,18,69,96,103,148,168],[229,232]⟩,true⟩
noncomputable def i4:gp:=⟨Tryz.f4.body.getD .skip,Tryz.f4.results.toList,⟨39,[0,1,2],[9,10],[]⟩,false⟩
noncomputable def zC:List (Nat × gp):=[(3,i3),(4,i4)]
noncomputable def qT:FuncId→Option gp:=tK zC
theorem GP:cG Tryz.prog 3 i3 :=.of Tryz.func3 (by kernel_rfl) (by kernel_rfl) (by kernel_rfl) Tryz.call3
theorem Pj:cG Tryz.prog 4 i4 :=.of Tryz.func4 (by kernel_rfl) (by kernel_rfl) (by kernel_rfl) Tryz.call4
theorem Qa:uW Tryz.prog zC:=⟨GP,Pj,trivial⟩
noncomputable def su:dP:=λa args b=>if a=rL then rq args b else if a=rM then rj args b else R a args b
noncomputable def X1:Cx:=⟨tab,gl,su⟩
noncomputable def R1:dP:=run X1 qT
theorem Gs(fi:gp){f:FuncId}{args:List D}{h:J}{x:Option (D × J)}(a:qT f=some fi)(b:wo X1 R1 cA fi args h=x):R1 f args h=x:=(Jf a args h).trans b
theorem Kc(args:List D)(h:J):R1 rL args h=rq args h:=(uv (X:=X1) (F:=qT) (by kernel_rfl) _ _).trans (by simp only[X1,su,aJ,aL])
theorem WE(args:List D)(h:J):R1 rM args h=rj args h:=(uv (X:=X1) (F:=qT) (by kernel_rfl) _ _).trans (by simp only[X1,su,show ¬(rM=rL) by decide,aJ,aL])
theorem r1(f:Nat)(a:qT f=none)(b:f≠rL)(c:f≠rM)(args:List D)(h:J):R1 f args h=R f args h:=(uv (X:=X1) (F:=qT) a _ _).trans (by simp only[X1,su,b,c,aL])
theorem T1(args:List D)(h:J):R1 rG args h=R rG args h:=r1 _ (by kernel_rfl) (by decide) (by decide) _ _
theorem T4(args:List D)(h:J):R1 nh args h=R nh args h:=r1 _ (by kernel_rfl) (by decide) (by decide) _ _
theorem T3(args:List D)(h:J):R1 rJ args h=R rJ args h:=r1 _ (by kernel_rfl) (by decide) (by decide) _ _
theorem B8(args:List D)(h:J):R1 fN args h=R fN args h:=r1 _ (by kernel_rfl) (by decide) (by decide) _ _
theorem B6(args:List D)(h:J):R1 oS args h=R oS args h:=r1 _ (by kernel_rfl) (by decide) (by decide) _ _
theorem B7(args:List D)(h:J):R1 oU args h=R oU args h:=r1 _ (by kernel_rfl) (by decide) (by decide) _ _
theorem T8(args:List D)(h:J):R1 tF args h=R tF args h:=r1 _ (by kernel_rfl) (by decide) (by decide) _ _
theorem Ua(args:List D)(h:J):R1 tH args h=R tH args h:=r1 _ (by kernel_rfl) (by decide) (by decide) _ _
theorem IX(args:List D)(h:J):R1 oR args h=R oR args h:=r1 _ (by kernel_rfl) (by decide) (by decide) _ _
theorem T2(args:List D)(h:J):R1 oP args h=R oP args h:=r1 _ (by kernel_rfl) (by decide) (by decide) _ _
theorem T7(args:List D)(h:J):R1 nV args h=R nV args h:=r1 _ (by kernel_rfl) (by decide) (by decide) _ _
theorem Ub(args:List D)(h:J):R1 nX args h=R nX args h:=r1 _ (by kernel_rfl) (by decide) (by decide) _ _
theorem B5(args:List D)(h:J):R1 qc args h=R qc args h:=r1 _ (by kernel_rfl) (by decide) (by decide) _ _
theorem IY(args:List D)(h:J):R1 rK args h=R rK args h:=r1 _ (by kernel_rfl) (by decide) (by decide) _ _
theorem Uc(args:List D)(h:J):R1 rP args h=R rP args h:=r1 _ (by kernel_rfl) (by decide) (by decide) _ _
theorem IZ(args:List D)(h:J):R1 qe args h=R qe args h:=r1 _ (by kernel_rfl) (by decide) (by decide) _ _
theorem T9(args:List D)(h:J):R1 rN args h=R rN args h:=r1 _ (by kernel_rfl) (by decide) (by decide) _ _
theorem Ud(args:List D)(h:J):R1 rQ args h=R rQ args h:=r1 _ (by kernel_rfl) (by decide) (by decide) _ _
theorem T5(args:List D)(h:J):R1 tC args h=R tC args h:=r1 _ (by kernel_rfl) (by decide) (by decide) _ _
theorem T6(args:List D)(h:J):R1 qd args h=R qd args h:=r1 _ (by kernel_rfl) (by decide) (by decide) _ _
noncomputable section
def x3(a b c:D)(d:D × J)(e:D)(f:List D)(g:J):Option bN:=
 (V tab .lss U (Z 8 f) e).bind λe=>S e
  ((aQ tab aV d.1 (Z 8 f)).bind λd=>(aA tab g aF d).bind λd=>(gY 11 d).bind λd=>(aA tab g aF d).bind λh=>(R1 nV [a,b,h,.int .i64 3,c] g).bind λh=>(eZ 0 h.1).bind λi=>(eZ 1 h.1).bind λj=>(eZ 2 h.1).bind λk=>(aA tab h.2 aF d).bind λl=>(R1 nX [a,b,l,.int .i64 3,c] h.2).bind λa=>(eZ 0 a.1).bind λb=>(eZ 1 a.1).bind λc=>(eZ 2 a.1).bind λh=>(V tab .neq iH k h).bind λl=>(O l false (some i)).bind λm=>(O l false (some b)).bind λn=>(fA l false a.2 (R1 qc [m,n] a.2)).bind λa=>(O l false (fx .not a.1)).bind λm=>(cD l (.bool true) m).bind λl=>(O l false (some j)).bind λm=>(O l false (some c)).bind λn=>(fA l false a.2 (R1 rK [m,n] a.2)).bind λa=>(O l false (fx .not a.1)).bind λm=>(cD l (.bool true) m).bind λl=>S l
  (some (.ret,[.bool false,d,i,j,k,b,c,h,(Z 8 f),e,l],a.2))
  ((V tab .add U (Z 8 f) (.int .i64 1)).bind λm=>some (.aS,[(Z 0 f),d,i,j,k,b,c,h,m,e,l],a.2)))
  (some ((.ext 2),[(Z 0 f),(Z 1 f),(Z 2 f),(Z 3 f),(Z 4 f),(Z 5 f),(Z 6 f),(Z 7 f),(Z 8 f),e,(Z 10 f)],g))
def xZ(a b c d e f g:D)(ds:List D)(h:J):Option bN:=
 (V tab .lss U (Z 9 ds) g).bind λg=>S g
  (((aQ tab aW f (Z 9 ds)).bind λf=>(aA tab h U f).bind λf=>(R1 oS [c,d,f] h).bind λi=>(R1 oU [c,d,f] i.2).bind λj=>(V tab .neq iW i.1 j.1).bind λi=>S i
  (some (.ret,[.bool false,f,(Z 2 ds),(Z 3 ds),(Z 4 ds),(Z 5 ds),(Z 6 ds),(Z 7 ds),(Z 8 ds),i,(Z 12 ds),(Z 13 ds),(Z 14 ds),(Z 15 ds),(Z 16 ds),(Z 17 ds),(Z 18 ds)],j.2))
  ((aT tab aV c).bind λk=>(V tab .lss U f k).bind λk=>S k
  (some (.aS,[(Z 0 ds),f,(Z 2 ds),(Z 3 ds),(Z 4 ds),(Z 5 ds),(Z 6 ds),(Z 7 ds),(Z 8 ds),i,k,(Z 13 ds),(Z 14 ds),(Z 15 ds),(Z 16 ds),(Z 17 ds),(Z 18 ds)],j.2))
  ((R1 tF [c,f] j.2).bind λj=>(R1 tH [c,f] j.2).bind λl=>(V tab .neq U j.1 l.1).bind λj=>S j
  (some (.ret,[.bool false,f,(Z 2 ds),(Z 3 ds),(Z 4 ds),(Z 5 ds),(Z 6 ds),(Z 7 ds),(Z 8 ds),i,k,j,(Z 14 ds),(Z 15 ds),(Z 16 ds),(Z 17 ds),(Z 18 ds)],l.2))
  ((aA tab l.2 aF a).bind λa=>(bJ tab aV 1 [0] [a]).bind λa=>(cW tab l.2 aV aV a e).bind λa=>(R1 oP [b] a.2).bind λe=>(R1 oR [b,e.1] e.2).bind λb=>(bJ tab aV 1 [0] [b.1]).bind λe=>(cW tab b.2 aV aV a.1 e).bind λa=>(aT tab aV a.1).bind λb=>((cA (x3 c d f a b) [(Z 0 ds),(Z 2 ds),(Z 3 ds),(Z 4 ds),(Z 5 ds),(Z 6 ds),(Z 7 ds),(Z 8 ds),.int .i64 0,(Z 17 ds),(Z 18 ds)] a.2).bind λc=>some ((bQ 2 c.1),[(Z 0 c.2.1),(Z 1 c.2.1),(Z 2 c.2.1),(Z 3 c.2.1),(Z 4 c.2.1),(Z 5 c.2.1),(Z 6 c.2.1),(Z 7 c.2.1),(Z 8 c.2.1),(Z 9 c.2.1),(Z 10 c.2.1)],c.2.2)).bind λc=>some ((bQ 1 c.1),[(Z 0 c.2.1),f,(Z 1 c.2.1),(Z 2 c.2.1),(Z 3 c.2.1),(Z 4 c.2.1),(Z 5 c.2.1),(Z 6 c.2.1),(Z 7 c.2.1),i,k,j,a.1,b,(Z 8 c.2.1),(Z 9 c.2.1),(Z 10 c.2.1)],c.2.2))))).bind λa=>toEnd a.1 ((V tab .add U (Z 9 ds) (.int .i64 1)).bind λb=>some (.aS,[(Z 0 a.2.1),(Z 1 a.2.1),(Z 2 a.2.1),(Z 3 a.2.1),(Z 4 a.2.1),(Z 5 a.2.1),(Z 6 a.2.1),(Z 7 a.2.1),(Z 8 a.2.1),b,g,(Z 9 a.2.1),(Z 10 a.2.1),(Z 11 a.2.1),(Z 12 a.2.1),(Z 13 a.2.1),(Z 14 a.2.1),(Z 15 a.2.1),(Z 16 a.2.1)],a.2.2)) λb=>some (b,[(Z 0 a.2.1),(Z 1 a.2.1),(Z 2 a.2.1),(Z 3 a.2.1),(Z 4 a.2.1),(Z 5 a.2.1),(Z 6 a.2.1),(Z 7 a.2.1),(Z 8 a.2.1),(Z 9 ds),g,(Z 9 a.2.1),(Z 10 a.2.1),(Z 11 a.2.1),(Z 12 a.2.1),(Z 13 a.2.1),(Z 14 a.2.1),(Z 15 a.2.1),(Z 16 a.2.1)],a.2.2))
  (some ((.ext 0),[(Z 0 ds),(Z 1 ds),(Z 2 ds),(Z 3 ds),(Z 4 ds),(Z 5 ds),(Z 6 ds),(Z 7 ds),(Z 8 ds),(Z 9 ds),g,(Z 11 ds),(Z 12 ds),(Z 13 ds),(Z 14 ds),(Z 15 ds),(Z 16 ds),(Z 17 ds),(Z 18 ds)],h))
def x5(a b c d:D)(e:List D)(f:J):Option bN:=
 (V tab .lss U (Z 2 e) d).bind λd=>S d
  ((aQ tab aW c (Z 2 e)).bind λc=>(aA tab f U c).bind λc=>(R1 rL [a,b,c] f).bind λg=>(R1 rP [a,b,c] g.2).bind λa=>(R1 qc [g.1,a.1] a.2).bind λa=>(fx .not a.1).bind λb=>S b
  (some (.ret,[.bool false,c,(Z 2 e),d,b],a.2))
  ((V tab .add U (Z 2 e) (.int .i64 1)).bind λg=>some (.aS,[(Z 0 e),c,g,d,b],a.2)))
  (some ((.ext 4),[(Z 0 e),(Z 1 e),(Z 2 e),d,(Z 4 e)],f))
def x6(a b c d:D)(e:List D)(f:J):Option bN:=
 (V tab .lss U (Z 6 e) d).bind λd=>S d
  ((aQ tab nC c (Z 6 e)).bind λc=>(aA tab f eT c).bind λc=>(R1 rN [a,b,c] f).bind λg=>(eZ 0 g.1).bind λh=>(eZ 1 g.1).bind λi=>(R1 rQ [a,b,c] g.2).bind λb=>(eZ 0 b.1).bind λg=>(eZ 1 b.1).bind λj=>(R1 qc [h,g] b.2).bind λb=>(fx .not b.1).bind λk=>(O k false (some i)).bind λl=>(O k false (some j)).bind λm=>(fA k false b.2 (R1 rK [l,m] b.2)).bind λb=>(O k false (fx .not b.1)).bind λl=>(cD k (.bool true) l).bind λk=>(O k false (some (a:D))).bind λl=>(O k false (some c)).bind λm=>(fA k false b.2 (R1 rM [l,m] b.2)).bind λb=>(O k false (some (a:D))).bind λa=>(O k false (some c)).bind λl=>(fA k false b.2 (R1 qe [a,l] b.2)).bind λa=>(fA k false a.2 (R1 tC [b.1,a.1] a.2)).bind λa=>(O k false (fx .not a.1)).bind λb=>(cD k (.bool true) b).bind λb=>S b
  (some (.ret,[.bool false,c,h,i,g,j,(Z 6 e),d,b],a.2))
  ((V tab .add U (Z 6 e) (.int .i64 1)).bind λk=>some (.aS,[(Z 0 e),c,h,i,g,j,k,d,b],a.2)))
  (some ((.ext 6),[(Z 0 e),(Z 1 e),(Z 2 e),(Z 3 e),(Z 4 e),(Z 5 e),(Z 6 e),d,(Z 8 e)],f))
def uU(a b c d:D)(h:J):Option (D × J):=
 (ga d).bind λd=>(R1 zr [] h).bind λe=>(fx .not e.1).bind λf=>S f
  (scope h e.2 (aH [.bool false]))
  ((aC tab aF 1 d).bind λf=>(aC tab aG 4 f).bind λf=>(aA tab e.2 bA f).bind λf=>(aT tab bA f).bind λf=>(V tab .gtr U f (.int .i64 60)).bind λf=>(O f false (aC tab aF 1 d)).bind λg=>(O f false (aC tab aG 9 g)).bind λg=>(O f false (aA tab e.2 bM g)).bind λg=>(O f false (aT tab bM g)).bind λg=>(O f false (V tab .gtr U g (.int .i64 60))).bind λg=>(cD f (.bool true) g).bind λf=>S f
  (scope h e.2 (aH [.bool true]))
  ((R1 rG [a,.int .i64 240] e.2).bind λa=>(R1 nh [a.1,.int .i64 8] a.2).bind λe=>(eZ 0 e.1).bind λf=>(eZ 1 e.1).bind λg=>(R1 rJ [a.1] e.2).bind λe=>(R1 nh [a.1,.int .i64 1] e.2).bind λi=>(eZ 0 i.1).bind λj=>(eZ 1 i.1).bind λk=>(aT tab aV f).bind λk=>(R1 fN [a.1,.int .i64 3] i.2).bind λi=>(V tab .add U k i.1).bind λk=>(bJ tab aW 3 [0,1,2] [b,k,.int .i64 200]).bind λb=>(aT tab aW b).bind λk=>((cA (xZ d a.1 f g j b k) [.bool false,.any,.any,.any,.any,.any,.any,.any,.any,.int .i64 0,.any,.any,.any,.any,.any,.any,.any,.any,.any] i.2).bind λb=>some ((bQ 0 b.1),[(Z 0 b.2.1),(Z 1 b.2.1),(Z 2 b.2.1),(Z 3 b.2.1),(Z 4 b.2.1),(Z 5 b.2.1),(Z 6 b.2.1),(Z 7 b.2.1),(Z 8 b.2.1),(Z 9 b.2.1),(Z 10 b.2.1),(Z 11 b.2.1),(Z 12 b.2.1),(Z 13 b.2.1),(Z 14 b.2.1),(Z 15 b.2.1),(Z 16 b.2.1),(Z 17 b.2.1),(Z 18 b.2.1)],b.2.2)).bind λb=>toEnd b.1 ((R1 fN [a.1,.int .i64 10] b.2.2).bind λd=>(bJ tab aW 3 [0,1,2] [c,d.1,.int .i64 1]).bind λc=>(aT tab aW c).bind λi=>((cA (x5 f g c i) [(Z 0 b.2.1),.any,.int .i64 0,.any,.any] d.2).bind λc=>some ((bQ 4 c.1),[(Z 0 c.2.1),(Z 1 c.2.1),(Z 2 c.2.1),(Z 3 c.2.1),(Z 4 c.2.1)],c.2.2)).bind λc=>toEnd c.1 ((R1 qe [f,.aB] c.2.2).bind λd=>(bJ tab nC 3 [0,1,2] [e.1,d.1,.aB]).bind λe=>(aT tab nC e).bind λi=>((cA (x6 f g e i) [(Z 0 c.2.1),.any,.any,.any,.any,.any,.int .i64 0,.any,.any] d.2).bind λd=>some ((bQ 6 d.1),[(Z 0 d.2.1),(Z 1 d.2.1),(Z 2 d.2.1),(Z 3 d.2.1),(Z 4 d.2.1),(Z 5 d.2.1),(Z 6 d.2.1),(Z 7 d.2.1),(Z 8 d.2.1)],d.2.2)).bind λd=>toEnd d.1 ((cW tab d.2.2 aV aV (.aB) f).bind λe=>(aT tab aV e.1).bind λi=>(V tab .gtr U i (.int .i64 0)).bind λi=>(S i
  ((aT tab aV e.1).bind λi=>(R1 fN [a.1,i] e.2).bind λi=>(aQ tab aV e.1 i.1).bind λj=>(aA tab i.2 aF j).bind λj=>(R1 oR [a.1,j] i.2).bind λa=>(aQ tab aV e.1 i.1).bind λj=>((bT tab a.2 aF j a.1).bind λa=>some ((.bU:D),a)).bind λa=>some (.aS,[i.1],a.2))
  (some (.aS,[.any],e.2))).bind λa=>toEnd a.1 ((kb R1 oS [e.1,g,.int .i64 200] a.2.2).bind λi=>(kb R1 oU [e.1,g,.int .i64 200] i.2).bind λe=>(V tab .eql iW i.1 e.1).bind λi=>(O i true (some g)).bind λj=>(O i true (aT tab aW j)).bind λj=>(O i true (V tab .eql U j (.int .i64 0))).bind λj=>(O i true (some j)).bind λj=>(O j false (some f)).bind λk=>(O j false (some g)).bind λl=>(O j false (gj tab aW true false false [l,.int .i64 1])).bind λl=>(fA j false e.2 (R1 oS [k,l,.int .i64 200] e.2)).bind λe=>(O j false (some f)).bind λf=>(O j false (some g)).bind λg=>(O j false (gj tab aW true false false [g,.int .i64 1])).bind λg=>(fA j false e.2 (R1 oU [f,g,.int .i64 200] e.2)).bind λf=>(O j false (V tab .eql iW e.1 f.1)).bind λe=>(O i true (cD j (.bool true) e)).bind λe=>(cD i e (.bool false)).bind λe=>scope h f.2 (aH [e])) λe=>dD e (scope h a.2.2 (aH [(Z 0 d.2.1)]))) λa=>dD a (scope h d.2.2 (aH [(Z 0 d.2.1)]))) λa=>dD a (scope h c.2.2 (aH [(Z 0 c.2.1)]))) λa=>dD a (scope h b.2.2 (aH [(Z 0 b.2.1)]))))
theorem NN(a b c d:D)(h:J):R1 zw [a,b,c,d] h=uU a b c d h:=
 Gs i3 (by kernel_rfl) (by kernel_rfl)
def D3(h:J):Option (D × J):=
 (gu R1 (.fn (.func qd) [] []) [.int .i64 1,.int .i64 0] h).bind λa=>(gu R1 (.fn (.func qd) [] []) [.int .i64 2,.int .i64 0] a.2).bind λb=>(gu R1 (.fn (.func qd) [] []) [.int .i64 1,.int .i64 1] b.2).bind λc=>(bJ tab aV 3 [0,1,2] [a.1,b.1,c.1]).bind λa=>(bJ tab aW 3 [0,1,2] [.int .i64 0,.int .i64 5,.int .i64 9]).bind λb=>(R1 rL [a,b,.int .i64 2] c.2).bind λa=>(aT tab aV a.1).bind λb=>(V tab .eql U b (.int .i64 2)).bind λb=>(O b true (some a.1)).bind λc=>(O b true (aQ tab aV c (.int .i64 0))).bind λc=>(O b true (aC tab aF 1 c)).bind λc=>(O b true (aC tab aG 1 c)).bind λc=>(O b true (aA tab a.2 U c)).bind λc=>(O b true (V tab .eql U c (.int .i64 2))).bind λc=>(cD b c (.bool false)).bind λb=>(O b true (some a.1)).bind λc=>(O b true (aQ tab aV c (.int .i64 1))).bind λc=>(O b true (aC tab aF 1 c)).bind λc=>(O b true (aC tab aG 1 c)).bind λc=>(O b true (aA tab a.2 U c)).bind λc=>(O b true (V tab .eql U c (.int .i64 1))).bind λc=>(cD b c (.bool false)).bind λb=>(O b true (some a.1)).bind λc=>(O b true (aQ tab aV c (.int .i64 1))).bind λc=>(O b true (aC tab aF 1 c)).bind λc=>(O b true (aC tab aG 2 c)).bind λc=>(O b true (aA tab a.2 U c)).bind λc=>(O b true (V tab .eql U c (.int .i64 0))).bind λc=>(cD b c (.bool false)).bind λb=>some (aH [b],a.2)
theorem Nw(h:J):R1 zr [] h=D3 h:=
 Gs i4 (by kernel_rfl) (by kernel_rfl)
end
end Go.Proofs.YtinlnkhheafjaaaGreatDoor
