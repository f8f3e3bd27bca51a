/- Part 3 of the texts that the theorem needs: an interpreter on data, proved sound; the functions on data; laws about them. -/
import Derived.Test.YtkcdpfogoepamaaGreatDoorM2
import Derived.Lib.Bytealg
import Derived.Laws.Externs
import Derived.Test.YtkcdpfogoepamaaGreatDoorM1
import Derived.ProofKit
import Derived.OpenShut
import Derived.Below
import Derived.Deep.Slices
import Derived.MakeChecks
import Derived.FnData
import Derived.ChangeArms
import Derived.Laws.AppendOwn
import Derived.Lib.AppendZeros
import Derived.Lib.AppendZerosOnto
import Derived.Test.YtkcdpfogoepamaaGreatDoorChecked
import Derived.WalkKit
import Derived.Lib.Walk
import Derived.Lib.SliceRun
import Derived.Lib.JoinLaws
import Derived.Laws.IdiomCopy
import Derived.Shelf.RegionOpenPlain
import Derived.KernelRfl
set_option linter.unusedSimpArgs false
set_option linter.unusedVariables false
set_option linter.unnecessarySimpa false
set_option maxRecDepth 100000
namespace Go.Eng
abbrev n5:=@Classical.choose_spec
end Go.Eng
namespace Go.Pi
open Go.Eng
noncomputable def hI(X:Cx)(F:FuncId→Option jR):Nat→fb
 |0,_,_,_=>none
 | n+1,f,args,h=>match F f with
  |some a=>nL X (hI X F n) (iP n) a args h
  |none=>X.xt f args h
section
variable {P:Program} {X:Cx} {F:FuncId→Option jR}
theorem a1N(n:Nat):B2 (iP n):=λ_ _ _ _ a=>⟨n,a⟩
theorem Mk(e:eL P X.T)(j:P.follows .mixedOrders=true)(k:j4 P X X.xt)(c:∀f b,F f=some b→bV P f b):∀n,j4 P X (hI X F n)
 |0=>λf args h d h' a=>by cases a
 | n+1=>λf args h d h' a=>by
  simp only[hI]at a;split at a
  ·rename_i b i;exact λg vs hi l m =>.inl ⟨(c f b i).enter _ _,Y4 e j (Mk e j k c n) (a1N n) (c f b i) a hi l m⟩
  ·exact k f args h d h' a
def Le{α:Type}(x y:Option α):Prop:=∀a,x=some a→y=some a
theorem Le.refl{α:Type}(x:Option α):Le x x:=λ_ a=>a
theorem Le.trans{α:Type}{x y z:Option α}(h:Le x y)(k:Le y z):Le x z:=λa b=>k a (h a b)
theorem Le.bind{α i:Type}{x y:Option α}{f g:α→Option i}(h:Le x y)(k:∀a,Le (f a) (g a)):Le (x.bind f) (y.bind g):=λe d=>by
 obtain⟨a,b,c⟩:=kq.1 d;rw[h a b];exact k a e c
def mb(c d:fb):Prop:=∀a args b,Le (c a args b) (d a args b)
def w8(l e:nq):Prop:=∀(c d:List D→J→Option bK),(∀a b,Le (c a b) (d a b))→∀a b,Le (l c a b) (e d a b)
theorem SK{c b:fb}(d:mb c b)(f:FuncId)(args:List D)(h:J):Le (lP c f args h) (lP b f args h):=λj a=>by
 unfold lP at a ⊢;split at a
 ·rename_i g i e;rw[d _ _ _ _ e];exact a
 ·cases a
theorem SQ{c b:fb}(a:mb c b)(d:Nat)(f:FuncId)(args:List D)(h:J):Le (calls d c f args h) (calls d b f args h):=by
 unfold calls;split
 ·exact a _ _ _
 ·exact SK a _ _ _
 ·exact a _ _ _
theorem SN{T:dR}{c a:fb}(b:mb c a)(m:String)(ds:List D)(h:J):Le (iH T c m ds h) (iH T a m ds h):=by
 unfold iH;split
 ·split
  ·exact b _ _ _
  ·exact Le.refl _
 ·exact Le.refl _
theorem Mm{T:dR}{c a:fb}(b:mb c a)(d:Nat)(o:Op)(ds:List D)(h:J):Le (mf T c d o ds h) (mf T a d o ds h):=by
 unfold mf;simp only[D2];split
 ·split
  ·split
   ·exact SQ b _ _ _ _
   ·exact Le.refl _
  ·exact SN b _ _ _
  ·exact Le.refl _
 ·exact Le.refl _
theorem Zh{g:D}{b:Bool}{h:J}{x y:Option (D × J)}(c:Le x y):Le (gQ g b h x) (gQ g b h y):=λd a=>by
 unfold gQ at a ⊢;split at a
 ·split at a
  ·exact c d a
  ·exact a
 ·exact a
 ·cases a
theorem a2w{c b:fb}(d:mb c b){fz a:List Nat}{l:List Oper}{o:Oper}{e:DE}{h:J}:Le (iY X c fz a l o e h) (iY X b fz a l o e h):=by
 unfold iY;split
 ·exact Le.refl _
 ·split
  ·split
   ·exact Le.refl _
   ·exact Le.refl _
   ·exact Le.refl _
   ·exact Mm d _ _ _ _
   ·exact Le.refl _
  ·split
   ·exact Le.refl _
   ·split
    ·exact Le.refl _
    ·split
     ·exact Le.refl _
     ·exact Le.refl _
     ·exact Le.refl _
     ·exact Zh (Mm d _ _ _ _)
     ·exact Le.refl _
theorem P1{R:Type}{f:Nat}{dst:Option Nat}{d:D}{e:DE}{h:J}{a b:DE→J→Option R}(c:∀e h,Le (a e h) (b e h)):Le (j3 f dst d e h a) (j3 f dst d e h b):=by
 unfold j3;split
 ·exact c _ _
 ·split
  ·exact c _ _
  ·exact Le.refl _
theorem Hc{R:Type}{c f:fb}(j:mb c f){g:Nat}{fz d:List Nat}{l:List Oper}{o:Oper}{e:DE}{h:J}{a b:DE→J→Option R}(i:∀e h,Le (a e h) (b e h)):Le (m4 X c g fz d l o e h a) (m4 X f g fz d l o e h b):=by
 rw[zA,zA];exact(a2w j).bind λk=>P1 i
theorem zT{R:Type}{c i:fb}(f:mb c i){j:Nat}{fz g:List Nat}{l:List Oper}:∀{k:List Oper} {e:DE} {h:J} {b d:DE→J→Option R},(∀e h,Le (b e h) (d e h))→Le (jx X c j fz g l k e h b) (jx X i j fz g l k e h d)
 |[],e,h,b,d,a=>a e h
 |[o],e,h,b,d,a=>Hc f a
 | o::p::r,e,h,b,d,a=>by
  simp only[jx];split
  ·split
   ·exact(Le.refl _).bind λu=>P1 λe h=>zT f a
   ·exact Le.refl _
  ·exact Hc f λe h=>zT f a
theorem QU{R:Type}{c i:fb}(j:mb c i){k:Nat}{fz g:List Nat}{l:List Oper}:∀{m:List Oper} {e:DE} {h:J} {a:List J} {b d:DE→J→List J→Option R},(∀e h a,Le (b e h a) (d e h a))→Le (o2 X c k fz g l m e h a b) (o2 X i k fz g l m e h a d)
 |[],e,h,a,b,d,f=>f e h a
 |o::r,e,h,a,b,d,f=>Hc j λe h=>QU j f
theorem Mx{R:Type}{l:List Oper}{e:DE}{b:List J}{x y:Option R}(h:Le x y):∀{c:List (Nat × Nat)},Le (nD X l e b c x) (nD X l e b c y)
 |[]=>h
 | (i, k)::r=>λz a=>by
  simp only[nD]at a ⊢;split at a
  ·unfold dY at a ⊢;split at a
   ·rename_i d;rw[bO d];exact Mx h z a
   ·cases a
  ·cases a
theorem HQ{R:Type}{fz:List Nat}:∀{d:List Oper} {e:DE} {h:J} {a b:DE→J→Option R},(∀e h,Le (a e h) (b e h))→Le (lZ X fz d e h a) (lZ X fz d e h b)
 |[],e,h,a,b,c=>c e h
 | o::r,e,h,a,b,c=>by
  unfold lZ;split
  ·split
   ·exact HQ c
   ·exact Le.refl _
  ·exact HQ c
theorem T3{R:Type}{c f:fb}(g:mb c f){i:Nat}{fz d:List Nat}{m:Nat}{l:List Oper}{e:DE}{h:J}{a b:DE→J→Option R}(j:∀e h,Le (a e h) (b e h)):Le (oK X c i fz d m l e h a) (oK X f i fz d m l e h b):=by
 unfold oK;split
 ·exact Le.refl _
 ·exact QU g λe h k=>Mx (HQ λe h=>zT g j)
theorem MO{R:Type}{d:D}{x a y b:Option R}(c:Le x a)(e:Le y b):Le (S d x y) (S d a b):=by
 unfold S;split
 ·exact c
 ·exact e
 ·exact Le.refl _
theorem SH{c l:fb}(m:mb c l){n o:nq}(s:w8 n o){A:ug}:∀(k:Code) {e:DE} {h:J} {R:Type} {b d:Ex→DE→J→Option R},(∀x e h,Le (b x e h) (d x e h))→Le (cK X c n A k e h R b) (cK X l o A k e h R d):=by
 intro k
 induction k with
 |skip=>intro e h R b d a;exact a _ _ _
 |label u=>intro e h R b d a;exact a _ _ _
 |ret=>intro e h R b d a;exact a _ _ _
 |exit t=>intro e h R b d a;exact a _ _ _
 |goto u=>intro e h R b d a;exact Le.refl _
 |scope f g=>intro e h R b d a;exact Le.refl _
 |refuse F=>intro e h R b d a;exact Le.refl _
 |rangeFunc y D v f z B=>intro e h R b d a;exact Le.refl _
 | region id C r =>
  intro e h R b d a;simp only[cK];cases r with
  |false=>exact zT m λe h=>a _ _ _
  |true=>exact T3 m λe h=>a _ _ _
 | seq q f i j =>
  intro e h R b d a;simp only[cK];refine i λx e h=>?_
  cases x with
  |aQ=>exact j a
  |ext t=>exact a _ _ _
  |ret=>exact a _ _ _
 | cond E q f i j =>
  intro e h R b d a;simp only[cK];split
  ·exact Le.refl _
  ·split
   ·exact(MO (i λ_ _ _=>Le.refl _) (j λ_ _ _=>Le.refl _)).bind λp=>a _ _ _
   ·exact MO (i a) (j a)
 | block id f g =>
  intro e h R b d a;simp only[cK];split
  ·exact(g λ_ _ _=>Le.refl _).bind λp=>a _ _ _
  ·exact g λx e h=>a _ _ _
 | loop f g =>
  intro e h R b d a;simp only[cK];exact(s _ _ (λw h=>g λ_ _ _=>Le.refl _) _ _).bind λp=>a _ _ _
theorem vX:∀{n m:Nat},n≤m→w8 (iP n) (iP m)
 |0,m,_=>λb c a ds h r e=>by cases e
 |n+1,0,h=>by omega
 | n+1,m+1,h=>λb c a ds d=>by
  simp only[iP];refine(a ds d).bind λr=>?_
  split
  ·exact vX (by omega) b c a _ _
  ·exact Le.refl _
theorem N4{c a:fb}(f:mb c a){d e:nq}(g:w8 d e){b:jR}{args:List D}{h:J}:Le (nL X c d b args h) (nL X a e b args h):=by
 unfold nL;split
 ·exact SH f g _ λ_ _ _=>Le.refl _
 ·exact Le.refl _
theorem xy:∀{n m:Nat},n≤m→mb (hI X F n) (hI X F m)
 |0,m,_=>λf args h r a=>by cases a
 |n+1,0,h=>by omega
 | n+1,m+1,h=>λf args b=>by
  simp only[hI];split
  ·exact N4 (xy (by omega)) (vX (by omega))
  ·exact Le.refl _
open Classical in
noncomputable def iD(X:Cx)(F:FuncId→Option jR):fb:=λa args b=>if c:∃d e,hI X F d a args b=some e then some (Classical.choose (n5 c))else none
open Classical in
noncomputable def cA:nq:=λa b c=>if d:∃e f,iP e a b c=some f then some (Classical.choose (n5 d))else none
theorem tO{f:FuncId}{args:List D}{h:J}{r:D × J}:iD X F f args h=some r↔∃n,hI X F n f args h=some r:=by
 unfold iD;constructor
 ·intro b;split at b
  ·rename_i a;injection b with b;exact⟨_,by rw[n5 (n5 a),b]⟩
  ·cases b
 ·rintro⟨n,d⟩;have a:∃n r,hI X F n f args h=some r:=⟨n,r,d⟩
  rw[dif_pos a];have e:=n5 (n5 a);have g:=xy (Nat.le_max_left (Classical.choose a) n) f args h _ e;have c:=xy (Nat.le_max_right (Classical.choose a) n) f args h _ d;rw[g]at c;exact c
theorem rO{a:List D→J→Option bK}{ds:List D}{h:J}{r:bK}:cA a ds h=some r↔∃n,iP n a ds h=some r:=by
 unfold cA;constructor
 ·intro c;split at c
  ·rename_i b;injection c with c;exact⟨_,by rw[n5 (n5 b),c]⟩
  ·cases c
 ·rintro⟨n,e⟩;have b:∃n r,iP n a ds h=some r:=⟨n,r,e⟩
  rw[dif_pos b];have f:=n5 (n5 b);have g:=vX (Nat.le_max_left (Classical.choose b) n) a a (λ_ _=>Le.refl _) ds h _ f;have d:=vX (Nat.le_max_right (Classical.choose b) n) a a (λ_ _=>Le.refl _) ds h _ e;rw[g]at d;exact d
theorem PR{α:Type}{x y:Option α}(b:Le x y)(h2:Le y x):x=y:=by
 cases x with
 |some a=>exact(b a rfl).symm
 | none =>
  cases y with
  |none=>rfl
  |some a=>exact h2 a rfl
theorem iX(g:List D→J→Option bK)(ds:List D)(h:J):cA g ds h=(g ds h).bind λr=>match r.1 with
  |.aQ=>cA g r.2.1 r.2.2
  |x=>some (x,r.2.1,r.2.2):=by
 refine PR (λr i=>?_) (λr i=>?_)
 ·obtain⟨e,d⟩:=rO.1 i;cases e with
  |zero=>cases d
  | succ e =>
   simp only[iP]at d;obtain⟨j,f,a⟩:=kq.1 d;rw[f,kr];split at a
   ·rename_i b;rw[b];exact rO.2 ⟨e,a⟩
   ·rename_i b;cases c:j.1 with
    |aQ=>exact absurd c b
    |ext k=>rw[c]at a;exact a
    |ret=>rw[c]at a;exact a
 ·obtain⟨j,f,a⟩:=kq.1 i;split at a
  ·rename_i b;obtain⟨e,d⟩:=rO.1 a;refine rO.2 ⟨e+1,?_⟩;simp only[iP,f,kr,b];exact d
  ·rename_i b;refine rO.2 ⟨1,?_⟩;simp only[iP,f,kr];cases c:j.1 with
   |aQ=>exact absurd c b
   |ext k=>rw[c]at a;exact a
   |ret=>rw[c]at a;exact a
def eH{α:Type}(x:Option α)(xs:Nat→Option α):Prop:=∀b,x=some b→∃c,∀a,c≤a→xs a=some b
theorem eH.const{α:Type}(x:Option α):eH x λ_=>x:=λb a=>⟨0,λ_ _=>a⟩
theorem eH.bind{α c:Type}{x:Option α}{xs:Nat→Option α}{f:α→Option c}{fs:Nat→α→Option c}(h:eH x xs)(k:∀a,eH (f a) λn=>fs n a):eH (x.bind f) λn=>(xs n).bind (fs n):=λm j=>by
 obtain⟨a,d,e⟩:=kq.1 j;obtain⟨n,i⟩:=h a d;obtain⟨l,g⟩:=k a m e;exact⟨max n l,λb o=>by
  show(xs b).bind (fs b)=_;rw[i b (by omega),kr];exact g b (by omega)⟩
theorem zO(f:FuncId)(args:List D)(h:J):eH (iD X F f args h) λn=>hI X F n f args h:=λd c=>by
 obtain⟨n,b⟩:=tO.1 c;exact⟨n,λe a=>xy a f args h d b⟩
theorem SM(f:FuncId)(args:List D)(h:J):eH (lP (iD X F) f args h) λn=>lP (hI X F n) f args h:=λj a=>by
 unfold lP at a;split at a
 ·rename_i g i b;obtain⟨n,d⟩:=zO _ _ _ _ b;exact⟨n,λe c=>by show lP _ _ _ _=_;unfold lP;have:=d e c;simp only at this;rw[this];exact a⟩
 ·cases a
theorem SS(a:Nat)(f:FuncId)(args:List D)(h:J):eH (calls a (iD X F) f args h) λn=>calls a (hI X F n) f args h:=by
 unfold calls;split
 ·exact zO _ _ _
 ·exact SM _ _ _
 ·exact zO _ _ _
theorem SO{T:dR}(m:String)(ds:List D)(h:J):eH (iH T (iD X F) m ds h) λn=>iH T (hI X F n) m ds h:=by
 unfold iH;split
 ·split
  ·exact zO _ _ _
  ·exact eH.const _
 ·exact eH.const _
theorem Mn{T:dR}(a:Nat)(o:Op)(ds:List D)(h:J):eH (mf T (iD X F) a o ds h) λn=>mf T (hI X F n) a o ds h:=by
 unfold mf;simp only[D2];split
 ·split
  ·split
   ·exact SS _ _ _ _
   ·exact eH.const _
  ·exact SO _ _ _
  ·exact eH.const _
 ·exact eH.const _
theorem Zi{g:D}{b:Bool}{h:J}{x:Option (D × J)}{xs:Nat→Option (D × J)}(a:eH x xs):eH (gQ g b h x) λn=>gQ g b h (xs n):=by
 unfold gQ;split
 ·split
  ·exact a
  ·exact eH.const _
 ·exact eH.const _
 ·exact eH.const _
theorem a2x{fz a:List Nat}{l:List Oper}{o:Oper}{e:DE}{h:J}:eH (iY X (iD X F) fz a l o e h) λn=>iY X (hI X F n) fz a l o e h:=by
 unfold iY;split
 ·exact eH.const _
 ·split
  ·split
   ·exact eH.const _
   ·exact eH.const _
   ·exact eH.const _
   ·exact Mn _ _ _ _
   ·exact eH.const _
  ·split
   ·exact eH.const _
   ·split
    ·exact eH.const _
    ·split
     ·exact eH.const _
     ·exact eH.const _
     ·exact eH.const _
     ·exact Zi (Mn _ _ _ _)
     ·exact eH.const _
section
variable {R:Type}
theorem P3{c:Nat}{dst:Option Nat}{d:D}{e:DE}{h:J}{a:DE→J→Option R}{Ks:Nat→DE→J→Option R}(b:∀e h,eH (a e h) λn=>Ks n e h):eH (j3 c dst d e h a) λn=>j3 c dst d e h (Ks n):=by
 unfold j3;split
 ·exact b _ _
 ·split
  ·exact b _ _
  ·exact eH.const _
theorem He{c:Nat}{fz b:List Nat}{l:List Oper}{o:Oper}{e:DE}{h:J}{a:DE→J→Option R}{Ks:Nat→DE→J→Option R}(d:∀e h,eH (a e h) λn=>Ks n e h):eH (m4 X (iD X F) c fz b l o e h a) λn=>m4 X (hI X F n) c fz b l o e h (Ks n):=by
 simp only[zA];exact a2x.bind λf=>P3 d
theorem zV{d:Nat}{fz c:List Nat}{l:List Oper}:∀{i:List Oper} {e:DE} {h:J} {b:DE→J→Option R} {Ks:Nat→DE→J→Option R},(∀e h,eH (b e h) λn=>Ks n e h)→eH (jx X (iD X F) d fz c l i e h b) λn=>jx X (hI X F n) d fz c l i e h (Ks n)
 |[],e,h,b,Ks,a=>a e h
 |[o],e,h,b,Ks,a=>He a
 | o::p::r,e,h,b,Ks,a=>by
  simp only[jx];split
  ·split
   ·exact(eH.const _).bind λu=>P3 (Ks:=λn f g=>jx X (hI X F n) d fz c l r f g (Ks n)) λe h=>zV a
   ·exact eH.const _
  ·exact He (Ks:=λn f g=>jx X (hI X F n) d fz c l (p::r) f g (Ks n)) λe h=>zV a
theorem QV{f:Nat}{fz c:List Nat}{l:List Oper}:∀{i:List Oper} {e:DE} {h:J} {a:List J} {b:DE→J→List J→Option R} {Ks:Nat→DE→J→List J→Option R},(∀e h a,eH (b e h a) λn=>Ks n e h a)→eH (o2 X (iD X F) f fz c l i e h a b) λn=>o2 X (hI X F n) f fz c l i e h a (Ks n)
 |[],e,h,a,b,Ks,d=>d e h a
 | o::r,e,h,a,b,Ks,d=>He (Ks:=λn j g=>o2 X (hI X F n) f fz c l r j g (match jt X.T fz o with
  |true=>a++[g]
  |false=>a) (Ks n)) λe h=>QV d
theorem Mz{l:List Oper}{e:DE}{a:List J}{x:Option R}{xs:Nat→Option R}(h:eH x xs):∀{b:List (Nat × Nat)},eH (nD X l e a b x) λn=>nD X l e a b (xs n)
 |[]=>h
 | (i,k)::r=>by
  simp only[nD];split
  ·unfold dY;split
   ·exact Mz h
   ·exact eH.const _
  ·exact eH.const _
theorem HR{fz:List Nat}:∀{c:List Oper} {e:DE} {h:J} {a:DE→J→Option R} {Ks:Nat→DE→J→Option R},(∀e h,eH (a e h) λn=>Ks n e h)→eH (lZ X fz c e h a) λn=>lZ X fz c e h (Ks n)
 |[],e,h,a,Ks,b=>b e h
 | o::r,e,h,a,Ks,b=>by
  unfold lZ;split
  ·split
   ·exact HR b
   ·exact eH.const _
  ·exact HR b
theorem T5{b:Nat}{fz a:List Nat}{m:Nat}{l:List Oper}{e:DE}{h:J}{f:DE→J→Option R}{Ks:Nat→DE→J→Option R}(k:∀e h,eH (f e h) λn=>Ks n e h):eH (oK X (iD X F) b fz a m l e h f) λn=>oK X (hI X F n) b fz a m l e h (Ks n):=by
 unfold oK;split
 ·exact eH.const _
 ·exact QV (Ks:=λn g j i=>nD X l g i (As X.T fz m l) (lZ X fz (l.take m) g j λc d=>jx X (hI X F n) b fz a l (l.drop m) c d (Ks n))) λe h i=>Mz (HR (Ks:=λn c d=>jx X (hI X F n) b fz a l (l.drop m) c d (Ks n)) λe h=>zV k)
theorem MQ{d:D}{x y:Option R}{xs ys:Nat→Option R}(a:eH x xs)(b:eH y ys):eH (S d x y) λn=>S d (xs n) (ys n):=by
 unfold S;split
 ·exact a
 ·exact b
 ·exact eH.const _
end
theorem a1Q{b:List D→J→Option bK}{bs:Nat→List D→J→Option bK}(s:∀ds h,eH (b ds h) λn=>bs n ds h)(ds:List D)(h:J):eH (cA b ds h) λn=>iP n (bs n) ds h:=λg f=>by
 obtain⟨d,t⟩:=rO.1 f;have y:∀(d:Nat) (ds:List D) (h:J) (g:bK),iP d b ds h=some g→∃n,∀c a,n≤c→d≤a→iP a (bs c) ds h=some g:=by
  intro d
  induction d with
  |zero=>intro ds h g f;cases f
  | succ d x =>
   intro ds h g f;simp only[iP]at f;obtain⟨q,r,e⟩:=kq.1 f;obtain⟨p,o⟩:=s ds h q r;split at e
   ·rename_i j;obtain⟨z,v⟩:=x _ _ _ e;refine⟨max p z,λc a m w=>?_⟩;obtain⟨a,rfl⟩:∃l,a=l+1:=⟨a - 1,by omega⟩
    simp only[iP];have i:=o c (by omega);simp only at i;rw[i,kr,j];exact v c a (by omega) (by omega)
   ·refine⟨p,λc a m w=>?_⟩;obtain⟨a,rfl⟩:∃l,a=l+1:=⟨a - 1,by omega⟩
    simp only[iP];have i:=o c (by omega);simp only at i;rw[i,kr];rename_i j;cases k:q.1 with
    |aQ=>exact absurd k j
    |ext A=>rw[k]at e;exact e
    |ret=>rw[k]at e;exact e
 obtain⟨n,u⟩:=y d ds h g t;exact⟨max n d,λc m=>u c c (by omega) (by omega)⟩
theorem SJ{A:ug}:∀(k:Code) {e:DE} {h:J} {R:Type} {b:Ex→DE→J→Option R} {Ks:Nat→Ex→DE→J→Option R},(∀x e h,eH (b x e h) λn=>Ks n x e h)→eH (cK X (iD X F) cA A k e h R b) λn=>cK X (hI X F n) (iP n) A k e h R (Ks n):=by
 intro k
 induction k with
 |skip=>intro e h R b Ks a;exact a _ _ _
 |label s=>intro e h R b Ks a;exact a _ _ _
 |ret=>intro e h R b Ks a;exact a _ _ _
 |exit r=>intro e h R b Ks a;exact a _ _ _
 |goto s=>intro e h R b Ks a;exact eH.const _
 |scope f g=>intro e h R b Ks a;exact eH.const _
 |refuse C=>intro e h R b Ks a;exact eH.const _
 |rangeFunc u z t f v w=>intro e h R b Ks a;exact eH.const _
 | region id y p =>
  intro e h R b Ks a;simp only[cK];cases p with
  |false=>exact zV λe h=>a _ _ _
  |true=>exact T5 λe h=>a _ _ _
 | seq o f i j =>
  intro e h R b Ks a;simp only[cK];refine i (Ks:=λn x c d=>cI x (cK X (hI X F n) (iP n) A f c d R (Ks n)) λx=>Ks n x c d) λx e h=>?_
  cases x with
  |aQ=>exact j a
  |ext r=>exact a _ _ _
  |ret=>exact a _ _ _
 | cond B o f i j =>
  intro e h R b Ks a;simp only[cK];split
  ·exact eH.const _
  ·split
   ·exact(MQ (i (Ks:=λ_ x c d=>some (x,lf c _,d)) λ_ _ _=>eH.const _) (j (Ks:=λ_ x c d=>some (x,lf c _,d)) λ_ _ _=>eH.const _)).bind λm=>a _ _ _
   ·exact MQ (i a) (j a)
 | block id f g =>
  intro e h R b Ks a;simp only[cK];split
  ·exact(g (Ks:=λ_ x c d=>some (bX id x,lf c _,d)) λ_ _ _=>eH.const _).bind λm=>a _ _ _
  ·exact g (Ks:=λn x c d=>Ks n (bX id x) c d) λx e h=>a _ _ _
 | loop f g =>
  intro e h R b Ks a;simp only[cK];refine(a1Q (bs:=λn q d=>cK X (hI X F n) (iP n) A f _ d bK λx c l=>some (x,lf c _,l)) (λq h=>g (Ks:=λ_ x c l=>some (x,lf c _,l)) λ_ _ _=>eH.const _) _ _).bind λm=>a _ _ _
theorem Y5{a:jR}{args:List D}{h:J}:eH (nL X (iD X F) cA a args h) λn=>nL X (hI X F n) (iP n) a args h:=by
 unfold nL;split
 ·exact SJ _ (Ks:=λ_ e d b=>dC e ((kN X b d a.res).bind λc=>match a.sc with
      |true=>scope h b (aF c)
      |false=>some (aF c,b))) λ_ _ _=>eH.const _
 ·exact eH.const _
theorem a2S:∀n,mb (hI X F n) (iD X F):=λn b args c d a=>tO.2 ⟨n,a⟩
theorem a1P:∀n,w8 (iP n) cA:=λn a b e c d g f=>rO.2 ⟨n,vX (bB n) a b e c d g f⟩
theorem Qq(f:FuncId)(args:List D)(h:J):iD X F f args h=match F f with
  |some g=>nL X (iD X F) cA g args h
  |none=>X.xt f args h:=by
 refine PR (λe c=>?_) (λe c=>?_)
 ·obtain⟨a,b⟩:=tO.1 c;cases a with
  |zero=>cases b
  | succ a =>
   simp only[hI]at b;split at b
   ·exact N4 (a2S a) (a1P a) e b
   ·exact b
 ·split at c
  ·rename_i g d;obtain⟨a,b⟩:=Y5 e c;refine tO.2 ⟨a+1,?_⟩;simp only[hI,d];exact b a (bB a)
  ·rename_i d;refine tO.2 ⟨1,?_⟩;simp only[hI,d];exact c
theorem Hy{f:FuncId}(a:F f=none)(args:List D)(h:J):iD X F f args h=X.xt f args h:=by
 rw[Qq,a]
def tM{R:Type}(X:Cx)(h:J)(e:DE):List ResultVar→(List D→Option R)→Option R
 |[],a=>a []
 | .tmp t::r,a=>match eI e t with
  |some d=>tM X h e r λds=>a (d::ds)
  |none=>none
 | .cell t ty::r,a=>match eI e t with
  |some p=>(Y X.T h ty p).bind λd=>tM X h e r λds=>a (d::ds)
  |none=>none
theorem Hq{R:Type}(h:J)(e:DE):∀(b:List ResultVar) (a:List D→Option R),tM X h e b a=(kN X h e b).bind a
 |[],a=>rfl
 | .tmp t::r,a=>by
  simp only[tM,kN];cases eI e t with
  |none=>rfl
  |some d=>simp only[Hq h e r,aL,kr]
 | .cell t ty::r,a=>by
  simp only[tM,kN];cases eI e t with
  |none=>rfl
  |some p=>simp only[Hq h e r,aL,kr]
noncomputable def DV(X:Cx)(d:fb)(f:nq)(a:jR)(args:List D)(h:J):Option (D × J):=
 (match Nat.ble args.length a.A.nt with
 |true=>cK X d f a.A a.body (kW (List.range args.length) args []) h (D × J) λg e b=>dC g (tM X b e a.res λc=>match a.sc with
   |true=>scope h b (aF c)
   |false=>some (aF c,b))
 |false=>none)
theorem a2R{f:FuncId}{a:jR}(b:F f=some a)(args:List D)(h:J):iD X F f args h=DV X (iD X F) cA a args h:=by
 rw[Qq,b];simp only[nL,DV,Hq];rfl
theorem a2T(g:eL P X.T)(i:P.follows .mixedOrders=true)(k:j4 P X X.xt)(e:∀f a,F f=some a→bV P f a):j4 P X (iD X F):=λf args c b d h=>by
 obtain⟨l,j⟩:=tO.1 h;exact Mk g i k e l f args c b d j
end
def pFA(off:Nat)(x:D):Option D:=match x with
 | .aE a=>match Nat.blt off a.length with
  |true=>some (.aE (a.drop off))
  |false=>none
 |.ptr d b c=>some (.ptr d b (c+off))
 |_=>none
def pL1(h:J)(p:D):Option D:=match p with
 |.aE a=>a.head?
 | .ptr c b d=>match h.row c b with
  |some e=>(e.drop d).head?
  |none=>none
 |_=>none
def nW(n:Nat)(cs:List D):Option D:=match Nat.ble n cs.length with
 |true=>some (.agg (cs.take n))
 |false=>none
def a7J(x y:D):Option D:=match x,y with
 | .str c,.int _ a=>if 0≤a then match c[a.toNat]? with
  |some b=>some (.int .u8 b.toNat)
  |none=>none
  else none
 |_,_=>none
def a7L(x:D):Option D:=match x with
 |.str a=>some (.int .i64 a.length)
 |_=>none
def e9(x:D):Option D:=if x.fo then some (.aE (cX x))else none
def dL(T:dR)(t n:Nat)(a:List Nat)(ds:List D):Option D:=(mS T t n a ds).bind λ(_,c,b)=>some (.sl c true b)
def jw (n:Nat) (h:J) (p v:D):Option J:=match p with
 | .ptr b a c=>match h[b]? with
  | some (.row f g e)=>match e[a]? with
   | some d=>match Nat.beq (cX v).length n&&Nat.ble (c+n) d.length&&v.fo with
    |true=>some (h.set b (.row f g (e.set a (dZ d c (cX v)))))
    |false=>none
   |none=>none
  |_=>none
 |_=>none
def kV(e V:Nat)(h:J)(x:D):Option (D × J):=if x.fo=true∧(cX x).length=V∧0<V then some (.ptr h.length 0 0,aG h e V [cX x])else none
def Ap(T:dR)(h:J)(t n:Nat)(d:List Nat)(ds:List D):Option (D × J):=(mS T t n d ds).bind λ(c,b,a)=>some (.aZ b h.length 0 a.length,aG h c b a)
def Rq(e:Nat)(h:J)(x:D):Option (D × J):=match x with
 |.str a=>if eY a.length 1=true then some (.aZ 1 h.length 0 a.length,aG h e 1 (iU a))else none
 |_=>none
def a7M(e:Nat)(j o:TI)(h:J)(x y:D):Option (D × J):=match Nat.blt 0 j.V,ix h o j y with
 | true,some []=>match x with
  |.aA=>some (.aA,h)
  |.sl g i k=>some (.sl g i k,h)
  |.aZ g i k n=>some (.aZ g i k n,h)
  |_=>none
 | true, some a=>match x with
  |.aA=>if eY a.length j.gf=true then some (.aZ j.V h.length 0 a.length,aG h e j.V a)else none
  |.sl d true b=>if d=j.V∧eY (b.length+a.length) j.gf=true then some (.aZ j.V h.length 0 (b.length+a.length),aG h e j.V (b++a))else none
  | .aZ d f 0 c=>match h[f]? with
   | some (.row l m b)=>if d=j.V∧m=d∧l=e∧c≤b.length∧eY (c+a.length) j.gf=true then
     (if c=b.length then some (.aZ j.V h.length 0 (c+a.length),aG (h.set f .dead) e j.V (b++a))
     else if c+a.length≤b.length then some (.aZ d f 0 (c+a.length),h.set f (.row l m (b.take c++a++b.drop (c+a.length))))else none)
    else none
   |_=>none
  |_=>none
 |_,_=>none
def hj(b:fb)(f:D)(a:List D)(h:J):Option (D × J):=mf (λ_=>none) b 0 (.call ⟨.value (.tmp 0), #[], #[]⟩) (f::a) h
def Z(k:Nat)(ds:List D):D:=match k with
 |0=>yW ds
 |k+1=>Z k (Al ds)
def H0(a:List (Option TI)):dR:=λc=>match a[c]? with
 |some (some b)=>some b
 |_=>none
def uJ(P:Program):Nat→List (Option TI)→Prop
 |_,[]=>True
 |k,none::r=>uJ P (k+1) r
 |k,some i::r=>(ua P k=some i∧tj P k=true)∧uJ P (k+1) r
theorem H2{P:Program}:∀(b:List (Option TI)) (k:Nat),uJ P k b→∀t i,b[t]?=some (some i)→ua P (k+t)=some i∧tj P (k+t)=true
 |[],k,_,t,i,h=>by simp at h
 | none::r,k,a,t,i,h=>by
  cases t with
  |zero=>simp at h
  | succ t =>
   have:=H2 r (k+1) a t i (by simpa using h)
   rwa [show k+1+t=k+(t+1)from by omega]at this
 | some c::r,k,a,t,i,h=>by
  cases t with
  | zero =>
   simp at h;subst h;exact a.1
  | succ t =>
   have:=H2 r (k+1) a.2 t i (by simpa using h)
   rwa [show k+1+t=k+(t+1)from by omega]at this
theorem a5g{P:Program}{b:List (Option TI)}(h:uJ P 0 b):eL P (H0 b):=λe f a=>by
 unfold H0 at a;split at a
 ·rename_i d c;injection a with a;subst a;have:=H2 b 0 h e d c
  rwa [eS]at this
 ·cases a
def yO:List (Nat × jR)→FuncId→Option jR
 |[],_=>none
 | (k,i)::r,f=>match Nat.beq k f with
  |true=>some i
  |false=>yO r f
def BF(P:Program):List (Nat × jR)→Prop
 |[]=>True
 |(k,i)::r=>bV P k i∧BF P r
theorem N7{P:Program}:∀(b:List (Nat × jR)),BF P b→∀f a,yO b f=some a→bV P f a
 |[],_,f,a,h=>by cases h
 | (k,i)::r,c,f,a,h=>by
  simp only[yO]at h;split at h
  ·rename_i d;injection h with h;subst h;have:=kI d;subst this;exact c.1
  ·exact N7 r c.2 f a h
theorem bV.of{P:Program}{f:FuncId}{a:Func}{b:jR}(g:P.funcs[f]?=some a)(d:a.body=some b.body)(h:a.ntmps=b.A.nt)(i:a.results.toList=b.res)(e:∀(c:Array Value) (w:World),(callFunc f c).run P w = .ok (.enter f c) w):bV P f b:=⟨⟨a,g,d,h,i⟩,e⟩
theorem SX{P:Program}{f:FuncId}(e:∀(d:Array Value) (w:World),(callFunc f d).run P w=((Extern.BytealgCompare.compare d).run P w).andThen λv w' =>.ok (.value v) w')
  {a b:List UInt8} {g:Gh} {h:J} {vs:List Value} (hi:Inv g h) (i:dP g vs [.str a,.str b]):kB P f vs g h (.int .i64 (Lib.compareBytes a b)):=by
 cases i with
 | cons j c=>cases c with
  | cons k c=>cases c with
   | nil =>
    cases j;cases k;refine .inr ⟨.int .i64 (Lib.compareBytes a b),g,?_,eA.refl g,hi,.int _ _⟩;rw[e,Lib.run_compareString];simp[Result.andThen]
def xI(args:List D)(h:J):Option (D × J):=match args with
 |[.str a,.str b]=>some (.int .i64 (Lib.compareBytes a b),h)
 |_=>none
end Go.Pi
namespace Go.Eng
abbrev xK:=@decide_eq_true_eq
end Go.Eng
namespace Go.Eng
open Go.ChangeShapes Go.WideShapes Go.ChangeAt Go.RowKit
def Gw.all(w:World)(N:Nat):Gw:=⟨w,λa=>if a<w.heap.size then N else 0,λa b=>by rw[cC (by omega)]⟩
theorem Rt{n:Int}(h:(Lit.int .u8 n).wf=true):0≤n∧n<256:=by
 simp only[Lit.wf,gJ,xK]at h;have a:IntKind.min .u8=0:=rfl;have b:IntKind.max .u8=255:=rfl;omega
section
variable {H:Type} {enc:TypeId × Value→H} {P:Program} {W:World}
end
theorem dM{P:Program}{f:FuncId}{args:Array Value}{W:World}{N:Nat}{u:Value}(h:n2 P f args W (xj B3 (Gw.all W N) λv _=>v=u)):Calls P f args W λe w'=>e = .returned u∧Below W.heap.size W w':=
 wH h (by
  rintro e w' ⟨v,rfl,b,rfl,a,rfl⟩;exact⟨rfl,a.below⟩)
end Go.Eng
namespace Go.Pi
open Go.Eng Go.ChangeShapes Go.WideShapes Go.ChangeAt Go.RowKit
def Gh.all(w:World):Gh:=⟨w,[],λ_=>False⟩
theorem Z9(w:World):Inv (Gh.all w) []:=⟨rfl,λb c f e a=>by simp at a,λb j c f g l e k d i a=>by simp at a,λh a=>a.elim,λb d a=>by simp[Gh.all]at a⟩
theorem eA.below{g:Gh}{W:World}(h:eA (Gh.all W) g):Below W.heap.size W g.w:=⟨h.os,h.tape,h.output,h.size,λb a=>(h.fz b ⟨a,λh=>h⟩).2⟩
def ints(k:IntKind)(zs:List Int):List (List D):=zs.map λa=>[.int k a]
def kC(k:IntKind)(zs:List Int)(d:D):Prop:=(d = .aA∧zs=[])∨d = .sl 1 false (ints k zs)
section
variable {H:Type} {enc:TypeId × Value→H} {P:Program} {W:World}
theorem Zm{t e:TypeId}{k:IntKind}{a:Option Addr}{n cap:Nat}{d:DataW H}{p:List MemPlace}(Q:P.underlying t=some (.slice e))(E:P.underlying e=some (.int k))(C:P.cellsOf e=1)
  (h:DataW.Trod enc P W 0 (λ_=>true) true t (.slice a n cap) d p):∃(zs:List Int) (x:D),aV (Gh.all W) (.slice a n cap) x∧kC k zs x∧zs.length≤9223372036854775807∧(∀z∈zs,(Lit.int k z).wf=true)∧((d = .nil∧zs=[])∨∃T,d = .slice (lits k zs) T):=by
 obtain⟨aa,F⟩:=h;rcases open_ints Q E C F with⟨j,s⟩|⟨x,ad,X,zs,j,_,I,L,m,s,r,R⟩
 ·simp[Value.cells]at j;obtain⟨rfl,rfl,rfl⟩:=j;exact⟨[],.aA,.aA,.inl ⟨rfl,rfl⟩,by simp,(λz m=>by cases m),.inl ⟨fR Prod.fst s,rfl⟩⟩
 ·simp [Value.cells]at j;obtain⟨rfl,rfl,rfl⟩:=j;have ac:zs.length=cap:=by simpa using m
  have M:cap≤9223372036854775807:=by simpa[maxLen]using L
  have K:(zs.take n).length=n:=by rw[lq];omega
  have y:∀(b:Nat) (f:List D),(ints k (zs.take n))[b]?=some f→b<n∧f=[.int k (zs.getD b 0)]:=λb f c=>by
   simp only[ints,eE]at c;cases l:(zs.take n)[b]? with
   |none=>rw[l]at c;cases c
   | some ae =>
    rw[l]at c;simp only[hU,mJ]at c;have o:b<n:=by
     have:=(bR.1 l).1;omega
    rw[gw,bO o]at l;exact⟨o,by rw[← c,sw,l];rfl⟩
  refine⟨zs.take n,_,.sl x n cap 1 false (ints k (zs.take n)) (by simp only[ints,fN];exact K) I M (λh=>by cases h) (by decide) (λf A=>?_) (λN=>?_) (λb _ =>.int k (zs.getD b 0)) (λb f c g d i=>?_) (λb f c g d i=>rfl) (λb f c g d i=>?_),.inr rfl,by omega,λz m=>R z (fG m),.inr ⟨_,fR Prod.fst s⟩⟩
  ·simp only[ints,g8]at A;obtain⟨z,_,rfl⟩:=A;rfl
  ·have ab:0<n:=by
     rcases ot n with q|q
     ·subst q;exact absurd (by simp[ints]) N
     ·exact q
   obtain⟨w,B,v⟩:=x;have pD:=r 0 (by omega);have u:v=none:=by simpa[Addr.add]using World.cell?_spot pD
   subst u;refine⟨rfl,?_,λh=>h⟩;have:W.cell? ⟨w,B,none⟩=some (.int k (zs.getD 0 0)):=by simpa[Addr.add]using pD
   exact World.block_lt_of_cell? W _ this
  ·obtain⟨o,rfl⟩:=y b f c;have G:g=0:=by
    cases g with
    |zero=>rfl
    |succ g=>simp at i
   subst G;obtain⟨w,B,v⟩:=x;have u:v=none:=by simpa[Addr.add]using World.cell?_spot (r 0 (by omega))
   subst u;have pD:=r b (by omega);rw[km]at pD;simpa[Gh.all]using pD
  ·obtain⟨o,rfl⟩:=y b f c;cases g with
   |zero=>simp at i;subst i;exact .int k _
   |succ g=>simp at i
theorem Oj{t e:TypeId}{k:IntKind}{a:Option Addr}{n cap:Nat}{d:DataW H}{p:List MemPlace}(l:P.underlying t=some (.slice e))(j:P.underlying e=some (.int k))(i:P.cellsOf e=1)
  (h:DataW.Trod enc P W 0 (λ_=>true) true t (.slice a n cap) d p):∃(zs:List Int) (x:D),aV (Gh.all W) (.slice a n cap) x∧kC k zs x∧zs.length≤9223372036854775807∧∀z∈zs,(Lit.int k z).wf=true:=by
 obtain⟨zs,x,b,c,f,g,_⟩:=Zm l j i h;exact⟨zs,x,b,c,f,g⟩
end
theorem a2O{P:Program}{X:Cx}{R:fb}(i:j4 P X R){f:FuncId}(k:∀(b:Array Value) (w:World),(callFunc f b).run P w = .ok (.enter f b) w){args:List D}{d:D}{h':J}(h:R f args []=some (d,h')){W:World}(l:jn (Gh.all W) X.gl){vs:List Value}(m:dP (Gh.all W) vs args){u:Value}(n:∀g v,aV g v d→v=u):
  Calls P f vs.toArray W λe w'=>e = .returned u∧Below W.heap.size W w':=
 wH (show n2 P f vs.toArray W _ from by
  rcases i _ _ _ _ _ h (Gh.all W) vs (Z9 W) l m with⟨_,a⟩|⟨v,c,a,_⟩
  ·exact a
  ·have:=(k vs.toArray (Gh.all W).w).symm.trans a;injection this with this;cases this) (by
  rintro e w' ⟨v,rfl,c,rfl,j,_,o⟩;rw[n c v o];exact⟨rfl,j.below⟩)
theorem a2K{g:Gh}{v:Value}{b:Bool}(h:aV g v (.bool b)):v = .bool b:=by cases h;rfl
theorem fO(h:J)(T V:Nat)(rows:List (List D)):(aG h T V rows)[h.length]?=some (.row T V rows):=by
 unfold aG;rw[gO (bB _)];simp
theorem eT(h:J)(T V:Nat)(rows:List (List D)){o:Nat}(a:o<h.length):(aG h T V rows)[o]?=h[o]?:=by
 unfold aG;rw[fg a]
end Go.Pi
namespace Go.Pi
open Go.Eng
open Option renaming bind_some → a7N
@[simp] theorem bs{α b:Type}(a:α)(f:α→Option b):(some a).bind f=f a:=id rfl
@[simp] theorem cP(d:D):aF [d]=d:=id rfl
@[simp] theorem gp(a b:D)(r:List D):aF (a::b::r) = .bD (a::b::r):=id rfl
@[simp] theorem aK{R:Type}(b:Bool)(x y:Option R):S (.bool b) x y=if b=true then x else y:=by cases b<;>exact id rfl
@[simp] theorem gB(b:Bool):fS .not (.bool b)=some (.bool (!b)):=id rfl
@[simp] theorem bW(b:Bool)(x y:D):cV (.bool b) x y=some (if b=true then x else y):=by cases b<;>exact id rfl
@[simp] theorem bZ(b c:Bool)(x:Option D):W (.bool b) c x=if b=c then x else some .bA:=by cases b<;>cases c<;>exact id rfl
@[simp] theorem fq(c:Bool)(x:Option D):W .bA c x=some .bA:=id rfl
@[simp] theorem pC(c:Bool)(h:J)(x:Option (D × J)):gQ .bA c h x=some (.bA,h):=id rfl
@[simp] theorem gk(b c:Bool)(h:J)(x:Option (D × J)):gQ (.bool b) c h x=if b=c then x else some (.bA,h):=by cases b<;>cases c<;>exact id rfl
@[simp] theorem cN{R:Type}(n:Option R)(k:Ex→Option R):cI .aQ n k=n:=id rfl
@[simp] theorem jG{R:Type}(n:Option R)(k:Ex→Option R):cI .ret n k=k .ret:=id rfl
@[simp] theorem a5Z{R:Type}(i:Nat)(n:Option R)(k:Ex→Option R):cI (.ext i) n k=k (.ext i):=id rfl
@[simp] theorem lz{R:Type}(r:Option R):dC .aQ r=r:=id rfl
@[simp] theorem jX{R:Type}(r:Option R):dC .ret r=r:=id rfl
@[simp] theorem ga(i:Nat):bX i .aQ = .aQ:=id rfl
@[simp] theorem jQ(i:Nat):bX i .ret = .ret:=id rfl
@[simp] theorem dA(i:Nat):bX i (.ext i) = .aQ:=by simp[-a7N,bX]
@[simp] theorem aW(d:D)(r:List D):Z 0 (d::r)=d:=id rfl
@[simp] theorem bL(k:Nat)(d:D)(r:List D):Z (k+1) (d::r)=Z k r:=id rfl
@[simp] theorem iN{R:Type}(p:Prop)(x:Option R)(h:p):dY p x=x:=by unfold dY;exact bO h
@[simp] theorem re(b:fb)(f:FuncId)(a xs ys:List D)(h:J):hj b (.fn (.func f) xs ys) a h=b f (xs++a++ys) h:=id rfl
@[simp] theorem a7H(s:List UInt8):e9 (.str s)=some (.aE [.str s]):=id rfl
@[simp] theorem a2D(k:IntKind)(n:Int):e9 (.int k n)=some (.aE [.int k n]):=id rfl
@[simp] theorem a7E(b:Bool):e9 (.bool b)=some (.aE [.bool b]):=id rfl
@[simp] theorem gq(cs:List D):e9 (.agg cs)=some (.aE cs):=id rfl
@[simp] theorem a7F:e9 .aA=some (.aE [.aA]):=id rfl
@[simp] theorem a7G(z:Nat)(f:Bool)(r:List (List D)):e9 (.sl z f r)=some (.aE [.sl z f r]):=id rfl
section
variable (T:dR) (t:Nat) (k:IntKind) (a b:Int) (s u:List UInt8) (p q:Bool)
@[simp] theorem bS:O T .lss t (.int k a) (.int k b)=some (.bool (decide (a<b))):=by simp[-a7N,O,jM]
@[simp] theorem iw:O T .leq t (.int k a) (.int k b)=some (.bool (decide (a≤b))):=by simp[-a7N,O,jM]
@[simp] theorem dE:O T .gtr t (.int k a) (.int k b)=some (.bool (decide (b<a))):=by simp[-a7N,O,jM]
@[simp] theorem mO:O T .geq t (.int k a) (.int k b)=some (.bool (decide (b≤a))):=by simp[-a7N,O,jM]
@[simp] theorem e8:O T .eql t (.int k a) (.int k b)=some (.bool (decide (a=b))):=by simp[-a7N,O,jM];rfl
@[simp] theorem dH:O T .neq t (.int k a) (.int k b)=some (.bool (decide (a≠b))):=by simp[-a7N,O,jM,bne];rfl
@[simp] theorem cO:O T .add t (.int k a) (.int k b)=some (.int k (k.wrap (a+b))):=by simp[-a7N,O,jM]
@[simp] theorem eB:O T .sub t (.int k a) (.int k b)=some (.int k (k.wrap (a - b))):=by simp[-a7N,O,jM]
@[simp] theorem oJ:O T .mul t (.int k a) (.int k b)=some (.int k (k.wrap (a*b))):=by simp[-a7N,O,jM]
@[simp] theorem ML:O T .quo t (.int k a) (.int k b)=if b=0 then none else some (.int k (k.wrap (a.tdiv b))):=by simp[-a7N,O,jM]
@[simp] theorem qk:O T .rem t (.int k a) (.int k b)=if b=0 then none else some (.int k (a.tmod b)):=by simp[-a7N,O,jM]
@[simp] theorem kc:O T .eql t (.str s) (.str u)=some (.bool (s==u)):=id rfl
@[simp] theorem ly:O T .neq t (.str s) (.str u)=some (.bool (!(s==u))):=id rfl
@[simp] theorem Tk:O T .lss t (.str s) (.str u)=some (.bool (Op.bytesLess s u)):=id rfl
end
@[simp] theorem nB(n:Nat)(cs:List D)(h:cs.length=n):gM n (.agg cs)=some (.aE cs):=by subst h;simp[-a7N,gM,D.fo,cX]
@[simp] theorem fU(i:Nat)(ds:List D):cT i (.bD ds)=ds[i]?:=id rfl
@[simp] theorem CK (k:IntKind) (a b:Int):nG (.int k a) (.int k b)=some (.int k (if a≤b then a else b)):=by
 first|rfl|(simp[-a7N,nG];done)|(simp only[nG];split<;>simp_all [-a7N]<;>omega)
theorem bJ{n:Int}(a : -9223372036854775808≤n)(b:n≤9223372036854775807):IntKind.wrap .i64 n=n:=by
 unfold IntKind.wrap;simp[-a7N,IntKind.signed,IntKind.bits,IntKind.min,IntKind.max];omega
theorem vB{α:Type}(a:List α)(p:α)(b:List α):(a++p::b)[a.length]?=some p:=by simp
def aI{α:Type}(z:Nat)(f:α→List D)(l:List α)(d:D):Prop:=(d = .aA∧l=[])∨∃a,d = .sl z a (l.map f)
theorem aI.aA{α:Type}(z:Nat)(f:α→List D):aI z f [] .aA :=.inl ⟨rfl,rfl⟩
theorem aI.mk{α:Type}(z:Nat)(f:α→List D)(l:List α)(a:Bool):aI z f l (.sl z a (l.map f)) :=.inr ⟨_,rfl⟩
theorem a1O{B:List D→J→Option bK}(c:Nat→List D→J→Prop)(d:Ex→List D→J→Prop)
  (step:∀k ds h,c k ds h→∃x a h',B ds h=some (x,a,h')∧((x = .aQ∧∃b,b<k∧c b a h')∨(x ≠ .aQ∧d x a h'))) :
  ∀(k:Nat) (ds:List D) (h:J),c k ds h→∃x a h',cA B ds h=some (x,a,h')∧d x a h':=by
 intro k
 induction k using Nat.strongRecOn with
 | _ k n =>
  intro ds h f;obtain⟨x,a,h',e,m⟩:=step k ds h f;rw[iX,e];rcases m with⟨rfl,b,j,g⟩|⟨l,i⟩
  ·exact n b j a h' g
  ·refine⟨x,a,h',?_,i⟩;cases x with
   |aQ=>exact absurd rfl l
   |ext o=>rfl
   |ret=>rfl
end Go.Pi
namespace Go.Eng
abbrev je:=@List.take_length
abbrev mH:=@Nat.le_of_eq
abbrev nm:=@List.append_nil
abbrev q0:=@Bool.and_self
abbrev uB:=@List.getElem_mem
abbrev uC:=@List.map_drop
abbrev B4:=@Nat.beq_refl
abbrev B6:=@Nat.mul_one
abbrev Ha:=@of_decide_eq_true
end Go.Eng
namespace Go.Pi
open Go.Eng
theorem jD{n b:Nat}(h:n*b≤140737488355328)(h2:n≤9223372036854775807):eY n b=true:=by
 simp only[eY,gJ];exact⟨jK h,jK h2⟩
def aR(h:J)(n0 e z:Nat)(rows:List (List D))(d:D):Prop:=(d = .aA∧rows=[])∨∃a,n0≤a∧d = .aZ z a 0 rows.length∧h[a]?=some (.row e z rows)
theorem aR.aA(h:J)(n0 e z:Nat):aR h n0 e z [] .aA :=.inl ⟨rfl,rfl⟩
def D.eC(d:D)(b:Nat):Prop:=∃c a,d = .aZ c b 0 a
theorem aR.cL{h h':J}{n0 e z:Nat}{rows:List (List D)}{d:D}(a:aR h n0 e z rows d)(i:∀b,n0≤b→d.eC b→h'[b]?=h[b]?):aR h' n0 e z rows d:=by
 rcases a with a|⟨f,c,a,g⟩
 ·exact .inl a
 ·exact .inr ⟨f,c,a,by rw[i f c ⟨_,_,a⟩];exact g⟩
theorem aR.from{h:J}{n0 b e z:Nat}{rows:List (List D)}{d:D}(g:b≤n0)(a:aR h n0 e z rows d):aR h b e z rows d:=by
 rcases a with a|⟨f,i,a,c⟩
 ·exact .inl a
 ·exact .inr ⟨f,by omega,a,c⟩
theorem aR.lt{h:J}{n0 e z:Nat}{rows:List (List D)}{d:D}(a:aR h n0 e z rows d){b:Nat}(i:d.eC b):n0≤b∧b<h.length:=by
 obtain⟨l,j,rfl⟩:=i;rcases a with⟨a,_⟩|⟨k,g,a,f⟩
 ·cases a
 ·injection a with _ c;subst c;exact⟨g,(bR.1 f).1⟩
theorem RU{T:dR}{t e:Nat}{i j:TI}(u:T t=some i)(hi:i.td = .sl e)(o:T e=some j)(w:0<j.V){h:J}{n0:Nat}(k:n0≤h.length){rows:List (List D)}{x y:D}(m:aR h n0 e j.V rows x)
  {ys:List (List D)} (v:gA h j.V y=some ys) (d:eY (rows.length+ys.length) j.gf=true) :
  ∃g h',dB T h t t x y=some (g,h')∧aR h' n0 e j.V (rows++ys) g∧h.length≤h'.length∧(∀b,b<h.length→¬x.eC b→h'[b]?=h[b]?)∧∀b,g.eC b→x.eC b∨h.length≤b:=by
 have z:Nat.blt 0 j.V=true:=jK w;have s:ix h i j y=some ys:=by simp[ix,hi,v]
 unfold dB;simp only[u,hi,o,z,s];cases ys with
 | nil =>
  rcases m with⟨rfl,rfl⟩|⟨f,l,rfl,c⟩
  ·exact⟨_,_,rfl,.inl ⟨rfl,rfl⟩,bB _,λ_ _ _=>rfl,λb a =>.inl a⟩
  ·exact⟨_,_,rfl,by rw[nm];exact .inr ⟨f,l,rfl,c⟩,bB _,λ_ _ _=>rfl,λb a =>.inl a⟩
 | cons E F =>
  rcases m with⟨rfl,rfl⟩|⟨f,l,rfl,c⟩
  ·simp only[e6,eS]at d;simp only[d,aN];refine⟨_,_,rfl,.inr ⟨h.length,k,by simp,by simp[aG]⟩,by simp[aG],λb a _=>by simp only[aG];rw[fg a],λb a =>.inr ?_⟩;obtain⟨B,A,a⟩:=a;injection a with _ n;omega
  ·have C:=(bR.1 c).1;simp only[c,d,qT,and_true,bB,aN];refine⟨_,_,rfl,.inr ⟨h.length,k,by simp,by simp[aG]⟩,by simp[aG],λb a q=>?_,λb a =>.inr ?_⟩
   ·have r:f≠b:=λp=>q ⟨_,_,by rw[p]⟩
    simp only[aG];rw[fg (by simpa using a),kZ r]
   ·obtain⟨B,A,a⟩:=a;injection a with _ n;omega
theorem RT{T:dR}{t e:Nat}{i j:TI}(q:T t=some i)(hi:i.td = .sl e)(m:T e=some j)(s:0<j.V){h:J}{n0:Nat}(p:n0≤h.length){rows:List (List D)}{x y:D}(d:aR h n0 e j.V rows x)
  {ys:List (List D)} (r:gA h j.V y=some ys) (o:eY (rows.length+ys.length) j.gf=true) :
  ∃b h',dB T h t t x y=some (b,h')∧aR h' n0 e j.V (rows++ys) b∧h.length≤h'.length∧(∀a,a<n0→h'[a]?=h[a]?)∧(∀a,a<h.length→¬x.eC a→h'[a]?=h[a]?)∧∀a,b.eC a→x.eC a∨h.length≤a:=by
 obtain⟨b,h',f,g,k,c,l⟩:=RU q hi m s p d r o;exact⟨b,h',f,g,k,λa u=>c a (by omega) λn=>by have:=(d.lt n).1;omega,c,l⟩
@[simp] theorem hC(h:J)(z:Nat)(f:Bool)(rows:List (List D)):gA h z (.sl z f rows)=some rows:=by simp[gA]
def bM(o:Nat)(h h':J):Prop:=h'.length=h.length∧∀a,a≠o→h'[a]?=h[a]?
theorem bM.refl(o:Nat)(h:J):bM o h h:=⟨rfl,λ_ _=>rfl⟩
theorem bM.trans{o:Nat}{h h' c:J}(a:bM o h h')(b:bM o h' c):bM o h c:=⟨b.1.trans a.1,λe d=>(b.2 e d).trans (a.2 e d)⟩
def lL(n0 o:Nat)(h h':J):Prop:=h.length≤h'.length∧∀a,a<n0→a≠o→h'[a]?=h[a]?
theorem lL.refl(n0 o:Nat)(h:J):lL n0 o h h:=⟨bB _,λ_ _ _=>rfl⟩
theorem lL.trans{n0 o:Nat}{h h' c:J}(a:lL n0 o h h')(b:lL n0 o h' c):lL n0 o h c:=⟨fD a.1 b.1,λf e d=>(b.2 f e d).trans (a.2 f e d)⟩
theorem bM.grow{n0 o:Nat}{h h':J}(a:bM o h h'):lL n0 o h h':=⟨mH a.1.symm,λc _ b=>a.2 c b⟩
@[simp] theorem nM(n0:Nat)(h:J)(n:Nat)(k:IntKind)(i:Int):cS n0 h n (.int k i) = .int k i:=by cases n<;>rfl
@[simp] theorem yS(n0:Nat)(h:J)(n:Nat)(s:List UInt8):cS n0 h n (.str s) = .str s:=by cases n<;>rfl
@[simp] theorem Y9(n0:Nat)(h:J)(n:Nat)(b:Bool):cS n0 h n (.bool b) = .bool b:=by cases n<;>rfl
@[simp] theorem vA(n0:Nat)(h:J)(n:Nat):cS n0 h n .aA = .aA:=by cases n<;>rfl
@[simp] theorem oQ(n0:Nat)(h:J)(n:Nat)(cs:List D):cS n0 h (n+1) (.agg cs) = .agg (cs.map (cS n0 h n)):=rfl
@[simp] theorem pB(n0:Nat)(h:J)(n:Nat)(cs:List D):cS n0 h (n+1) (.bD cs) = .bD (cs.map (cS n0 h n)):=rfl
theorem Zd(n0:Nat)(h:J)(n z:Nat)(f:Bool)(rows:List (List D)):cS n0 h (n+1) (.sl z f rows) = .sl z f (rows.map λrow=>row.map (cS n0 h n)):=rfl
theorem yR{n0:Nat}{h:J}{o:Nat}{T z:Nat}{rows:List (List D)}(b:n0≤o)(a:h[o]?=some (.row T z rows))(n s r k:Nat):cS n0 h (n+1) (.aZ s o r k) = .sl s false (((rows.drop r).take k).map λrow=>row.map (cS n0 h n)):=by
 have:Nat.ble n0 o=true:=jK b;simp only[cS,this,a]
theorem v3{α:Type}{f:α→α}:∀{l:List α},(∀x∈l,f x=x)→l.map f=l
 |[],_=>rfl
 |x::l,h=>by rw[fP,h x (by simp),v3 λy a=>h y (by simp[a])]
theorem Oe{n0:Nat}{h:J}{n z:Nat}{f:Bool}{rows:List (List D)}(a:∀row∈rows,∀d∈row,cS n0 h n d=d):cS n0 h (n+1) (.sl z f rows) = .sl z f rows:=by
 rw[Zd,v3 λrow b=>v3 (a row b)]
theorem Zc{n0:Nat}{h:J}{n a e z:Nat}{rows:List (List D)}{d:D}(b:aR h a e z rows d)(i:n0≤a)(f:∀row∈rows,∀d∈row,cS n0 h n d=d):(cS n0 h (n+1) d = .aA∧rows=[])∨cS n0 h (n+1) d = .sl z false rows:=by
 rcases b with⟨rfl,rfl⟩|⟨k,j,rfl,c⟩
 ·exact .inl ⟨rfl,rfl⟩
 ·right;rw[yR (by omega) c];simp only[il,je];rw[v3 λrow g=>v3 (f row g)]
theorem gS{n0:Nat}{h:J}{n g e z:Nat}{α:Type}{f:α→List D}{l:List α}{d:D}(c:aR h g e z (l.map f) d)(k:n0≤g)(m:∀a∈l,∀d∈f a,cS n0 h n d=d):aI z f l (cS n0 h (n+1) d):=by
 rcases Zc c k (n:=n) (λp o d c=>by
  obtain⟨a,j,rfl⟩:=g8.1 o;exact m a j d c)with⟨b,i⟩|b
 ·rw[b];exact .inl ⟨rfl,by simpa using i⟩
 ·rw[b];exact .mk _ _ _ _
theorem iJ{n0:Nat}{h:J}{n z:Nat}{α:Type}{f:α→List D}{l:List α}{d:D}(b:aI z f l d)(e:∀a∈l,∀d∈f a,cS n0 h n d=d):cS n0 h (n+1) d=d:=by
 rcases b with⟨rfl,_⟩|⟨i,rfl⟩
 ·rfl
 ·exact Oe λj g d b=>by
    obtain⟨a,c,rfl⟩:=g8.1 g;exact e a c d b
theorem e7{n z:Nat}{α:Type}{f:α→List D}{l:List α}{d:D}(b:aI z f l d)(e:∀a∈l,∀d∈f a,Ok n d):Ok n d:=by
 rcases b with⟨rfl,_⟩|⟨h,rfl⟩
 ·exact .aA
 ·exact .sl _ _ _ λi g d b=>by
    obtain⟨a,c,rfl⟩:=g8.1 g;exact e a c d b
theorem fx{z:Nat}{α:Type}{f:α→List D}{l:List α}{d:D}(a:aI z f l d):d.one=true:=by
 rcases a with⟨rfl,_⟩|⟨b,rfl⟩<;>rfl
theorem jj{h:J}{n0 e z:Nat}{rows:List (List D)}{d:D}(a:aR h n0 e z rows d):d.one=true:=by
 rcases a with⟨rfl,_⟩|⟨b,_,rfl,_⟩<;>rfl
theorem a4L{h h2:J}{d d':D}{o:Nat}(j:cS h.length h2 4 d=d')(m:Ok h.length d')(c:lL h.length o h h2)(l:∀T V rows,h2[o]?=some (.row T V rows)→∀row∈rows,∀d∈row,Ok h.length d):
  scope h h2 d=some (d',h2.take h.length)∧bM o h (h2.take h.length)∧∀a,a<h.length→(h2.take h.length)[a]?=h2[a]?:=by
 have k:h.length≤h2.length:=c.1;have i:∀a,a<h.length→(h2.take h.length)[a]?=h2[a]?:=λa b=>by rw[gw,bO b]
 refine⟨?_,⟨by simp[k],λa b=>?_⟩,i⟩
 ·unfold scope;rw[j,iN];refine⟨m,λa T V rows b g=>?_⟩;by_cases f:a=o
  ·subst f;exact .inr (l T V rows g)
  ·left;rw[← c.2 a b f];exact g
 ·by_cases e:a<h.length
  ·rw[i a e];exact c.2 a e b
  ·rw[qc (by simp;omega),qc (by omega)]
theorem ff{h h2:J}{d d':D}(e:cS h.length h2 4 d=d')(f:Ok h.length d')(k:h.length≤h2.length)(c:∀a,a<h.length→h2[a]?=h[a]?):scope h h2 d=some (d',h):=by
 have i:h2.take h.length=h:=BN λa=>by
  rw[gw];split
  ·rename_i b;exact c a b
  ·rename_i b;rw[qc (by omega)]
 unfold scope;rw[e,i,iN];exact⟨f,λa j m l b g =>.inl (by rw[← c a b];exact g)⟩
theorem mB{z:Nat}{α:Type}{f:α→List D}{l:List α}{d:D}(h:J)(a:aI z f l d):gA h z d=some (l.map f):=by
 rcases a with⟨rfl,rfl⟩|⟨b,rfl⟩
 ·rfl
 ·simp
theorem qJ{α:Type}(l:List α)(v:Int)(a:0≤v)(b:v<l.length):∃s,s∈l∧l[v.toNat]?=some s:=by
 have:v.toNat<l.length:=by omega
 exact⟨l[v.toNat],uB _,dG this⟩
theorem Zl{k:IntKind}{zs:List Int}{d:D}(a:kC k zs d)(n:Nat):Ok n d:=by
 rcases a with⟨rfl,_⟩|rfl
 ·exact .aA
 ·refine .sl _ _ _ λc b d a=>?_
  simp only[ints,g8]at b;obtain⟨e,_,rfl⟩:=b;simp at a;subst a;exact .int _ _
theorem aR.same{h h':J}{n0 e z o:Nat}{rows:List (List D)}{d:D}(a:aR h n0 e z rows d)(b:bM o h h')(f:o<n0):aR h' n0 e z rows d:=a.cL λc g _=>b.2 c (by omega)
def Wp{α:Type}(x:Option α)(Q:α→Prop):Prop:=∃a,x=some a∧Q a
theorem Wp.some{α:Type}{a:α}{Q:α→Prop}(h:Q a):Wp (some a) Q:=⟨a,rfl,h⟩
theorem Wp.bind{α b:Type}{x:Option α}{f:α→Option b}{P:α→Prop}{Q:b→Prop}(h:Wp x P)(k:∀a,P a→Wp (f a) Q):Wp (x.bind f) Q:=by
 obtain⟨a,rfl,c⟩:=h;exact k a c
theorem Wp.step{α b:Type}{x:Option α}{a:α}{f:α→Option b}{Q:b→Prop}(h:x=Option.some a)(k:Wp (f a) Q):Wp (x.bind f) Q:=by
 subst h;exact k
theorem Wp.dF{α:Type}{b:Bool}{x y:Option α}{Q:α→Prop}(a:b=true→Wp x Q)(c:b=false→Wp y Q):Wp (S (.bool b) x y) Q:=by
 cases b
 ·exact c rfl
 ·exact a rfl
theorem Wp.join{α c:Type}{b:Bool}{x y:Option α}{f:α→Option c}{P:α→Prop}{Q:c→Prop}(d:b=true→Wp x P)(e:b=false→Wp y P)(k:∀a,P a→Wp (f a) Q):Wp ((S (.bool b) x y).bind f) Q:=Wp.bind (Wp.dF d e) k
theorem Wp.mono{α:Type}{x:Option α}{P Q:α→Prop}(h:Wp x P)(k:∀a,P a→Q a):Wp x Q:=by
 obtain⟨a,rfl,b⟩:=h;exact⟨a,rfl,k a b⟩
theorem Wp.dY{α:Type}{p:Prop}{x:Option α}{Q:α→Prop}(a:p)(h:Wp x Q):Wp (dY p x) Q:=by
 rw[iN p x a];exact h
theorem Wp.loop{α:Type}{B:List D→J→Option bK}{ds:List D}{h:J}{f:bK→Option α}{Q:α→Prop}(a:Nat→List D→J→Prop)(c:bK→Prop)(n:Nat)(l:a n ds h)
  (step:∀k ds h,a k ds h→Wp (B ds h) λr=>(r.1 = .aQ∧∃j,j<k∧a j r.2.1 r.2.2)∨(r.1 ≠ .aQ∧c r)) (k:∀r,c r→Wp (f r) Q):Wp ((cA B ds h).bind f) Q:=by
 obtain⟨b,g,i,d,e⟩:=a1O a (λb ds h=>c (b,ds,h)) (λk ds h m=>by
  obtain⟨⟨b,g,i⟩,d,e⟩:=step k ds h m;exact⟨b,g,i,d,e⟩) n ds h l
 rw[d];exact k _ e
theorem oA{T:dR}{t e:Nat}{i j:TI}(r:T t=Option.some i)(hi:i.td = .sl e)(o:T e=Option.some j)(v:0<j.V){h:J}{n0:Nat}(q:n0≤h.length){rows:List (List D)}{x y:D}(s:aR h n0 e j.V rows x)
  {ys:List (List D)} (u:gA h j.V y=Option.some ys) (p:eY (rows.length+ys.length) j.gf=true) {c:Type} {f:D × J→Option c} {Q:c→Prop}
  (k:∀b h',aR h' n0 e j.V (rows++ys) b→h.length≤h'.length→(∀a,a<n0→h'[a]?=h[a]?)→(∀a,a<h.length→¬x.eC a→h'[a]?=h[a]?)→(∀a,b.eC a→x.eC a∨h.length≤a)→Wp (f (b,h')) Q):Wp ((dB T h t t x y).bind f) Q:=by
 obtain⟨b,h',e,d,g,l,m,n⟩:=RT r hi o v q s u p;rw[e];exact k b h' d g l m n
theorem kx{n:Nat}{h:J}{o T V kk off:Nat}{rows:List (List D)}{row:List D}{v:D}(a:h[o]?=Option.some (.row T V rows))(l:rows[kk]?=Option.some row)(m:(cX v).length=n)(g:off+n≤row.length)(e:v.fo=true){b:Type}{f:J→Option b}{Q:b→Prop}
  (k:∀h',h'[o]?=Option.some (.row T V (rows.set kk (dZ row off (cX v))))→bM o h h'→Wp (f h') Q):Wp ((jw n h (.ptr o kk off) v).bind f) Q:=by
 have i:=(bR.1 a).1;have c:jw n h (.ptr o kk off) v=Option.some (h.set o (.row T V (rows.set kk (dZ row off (cX v))))):=by
  subst m;have d:Nat.ble (off+(cX v).length) row.length=true:=jK g;simp only[jw,a,l,B4,d,e,Bool.and_true]
 rw[c];exact k _ (by simp[i]) ⟨by simp,λp j=>kZ (iG j)⟩
@[simp] theorem xH(T:dR)(t:Nat)(k:IntKind)(a b:Int):O T .and t (.int k a) (.int k b)=Option.some (.int k (k.wrap (BitVec.ofInt k.bits a &&& BitVec.ofInt k.bits b).toNat)):=by simp[O,jM]
@[simp] theorem uQ(T:dR)(t:Nat)(k:IntKind)(a b:Int):O T .or t (.int k a) (.int k b)=Option.some (.int k (k.wrap (BitVec.ofInt k.bits a ||| BitVec.ofInt k.bits b).toNat)):=by simp[O,jM]
@[simp] theorem uS(T:dR)(t:Nat)(k:IntKind)(a b:Int):O T .xor t (.int k a) (.int k b)=Option.some (.int k (k.wrap (BitVec.ofInt k.bits a ^^^ BitVec.ofInt k.bits b).toNat)):=by simp[O,jM]
@[simp] theorem Tm(k:IntKind)(a:Int):fS .neg (.int k a)=Option.some (.int k (k.wrap (0 - a))):=id rfl
@[simp] theorem MS(k:IntKind)(a:Int):fS .xor (.int k a)=Option.some (.int k (k.wrap (BitVec.ofInt k.bits (if k.signed then -1 else k.max) ^^^ BitVec.ofInt k.bits a).toNat)):=id rfl
theorem RV{T:dR}{t e:Nat}{i j:TI}(r:T t=Option.some i)(hi:i.td = .sl e)(k:T e=Option.some j)(u:0<j.V){h:J}{o:Nat}{rows a ys:List (List D)}{y:D}(b:h[o]?=Option.some (.row e j.V (rows++a)))
  (s:gA h j.V y=Option.some ys) (m:eY (rows.length+ys.length) j.gf=true) (c:ys.length≤a.length) :
  ∃h',dB T h t t (.aZ j.V o 0 rows.length) y=Option.some (.aZ j.V o 0 (rows++ys).length,h')∧h'[o]?=Option.some (.row e j.V ((rows++ys)++a.drop ys.length))∧bM o h h':=by
 have v:Nat.blt 0 j.V=true:=jK u;have q:ix h i j y=Option.some ys:=by simp[ix,hi,s]
 have n:=(bR.1 b).1;unfold dB;simp only[r,hi,k,v,q];cases ys with
 |nil=>exact⟨h,by simp,by simpa using b,.refl _ _⟩
 | cons w x =>
  have d:¬rows.length=(rows++a).length:=by simp at c;simp;intro l;subst l;simp at c
  have f:rows.length+(w::x).length≤(rows++a).length:=by simp at c ⊢;omega
  have g:rows.length≤(rows++a).length:=by simp
  simp only[b,m,qT,and_true,g,aN,d,aJ,f];refine⟨_,by rw[bF],?_,by simp,λz p=>kZ (iG p)⟩;simp only[q2 n];congr 2;rw[List.take_left,su];simp
theorem dM{h:J}{o T V kk:Nat}{rows:List (List D)}(a:h[o]?=Option.some (.row T V rows)):h.row o kk=rows[kk]?:=by simp[J.row,a]
theorem m5{h:J}{n0 e z:Nat}{rows:List (List D)}{d:D}(a:aR h n0 e z rows d){i:Nat}(hi:i<rows.length):∃b,n0≤b∧d = .aZ z b 0 rows.length∧h[b]?=Option.some (.row e z rows):=by
 rcases a with⟨rfl,rfl⟩|⟨g,f,a,c⟩
 ·simp at hi
 ·exact⟨g,f,a,c⟩
@[simp] theorem gg(T:dR)(o i f:Nat):dS T (.ptr o i f)=Option.some (.ptr o i f):=id rfl
@[simp] theorem ke(T:dR)(t:Nat)(k k2:IntKind)(a b:Int):O T .shr t (.int k a) (.int k2 b)=if b<0 then none else some (.int k (a.fdiv (2 ^ (min b.toNat k.bits)))):=id rfl
@[simp] theorem uR(T:dR)(t:Nat)(k k2:IntKind)(a b:Int):O T .shl t (.int k a) (.int k2 b)=if b<0 then none else some (.int k (k.wrap (a*2 ^ (min b.toNat k.bits)))):=id rfl
theorem MM(T:dR)(t:Nat)(s u:List UInt8)(h:s.length+u.length≤9223372036854775807):O T .add t (.str s) (.str u)=some (.str (s++u)):=bO h
theorem HV{T:dR}{t e z:Nat}{i j:TI}(h:T t=some i)(hi:i.td = .sl e)(g:T e=some j)(m:j.V=z){α:Type}{f:α→List D}{l:List α}{d:D}(c:aI z f l d){k:IntKind}{n:Int}(a:0≤n)(b:n≤l.length):
  ∃d',eN T t false true false [d,.int k n]=some d'∧aI z f (l.take n.toNat) d':=by
 simp only[eN,ia,bs,kf,h,hi,g];rcases c with⟨rfl,rfl⟩|⟨o,rfl⟩
 ·have:n=0:=by simpa using Int.le_antisymm b a
  subst this;exact⟨_,rfl,.inl ⟨rfl,rfl⟩⟩
 ·simp[m,a,b];right;exact⟨_,by rw[nn]⟩
theorem tV{T:dR}{t e z:Nat}{i j:TI}(h:T t=some i)(hi:i.td = .sl e)(g:T e=some j)(m:j.V=z){α:Type}{f:α→List D}{l:List α}{d:D}(c:aI z f l d){k:IntKind}{n:Int}(a:0≤n)(b:n≤l.length):
  ∃d',eN T t true false false [d,.int k n]=some d'∧aI z f (l.drop n.toNat) d':=by
 simp only[eN,ia,bs,kf,h,hi,g];rcases c with⟨rfl,rfl⟩|⟨o,rfl⟩
 ·have:n=0:=by simpa using Int.le_antisymm b a
  subst this;exact⟨_,rfl,.inl ⟨rfl,rfl⟩⟩
 ·simp[m,a,b];right;refine⟨_,fR _ ?_⟩;rw[uC,hN (by simp)]
theorem Oh{T:dR}{t e:Nat}{i j:TI}(g:T t=some i)(hi:i.td = .sl e)(f:T e=some j)(h:j.V=1){k:IntKind}{zs:List Int}{d:D}(c:kC k zs d){k2:IntKind}{n:Int}(a:0≤n)(b:n≤zs.length):
  ∃d',eN T t false true false [d,.int k2 n]=some d'∧kC k (zs.take n.toNat) d':=by
 simp only[eN,ia,bs,kf,g,hi,f];rcases c with⟨rfl,rfl⟩|rfl
 ·have:n=0:=by simpa using Int.le_antisymm b a
  subst this;exact⟨_,rfl,.inl ⟨rfl,rfl⟩⟩
 ·simp[h,a,b,ints];right;simp[ints]
theorem fT{d:D}(h:d.one=true):cX d=[d]∧d.fo=true:=by cases d<;>first|exact⟨rfl,rfl⟩|(simp[D.one]at h)
theorem Hv:∀(ds:List D) (k:Nat),(∀d∈ds,d.one=true)→rl 1 k (List.range' k ds.length) ds=Option.some (ds.map λd=>[d])
 |[],k,_=>rfl
 | d::ds,k,h=>by
  have a:=fT (h d (by simp));have c:=Hv ds (k+1) λe b=>h e (by simp[b])
  simp[List.range'_succ,rl,a.1,a.2,c]
theorem tC{T:dR}{t n e:Nat}{i j:TI}(h:T t=Option.some i)(hi:i.td = .sl e)(b:T e=Option.some j)(k:j.V=1)(ds:List D)(f:ds.length=n)(g:n≤16777216)(c:∀d∈ds,d.one=true):dL T t n (List.range n) ds=Option.some (.sl 1 true (ds.map λd=>[d])):=by
 subst f;have a:(Nat.blt 0 1&&Nat.ble (ds.length*1) 16777216&&Nat.beq (List.range ds.length).length ds.length)=true:=by
  simp only[B6,List.length_range,gJ];exact⟨⟨rfl,jK g⟩,B4 _⟩
 simp only[dL,mS,h,hi,b,k,a];rw[List.range_eq_range',Hv ds 0 c];rfl
theorem a1H{T:dR}{t n e:Nat}{i j:TI}(k:T t=Option.some i)(hi:i.td = .sl e)(b:T e=Option.some j)(l:j.V=1)(h:J)(ds:List D)(f:ds.length=n)(g:n≤16777216)(c:∀d∈ds,d.one=true):Ap T h t n (List.range n) ds=Option.some (.aZ 1 h.length 0 n,aG h e 1 (ds.map λd=>[d])):=by
 subst f;have a:(Nat.blt 0 1&&Nat.ble (ds.length*1) 16777216&&Nat.beq (List.range ds.length).length ds.length)=true:=by
  simp only[B6,List.length_range,gJ];exact⟨⟨rfl,jK g⟩,B4 _⟩
 simp only[Ap,mS,k,hi,b,l,a];rw[List.range_eq_range',Hv ds 0 c];simp
theorem Oi{k:IntKind}{zs:List Int}{d:D}(a:kC k zs d):d.one=true:=by
 rcases a with⟨rfl,_⟩|rfl<;>rfl
theorem lj(e V:Nat)(h:J)(cs:List D)(a:cs.length=V)(b:0<V):kV e V h (.agg cs)=some (.ptr h.length 0 0,aG h e V [cs]):=by
 simp[kV,D.fo,cX,a,b]
theorem oE(k:IntKind)(n:Int):cX (.int k n)=[.int k n]:=id rfl
theorem oF(s:List UInt8):cX (.str s)=[.str s]:=id rfl
theorem oD(b:Bool):cX (.bool b)=[.bool b]:=id rfl
theorem oC(cs:List D):cX (.agg cs)=cs:=id rfl
theorem sJ{T:dR}{t:Nat}{i:TI}{fs:List (Nat × Nat × Nat)}(b:T t=Option.some i)(hi:i.td = .st fs){a:List Nat}{ds cs:List D}(h:mQ fs i.zero a ds=Option.some cs):eD T t a ds=Option.some (.agg cs):=by
 simp only[eD,b,hi,h,bs]
theorem oN{fs:List (Nat × Nat × Nat)}{cs:List D}{i:Nat}{a:List Nat}{d:D}{ds:List D}{u off V:Nat}(e:fs[i]?=Option.some (u,off,V))(h2:(cX d).length=V)(f:off+V≤cs.length)(g:d.fo=true):
  mQ fs cs (i::a) (d::ds)=mQ fs (dZ cs off (cX d)) a ds:=by
 have b:Nat.beq (cX d).length V=true:=by rw[h2];exact B4 V
 have c:Nat.ble (off+V) cs.length=true:=jK f;simp only[mQ,e,b,c,g,q0]
theorem ZV{T:dR}{t e n z:Nat}{i j:TI}(g:T t=Option.some i)(hi:i.td = .arr n e)(c:T e=Option.some j)(h:j.V=z)(f:0<z){cs:List D}{k:IntKind}{v:Int}(a:0≤v)(b:v<(n:Int))(d:v.toNat*z<cs.length):
  aO T t (.aE cs) (.int k v)=Option.some (.aE (cs.drop (v.toNat*z))):=by
 simp[aO,rk,g,hi,c,h,a,b,f,d]
theorem Wp.val{α:Type}{x:Option α}{a:α}(h:Wp x λp=>p=a):x=Option.some a:=by
 obtain⟨p,b,rfl⟩:=h;exact b
theorem hq{α:Type}{l:List α}{n:Nat}(h:n<l.length):∃x,l[n]?=Option.some x:=⟨_,dG h⟩
theorem eR(n:Nat)(h:n<9223372036854775807):IntKind.wrap .i64 ((n:Int)+1)=((n+1:Nat):Int):=by
 rw[bJ (by omega) (by omega)];omega
theorem fe{a b:Nat}(h:decide ((a:Int)<(b:Int))=true):a<b:=by
 have:=Ha h;omega
end Go.Pi
namespace Go.Pi
open Go.Eng Go.ChangeShapes Go.WideShapes Go.ChangeAt Go.RowKit Go.Deep
section
variable {H:Type} {enc:TypeId × Value→H} {P:Program} {W:World}
end
end Go.Pi
namespace Go.Eng
abbrev B9:=@Option.some.inj
end Go.Eng
namespace Go.Pi
open Go.Eng Go.ChangeShapes Go.WideShapes Go.ChangeAt Go.RowKit
theorem Zn{P:Program}{f:World}{v:String}{g t n e:Nat}{k:IntKind}{zs:List Int}{laid:List (String × DataW Unit)}(s:P.globalNamed v=some g)(M:(P.globals[g]?).map (·.type)=some t)(Q:P.underlying t=some (.array n e))
  (D:P.underlying e=some (.int k)) (B:P.cellsOf e=1) (L:(laid.all λx=>x.2.handleName?.isNone)=true) (I:laid=[(v,.agg (zs.map λz =>.lit (.int k z)))]) (h:laidMetH P laid f) :
  aV (Gh.all f) (.pointer (some ⟨g,0,none⟩)) (.aE (zs.map λz =>.int k z)):=by
 rw[MakeChecks.laidMetH_plain _ _ _ L]at h;subst I;obtain⟨af,⟨X,ai,m,W,ae,ag,F,N,R,C,_,_⟩,_,_⟩:=h;obtain rfl:=B9 (s.symm.trans F);obtain rfl:=B9 (M.symm.trans N);obtain⟨i,ad,rfl,l,aa,ab,E⟩:=DataW.trod_array Q C;simp only[xi,DataW.agg.injEq]at l;have ac:zs.length=i.length:=by
  have:=fR List.length l.1;simpa using this
 have r:∀(b:Nat) (z:Int),zs[b]?=some z→f.cell? ⟨g,b,none⟩=some (.int k z):=λb z c=>by
  have H:b<n:=by
   have:=(bR.1 c).1;omega
  have u:i[b]?=some i[b]:=dG (by omega);have p:=E b H;rw[u,B,B6]at p;obtain⟨j,w,y,_⟩:=DataW.trod_int D p;have T:j=z:=by
   have q:(i.map (·.1))[b]?=some (.lit (.int k j)):=by rw[eE,u,y];rfl
   rw[← l.1,eE,c]at q;simpa using q.symm
  subst T;rw[World.var?_cell s R b];have A:(m.toList.drop b)[0]?=some (.int k j):=by
   have:((m.toList.drop b).take 1)[0]?=some (.int k j):=by rw[w];rfl
   rw[gw]at this;simpa using this
  simpa using A
 refine .aE g 0 _ (λd =>.int k (zs.getD d 0)) (λK=>⟨?_,λG=>G⟩) (λd o a=>?_) (λd o a=>rfl) (λd o a=>?_)
 ·cases zs with
  |nil=>simp at K
  |cons z ah=>exact World.block_lt_of_cell? f _ (r 0 z rfl)
 ·rw[eE]at a;cases c:zs[d]? with
  |none=>rw[c]at a;cases a
  | some z =>
   rw[eS];show f.cell? ⟨g,d,none⟩=_;rw[r d z c,sw,c];rfl
 ·rw[eE]at a;cases c:zs[d]? with
  |none=>rw[c]at a;cases a
  | some z =>
   rw[c]at a;simp at a;subst a;rw[sw,c];exact .int k z
end Go.Pi
namespace Go.Pi
open Go.Eng
theorem z6{P:Program}{e:Array Oper}{o:Oper}{a:Act}{w:World}{b:Act→World→Prop}{Q:Exit→Act→World→Prop}{E:Prop}
  (m:o.guard=none) (d x:Operand) (c f:TypeId) (n:o.op=Op.call { callee:=Callee.builtin Builtin.copy,args := #[d,x],argTypes := #[c,f] })
  (h g:Value) (l:a.eval d=h) (r:a.eval x=g) {i:Value} {j:World} (p:(Builtin.copy_ #[c,f] o.type #[h,g]).run P w = .ok i j) (k:b (a.put o.dst i) j) :
  if Region.wanted o (yielded e a.tmps)=true then Oper.wp P o a w b Q else E:=by
 have q:Region.wanted o (yielded e a.tmps)=true:=by simp[Region.wanted,m]
 rw[bO q];unfold Oper.wp;simp[execOp,n,resolve,invoke,builtin,l,r,p,Result.andThen];exact k
theorem a2z{P:Program}(w:World)(tS L e:TypeId)(r:P.underlying tS=some (.slice e))(c:Nat)(s:∀w,(Go.sizeOf e).run P w = .ok c w)
  (a b:Addr) (g u h v:Nat) (o:a.block≠b.block) {d i:Array Value} {k l:TypeId} {y:Nat × Nat} (z:w.heap[a.block]?=some (.cells d k y)) (A:d.size≠0) (j:w.heap[b.block]?=some (.cells i l (0,0))) :
  (Extern.SlicesOverlaps.overlaps #[tS,tS] #[L] #[.slice (some a) g u,.slice (some b) h v]).run P w = .ok (.bool false) w:=by
 have D:(a.block != b.block)=true:=by simpa using o
 have E:(a.block==b.block)=false:=by simpa using o
 have q:w.shape? a.block=some (k,d.size):=by simp[World.shape?,z]
 have G:w.shape? b.block=some (l,i.size):=by simp[World.shape?,j]
 have B:w.frozen? b=false:=by simp[World.frozen?,j]
 have C:w.frozen? { block:=b.block,off:=i.size }=false:=by simp[World.frozen?,j]
 change Sem.run P (α:=Value) (do
  let some K:=(#[tS,tS]:Array TypeId)[0]?|stuck "slices.overlaps: no parameter types"
  let .slice x ← underlying K|stuck "slices.overlaps: slice type expected"
  let c ← sizeOf x
  match(some a:Option Addr),(some b:Option Addr)with
  | some a,some b =>
   if g=0∨h=0∨c=0 then pure (Value.bool false)
   else if a.block != b.block&&(← frozen a)&&(← frozen b)then unsupported .addressObserved
   else do
    if a.block != b.block then do
     noView a;noView b
     if ← mayBeOne a b then return Value.bool ((← choose (.extern "sameAddr.stringBytes" 2))==1)
    pure (Value.bool (a.block==b.block&&a.off<b.off+h*c&&b.off<a.off+g*c))
  |_,_=>pure (Value.bool false)) w=_
 obtain⟨f,F⟩:∃f,w.frozen? a=f:=⟨_,rfl⟩
 obtain⟨I,p⟩:∃f,w.frozen? { block:=a.block,off:=d.size }=f:=⟨_,rfl⟩
 by_cases m:g=0∨h=0∨c=0
 ·simp[eZ r,s,m]
 ·cases n:d.size with
  |zero=>exact absurd n A
  | succ M =>
   rw[n]at q p;cases f<;>cases I<;>simp[eZ r,s,m,D,E,frozen,noView,viewAt,mayBeOne,stringish,shape,Sem.run,q,G,B,C,F,p]
structure sq (P:Program) (f t tn ov V:Nat):Prop where
 fin:∀(base:Option Addr) (vb vo vc n c:Nat) (w w1:World) (u:Value),n≤c →
  (∀ty,(Builtin.append_ #[t,t] ty #[.slice base n c,.slice (some ⟨vb,vo,none⟩) 1 vc]).run P w = .ok u w1) →
  Calls P f #[.slice base n c,.int .i64 n,.slice (some ⟨vb,vo,none⟩) 1 vc] w λe w'=>e = .returned u∧w'=w1
 grow:∀(b n c i vb vo vc nb G:Nat) (w w1 w2 w3:World),i<n→n≤c→c<n+1→c≤9223372036854775807→n+1≤G→G≤9223372036854775807 →
  (∀ty,(Builtin.append_ #[t,tn] ty #[.slice (some ⟨b,0,none⟩) i c,.int .i64 (n+1 - i:Nat)]).run P w = .ok (.slice (some ⟨nb,0,none⟩) (n+1) G) w1) →
  (∀ty,(Builtin.copy_ #[t,t] ty #[.slice (some ⟨nb,i*V,none⟩) (n+1 - i) (G - i),.slice (some ⟨vb,vo,none⟩) 1 vc]).run P w1 = .ok (goInt 1) w2) →
  (∀ty,(Builtin.copy_ #[t,t] ty #[.slice (some ⟨nb,(i+1)*V,none⟩) (n - i) (G - (i+1)),.slice (some ⟨b,i*V,none⟩) (n - i) (c - i)]).run P w2.drew = .ok (goInt (n - i:Nat)) w3) →
  Calls P f #[.slice (some ⟨b,0,none⟩) n c,.int .i64 i,.slice (some ⟨vb,vo,none⟩) 1 vc] w λe w'=>e = .returned (.slice (some ⟨nb,0,none⟩) (n+1) G)∧w'=w3
 room:∀(b n c i vb vo vc:Nat) (w w1 w2:World),i<n→n+1≤c→c≤9223372036854775807 →
  (∀lb cb,(callFunc ov #[.slice (some ⟨vb,vo,none⟩) 1 vc,.slice (some ⟨b,(i+1)*V,none⟩) lb cb]).run P w = .ok (.value (.bool false)) w) →
  (∀ty,(Builtin.copy_ #[t,t] ty #[.slice (some ⟨b,(i+1)*V,none⟩) (n - i) (c - (i+1)),.slice (some ⟨b,i*V,none⟩) (n+1 - i) (c - i)]).run P w.drew = .ok (goInt (n - i:Nat)) w1) →
  (∀ty,(Builtin.copy_ #[t,t] ty #[.slice (some ⟨b,i*V,none⟩) (n+1 - i) (c - i),.slice (some ⟨vb,vo,none⟩) 1 vc]).run P w1 = .ok (goInt 1) w2) →
  Calls P f #[.slice (some ⟨b,0,none⟩) n c,.int .i64 i,.slice (some ⟨vb,vo,none⟩) 1 vc] w λe w'=>e = .returned (.slice (some ⟨b,0,none⟩) (n+1) c)∧w'=w2
def lR(e:Nat)(j:TI)(args:List D)(h:J):Option (D × J):=match args with
 | [l,.int .i64 a,.sl k _ [d]]=>if k=j.V∧0≤a then match l with
  |.aA=>if a=0∧eY 1 j.gf=true then some (.aZ j.V h.length 0 1,aG h e j.V [d])else none
  |.sl c true []=>if a=0∧c=j.V∧eY 1 j.gf=true then some (.aZ j.V h.length 0 1,aG h e j.V [d])else none
  | .aZ c g 0 b=>match h[g]? with
   |some (.row i m f)=>if c=j.V∧m=c∧i=e∧b=f.length∧a≤b∧eY (b+1) j.gf=true then some (.aZ j.V h.length 0 (b+1),aG (h.set g .dead) e j.V (f.take a.toNat++[d]++f.drop a.toNat))else none
   |_=>none
  |_=>none
  else none
 |_=>none
theorem RW(P:Program)(b:Array TypeId)(ty ty':TypeId)(a:Array Value)(w:World):(Builtin.append_ b ty a).run P w=(Builtin.append_ b ty' a).run P w:=rfl
end Go.Pi
namespace Go.Eng
abbrev oo:=@List.set_append_right
abbrev xd:=@List.take_append_of_le_length
end Go.Eng
namespace Go.Pi
open Go.Eng
section
variable {P:Program} {T:dR} {g:Gh} {h:J}
theorem zz{v:Value}{V:Nat}{d:Bool}{r:List D}(u:aV g v (.sl V d [r])):
  ∃b c y cs E fr,v = .slice (some ⟨b,c,none⟩) 1 y∧g.fz b∧r.length=V∧0<V∧g.w.heap[b]?=some (.cells cs E fr)∧cs.size≠0:=by
 cases u with
 | sl h x j V d H o F B C t s k K m A G =>
  have p:x=1:=by simpa using o.symm
  subst p;obtain⟨f,e⟩:=k (by simp);obtain⟨b,c,I⟩:=h;simp only at f e;subst f;have q:r.length=V:=s r (by simp);have n:0<r.length:=by omega
  have a:=m 0 r rfl 0 r[0] (dG n);unfold World.cell? at a;simp only at a;split at a
  ·rename_i i E fr l;refine⟨b,c,j,i,E,fr,rfl,e,q,t,l,λz=>?_⟩;simp only[LJ,aU,aJ]at a;have:=(o3.1 a).1;omega
  ·cases a
theorem kB.of{f:FuncId}{vs:List Value}{v:Value}{w':World}{g':Gh}{h':J}{d:D}(k:∀(a:Array Value) (w:World),(callFunc f a).run P w = .ok (.enter f a) w)
  (i:Calls P f vs.toArray g.w λe b=>e = .returned v∧b=w') (m:g'.w=w') (j:eA g g') (hi:Inv g' h') (l:aV g' v d):kB P f vs g h' d:=
 .inl ⟨k _ _,wH i λe b ⟨c,h⟩=>⟨v,c,g',by rw[h,m],j,hi,l⟩⟩
variable {f t tn ov V e tb:Nat} {it j itn:TI}
theorem GB(l:eL P T)(m:sq P f t tn ov V)(q:∀(b:Array Value) (w:World),(callFunc f b).run P w = .ok (.enter f b) w)(hi:Inv g h)
  {a:Option Addr} {n c:Nat} (u:n≤c) {e:D} (A:aV g (.slice a n c) e) {v:Value} {k:Nat} {i:Bool} {r:List D} (j:aV g v (.sl k i [r])) {d:D} {h':J} (o:dB T h t t e (.sl k i [r])=some (d,h')) :
  kB P f [.slice a n c,.int .i64 n,v] g h' d:=by
 obtain⟨B,G,L,y,z,p,s,x⟩:=LY (ty:=0) l hi A j o;obtain⟨C,F,E,I,H,K,rfl,_⟩:=zz j;exact kB.of q (m.fin a C F E n c g.w G B u λty=>y) z p s x
theorem CL(h:J)(T V:Nat)(rows rows':List (List D)):(aG h T V rows).set h.length (.row T V rows')=aG h T V rows':=by
 unfold aG;rw[oo _ _ (bB _)];simp
theorem Tl(h:J)(T V:Nat)(rows:List (List D)){o:Nat}(a:o<h.length):(aG h T V rows).set o .dead=aG (h.set o .dead) T V rows:=by
 unfold aG;rw[List.set_append_left _ _ a]
theorem Z7(y:eL P T)(a0:sq P f t tn ov V)(a7:∀(x:Array Value) (w:World),(callFunc f x).run P w = .ok (.enter f x) w)
  (bo:∀(x:Array Value) (w:World),(callFunc ov x).run P w=((Extern.SlicesOverlaps.overlaps #[t,t] #[tb] x).run P w).andThen λv w' =>.ok (.value v) w')
  (ao:T t=some it) (K:it.td = .sl e) (F:T e=some j) (bv:j.V=V) (az:V≠1) (hi:Inv g h)
  {o k cap:Nat} {m:Me} {rows:List (List D)} (ah:h[o]?=some (.row e V rows)) (af:g.ms[o]?=some m) (ac:k<rows.length) (ak:rows.length+1≤cap) (ca:cap≤m.cap) (R:cap≤9223372036854775807)
  {v:Value} {N:Bool} {r:List D} (aq:aV g v (.sl V N [r])) :
  kB P f [.slice (some ⟨m.b,0,none⟩) rows.length cap,.int .i64 k,v] g (aG (h.set o .dead) e V (rows.take k++[r]++rows.drop k)) (.aZ V h.length 0 (rows.length+1)):=by
 subst bv;obtain⟨a,ag⟩:∃a,a=rows.length:=⟨_,rfl⟩
 rw[← ag]at ac ak ⊢;obtain⟨cf,n,z,l⟩:=hi.live o e j.V rows ah;rw[af]at z;injection z with z;subst z;obtain⟨fr,A,C⟩:=l.iv;have bb:fr=(0,0):=C.resolve_right λE=>az E.2
 obtain⟨d,I,H,ai⟩:=l.flat;have bm:=I.length;have ba:=lC rows l.row;have br:=l.room;have cd:=l.kt;have ap:=y.sl ao K;obtain⟨L,au,ar,cv,b8,b9,rfl,bc,ce,bp,a2,a5⟩:=zz aq;have b1:L≠m.b:=λE=>bc.2 (E▸l.hL)
 have B:(d.drop (k*j.V)).length=(a - k)*j.V:=by rw[gK,bm,ba,← ag,Nat.sub_mul]
 have cb:d.length - k*j.V=(a - k)*j.V:=by simpa using B
 have a9:(k+1)*j.V+(a - k)*j.V≤n.size:=by
  rw[← hg];exact fD (jz _ (by omega)) br
 obtain⟨M,bu,s⟩:=qP (P:=P) (i:=(k+1)*j.V) (d.drop (k*j.V)) g.w.drew n.toList 0 (T:=e) (fr:=fr) (b:=m.b) (by show g.w.heap[m.b]?=_;simpa using A) (by simpa using C.ue) (by rw[B];simpa using a9) (λq u=>H q (fM u));simp only[ns]at s;have bt:lO g.w M m.b (.cells (n.toList.take ((k+1)*j.V)++d.drop (k*j.V)++n.toList.drop ((k+1)*j.V+(d.drop (k*j.V)).length)).toArray e fr):=⟨s.iv,s.other,s.size,s.os,s.tape,s.output⟩
 have X:(n.toList.take ((k+1)*j.V)++d.drop (k*j.V)++n.toList.drop ((k+1)*j.V+(d.drop (k*j.V)).length)).toArray.size=n.size:=by
  simp only[xb,bF,lq,gK,Array.length_toList];omega
 have al:∀p∈rows.take (k+1)++rows.drop k,p.length=j.V:=λp c=>by
  rcases fp.1 c with c|c
  ·exact l.row p (fG c)
  ·exact l.row p (fM c)
 have bk:dP g (d.take ((k+1)*j.V)++d.drop (k*j.V)) (rows.take (k+1)++rows.drop k).flatten:=by
  rw[lp,js rows _ l.row,u2 rows _ l.row];exact(I.take _).append (I.drop _)
 have bx:(d.take ((k+1)*j.V)).length=(k+1)*j.V:=by
  have:(k+1)*j.V≤rows.length*j.V:=jz _ (by omega);simp;omega
 have a4:(n.toList.take ((k+1)*j.V)).length=(k+1)*j.V:=by simp;omega
 obtain⟨Q,b2,aa,be,G⟩:=Ol (rows':=rows.take (k+1)++rows.drop k) hi ah af l bt (by rw[X];exact C) X (by simp;omega) al
  (ph bk (λq u=>by
   rcases fp.1 u with u|u
   ·exact H q (fG u)
   ·exact H q (fM u)) al (λp q c=>by
   rw[gF,BR];rcases gG p ((k+1)*j.V)with ae|cc
   ·rw[fg (by omega)]at c;rw[fg (by omega),gw,bO ae];rw[gw,bO ae]at c;have:=ai p q c;simpa using this
   ·rw[gO (by omega),bx]at c;rw[gO (by omega),a4,fg (bR.1 c).1];exact c))
 have bg:(rows.take (k+1)++rows.drop k).length=a+1:=by simp;omega
 rw[bg]at G;have a3:∀ty,(Builtin.copy_ #[t,t] ty #[.slice (some ⟨m.b,(k+1)*j.V,none⟩) (a - k) (cap - (k+1)),.slice (some ⟨m.b,k*j.V,none⟩) (a+1 - k) (cap - k)]).run P g.w.drew = .ok (goInt (a - k:Nat)) M:=λty=>by
  have a8:(Builtin.firstCells j.V (a - k) (.slice (some ⟨m.b,k*j.V,none⟩) (a+1 - k) (cap - k))).run P g.w.drew = .ok (d.drop (k*j.V)).toArray g.w.drew:=
   zN g.w.drew j.V (a - k) _ _ _ (d.drop (k*j.V)) B λp q c=>by
    rw[km];rw[ko]at c;have:=ai _ q c;show World.cell? g.w _=_;simp only[World.cell?,A];simpa using this
  have bi:Nat.min (a+1 - k) (a - k)=a - k:=by
   show min _ _=_;omega
  simp only[Builtin.copy_,ir];simp[eZ ap,y.size F,Builtin.lenOf,bi,a8,bu,goInt]
 have bz:=aq.ext aa;have b4:aV Q (.slice (some ⟨m.b,k*j.V,none⟩) (a+1 - k) (cap - k)) (.aZ j.V h.length k (a+1 - k)):=by
  have:=aV.aZ (g:=Q) h.length k (a+1 - k) (cap - k) _ G (by simp;omega) (by simp;omega) (by simp;omega) (by omega);simpa using this
 have a1:Nat.blt 0 j.V=true:=by simpa[Nat.blt_eq]using bp
 have ad:(h.set o .dead).length=h.length:=by simp
 have bd:(aG (h.set o .dead) e j.V (rows.take (k+1)++rows.drop k))[h.length]?=some (.row e j.V (rows.take (k+1)++rows.drop k)):=by
  rw[← ad];exact fO _ _ _ _
 have bl:rR it=true:=by simp[rR,K]
 have bj:min 1 (a+1 - k)=1:=by omega
 have a6:mP T (aG (h.set o .dead) e j.V (rows.take (k+1)++rows.drop k)) t t (.aZ j.V h.length k (a+1 - k)) (.sl j.V N [r])=some (.int .i64 (1:Nat),aG (h.set o .dead) e j.V (rows.take k++[r]++rows.drop k)):=by
  have an:=CL (h.set o .dead) e j.V (rows.take (k+1)++rows.drop k) (rows.take k++[r]++rows.drop k);rw[ad]at an;have bw:[r].take (a+1 - k)=[r]:=hN (by simp;omega);have aw:(rows.take (k+1)++rows.drop k).take k=rows.take k:=by
   rw[xd (by simp;omega),xe];congr 1;omega
  have ax:(rows.take (k+1)++rows.drop k).drop (k+1)=rows.drop k:=by
   rw[List.drop_append_of_le_length (by simp;omega),kD (by simp;omega)];simp
  simp only[mP,ao,K,bl,F,a1,ix,gA,aN,bd,jq,g7,e6,eS,bj,bw,aw,ax,an]
 obtain⟨b6,b7,ay,am,b3,ab,bf,bq⟩:=xC (ty:=0) y be b4 bz a6;have b0:b6=goInt 1:=by cases bq;rfl
 subst b0;rw[b2]at am;have bh:=ab.ms _ _ G;have aj:=aV.aZ (g:=ay) h.length 0 (a+1) cap _ bh (by simp) (by simp;omega) (by simp;omega) R;simp only[ou]at aj;refine kB.of a7 (a0.room m.b a cap k L au ar g.w M b7 ac ak R (λb5 av=>?_) a3 λty=>am) b3 (aa.trans ab) bf aj;have bn:=a2z (P:=P) g.w t tb e ap j.V (λw=>y.size F w) ⟨L,au,none⟩ ⟨m.b,(k+1)*j.V,none⟩ 1 ar b5 av b1 a2 a5 (by rw[← bb];exact A);rw[bo,bn];rfl
end
end Go.Pi
namespace Go.Eng
abbrev eQ:=@Int.toNat_natCast
abbrev jJ:=@Int.natCast_nonneg
abbrev lM:=@Int.eq_ofNat_of_zero_le
end Go.Eng
namespace Go.Pi
open Go.Eng
section
variable {P:Program} {T:dR} {g:Gh} {h:J}
variable {f t tn ov V e tb:Nat} {it j itn:TI}
theorem Z5(q:eL P T)(bd:sq P f t tn ov V)(bl:∀(am:Array Value) (w:World),(callFunc f am).run P w = .ok (.enter f am) w)
  (ak:T t=some it) (K:it.td = .sl e) (y:T e=some j) (cc:T tn=some itn) (cd:itn.td = .int .i64) (ca:j.V=V) (hi:Inv g h)
  {o k cap:Nat} {m:Me} {rows:List (List D)} (I:h[o]?=some (.row e V rows)) (ab:g.ms[o]?=some m) (aw:k<rows.length) (a2:rows.length≤cap) (a4:cap<rows.length+1) (c5:cap≤m.cap) (bg:cap≤9223372036854775807)
  (G:eY (rows.length+1) j.gf=true) {v:Value} {an:Bool} {r:List D} (a6:aV g v (.sl V an [r])) :
  kB P f [.slice (some ⟨m.b,0,none⟩) rows.length cap,.int .i64 k,v] g (aG (h.set o .dead) e V (rows.take k++[r]++rows.drop k)) (.aZ V h.length 0 (rows.length+1)):=by
 subst ca;obtain⟨n,bu⟩:∃n,n=rows.length:=⟨_,rfl⟩
 rw[← bu]at aw a4 a2 G ⊢;have af:=(bR.1 I).1;obtain⟨dk,cz,H,i⟩:=hi.live o e j.V rows I;rw[ab]at H;injection H with H;subst H;obtain⟨c1,be,c9⟩:=i.iv;obtain⟨al,a1,bx,b0⟩:=i.flat;have di:=a1.length;have c8:=lC rows i.row;have bt:=i.kt;have df:=i.len;have cb:=q.sl ak K;have ag:=i.pos;have ap:Nat.blt 0 j.V=true:=by simpa[Nat.blt_eq]using ag
 have a0:rR it=true:=by simp[rR,K]
 simp only[eY,gJ]at G;have ay:=fQ G.1;have dd:=fQ G.2;have b2:=zz a6;obtain⟨cr,ct,cs,cv,c0,c2,rfl,da,dj,_,c4,c7⟩:=b2;have b9:ix h itn j (.int .i64 ((n+1 - k:Nat):Int))=some (List.replicate (n+1 - k) j.zero):=by
  have bq:eY (n+1 - k) j.gf=true:=by
   simp only[eY,gJ];exact⟨jK (fD (jz _ (by omega)) ay),jK (by omega)⟩
  simp only[ix,cd,eQ,bq,and_true,jJ,aN]
 obtain⟨dl,L,bw,bv,cn⟩:=z5 q hi cc y (aV.int (g:=g) .i64 ((n+1 - k:Nat):Int)) b9 ag;simp only[BU]at L;obtain⟨a7,dr,z,a8,dm,a9,av,dp,dq,_⟩:=q.get y;have b8:a7.size=j.V:=by rw[av]
 have bf:a7.bytes=j.gf:=by rw[av]
 have dc:k*j.V≤rows.length*j.V:=jz _ (by omega);have b1:(al.take (k*j.V)).length=k*j.V:=by simp;omega
 have ax:k+(n+1 - k)=n+1:=by omega
 obtain⟨d,R,ao,a5⟩:=zM (P:=P) (n:=k) (cap:=cap) (a:=some ⟨m.b,0,none⟩) (olds:=al.take (k*j.V)) (ty:=0) (z:=z) cb a8 a9 b8 L (by omega) (λcu M=>by
  refine zN cu j.V k _ _ cap (al.take (k*j.V)) b1 λB Q s=>?_
  rw[km,eS];rw[gw]at s;split at s
  ·have:=b0 B Q s;simp only[World.cell?,M,be];simpa using this
  ·cases s) (by omega) (by rw[bf,ax];exact ay)
 rw[ax]at R a5;have az:=(a1.take (k*j.V)).append bw;rw[← js rows k i.row,← lp]at az;have co:∀B∈List.replicate (n+1 - k) j.zero,B.length=j.V:=cn;have aa:(rows.take k++List.replicate (n+1 - k) j.zero).length=n+1:=by simp;omega
 obtain⟨E,M,F,ar,a3⟩:=yV (c:=d) q hi y a8 a9 ag az (λQ A=>by
  rcases fp.1 A with A|A
  ·exact bx Q (fG A)
  ·exact bv Q A) (u3 (λB s=>i.row B (fG s)) co) (by rw[aa];exact R) ao
 rw[aa]at a3 M;have b5:∀ty,(Builtin.append_ #[t,tn] ty #[.slice (some ⟨m.b,0,none⟩) k cap,.int .i64 (n+1 - k:Nat)]).run P g.w = .ok (.slice (some ⟨g.w.heap.size,0,none⟩) (n+1) d) E.w:=λty=>by
  rw[RW P _ ty 0,a5,M];simp
 obtain⟨N,cy,ce,ad,ac,dh,de,db,c6⟩:=a3.mv;injection ce with l C bb;injection l with l;have ae:g.w.heap.size=N.b:=by injection l
 subst bb;obtain⟨u,ai⟩:∃u,u=rows.take k++List.replicate (n+1 - k) j.zero:=⟨_,rfl⟩
 rw[← ai]at ar aa;have ck:aV E (.slice (some ⟨g.w.heap.size,k*j.V,none⟩) (n+1 - k) (d - k)) (.aZ j.V h.length k (n+1 - k)):=by
  have:=aV.aZ (g:=E) h.length k (n+1 - k) (d - k) N ac (by omega) (by omega) (by omega) (by omega);rw[ad]at this;rw[ae];exact this
 have bh:mP T (aG h e j.V u) t t (.aZ j.V h.length k (n+1 - k)) (.sl j.V an [r])=some (.int .i64 (1:Nat),aG h e j.V (rows.take k++[r]++List.replicate (n - k) j.zero)):=by
  have aj:=CL h e j.V u (rows.take k++[r]++List.replicate (n - k) j.zero);have L:[r].take (n+1 - k)=[r]:=hN (by simp;omega);have br:min 1 (n+1 - k)=1:=by omega
  have l:u.take k=rows.take k:=by
   rw[ai,xd (by simp;omega),xe];congr 1;omega
  have C:u.drop (k+1)=List.replicate (n - k) j.zero:=by
   rw[ai,su,kD (by simp;omega)];have:k+1 - (rows.take k).length=1:=by simp;omega
   rw[this,List.drop_replicate];simp;omega
  simp only[mP,ak,K,a0,y,ap,ix,gA,aN,fO,jq,g7,e6,eS,br,L,l,C,aj]
 obtain⟨cp,cw,p,b6,ch,bk,bn,b3⟩:=xC (ty:=0) q ar ck (a6.ext F) bh;have cf:cp=goInt 1:=by cases b3;rfl
 subst cf;have x:=bk.trans p.CQ;have bo:=Gh.M1 bn;have cl:aV p.draw (.slice (some ⟨g.w.heap.size,(k+1)*j.V,none⟩) (n - k) (d - (k+1))) (.aZ j.V h.length (k+1) (n - k)):=by
  have:=aV.aZ (g:=p.draw) h.length (k+1) (n - k) (d - (k+1)) N (x.ms _ _ ac) (by omega) (by omega) (by omega) (by omega);rw[ad]at this;rw[ae];exact this
 have cm:aV p.draw (.slice (some ⟨m.b,k*j.V,none⟩) (n - k) (cap - k)) (.aZ j.V o k (n - k)):=by
  have:=aV.aZ (g:=p.draw) o k (n - k) (cap - k) m ((F.trans x).ms _ _ ab) (by omega) (by omega) (by omega) (by omega);rw[bt]at this;exact this
 have bi:mP T (aG h e j.V (rows.take k++[r]++List.replicate (n - k) j.zero)) t t (.aZ j.V h.length (k+1) (n - k)) (.aZ j.V o k (n - k))=some (.int .i64 (n - k:Nat),aG h e j.V (rows.take k++[r]++rows.drop k)):=by
  have aj:=CL h e j.V (rows.take k++[r]++List.replicate (n - k) j.zero) (rows.take k++[r]++rows.drop k);have bz:(aG h e j.V (rows.take k++[r]++List.replicate (n - k) j.zero))[o]?=some (.row e j.V rows):=(eT _ _ _ _ af).trans I;have ba:(rows.drop k).take (n - k)=rows.drop k:=hN (by simp;omega);have bj:(rows.drop k).length=n - k:=by simp;omega
  have l:(rows.take k++[r]++List.replicate (n - k) j.zero).take (k+1)=rows.take k++[r]:=by
   rw[xd (by simp;omega),hN (by simp;omega)]
  have C:(rows.take k++[r]++List.replicate (n - k) j.zero).drop (k+1+(n - k))=[]:=kD (by simp;omega);simp only[mP,ak,K,a0,y,ap,ix,gA,aN,fO,bz,jq,ba,bj,Nat.min_self,l,C,nm,aj]
 obtain⟨cq,cx,c3,b7,ci,X,bp,b4⟩:=xC (ty:=0) q bo cl cm bi;have cg:cq=goInt (n - k:Nat):=by cases b4;rfl
 subst cg;obtain⟨bc,cj,aq,au,dg,_,_⟩:=GJ bp (o:=o) (U:=e) (V:=j.V) (rows:=rows) (m:=m) ((eT _ _ _ _ af).trans I) (((F.trans x).trans X).ms _ _ ab);rw[Tl _ _ _ _ af]at au;have ah:=aV.aZ (g:=bc) h.length 0 (n+1) d N (((x.trans X).trans aq).ms _ _ ac) (by omega) (by omega) (by omega) (by omega);rw[ad,← ae]at ah;simp only[ou]at ah;have bm:p.draw.w=p.w.drew:=rfl;refine kB.of bl (bd.grow m.b n cap k cr ct cs g.w.heap.size d g.w E.w cw cx aw a2 a4 bg R ao b5 (λty=>b6) λty=>?_) (cj.trans ci) (((F.trans x).trans X).trans aq) au ah;rw[← ch,← bm];exact b7
theorem Oz (n:eL P T) (o:sq P f t tn ov V) (r:∀(m:Array Value) (w:World),(callFunc f m).run P w = .ok (.enter f m) w)
  (ad:∀(m:Array Value) (w:World),(callFunc ov m).run P w=((Extern.SlicesOverlaps.overlaps #[t,t] #[tb] m).run P w).andThen λv w' =>.ok (.value v) w')
  (u:T t=some it) (k:it.td = .sl e) (s:T e=some j) (ag:T tn=some itn) (ah:itn.td = .int .i64) (L:j.V=V) (U:V≠1)
  {args:List D} {h':J} {d:D} (a:lR e j args h=some (d,h')) {vs:List Value} (hi:Inv g h) (c:dP g vs args):kB P f vs g h' d:=by
 unfold lR at a;split at a
 ·rename_i a2 ax a1 Q M;split at a
  ·rename_i b;obtain⟨rfl,R⟩:=b;cases c with
   | cons x c => cases c with
    | cons X c => cases c with
     | cons l c =>
      cases c;cases X;obtain⟨y,rfl⟩:=lM R;obtain⟨_,_,_,_,_,_,_,_,_,ae,_⟩:=zz l;have E:Nat.blt 0 j.V=true:=by simpa[Nat.blt_eq]using ae
      have H:ix h it j (.sl j.V Q [M])=some [M]:=by simp[ix,k,gA]
      split at a
      ·split at a
       ·rename_i b;obtain⟨aa,i⟩:=b;injection a with a;injection a with p q;subst p;subst q;have F:y=0:=by omega
        subst F;cases x;exact GB n o r hi (bB 0) .aA l (by simp[dB,u,k,s,E,H,i])
       ·cases a
      ·rename_i aj;split at a
       ·rename_i b;obtain⟨aa,rfl,i⟩:=b;injection a with a;injection a with p q;subst p;subst q;have F:y=0:=by omega
        subst F;obtain⟨ak,C,rfl,am⟩:=x.tU;exact GB n o r hi (mI C) x l (by simp[dB,u,k,s,E,H,i])
       ·cases a
      ·rename_i aj ai a0;split at a
       ·rename_i N a3 z B;split at a
        ·rename_i b;obtain⟨rfl,rfl,rfl,rfl,ap,i⟩:=b;injection a with a;injection a with p q;subst p;subst q;simp only[eQ];have aq:y≤z.length:=by omega
         obtain⟨ay,C,rfl,av,G,aw,ar,ao,I⟩:=x.mv;obtain⟨az,al,A,ac⟩:=hi.live ai N j.V z B;rw[G]at A;injection A with A;subst A;have au:=ac.len;rcases gG y z.length with K|an
         ·simp only[ou];by_cases af:z.length+1≤C
          ·subst L;exact Z7 n o r ad u k s rfl U hi B G K af (by omega) I l
          ·subst L;exact Z5 n o r u k s ag ah rfl hi B G K (by omega) (by omega) (by omega) I i l
         ·have ab:y=z.length:=by omega
          subst ab;refine GB n o r hi (by omega) x l ?_;simp[dB,u,k,s,E,H,i,B]
        ·cases a
       ·cases a
      ·cases a
  ·cases a
 ·cases a
end
end Go.Pi
namespace Go.Eng
abbrev BJ:=@Lib.wpList_append_run
abbrev Qp:=@run_callFunc_extern
end Go.Eng
namespace Go.Proofs.YtkcdpfogoepamaaGreatDoor
open Go.Eng Go.Pi Go.RowKit Go.Lib
set_option maxHeartbeats 4000000 in
set_option maxRecDepth 100000 in
theorem ZY (base:Option Addr) (vb vo vc n c:Nat) (w w1:World) (u:Value) (hnc:n≤c)
  (hap:∀ ty,(Builtin.append_ #[31,31] ty #[.slice base n c,.slice (some ⟨vb,vo,none⟩) 1 vc]).run Tryz.prog w = .ok u w1) :
  Calls Tryz.prog 77 #[.slice base n c,.int .i64 n,.slice (some ⟨vb,vo,none⟩) 1 vc] w fun e w'=>e = .returned u∧w'=w1:=by
 have mixed:Tryz.prog.follows .mixedOrders=true:=by kernel_rfl
 go_enter Tryz.func77,Tryz.ntmps77
 go_wp2_with (at_builtin;refine BJ _ rfl _ _ 31 31 rfl _ _ rfl rfl _ _ (hap _) ?_)
 all_goals (go_ret;exact ⟨rfl,rfl⟩)
set_option maxHeartbeats 4000000 in
set_option maxRecDepth 100000 in
theorem Z0 (b n c i vb vo vc nb G:Nat) (w w1 w2 w3:World) (hi:i<n) (hnc:n≤c) (hroom:c<n+1) (hc63:c≤9223372036854775807) (hG:n+1≤G) (hG63:G≤9223372036854775807)
  (hap:∀ ty,(Builtin.append_ #[31,3] ty #[.slice (some ⟨b,0,none⟩) i c,.int .i64 (n+1 - i:Nat)]).run Tryz.prog w = .ok (.slice (some ⟨nb,0,none⟩) (n+1) G) w1)
  (hcp1:∀ ty,(Builtin.copy_ #[31,31] ty #[.slice (some ⟨nb,i*3,none⟩) (n+1 - i) (G - i),.slice (some ⟨vb,vo,none⟩) 1 vc]).run Tryz.prog w1 = .ok (goInt 1) w2)
  (hcp2:∀ ty,(Builtin.copy_ #[31,31] ty #[.slice (some ⟨nb,(i+1)*3,none⟩) (n - i) (G - (i+1)),.slice (some ⟨b,i*3,none⟩) (n - i) (c - i)]).run Tryz.prog w2.drew = .ok (goInt (n - i:Nat)) w3) :
  Calls Tryz.prog 77 #[.slice (some ⟨b,0,none⟩) n c,.int .i64 i,.slice (some ⟨vb,vo,none⟩) 1 vc] w fun e w'=>e = .returned (.slice (some ⟨nb,0,none⟩) (n+1) G)∧w'=w3:=by
 have hz2:¬ ((i:Int)=(n:Int)):=by omega
 have hz3:(c:Int)<(n:Int)+1:=by omega
 have hin:i≤n:=by omega
 have hb4:¬ (c=i):=by omega
 have hi63:n+1≤9223372036854775807:=by omega
 have hGi:¬ (G=i):=by omega
 have hGi1:¬ (G=i+1):=by omega
 have hw1:IntKind.i64.wrap ((i:Int)+1)=(i:Int)+1:=by rw [nk];omega
 have hw2:IntKind.i64.wrap ((n:Int)+1)=(n:Int)+1:=by rw [nk];omega
 have hw3:IntKind.i64.wrap ((n:Int)+1 - (i:Int))=(n:Int)+1 - (i:Int):=by rw [nk];omega
 have hkk:(n:Int)+1 - (i:Int)=((n+1 - i:Nat):Int):=by omega
 rw [← hkk] at hap
 have hb1:(0:Int)≤(i:Int)+1:=by omega
 have htn:((i:Int)+1).toNat=i+1:=by omega
 have hb3:(i:Int)≤(n:Int):=by omega
 have hni:n+1 - (i+1)=n - i:=by omega
 clear hkk
 have mixed:Tryz.prog.follows .mixedOrders=true:=by kernel_rfl
 go_enter Tryz.func77,Tryz.ntmps77
 go_wp2_with (first
  | (at_builtin;refine BJ _ rfl _ _ 31 3 rfl _ _ rfl rfl _ _ (hap _) ?_)
  | (at_builtin;refine Iv _ rfl _ _ 31 31 rfl _ _ rfl rfl (hcp1 _) ?_))
 go_region_law_o (refine z6 rfl _ _ 31 31 rfl _ _ (by simp [Act.eval,Act.put]) (by simp [Act.eval,Act.put]) (hcp2 _) ?_)
 go_wp2
 go_ret
 exact ⟨rfl,rfl⟩
set_option maxHeartbeats 4000000 in
set_option maxRecDepth 100000 in
theorem Z2 (b n c i vb vo vc:Nat) (w w1 w2:World) (hi:i<n) (hroom:n+1≤c) (hc63:c≤9223372036854775807)
  (hov:∀ lb cb,(callFunc 110 #[.slice (some ⟨vb,vo,none⟩) 1 vc,.slice (some ⟨b,(i+1)*3,none⟩) lb cb]).run Tryz.prog w = .ok (.value (.bool false)) w)
  (hcp1:∀ ty,(Builtin.copy_ #[31,31] ty #[.slice (some ⟨b,(i+1)*3,none⟩) (n - i) (c - (i+1)),.slice (some ⟨b,i*3,none⟩) (n+1 - i) (c - i)]).run Tryz.prog w.drew = .ok (goInt (n - i:Nat)) w1)
  (hcp2:∀ ty,(Builtin.copy_ #[31,31] ty #[.slice (some ⟨b,i*3,none⟩) (n+1 - i) (c - i),.slice (some ⟨vb,vo,none⟩) 1 vc]).run Tryz.prog w1 = .ok (goInt 1) w2) :
  Calls Tryz.prog 77 #[.slice (some ⟨b,0,none⟩) n c,.int .i64 i,.slice (some ⟨vb,vo,none⟩) 1 vc] w fun e w'=>e = .returned (.slice (some ⟨b,0,none⟩) (n+1) c)∧w'=w2:=by
 have hz2:¬ ((i:Int)=(n:Int)):=by omega
 have hin:i≤n:=by omega
 have hb2:¬ (c=i+1):=by omega
 have hb4:¬ (c=i):=by omega
 have hw1:IntKind.i64.wrap ((i:Int)+1)=(i:Int)+1:=by rw [nk];omega
 have hw2:IntKind.i64.wrap ((n:Int)+1)=(n:Int)+1:=by rw [nk];omega
 have hb1:(0:Int)≤(i:Int)+1:=by omega
 have htn:((i:Int)+1).toNat=i+1:=by omega
 have htn2:((n:Int)+1).toNat=n+1:=by omega
 have hb3:(i:Int)≤(n:Int)+1:=by omega
 have hni:n+1 - (i+1)=n - i:=by omega
 have mixed:Tryz.prog.follows .mixedOrders=true:=by kernel_rfl
 go_enter Tryz.func77,Tryz.ntmps77
 go_wp2_with (simp only [hov])
 go_region_law_o (refine z6 rfl _ _ 31 31 rfl _ _ (by simp [Act.eval,Act.put]) (by simp [Act.eval,Act.put]) (hcp1 _) ?_)
 go_wp2_with (at_builtin;refine Iv _ rfl _ _ 31 31 rfl _ _ rfl rfl (hcp2 _) ?_)
 go_ret
 exact ⟨rfl,rfl⟩
theorem Z4:sq Tryz.prog 77 31 3 110 3:=⟨ZY,Z0,Z2⟩
theorem a2A (vs:Array Value) (w:World):(callFunc 110 vs).run Tryz.prog w=((Extern.SlicesOverlaps.overlaps #[31,31] #[4] vs).run Tryz.prog w).andThen fun v w' => .ok (.value v) w' :=
 Qp Tryz.func110 (by kernel_rfl) (by kernel_rfl) (by kernel_rfl) (e:=Extern.SlicesOverlaps.overlaps #[31,31] #[4]) (by kernel_rfl) vs w
set_option maxHeartbeats 4000000 in
set_option maxRecDepth 100000 in
theorem ZX (base:Option Addr) (vb vo vc n c:Nat) (w w1:World) (u:Value) (hnc:n≤c)
  (hap:∀ ty,(Builtin.append_ #[32,32] ty #[.slice base n c,.slice (some ⟨vb,vo,none⟩) 1 vc]).run Tryz.prog w = .ok u w1) :
  Calls Tryz.prog 126 #[.slice base n c,.int .i64 n,.slice (some ⟨vb,vo,none⟩) 1 vc] w fun e w'=>e = .returned u∧w'=w1:=by
 have mixed:Tryz.prog.follows .mixedOrders=true:=by kernel_rfl
 go_enter Tryz.func126,Tryz.ntmps126
 go_wp2_with (at_builtin;refine BJ _ rfl _ _ 32 32 rfl _ _ rfl rfl _ _ (hap _) ?_)
 all_goals (go_ret;exact ⟨rfl,rfl⟩)
set_option maxHeartbeats 4000000 in
set_option maxRecDepth 100000 in
theorem ZZ (b n c i vb vo vc nb G:Nat) (w w1 w2 w3:World) (hi:i<n) (hnc:n≤c) (hroom:c<n+1) (hc63:c≤9223372036854775807) (hG:n+1≤G) (hG63:G≤9223372036854775807)
  (hap:∀ ty,(Builtin.append_ #[32,3] ty #[.slice (some ⟨b,0,none⟩) i c,.int .i64 (n+1 - i:Nat)]).run Tryz.prog w = .ok (.slice (some ⟨nb,0,none⟩) (n+1) G) w1)
  (hcp1:∀ ty,(Builtin.copy_ #[32,32] ty #[.slice (some ⟨nb,i*3,none⟩) (n+1 - i) (G - i),.slice (some ⟨vb,vo,none⟩) 1 vc]).run Tryz.prog w1 = .ok (goInt 1) w2)
  (hcp2:∀ ty,(Builtin.copy_ #[32,32] ty #[.slice (some ⟨nb,(i+1)*3,none⟩) (n - i) (G - (i+1)),.slice (some ⟨b,i*3,none⟩) (n - i) (c - i)]).run Tryz.prog w2.drew = .ok (goInt (n - i:Nat)) w3) :
  Calls Tryz.prog 126 #[.slice (some ⟨b,0,none⟩) n c,.int .i64 i,.slice (some ⟨vb,vo,none⟩) 1 vc] w fun e w'=>e = .returned (.slice (some ⟨nb,0,none⟩) (n+1) G)∧w'=w3:=by
 have hz2:¬ ((i:Int)=(n:Int)):=by omega
 have hz3:(c:Int)<(n:Int)+1:=by omega
 have hin:i≤n:=by omega
 have hb4:¬ (c=i):=by omega
 have hi63:n+1≤9223372036854775807:=by omega
 have hGi:¬ (G=i):=by omega
 have hGi1:¬ (G=i+1):=by omega
 have hw1:IntKind.i64.wrap ((i:Int)+1)=(i:Int)+1:=by rw [nk];omega
 have hw2:IntKind.i64.wrap ((n:Int)+1)=(n:Int)+1:=by rw [nk];omega
 have hw3:IntKind.i64.wrap ((n:Int)+1 - (i:Int))=(n:Int)+1 - (i:Int):=by rw [nk];omega
 have hkk:(n:Int)+1 - (i:Int)=((n+1 - i:Nat):Int):=by omega
 rw [← hkk] at hap
 have hb1:(0:Int)≤(i:Int)+1:=by omega
 have htn:((i:Int)+1).toNat=i+1:=by omega
 have hb3:(i:Int)≤(n:Int):=by omega
 have hni:n+1 - (i+1)=n - i:=by omega
 clear hkk
 have mixed:Tryz.prog.follows .mixedOrders=true:=by kernel_rfl
 go_enter Tryz.func126,Tryz.ntmps126
 go_wp2_with (first
  | (at_builtin;refine BJ _ rfl _ _ 32 3 rfl _ _ rfl rfl _ _ (hap _) ?_)
  | (at_builtin;refine Iv _ rfl _ _ 32 32 rfl _ _ rfl rfl (hcp1 _) ?_))
 go_region_law_o (refine z6 rfl _ _ 32 32 rfl _ _ (by simp [Act.eval,Act.put]) (by simp [Act.eval,Act.put]) (hcp2 _) ?_)
 go_wp2
 go_ret
 exact ⟨rfl,rfl⟩
set_option maxHeartbeats 4000000 in
set_option maxRecDepth 100000 in
theorem Z1 (b n c i vb vo vc:Nat) (w w1 w2:World) (hi:i<n) (hroom:n+1≤c) (hc63:c≤9223372036854775807)
  (hov:∀ lb cb,(callFunc 139 #[.slice (some ⟨vb,vo,none⟩) 1 vc,.slice (some ⟨b,(i+1)*3,none⟩) lb cb]).run Tryz.prog w = .ok (.value (.bool false)) w)
  (hcp1:∀ ty,(Builtin.copy_ #[32,32] ty #[.slice (some ⟨b,(i+1)*3,none⟩) (n - i) (c - (i+1)),.slice (some ⟨b,i*3,none⟩) (n+1 - i) (c - i)]).run Tryz.prog w.drew = .ok (goInt (n - i:Nat)) w1)
  (hcp2:∀ ty,(Builtin.copy_ #[32,32] ty #[.slice (some ⟨b,i*3,none⟩) (n+1 - i) (c - i),.slice (some ⟨vb,vo,none⟩) 1 vc]).run Tryz.prog w1 = .ok (goInt 1) w2) :
  Calls Tryz.prog 126 #[.slice (some ⟨b,0,none⟩) n c,.int .i64 i,.slice (some ⟨vb,vo,none⟩) 1 vc] w fun e w'=>e = .returned (.slice (some ⟨b,0,none⟩) (n+1) c)∧w'=w2:=by
 have hz2:¬ ((i:Int)=(n:Int)):=by omega
 have hin:i≤n:=by omega
 have hb2:¬ (c=i+1):=by omega
 have hb4:¬ (c=i):=by omega
 have hw1:IntKind.i64.wrap ((i:Int)+1)=(i:Int)+1:=by rw [nk];omega
 have hw2:IntKind.i64.wrap ((n:Int)+1)=(n:Int)+1:=by rw [nk];omega
 have hb1:(0:Int)≤(i:Int)+1:=by omega
 have htn:((i:Int)+1).toNat=i+1:=by omega
 have htn2:((n:Int)+1).toNat=n+1:=by omega
 have hb3:(i:Int)≤(n:Int)+1:=by omega
 have hni:n+1 - (i+1)=n - i:=by omega
 have mixed:Tryz.prog.follows .mixedOrders=true:=by kernel_rfl
 go_enter Tryz.func126,Tryz.ntmps126
 go_wp2_with (simp only [hov])
 go_region_law_o (refine z6 rfl _ _ 32 32 rfl _ _ (by simp [Act.eval,Act.put]) (by simp [Act.eval,Act.put]) (hcp1 _) ?_)
 go_wp2_with (at_builtin;refine Iv _ rfl _ _ 32 32 rfl _ _ rfl rfl (hcp2 _) ?_)
 go_ret
 exact ⟨rfl,rfl⟩
theorem Z3:sq Tryz.prog 126 32 3 139 3:=⟨ZX,ZZ,Z1⟩
theorem a2B (vs:Array Value) (w:World):(callFunc 139 vs).run Tryz.prog w=((Extern.SlicesOverlaps.overlaps #[32,32] #[4] vs).run Tryz.prog w).andThen fun v w' => .ok (.value v) w' :=
 Qp Tryz.func139 (by kernel_rfl) (by kernel_rfl) (by kernel_rfl) (e:=Extern.SlicesOverlaps.overlaps #[32,32] #[4]) (by kernel_rfl) vs w
end Go.Proofs.YtkcdpfogoepamaaGreatDoor
namespace Go.Proofs.YtkcdpfogoepamaaGreatDoor
open Go.Eng Go.Pi
abbrev U:Nat:=3
abbrev iZ:Nat:=4
abbrev cD:Nat:=5
abbrev bH:Nat:=9
abbrev aP:Nat:=22
abbrev jl:Nat:=24
abbrev hz:Nat:=28
abbrev dV:Nat:=31
abbrev dN:Nat:=32
abbrev aX:Nat:=34
abbrev gC:Nat:=38
abbrev qU:Nat:=39
abbrev dX:Nat:=40
abbrev dO:Nat:=48
abbrev bP:Nat:=50
abbrev eG:Nat:=52
abbrev fK:Nat:=53
abbrev kU:Nat:=56
abbrev eO:Nat:=59
abbrev bU:Nat:=68
abbrev bQ:Nat:=69
abbrev aC:Nat:=71
abbrev kA:Nat:=80
abbrev iR:Nat:=82
abbrev aH:Nat:=84
abbrev hD:Nat:=87
abbrev hF:Nat:=89
abbrev eK:Nat:=99
abbrev gh:Nat:=101
abbrev dD:Nat:=114
abbrev mC:Nat:=116
abbrev hR:Nat:=118
abbrev bE:Nat:=129
abbrev bI:Nat:=134
abbrev Rm:Nat:=156
abbrev pX:Nat:=157
abbrev nX:Nat:=165
abbrev jm:Nat:=167
abbrev Ao:Nat:=191
abbrev DH:Nat:=3
abbrev Dh:Nat:=4
abbrev yn:Nat:=5
abbrev yk:Nat:=6
abbrev ya:Nat:=7
abbrev vv:Nat:=8
abbrev yh:Nat:=9
abbrev yz:Nat:=10
abbrev yA:Nat:=11
abbrev Dx:Nat:=12
abbrev DL:Nat:=13
abbrev Di:Nat:=14
abbrev vj:Nat:=15
abbrev DA:Nat:=16
abbrev lV:Nat:=17
abbrev yc:Nat:=18
abbrev gP:Nat:=19
abbrev yi:Nat:=20
abbrev yo:Nat:=21
abbrev DF:Nat:=22
abbrev rI:Nat:=23
abbrev yB:Nat:=24
abbrev yC:Nat:=25
abbrev yd:Nat:=26
abbrev yp:Nat:=27
abbrev DI:Nat:=28
abbrev qy:Nat:=29
abbrev yH:Nat:=30
abbrev Dy:Nat:=31
abbrev DM:Nat:=32
abbrev DO:Nat:=33
abbrev rF:Nat:=34
abbrev s9:Nat:=35
abbrev yb:Nat:=36
abbrev yG:Nat:=37
abbrev yl:Nat:=38
abbrev rK:Nat:=39
abbrev yE:Nat:=40
abbrev rL:Nat:=41
abbrev oO:Nat:=42
abbrev tf:Nat:=43
abbrev vl:Nat:=44
abbrev yy:Nat:=45
abbrev DG:Nat:=46
abbrev rJ:Nat:=47
abbrev Dz:Nat:=48
abbrev vw:Nat:=49
abbrev ym:Nat:=50
abbrev DJ:Nat:=51
abbrev vy:Nat:=52
abbrev pz:Nat:=53
abbrev oP:Nat:=54
abbrev vm:Nat:=55
abbrev Dj:Nat:=56
abbrev qw:Nat:=57
abbrev Dw:Nat:=58
abbrev x3:Nat:=59
abbrev vt:Nat:=60
abbrev DR:Nat:=61
abbrev DQ:Nat:=62
abbrev Dk:Nat:=63
abbrev Dl:Nat:=64
abbrev yI:Nat:=65
abbrev yq:Nat:=66
abbrev qx:Nat:=67
abbrev yu:Nat:=68
abbrev vn:Nat:=69
abbrev pv:Nat:=70
abbrev vr:Nat:=71
abbrev yt:Nat:=72
abbrev Db:Nat:=73
abbrev pw:Nat:=74
abbrev x2:Nat:=75
abbrev s5:Nat:=76
abbrev s4:Nat:=78
abbrev rE:Nat:=79
abbrev tg:Nat:=80
abbrev qz:Nat:=81
abbrev yN:Nat:=82
abbrev lD:Nat:=83
abbrev vk:Nat:=84
abbrev nK:Nat:=85
abbrev mj:Nat:=86
abbrev vp:Nat:=87
abbrev vq:Nat:=88
abbrev qu:Nat:=89
abbrev yj:Nat:=90
abbrev DU:Nat:=91
abbrev yK:Nat:=92
abbrev yL:Nat:=93
abbrev yD:Nat:=94
abbrev yM:Nat:=95
abbrev vz:Nat:=96
abbrev yr:Nat:=97
abbrev mi:Nat:=98
abbrev u7:Nat:=99
abbrev ye:Nat:=100
abbrev yf:Nat:=101
abbrev Dm:Nat:=102
abbrev u9:Nat:=103
abbrev mZ:Nat:=104
abbrev yF:Nat:=105
abbrev x4:Nat:=106
abbrev Dc:Nat:=107
abbrev Dd:Nat:=108
abbrev x7:Nat:=109
abbrev DK:Nat:=112
abbrev x5:Nat:=113
abbrev u5:Nat:=114
abbrev u6:Nat:=115
abbrev x9:Nat:=116
abbrev DN:Nat:=117
abbrev px:Nat:=118
abbrev nJ:Nat:=119
abbrev tc:Nat:=120
abbrev vd:Nat:=121
abbrev Dn:Nat:=122
abbrev Dp:Nat:=123
abbrev ve:Nat:=124
abbrev DP:Nat:=125
abbrev vu:Nat:=128
abbrev x6:Nat:=129
abbrev s6:Nat:=130
abbrev Dq:Nat:=131
abbrev vg:Nat:=132
abbrev rG:Nat:=133
abbrev Dr:Nat:=134
abbrev Ds:Nat:=135
abbrev DS:Nat:=136
abbrev yJ:Nat:=137
abbrev DT:Nat:=138
abbrev De:Nat:=142
abbrev Dt:Nat:=143
abbrev Du:Nat:=144
abbrev yg:Nat:=145
abbrev N3:Nat:=146
abbrev x1:Nat:=147
abbrev x8:Nat:=149
abbrev Df:Nat:=150
abbrev rH:Nat:=151
abbrev qv:Nat:=152
abbrev Dg:Nat:=155
abbrev Dv:Nat:=156
abbrev vi:Nat:=157
abbrev yv:Nat:=174
abbrev yw:Nat:=175
abbrev yx:Nat:=176
abbrev py:Nat:=177
abbrev DB:Nat:=178
abbrev DC:Nat:=179
abbrev DD:Nat:=180
noncomputable def m7:TI:=⟨.int .i64,1,8,[.int .i64 0],[]⟩
noncomputable def Rg:TI:=⟨.bool,1,1,[.bool false],[]⟩
noncomputable def iE:TI:=⟨.int .u8,1,1,[.int .u8 0],[]⟩
noncomputable def Rj:TI:=⟨.str,1,16,[.str []],[]⟩
noncomputable def iK:TI:=⟨.sl 5,1,24,[.aA],[]⟩
noncomputable def H9:TI:=⟨.sl 50,1,24,[.aA],[]⟩
noncomputable def Rh:TI:=⟨.int .i64,1,8,[.int .i64 0],[]⟩
noncomputable def r4:TI:=⟨.sl 59,1,24,[.aA],[]⟩
noncomputable def kS:TI:=⟨.sl 99,1,24,[.aA],[]⟩
noncomputable def Ac:TI:=⟨.st [(31,0,1),(32,1,1)],2,48,[.aA,.aA],[]⟩
noncomputable def qS:TI:=⟨.sl 22,1,24,[.aA],[]⟩
noncomputable def Re:TI:=⟨.sl 34,1,24,[.aA],[]⟩
noncomputable def wy:TI:=⟨.sl 71,1,24,[.aA],[]⟩
noncomputable def wv:TI:=⟨.sl 84,1,24,[.aA],[]⟩
noncomputable def Ia:TI:=⟨.st [(3,0,1),(3,1,1),(48,2,1)],3,40,[.int .i64 0,.int .i64 0,.aA],[]⟩
noncomputable def Ra:TI:=⟨.int .u64,1,8,[.int .u64 0],[]⟩
noncomputable def Ri:TI:=⟨.int .u32,1,4,[.int .u32 0],[]⟩
noncomputable def Ad:TI:=⟨.st [(22,0,1),(3,1,1)],2,32,[.aA,.int .i64 0],[]⟩
noncomputable def kR:TI:=⟨.st [(3,0,1),(3,1,1),(3,2,1)],3,24,[.int .i64 0,.int .i64 0,.int .i64 0],[]⟩
noncomputable def tZ:TI:=⟨.sl 114,1,24,[.aA],[]⟩
noncomputable def Ai:TI:=⟨.sl 129,1,24,[.aA],[]⟩
noncomputable def wx:TI:=⟨.st [(3,0,1),(3,1,1),(3,2,1),(3,3,1),(68,4,1),(3,5,1),(3,6,1),(9,7,1),(9,8,1),(69,9,1)],10,128,[.int .i64 0,.int .i64 0,.int .i64 0,.int .i64 0,.aA,.int .i64 0,.int .i64 0,.str [],.str [],.aA],[]⟩
noncomputable def Ag:TI:=⟨.sl 48,1,24,[.aA],[]⟩
noncomputable def Ak:TI:=⟨.sl 3,1,24,[.aA],[]⟩
noncomputable def Ih:TI:=⟨.st [(9,0,1),(71,1,10)],11,144,[.str [],.int .i64 0,.int .i64 0,.int .i64 0,.int .i64 0,.aA,.int .i64 0,.int .i64 0,.str [],.str [],.aA],[]⟩
noncomputable def Rf:TI:=⟨.int .u64,1,8,[.int .u64 0],[]⟩
noncomputable def Rk:TI:=⟨.sl 9,1,24,[.aA],[]⟩
noncomputable def h4:TI:=⟨.st [(3,0,1),(9,1,1),(3,2,1)],3,32,[.int .i64 0,.str [],.int .i64 0],[]⟩
noncomputable def Rb:TI:=⟨.st [(34,0,2),(40,2,1)],3,72,[.aA,.aA,.aA],[]⟩
noncomputable def r5:TI:=⟨.st [(3,0,1),(3,1,1),(9,2,1)],3,32,[.int .i64 0,.int .i64 0,.str []],[]⟩
noncomputable def Rd:TI:=⟨.ptr 118,1,8,[.jv],[("logtide/event.count",some 174),("logtide/event.number",some 175),("logtide/event.take",some 177),("logtide/event.text",some 176)]⟩
noncomputable def Af:TI:=⟨.st [(22,0,1),(4,1,1)],2,32,[.aA,.bool false],[]⟩
noncomputable def wu:TI:=⟨.st [(9,0,1),(9,1,1)],2,32,[.str [],.str []],[]⟩
noncomputable def tY:TI:=⟨.st [(22,0,1),(3,1,1),(4,2,1)],3,40,[.aA,.int .i64 0,.bool false],[]⟩
noncomputable def Ib:TI:=⟨.ptr 3,1,8,[.jv],[]⟩
noncomputable def Ic:TI:=⟨.sl 156,1,24,[.aA],[]⟩
noncomputable def Rc:TI:=⟨.ptr 167,1,8,[.jv],[("logtide/event.count",some 178),("logtide/event.number",some 179),("logtide/event.text",some 180)]⟩
noncomputable def Ae:TI:=⟨.st [(22,0,1)],1,24,[.aA],[]⟩
noncomputable def H8:TI:=⟨.arr 256 5,256,256,[.int .u8 0,.int .u8 0,.int .u8 0,.int .u8 0,.int .u8 0,.int .u8 0,.int .u8 0,.int .u8 0,.int .u8 0,.int .u8 0,.int .u8 0,.int .u8 0,.int .u8 0,.int .u8 0,.int .u8 0,.int .u8 0,.int .u8 0,.int .u8 0,.int .u8 0,.int .u8 0,.int .u8 0,.int .u8 0,.int .u8 0,.int .u8 0,.int .u8 0,.int .u8 0,.int .u8 0,.int .u8 0,.int .u8 0,.int .u8 0,.int .u8 0,.int .u8 0,.int .u8 0,.int .u8 0,.int .u8 0,.int .u8 0,.int .u8 0,.int .u8 0,.int .u8 0,.int .u8 0,.int .u8 0,.int .u8 0,.int .u8 0,.int .u8 0,.int .u8 0,.int .u8 0,.int .u8 0,.int .u8 0,.int .u8 0,.int .u8 0,.int .u8 0,.int .u8 0,.int .u8 0,.int .u8 0,.int .u8 0,.int .u8 0,.int .u8 0,.int .u8 0,.int .u8 0,.int .u8 0,.int .u8 0,.int .u8 0,.int .u8 0,.int .u8 0,.int .u8 0,.int .u8 0,.int .u8 0,.int .u8 0,.int .u8 0,.int .u8 0,.int .u8 0,.int .u8 0,.int .u8 0,.int .u8 0,.int .u8 0,.int .u8 0,.int .u8 0,.int .u8 0,.int .u8 0,.int .u8 0,.int .u8 0,.int .u8 0,.int .u8 0,.int .u8 0,.int .u8 0,.int .u8 0,.int .u8 0,.int .u8 0,.int .u8 0,.int .u8 0,.int .u8 0,.int .u8 0,.int .u8 0,.int .u8 0,.int .u8 0,.int .u8 0,.int .u8 0,.int .u8 0,.int .u8 0,.int .u8 0,.int .u8 0,.int .u8 0,.int .u8 0,.int .u8 0,.int .u8 0,.int .u8 0,.int .u8 0,.int .u8 0,.int .u8 0,.int .u8 0,.int .u8 0,.int .u8 0,.int .u8 0,.int .u8 0,.int .u8 0,.int .u8 0,.int .u8 0,.int .u8 0,.int .u8 0,.int .u8 0,.int .u8 0,.int .u8 0,.int .u8 0,.int .u8 0,.int .u8 0,.int .u8 0,.int .u8 0,.int .u8 0,.int .u8 0,.int .u8 0,.int .u8 0,.int .u8 0,.int .u8 0,.int .u8 0,.int .u8 0,.int .u8 0,.int .u8 0,.int .u8 0,.int .u8 0,.int .u8 0,.int .u8 0,.int .u8 0,.int .u8 0,.int .u8 0,.int .u8 0,.int .u8 0,.int .u8 0,.int .u8 0,.int .u8 0,.int .u8 0,.int .u8 0,.int .u8 0,.int .u8 0,.int .u8 0,.int .u8 0,.int .u8 0,.int .u8 0,.int .u8 0,.int .u8 0,.int .u8 0,.int .u8 0,.int .u8 0,.int .u8 0,.int .u8 0,.int .u8 0,.int .u8 0,.int .u8 0,.int .u8 0,.int .u8 0,.int .u8 0,.int .u8 0,.int .u8 0,.int .u8 0,.int .u8 0,.int .u8 0,.int .u8 0,.int .u8 0,.int .u8 0,.int .u8 0,.int .u8 0,.int .u8 0,.int .u8 0,.int .u8 0,.int .u8 0,.int .u8 0,.int .u8 0,.int .u8 0,.int .u8 0,.int .u8 0,.int .u8 0,.int .u8 0,.int .u8 0,.int .u8 0,.int .u8 0,.int .u8 0,.int .u8 0,.int .u8 0,.int .u8 0,.int .u8 0,.int .u8 0,.int .u8 0,.int .u8 0,.int .u8 0,.int .u8 0,.int .u8 0,.int .u8 0,.int .u8 0,.int .u8 0,.int .u8 0,.int .u8 0,.int .u8 0,.int .u8 0,.int .u8 0,.int .u8 0,.int .u8 0,.int .u8 0,.int .u8 0,.int .u8 0,.int .u8 0,.int .u8 0,.int .u8 0,.int .u8 0,.int .u8 0,.int .u8 0,.int .u8 0,.int .u8 0,.int .u8 0,.int .u8 0,.int .u8 0,.int .u8 0,.int .u8 0,.int .u8 0,.int .u8 0,.int .u8 0,.int .u8 0,.int .u8 0,.int .u8 0,.int .u8 0,.int .u8 0,.int .u8 0,.int .u8 0,.int .u8 0,.int .u8 0,.int .u8 0,.int .u8 0,.int .u8 0,.int .u8 0,.int .u8 0,.int .u8 0,.int .u8 0,.int .u8 0,.int .u8 0,.int .u8 0,.int .u8 0,.int .u8 0,.int .u8 0],[]⟩
noncomputable def Q6:List (Option TI):=[none,none,none,some m7,some Rg,some iE,none,none,none,some Rj,none,none,none,none,none,none,none,none,none,none,none,none,some iK,none,some H9,none,none,none,some Rh,none,none,some r4,some kS,none,some Ac,none,none,none,some qS,some Re,some wy,none,none,none,none,none,none,none,some wv,none,some Ia,none,some Ra,some Ri,none,none,some Ad,none,none,some kR,none,none,none,none,none,none,none,none,some tZ,some Ai,none,some wx,none,none,none,none,none,none,none,none,some Ag,none,some Ak,none,some Ih,none,none,some Rf,none,some Rk,none,none,none,none,none,none,none,none,none,some h4,none,some Rb,none,none,none,none,none,none,none,none,none,none,none,none,some r5,none,some Rd,none,some Af,none,none,none,none,none,none,none,none,none,none,some wu,none,none,none,none,some tY,none,none,none,none,none,none,none,none,none,none,none,none,none,none,none,none,none,none,none,none,none,some Ib,some Ic,none,none,none,none,none,none,none,some Rc,none,some Ae,none,none,none,none,none,none,none,none,none,none,none,none,none,none,none,none,none,none,none,none,none,none,none,some H8]
noncomputable def tab:dR:=H0 Q6
abbrev gy(t:Nat)(i:TI):Prop:=ua Tryz.prog t=some i∧tj Tryz.prog t=true
theorem gI{t:Nat}{i:TI}(h:ua Tryz.prog t=some i:=by kernel_rfl)(a:tj Tryz.prog t=true:=by kernel_rfl):gy t i:=⟨h,a⟩
theorem tk3:gy 3 m7:=gI
theorem tk4:gy 4 Rg:=gI
theorem tk5:gy 5 iE:=gI
theorem tk9:gy 9 Rj:=gI
theorem a5x:gy 22 iK:=gI
theorem a5y:gy 24 H9:=gI
theorem a5z:gy 28 Rh:=gI
theorem a5B:gy 31 r4:=gI
theorem a5C:gy 32 kS:=gI
theorem a5D:gy 34 Ac:=gI
theorem a5E:gy 38 qS:=gI
theorem a5F:gy 39 Re:=gI
theorem a5H:gy 40 wy:=gI
theorem a5I:gy 48 wv:=gI
theorem a5K:gy 50 Ia:=gI
theorem a5L:gy 52 Ra:=gI
theorem a5M:gy 53 Ri:=gI
theorem a5N:gy 56 Ad:=gI
theorem a5O:gy 59 kR:=gI
theorem a5P:gy 68 tZ:=gI
theorem a5Q:gy 69 Ai:=gI
theorem a5R:gy 71 wx:=gI
theorem a5S:gy 80 Ag:=gI
theorem a5T:gy 82 Ak:=gI
theorem a5U:gy 84 Ih:=gI
theorem a5V:gy 87 Rf:=gI
theorem a5W:gy 89 Rk:=gI
theorem a5Y:gy 99 h4:=gI
theorem a5m:gy 101 Rb:=gI
theorem a5n:gy 114 r5:=gI
theorem a5o:gy 116 Rd:=gI
theorem a5p:gy 118 Af:=gI
theorem a5q:gy 129 wu:=gI
theorem a5r:gy 134 tY:=gI
theorem a5s:gy 156 Ib:=gI
theorem a5t:gy 157 Ic:=gI
theorem a5u:gy 165 Rc:=gI
theorem a5v:gy 167 Ae:=gI
theorem a5w:gy 191 H8:=gI
theorem HZ:eL Tryz.prog tab:=a5g (show uJ Tryz.prog 0 Q6 from⟨tk3,tk4,tk5,tk9,a5x,a5y,a5z,a5B,a5C,a5D,a5E,a5F,a5H,a5I,a5K,a5L,a5M,a5N,a5O,a5P,a5Q,a5R,a5S,a5T,a5U,a5V,a5W,a5Y,a5m,a5n,a5o,a5p,a5q,a5r,a5s,a5t,a5u,a5v,a5w,trivial⟩)
theorem a2f:Tryz.prog.follows .mixedOrders=true:=by kernel_rfl
def cG(f:Func)(n:Nat)(k z b:List Nat)(s:Bool):jR:=⟨f.body.getD .skip,f.results.toList,⟨n,k,z,b⟩,s⟩
noncomputable def i3:=cG Tryz.f3 124 [0,1,2,3,8,10,11,12,13,14,15,17,19,20,21,22,23,24,25,32,45,64,79,80,81,82,87,88,89,90,121] [15,19,20,23,87] [1000079] true
noncomputable def i4:=cG Tryz.f4 15 [0,1,2] [4] [] false
noncomputable def i5:=cG Tryz.f5 29 [0,2,3,4,5,6,7,15] [] [] false
noncomputable def i6:=cG Tryz.f6 14 [0,1,4,6] [] [] false
noncomputable def i7:=cG Tryz.f7 43 [0,1,4,5,6,7,8,16,23] [] [] true
noncomputable def i8:=cG Tryz.f8 13 [0,1,4] [] [] false
noncomputable def i9:=cG Tryz.f9 34 [0,2,3,4,5,7,14,19] [27] [] true
noncomputable def D3:=cG Tryz.f10 53 [0,1,2,4,5,6,7,8,9,11,12,13,14,15,21,22,23,24,33,42] [12,14] [] true
noncomputable def Ee:=cG Tryz.f11 63 [0,1,2,4,5,6,7,8,9,10,11,12,13,14,15,16,25,37,46,51] [11,13] [] true
noncomputable def En:=cG Tryz.f12 17 [0,1,2,3,4] [2,3] [] false
noncomputable def Ez:=cG Tryz.f13 27 [0,1,4,5,10,14,26] [] [] false
noncomputable def EJ:=cG Tryz.f14 37 [0,1,4,5,6,7,16] [35] [] true
noncomputable def ES:=cG Tryz.f15 146 [0,1,2,6,7,8,9,10,11,12,13,14,23,33,49,61,62,68,82,116,134] [105,111,125,143] [] true
noncomputable def EZ:=cG Tryz.f16 21 [0,1,3,4,5,6,7,14] [3] [] false
noncomputable def E0:=cG Tryz.f17 23 [0,1,2,6,7,11] [20] [] false
noncomputable def E7:=cG Tryz.f18 33 [0,2,3,4,5,9,20,25] [] [] false
noncomputable def E9:=cG Tryz.f19 35 [0,1,4,5,12] [] [] false
noncomputable def Fa:=cG Tryz.f20 25 [0,2,3,4,8] [15] [] false
noncomputable def Fb:=cG Tryz.f21 70 [0,2,3,4,5,6,7,8,9,14,40,60] [63] [] true
noncomputable def Fc:=cG Tryz.f22 69 [0,2,3,4,5,6,7,8,9,10,11,14,33,43,66] [7,48,1000004] [] true
noncomputable def Fe:=cG Tryz.f23 47 [0,1,2,3,4,5,6,7,8,10,14,27,28,29,30,36] [2,3,10] [] true
noncomputable def Ff:=cG Tryz.f24 9 [0,1] [] [] false
noncomputable def Fg:=cG Tryz.f25 13 [0,1,2,3,4,5,9] [2,3] [] false
noncomputable def Fh:=cG Tryz.f26 28 [0,1,2,3,4] [2,3,25] [] false
noncomputable def Fi:=cG Tryz.f27 72 [0,2,3,4,5,6,7,12,34,61] [64] [] true
noncomputable def Fj:=cG Tryz.f28 70 [0,2,3,4,5,6,7,8,9,10,11,14,29,32,44,67] [7,49,1000004] [] true
noncomputable def Fk:=cG Tryz.f29 128 [0,1,2,3,4,5,6,7,8,9,10,11,12,13,14,15,19,27,51,63,71,90,120] [2,3,14,124] [] true
noncomputable def Fl:=cG Tryz.f30 34 [0,1,3,4,5,6,19] [3,28] [] true
noncomputable def Fm:=cG Tryz.f31 26 [0,1,4,5,10,14,25] [] [] false
noncomputable def Fo:=cG Tryz.f32 26 [0,1,4,5,10,14,25] [] [] false
noncomputable def Fp:=cG Tryz.f33 10 [0,1,2,3,4] [2,3] [] false
noncomputable def Fq:=cG Tryz.f34 15 [0,2] [14] [] false
noncomputable def Ft:=cG Tryz.f35 36 [0,2,3,5,6,8,9,10,11,12,20,25,26,27,28] [] [] false
noncomputable def Fu:=cG Tryz.f36 10 [0,1,4] [7] [] true
noncomputable def Fv:=cG Tryz.f37 45 [0,1,2,6,7,8,9,10,11,12,16,24] [12,35,42] [] true
noncomputable def Fw:=cG Tryz.f38 49 [0,1,2,3,4,5,6,7,27,32] [2,3,44] [] true
noncomputable def Fx:=cG Tryz.f39 47 [0,1,2,3,4,5,6,7,12,31] [1] [] true
noncomputable def Fy:=cG Tryz.f40 13 [0,2] [] [] false
noncomputable def Fz:=cG Tryz.f41 96 [0,1,2,3,8,9,10,12,44,70] [89] [] true
noncomputable def FA:=cG Tryz.f42 25 [0,2] [] [] false
noncomputable def FB:=cG Tryz.f43 13 [0,2] [] [] false
noncomputable def FC:=cG Tryz.f44 67 [0,2,3,4,5,6,7,10,24,36,62] [] [60] true
noncomputable def FD:=cG Tryz.f45 47 [0,1,2,3,4,5,7,8,9,13,28,29,30,31,40] [1,7] [] true
noncomputable def FE:=cG Tryz.f46 10 [0,1,4] [] [] false
noncomputable def FF:=cG Tryz.f47 35 [0,1,2,4,5,9,11,12,13,14,19,23,30] [1,4] [] false
noncomputable def FG:=cG Tryz.f48 8 [0,2,4] [5] [] false
noncomputable def FH:=cG Tryz.f49 8 [0,2,4] [5] [] false
noncomputable def FI:=cG Tryz.f50 142 [0,1,3,4,5,6,7,8,9,10,11,12,13,14,35,43,49,62,85,121] [10,96,138] [] false
noncomputable def FJ:=cG Tryz.f51 63 [0,1,2,6,7,8,9,13,30,35,54] [] [] false
noncomputable def FK:=cG Tryz.f52 18 [0,2,3,5,6,7,8,9,14] [] [] false
noncomputable def FL:=cG Tryz.f53 20 [0,1,4,5,6,11,12,13,16,19] [] [] false
noncomputable def FM:=cG Tryz.f54 20 [0,2,3,4,8] [] [] false
noncomputable def FN:=cG Tryz.f55 147 [0,2,3,4,5,6,7,9,10,31,47,142] [8] [] true
noncomputable def FO:=cG Tryz.f56 26 [0,1,4,5,10,14,25] [] [] false
noncomputable def FP:=cG Tryz.f57 36 [0,1,2,3,4,5,9,14,25,32,35] [1,4] [] false
noncomputable def FQ:=cG Tryz.f58 24 [0,1,2,3,6,7,8,17] [3] [] false
noncomputable def FR:=cG Tryz.f59 35 [0,1,2,4,5,6,7,14,23] [] [] true
noncomputable def FT:=cG Tryz.f60 33 [0,1,3,4,5,6,7,25] [3,23] [] true
noncomputable def FU:=cG Tryz.f61 43 [0,1,2,3,4,5,16,27] [2,3] [] false
noncomputable def FV:=cG Tryz.f62 86 [0,1,2,3,4,5,6] [2,3,1000006] [] true
noncomputable def FW:=cG Tryz.f63 27 [0,1,4,6,16] [] [] false
noncomputable def FX:=cG Tryz.f64 29 [0,2,3,5,6,7,8,9,16,17] [] [] false
noncomputable def FY:=cG Tryz.f65 94 [0,1,2,3,8,9,10,11,12,13,14,24,51,56] [41,64,77,82] [] true
noncomputable def FZ:=cG Tryz.f66 25 [0,1,2,3,4,5,6,10] [1] [] true
noncomputable def F0:=cG Tryz.f67 19 [0,2,3,5,6,7,8,9] [] [] false
noncomputable def F1:=cG Tryz.f68 20 [0,2,3,5,6,7,8,9] [] [] false
noncomputable def F2:=cG Tryz.f69 191 [0,1,4,6,7,8,9,33,34,35,36,52,53,54,62,145,146,147,155] [33,69,162] [] false
noncomputable def F3:=cG Tryz.f70 64 [0,1,2,3,4,7,13,18,33,63] [1,3] [] false
noncomputable def F4:=cG Tryz.f71 16 [0,1,4] [14] [] false
noncomputable def F5:=cG Tryz.f72 39 [0,1,2,3,4,5,9] [] [] true
noncomputable def F6:=cG Tryz.f73 24 [0,1,2,3,6,7,8,17] [3] [] false
noncomputable def F7:=cG Tryz.f74 21 [0,1,2,3] [] [] false
noncomputable def F8:=cG Tryz.f75 33 [0,1,2,3,4,5,6,7,15] [3] [] true
noncomputable def F9:=cG Tryz.f76 15 [0,1,2,6,7] [] [] false
noncomputable def Ga:=cG Tryz.f78 8 [0,2,4] [5] [] true
noncomputable def Gb:=cG Tryz.f79 8 [0,2,4] [5] [] false
noncomputable def Gc:=cG Tryz.f80 53 [0,1,2,3,8,9,14,34] [] [] false
noncomputable def Gd:=cG Tryz.f81 220 [0,1,2,3,4,10,11,12,13,14,15,16,17,18,19,20,21,22,23,24,28,33,50,58,80,85,103,110,140,151,171,185,199,213] [] [] false
noncomputable def Ge:=cG Tryz.f82 6 [0,2] [] [] false
noncomputable def Gf:=cG Tryz.f83 47 [0,1,2,4,5,6,7,20,25] [] [] true
noncomputable def Gg:=cG Tryz.f84 21 [0,2,3,4,8] [] [] false
noncomputable def Gi:=cG Tryz.f85 46 [0,1,2,3,4,5,24] [] [] true
noncomputable def Gj:=cG Tryz.f86 13 [0,1,2,3,4] [] [] true
noncomputable def Gk:=cG Tryz.f87 46 [0,1,2,3,4,5,6,7,19] [42] [] true
noncomputable def Gl:=cG Tryz.f88 40 [0,1,2,3,4,5,6,7,19] [36] [] true
noncomputable def Gm:=cG Tryz.f89 71 [0,1,2,3,4,5,6,9,16,22,31,56,61,70] [1,3] [] false
noncomputable def Gn:=cG Tryz.f90 65 [0,1,2,6,7,8,39] [] [] false
noncomputable def Gp:=cG Tryz.f91 26 [0,1,4,5,10,14,25] [] [] false
noncomputable def Gq:=cG Tryz.f92 26 [0,1,4,5,10,14,25] [] [] false
noncomputable def Gr:=cG Tryz.f93 24 [0,2,3,4,10] [14] [] false
noncomputable def Gs:=cG Tryz.f94 19 [0,2,4,5,10] [] [] false
noncomputable def Gt:=cG Tryz.f95 8 [0,2] [3] [] false
noncomputable def Gu:=cG Tryz.f96 27 [0,2,3,4,5,10,15] [6,24] [] true
noncomputable def Gv:=cG Tryz.f97 102 [0,1,2,3,4,5,6,35,83] [1,3] [] false
noncomputable def Gx:=cG Tryz.f98 24 [0,1,2,6,7,11] [21] [] false
noncomputable def Gy:=cG Tryz.f99 57 [0,1,2,3,4,5,6,16,29,40,48,54,56] [1] [] true
noncomputable def D4:=cG Tryz.f100 28 [0,1,2] [1] [] false
noncomputable def D5:=cG Tryz.f101 75 [0,1,2,4,5,6,7,8,9,14,22,23,24,25,64,69] [2] [] true
noncomputable def D6:=cG Tryz.f102 9 [0,1,4] [] [] false
noncomputable def D7:=cG Tryz.f103 6 [0,1,2] [1] [] false
noncomputable def D8:=cG Tryz.f104 23 [0,1,2,6,7,12] [20] [] false
noncomputable def D9:=cG Tryz.f105 42 [0,1,2,3,8,9,10,14,24] [30] [] true
noncomputable def Ea:=cG Tryz.f106 19 [0,1,4,5,7,8,9,16] [] [] false
noncomputable def Eb:=cG Tryz.f107 8 [0,1,2,3] [2] [] false
noncomputable def Ec:=cG Tryz.f108 49 [0,1,2,4,6,7,8,9,10,11,17,31] [4] [] false
noncomputable def Ed:=cG Tryz.f109 17 [0,1,2,3,4] [2,3,15] [] false
noncomputable def Ef:=cG Tryz.f112 58 [0,1,2,3,4,10,11,20,23] [] [] false
noncomputable def Eg:=cG Tryz.f113 68 [0,1,2,3,4,5,6,7,21,25,29,40,48,54,58,67] [1] [] false
noncomputable def Eh:=cG Tryz.f114 38 [0,1,2,37] [1] [] false
noncomputable def Ei:=cG Tryz.f115 74 [0,1,2,4,5,6,7,11,15,22,64,69] [2,7] [] false
noncomputable def Ej:=cG Tryz.f116 12 [0,2,3] [4] [] false
noncomputable def Ek:=cG Tryz.f117 12 [0,2,3] [4] [] false
noncomputable def El:=cG Tryz.f118 12 [0,1,4] [] [] false
noncomputable def Em:=cG Tryz.f119 9 [0,1,4] [] [] false
noncomputable def Eo:=cG Tryz.f120 15 [0,1,2,6] [] [] false
noncomputable def Ep:=cG Tryz.f121 44 [0,2,3,5,6,9,10,11,12,13,19,28,42] [5] [] false
noncomputable def Er:=cG Tryz.f122 26 [0,1,4,5,10,12,13,14,24] [] [] false
noncomputable def Es:=cG Tryz.f123 9 [0,1,4] [] [] false
noncomputable def Et:=cG Tryz.f124 7 [0,1,2] [1] [] false
noncomputable def Eu:=cG Tryz.f125 15 [0,1,2,6,7] [] [] false
noncomputable def Ew:=cG Tryz.f128 38 [0,1,2,3,10,13] [] [] false
noncomputable def Ey:=cG Tryz.f129 14 [0,2] [] [] false
noncomputable def EA:=cG Tryz.f130 89 [0,2,3,4,5,6,7,10,14,23,27,54,87] [37] [] true
noncomputable def EB:=cG Tryz.f131 38 [0,2,4,22,24,25,26,27,36] [] [] true
noncomputable def EC:=cG Tryz.f132 9 [0,1] [] [] false
noncomputable def ED:=cG Tryz.f133 10 [0,1,2,3,4] [2,3] [] false
noncomputable def EE:=cG Tryz.f134 8 [0,1,4] [] [] false
noncomputable def EF:=cG Tryz.f135 19 [0,1,4,5,7,8,9,16] [] [] false
noncomputable def EG:=cG Tryz.f136 49 [0,1,2,4,6,7,8,9,10,11,17,31] [4] [] false
noncomputable def EH:=cG Tryz.f137 17 [0,1,2,3,4] [2,3,15] [] false
noncomputable def EI:=cG Tryz.f138 20 [0,1,4,5,6,11,12,13,16,19] [] [] false
noncomputable def EK:=cG Tryz.f142 40 [0,2,3,22,26,39] [] [] false
noncomputable def EL:=cG Tryz.f143 8 [0,2] [] [] false
noncomputable def EM:=cG Tryz.f144 12 [0,2] [] [] false
noncomputable def EN:=cG Tryz.f145 63 [0,1,2,6,7,8,9,13,30,35,54] [] [] false
noncomputable def EO:=cG Tryz.f146 8 [0,1,4] [] [] false
noncomputable def EP:=cG Tryz.f147 6 [0,2] [] [] false
noncomputable def ER:=cG Tryz.f149 17 [0,2] [] [] false
noncomputable def ET:=cG Tryz.f150 13 [0,2] [] [] false
noncomputable def EU:=cG Tryz.f151 53 [0,1,2,3,8,9,14,34] [] [] false
noncomputable def EV:=cG Tryz.f152 220 [0,1,2,3,4,10,11,12,13,14,15,16,17,18,19,20,21,22,23,24,28,33,50,58,80,85,103,110,140,151,171,185,199,213] [] [] false
noncomputable def EW:=cG Tryz.f155 9 [0,2] [] [] false
noncomputable def EX:=cG Tryz.f156 58 [0,1,2,3,4,10,11,20,23] [] [] false
noncomputable def EY:=cG Tryz.f157 38 [0,1,2,3,10,13] [] [] false
noncomputable def E1:=cG Tryz.f174 28 [0,4,5,23] [] [] false
noncomputable def E2:=cG Tryz.f175 10 [0,1] [] [] false
noncomputable def E3:=cG Tryz.f176 22 [0,1,4,5,17] [] [] false
noncomputable def E4:=cG Tryz.f177 42 [0,1,4,5,22] [] [] false
noncomputable def E5:=cG Tryz.f178 16 [0,1,4] [] [] false
noncomputable def E6:=cG Tryz.f179 16 [0,1] [] [] false
noncomputable def E8:=cG Tryz.f180 21 [0,1] [] [] false
noncomputable def DX:List (Nat × jR):=[(3,i3),(4,i4),(5,i5),(6,i6),(7,i7),(8,i8),(9,i9),(10,D3),(11,Ee),(12,En),(13,Ez),(14,EJ),(15,ES),(16,EZ),(17,E0),(18,E7),(19,E9),(20,Fa),(21,Fb),(22,Fc),(23,Fe),(24,Ff),(25,Fg),(26,Fh),(27,Fi),(28,Fj),(29,Fk),(30,Fl),(31,Fm),(32,Fo),(33,Fp),(34,Fq),(35,Ft),(36,Fu),(37,Fv),(38,Fw),(39,Fx),(40,Fy),(41,Fz),(42,FA),(43,FB),(44,FC),(45,FD),(46,FE),(47,FF),(48,FG),(49,FH),(50,FI),(51,FJ),(52,FK),(53,FL),(54,FM),(55,FN),(56,FO),(57,FP),(58,FQ),(59,FR),(60,FT),(61,FU),(62,FV),(63,FW),(64,FX),(65,FY),(66,FZ),(67,F0),(68,F1),(69,F2),(70,F3),(71,F4),(72,F5),(73,F6),(74,F7),(75,F8),(76,F9),(78,Ga),(79,Gb),(80,Gc),(81,Gd),(82,Ge),(83,Gf),(84,Gg),(85,Gi),(86,Gj),(87,Gk),(88,Gl),(89,Gm),(90,Gn),(91,Gp),(92,Gq),(93,Gr),(94,Gs),(95,Gt),(96,Gu),(97,Gv),(98,Gx),(99,Gy),(100,D4),(101,D5),(102,D6),(103,D7),(104,D8),(105,D9),(106,Ea),(107,Eb),(108,Ec),(109,Ed),(112,Ef),(113,Eg),(114,Eh),(115,Ei),(116,Ej),(117,Ek),(118,El),(119,Em),(120,Eo),(121,Ep),(122,Er),(123,Es),(124,Et),(125,Eu),(128,Ew),(129,Ey),(130,EA),(131,EB),(132,EC),(133,ED),(134,EE),(135,EF),(136,EG),(137,EH),(138,EI),(142,EK),(143,EL),(144,EM),(145,EN),(146,EO),(147,EP),(149,ER),(150,ET),(151,EU),(152,EV),(155,EW),(156,EX),(157,EY),(174,E1),(175,E2),(176,E3),(177,E4),(178,E5),(179,E6),(180,E8)]
noncomputable def Fs:FuncId→Option jR:=yO DX
theorem cH{f:FuncId}{b:Func}{a:jR}(g:Tryz.prog.funcs[f]?=some b)(e:∀(c:Array Value) (w:World),(callFunc f c).run Tryz.prog w = .ok (.enter f c) w)(d:b.body=some a.body:=by kernel_rfl)(h:b.ntmps=a.A.nt:=by kernel_rfl)(i:b.results.toList=a.res:=by kernel_rfl):bV Tryz.prog f a :=.of g d h i e
theorem N0:bV Tryz.prog 3 i3:=cH Tryz.func3 Tryz.call3
theorem XY:bV Tryz.prog 4 i4:=cH Tryz.func4 Tryz.call4
theorem X9:bV Tryz.prog 5 i5:=cH Tryz.func5 Tryz.call5
theorem Yk:bV Tryz.prog 6 i6:=cH Tryz.func6 Tryz.call6
theorem Yv:bV Tryz.prog 7 i7:=cH Tryz.func7 Tryz.call7
theorem YF:bV Tryz.prog 8 i8:=cH Tryz.func8 Tryz.call8
theorem YQ:bV Tryz.prog 9 i9:=cH Tryz.func9 Tryz.call9
theorem Wz:bV Tryz.prog 10 D3:=cH Tryz.func10 Tryz.call10
theorem WL:bV Tryz.prog 11 Ee:=cH Tryz.func11 Tryz.call11
theorem WV:bV Tryz.prog 12 En:=cH Tryz.func12 Tryz.call12
theorem W4:bV Tryz.prog 13 Ez:=cH Tryz.func13 Tryz.call13
theorem Xe:bV Tryz.prog 14 EJ:=cH Tryz.func14 Tryz.call14
theorem Xm:bV Tryz.prog 15 ES:=cH Tryz.func15 Tryz.call15
theorem Xt:bV Tryz.prog 16 EZ:=cH Tryz.func16 Tryz.call16
theorem Xu:bV Tryz.prog 17 E0:=cH Tryz.func17 Tryz.call17
theorem XB:bV Tryz.prog 18 E7:=cH Tryz.func18 Tryz.call18
theorem XD:bV Tryz.prog 19 E9:=cH Tryz.func19 Tryz.call19
theorem XE:bV Tryz.prog 20 Fa:=cH Tryz.func20 Tryz.call20
theorem XF:bV Tryz.prog 21 Fb:=cH Tryz.func21 Tryz.call21
theorem XG:bV Tryz.prog 22 Fc:=cH Tryz.func22 Tryz.call22
theorem XH:bV Tryz.prog 23 Fe:=cH Tryz.func23 Tryz.call23
theorem XI:bV Tryz.prog 24 Ff:=cH Tryz.func24 Tryz.call24
theorem XJ:bV Tryz.prog 25 Fg:=cH Tryz.func25 Tryz.call25
theorem XK:bV Tryz.prog 26 Fh:=cH Tryz.func26 Tryz.call26
theorem XL:bV Tryz.prog 27 Fi:=cH Tryz.func27 Tryz.call27
theorem XM:bV Tryz.prog 28 Fj:=cH Tryz.func28 Tryz.call28
theorem XN:bV Tryz.prog 29 Fk:=cH Tryz.func29 Tryz.call29
theorem XO:bV Tryz.prog 30 Fl:=cH Tryz.func30 Tryz.call30
theorem XP:bV Tryz.prog 31 Fm:=cH Tryz.func31 Tryz.call31
theorem XQ:bV Tryz.prog 32 Fo:=cH Tryz.func32 Tryz.call32
theorem XR:bV Tryz.prog 33 Fp:=cH Tryz.func33 Tryz.call33
theorem XS:bV Tryz.prog 34 Fq:=cH Tryz.func34 Tryz.call34
theorem XT:bV Tryz.prog 35 Ft:=cH Tryz.func35 Tryz.call35
theorem XU:bV Tryz.prog 36 Fu:=cH Tryz.func36 Tryz.call36
theorem XV:bV Tryz.prog 37 Fv:=cH Tryz.func37 Tryz.call37
theorem XW:bV Tryz.prog 38 Fw:=cH Tryz.func38 Tryz.call38
theorem XX:bV Tryz.prog 39 Fx:=cH Tryz.func39 Tryz.call39
theorem XZ:bV Tryz.prog 40 Fy:=cH Tryz.func40 Tryz.call40
theorem X0:bV Tryz.prog 41 Fz:=cH Tryz.func41 Tryz.call41
theorem X1:bV Tryz.prog 42 FA:=cH Tryz.func42 Tryz.call42
theorem X2:bV Tryz.prog 43 FB:=cH Tryz.func43 Tryz.call43
theorem X3:bV Tryz.prog 44 FC:=cH Tryz.func44 Tryz.call44
theorem X4:bV Tryz.prog 45 FD:=cH Tryz.func45 Tryz.call45
theorem X5:bV Tryz.prog 46 FE:=cH Tryz.func46 Tryz.call46
theorem X6:bV Tryz.prog 47 FF:=cH Tryz.func47 Tryz.call47
theorem X7:bV Tryz.prog 48 FG:=cH Tryz.func48 Tryz.call48
theorem X8:bV Tryz.prog 49 FH:=cH Tryz.func49 Tryz.call49
theorem Ya:bV Tryz.prog 50 FI:=cH Tryz.func50 Tryz.call50
theorem Yb:bV Tryz.prog 51 FJ:=cH Tryz.func51 Tryz.call51
theorem Yc:bV Tryz.prog 52 FK:=cH Tryz.func52 Tryz.call52
theorem Yd:bV Tryz.prog 53 FL:=cH Tryz.func53 Tryz.call53
theorem Ye:bV Tryz.prog 54 FM:=cH Tryz.func54 Tryz.call54
theorem Yf:bV Tryz.prog 55 FN:=cH Tryz.func55 Tryz.call55
theorem Yg:bV Tryz.prog 56 FO:=cH Tryz.func56 Tryz.call56
theorem Yh:bV Tryz.prog 57 FP:=cH Tryz.func57 Tryz.call57
theorem Yi:bV Tryz.prog 58 FQ:=cH Tryz.func58 Tryz.call58
theorem Yj:bV Tryz.prog 59 FR:=cH Tryz.func59 Tryz.call59
theorem Yl:bV Tryz.prog 60 FT:=cH Tryz.func60 Tryz.call60
theorem Ym:bV Tryz.prog 61 FU:=cH Tryz.func61 Tryz.call61
theorem Yn:bV Tryz.prog 62 FV:=cH Tryz.func62 Tryz.call62
theorem Yo:bV Tryz.prog 63 FW:=cH Tryz.func63 Tryz.call63
theorem Yp:bV Tryz.prog 64 FX:=cH Tryz.func64 Tryz.call64
theorem Yq:bV Tryz.prog 65 FY:=cH Tryz.func65 Tryz.call65
theorem Yr:bV Tryz.prog 66 FZ:=cH Tryz.func66 Tryz.call66
theorem Ys:bV Tryz.prog 67 F0:=cH Tryz.func67 Tryz.call67
theorem Yt:bV Tryz.prog 68 F1:=cH Tryz.func68 Tryz.call68
theorem Yu:bV Tryz.prog 69 F2:=cH Tryz.func69 Tryz.call69
theorem Yw:bV Tryz.prog 70 F3:=cH Tryz.func70 Tryz.call70
theorem Yx:bV Tryz.prog 71 F4:=cH Tryz.func71 Tryz.call71
theorem Yy:bV Tryz.prog 72 F5:=cH Tryz.func72 Tryz.call72
theorem Yz:bV Tryz.prog 73 F6:=cH Tryz.func73 Tryz.call73
theorem YA:bV Tryz.prog 74 F7:=cH Tryz.func74 Tryz.call74
theorem YB:bV Tryz.prog 75 F8:=cH Tryz.func75 Tryz.call75
theorem YC:bV Tryz.prog 76 F9:=cH Tryz.func76 Tryz.call76
theorem YD:bV Tryz.prog 78 Ga:=cH Tryz.func78 Tryz.call78
theorem YE:bV Tryz.prog 79 Gb:=cH Tryz.func79 Tryz.call79
theorem YG:bV Tryz.prog 80 Gc:=cH Tryz.func80 Tryz.call80
theorem YH:bV Tryz.prog 81 Gd:=cH Tryz.func81 Tryz.call81
theorem YI:bV Tryz.prog 82 Ge:=cH Tryz.func82 Tryz.call82
theorem YJ:bV Tryz.prog 83 Gf:=cH Tryz.func83 Tryz.call83
theorem YK:bV Tryz.prog 84 Gg:=cH Tryz.func84 Tryz.call84
theorem YL:bV Tryz.prog 85 Gi:=cH Tryz.func85 Tryz.call85
theorem YM:bV Tryz.prog 86 Gj:=cH Tryz.func86 Tryz.call86
theorem YN:bV Tryz.prog 87 Gk:=cH Tryz.func87 Tryz.call87
theorem YO:bV Tryz.prog 88 Gl:=cH Tryz.func88 Tryz.call88
theorem YP:bV Tryz.prog 89 Gm:=cH Tryz.func89 Tryz.call89
theorem YR:bV Tryz.prog 90 Gn:=cH Tryz.func90 Tryz.call90
theorem YS:bV Tryz.prog 91 Gp:=cH Tryz.func91 Tryz.call91
theorem YT:bV Tryz.prog 92 Gq:=cH Tryz.func92 Tryz.call92
theorem YU:bV Tryz.prog 93 Gr:=cH Tryz.func93 Tryz.call93
theorem YV:bV Tryz.prog 94 Gs:=cH Tryz.func94 Tryz.call94
theorem YW:bV Tryz.prog 95 Gt:=cH Tryz.func95 Tryz.call95
theorem YX:bV Tryz.prog 96 Gu:=cH Tryz.func96 Tryz.call96
theorem YY:bV Tryz.prog 97 Gv:=cH Tryz.func97 Tryz.call97
theorem YZ:bV Tryz.prog 98 Gx:=cH Tryz.func98 Tryz.call98
theorem Y0:bV Tryz.prog 99 Gy:=cH Tryz.func99 Tryz.call99
theorem WA:bV Tryz.prog 100 D4:=cH Tryz.func100 Tryz.call100
theorem WB:bV Tryz.prog 101 D5:=cH Tryz.func101 Tryz.call101
theorem WC:bV Tryz.prog 102 D6:=cH Tryz.func102 Tryz.call102
theorem WD:bV Tryz.prog 103 D7:=cH Tryz.func103 Tryz.call103
theorem WE:bV Tryz.prog 104 D8:=cH Tryz.func104 Tryz.call104
theorem WG:bV Tryz.prog 105 D9:=cH Tryz.func105 Tryz.call105
theorem WH:bV Tryz.prog 106 Ea:=cH Tryz.func106 Tryz.call106
theorem WI:bV Tryz.prog 107 Eb:=cH Tryz.func107 Tryz.call107
theorem WJ:bV Tryz.prog 108 Ec:=cH Tryz.func108 Tryz.call108
theorem WK:bV Tryz.prog 109 Ed:=cH Tryz.func109 Tryz.call109
theorem WM:bV Tryz.prog 112 Ef:=cH Tryz.func112 Tryz.call112
theorem WN:bV Tryz.prog 113 Eg:=cH Tryz.func113 Tryz.call113
theorem WO:bV Tryz.prog 114 Eh:=cH Tryz.func114 Tryz.call114
theorem WQ:bV Tryz.prog 115 Ei:=cH Tryz.func115 Tryz.call115
theorem WR:bV Tryz.prog 116 Ej:=cH Tryz.func116 Tryz.call116
theorem WS:bV Tryz.prog 117 Ek:=cH Tryz.func117 Tryz.call117
theorem WT:bV Tryz.prog 118 El:=cH Tryz.func118 Tryz.call118
theorem WU:bV Tryz.prog 119 Em:=cH Tryz.func119 Tryz.call119
theorem WW:bV Tryz.prog 120 Eo:=cH Tryz.func120 Tryz.call120
theorem WX:bV Tryz.prog 121 Ep:=cH Tryz.func121 Tryz.call121
theorem WY:bV Tryz.prog 122 Er:=cH Tryz.func122 Tryz.call122
theorem WZ:bV Tryz.prog 123 Es:=cH Tryz.func123 Tryz.call123
theorem W0:bV Tryz.prog 124 Et:=cH Tryz.func124 Tryz.call124
theorem W1:bV Tryz.prog 125 Eu:=cH Tryz.func125 Tryz.call125
theorem W2:bV Tryz.prog 128 Ew:=cH Tryz.func128 Tryz.call128
theorem W3:bV Tryz.prog 129 Ey:=cH Tryz.func129 Tryz.call129
theorem W5:bV Tryz.prog 130 EA:=cH Tryz.func130 Tryz.call130
theorem W6:bV Tryz.prog 131 EB:=cH Tryz.func131 Tryz.call131
theorem W7:bV Tryz.prog 132 EC:=cH Tryz.func132 Tryz.call132
theorem W8:bV Tryz.prog 133 ED:=cH Tryz.func133 Tryz.call133
theorem W9:bV Tryz.prog 134 EE:=cH Tryz.func134 Tryz.call134
theorem Xa:bV Tryz.prog 135 EF:=cH Tryz.func135 Tryz.call135
theorem Xb:bV Tryz.prog 136 EG:=cH Tryz.func136 Tryz.call136
theorem Xc:bV Tryz.prog 137 EH:=cH Tryz.func137 Tryz.call137
theorem Xd:bV Tryz.prog 138 EI:=cH Tryz.func138 Tryz.call138
theorem Xf:bV Tryz.prog 142 EK:=cH Tryz.func142 Tryz.call142
theorem Xg:bV Tryz.prog 143 EL:=cH Tryz.func143 Tryz.call143
theorem Xh:bV Tryz.prog 144 EM:=cH Tryz.func144 Tryz.call144
theorem Xi:bV Tryz.prog 145 EN:=cH Tryz.func145 Tryz.call145
theorem Xj:bV Tryz.prog 146 EO:=cH Tryz.func146 Tryz.call146
theorem Xk:bV Tryz.prog 147 EP:=cH Tryz.func147 Tryz.call147
theorem Xl:bV Tryz.prog 149 ER:=cH Tryz.func149 Tryz.call149
theorem Xn:bV Tryz.prog 150 ET:=cH Tryz.func150 Tryz.call150
theorem Xo:bV Tryz.prog 151 EU:=cH Tryz.func151 Tryz.call151
theorem Xp:bV Tryz.prog 152 EV:=cH Tryz.func152 Tryz.call152
theorem Xq:bV Tryz.prog 155 EW:=cH Tryz.func155 Tryz.call155
theorem Xr:bV Tryz.prog 156 EX:=cH Tryz.func156 Tryz.call156
theorem Xs:bV Tryz.prog 157 EY:=cH Tryz.func157 Tryz.call157
theorem Xv:bV Tryz.prog 174 E1:=cH Tryz.func174 Tryz.call174
theorem Xw:bV Tryz.prog 175 E2:=cH Tryz.func175 Tryz.call175
theorem Xx:bV Tryz.prog 176 E3:=cH Tryz.func176 Tryz.call176
theorem Xy:bV Tryz.prog 177 E4:=cH Tryz.func177 Tryz.call177
theorem Xz:bV Tryz.prog 178 E5:=cH Tryz.func178 Tryz.call178
theorem XA:bV Tryz.prog 179 E6:=cH Tryz.func179 Tryz.call179
theorem XC:bV Tryz.prog 180 E8:=cH Tryz.func180 Tryz.call180
theorem Y6:BF Tryz.prog DX:=⟨N0,XY,X9,Yk,Yv,YF,YQ,Wz,WL,WV,W4,Xe,Xm,Xt,Xu,XB,XD,XE,XF,XG,XH,XI,XJ,XK,XL,XM,XN,XO,XP,XQ,XR,XS,XT,XU,XV,XW,XX,XZ,X0,X1,X2,X3,X4,X5,X6,X7,X8,Ya,Yb,Yc,Yd,Ye,Yf,Yg,Yh,Yi,Yj,Yl,Ym,Yn,Yo,Yp,Yq,Yr,Ys,Yt,Yu,Yw,Yx,Yy,Yz,YA,YB,YC,YD,YE,YG,YH,YI,YJ,YK,YL,YM,YN,YO,YP,YR,YS,YT,YU,YV,YW,YX,YY,YZ,Y0,WA,WB,WC,WD,WE,WG,WH,WI,WJ,WK,WM,WN,WO,WQ,WR,WS,WT,WU,WW,WX,WY,WZ,W0,W1,W2,W3,W5,W6,W7,W8,W9,Xa,Xb,Xc,Xd,Xf,Xg,Xh,Xi,Xj,Xk,Xl,Xn,Xo,Xp,Xq,Xr,Xs,Xv,Xw,Xx,Xy,Xz,XA,XC,trivial⟩
def pL:List Int:=[0,0,0,0,0,0,0,0,0,4,0,0,0,0,0,0,0,0,0,0,0,0,0,0,0,0,0,0,0,0,0,0,4,0,0,0,0,0,0,0,0,0,0,0,0,0,0,0,1,1,1,1,1,1,1,1,1,1,0,0,0,0,0,0,0,2,2,2,2,2,2,2,2,2,2,2,2,2,2,2,2,2,2,2,2,2,2,2,2,2,2,0,0,0,0,0,0,2,2,2,2,2,2,2,2,2,2,2,2,2,2,2,2,2,2,2,2,2,2,2,2,2,2,0,0,0,0,0,0,0,0,0,0,0,0,0,0,0,0,0,0,0,0,0,0,0,0,0,0,0,0,0,0,0,0,0,0,0,0,0,0,0,0,0,0,0,0,0,0,0,0,0,0,0,0,0,0,0,0,0,0,0,0,0,0,0,0,0,0,0,0,0,0,0,0,0,0,0,0,0,0,0,0,0,0,0,0,0,0,0,0,0,0,0,0,0,0,0,0,0,0,0,0,0,0,0,0,0,0,0,0,0,0,0,0,0,0,0,0,0,0,0,0,0,0,0,0,0,0,0,0,0,0,0,0,0]
def nO:List D:=pL.map λa =>.int .u8 a
noncomputable def gl:Nat→Option D:=λa=>if a=0 then some (.aE nO)else none
abbrev vh:Nat:=153
theorem Ws(vs:Array Value)(w:World):(callFunc 153 vs).run Tryz.prog w=((Extern.BytealgCompare.compare vs).run Tryz.prog w).andThen λv w' =>.ok (.value v) w':=Qp Tryz.func153 (by kernel_rfl) (by kernel_rfl) (by kernel_rfl) (by kernel_rfl) vs w
theorem SW{args:List D}{h h':J}{d:D}(a:xI args h=some (d,h')){g:Gh}{vs:List Value}(hi:Inv g h)(e:dP g vs args):kB Tryz.prog 153 vs g h' d:=by
 unfold xI at a;split at a
 ·injection a with a;injection a with b c;subst b;subst c;exact SX Ws hi e
 ·cases a
abbrev te:Nat:=77
abbrev vx:Nat:=126
noncomputable def xt:fb:=λa args b=>if a=vh then xI args b else if a=te then lR eO kR args b else if a=vx then lR eK h4 args b else none
theorem a7c(X:Cx):j4 Tryz.prog X xt:=λf args h e i a g k c j d=>by
 unfold xt at a;split at a
 ·rename_i b;subst b;exact SW a c d
 ·skip
  split at a
  ·rename_i b;subst b;exact Oz HZ Z4 Tryz.call77 a2A (show tab 31=some r4 from rfl) rfl (show tab 59=some kR from rfl) (show tab 3=some m7 from rfl) rfl rfl (by decide) a c d
  ·skip
   split at a
   ·rename_i b;subst b;exact Oz HZ Z3 Tryz.call126 a2B (show tab 32=some kS from rfl) rfl (show tab 99=some h4 from rfl) (show tab 3=some m7 from rfl) rfl rfl (by decide) a c d
   ·skip
    cases a
noncomputable def X:Cx:=⟨tab,gl,xt⟩
noncomputable def R:fb:=iD X Fs
theorem er(a:jR){f:FuncId}{args:List D}{h:J}{x:Option (D × J)}(b:Fs f=some a:=by kernel_rfl)(c:DV X R cA a args h=x:=by kernel_rfl):R f args h=x:=(a2R b args h).trans c
theorem RL:j4 Tryz.prog X R:=a2T (X:=X) HZ a2f (a7c X) (N7 DX Y6)
theorem a6Z(a b:List UInt8)(h:J):R vh [.str a,.str b] h=some (.int .i64 (Lib.compareBytes a b),h):=(Hy (X:=X) (F:=Fs) (by kernel_rfl) _ _).trans (by simp[X,xt,xI])
theorem a7a(args:List D)(h:J):R te args h=lR eO kR args h:=(Hy (X:=X) (F:=Fs) (by kernel_rfl) _ _).trans (by simp only[X,xt,show ¬(te=vh) by decide,aN,aJ])
theorem a7b(args:List D)(h:J):R vx args h=lR eK h4 args h:=(Hy (X:=X) (F:=Fs) (by kernel_rfl) _ _).trans (by simp only[X,xt,show ¬(vx=vh) by decide,show ¬(vx=te) by decide,aN,aJ])
noncomputable section
def Bn(a b c:D)(d:List D)(e:J):Option bK:=
 (O tab .lss U (Z 8 d) c).bind λc=>S c
  ((aO tab qU b (Z 8 d)).bind λb=>(Y tab e aX b).bind λb=>(gM 2 b).bind λb=>(Y tab e aX b).bind λf=>(R yz [f,a] e).bind λf=>(cT 0 f.1).bind λg=>(cT 1 f.1).bind λh=>(cT 2 f.1).bind λi=>(gM 2 g).bind λg=>(Y tab f.2 aX b).bind λj=>(R yA [j,a] f.2).bind λa=>(cT 0 a.1).bind λf=>(cT 1 a.1).bind λj=>(cT 2 a.1).bind λk=>(gM 2 f).bind λf=>(O tab .neq U i k).bind λl=>(W l false (Y tab a.2 aX g)).bind λm=>(W l false (Y tab a.2 aX f)).bind λn=>(gQ l false a.2 (R Dx [m,n] a.2)).bind λa=>(W l false (fS .not a.1)).bind λm=>(cV l (.bool true) m).bind λl=>(W l false (some h)).bind λm=>(W l false (some j)).bind λn=>(gQ l false a.2 (R DL [m,n] a.2)).bind λa=>(W l false (fS .not a.1)).bind λm=>(cV l (.bool true) m).bind λl=>S l
  (some (.ret,[.bool false,b,g,h,i,f,j,k,(Z 8 d),c,l],a.2))
  ((O tab .add U (Z 8 d) (.int .i64 1)).bind λm=>some (.aQ,[(Z 0 d),b,g,h,i,f,j,k,m,c,l],a.2)))
  (some ((.ext 2),[(Z 0 d),(Z 1 d),(Z 2 d),(Z 3 d),(Z 4 d),(Z 5 d),(Z 6 d),(Z 7 d),(Z 8 d),c,(Z 10 d)],e))
def Bm(a:D)(b:D × J)(c:D)(ds:List D)(d:J):Option bK:=
 (O tab .lss U (Z 9 ds) c).bind λc=>S c
  ((aO tab gC b.1 (Z 9 ds)).bind λb=>(Y tab d aP b).bind λb=>(eD tab aX [] []).bind λe=>(Y tab d aX a).bind λa=>(dL tab qU 2 [0,1] [e,a]).bind λa=>(bC tab qU a).bind λe=>((cA (Bn b a e) [(Z 0 ds),(Z 2 ds),(Z 3 ds),(Z 4 ds),(Z 5 ds),(Z 6 ds),(Z 7 ds),(Z 8 ds),.int .i64 0,(Z 14 ds),(Z 15 ds)] d).bind λf=>some ((bX 2 f.1),[(Z 0 f.2.1),(Z 1 f.2.1),(Z 2 f.2.1),(Z 3 f.2.1),(Z 4 f.2.1),(Z 5 f.2.1),(Z 6 f.2.1),(Z 7 f.2.1),(Z 8 f.2.1),(Z 9 f.2.1),(Z 10 f.2.1)],f.2.2)).bind λf=>cI (bX 1 f.1) ((O tab .add U (Z 9 ds) (.int .i64 1)).bind λg=>some (.aQ,[(Z 0 f.2.1),b,(Z 1 f.2.1),(Z 2 f.2.1),(Z 3 f.2.1),(Z 4 f.2.1),(Z 5 f.2.1),(Z 6 f.2.1),(Z 7 f.2.1),g,c,a,e,(Z 8 f.2.1),(Z 9 f.2.1),(Z 10 f.2.1)],f.2.2)) λg=>some (g,[(Z 0 f.2.1),b,(Z 1 f.2.1),(Z 2 f.2.1),(Z 3 f.2.1),(Z 4 f.2.1),(Z 5 f.2.1),(Z 6 f.2.1),(Z 7 f.2.1),(Z 9 ds),c,a,e,(Z 8 f.2.1),(Z 9 f.2.1),(Z 10 f.2.1)],f.2.2))
  (some ((.ext 0),[(Z 0 ds),(Z 1 ds),(Z 2 ds),(Z 3 ds),(Z 4 ds),(Z 5 ds),(Z 6 ds),(Z 7 ds),(Z 8 ds),(Z 9 ds),c,(Z 11 ds),(Z 12 ds),(Z 13 ds),(Z 14 ds),(Z 15 ds)],d))
def KI(a b c d:D)(h:J):Option (D × J):=
 (R Dh [] h).bind λe=>(fS .not e.1).bind λf=>(W f false (some b)).bind λg=>(W f false (bC tab aP g)).bind λg=>(W f false (O tab .gtr U g (.int .i64 500))).bind λg=>(cV f (.bool true) g).bind λf=>S f
  ((bC tab aP b).bind λf=>(O tab .gtr U f (.int .i64 500)).bind λf=>scope h e.2 (aF [f]))
  ((R yn [a] e.2).bind λe=>(cT 0 e.1).bind λf=>(cT 1 e.1).bind λf=>(dB tab e.2 aP aP (.aA) f).bind λe=>(bC tab aP e.1).bind λg=>(O tab .gtr U g (.int .i64 0)).bind λg=>(S g
  ((bC tab aP e.1).bind λg=>(R yk [c,g] e.2).bind λg=>(aO tab aP e.1 g.1).bind λi=>(Y tab g.2 cD i).bind λi=>(O tab .xor cD i d).bind λd=>(aO tab aP e.1 g.1).bind λi=>((aS tab g.2 cD i d).bind λd=>some ((.bA:D),d)).bind λd=>some (.aQ,([]:List D),d.2))
  (some (.aQ,([]:List D),e.2))).bind λd=>cI d.1 ((R ya [f,b] d.2.2).bind λb=>(cT 0 b.1).bind λg=>(cT 1 b.1).bind λi=>(O tab .eql hz i (.int .i64 0)).bind λi=>(S i
  (some (.aQ,[g],b.2))
  (some (.aQ,[f],b.2))).bind λb=>cI b.1 ((R vv [a,.int .i64 100] b.2.2).bind λa=>(R yh [a.1] a.2).bind λa=>(gM 2 a.1).bind λg=>(bC tab aP f).bind λi=>(O tab .add U i (.int .i64 1)).bind λi=>(R yk [c,i] a.2).bind λa=>(eN tab aP false true false [f,a.1]).bind λc=>(Ap tab (a.2.map λ_ =>.dead) gC 4 [0,1,2,3] [cS 0 a.2 3 f,cS 0 a.2 3 e.1,cS 0 a.2 3 (Z 0 b.2.1),cS 0 a.2 3 c]).bind λa=>(bC tab gC a.1).bind λc=>((cA (Bm g a c) [.bool false,.any,.any,.any,.any,.any,.any,.any,.any,.int .i64 0,.any,.any,.any,.any,.any,.any] a.2).bind λa=>some ((bX 0 a.1),[(Z 0 a.2.1),(Z 1 a.2.1),(Z 2 a.2.1),(Z 3 a.2.1),(Z 4 a.2.1),(Z 5 a.2.1),(Z 6 a.2.1),(Z 7 a.2.1),(Z 8 a.2.1),(Z 9 a.2.1),(Z 10 a.2.1),(Z 11 a.2.1),(Z 12 a.2.1),(Z 13 a.2.1),(Z 14 a.2.1),(Z 15 a.2.1)],a.2.2)).bind λa=>cI a.1 (scope h a.2.2 (aF [.bool true])) λc=>dC c (scope h a.2.2 (aF [(Z 0 a.2.1)]))) λa=>dC a (scope h b.2.2 (aF [.bool false]))) λa=>dC a (scope h d.2.2 (aF [.bool false])))
theorem VG(a b c d:D)(h:J):R DH [a,b,c,d] h=KI a b c d h:=
 er i3
def I5(h:J):Option (D × J):=
 (dL tab aP 1 [0] [.int .u8 1]).bind λa=>(R Di [.aA,a] h).bind λa=>(cT 0 a.1).bind λb=>(cT 1 a.1).bind λc=>(O tab .eql hz c (.int .i64 0)).bind λc=>(W c true (some b)).bind λb=>(W c true (bC tab aP b)).bind λb=>(W c true (O tab .eql U b (.int .i64 9))).bind λb=>(cV c b (.bool false)).bind λb=>some (aF [b],a.2)
theorem Uo(h:J):R Dh [] h=I5 h:=
 er i4
def JY(a:D)(ds:List D)(b:J):Option bK:=
 (bC tab jl a).bind λc=>(O tab .lss U (Z 1 ds) c).bind λc=>S c
  ((aO tab jl a (Z 1 ds)).bind λa=>(Y tab b bP a).bind λa=>(R DA [(Z 0 ds),a] b).bind λa=>(cT 0 a.1).bind λd=>(cT 1 a.1).bind λe=>(O tab .add U (Z 1 ds) (.int .i64 1)).bind λe=>some (.aQ,[d,e,c],a.2))
  (some ((.ext 0),[(Z 0 ds),(Z 1 ds),c],b))
def JX(a:D)(h:J):Option (D × J):=
 (R vv [a,.int .i64 400] h).bind λa=>(R vj [a.1,.int .i64 1,.int .i64 5] a.2).bind λa=>((cA (JY a.1) [.aA,.int .i64 0,.any] a.2).bind λb=>some ((bX 0 b.1),[(Z 0 b.2.1),(Z 1 b.2.1),(Z 2 b.2.1)],b.2.2)).bind λb=>cI b.1 (some (aF [a.1,(Z 0 b.2.1)],b.2.2)) λa=>dC a (some (aF [.aA,.aA],b.2.2))
theorem U7(a:D)(h:J):R yn [a] h=JX a h:=
 er i5
def Ba(a b:D)(h:J):Option (D × J):=
 (O tab .lss U b (.int .i64 1)).bind λc=>S c
  (some (aF [.int .i64 0],h))
  ((O tab .rem U a b).bind λa=>(O tab .add U a b).bind λa=>(O tab .rem U a b).bind λa=>some (aF [a],h))
theorem U0(a b:D)(h:J):R yk [a,b] h=Ba a b h:=
 er i6
def si(a b:D)(h:J):Option (D × J):=
 (bC tab aP b).bind λc=>(O tab .eql U c (.int .i64 0)).bind λc=>(W c false (some b)).bind λd=>(W c false (bC tab aP d)).bind λd=>(W c false (O tab .gtr U d (.int .i64 8388608))).bind λd=>(cV c (.bool true) d).bind λc=>S c
  (scope h h (aF [.aA,.int .i64 3]))
  ((bC tab aP a).bind λc=>(O tab .add U c (.int .i64 8)).bind λc=>(bC tab aP b).bind λd=>(O tab .add U c d).bind λc=>(O tab .gtr U c (.int .i64 67108864)).bind λc=>S c
  (scope h h (aF [.aA,.int .i64 16]))
  ((bC tab aP b).bind λc=>(dT tab U eG c).bind λc=>(R lV [.aA,c,.int .i64 4] h).bind λc=>(dB tab c.2 aP aP (.aA) c.1).bind λd=>(dB tab d.2 aP aP d.1 b).bind λd=>(R yc [d.1] d.2).bind λd=>(dB tab d.2 aP aP (.aA) a).bind λa=>(dT tab fK eG d.1).bind λd=>(R lV [c.1,d,.int .i64 4] a.2).bind λc=>(dB tab c.2 aP aP a.1 c.1).bind λa=>(dB tab a.2 aP aP a.1 b).bind λa=>scope h a.2 (aF [a.1,.int .i64 0])))
theorem Uq(a b:D)(h:J):R ya [a,b] h=si a b h:=
 er i7
def BC(a b:D)(h:J):Option (D × J):=
 (bC tab aP a).bind λc=>(nG c b).bind λb=>(eN tab aP false true false [a,b]).bind λa=>(eD tab kU [0] [a]).bind λa=>(kV kU 2 h a).bind λa=>some (aF [a.1],a.2)
theorem Nq(a b:D)(h:J):R vv [a,b] h=BC a b h:=
 er i8
def A8(a:D)(b:D × J)(ds:List D)(c:List D)(d:J):Option bK:=
 (R gP [a,.int .i64 3] d).bind λd=>(O tab .add U (.int .i64 5) d.1).bind λe=>(O tab .leq U (Z 0 c) e).bind λe=>S e
  ((R gP [a,.int .i64 2] d.2).bind λf=>(O tab .eql U f.1 (.int .i64 1)).bind λg=>(S g
  ((aB tab aX 0 b.1).bind λh=>(Y tab f.2 dV h).bind λi=>(R gP [a,.int .i64 60] f.2).bind λa=>(eD tab eO [0,1,2] [(Z 0 ds),(Z 0 c),a.1]).bind λj=>(dL tab dV 1 [0] [j]).bind λj=>(dB tab a.2 dV dV i j).bind λj=>dY (Y tab a.2 dV h=some i)
 ((aB tab aX 0 b.1).bind λa=>((aS tab j.2 dV a j.1).bind λa=>some ((.bA:D),a)).bind λa=>some (.aQ,([]:List D),a.2)))
  (some (.aQ,([]:List D),f.2))).bind λa=>cI (bX 3 a.1) ((O tab .add U (Z 0 c) (.int .i64 1)).bind λb=>some (.aQ,[b,e,g],a.2.2)) λb=>some (b,[(Z 0 c),e,g],a.2.2))
  (some ((.ext 2),[(Z 0 c),e,(Z 2 c)],d.2))
def JG(a:D)(b:D × J)(ds:List D)(c:J):Option bK:=
 (O tab .leq U (Z 0 ds) (.int .i64 2)).bind λd=>S d
  (((cA (A8 a b ds) [.int .i64 5,(Z 3 ds),(Z 4 ds)] c).bind λa=>some ((bX 2 a.1),[(Z 0 a.2.1),(Z 1 a.2.1),(Z 2 a.2.1)],a.2.2)).bind λa=>cI (bX 1 a.1) ((O tab .add U (Z 0 ds) (.int .i64 1)).bind λb=>some (.aQ,[b,(Z 0 a.2.1),d,(Z 1 a.2.1),(Z 2 a.2.1)],a.2.2)) λb=>some (b,[(Z 0 ds),(Z 0 a.2.1),d,(Z 1 a.2.1),(Z 2 a.2.1)],a.2.2))
  (some ((.ext 0),[(Z 0 ds),(Z 1 ds),d,(Z 3 ds),(Z 4 ds)],c))
def JF(a:D)(h:J):Option (D × J):=
 (some ((.ptr h.length 0 0:D),aG h aX 2 [[.aA,.aA]])).bind λb=>(some ((.ptr b.2.length 0 0:D),aG b.2 aX 2 [[.aA,.aA]])).bind λc=>((cA (JG a c) [.int .i64 1,.any,.any,.any,.any] c.2).bind λd=>some ((bX 0 d.1),[(Z 0 d.2.1),(Z 1 d.2.1),(Z 2 d.2.1),(Z 3 d.2.1),(Z 4 d.2.1)],d.2.2)).bind λd=>cI d.1 ((R yi [a] d.2.2).bind λa=>(aB tab aX 1 c.1).bind λe=>((aS tab a.2 dN e a.1).bind λa=>some ((.bA:D),a)).bind λe=>(Y tab e.2 aX c.1).bind λc=>((aS tab e.2 aX b.1 c).bind λa=>some ((.bA:D),a)).bind λa=>(Y tab a.2 aX b.1).bind λc=>scope h a.2 (aF [c])) λa=>dC a ((Y tab d.2.2 aX b.1).bind λc=>scope h d.2.2 (aF [c]))
theorem UT(a:D)(h:J):R yh [a] h=JF a h:=
 er i9
def KL(a:D × J)(b c:D)(ds:List D)(d:J):Option bK:=
 (O tab .lss U (Z 6 ds) c).bind λc=>S c
  (((aO tab gC b (Z 6 ds)).bind λb=>(Y tab d aP b).bind λb=>(R DF [b] d).bind λe=>(cT 0 e.1).bind λf=>(cT 1 e.1).bind λg=>(gM 3 f).bind λf=>(O tab .neq hz g (.int .i64 0)).bind λh=>S h
  (some (.aQ,[(Z 0 ds),b,f,g,(Z 4 ds),(Z 5 ds),h,(Z 9 ds)],e.2))
  ((Y tab e.2 aX a.1).bind λg=>(Y tab e.2 bP f).bind λi=>(R rI [g,i] e.2).bind λe=>(cT 0 e.1).bind λg=>(cT 1 e.1).bind λi=>(cT 2 e.1).bind λj=>(gM 2 g).bind λg=>(O tab .eql hz j (.int .i64 0)).bind λk=>(S k
  ((Y tab e.2 aX g).bind λl=>(dB tab e.2 dX dX (Z 0 ds) i).bind λm=>((aS tab m.2 aX a.1 l).bind λa=>some ((.bA:D),a)).bind λa=>dY (Y tab m.2 aX g=some l)
 (some (.aQ,[m.1],a.2)))
  (some (.aQ,[(Z 0 ds)],e.2))).bind λa=>some ((bX 1 a.1),[(Z 0 a.2.1),b,f,j,g,i,h,k],a.2.2))).bind λa=>cI a.1 ((O tab .add U (Z 6 ds) (.int .i64 1)).bind λb=>some (.aQ,[(Z 0 a.2.1),(Z 1 a.2.1),(Z 2 a.2.1),(Z 3 a.2.1),(Z 4 a.2.1),(Z 5 a.2.1),b,c,(Z 6 a.2.1),(Z 7 a.2.1)],a.2.2)) λb=>some (b,[(Z 0 a.2.1),(Z 1 a.2.1),(Z 2 a.2.1),(Z 3 a.2.1),(Z 4 a.2.1),(Z 5 a.2.1),(Z 6 ds),c,(Z 6 a.2.1),(Z 7 a.2.1)],a.2.2))
  (some ((.ext 0),[(Z 0 ds),(Z 1 ds),(Z 2 ds),(Z 3 ds),(Z 4 ds),(Z 5 ds),(Z 6 ds),c,(Z 8 ds),(Z 9 ds)],d))
def KK(a b:D)(h:J):Option (D × J):=
 (kV aX 2 h a).bind λa=>(some ((.ptr a.2.length 0 0:D),aG a.2 aX 2 [[.aA,.aA]])).bind λc=>(R yo [b] c.2).bind λb=>(cT 0 b.1).bind λd=>(cT 1 b.1).bind λe=>(bC tab gC d).bind λf=>((cA (KL a d f) [.aA,.any,.any,.any,.any,.any,.int .i64 0,.any,.any,.any] b.2).bind λb=>some ((bX 0 b.1),[(Z 0 b.2.1),(Z 1 b.2.1),(Z 2 b.2.1),(Z 3 b.2.1),(Z 4 b.2.1),(Z 5 b.2.1),(Z 6 b.2.1),(Z 7 b.2.1),(Z 8 b.2.1),(Z 9 b.2.1)],b.2.2)).bind λb=>cI b.1 ((R yB [(Z 0 b.2.1),.fn (.func yC) [] []] b.2.2).bind λd=>(Y tab d.2 aX a.1).bind λa=>((aS tab d.2 aX c.1 a).bind λa=>some ((.bA:D),a)).bind λa=>(Y tab a.2 aX c.1).bind λd=>scope h a.2 (aF [d,(Z 0 b.2.1),e])) λa=>dC a ((Y tab b.2.2 aX c.1).bind λd=>scope h b.2.2 (aF [d,.aA,.int .i64 0]))
theorem VI(a b:D)(h:J):R yz [a,b] h=KK a b h:=
 er D3
def KO(a:D)(b:List D)(c:J):Option bK:=
 (bC tab dX a).bind λd=>(O tab .lss U (Z 1 b) d).bind λd=>S d
  ((aO tab dX a (Z 1 b)).bind λa=>(Y tab c aC a).bind λa=>(R yH [(Z 0 b),a] c).bind λa=>(O tab .add U (Z 1 b) (.int .i64 1)).bind λe=>some (.aQ,[a.1,e,d],a.2))
  (some ((.ext 2),[(Z 0 b),(Z 1 b),d],c))
def KN(a:D × J)(b:D)(ds:List D)(c:J):Option bK:=
 (bC tab gC b).bind λd=>(O tab .lss U (Z 1 ds) d).bind λd=>S d
  (((aO tab gC b (Z 1 ds)).bind λb=>(Y tab c aP b).bind λb=>(R DI [b] c).bind λb=>(cT 0 b.1).bind λe=>(cT 1 b.1).bind λf=>(gM 3 e).bind λe=>(O tab .neq hz f (.int .i64 0)).bind λg=>S g
  (some (.aQ,[(Z 0 ds),e,f,(Z 4 ds),(Z 5 ds),(Z 6 ds),(Z 7 ds),g,(Z 10 ds),(Z 11 ds)],b.2))
  ((Y tab b.2 aX a.1).bind λh=>(Y tab b.2 bP e).bind λi=>(R qy [h,i] b.2).bind λb=>(cT 0 b.1).bind λh=>(cT 1 b.1).bind λi=>(cT 2 b.1).bind λj=>(gM 2 h).bind λh=>(O tab .neq hz j (.int .i64 0)).bind λk=>S k
  (some (.aQ,[(Z 0 ds),e,f,h,i,j,(Z 7 ds),g,k,(Z 11 ds)],b.2))
  ((Y tab b.2 aX h).bind λl=>((aS tab b.2 aX a.1 l).bind λa=>some ((.bA:D),a)).bind λa=>((cA (KO i) [(Z 0 ds),.int .i64 0,(Z 11 ds)] a.2).bind λa=>some ((bX 2 a.1),[(Z 0 a.2.1),(Z 1 a.2.1),(Z 2 a.2.1)],a.2.2)).bind λa=>some ((bX 1 a.1),[(Z 0 a.2.1),e,f,h,i,j,(Z 1 a.2.1),g,k,(Z 2 a.2.1)],a.2.2)))).bind λa=>cI a.1 ((O tab .add U (Z 1 ds) (.int .i64 1)).bind λb=>some (.aQ,[(Z 0 a.2.1),b,(Z 1 a.2.1),(Z 2 a.2.1),(Z 3 a.2.1),(Z 4 a.2.1),(Z 5 a.2.1),(Z 6 a.2.1),d,(Z 7 a.2.1),(Z 8 a.2.1),(Z 9 a.2.1)],a.2.2)) λb=>some (b,[(Z 0 a.2.1),(Z 1 ds),(Z 1 a.2.1),(Z 2 a.2.1),(Z 3 a.2.1),(Z 4 a.2.1),(Z 5 a.2.1),(Z 6 a.2.1),d,(Z 7 a.2.1),(Z 8 a.2.1),(Z 9 a.2.1)],a.2.2))
  (some ((.ext 0),[(Z 0 ds),(Z 1 ds),(Z 2 ds),(Z 3 ds),(Z 4 ds),(Z 5 ds),(Z 6 ds),(Z 7 ds),d,(Z 9 ds),(Z 10 ds),(Z 11 ds)],c))
def KM(a b:D)(h:J):Option (D × J):=
 (kV aX 2 h a).bind λa=>(some ((.ptr a.2.length 0 0:D),aG a.2 aX 2 [[.aA,.aA]])).bind λc=>(R yp [b] c.2).bind λb=>(cT 0 b.1).bind λd=>(cT 1 b.1).bind λe=>((cA (KN a d) [.aA,.int .i64 0,.any,.any,.any,.any,.any,.any,.any,.any,.any,.any] b.2).bind λb=>some ((bX 0 b.1),[(Z 0 b.2.1),(Z 1 b.2.1),(Z 2 b.2.1),(Z 3 b.2.1),(Z 4 b.2.1),(Z 5 b.2.1),(Z 6 b.2.1),(Z 7 b.2.1),(Z 8 b.2.1),(Z 9 b.2.1),(Z 10 b.2.1),(Z 11 b.2.1)],b.2.2)).bind λb=>cI b.1 ((Y tab b.2.2 aX a.1).bind λa=>((aS tab b.2.2 aX c.1 a).bind λa=>some ((.bA:D),a)).bind λa=>(Y tab a.2 aX c.1).bind λd=>scope h a.2 (aF [d,(Z 0 b.2.1),e])) λa=>dC a ((Y tab b.2.2 aX c.1).bind λd=>scope h b.2.2 (aF [d,.aA,.int .i64 0]))
theorem VJ(a b:D)(h:J):R yA [a,b] h=KM a b h:=
 er Ee
def JO(a b:D)(h:J):Option (D × J):=
 (e9 a).bind λa=>(e9 b).bind λb=>(aB tab aX 0 a).bind λc=>(Y tab h dV c).bind λc=>(aB tab aX 0 b).bind λd=>(Y tab h dV d).bind λd=>(R Dy [c,d] h).bind λc=>(W c.1 true (aB tab aX 1 a)).bind λa=>(W c.1 true (Y tab c.2 dN a)).bind λa=>(W c.1 true (aB tab aX 1 b)).bind λb=>(W c.1 true (Y tab c.2 dN b)).bind λb=>(gQ c.1 true c.2 (R DM [a,b] c.2)).bind λa=>(cV c.1 a.1 (.bool false)).bind λb=>some (aF [b],a.2)
theorem UZ(a b:D)(h:J):R Dx [a,b] h=JO a b h:=
 er En
def KV(a b:D)(ds:List D)(c:J):Option bK:=
 (bC tab dX a).bind λd=>(O tab .lss U (Z 1 ds) d).bind λd=>S d
  ((aO tab dX a (Z 1 ds)).bind λa=>(Y tab c aC a).bind λa=>(aO tab dX b (Z 1 ds)).bind λb=>(Y tab c aC b).bind λb=>(R DO [a,b] c).bind λa=>(fS .not a.1).bind λb=>S b
  (some (.ret,[.bool false,(Z 1 ds),d,b],a.2))
  ((O tab .add U (Z 1 ds) (.int .i64 1)).bind λe=>some (.aQ,[(Z 0 ds),e,d,b],a.2)))
  (some ((.ext 0),[(Z 0 ds),(Z 1 ds),d,(Z 3 ds)],c))
def KU(a b:D)(h:J):Option (D × J):=
 (bC tab dX a).bind λc=>(bC tab dX b).bind λd=>(O tab .neq U c d).bind λc=>S c
  (some (aF [.bool false],h))
  (((cA (KV a b) [.bool false,.int .i64 0,.any,.any] h).bind λa=>some ((bX 0 a.1),[(Z 0 a.2.1),(Z 1 a.2.1),(Z 2 a.2.1),(Z 3 a.2.1)],a.2.2)).bind λa=>cI a.1 (some (aF [.bool true],a.2.2)) λb=>dC b (some (aF [(Z 0 a.2.1)],a.2.2)))
theorem rq(a b:D)(h:J):R DL [a,b] h=KU a b h:=
 er Ez
def uo(a b:D)(h:J):Option (D × J):=
 (bC tab aP b).bind λc=>(O tab .eql U c (.int .i64 0)).bind λc=>(W c false (some b)).bind λd=>(W c false (bC tab aP d)).bind λd=>(W c false (O tab .gtr U d (.int .i64 8388608))).bind λd=>(cV c (.bool true) d).bind λc=>S c
  (scope h h (aF [.aA,.int .i64 3]))
  ((bC tab aP a).bind λc=>(O tab .add U c (.int .i64 8)).bind λc=>(bC tab aP b).bind λd=>(O tab .add U c d).bind λc=>(O tab .gtr U c (.int .i64 67108864)).bind λc=>S c
  (scope h h (aF [.aA,.int .i64 16]))
  ((bC tab aP b).bind λc=>(dT tab U fK c).bind λc=>(R rF [c] h).bind λc=>(R yb [c.1,b] c.2).bind λd=>(R rF [d.1] d.2).bind λd=>(dL tab gC 4 [0,1,2,3] [a,c.1,d.1,b]).bind λa=>(R s9 [a] d.2).bind λa=>scope h a.2 (aF [a.1,.int .i64 0])))
theorem Up(a b:D)(h:J):R Di [a,b] h=uo a b h:=
 er EJ
def wP(a b c:D)(d:D × J)(e:List D)(f:J):Option bK:=
 (O tab .gtr U (Z 0 e) (.int .i64 0)).bind λg=>S g
  (((bC tab kA b).bind λh=>(R gP [a,h] f).bind λh=>(aO tab iR c h.1).bind λi=>(Y tab h.2 U i).bind λi=>(aO tab kA b h.1).bind λj=>(Y tab h.2 dO j).bind λj=>(bC tab dO j).bind λj=>(O tab .geq U i j).bind λi=>S i
  (some (.aQ,[h.1,(Z 2 e),i,(Z 5 e),(Z 6 e),(Z 7 e),(Z 8 e),(Z 9 e)],h.2))
  ((aO tab kA b h.1).bind λj=>(Y tab h.2 dO j).bind λk=>(aO tab iR c h.1).bind λl=>(Y tab h.2 U l).bind λm=>(aO tab dO k m).bind λn=>(Y tab h.2 aH n).bind λo=>(some ((.ptr h.2.length 0 0:D),aG h.2 aH 11 [[.str [],.int .i64 0,.int .i64 0,.int .i64 0,.int .i64 0,.aA,.int .i64 0,.int .i64 0,.str [],.str [],.aA]])).bind λp=>dY (Y tab p.2 dO j=some k)
 (dY (Y tab p.2 U l=some m)
 (dY (Y tab p.2 aH n=some o)
 (((aS tab p.2 aH p.1 o).bind λj=>some ((.bA:D),j)).bind λk=>(R gP [a,.int .i64 8] k.2).bind λk=>(O tab .eql U k.1 (.int .i64 6)).bind λl=>(S l
  ((aO tab iR c h.1).bind λm=>(Y tab k.2 U m).bind λm=>(O tab .gtr U m (.int .i64 0)).bind λm=>(S m
  ((aO tab kA b h.1).bind λn=>(Y tab k.2 dO n).bind λn=>(aO tab iR c h.1).bind λo=>(Y tab k.2 U o).bind λo=>(O tab .sub U o (.int .i64 1)).bind λo=>(aO tab dO n o).bind λn=>(Y tab k.2 aH n).bind λn=>(Y tab k.2 aH p.1).bind λo=>(R yl [n,o] k.2).bind λn=>((aS tab n.2 aH p.1 n.1).bind λj=>some ((.bA:D),j)).bind λn=>some (.aQ,([]:List D),n.2))
  (some (.aQ,([]:List D),k.2))).bind λn=>some (n.1,[m,(Z 8 e)],n.2.2))
  ((O tab .eql U k.1 (.int .i64 7)).bind λm=>S m
  ((aO tab kA b h.1).bind λn=>(Y tab k.2 dO n).bind λn=>(aO tab iR c h.1).bind λo=>(Y tab k.2 U o).bind λo=>(O tab .add U o (.int .i64 1)).bind λo=>(aO tab kA b h.1).bind λb=>(Y tab k.2 dO b).bind λb=>(bC tab dO b).bind λb=>(O tab .sub U b (.int .i64 1)).bind λb=>(nG o b).bind λb=>(aO tab dO n b).bind λb=>(Y tab k.2 aH b).bind λb=>((aS tab k.2 aH p.1 b).bind λj=>some ((.bA:D),j)).bind λb=>(aB tab bP 2 d.1).bind λn=>(Y tab b.2 dO n).bind λn=>(Y tab b.2 aH p.1).bind λo=>(dL tab dO 1 [0] [o]).bind λo=>(dB tab b.2 dO dO n o).bind λb=>(aB tab bP 2 d.1).bind λn=>((aS tab b.2 dO n b.1).bind λj=>some ((.bA:D),j)).bind λb=>some ((.ext 3),[(Z 7 e),m],b.2))
  (some (.aQ,[(Z 7 e),m],k.2)))).bind λb=>cI (bX 4 b.1) ((aB tab bP 2 d.1).bind λm=>(Y tab b.2.2 dO m).bind λm=>(Y tab b.2.2 aH p.1).bind λn=>(dL tab dO 1 [0] [n]).bind λn=>(dB tab b.2.2 dO dO m n).bind λm=>(aB tab bP 2 d.1).bind λd=>((aS tab m.2 dO d m.1).bind λj=>some ((.bA:D),j)).bind λd=>(R gP [a,.int .i64 4] d.2).bind λa=>(O tab .gtr U a.1 (.int .i64 0)).bind λd=>(S d
  ((aO tab iR c h.1).bind λm=>(Y tab a.2 U m).bind λm=>(O tab .add U m (.int .i64 1)).bind λm=>(aO tab iR c h.1).bind λc=>((aS tab a.2 U c m).bind λj=>some ((.bA:D),j)).bind λc=>some (.aQ,([]:List D),c.2))
  (some (.aQ,([]:List D),a.2))).bind λa=>some ((bX 3 a.1),[h.1,p.1,i,k.1,l,(Z 0 b.2.1),(Z 1 b.2.1),d],a.2.2)) λa=>some ((bX 3 a),[h.1,p.1,i,k.1,l,(Z 0 b.2.1),(Z 1 b.2.1),(Z 9 e)],b.2.2)))))).bind λa=>cI a.1 ((O tab .sub U (Z 0 e) (.int .i64 1)).bind λb=>some (.aQ,[b,(Z 0 a.2.1),(Z 1 a.2.1),g,(Z 2 a.2.1),(Z 3 a.2.1),(Z 4 a.2.1),(Z 5 a.2.1),(Z 6 a.2.1),(Z 7 a.2.1)],a.2.2)) λb=>some (b,[(Z 0 e),(Z 0 a.2.1),(Z 1 a.2.1),g,(Z 2 a.2.1),(Z 3 a.2.1),(Z 4 a.2.1),(Z 5 a.2.1),(Z 6 a.2.1),(Z 7 a.2.1)],a.2.2))
  (some ((.ext 2),[(Z 0 e),(Z 1 e),(Z 2 e),g,(Z 4 e),(Z 5 e),(Z 6 e),(Z 7 e),(Z 8 e),(Z 9 e)],f))
def JM(a b c d:D)(ds:List D)(e:J):Option bK:=
 (O tab .lss U (Z 1 ds) (.int .i64 12)).bind λf=>S f
  ((eD tab bP [0,1] [b,(Z 1 ds)]).bind λb=>(some ((.ptr e.length 0 0:D),aG e bP 3 [[.int .i64 0,.int .i64 0,.aA]])).bind λg=>((aS tab g.2 bP g.1 b).bind λb=>some ((.bA:D),b)).bind λb=>(R gP [a,.int .i64 3] b.2).bind λb=>(O tab .add U (.int .i64 1) b.1).bind λh=>((cA (wP a c d g) [h,(Z 4 ds),(Z 5 ds),(Z 7 ds),(Z 8 ds),(Z 9 ds),(Z 10 ds),(Z 11 ds),(Z 12 ds),(Z 13 ds)] b.2).bind λb=>some ((bX 2 b.1),[(Z 0 b.2.1),(Z 1 b.2.1),(Z 2 b.2.1),(Z 3 b.2.1),(Z 4 b.2.1),(Z 5 b.2.1),(Z 6 b.2.1),(Z 7 b.2.1),(Z 8 b.2.1),(Z 9 b.2.1)],b.2.2)).bind λb=>cI b.1 ((Y tab b.2.2 bP g.1).bind λc=>(dL tab jl 1 [0] [c]).bind λc=>(dB tab b.2.2 jl jl (Z 0 ds) c).bind λc=>(R gP [a,.int .i64 4] c.2).bind λd=>(O tab .eql U d.1 (.int .i64 3)).bind λh=>(W h true (some c.1)).bind λi=>(W h true (bC tab jl i)).bind λi=>(W h true (O tab .gtr U i (.int .i64 0))).bind λi=>(cV h i (.bool false)).bind λh=>(S h
  ((bC tab jl c.1).bind λi=>(R gP [a,i] d.2).bind λa=>(aO tab jl c.1 a.1).bind λi=>(Y tab a.2 bP i).bind λi=>(dL tab jl 1 [0] [i]).bind λi=>(dB tab a.2 jl jl c.1 i).bind λa=>some (.aQ,[a.1],a.2))
  (some (.aQ,[c.1],d.2))).bind λa=>cI (bX 1 a.1) ((O tab .add U (Z 1 ds) (.int .i64 1)).bind λc=>some (.aQ,[(Z 0 a.2.1),c,g.1,(Z 0 b.2.1),(Z 1 b.2.1),(Z 2 b.2.1),f,(Z 3 b.2.1),(Z 4 b.2.1),(Z 5 b.2.1),(Z 6 b.2.1),(Z 7 b.2.1),(Z 8 b.2.1),(Z 9 b.2.1),h],a.2.2)) λc=>some (c,[(Z 0 a.2.1),(Z 1 ds),g.1,(Z 0 b.2.1),(Z 1 b.2.1),(Z 2 b.2.1),f,(Z 3 b.2.1),(Z 4 b.2.1),(Z 5 b.2.1),(Z 6 b.2.1),(Z 7 b.2.1),(Z 8 b.2.1),(Z 9 b.2.1),h],a.2.2)) λa=>cI (bX 1 a) ((O tab .add U (Z 1 ds) (.int .i64 1)).bind λa=>some (.aQ,[(Z 0 ds),a,g.1,(Z 0 b.2.1),(Z 1 b.2.1),(Z 2 b.2.1),f,(Z 3 b.2.1),(Z 4 b.2.1),(Z 5 b.2.1),(Z 6 b.2.1),(Z 7 b.2.1),(Z 8 b.2.1),(Z 9 b.2.1),(Z 14 ds)],b.2.2)) λa=>some (a,[(Z 0 ds),(Z 1 ds),g.1,(Z 0 b.2.1),(Z 1 b.2.1),(Z 2 b.2.1),f,(Z 3 b.2.1),(Z 4 b.2.1),(Z 5 b.2.1),(Z 6 b.2.1),(Z 7 b.2.1),(Z 8 b.2.1),(Z 9 b.2.1),(Z 14 ds)],b.2.2))
  (some ((.ext 0),[(Z 0 ds),(Z 1 ds),(Z 2 ds),(Z 3 ds),(Z 4 ds),(Z 5 ds),f,(Z 7 ds),(Z 8 ds),(Z 9 ds),(Z 10 ds),(Z 11 ds),(Z 12 ds),(Z 13 ds),(Z 14 ds)],e))
def JL(a b c:D)(h:J):Option (D × J):=
 (R yG [a,b,c] h).bind λc=>(bC tab kA c.1).bind λd=>(pk tab c.2 iR d d).bind λd=>((cA (JM a b c.1 d.1) [.aA,.int .i64 0,.any,.any,.any,.any,.any,.any,.any,.any,.any,.any,.any,.any,.any] d.2).bind λa=>some ((bX 0 a.1),[(Z 0 a.2.1),(Z 1 a.2.1),(Z 2 a.2.1),(Z 3 a.2.1),(Z 4 a.2.1),(Z 5 a.2.1),(Z 6 a.2.1),(Z 7 a.2.1),(Z 8 a.2.1),(Z 9 a.2.1),(Z 10 a.2.1),(Z 11 a.2.1),(Z 12 a.2.1),(Z 13 a.2.1),(Z 14 a.2.1)],a.2.2)).bind λa=>cI a.1 (scope h a.2.2 (aF [(Z 0 a.2.1)])) λb=>dC b (scope h a.2.2 (aF [.aA]))
theorem UY(a b c:D)(h:J):R vj [a,b,c] h=JL a b c h:=
 er ES
def J3(a b:D)(h:J):Option (D × J):=
 (e9 b).bind λb=>(Y tab h bP b).bind λb=>(R rK [b] h).bind λb=>(cT 0 b.1).bind λc=>(cT 1 b.1).bind λd=>(O tab .neq hz d (.int .i64 0)).bind λe=>S e
  (some (aF [.aA,d],b.2))
  ((R ya [a,c] b.2).bind λa=>(cT 0 a.1).bind λb=>(cT 1 a.1).bind λc=>some (aF [b,c],a.2))
theorem Vb(a b:D)(h:J):R DA [a,b] h=J3 a b h:=
 er EZ
def q1(a:D)(ds:List D)(b:J):Option bK:=
 (O tab .geq U (Z 1 ds) (.int .i64 0)).bind λc=>S c
  ((O tab .mul U (.int .i64 8) (Z 1 ds)).bind λd=>(O tab .shr eG a d).bind λa=>(dT tab eG cD a).bind λa=>(dL tab aP 1 [0] [a]).bind λa=>(dB tab b aP aP (Z 0 ds) a).bind λa=>(O tab .sub U (Z 1 ds) (.int .i64 1)).bind λd=>some (.aQ,[a.1,d,c],a.2))
  (some ((.ext 0),[(Z 0 ds),(Z 1 ds),c],b))
def AO(a b c:D)(h:J):Option (D × J):=
 (O tab .sub U c (.int .i64 1)).bind λc=>((cA (q1 b) [a,c,.any] h).bind λa=>some ((bX 0 a.1),[(Z 0 a.2.1),(Z 1 a.2.1),(Z 2 a.2.1)],a.2.2)).bind λa=>cI a.1 (some (aF [(Z 0 a.2.1)],a.2.2)) λb=>dC b (some (aF [.aA],a.2.2))
theorem Nb(a b c:D)(h:J):R lV [a,b,c] h=AO a b c h:=
 er E0
def AP(a:List D)(b:J):Option bK:=
 (O tab .lss U (Z 1 a) (.int .i64 8)).bind λc=>S c
  ((O tab .and fK (Z 0 a) (.int .u32 1)).bind λd=>(O tab .eql fK d (.int .u32 1)).bind λd=>(S d
  ((O tab .shr fK (Z 0 a) (.int .u64 1)).bind λe=>(O tab .xor fK e (.int .u32 3988292384)).bind λe=>some (.aQ,[e],b))
  ((O tab .shr fK (Z 0 a) (.int .u64 1)).bind λe=>some (.aQ,[e],b))).bind λe=>cI (bX 3 e.1) ((O tab .add U (Z 1 a) (.int .i64 1)).bind λf=>some (.aQ,[(Z 0 e.2.1),f,c,d],e.2.2)) λf=>some (f,[(Z 0 e.2.1),(Z 1 a),c,d],e.2.2))
  (some ((.ext 2),[(Z 0 a),(Z 1 a),c,(Z 3 a)],b))
def Je(a:D)(ds:List D)(b:J):Option bK:=
 (bC tab aP a).bind λc=>(O tab .lss U (Z 1 ds) c).bind λc=>S c
  ((aO tab aP a (Z 1 ds)).bind λa=>(Y tab b cD a).bind λa=>(dT tab cD fK a).bind λa=>(O tab .xor fK (Z 0 ds) a).bind λa=>((cA (AP) [a,.int .i64 0,(Z 4 ds),(Z 5 ds)] b).bind λa=>some ((bX 2 a.1),[(Z 0 a.2.1),(Z 1 a.2.1),(Z 2 a.2.1),(Z 3 a.2.1)],a.2.2)).bind λa=>cI (bX 1 a.1) ((O tab .add U (Z 1 ds) (.int .i64 1)).bind λd=>some (.aQ,[(Z 0 a.2.1),d,(Z 1 a.2.1),c,(Z 2 a.2.1),(Z 3 a.2.1)],a.2.2)) λd=>some (d,[(Z 0 a.2.1),(Z 1 ds),(Z 1 a.2.1),c,(Z 2 a.2.1),(Z 3 a.2.1)],a.2.2))
  (some ((.ext 0),[(Z 0 ds),(Z 1 ds),(Z 2 ds),c,(Z 4 ds),(Z 5 ds)],b))
def Jd(a:D)(h:J):Option (D × J):=
 ((cA (Je a) [.int .u32 4294967295,.int .i64 0,.any,.any,.any,.any] h).bind λa=>some ((bX 0 a.1),[(Z 0 a.2.1),(Z 1 a.2.1),(Z 2 a.2.1),(Z 3 a.2.1),(Z 4 a.2.1),(Z 5 a.2.1)],a.2.2)).bind λa=>cI a.1 ((fS .xor (Z 0 a.2.1)).bind λb=>some (aF [b],a.2.2)) λb=>dC b (some (aF [.int .u32 0],a.2.2))
theorem Uv(a:D)(h:J):R yc [a] h=Jd a h:=
 er E7
def wZ(a b:D)(h:J):Option (D × J):=
 (R yE [a] h).bind λc=>(fS .not c.1).bind λd=>(W d false (some b)).bind λe=>(W d false (O tab .lss U e (.int .i64 1))).bind λe=>(cV d (.bool true) e).bind λd=>S d
  (some (aF [.int .i64 0],c.2))
  ((dS tab a).bind λd=>(aB tab kU 0 d).bind λd=>(Y tab c.2 aP d).bind λd=>(dS tab a).bind λe=>(aB tab kU 1 e).bind λe=>(Y tab c.2 U e).bind λe=>(aO tab aP d e).bind λd=>(Y tab c.2 cD d).bind λd=>(dT tab cD U d).bind λd=>(dS tab a).bind λe=>(aB tab kU 1 e).bind λe=>(Y tab c.2 U e).bind λe=>(O tab .add U e (.int .i64 1)).bind λe=>(dS tab a).bind λa=>(aB tab kU 1 a).bind λa=>((aS tab c.2 U a e).bind λa=>some ((.bA:D),a)).bind λa=>(O tab .mul U d b).bind λb=>(O tab .quo U b (.int .i64 256)).bind λb=>some (aF [b],a.2))
theorem CU(a b:D)(h:J):R gP [a,b] h=wZ a b h:=
 er E9
def JJ(a:D)(ds:List D)(b:J):Option bK:=
 (O tab .gtr U (Z 1 ds) (.int .i64 0)).bind λc=>S c
  ((R gP [a,.int .i64 2] b).bind λd=>(O tab .add U (.int .i64 1) d.1).bind λe=>(dL tab hF 4 [0,1,2,3] [.str [],.str [42],.str [100,114,111,112],.str [115,97,109,112,108,101]]).bind λf=>(R gP [a,.int .i64 4] d.2).bind λd=>(aO tab hF f d.1).bind λf=>(Y tab d.2 bH f).bind λg=>(R gP [a,.int .i64 9] d.2).bind λa=>(O tab .add U (.int .i64 1) a.1).bind λd=>(R rL [(Z 0 ds),e,g,d] a.2).bind λd=>dY (Y tab a.2 bH f=some g)
 ((O tab .sub U (Z 1 ds) (.int .i64 1)).bind λa=>some (.aQ,[d.1,a,c],d.2)))
  (some ((.ext 0),[(Z 0 ds),(Z 1 ds),c],b))
def JI(a:D)(h:J):Option (D × J):=
 (R gP [a,.int .i64 5] h).bind λb=>((cA (JJ a) [.aA,b.1,.any] b.2).bind λa=>some ((bX 0 a.1),[(Z 0 a.2.1),(Z 1 a.2.1),(Z 2 a.2.1)],a.2.2)).bind λa=>cI a.1 (some (aF [(Z 0 a.2.1)],a.2.2)) λb=>dC b (some (aF [.aA],a.2.2))
theorem UW(a:D)(h:J):R yi [a] h=JI a h:=
 er Fa
def J0(a:D)(ds:List D)(b:J):Option bK:=
 (bC tab aP a).bind λc=>(O tab .sub U c (Z 1 ds)).bind λc=>(O tab .geq U c (.int .i64 8)).bind λc=>S c
  ((O tab .add U (Z 1 ds) (.int .i64 4)).bind λd=>(O tab .add U (Z 1 ds) (.int .i64 4)).bind λe=>(lQ tab b aP true true [a,(Z 1 ds),d,e]).bind λd=>(R oO [d.1] d.2).bind λe=>(dT tab fK U e.1).bind λf=>(O tab .add U (Z 1 ds) (.int .i64 8)).bind λg=>(O tab .lss U f (.int .i64 1)).bind λh=>(W h false (some f)).bind λi=>(W h false (O tab .gtr U i (.int .i64 8388608))).bind λi=>(cV h (.bool true) i).bind λh=>(W h false (some f)).bind λi=>(W h false (some a)).bind λj=>(W h false (bC tab aP j)).bind λj=>(W h false (some g)).bind λk=>(W h false (O tab .sub U j k)).bind λj=>(W h false (O tab .gtr U i j)).bind λi=>(cV h (.bool true) i).bind λh=>S h
  (some ((.ext 0),[(Z 0 ds),(Z 1 ds),d.1,f,g,(Z 5 ds),c,h,(Z 8 ds)],e.2))
  ((O tab .add U g f).bind λi=>(O tab .add U g f).bind λj=>(lQ tab e.2 aP true true [a,g,i,j]).bind λe=>(O tab .add U (Z 1 ds) (.int .i64 4)).bind λi=>(lQ tab e.2 aP true true [a,i,g,g]).bind λa=>(R oO [a.1] a.2).bind λa=>(R yb [d.1,e.1] a.2).bind λi=>(O tab .neq fK a.1 i.1).bind λa=>S a
  (some ((.ext 0),[(Z 0 ds),(Z 1 ds),d.1,f,g,e.1,c,h,a],i.2))
  ((dL tab gC 1 [0] [e.1]).bind λj=>(dB tab i.2 gC gC (Z 0 ds) j).bind λi=>(O tab .add U g f).bind λj=>some (.aQ,[i.1,j,d.1,f,g,e.1,c,h,a],i.2))))
  (some ((.ext 0),[(Z 0 ds),(Z 1 ds),(Z 2 ds),(Z 3 ds),(Z 4 ds),(Z 5 ds),c,(Z 7 ds),(Z 8 ds)],b))
def JZ(a:D)(h:J):Option (D × J):=
 ((cA (J0 a) [.aA,.int .i64 0,.any,.any,.any,.any,.any,.any,.any] h).bind λa=>some ((bX 0 a.1),[(Z 0 a.2.1),(Z 1 a.2.1),(Z 2 a.2.1),(Z 3 a.2.1),(Z 4 a.2.1),(Z 5 a.2.1),(Z 6 a.2.1),(Z 7 a.2.1),(Z 8 a.2.1)],a.2.2)).bind λa=>cI a.1 (scope h a.2.2 (aF [(Z 0 a.2.1),(Z 1 a.2.1)])) λb=>dC b (scope h a.2.2 (aF [.aA,.int .i64 0]))
theorem U9(a:D)(h:J):R yo [a] h=JZ a h:=
 er Fb
def KC(a b:D × J)(ds:List D)(c:J):Option bK:=
 (O tab .gtr fK (Z 2 ds) (.int .u32 0)).bind λd=>(W d true (some (Z 1 ds))).bind λe=>(W d true (bC tab aP e)).bind λe=>(W d true (O tab .gtr U e (.int .i64 0))).bind λe=>(cV d e (.bool false)).bind λd=>S d
  ((R vl [(Z 1 ds)] c).bind λe=>(cT 0 e.1).bind λf=>(cT 1 e.1).bind λg=>(cT 2 e.1).bind λh=>(gM 11 f).bind λf=>(O tab .neq hz h (.int .i64 0)).bind λi=>S i
  ((eD tab bP [] []).bind λj=>((aS tab e.2 bP a.1 j).bind λa=>some ((.bA:D),a)).bind λj=>some (.ret,[.int .i64 22,(Z 1 ds),(Z 2 ds),f,g,h,d,i],j.2))
  ((aB tab bP 2 (.ptr b.2.length 0 0)).bind λj=>(Y tab e.2 dO j).bind λj=>(Y tab e.2 aH f).bind λk=>(dL tab dO 1 [0] [k]).bind λk=>(dB tab e.2 dO dO j k).bind λe=>(eN tab aP true false false [(Z 1 ds),g]).bind λj=>(aB tab bP 2 (.ptr b.2.length 0 0)).bind λb=>((aS tab e.2 dO b e.1).bind λa=>some ((.bA:D),a)).bind λa=>(O tab .sub fK (Z 2 ds) (.int .u32 1)).bind λb=>some (.aQ,[(Z 0 ds),j,b,f,g,h,d,i],a.2)))
  (some ((.ext 0),[(Z 0 ds),(Z 1 ds),(Z 2 ds),(Z 3 ds),(Z 4 ds),(Z 5 ds),d,(Z 7 ds)],c))
def Bk(a:D)(h:J):Option (D × J):=
 (some ((.ptr h.length 0 0:D),aG h bP 3 [[.int .i64 0,.int .i64 0,.aA]])).bind λb=>(bC tab aP a).bind λc=>(O tab .lss U c (.int .i64 20)).bind λc=>S c
  ((eD tab bP [] []).bind λc=>((aS tab b.2 bP b.1 c).bind λc=>some ((.bA:D),c)).bind λd=>(Y tab d.2 bP b.1).bind λe=>scope h d.2 (aF [e,.int .i64 22]))
  ((R tf [a] b.2).bind λd=>(eN tab aP true false false [a,.int .i64 8]).bind λf=>(R tf [f] d.2).bind λf=>(eD tab bP [0,1] [d.1,f.1]).bind λd=>(some (.any:D)).bind λg=>((aS tab (aG f.2 bP 3 [[.int .i64 0,.int .i64 0,.aA]]) bP (.ptr f.2.length 0 0) d).bind λc=>some ((.bA:D),c)).bind λd=>(eN tab aP true false false [a,.int .i64 20]).bind λg=>(eN tab aP true false false [a,.int .i64 16]).bind λi=>(R oO [i] d.2).bind λd=>((cA (KC b f) [.int .i64 0,g,d.1,.any,.any,.any,.any,.any] d.2).bind λd=>some ((bX 0 d.1),[(Z 0 d.2.1),(Z 1 d.2.1),(Z 2 d.2.1),(Z 3 d.2.1),(Z 4 d.2.1),(Z 5 d.2.1),(Z 6 d.2.1),(Z 7 d.2.1)],d.2.2)).bind λd=>cI d.1 ((Y tab d.2.2 bP (.ptr f.2.length 0 0)).bind λg=>(R yy [g] d.2.2).bind λg=>(cT 0 g.1).bind λi=>(cT 1 g.1).bind λj=>(O tab .neq hz j (.int .i64 0)).bind λj=>(W j false (some i)).bind λi=>(W j false (some a)).bind λa=>(gQ j false g.2 (R DG [i,a] g.2)).bind λa=>(W j false (fS .not a.1)).bind λg=>(cV j (.bool true) g).bind λg=>S g
  ((eD tab bP [] []).bind λg=>((aS tab a.2 bP b.1 g).bind λc=>some ((.bA:D),c)).bind λg=>(Y tab g.2 bP b.1).bind λe=>scope h g.2 (aF [e,.int .i64 22]))
  ((Y tab a.2 bP (.ptr f.2.length 0 0)).bind λf=>((aS tab a.2 bP b.1 f).bind λc=>some ((.bA:D),c)).bind λa=>(Y tab a.2 bP b.1).bind λe=>scope h a.2 (aF [e,.int .i64 0]))) λa=>dC a ((Y tab d.2.2 bP b.1).bind λe=>scope h d.2.2 (aF [e,(Z 0 d.2.1)])))
theorem VB(a:D)(h:J):R DF [a] h=Bk a h:=
 er Fc
def JN(a:D)(b:D × J)(c d e:D)(ds:List D)(f:J):Option bK:=
 (O tab .lss U (Z 3 ds) e).bind λe=>S e
  ((aO tab dO d (Z 3 ds)).bind λd=>(Y tab f aH d).bind λd=>(gM 11 d).bind λd=>(Y tab f aH d).bind λg=>(R ym [c,g] f).bind λc=>(fS .not c.1).bind λg=>S g
  ((Y tab c.2 aX a).bind λa=>((aS tab c.2 aX b.1 a).bind λa=>some ((.bA:D),a)).bind λa=>some (.ret,[.aA,.int .i64 23,d,(Z 3 ds),e,g],a.2))
  ((O tab .add U (Z 3 ds) (.int .i64 1)).bind λa=>some (.aQ,[(Z 0 ds),(Z 1 ds),d,a,e,g],c.2)))
  (some ((.ext 0),[(Z 0 ds),(Z 1 ds),(Z 2 ds),(Z 3 ds),e,(Z 5 ds)],f))
def A9(a b:D)(h:J):Option (D × J):=
 (e9 a).bind λa=>(e9 b).bind λb=>(some ((.ptr h.length 0 0:D),aG h aX 2 [[.aA,.aA]])).bind λc=>(Y tab c.2 bP b).bind λd=>(R rJ [d] c.2).bind λd=>(O tab .neq hz d.1 (.int .i64 0)).bind λe=>S e
  ((Y tab d.2 aX a).bind λe=>((aS tab d.2 aX c.1 e).bind λe=>some ((.bA:D),e)).bind λf=>(Y tab f.2 aX c.1).bind λg=>scope h f.2 (aF [g,.aA,d.1]))
  ((aB tab aX 0 a).bind λf=>(Y tab d.2 dV f).bind λf=>(R Dz [f] d.2).bind λf=>(aB tab aX 1 a).bind λi=>(Y tab f.2 dN i).bind λj=>(R vw [j] f.2).bind λk=>(eD tab aX [0,1] [f.1,k.1]).bind λf=>(eD tab gh [0] [f]).bind λf=>(kV gh 3 k.2 f).bind λf=>dY (Y tab d.2 dN i=some j)
 ((aB tab bP 2 b).bind λb=>(Y tab f.2 dO b).bind λb=>(bC tab dO b).bind λd=>((cA (JN a c f.1 b d) [.aA,.int .i64 0,.any,.int .i64 0,.any,.any] f.2).bind λa=>some ((bX 0 a.1),[(Z 0 a.2.1),(Z 1 a.2.1),(Z 2 a.2.1),(Z 3 a.2.1),(Z 4 a.2.1),(Z 5 a.2.1)],a.2.2)).bind λa=>cI a.1 ((dS tab f.1).bind λb=>(aB tab gh 0 b).bind λb=>(Y tab a.2.2 aX b).bind λb=>(dS tab f.1).bind λd=>(aB tab gh 1 d).bind λd=>(Y tab a.2.2 dX d).bind λf=>((aS tab a.2.2 aX c.1 b).bind λe=>some ((.bA:D),e)).bind λb=>dY (Y tab b.2 dX d=some f)
 ((Y tab b.2 aX c.1).bind λg=>scope h b.2 (aF [g,f,.int .i64 0]))) λb=>dC b ((Y tab a.2.2 aX c.1).bind λg=>scope h a.2.2 (aF [g,(Z 0 a.2.1),(Z 1 a.2.1)]))))
theorem Ng(a b:D)(h:J):R rI [a,b] h=A9 a b h:=
 er Fe
def Bp(a b:D)(h:J):Option (D × J):=
 (bC tab dX a).bind λc=>(R DJ [a,c,b] h).bind λa=>some (aF [],a.2)
theorem Nm(a b:D)(h:J):R yB [a,b] h=Bp a b h:=
 er Ff
def wW(a b:D)(h:J):Option (D × J):=
 (e9 a).bind λa=>(e9 b).bind λb=>(Y tab h aC a).bind λc=>(Y tab h aC b).bind λd=>(R yd [c,d] h).bind λc=>S c.1
  (some (aF [.int .i64 (-1)],c.2))
  ((Y tab c.2 aC b).bind λb=>(Y tab c.2 aC a).bind λa=>(R yd [b,a] c.2).bind λa=>S a.1
  (some (aF [.int .i64 1],a.2))
  (some (aF [.int .i64 0],a.2)))
theorem VK(a b:D)(h:J):R yC [a,b] h=wW a b h:=
 er Fg
def Jh(a b:D)(h:J):Option (D × J):=
 (e9 a).bind λa=>(e9 b).bind λb=>(aB tab aC 5 a).bind λc=>(Y tab h U c).bind λc=>(aB tab aC 5 b).bind λd=>(Y tab h U d).bind λd=>(R pz [c,d] h).bind λc=>(aB tab aC 0 a).bind λd=>(Y tab c.2 U d).bind λe=>(aB tab aC 0 b).bind λf=>(Y tab c.2 U f).bind λg=>(R pz [e,g] c.2).bind λi=>(aB tab aC 1 a).bind λj=>(Y tab i.2 U j).bind λk=>(aB tab aC 1 b).bind λl=>(Y tab i.2 U l).bind λm=>(R pz [k,m] i.2).bind λn=>(aB tab aC 2 a).bind λa=>(Y tab n.2 U a).bind λo=>(aB tab aC 2 b).bind λb=>(Y tab n.2 U b).bind λp=>(R pz [o,p] n.2).bind λq=>(dL tab iR 4 [0,1,2,3] [c.1,i.1,n.1,q.1]).bind λn=>(R vy [n] q.2).bind λn=>(O tab .lss U n.1 (.int .i64 0)).bind λq=>dY (Y tab h U d=some e)
 (dY (Y tab h U f=some g)
 (dY (Y tab h U j=some k)
 (dY (Y tab c.2 U j=some k)
 (dY (Y tab h U l=some m)
 (dY (Y tab c.2 U l=some m)
 (dY (Y tab h U a=some o)
 (dY (Y tab c.2 U a=some o)
 (dY (Y tab i.2 U a=some o)
 (dY (Y tab h U b=some p)
 (dY (Y tab c.2 U b=some p)
 (dY (Y tab i.2 U b=some p)
 (some (aF [q],n.2)))))))))))))
theorem Uy(a b:D)(h:J):R yd [a,b] h=Jh a b h:=
 er Fh
def J2(a:D)(ds:List D)(b:J):Option bK:=
 (bC tab aP a).bind λc=>(O tab .sub U c (Z 1 ds)).bind λc=>(O tab .geq U c (.int .i64 8)).bind λc=>S c
  ((O tab .add U (Z 1 ds) (.int .i64 4)).bind λd=>(eN tab aP true true false [a,(Z 1 ds),d]).bind λd=>(R oP [d] b).bind λd=>(dT tab eG U d.1).bind λe=>(O tab .eql U e (.int .i64 0)).bind λf=>(W f false (some e)).bind λg=>(W f false (O tab .gtr U g (.int .i64 8388608))).bind λg=>(cV f (.bool true) g).bind λf=>(W f false (some e)).bind λg=>(W f false (some a)).bind λh=>(W f false (bC tab aP h)).bind λh=>(W f false (some (Z 1 ds))).bind λi=>(W f false (O tab .sub U h i)).bind λh=>(W f false (O tab .sub U h (.int .i64 8))).bind λh=>(W f false (O tab .gtr U g h)).bind λg=>(cV f (.bool true) g).bind λf=>S f
  (some ((.ext 0),[(Z 0 ds),(Z 1 ds),e,(Z 3 ds),c,f,(Z 6 ds)],d.2))
  ((O tab .add U (Z 1 ds) (.int .i64 8)).bind λg=>(O tab .add U (Z 1 ds) (.int .i64 8)).bind λh=>(O tab .add U h e).bind λh=>(eN tab aP true true false [a,g,h]).bind λg=>(dB tab d.2 aP aP (.aA) g).bind λd=>(O tab .add U (Z 1 ds) (.int .i64 4)).bind λg=>(O tab .add U (Z 1 ds) (.int .i64 8)).bind λh=>(eN tab aP true true false [a,g,h]).bind λg=>(R oP [g] d.2).bind λg=>(O tab .add U (Z 1 ds) (.int .i64 4)).bind λh=>(eN tab aP true true false [a,(Z 1 ds),h]).bind λa=>(dB tab g.2 aP aP (.aA) a).bind λa=>(dB tab a.2 aP aP a.1 d.1).bind λa=>(R yc [a.1] a.2).bind λa=>(dT tab fK eG a.1).bind λh=>(O tab .neq eG g.1 h).bind λg=>S g
  (some ((.ext 0),[(Z 0 ds),(Z 1 ds),e,d.1,c,f,g],a.2))
  ((dL tab gC 1 [0] [d.1]).bind λh=>(dB tab a.2 gC gC (Z 0 ds) h).bind λa=>(O tab .add U (.int .i64 8) e).bind λh=>(O tab .add U (Z 1 ds) h).bind λh=>some (.aQ,[a.1,h,e,d.1,c,f,g],a.2))))
  (some ((.ext 0),[(Z 0 ds),(Z 1 ds),(Z 2 ds),(Z 3 ds),c,(Z 5 ds),(Z 6 ds)],b))
def J1(a:D)(h:J):Option (D × J):=
 ((cA (J2 a) [.aA,.int .i64 0,.any,.any,.any,.any,.any] h).bind λa=>some ((bX 0 a.1),[(Z 0 a.2.1),(Z 1 a.2.1),(Z 2 a.2.1),(Z 3 a.2.1),(Z 4 a.2.1),(Z 5 a.2.1),(Z 6 a.2.1)],a.2.2)).bind λa=>cI a.1 (scope h a.2.2 (aF [(Z 0 a.2.1),(Z 1 a.2.1)])) λb=>dC b (scope h a.2.2 (aF [.aA,.int .i64 0]))
theorem Va(a:D)(h:J):R yp [a] h=J1 a h:=
 er Fi
def KJ(a:D)(b c:D × J)(ds:List D)(d:J):Option bK:=
 (O tab .gtr eG (Z 1 ds) (.int .u64 0)).bind λe=>S e
  ((eN tab aP true false false [a,(Z 2 ds)]).bind λa=>(R vm [a] d).bind λa=>(cT 0 a.1).bind λf=>(cT 1 a.1).bind λg=>(cT 2 a.1).bind λh=>(gM 11 f).bind λf=>(O tab .neq hz h (.int .i64 0)).bind λi=>S i
  ((eD tab bP [] []).bind λj=>((aS tab a.2 bP b.1 j).bind λb=>some ((.bA:D),b)).bind λj=>some (.ret,[.int .i64 22,(Z 1 ds),(Z 2 ds),f,g,h,e,i],j.2))
  ((aB tab bP 2 (.ptr c.2.length 0 0)).bind λj=>(Y tab a.2 dO j).bind λj=>(Y tab a.2 aH f).bind λk=>(dL tab dO 1 [0] [k]).bind λk=>(dB tab a.2 dO dO j k).bind λa=>(aB tab bP 2 (.ptr c.2.length 0 0)).bind λc=>((aS tab a.2 dO c a.1).bind λb=>some ((.bA:D),b)).bind λa=>(O tab .add U (Z 2 ds) g).bind λb=>(O tab .sub eG (Z 1 ds) (.int .u64 1)).bind λc=>some (.aQ,[(Z 0 ds),c,b,f,g,h,e,i],a.2)))
  (some ((.ext 0),[(Z 0 ds),(Z 1 ds),(Z 2 ds),(Z 3 ds),(Z 4 ds),(Z 5 ds),e,(Z 7 ds)],d))
def Bo(a:D)(h:J):Option (D × J):=
 (some ((.ptr h.length 0 0:D),aG h bP 3 [[.int .i64 0,.int .i64 0,.aA]])).bind λb=>(bC tab aP a).bind λc=>(O tab .lss U c (.int .i64 20)).bind λc=>S c
  ((eD tab bP [] []).bind λc=>((aS tab b.2 bP b.1 c).bind λc=>some ((.bA:D),c)).bind λd=>(Y tab d.2 bP b.1).bind λe=>scope h d.2 (aF [e,.int .i64 22]))
  ((eN tab aP false true false [a,.int .i64 8]).bind λd=>(R oP [d] b.2).bind λd=>(dT tab eG U d.1).bind λf=>(eN tab aP true true false [a,.int .i64 8,.int .i64 16]).bind λg=>(R oP [g] d.2).bind λd=>(dT tab eG U d.1).bind λg=>(eD tab bP [0,1] [f,g]).bind λf=>(some (.any:D)).bind λg=>((aS tab (aG d.2 bP 3 [[.int .i64 0,.int .i64 0,.aA]]) bP (.ptr d.2.length 0 0) f).bind λc=>some ((.bA:D),c)).bind λf=>(eN tab aP true true false [a,.int .i64 16,.int .i64 20]).bind λg=>(R oP [g] f.2).bind λf=>(O tab .gtr eG f.1 (.int .u64 40)).bind λg=>S g
  ((eD tab bP [] []).bind λg=>((aS tab f.2 bP b.1 g).bind λc=>some ((.bA:D),c)).bind λg=>(Y tab g.2 bP b.1).bind λe=>scope h g.2 (aF [e,.int .i64 22]))
  (((cA (KJ a b d) [.int .i64 0,f.1,.int .i64 20,.any,.any,.any,.any,.any] f.2).bind λf=>some ((bX 0 f.1),[(Z 0 f.2.1),(Z 1 f.2.1),(Z 2 f.2.1),(Z 3 f.2.1),(Z 4 f.2.1),(Z 5 f.2.1),(Z 6 f.2.1),(Z 7 f.2.1)],f.2.2)).bind λf=>cI f.1 ((Y tab f.2.2 bP (.ptr d.2.length 0 0)).bind λg=>(R rK [g] f.2.2).bind λg=>(cT 0 g.1).bind λi=>(cT 1 g.1).bind λj=>(O tab .neq hz j (.int .i64 0)).bind λj=>(W j false (some i)).bind λi=>(W j false (some a)).bind λa=>(gQ j false g.2 (R Dj [i,a] g.2)).bind λa=>(W j false (fS .not a.1)).bind λg=>(cV j (.bool true) g).bind λg=>S g
  ((eD tab bP [] []).bind λg=>((aS tab a.2 bP b.1 g).bind λc=>some ((.bA:D),c)).bind λg=>(Y tab g.2 bP b.1).bind λe=>scope h g.2 (aF [e,.int .i64 22]))
  ((Y tab a.2 bP (.ptr d.2.length 0 0)).bind λd=>((aS tab a.2 bP b.1 d).bind λc=>some ((.bA:D),c)).bind λa=>(Y tab a.2 bP b.1).bind λe=>scope h a.2 (aF [e,.int .i64 0]))) λa=>dC a ((Y tab f.2.2 bP b.1).bind λe=>scope h f.2.2 (aF [e,(Z 0 f.2.1)]))))
theorem VH(a:D)(h:J):R DI [a] h=Bo a h:=
 er Fj
def KG(a b:D)(c d:D × J)(ds:List D)(e:J):Option bK:=
 (aB tab bP 2 b).bind λf=>(Y tab e dO f).bind λf=>(bC tab dO f).bind λf=>(O tab .lss U (Z 3 ds) f).bind λf=>S f
  (((aB tab bP 2 b).bind λg=>(Y tab e dO g).bind λg=>(aO tab dO g (Z 3 ds)).bind λg=>(Y tab e aH g).bind λg=>(some ((.ptr e.length 0 0:D),aG e aH 11 [[.str [],.int .i64 0,.int .i64 0,.int .i64 0,.int .i64 0,.aA,.int .i64 0,.int .i64 0,.str [],.str [],.aA]])).bind λh=>((aS tab h.2 aH h.1 g).bind λg=>some ((.bA:D),g)).bind λi=>(Y tab i.2 aX d.1).bind λj=>(aB tab aH 1 h.1).bind λk=>(aB tab aC 0 k).bind λk=>(Y tab i.2 U k).bind λk=>(aB tab aH 1 h.1).bind λl=>(aB tab aC 1 l).bind λl=>(Y tab i.2 U l).bind λl=>(R Dw [j,k,l] i.2).bind λi=>(aB tab aH 1 h.1).bind λj=>(aB tab aC 4 j).bind λj=>(Y tab i.2 bU j).bind λj=>(bC tab bU j).bind λj=>(aB tab aH 1 h.1).bind λk=>(aB tab aC 3 k).bind λk=>(Y tab i.2 U k).bind λk=>(O tab .leq U k i.1).bind λk=>S k
  ((aB tab aX 1 d.1).bind λl=>(Y tab i.2 dN l).bind λl=>(aB tab bP 0 b).bind λm=>(Y tab i.2 U m).bind λm=>(R rL [l,m,.str [42],j] i.2).bind λl=>(aB tab aX 1 d.1).bind λm=>((aS tab l.2 dN m l.1).bind λg=>some ((.bA:D),g)).bind λl=>some (.aQ,[(Z 0 ds),(Z 1 ds),(Z 2 ds),h.1,i.1,j,(Z 7 ds),(Z 8 ds),k,(Z 11 ds),(Z 12 ds),(Z 13 ds),(Z 14 ds)],l.2))
  ((aB tab aH 1 h.1).bind λl=>(aB tab aC 2 l).bind λl=>(Y tab i.2 U l).bind λl=>(O tab .lss U l i.1).bind λl=>(S l
  ((Y tab i.2 aH h.1).bind λm=>(R x3 [m,i.1] i.2).bind λm=>(cT 0 m.1).bind λn=>(cT 1 m.1).bind λo=>(gM 11 n).bind λn=>(fS .not o).bind λp=>S p
  ((Y tab m.2 aX a).bind λq=>((aS tab m.2 aX c.1 q).bind λg=>some ((.bA:D),g)).bind λq=>some (.ret,[.aA,.int .i64 23,n,o,p],q.2))
  ((Y tab m.2 aH n).bind λq=>((aS tab m.2 aH h.1 q).bind λg=>some ((.bA:D),g)).bind λm=>(aB tab aX 1 d.1).bind λq=>(Y tab m.2 dN q).bind λq=>(aB tab bP 0 b).bind λr=>(Y tab m.2 U r).bind λr=>(aB tab aH 1 h.1).bind λs=>(aB tab aC 4 s).bind λs=>(Y tab m.2 bU s).bind λs=>(bC tab bU s).bind λs=>(O tab .sub U j s).bind λs=>(R rL [q,r,.str [42],s] m.2).bind λm=>(aB tab aX 1 d.1).bind λq=>((aS tab m.2 dN q m.1).bind λg=>some ((.bA:D),g)).bind λm=>some (.aQ,[(Z 0 ds),(Z 1 ds),n,o,p],m.2)))
  (some (.aQ,[(Z 0 ds),(Z 1 ds),(Z 7 ds),(Z 8 ds),(Z 12 ds)],i.2))).bind λm=>cI m.1 ((aB tab aH 1 h.1).bind λn=>(aB tab aC 2 n).bind λn=>(Y tab m.2.2 U n).bind λn=>(O tab .gtr U n i.1).bind λn=>S n
  ((Y tab m.2.2 aX a).bind λa=>((aS tab m.2.2 aX c.1 a).bind λg=>some ((.bA:D),g)).bind λa=>some (.ret,[.aA,.int .i64 23,(Z 2 ds),h.1,i.1,j,(Z 2 m.2.1),(Z 3 m.2.1),k,l,(Z 4 m.2.1),n,(Z 14 ds)],a.2))
  ((aB tab aX 0 d.1).bind λa=>(Y tab m.2.2 dV a).bind λa=>(aB tab aH 1 h.1).bind λc=>(aB tab aC 0 c).bind λc=>(Y tab m.2.2 U c).bind λc=>(aB tab aH 1 h.1).bind λo=>(aB tab aC 1 o).bind λo=>(Y tab m.2.2 U o).bind λo=>(aB tab aH 1 h.1).bind λp=>(aB tab aC 3 p).bind λp=>(Y tab m.2.2 U p).bind λp=>(eD tab eO [0,1,2] [c,o,p]).bind λc=>(R vt [a,c] m.2.2).bind λa=>(aB tab aX 0 d.1).bind λc=>((aS tab a.2 dV c a.1).bind λg=>some ((.bA:D),g)).bind λa=>(aB tab aX 1 d.1).bind λc=>(Y tab a.2 dN c).bind λc=>(aB tab bP 0 b).bind λb=>(Y tab a.2 U b).bind λb=>(aB tab aH 0 h.1).bind λo=>(Y tab a.2 bH o).bind λo=>(aB tab aH 1 h.1).bind λp=>(aB tab aC 4 p).bind λp=>(Y tab a.2 bU p).bind λp=>(bC tab bU p).bind λp=>(R rL [c,b,o,p] a.2).bind λa=>(aB tab aX 1 d.1).bind λb=>((aS tab a.2 dN b a.1).bind λg=>some ((.bA:D),g)).bind λa=>(aB tab aH 0 h.1).bind λb=>(Y tab a.2 bH b).bind λb=>(O tab .eql bH b (.str [])).bind λb=>(S b
  ((aB tab aH 1 h.1).bind λc=>(Y tab a.2 aC c).bind λc=>(dL tab dX 1 [0] [c]).bind λc=>(dB tab a.2 dX dX (Z 2 ds) c).bind λc=>some (.aQ,[c.1],c.2))
  (some (.aQ,[(Z 2 ds)],a.2))).bind λa=>some ((bX 1 a.1),[(Z 0 m.2.1),(Z 1 m.2.1),(Z 0 a.2.1),h.1,i.1,j,(Z 2 m.2.1),(Z 3 m.2.1),k,l,(Z 4 m.2.1),n,b],a.2.2))) λa=>some ((bX 1 a),[(Z 0 m.2.1),(Z 1 m.2.1),(Z 2 ds),h.1,i.1,j,(Z 2 m.2.1),(Z 3 m.2.1),k,l,(Z 4 m.2.1),(Z 13 ds),(Z 14 ds)],m.2.2))).bind λa=>cI a.1 ((O tab .add U (Z 3 ds) (.int .i64 1)).bind λb=>some (.aQ,[(Z 0 a.2.1),(Z 1 a.2.1),(Z 2 a.2.1),b,(Z 3 a.2.1),(Z 4 a.2.1),(Z 5 a.2.1),(Z 6 a.2.1),(Z 7 a.2.1),f,(Z 8 a.2.1),(Z 9 a.2.1),(Z 10 a.2.1),(Z 11 a.2.1),(Z 12 a.2.1)],a.2.2)) λb=>some (b,[(Z 0 a.2.1),(Z 1 a.2.1),(Z 2 a.2.1),(Z 3 ds),(Z 3 a.2.1),(Z 4 a.2.1),(Z 5 a.2.1),(Z 6 a.2.1),(Z 7 a.2.1),f,(Z 8 a.2.1),(Z 9 a.2.1),(Z 10 a.2.1),(Z 11 a.2.1),(Z 12 a.2.1)],a.2.2))
  (some ((.ext 0),[(Z 0 ds),(Z 1 ds),(Z 2 ds),(Z 3 ds),(Z 4 ds),(Z 5 ds),(Z 6 ds),(Z 7 ds),(Z 8 ds),f,(Z 10 ds),(Z 11 ds),(Z 12 ds),(Z 13 ds),(Z 14 ds)],e))
def Bl(a b:D)(h:J):Option (D × J):=
 (e9 a).bind λa=>(e9 b).bind λb=>(some ((.ptr h.length 0 0:D),aG h aX 2 [[.aA,.aA]])).bind λc=>(Y tab c.2 bP b).bind λd=>(R qw [d] c.2).bind λd=>(O tab .neq hz d.1 (.int .i64 0)).bind λe=>S e
  ((Y tab d.2 aX a).bind λe=>((aS tab d.2 aX c.1 e).bind λe=>some ((.bA:D),e)).bind λf=>(Y tab f.2 aX c.1).bind λg=>scope h f.2 (aF [g,.aA,d.1]))
  ((Y tab d.2 aX a).bind λf=>(some ((.ptr d.2.length 0 0:D),aG d.2 aX 2 [[.aA,.aA]])).bind λd=>((aS tab d.2 aX d.1 f).bind λe=>some ((.bA:D),e)).bind λf=>((cA (KG a b c d) [.aA,.int .i64 0,.aA,.int .i64 0,.any,.any,.any,.any,.any,.any,.any,.any,.any,.any,.any] f.2).bind λa=>some ((bX 0 a.1),[(Z 0 a.2.1),(Z 1 a.2.1),(Z 2 a.2.1),(Z 3 a.2.1),(Z 4 a.2.1),(Z 5 a.2.1),(Z 6 a.2.1),(Z 7 a.2.1),(Z 8 a.2.1),(Z 9 a.2.1),(Z 10 a.2.1),(Z 11 a.2.1),(Z 12 a.2.1),(Z 13 a.2.1),(Z 14 a.2.1)],a.2.2)).bind λa=>cI a.1 ((Y tab a.2.2 aX d.1).bind λb=>((aS tab a.2.2 aX c.1 b).bind λe=>some ((.bA:D),e)).bind λb=>(Y tab b.2 aX c.1).bind λg=>scope h b.2 (aF [g,(Z 2 a.2.1),.int .i64 0])) λb=>dC b ((Y tab a.2.2 aX c.1).bind λg=>scope h a.2.2 (aF [g,(Z 0 a.2.1),(Z 1 a.2.1)])))
theorem Nl(a b:D)(h:J):R qy [a,b] h=Bl a b h:=
 er Fk
def so(a b:D)(ds:List D)(c:J):Option bK:=
 (O tab .gtr U (Z 0 ds) (.int .i64 0)).bind λd=>(W d true (Y tab c aC b)).bind λb=>(W d true (some a)).bind λa=>(W d true (some (Z 0 ds))).bind λe=>(W d true (O tab .sub U e (.int .i64 1))).bind λe=>(W d true (aO tab dX a e)).bind λa=>(W d true (Y tab c aC a)).bind λa=>(gQ d true c (R DR [b,a] c)).bind λa=>(cV d a.1 (.bool false)).bind λb=>S b
  ((O tab .sub U (Z 0 ds) (.int .i64 1)).bind λc=>some (.aQ,[c,b],a.2))
  (some ((.ext 0),[(Z 0 ds),b],a.2))
def K5(a b:D)(h:J):Option (D × J):=
 (e9 b).bind λb=>(bC tab dX a).bind λc=>((cA (so a b) [c,.any] h).bind λc=>some ((bX 0 c.1),[(Z 0 c.2.1),(Z 1 c.2.1)],c.2.2)).bind λc=>cI c.1 ((eN tab dX false true false [a,(Z 0 c.2.1)]).bind λd=>(dB tab c.2.2 dX dX (.aA) d).bind λd=>(Y tab d.2 aC b).bind λb=>(dL tab dX 1 [0] [b]).bind λb=>(dB tab d.2 dX dX d.1 b).bind λb=>(eN tab dX true false false [a,(Z 0 c.2.1)]).bind λa=>(dB tab b.2 dX dX b.1 a).bind λa=>scope h a.2 (aF [a.1])) λa=>dC a (scope h c.2.2 (aF [.aA]))
theorem VR(a b:D)(h:J):R yH [a,b] h=K5 a b h:=
 er Fl
def JQ(a b:D)(ds:List D)(c:J):Option bK:=
 (bC tab dV a).bind λd=>(O tab .lss U (Z 1 ds) d).bind λd=>S d
  ((aO tab dV a (Z 1 ds)).bind λa=>(Y tab c eO a).bind λa=>(aO tab dV b (Z 1 ds)).bind λb=>(Y tab c eO b).bind λb=>(O tab .neq eO a b).bind λa=>S a
  (some (.ret,[.bool false,(Z 1 ds),d,a],c))
  ((O tab .add U (Z 1 ds) (.int .i64 1)).bind λb=>some (.aQ,[(Z 0 ds),b,d,a],c)))
  (some ((.ext 0),[(Z 0 ds),(Z 1 ds),d,(Z 3 ds)],c))
def JP(a b:D)(h:J):Option (D × J):=
 (bC tab dV a).bind λc=>(bC tab dV b).bind λd=>(O tab .neq U c d).bind λc=>S c
  (some (aF [.bool false],h))
  (((cA (JQ a b) [.bool false,.int .i64 0,.any,.any] h).bind λa=>some ((bX 0 a.1),[(Z 0 a.2.1),(Z 1 a.2.1),(Z 2 a.2.1),(Z 3 a.2.1)],a.2.2)).bind λa=>cI a.1 (some (aF [.bool true],a.2.2)) λb=>dC b (some (aF [(Z 0 a.2.1)],a.2.2)))
theorem U1(a b:D)(h:J):R Dy [a,b] h=JP a b h:=
 er Fm
def KX(a b:D)(ds:List D)(c:J):Option bK:=
 (bC tab dN a).bind λd=>(O tab .lss U (Z 1 ds) d).bind λd=>S d
  ((aO tab dN a (Z 1 ds)).bind λa=>(Y tab c eK a).bind λa=>(aO tab dN b (Z 1 ds)).bind λb=>(Y tab c eK b).bind λb=>(O tab .neq eK a b).bind λa=>S a
  (some (.ret,[.bool false,(Z 1 ds),d,a],c))
  ((O tab .add U (Z 1 ds) (.int .i64 1)).bind λb=>some (.aQ,[(Z 0 ds),b,d,a],c)))
  (some ((.ext 0),[(Z 0 ds),(Z 1 ds),d,(Z 3 ds)],c))
def KW(a b:D)(h:J):Option (D × J):=
 (bC tab dN a).bind λc=>(bC tab dN b).bind λd=>(O tab .neq U c d).bind λc=>S c
  (some (aF [.bool false],h))
  (((cA (KX a b) [.bool false,.int .i64 0,.any,.any] h).bind λa=>some ((bX 0 a.1),[(Z 0 a.2.1),(Z 1 a.2.1),(Z 2 a.2.1),(Z 3 a.2.1)],a.2.2)).bind λa=>cI a.1 (some (aF [.bool true],a.2.2)) λb=>dC b (some (aF [(Z 0 a.2.1)],a.2.2)))
theorem VN(a b:D)(h:J):R DM [a,b] h=KW a b h:=
 er Fo
def K2(a b:D)(h:J):Option (D × J):=
 (e9 a).bind λa=>(e9 b).bind λb=>(Y tab h aC a).bind λa=>(eD tab aH [1] [a]).bind λa=>(Y tab h aC b).bind λb=>(eD tab aH [1] [b]).bind λb=>(R DQ [a,b] h).bind λa=>some (aF [a.1],a.2)
theorem VP(a b:D)(h:J):R DO [a,b] h=K2 a b h:=
 er Fp
def I8(a:D)(h:J):Option (D × J):=
 (O tab .shr fK a (.int .u64 24)).bind λb=>(dT tab fK cD b).bind λb=>(O tab .shr fK a (.int .u64 16)).bind λc=>(dT tab fK cD c).bind λc=>(O tab .shr fK a (.int .u64 8)).bind λd=>(dT tab fK cD d).bind λd=>(dT tab fK cD a).bind λa=>(dL tab aP 4 [0,1,2,3] [b,c,d,a]).bind λa=>some (aF [a],h)
theorem Us(a:D)(h:J):R rF [a] h=I8 a h:=
 er Fq
def Ja(a b:D)(ds:List D)(c:J):Option bK:=
 (O tab .lss U (Z 2 ds) b).bind λb=>S b
  ((aO tab gC a (Z 2 ds)).bind λa=>(Y tab c aP a).bind λa=>(bC tab aP a).bind λd=>(O tab .add U (Z 0 ds) d).bind λd=>(O tab .lss U d (.int .i64 0)).bind λe=>(S e
  (((none:Option D)).bind λf=>((none:Option D)).bind λf=>some (.aQ,([]:List D),c))
  (some (.aQ,([]:List D),c))).bind λf=>cI (bX 1 f.1) ((O tab .add U (Z 2 ds) (.int .i64 1)).bind λg=>some (.aQ,[d,a,g,b,e],f.2.2)) λg=>some (g,[d,a,(Z 2 ds),b,e],f.2.2))
  (some ((.ext 0),[(Z 0 ds),(Z 1 ds),(Z 2 ds),b,(Z 4 ds)],c))
def Jb(a b:D)(c:List D)(d:J):Option bK:=
 (O tab .lss U (Z 2 c) b).bind λb=>S b
  ((aO tab gC a (Z 2 c)).bind λa=>(Y tab d aP a).bind λa=>(dB tab d aP aP (Z 0 c) a).bind λe=>(O tab .add U (Z 2 c) (.int .i64 1)).bind λf=>some (.aQ,[e.1,a,f,b],e.2))
  (some ((.ext 2),[(Z 0 c),(Z 1 c),(Z 2 c),b],d))
def I9(a:D)(h:J):Option (D × J):=
 (bC tab gC a).bind λb=>((cA (Ja a b) [.int .i64 0,.any,.int .i64 0,.any,.any] h).bind λb=>some ((bX 0 b.1),[(Z 0 b.2.1),(Z 1 b.2.1),(Z 2 b.2.1),(Z 3 b.2.1),(Z 4 b.2.1)],b.2.2)).bind λb=>cI b.1 ((R Dk [.aA,(Z 0 b.2.1)] b.2.2).bind λc=>(bC tab gC a).bind λd=>((cA (Jb a d) [c.1,.any,.int .i64 0,.any] c.2).bind λa=>some ((bX 2 a.1),[(Z 0 a.2.1),(Z 1 a.2.1),(Z 2 a.2.1),(Z 3 a.2.1)],a.2.2)).bind λa=>cI a.1 (some (aF [(Z 0 a.2.1)],a.2.2)) λc=>dC c (some (aF [.aA],a.2.2))) λa=>dC a (some (aF [.aA],b.2.2))
theorem Ut(a:D)(h:J):R s9 [a] h=I9 a h:=
 er Ft
def Jc(a b:D)(h:J):Option (D × J):=
 (dL tab gC 2 [0,1] [a,b]).bind λa=>(R s9 [a] h).bind λa=>(R Dl [a.1] a.2).bind λa=>scope h a.2 (aF [a.1])
theorem Uu(a b:D)(h:J):R yb [a,b] h=Jc a b h:=
 er Fu
def BD(a b:D)(ds:List D)(c:List D)(d:J):Option bK:=
 (O tab .gtr U (Z 2 c) (.int .i64 0)).bind λe=>S e
  ((O tab .add U (.int .i64 5) (Z 1 ds)).bind λf=>(R yI [a,b,f,(Z 1 c)] d).bind λa=>(gM 11 a.1).bind λb=>(Y tab a.2 aH b).bind λf=>(dL tab dO 1 [0] [f]).bind λf=>(dB tab a.2 dO dO (Z 0 c) f).bind λa=>(aB tab aH 1 b).bind λf=>(aB tab aC 3 f).bind λf=>(Y tab a.2 U f).bind λf=>(O tab .sub U (Z 2 c) (.int .i64 1)).bind λg=>some (.aQ,[a.1,f,g,b,e],a.2))
  (some ((.ext 2),[(Z 0 c),(Z 1 c),(Z 2 c),(Z 3 c),e],d))
def K4(a b c:D)(ds:List D)(d:J):Option bK:=
 (R gP [a,.int .i64 3] d).bind λd=>(O tab .leq U (Z 1 ds) d.1).bind λe=>S e
  ((O tab .add U c (.int .i64 1)).bind λc=>(R gP [a,c] d.2).bind λc=>((cA (BD a b ds) [.aA,.int .i64 0,c.1,(Z 5 ds),(Z 7 ds)] c.2).bind λa=>some ((bX 2 a.1),[(Z 0 a.2.1),(Z 1 a.2.1),(Z 2 a.2.1),(Z 3 a.2.1),(Z 4 a.2.1)],a.2.2)).bind λa=>cI a.1 ((dL tab kA 1 [0] [(Z 0 a.2.1)]).bind λb=>(dB tab a.2.2 kA kA (Z 0 ds) b).bind λb=>(O tab .add U (Z 1 ds) (.int .i64 1)).bind λc=>some (.aQ,[b.1,c,(Z 0 a.2.1),(Z 1 a.2.1),(Z 2 a.2.1),(Z 3 a.2.1),e,(Z 4 a.2.1)],b.2)) λb=>cI (bX 1 b) ((O tab .add U (Z 1 ds) (.int .i64 1)).bind λb=>some (.aQ,[(Z 0 ds),b,(Z 0 a.2.1),(Z 1 a.2.1),(Z 2 a.2.1),(Z 3 a.2.1),e,(Z 4 a.2.1)],a.2.2)) λb=>some (b,[(Z 0 ds),(Z 1 ds),(Z 0 a.2.1),(Z 1 a.2.1),(Z 2 a.2.1),(Z 3 a.2.1),e,(Z 4 a.2.1)],a.2.2))
  (some ((.ext 0),[(Z 0 ds),(Z 1 ds),(Z 2 ds),(Z 3 ds),(Z 4 ds),(Z 5 ds),e,(Z 7 ds)],d.2))
def K3(a b c:D)(h:J):Option (D × J):=
 ((cA (K4 a b c) [.aA,.int .i64 0,.any,.any,.any,.any,.any,.any] h).bind λa=>some ((bX 0 a.1),[(Z 0 a.2.1),(Z 1 a.2.1),(Z 2 a.2.1),(Z 3 a.2.1),(Z 4 a.2.1),(Z 5 a.2.1),(Z 6 a.2.1),(Z 7 a.2.1)],a.2.2)).bind λa=>cI a.1 (scope h a.2.2 (aF [(Z 0 a.2.1)])) λb=>dC b (scope h a.2.2 (aF [.aA]))
theorem VQ(a b c:D)(h:J):R yG [a,b,c] h=K3 a b c h:=
 er Fv
def JS(a:D)(b:D × J)(c:D)(ds:List D)(d:J):Option bK:=
 (bC tab bU c).bind λe=>(O tab .lss U (Z 0 ds) e).bind λe=>S e
  ((aB tab aH 0 a).bind λa=>(Y tab d bH a).bind λa=>(O tab .neq bH a (.str [])).bind λa=>(S a
  ((aO tab bU c (Z 0 ds)).bind λf=>(aB tab dD 2 f).bind λf=>((aS tab d bH f (.str [])).bind λf=>some ((.bA:D),f)).bind λg=>some (.aQ,([]:List D),g.2))
  (some (.aQ,([]:List D),d))).bind λg=>cI g.1 ((aB tab aH 1 b.1).bind λh=>(aB tab aC 4 h).bind λh=>(Y tab g.2.2 bU h).bind λh=>(aO tab bU c (Z 0 ds)).bind λc=>(Y tab g.2.2 dD c).bind λc=>(dL tab bU 1 [0] [c]).bind λc=>(dB tab g.2.2 bU bU h c).bind λc=>(aB tab aH 1 b.1).bind λb=>(aB tab aC 4 b).bind λb=>((aS tab c.2 bU b c.1).bind λf=>some ((.bA:D),f)).bind λb=>(O tab .add U (Z 0 ds) (.int .i64 1)).bind λc=>some (.aQ,[c,e,a],b.2)) λb=>cI (bX 1 b) ((O tab .add U (Z 0 ds) (.int .i64 1)).bind λb=>some (.aQ,[b,e,a],g.2.2)) λb=>some (b,[(Z 0 ds),e,a],g.2.2))
  (some ((.ext 0),[(Z 0 ds),e,(Z 2 ds)],d))
def JR(a b:D)(h:J):Option (D × J):=
 (e9 a).bind λa=>(e9 b).bind λb=>(some ((.ptr h.length 0 0:D),aG h aH 11 [[.str [],.int .i64 0,.int .i64 0,.int .i64 0,.int .i64 0,.aA,.int .i64 0,.int .i64 0,.str [],.str [],.aA]])).bind λc=>(Y tab c.2 aH b).bind λd=>(some ((.ptr c.2.length 0 0:D),aG c.2 aH 11 [[.str [],.int .i64 0,.int .i64 0,.int .i64 0,.int .i64 0,.aA,.int .i64 0,.int .i64 0,.str [],.str [],.aA]])).bind λe=>((aS tab e.2 aH e.1 d).bind λd=>some ((.bA:D),d)).bind λf=>(aB tab aH 1 a).bind λg=>(aB tab aC 2 g).bind λg=>(Y tab f.2 U g).bind λg=>(aB tab aH 1 e.1).bind λi=>(aB tab aC 2 i).bind λi=>((aS tab f.2 U i g).bind λd=>some ((.bA:D),d)).bind λf=>(aB tab aH 1 e.1).bind λg=>(aB tab aC 4 g).bind λg=>((aS tab f.2 bU g (.aA)).bind λd=>some ((.bA:D),d)).bind λf=>(aB tab aH 1 a).bind λa=>(aB tab aC 4 a).bind λa=>(Y tab f.2 bU a).bind λa=>(dB tab f.2 bU bU (.aA) a).bind λa=>(aB tab aH 1 b).bind λg=>(aB tab aC 4 g).bind λg=>(Y tab a.2 bU g).bind λi=>(dB tab a.2 bU bU a.1 i).bind λa=>dY (Y tab f.2 bU g=some i)
 (((cA (JS b e a.1) [.int .i64 0,.any,.any] a.2).bind λa=>some ((bX 0 a.1),[(Z 0 a.2.1),(Z 1 a.2.1),(Z 2 a.2.1)],a.2.2)).bind λa=>cI a.1 ((Y tab a.2.2 aH e.1).bind λb=>((aS tab a.2.2 aH c.1 b).bind λd=>some ((.bA:D),d)).bind λb=>(Y tab b.2 aH c.1).bind λd=>scope h b.2 (aF [d])) λb=>dC b ((Y tab a.2.2 aH c.1).bind λd=>scope h a.2.2 (aF [d])))
theorem U2(a b:D)(h:J):R yl [a,b] h=JR a b h:=
 er Fw
def Bc(a:D)(ds:List D)(b:J):Option bK:=
 (aB tab bP 2 a).bind λc=>(Y tab b dO c).bind λc=>(bC tab dO c).bind λc=>(O tab .lss U (Z 1 ds) c).bind λc=>S c
  ((aB tab bP 2 a).bind λa=>(Y tab b dO a).bind λa=>(aO tab dO a (Z 1 ds)).bind λa=>(Y tab b aH a).bind λa=>(R yq [a] b).bind λa=>(cT 0 a.1).bind λd=>(cT 1 a.1).bind λe=>(dB tab a.2 aP aP (Z 0 ds) d).bind λa=>(O tab .add U (Z 1 ds) (.int .i64 1)).bind λe=>some (.aQ,[a.1,e,d,c],a.2))
  (some ((.ext 0),[(Z 0 ds),(Z 1 ds),(Z 2 ds),c],b))
def wR(a:D)(h:J):Option (D × J):=
 (e9 a).bind λa=>(Y tab h bP a).bind λb=>(R qw [b] h).bind λb=>(O tab .neq hz b.1 (.int .i64 0)).bind λc=>S c
  (scope h b.2 (aF [.aA,b.1]))
  ((aB tab bP 0 a).bind λc=>(Y tab b.2 U c).bind λc=>(dT tab U eG c).bind λc=>(R lV [.aA,c,.int .i64 8] b.2).bind λc=>(aB tab bP 1 a).bind λd=>(Y tab c.2 U d).bind λe=>(dT tab U eG e).bind λf=>(R lV [c.1,f,.int .i64 8] c.2).bind λf=>(aB tab bP 2 a).bind λg=>(Y tab f.2 dO g).bind λi=>(bC tab dO i).bind λj=>(dT tab U eG j).bind λj=>(R lV [f.1,j,.int .i64 4] f.2).bind λf=>dY (Y tab b.2 U d=some e)
 (dY (Y tab b.2 dO g=some i)
 (dY (Y tab c.2 dO g=some i)
 (((cA (Bc a) [f.1,.int .i64 0,.any,.any] f.2).bind λa=>some ((bX 0 a.1),[(Z 0 a.2.1),(Z 1 a.2.1),(Z 2 a.2.1),(Z 3 a.2.1)],a.2.2)).bind λa=>cI a.1 (scope h a.2.2 (aF [(Z 0 a.2.1),.int .i64 0])) λb=>dC b (scope h a.2.2 (aF [.aA,.int .i64 0]))))))
theorem CS(a:D)(h:J):R rK [a] h=wR a h:=
 er Fx
def KZ(a:D)(h:J):Option (D × J):=
 (dS tab a).bind λb=>(aB tab kU 1 b).bind λb=>(Y tab h U b).bind λb=>(dS tab a).bind λa=>(aB tab kU 0 a).bind λa=>(Y tab h aP a).bind λa=>(bC tab aP a).bind λa=>(O tab .lss U b a).bind λa=>some (aF [a],h)
theorem CW(a:D)(h:J):R yE [a] h=KZ a h:=
 er Fy
def o8(a b c:D)(ds:List D)(d:J):Option bK:=
 (bC tab dN a).bind λe=>(O tab .lss U (Z 0 ds) e).bind λe=>(W e true (some a)).bind λf=>(W e true (some (Z 0 ds))).bind λg=>(W e true (aO tab dN f g)).bind λf=>(W e true (aB tab eK 0 f)).bind λf=>(W e true (Y tab d U f)).bind λf=>(W e true (some b)).bind λg=>(W e true (O tab .lss U f g)).bind λf=>(W e true (some f)).bind λf=>(W f false (some a)).bind λg=>(W f false (some (Z 0 ds))).bind λh=>(W f false (aO tab dN g h)).bind λg=>(W f false (aB tab eK 0 g)).bind λg=>(W f false (Y tab d U g)).bind λg=>(W f false (some b)).bind λb=>(W f false (O tab .eql U g b)).bind λb=>(W f false (some b)).bind λb=>(W b true (some a)).bind λa=>(W b true (some (Z 0 ds))).bind λg=>(W b true (aO tab dN a g)).bind λa=>(W b true (aB tab eK 1 a)).bind λa=>(W b true (Y tab d bH a)).bind λa=>(W b true (some c)).bind λc=>(W b true (O tab .lss bH a c)).bind λa=>(W f false (cV b a (.bool false))).bind λa=>(W e true (cV f (.bool true) a)).bind λa=>(cV e a (.bool false)).bind λa=>S a
  ((O tab .add U (Z 0 ds) (.int .i64 1)).bind λb=>some (.aQ,[b,a],d))
  (some ((.ext 0),[(Z 0 ds),a],d))
def K1(a b c d:D)(h:J):Option (D × J):=
 (O tab .leq U d (.int .i64 0)).bind λe=>S e
  (scope h h (aF [a]))
  (((cA (o8 a b c) [.int .i64 0,.any] h).bind λe=>some ((bX 0 e.1),[(Z 0 e.2.1),(Z 1 e.2.1)],e.2.2)).bind λe=>cI e.1 ((dB tab e.2.2 dN dN (.aA) a).bind λf=>(bC tab dN a).bind λg=>(O tab .lss U (Z 0 e.2.1) g).bind λg=>(W g true (some a)).bind λi=>(W g true (some (Z 0 e.2.1))).bind λj=>(W g true (aO tab dN i j)).bind λi=>(W g true (aB tab eK 0 i)).bind λi=>(W g true (Y tab f.2 U i)).bind λi=>(W g true (some b)).bind λj=>(W g true (O tab .eql U i j)).bind λi=>(cV g i (.bool false)).bind λg=>(W g true (some a)).bind λi=>(W g true (some (Z 0 e.2.1))).bind λj=>(W g true (aO tab dN i j)).bind λi=>(W g true (aB tab eK 1 i)).bind λi=>(W g true (Y tab f.2 bH i)).bind λi=>(W g true (some c)).bind λj=>(W g true (O tab .eql bH i j)).bind λi=>(cV g i (.bool false)).bind λg=>S g
  ((aO tab dN f.1 (Z 0 e.2.1)).bind λg=>(aB tab eK 2 g).bind λg=>(Y tab f.2 U g).bind λg=>(O tab .add U g d).bind λg=>(aO tab dN f.1 (Z 0 e.2.1)).bind λi=>(aB tab eK 2 i).bind λi=>((aS tab f.2 U i g).bind λg=>some ((.bA:D),g)).bind λg=>scope h g.2 (aF [f.1]))
  ((lQ tab f.2 dN false true [f.1,(Z 0 e.2.1),(Z 0 e.2.1)]).bind λf=>(eD tab eK [0,1,2] [b,c,d]).bind λb=>(dL tab dN 1 [0] [b]).bind λb=>(dB tab f.2 dN dN f.1 b).bind λb=>(eN tab dN true false false [a,(Z 0 e.2.1)]).bind λa=>(dB tab b.2 dN dN b.1 a).bind λa=>scope h a.2 (aF [a.1]))) λa=>dC a (scope h e.2.2 (aF [.aA])))
theorem rr(a b c d:D)(h:J):R rL [a,b,c,d] h=K1 a b c d h:=
 er Fz
def wQ(a:D)(h:J):Option (D × J):=
 (aO tab aP a (.int .i64 0)).bind λb=>(Y tab h cD b).bind λb=>(dT tab cD fK b).bind λb=>(O tab .shl fK b (.int .u64 24)).bind λb=>(aO tab aP a (.int .i64 1)).bind λc=>(Y tab h cD c).bind λc=>(dT tab cD fK c).bind λc=>(O tab .shl fK c (.int .u64 16)).bind λc=>(O tab .or fK b c).bind λb=>(aO tab aP a (.int .i64 2)).bind λc=>(Y tab h cD c).bind λc=>(dT tab cD fK c).bind λc=>(O tab .shl fK c (.int .u64 8)).bind λc=>(O tab .or fK b c).bind λb=>(aO tab aP a (.int .i64 3)).bind λa=>(Y tab h cD a).bind λa=>(dT tab cD fK a).bind λa=>(O tab .or fK b a).bind λa=>some (aF [a],h)
theorem Nh(a:D)(h:J):R oO [a] h=wQ a h:=
 er FA
def KE(a:D)(h:J):Option (D × J):=
 (R oO [a] h).bind λb=>(dT tab fK eG b.1).bind λc=>(O tab .shl eG c (.int .u64 32)).bind λc=>(eN tab aP true false false [a,.int .i64 4]).bind λa=>(R oO [a] b.2).bind λa=>(dT tab fK eG a.1).bind λb=>(O tab .or eG c b).bind λb=>(dT tab eG U b).bind λb=>some (aF [b],a.2)
theorem VD(a:D)(h:J):R tf [a] h=KE a h:=
 er FB
def Ke(a:D)(h:J):Option (D × J):=
 (some ((.ptr h.length 0 0:D),aG h aH 11 [[.str [],.int .i64 0,.int .i64 0,.int .i64 0,.int .i64 0,.aA,.int .i64 0,.int .i64 0,.str [],.str [],.aA]])).bind λb=>(bC tab aP a).bind λc=>(O tab .lss U c (.int .i64 4)).bind λc=>S c
  ((eD tab aH [] []).bind λc=>((aS tab b.2 aH b.1 c).bind λc=>some ((.bA:D),c)).bind λd=>(Y tab d.2 aH b.1).bind λe=>scope h d.2 (aF [e,.int .i64 0,.int .i64 14]))
  ((eN tab aP false true false [a,.int .i64 4]).bind λd=>(R qx [d] b.2).bind λd=>(dT tab eG U d.1).bind λf=>(O tab .lss U f (.int .i64 4)).bind λg=>(W g false (some f)).bind λi=>(W g false (some a)).bind λj=>(W g false (bC tab aP j)).bind λj=>(W g false (O tab .sub U j (.int .i64 4))).bind λj=>(W g false (O tab .gtr U i j)).bind λi=>(cV g (.bool true) i).bind λg=>S g
  ((eD tab aH [] []).bind λg=>((aS tab d.2 aH b.1 g).bind λc=>some ((.bA:D),c)).bind λg=>(Y tab g.2 aH b.1).bind λe=>scope h g.2 (aF [e,.int .i64 0,.int .i64 14]))
  ((eN tab aP false true false [a,f]).bind λg=>(R yu [g] d.2).bind λd=>(O tab .add U f (.int .i64 4)).bind λg=>(eN tab aP true true false [a,f,g]).bind λg=>(R qx [g] d.2).bind λg=>(O tab .neq eG d.1 g.1).bind λd=>S d
  ((eD tab aH [] []).bind λd=>((aS tab g.2 aH b.1 d).bind λc=>some ((.bA:D),c)).bind λd=>(Y tab d.2 aH b.1).bind λe=>scope h d.2 (aF [e,.int .i64 0,.int .i64 15]))
  ((some ((.ptr g.2.length 0 0:D),aG g.2 aH 11 [[.str [],.int .i64 0,.int .i64 0,.int .i64 0,.int .i64 0,.aA,.int .i64 0,.int .i64 0,.str [],.str [],.aA]])).bind λd=>(eN tab aP true true false [a,.int .i64 4,f]).bind λa=>(eD tab hR [0] [a]).bind λa=>(kV hR 2 d.2 a).bind λa=>(some (.iface mC a.1:D)).bind λg=>(R vn [g,d.1] a.2).bind λg=>(dS tab a.1).bind λi=>(aB tab hR 1 i).bind λi=>(Y tab g.2 iZ i).bind λi=>(W i false (some a.1)).bind λa=>(W i false (dS tab a)).bind λa=>(W i false (aB tab hR 0 a)).bind λa=>(W i false (Y tab g.2 aP a)).bind λa=>(W i false (bC tab aP a)).bind λa=>(W i false (O tab .gtr U a (.int .i64 0))).bind λa=>(cV i (.bool true) a).bind λa=>(W a false (Y tab g.2 aH d.1)).bind λi=>(gQ a false g.2 (lP R pv [i] g.2)).bind λg=>(W a false (O tab .neq hz g.1 (.int .i64 0))).bind λi=>(cV a (.bool true) i).bind λa=>S a
  ((eD tab aH [] []).bind λa=>((aS tab g.2 aH b.1 a).bind λc=>some ((.bA:D),c)).bind λa=>(Y tab a.2 aH b.1).bind λe=>scope h a.2 (aF [e,.int .i64 0,.int .i64 1]))
  ((Y tab g.2 aH d.1).bind λa=>(O tab .add U (.int .i64 4) f).bind λd=>((aS tab g.2 aH b.1 a).bind λc=>some ((.bA:D),c)).bind λa=>(Y tab a.2 aH b.1).bind λe=>scope h a.2 (aF [e,d,.int .i64 0])))))
theorem Vk(a:D)(h:J):R vl [a] h=Ke a h:=
 er FC
def KB(a b:D)(ds:List D)(c:J):Option bK:=
 (O tab .lss U (Z 6 ds) b).bind λb=>S b
  ((aO tab dO a (Z 6 ds)).bind λa=>(Y tab c aH a).bind λa=>(gM 11 a).bind λa=>(Y tab c aH a).bind λd=>(R yt [d] c).bind λd=>(cT 0 d.1).bind λe=>(cT 1 d.1).bind λf=>(O tab .neq hz f (.int .i64 0)).bind λg=>S g
  (some (.ret,[.aA,f,(Z 2 ds),a,e,f,(Z 6 ds),b,g],d.2))
  ((dB tab d.2 aP aP (Z 2 ds) e).bind λd=>(O tab .add U (Z 6 ds) (.int .i64 1)).bind λh=>some (.aQ,[(Z 0 ds),(Z 1 ds),d.1,a,e,f,h,b,g],d.2)))
  (some ((.ext 0),[(Z 0 ds),(Z 1 ds),(Z 2 ds),(Z 3 ds),(Z 4 ds),(Z 5 ds),(Z 6 ds),b,(Z 8 ds)],c))
def Bj(a:D)(h:J):Option (D × J):=
 (e9 a).bind λa=>(Y tab h bP a).bind λb=>(R rJ [b] h).bind λb=>(O tab .neq hz b.1 (.int .i64 0)).bind λc=>S c
  (scope h b.2 (aF [.aA,b.1]))
  ((aB tab bP 0 a).bind λc=>(Y tab b.2 U c).bind λc=>(R vr [.aA,c] b.2).bind λc=>(aB tab bP 1 a).bind λd=>(Y tab c.2 U d).bind λe=>(R vr [c.1,e] c.2).bind λf=>(aB tab bP 2 a).bind λg=>(Y tab f.2 dO g).bind λi=>(bC tab dO i).bind λj=>(dT tab U fK j).bind λj=>(R rF [j] f.2).bind λj=>(dB tab j.2 aP aP f.1 j.1).bind λf=>dY (Y tab b.2 U d=some e)
 (dY (Y tab b.2 dO g=some i)
 (dY (Y tab c.2 dO g=some i)
 ((aB tab bP 2 a).bind λa=>(Y tab f.2 dO a).bind λa=>(bC tab dO a).bind λb=>((cA (KB a b) [.aA,.int .i64 0,f.1,.any,.any,.any,.int .i64 0,.any,.any] f.2).bind λa=>some ((bX 0 a.1),[(Z 0 a.2.1),(Z 1 a.2.1),(Z 2 a.2.1),(Z 3 a.2.1),(Z 4 a.2.1),(Z 5 a.2.1),(Z 6 a.2.1),(Z 7 a.2.1),(Z 8 a.2.1)],a.2.2)).bind λa=>cI a.1 (scope h a.2.2 (aF [(Z 2 a.2.1),.int .i64 0])) λb=>dC b (scope h a.2.2 (aF [(Z 0 a.2.1),(Z 1 a.2.1)]))))))
theorem Nk(a:D)(h:J):R yy [a] h=Bj a h:=
 er FD
def KF(a b:D)(h:J):Option (D × J):=
 (qm h a).bind λa=>(qm h b).bind λb=>(O tab .eql bH a b).bind λa=>some (aF [a],h)
theorem VE(a b:D)(h:J):R DG [a,b] h=KF a b h:=
 er FE
def JU(a b c:D)(ds:List D)(d:J):Option bK:=
 (O tab .lss U (Z 3 ds) c).bind λc=>S c
  ((aO tab dO b (Z 3 ds)).bind λb=>(Y tab d aH b).bind λb=>(gM 11 b).bind λb=>(Y tab d aH b).bind λe=>(R pv [e] d).bind λe=>(O tab .neq hz e.1 (.int .i64 0)).bind λf=>S f
  (some (.ret,[e.1,b,e.1,(Z 3 ds),c,f,(Z 6 ds),(Z 7 ds)],e.2))
  ((aB tab aH 1 b).bind λg=>(aB tab aC 0 g).bind λg=>(Y tab e.2 U g).bind λg=>(aB tab bP 0 a).bind λa=>(Y tab e.2 U a).bind λa=>(O tab .neq U g a).bind λa=>S a
  (some (.ret,[.int .i64 24,b,e.1,(Z 3 ds),c,f,a,(Z 7 ds)],e.2))
  ((aB tab aH 0 b).bind λg=>(Y tab e.2 bH g).bind λg=>(O tab .eql bH g (.str [42])).bind λg=>S g
  (some (.ret,[.int .i64 6,b,e.1,(Z 3 ds),c,f,a,g],e.2))
  ((O tab .add U (Z 3 ds) (.int .i64 1)).bind λh=>some (.aQ,[(Z 0 ds),b,e.1,h,c,f,a,g],e.2)))))
  (some ((.ext 0),[(Z 0 ds),(Z 1 ds),(Z 2 ds),(Z 3 ds),c,(Z 5 ds),(Z 6 ds),(Z 7 ds)],d))
def JT(a:D)(h:J):Option (D × J):=
 (e9 a).bind λa=>(aB tab bP 2 a).bind λb=>(Y tab h dO b).bind λb=>(bC tab dO b).bind λb=>(O tab .gtr U b (.int .i64 40)).bind λb=>S b
  (some (aF [.int .i64 4],h))
  ((aB tab bP 2 a).bind λb=>(Y tab h dO b).bind λb=>(bC tab dO b).bind λc=>((cA (JU a b c) [.int .i64 0,.any,.any,.int .i64 0,.any,.any,.any,.any] h).bind λa=>some ((bX 0 a.1),[(Z 0 a.2.1),(Z 1 a.2.1),(Z 2 a.2.1),(Z 3 a.2.1),(Z 4 a.2.1),(Z 5 a.2.1),(Z 6 a.2.1),(Z 7 a.2.1)],a.2.2)).bind λa=>cI a.1 (some (aF [.int .i64 0],a.2.2)) λb=>dC b (some (aF [(Z 0 a.2.1)],a.2.2)))
theorem U3(a:D)(h:J):R rJ [a] h=JT a h:=
 er FF
def Bb(a:D)(h:J):Option (D × J):=
 (O tab .eql dV a (.aA)).bind λb=>S b
  (some (aF [.aA],h))
  ((dL tab dV 0 [] []).bind λb=>(dB tab h dV dV b a).bind λa=>some (aF [a.1],a.2))
theorem U4(a:D)(h:J):R Dz [a] h=Bb a h:=
 er FG
def ux(a:D)(h:J):Option (D × J):=
 (O tab .eql dN a (.aA)).bind λb=>S b
  (some (aF [.aA],h))
  ((dL tab dN 0 [] []).bind λb=>(dB tab h dN dN b a).bind λa=>some (aF [a.1],a.2))
theorem Nr(a:D)(h:J):R vw [a] h=ux a h:=
 er FH
def JV(a b:D)(h:J):Option (D × J):=
 (kV aH 11 h b).bind λb=>(aB tab aH 1 b.1).bind λc=>(aB tab aC 0 c).bind λc=>(Y tab b.2 U c).bind λc=>(aB tab aH 1 b.1).bind λd=>(aB tab aC 1 d).bind λd=>(Y tab b.2 U d).bind λd=>(aB tab aH 1 b.1).bind λe=>(aB tab aC 3 e).bind λe=>(Y tab b.2 U e).bind λe=>(dS tab a).bind λf=>(aB tab gh 0 f).bind λf=>(Y tab b.2 aX f).bind λf=>(R Db [f,c,d] b.2).bind λf=>(aB tab aH 1 b.1).bind λg=>(aB tab aC 4 g).bind λg=>(Y tab f.2 bU g).bind λi=>(bC tab bU i).bind λj=>dY (Y tab b.2 bU g=some i)
 ((O tab .leq U e f.1).bind λg=>S g
  ((R pw [a,c,.str [42],j] f.2).bind λg=>some (aF [.bool true],g.2))
  ((aB tab aH 1 b.1).bind λg=>(aB tab aC 2 g).bind λg=>(Y tab f.2 U g).bind λg=>(O tab .gtr U g f.1).bind λg=>S g
  (some (aF [.bool false],f.2))
  ((aB tab aH 1 b.1).bind λg=>(aB tab aC 2 g).bind λg=>(Y tab f.2 U g).bind λg=>(O tab .lss U g f.1).bind λg=>(S g
  ((Y tab f.2 aH b.1).bind λg=>(R x2 [g,f.1] f.2).bind λg=>(cT 0 g.1).bind λi=>(cT 1 g.1).bind λk=>(gM 11 i).bind λi=>(fS .not k).bind λl=>S l
  (some (.ret,[.bool false,i,k,l],g.2))
  ((Y tab g.2 aH i).bind λm=>((aS tab g.2 aH b.1 m).bind λg=>some ((.bA:D),g)).bind λm=>(aB tab aH 1 b.1).bind λn=>(aB tab aC 4 n).bind λn=>(Y tab m.2 bU n).bind λn=>(bC tab bU n).bind λn=>(O tab .sub U j n).bind λj=>(R pw [a,c,.str [42],j] m.2).bind λj=>some (.aQ,[.bool false,i,k,l],j.2)))
  (some (.aQ,[.bool false,.any,.any,.any],f.2))).bind λf=>cI (bX 0 f.1) ((dS tab a).bind λi=>(aB tab gh 0 i).bind λi=>(aB tab aX 0 i).bind λi=>(Y tab f.2.2 dV i).bind λi=>(R s5 [i,c,d] f.2.2).bind λi=>(cT 0 i.1).bind λj=>(cT 1 i.1).bind λk=>(fS .not k).bind λk=>(S k
  ((dS tab a).bind λk=>(aB tab gh 0 k).bind λk=>(aB tab aX 0 k).bind λk=>(Y tab i.2 dV k).bind λk=>(eD tab eO [0,1] [c,d]).bind λd=>(dL tab dV 1 [0] [d]).bind λd=>(R te [k,j,d] i.2).bind λd=>(dS tab a).bind λk=>(aB tab gh 0 k).bind λk=>(aB tab aX 0 k).bind λk=>((aS tab d.2 dV k d.1).bind λg=>some ((.bA:D),g)).bind λd=>some (.aQ,([]:List D),d.2))
  (some (.aQ,([]:List D),i.2))).bind λd=>cI d.1 ((dS tab a).bind λi=>(aB tab gh 0 i).bind λi=>(aB tab aX 0 i).bind λi=>(Y tab d.2.2 dV i).bind λi=>(aO tab dV i j).bind λi=>(aB tab eO 2 i).bind λi=>((aS tab d.2.2 U i e).bind λg=>some ((.bA:D),g)).bind λe=>(aB tab aH 0 b.1).bind λi=>(Y tab e.2 bH i).bind λi=>(aB tab aH 1 b.1).bind λj=>(aB tab aC 4 j).bind λj=>(Y tab e.2 bU j).bind λj=>(bC tab bU j).bind λj=>(R pw [a,c,i,j] e.2).bind λc=>(aB tab aH 0 b.1).bind λe=>(Y tab c.2 bH e).bind λe=>(O tab .eql bH e (.str [])).bind λe=>(S e
  ((aB tab aH 1 b.1).bind λb=>(Y tab c.2 aC b).bind λb=>(some ((.ptr c.2.length 0 0:D),aG c.2 aC 10 [[.int .i64 0,.int .i64 0,.int .i64 0,.int .i64 0,.aA,.int .i64 0,.int .i64 0,.str [],.str [],.aA]])).bind λe=>((aS tab e.2 aC e.1 b).bind λg=>some ((.bA:D),g)).bind λb=>(aB tab aC 4 e.1).bind λi=>(Y tab b.2 bU i).bind λi=>(R s4 [i] b.2).bind λi=>(aB tab aC 9 e.1).bind λj=>(Y tab i.2 bQ j).bind λk=>(R rE [k] i.2).bind λl=>(aB tab aC 4 e.1).bind λm=>dY (Y tab b.2 bQ j=some k)
 (((aS tab l.2 bU m i.1).bind λg=>some ((.bA:D),g)).bind λb=>(aB tab aC 9 e.1).bind λi=>((aS tab b.2 bQ i l.1).bind λg=>some ((.bA:D),g)).bind λb=>(dS tab a).bind λi=>(aB tab gh 1 i).bind λi=>(Y tab b.2 dX i).bind λi=>(Y tab b.2 aC e.1).bind λj=>(dL tab dX 1 [0] [j]).bind λj=>(dB tab b.2 dX dX i j).bind λb=>(dS tab a).bind λa=>(aB tab gh 1 a).bind λa=>((aS tab b.2 dX a b.1).bind λg=>some ((.bA:D),g)).bind λa=>some (.aQ,[e.1],a.2)))
  (some (.aQ,[.any],c.2))).bind λa=>cI a.1 (some (aF [.bool true],a.2.2)) λb=>dC b (some (aF [(Z 0 f.2.1)],a.2.2))) λa=>dC a (some (aF [(Z 0 f.2.1)],d.2.2))) λa=>dC a (some (aF [(Z 0 f.2.1)],f.2.2)))))
theorem U5(a b:D)(h:J):R ym [a,b] h=JV a b h:=
 er FI
def Br(a b c d:D)(ds:List D)(e:J):Option bK:=
 (O tab .leq U (Z 1 ds) b).bind λb=>S b
  ((R tg [a,(Z 0 ds),(Z 1 ds),c] e).bind λa=>(O tab .add U (Z 1 ds) d).bind λc=>some (.aQ,[(Z 1 ds),c,b],a.2))
  (some ((.ext 0),[(Z 0 ds),(Z 1 ds),b],e))
def KP(a b c:D)(d:List D)(e:List D)(f:J):Option bK:=
 (O tab .leq U (Z 1 e) b).bind λb=>S b
  ((O tab .add U (Z 0 e) (Z 0 d)).bind λg=>(R qz [a,(Z 0 e),g,(Z 1 e),c] f).bind λa=>(O tab .mul U (.int .i64 2) (Z 0 d)).bind λc=>(O tab .add U (Z 1 e) c).bind λc=>some (.aQ,[(Z 1 e),c,b],a.2))
  (some ((.ext 4),[(Z 0 e),(Z 1 e),b],f))
def Bs(a b c:D)(d:List D)(e:J):Option bK:=
 (O tab .lss U (Z 0 d) b).bind λf=>S f
  ((O tab .mul U (.int .i64 2) (Z 0 d)).bind λg=>((cA (KP a b c d) [.int .i64 0,g,(Z 5 d)] e).bind λg=>some ((bX 4 g.1),[(Z 0 g.2.1),(Z 1 g.2.1),(Z 2 g.2.1)],g.2.2)).bind λg=>cI g.1 ((O tab .add U (Z 0 g.2.1) (Z 0 d)).bind λh=>(O tab .lss U h b).bind λi=>(S i
  ((R qz [a,(Z 0 g.2.1),h,b,c] g.2.2).bind λa=>some (.aQ,([]:List D),a.2))
  (some (.aQ,([]:List D),g.2.2))).bind λa=>cI a.1 ((O tab .mul U (Z 0 d) (.int .i64 2)).bind λb=>some (.aQ,[b,(Z 0 g.2.1),(Z 1 g.2.1),h,f,(Z 2 g.2.1),i],a.2.2)) λb=>some ((bX 3 b),[(Z 0 d),(Z 0 g.2.1),(Z 1 g.2.1),h,f,(Z 2 g.2.1),i],a.2.2)) λa=>some ((bX 3 a),[(Z 0 d),(Z 0 g.2.1),(Z 1 g.2.1),(Z 3 d),f,(Z 2 g.2.1),(Z 6 d)],g.2.2))
  (some ((.ext 2),[(Z 0 d),(Z 1 d),(Z 2 d),(Z 3 d),f,(Z 5 d),(Z 6 d)],e))
def Bq(a b c:D)(h:J):Option (D × J):=
 ((cA (Br a b c (.int .i64 20)) [.int .i64 0,.int .i64 20,.any] h).bind λd=>some ((bX 0 d.1),[(Z 0 d.2.1),(Z 1 d.2.1),(Z 2 d.2.1)],d.2.2)).bind λd=>cI d.1 ((R tg [a,(Z 0 d.2.1),b,c] d.2.2).bind λe=>((cA (Bs a b c) [.int .i64 20,(Z 0 d.2.1),(Z 1 d.2.1),.any,.any,.any,.any] e.2).bind λa=>some ((bX 2 a.1),[(Z 0 a.2.1),(Z 1 a.2.1),(Z 2 a.2.1),(Z 3 a.2.1),(Z 4 a.2.1),(Z 5 a.2.1),(Z 6 a.2.1)],a.2.2)).bind λa=>dC a.1 (some (aF [],a.2.2))) λa=>dC a (some (aF [],d.2.2))
theorem Nn(a b c:D)(h:J):R DJ [a,b,c] h=Bq a b c h:=
 er FJ
def uz(a b c:D)(ds:List D)(d:J):Option bK:=
 (O tab .lss U (Z 2 ds) c).bind λc=>S c
  ((aO tab iR b (Z 2 ds)).bind λb=>(Y tab d U b).bind λb=>(O tab .neq U b a).bind λa=>S a
  (some (.ret,[b,b,(Z 2 ds),c,a],d))
  ((O tab .add U (Z 2 ds) (.int .i64 1)).bind λe=>some (.aQ,[(Z 0 ds),b,e,c,a],d)))
  (some ((.ext 0),[(Z 0 ds),(Z 1 ds),(Z 2 ds),c,(Z 4 ds)],d))
def Lf(a:D)(h:J):Option (D × J):=
 (bC tab iR a).bind λb=>((cA (uz (.int .i64 0) a b) [.int .i64 0,.any,.int .i64 0,.any,.any] h).bind λa=>some ((bX 0 a.1),[(Z 0 a.2.1),(Z 1 a.2.1),(Z 2 a.2.1),(Z 3 a.2.1),(Z 4 a.2.1)],a.2.2)).bind λa=>cI a.1 (some (aF [.int .i64 0],a.2.2)) λb=>dC b (some (aF [(Z 0 a.2.1)],a.2.2))
theorem VY(a:D)(h:J):R vy [a] h=Lf a h:=
 er FK
def Lg(a b:D)(h:J):Option (D × J):=
 (R yN [a] h).bind λc=>(R yN [b] c.2).bind λd=>S c.1
  (S d.1
  (some (aF [.int .i64 0],d.2))
  (some (aF [.int .i64 (-1)],d.2)))
  (S d.1
  (some (aF [.int .i64 1],d.2))
  ((O tab .lss U a b).bind λc=>S c
  (some (aF [.int .i64 (-1)],d.2))
  ((O tab .gtr U a b).bind λa=>S a
  (some (aF [.int .i64 1],d.2))
  (some (aF [.int .i64 0],d.2)))))
theorem CX(a b:D)(h:J):R pz [a,b] h=Lg a b h:=
 er FL
def J5(a:D)(ds:List D)(b:J):Option bK:=
 (bC tab aP a).bind λc=>(O tab .lss U (Z 1 ds) c).bind λc=>S c
  ((O tab .shl eG (Z 0 ds) (.int .u64 8)).bind λd=>(aO tab aP a (Z 1 ds)).bind λa=>(Y tab b cD a).bind λa=>(dT tab cD eG a).bind λa=>(O tab .or eG d a).bind λa=>(O tab .add U (Z 1 ds) (.int .i64 1)).bind λd=>some (.aQ,[a,d,c],b))
  (some ((.ext 0),[(Z 0 ds),(Z 1 ds),c],b))
def J4(a:D)(h:J):Option (D × J):=
 ((cA (J5 a) [.int .u64 0,.int .i64 0,.any] h).bind λa=>some ((bX 0 a.1),[(Z 0 a.2.1),(Z 1 a.2.1),(Z 2 a.2.1)],a.2.2)).bind λa=>cI a.1 (some (aF [(Z 0 a.2.1)],a.2.2)) λb=>dC b (some (aF [.int .u64 0],a.2.2))
theorem Vc(a:D)(h:J):R oP [a] h=J4 a h:=
 er FM
def Kf(a:D)(h:J):Option (D × J):=
 (some ((.ptr h.length 0 0:D),aG h aH 11 [[.str [],.int .i64 0,.int .i64 0,.int .i64 0,.int .i64 0,.aA,.int .i64 0,.int .i64 0,.str [],.str [],.aA]])).bind λb=>(eD tab bI [0,2] [a,.bool true]).bind λc=>(R lD [c,.int .i64 4] b.2).bind λc=>(cT 0 c.1).bind λd=>(cT 1 c.1).bind λe=>(some ((.ptr c.2.length 0 0:D),aG c.2 bI 3 [[.aA,.int .i64 0,.bool false]])).bind λc=>((aS tab c.2 bI c.1 d).bind λd=>some ((.bA:D),d)).bind λf=>(aB tab bI 2 c.1).bind λg=>(Y tab f.2 iZ g).bind λg=>(fS .not g).bind λg=>(W g false (some e)).bind λi=>(W g false (O tab .lss eG i (.int .u64 4))).bind λi=>(cV g (.bool true) i).bind λg=>(W g false (some e)).bind λi=>(W g false (some a)).bind λj=>(W g false (bC tab aP j)).bind λj=>(W g false (O tab .sub U j (.int .i64 4))).bind λj=>(W g false (dT tab U eG j)).bind λj=>(W g false (O tab .gtr eG i j)).bind λi=>(cV g (.bool true) i).bind λg=>S g
  ((eD tab aH [] []).bind λg=>((aS tab f.2 aH b.1 g).bind λd=>some ((.bA:D),d)).bind λg=>(Y tab g.2 aH b.1).bind λi=>scope h g.2 (aF [i,.int .i64 0,.int .i64 14]))
  ((dT tab eG U e).bind λe=>(eD tab bI [0,1,2] [a,e,.bool true]).bind λg=>(R lD [g,.int .i64 4] f.2).bind λf=>(cT 0 f.1).bind λg=>(cT 1 f.1).bind λj=>(gM 3 g).bind λg=>(eN tab aP false true false [a,e]).bind λg=>(R vk [g] f.2).bind λf=>(O tab .neq eG j f.1).bind λg=>S g
  ((eD tab aH [] []).bind λg=>((aS tab f.2 aH b.1 g).bind λd=>some ((.bA:D),d)).bind λg=>(Y tab g.2 aH b.1).bind λi=>scope h g.2 (aF [i,.int .i64 0,.int .i64 15]))
  ((eN tab aP false true false [a,e]).bind λa=>(aB tab bI 0 c.1).bind λg=>((aS tab f.2 aP g a).bind λd=>some ((.bA:D),d)).bind λa=>(some ((.ptr a.2.length 0 0:D),aG a.2 aH 11 [[.str [],.int .i64 0,.int .i64 0,.int .i64 0,.int .i64 0,.aA,.int .i64 0,.int .i64 0,.str [],.str [],.aA]])).bind λa=>(Y tab a.2 bI c.1).bind λf=>(R nK [f] a.2).bind λf=>(cT 0 f.1).bind λg=>(cT 1 f.1).bind λj=>((aS tab f.2 bI c.1 g).bind λd=>some ((.bA:D),d)).bind λf=>(aB tab aH 0 a.1).bind λg=>((aS tab f.2 bH g j).bind λd=>some ((.bA:D),d)).bind λf=>(Y tab f.2 bI c.1).bind λg=>(R mj [g] f.2).bind λf=>(cT 0 f.1).bind λg=>(cT 1 f.1).bind λj=>((aS tab f.2 bI c.1 g).bind λd=>some ((.bA:D),d)).bind λf=>(aB tab aH 1 a.1).bind λg=>(aB tab aC 0 g).bind λg=>((aS tab f.2 U g j).bind λd=>some ((.bA:D),d)).bind λf=>(Y tab f.2 bI c.1).bind λg=>(R mj [g] f.2).bind λf=>(cT 0 f.1).bind λg=>(cT 1 f.1).bind λj=>((aS tab f.2 bI c.1 g).bind λd=>some ((.bA:D),d)).bind λf=>(aB tab aH 1 a.1).bind λg=>(aB tab aC 1 g).bind λg=>((aS tab f.2 U g j).bind λd=>some ((.bA:D),d)).bind λf=>(Y tab f.2 bI c.1).bind λg=>(R mj [g] f.2).bind λf=>(cT 0 f.1).bind λg=>(cT 1 f.1).bind λj=>((aS tab f.2 bI c.1 g).bind λd=>some ((.bA:D),d)).bind λf=>(aB tab aH 1 a.1).bind λg=>(aB tab aC 2 g).bind λg=>((aS tab f.2 U g j).bind λd=>some ((.bA:D),d)).bind λf=>(Y tab f.2 bI c.1).bind λg=>(R mj [g] f.2).bind λf=>(cT 0 f.1).bind λg=>(cT 1 f.1).bind λj=>((aS tab f.2 bI c.1 g).bind λd=>some ((.bA:D),d)).bind λf=>(aB tab aH 1 a.1).bind λg=>(aB tab aC 3 g).bind λg=>((aS tab f.2 U g j).bind λd=>some ((.bA:D),d)).bind λf=>(Y tab f.2 bI c.1).bind λg=>(R vp [g] f.2).bind λf=>(cT 0 f.1).bind λg=>(cT 1 f.1).bind λj=>((aS tab f.2 bI c.1 g).bind λd=>some ((.bA:D),d)).bind λf=>(aB tab aH 1 a.1).bind λg=>(aB tab aC 4 g).bind λg=>((aS tab f.2 bU g j).bind λd=>some ((.bA:D),d)).bind λf=>(Y tab f.2 bI c.1).bind λg=>(R mj [g] f.2).bind λf=>(cT 0 f.1).bind λg=>(cT 1 f.1).bind λj=>((aS tab f.2 bI c.1 g).bind λd=>some ((.bA:D),d)).bind λf=>(aB tab aH 1 a.1).bind λg=>(aB tab aC 5 g).bind λg=>((aS tab f.2 U g j).bind λd=>some ((.bA:D),d)).bind λf=>(Y tab f.2 bI c.1).bind λg=>(R mj [g] f.2).bind λf=>(cT 0 f.1).bind λg=>(cT 1 f.1).bind λj=>((aS tab f.2 bI c.1 g).bind λd=>some ((.bA:D),d)).bind λf=>(aB tab aH 1 a.1).bind λg=>(aB tab aC 6 g).bind λg=>((aS tab f.2 U g j).bind λd=>some ((.bA:D),d)).bind λf=>(Y tab f.2 bI c.1).bind λg=>(R nK [g] f.2).bind λf=>(cT 0 f.1).bind λg=>(cT 1 f.1).bind λj=>((aS tab f.2 bI c.1 g).bind λd=>some ((.bA:D),d)).bind λf=>(aB tab aH 1 a.1).bind λg=>(aB tab aC 7 g).bind λg=>((aS tab f.2 bH g j).bind λd=>some ((.bA:D),d)).bind λf=>(Y tab f.2 bI c.1).bind λg=>(R nK [g] f.2).bind λf=>(cT 0 f.1).bind λg=>(cT 1 f.1).bind λj=>((aS tab f.2 bI c.1 g).bind λd=>some ((.bA:D),d)).bind λf=>(aB tab aH 1 a.1).bind λg=>(aB tab aC 8 g).bind λg=>((aS tab f.2 bH g j).bind λd=>some ((.bA:D),d)).bind λf=>(Y tab f.2 bI c.1).bind λg=>(R vq [g] f.2).bind λf=>(cT 0 f.1).bind λg=>(cT 1 f.1).bind λj=>((aS tab f.2 bI c.1 g).bind λd=>some ((.bA:D),d)).bind λf=>(aB tab aH 1 a.1).bind λg=>(aB tab aC 9 g).bind λg=>((aS tab f.2 bQ g j).bind λd=>some ((.bA:D),d)).bind λf=>(aB tab bI 2 c.1).bind λg=>(Y tab f.2 iZ g).bind λg=>(fS .not g).bind λg=>(W g false (aB tab bI 1 c.1)).bind λc=>(W g false (Y tab f.2 U c)).bind λc=>(W g false (some e)).bind λj=>(W g false (O tab .neq U c j)).bind λc=>(cV g (.bool true) c).bind λc=>(W c false (Y tab f.2 aH a.1)).bind λg=>(gQ c false f.2 (R qu [g] f.2)).bind λf=>(W c false (O tab .neq hz f.1 (.int .i64 0))).bind λg=>(cV c (.bool true) g).bind λc=>S c
  ((eD tab aH [] []).bind λc=>((aS tab f.2 aH b.1 c).bind λd=>some ((.bA:D),d)).bind λc=>(Y tab c.2 aH b.1).bind λi=>scope h c.2 (aF [i,.int .i64 0,.int .i64 1]))
  ((Y tab f.2 aH a.1).bind λa=>(O tab .add U e (.int .i64 4)).bind λc=>((aS tab f.2 aH b.1 a).bind λd=>some ((.bA:D),d)).bind λa=>(Y tab a.2 aH b.1).bind λi=>scope h a.2 (aF [i,c,.int .i64 0]))))
theorem Vl(a:D)(h:J):R vm [a] h=Kf a h:=
 er FN
def I7(a b:D)(ds:List D)(c:J):Option bK:=
 (bC tab aP a).bind λd=>(O tab .lss U (Z 1 ds) d).bind λd=>S d
  ((aO tab aP a (Z 1 ds)).bind λa=>(Y tab c cD a).bind λa=>(aO tab aP b (Z 1 ds)).bind λb=>(Y tab c cD b).bind λb=>(O tab .neq cD a b).bind λa=>S a
  (some (.ret,[.bool false,(Z 1 ds),d,a],c))
  ((O tab .add U (Z 1 ds) (.int .i64 1)).bind λb=>some (.aQ,[(Z 0 ds),b,d,a],c)))
  (some ((.ext 0),[(Z 0 ds),(Z 1 ds),d,(Z 3 ds)],c))
def I6(a b:D)(h:J):Option (D × J):=
 (bC tab aP a).bind λc=>(bC tab aP b).bind λd=>(O tab .neq U c d).bind λc=>S c
  (some (aF [.bool false],h))
  (((cA (I7 a b) [.bool false,.int .i64 0,.any,.any] h).bind λa=>some ((bX 0 a.1),[(Z 0 a.2.1),(Z 1 a.2.1),(Z 2 a.2.1),(Z 3 a.2.1)],a.2.2)).bind λa=>cI a.1 (some (aF [.bool true],a.2.2)) λb=>dC b (some (aF [(Z 0 a.2.1)],a.2.2)))
theorem Ur(a b:D)(h:J):R Dj [a,b] h=I6 a b h:=
 er FO
def Be(a:D)(ds:List D)(b:J):Option bK:=
 (aB tab bP 2 a).bind λc=>(Y tab b dO c).bind λc=>(bC tab dO c).bind λc=>(O tab .lss U (Z 1 ds) c).bind λc=>S c
  ((aB tab bP 2 a).bind λd=>(Y tab b dO d).bind λd=>(aO tab dO d (Z 1 ds)).bind λd=>(Y tab b aH d).bind λd=>(gM 11 d).bind λd=>(Y tab b aH d).bind λe=>(R qu [e] b).bind λe=>(O tab .neq hz e.1 (.int .i64 0)).bind λf=>S f
  (some (.ret,[e.1,(Z 1 ds),d,e.1,c,f,(Z 6 ds),(Z 7 ds)],e.2))
  ((aB tab aH 1 d).bind λg=>(aB tab aC 0 g).bind λg=>(Y tab e.2 U g).bind λg=>(aB tab bP 0 a).bind λa=>(Y tab e.2 U a).bind λa=>(O tab .neq U g a).bind λa=>S a
  (some (.ret,[.int .i64 24,(Z 1 ds),d,e.1,c,f,a,(Z 7 ds)],e.2))
  ((aB tab aH 0 d).bind λg=>(Y tab e.2 bH g).bind λg=>(O tab .eql bH g (.str [42])).bind λg=>S g
  (some (.ret,[.int .i64 6,(Z 1 ds),d,e.1,c,f,a,g],e.2))
  ((O tab .add U (Z 1 ds) (.int .i64 1)).bind λh=>some (.aQ,[(Z 0 ds),h,d,e.1,c,f,a,g],e.2)))))
  (some ((.ext 0),[(Z 0 ds),(Z 1 ds),(Z 2 ds),(Z 3 ds),c,(Z 5 ds),(Z 6 ds),(Z 7 ds)],b))
def Bd(a:D)(h:J):Option (D × J):=
 (e9 a).bind λa=>(aB tab bP 2 a).bind λb=>(Y tab h dO b).bind λb=>(bC tab dO b).bind λb=>(O tab .gtr U b (.int .i64 40)).bind λb=>S b
  (some (aF [.int .i64 4],h))
  (((cA (Be a) [.int .i64 0,.int .i64 0,.any,.any,.any,.any,.any,.any] h).bind λa=>some ((bX 0 a.1),[(Z 0 a.2.1),(Z 1 a.2.1),(Z 2 a.2.1),(Z 3 a.2.1),(Z 4 a.2.1),(Z 5 a.2.1),(Z 6 a.2.1),(Z 7 a.2.1)],a.2.2)).bind λa=>cI a.1 (some (aF [.int .i64 0],a.2.2)) λb=>dC b (some (aF [(Z 0 a.2.1)],a.2.2)))
theorem Ni(a:D)(h:J):R qw [a] h=Bd a h:=
 er FP
def JH(a b c:D)(h:J):Option (D × J):=
 (e9 a).bind λa=>(aB tab aX 0 a).bind λd=>(Y tab h dV d).bind λd=>(R yj [d,b,c] h).bind λb=>(cT 0 b.1).bind λc=>(cT 1 b.1).bind λd=>S d
  ((aB tab aX 0 a).bind λa=>(Y tab b.2 dV a).bind λa=>(aO tab dV a c).bind λa=>(aB tab eO 2 a).bind λa=>(Y tab b.2 U a).bind λa=>some (aF [a],b.2))
  (some (aF [.int .i64 0],b.2))
theorem UU(a b c:D)(h:J):R Dw [a,b,c] h=JH a b c h:=
 er FQ
def IQ(a:D)(b c:D × J)(d:D)(ds:List D)(e:J):Option bK:=
 (bC tab bU d).bind λf=>(O tab .lss U (Z 1 ds) f).bind λf=>S f
  ((aO tab bU d (Z 1 ds)).bind λg=>(aB tab dD 0 g).bind λg=>(Y tab e U g).bind λg=>(O tab .eql U g a).bind λg=>S g
  ((eN tab bU true false false [d,(Z 1 ds)]).bind λd=>(dB tab e bU bU (.aA) d).bind λd=>(aB tab aH 1 b.1).bind λh=>(aB tab aC 2 h).bind λh=>((aS tab d.2 U h a).bind λa=>some ((.bA:D),a)).bind λh=>(aB tab aH 1 b.1).bind λi=>(aB tab aC 4 i).bind λi=>((aS tab h.2 bU i d.1).bind λa=>some ((.bA:D),a)).bind λd=>(Y tab d.2 aH b.1).bind λb=>((aS tab d.2 aH c.1 b).bind λa=>some ((.bA:D),a)).bind λa=>some (.ret,[.bool true,(Z 1 ds),f,g],a.2))
  ((O tab .add U (Z 1 ds) (.int .i64 1)).bind λa=>some (.aQ,[(Z 0 ds),a,f,g],e)))
  (some ((.ext 0),[(Z 0 ds),(Z 1 ds),f,(Z 3 ds)],e))
def IP(a b:D)(h:J):Option (D × J):=
 (kV aH 11 h a).bind λa=>(some ((.ptr a.2.length 0 0:D),aG a.2 aH 11 [[.str [],.int .i64 0,.int .i64 0,.int .i64 0,.int .i64 0,.aA,.int .i64 0,.int .i64 0,.str [],.str [],.aA]])).bind λc=>(aB tab aH 1 a.1).bind λd=>(aB tab aC 4 d).bind λd=>(Y tab c.2 bU d).bind λd=>((cA (IQ b a c d) [.bool false,.int .i64 1,.any,.any] c.2).bind λa=>some ((bX 0 a.1),[(Z 0 a.2.1),(Z 1 a.2.1),(Z 2 a.2.1),(Z 3 a.2.1)],a.2.2)).bind λa=>cI a.1 ((eD tab aH [] []).bind λb=>((aS tab a.2.2 aH c.1 b).bind λb=>some ((.bA:D),b)).bind λb=>(Y tab b.2 aH c.1).bind λd=>scope h b.2 (aF [d,.bool false])) λb=>dC b ((Y tab a.2.2 aH c.1).bind λd=>scope h a.2.2 (aF [d,(Z 0 a.2.1)]))
theorem Ua(a b:D)(h:J):R x3 [a,b] h=IP a b h:=
 er FR
def KH(a b:D)(h:J):Option (D × J):=
 (e9 b).bind λb=>(aB tab eO 0 b).bind λc=>(Y tab h U c).bind λc=>(aB tab eO 1 b).bind λd=>(Y tab h U d).bind λd=>(R yj [a,c,d] h).bind λc=>(cT 0 c.1).bind λd=>(cT 1 c.1).bind λe=>(eN tab dV false true false [a,d]).bind λf=>(dB tab c.2 dV dV (.aA) f).bind λc=>(Y tab c.2 eO b).bind λb=>(dL tab dV 1 [0] [b]).bind λb=>(dB tab c.2 dV dV c.1 b).bind λb=>(S e
  ((O tab .add U d (.int .i64 1)).bind λc=>some (.aQ,[c],b.2))
  (some (.aQ,[d],b.2))).bind λc=>cI c.1 ((eN tab dV true false false [a,(Z 0 c.2.1)]).bind λa=>(dB tab c.2.2 dV dV b.1 a).bind λa=>scope h a.2 (aF [a.1])) λa=>dC a (scope h c.2.2 (aF [.aA]))
theorem VF(a b:D)(h:J):R vt [a,b] h=KH a b h:=
 er FT
def uy(a b:D)(h:J):Option (D × J):=
 (e9 a).bind λa=>(e9 b).bind λb=>(aB tab aC 5 a).bind λc=>(Y tab h U c).bind λc=>(aB tab aC 5 b).bind λd=>(Y tab h U d).bind λd=>(O tab .neq U c d).bind λc=>S c
  ((aB tab aC 5 a).bind λc=>(Y tab h U c).bind λc=>(aB tab aC 5 b).bind λd=>(Y tab h U d).bind λd=>(O tab .lss U c d).bind λc=>some (aF [c],h))
  ((aB tab aC 0 a).bind λc=>(Y tab h U c).bind λc=>(aB tab aC 0 b).bind λd=>(Y tab h U d).bind λd=>(O tab .neq U c d).bind λc=>S c
  ((aB tab aC 0 a).bind λc=>(Y tab h U c).bind λc=>(aB tab aC 0 b).bind λd=>(Y tab h U d).bind λd=>(O tab .lss U c d).bind λc=>some (aF [c],h))
  ((aB tab aC 1 a).bind λc=>(Y tab h U c).bind λc=>(aB tab aC 1 b).bind λd=>(Y tab h U d).bind λd=>(O tab .neq U c d).bind λc=>S c
  ((aB tab aC 1 a).bind λc=>(Y tab h U c).bind λc=>(aB tab aC 1 b).bind λd=>(Y tab h U d).bind λd=>(O tab .lss U c d).bind λc=>some (aF [c],h))
  ((aB tab aC 2 a).bind λa=>(Y tab h U a).bind λa=>(aB tab aC 2 b).bind λb=>(Y tab h U b).bind λb=>(O tab .lss U a b).bind λa=>some (aF [a],h))))
theorem VV(a b:D)(h:J):R DR [a,b] h=uy a b h:=
 er FU
def K7(a b:D)(h:J):Option (D × J):=
 (e9 a).bind λa=>(e9 b).bind λb=>(aB tab aH 1 a).bind λc=>(Y tab h aC c).bind λd=>(aB tab aH 1 b).bind λe=>(Y tab h aC e).bind λf=>(some ((.ptr h.length 0 0:D),aG h aC 10 [[.int .i64 0,.int .i64 0,.int .i64 0,.int .i64 0,.aA,.int .i64 0,.int .i64 0,.str [],.str [],.aA]])).bind λg=>(some (.any:D)).bind λi=>((aS tab g.2 aC g.1 d).bind λi=>some ((.bA:D),i)).bind λj=>dY (Y tab g.2 aC c=some d)
 (dY (Y tab g.2 aC e=some f)
 (dY (Y tab j.2 aC e=some f)
 (((aS tab (aG j.2 aC 10 [[.int .i64 0,.int .i64 0,.int .i64 0,.int .i64 0,.aA,.int .i64 0,.int .i64 0,.str [],.str [],.aA]]) aC (.ptr j.2.length 0 0) f).bind λi=>some ((.bA:D),i)).bind λc=>(aB tab aH 0 a).bind λa=>(Y tab c.2 bH a).bind λa=>(aB tab aH 0 b).bind λb=>(Y tab c.2 bH b).bind λb=>(O tab .eql bH a b).bind λa=>(W a true (aB tab aC 0 g.1)).bind λb=>(W a true (Y tab c.2 U b)).bind λb=>(W a true (aB tab aC 0 (.ptr j.2.length 0 0))).bind λd=>(W a true (Y tab c.2 U d)).bind λd=>(W a true (O tab .eql U b d)).bind λb=>(cV a b (.bool false)).bind λa=>(W a true (aB tab aC 1 g.1)).bind λb=>(W a true (Y tab c.2 U b)).bind λb=>(W a true (aB tab aC 1 (.ptr j.2.length 0 0))).bind λd=>(W a true (Y tab c.2 U d)).bind λd=>(W a true (O tab .eql U b d)).bind λb=>(cV a b (.bool false)).bind λa=>(W a true (aB tab aC 2 g.1)).bind λb=>(W a true (Y tab c.2 U b)).bind λb=>(W a true (aB tab aC 2 (.ptr j.2.length 0 0))).bind λd=>(W a true (Y tab c.2 U d)).bind λd=>(W a true (O tab .eql U b d)).bind λb=>(cV a b (.bool false)).bind λa=>(W a true (aB tab aC 3 g.1)).bind λb=>(W a true (Y tab c.2 U b)).bind λb=>(W a true (aB tab aC 3 (.ptr j.2.length 0 0))).bind λd=>(W a true (Y tab c.2 U d)).bind λd=>(W a true (O tab .eql U b d)).bind λb=>(cV a b (.bool false)).bind λa=>(W a true (aB tab aC 5 g.1)).bind λb=>(W a true (Y tab c.2 U b)).bind λb=>(W a true (aB tab aC 5 (.ptr j.2.length 0 0))).bind λd=>(W a true (Y tab c.2 U d)).bind λd=>(W a true (O tab .eql U b d)).bind λb=>(cV a b (.bool false)).bind λa=>(W a true (aB tab aC 6 g.1)).bind λb=>(W a true (Y tab c.2 U b)).bind λb=>(W a true (aB tab aC 6 (.ptr j.2.length 0 0))).bind λd=>(W a true (Y tab c.2 U d)).bind λd=>(W a true (O tab .eql U b d)).bind λb=>(cV a b (.bool false)).bind λa=>(W a true (aB tab aC 7 g.1)).bind λb=>(W a true (Y tab c.2 bH b)).bind λb=>(W a true (aB tab aC 7 (.ptr j.2.length 0 0))).bind λd=>(W a true (Y tab c.2 bH d)).bind λd=>(W a true (O tab .eql bH b d)).bind λb=>(cV a b (.bool false)).bind λa=>(W a true (aB tab aC 8 g.1)).bind λb=>(W a true (Y tab c.2 bH b)).bind λb=>(W a true (aB tab aC 8 (.ptr j.2.length 0 0))).bind λd=>(W a true (Y tab c.2 bH d)).bind λd=>(W a true (O tab .eql bH b d)).bind λb=>(cV a b (.bool false)).bind λa=>(W a true (aB tab aC 4 g.1)).bind λb=>(W a true (Y tab c.2 bU b)).bind λb=>(W a true (aB tab aC 4 (.ptr j.2.length 0 0))).bind λd=>(W a true (Y tab c.2 bU d)).bind λd=>(gQ a true c.2 (R DU [b,d] c.2)).bind λb=>(cV a b.1 (.bool false)).bind λa=>(W a true (aB tab aC 9 g.1)).bind λc=>(W a true (Y tab b.2 bQ c)).bind λc=>(W a true (aB tab aC 9 (.ptr j.2.length 0 0))).bind λd=>(W a true (Y tab b.2 bQ d)).bind λd=>(gQ a true b.2 (R yK [c,d] b.2)).bind λb=>(cV a b.1 (.bool false)).bind λa=>scope h b.2 (aF [a]))))
theorem VT(a b:D)(h:J):R DQ [a,b] h=K7 a b h:=
 er FV
def AQ(a b:D)(h:J):Option (D × J):=
 (O tab .lss U b (.int .i64 0)).bind λc=>(S c
  (((none:Option D)).bind λc=>((none:Option D)).bind λc=>some (.aQ,([]:List D),h))
  (some (.aQ,([]:List D),h))).bind λc=>cI c.1 ((uT tab aP a).bind λd=>(bC tab aP a).bind λe=>(O tab .sub U d e).bind λd=>(O tab .sub U b d).bind λb=>(O tab .gtr U b (.int .i64 0)).bind λd=>(S d
  ((uT tab aP a).bind λd=>(eN tab aP false true false [a,d]).bind λd=>(dB tab c.2.2 aP U d b).bind λb=>(bC tab aP a).bind λd=>(eN tab aP false true false [b.1,d]).bind λd=>some (.aQ,[d],b.2))
  (some (.aQ,[a],c.2.2))).bind λa=>cI a.1 (some (aF [(Z 0 a.2.1)],a.2.2)) λb=>dC b (some (aF [.aA],a.2.2))) λa=>dC a (some (aF [.aA],c.2.2))
theorem Uw(a b:D)(h:J):R Dk [a,b] h=AQ a b h:=
 er FW
def AR(a:List D)(b:J):Option bK:=
 (O tab .lss U (Z 1 a) (.int .i64 8)).bind λc=>S c
  ((O tab .shr fK (Z 0 a) (.int .u64 1)).bind λd=>(O tab .and fK (Z 0 a) (.int .u32 1)).bind λe=>(fS .neg e).bind λe=>(O tab .and fK (.int .u32 3988292384) e).bind λe=>(O tab .xor fK d e).bind λd=>(O tab .add U (Z 1 a) (.int .i64 1)).bind λe=>some (.aQ,[d,e,c],b))
  (some ((.ext 2),[(Z 0 a),(Z 1 a),c],b))
def Jg(a b:D)(ds:List D)(c:J):Option bK:=
 (O tab .lss U (Z 2 ds) b).bind λb=>S b
  ((aO tab aP a (Z 2 ds)).bind λa=>(Y tab c cD a).bind λa=>(dT tab cD fK a).bind λd=>(O tab .xor fK (Z 0 ds) d).bind λd=>((cA (AR) [d,.int .i64 0,(Z 5 ds)] c).bind λd=>some ((bX 2 d.1),[(Z 0 d.2.1),(Z 1 d.2.1),(Z 2 d.2.1)],d.2.2)).bind λd=>cI (bX 1 d.1) ((O tab .add U (Z 2 ds) (.int .i64 1)).bind λe=>some (.aQ,[(Z 0 d.2.1),a,e,b,(Z 1 d.2.1),(Z 2 d.2.1)],d.2.2)) λe=>some (e,[(Z 0 d.2.1),a,(Z 2 ds),b,(Z 1 d.2.1),(Z 2 d.2.1)],d.2.2))
  (some ((.ext 0),[(Z 0 ds),(Z 1 ds),(Z 2 ds),b,(Z 4 ds),(Z 5 ds)],c))
def Jf(a:D)(h:J):Option (D × J):=
 (bC tab aP a).bind λb=>((cA (Jg a b) [.int .u32 4294967295,.any,.int .i64 0,.any,.any,.any] h).bind λa=>some ((bX 0 a.1),[(Z 0 a.2.1),(Z 1 a.2.1),(Z 2 a.2.1),(Z 3 a.2.1),(Z 4 a.2.1),(Z 5 a.2.1)],a.2.2)).bind λa=>cI a.1 ((fS .xor (Z 0 a.2.1)).bind λb=>some (aF [b],a.2.2)) λb=>dC b (some (aF [.int .u32 0],a.2.2))
theorem Ux(a:D)(h:J):R Dl [a] h=Jf a h:=
 er FX
def K9(a:D)(b:D × J)(ds:List D)(c:J):Option bK:=
 (O tab .gtr U (Z 1 ds) (.int .i64 0)).bind λd=>S d
  ((R yL [a] c).bind λe=>(bC tab bH e.1).bind λf=>(O tab .add U f (.int .i64 1)).bind λf=>(R gP [a,.int .i64 2] e.2).bind λa=>(O tab .add U f a.1).bind λf=>(aB tab aC 4 b.1).bind λg=>(Y tab a.2 bU g).bind λg=>(eD tab dD [0,1,2] [(Z 0 ds),f,e.1]).bind λh=>(dL tab bU 1 [0] [h]).bind λh=>(dB tab a.2 bU bU g h).bind λa=>(aB tab aC 4 b.1).bind λb=>((aS tab a.2 bU b a.1).bind λa=>some ((.bA:D),a)).bind λa=>(O tab .add U (Z 0 ds) f).bind λb=>(O tab .sub U (Z 1 ds) (.int .i64 1)).bind λg=>some (.aQ,[b,g,e.1,f,d],a.2))
  (some ((.ext 0),[(Z 0 ds),(Z 1 ds),(Z 2 ds),(Z 3 ds),d],c))
def La(a:D × J)(b:List D)(c:J):Option bK:=
 (aB tab aC 4 a.1).bind λd=>(Y tab c bU d).bind λd=>(bC tab bU d).bind λd=>(O tab .lss U (Z 0 b) d).bind λd=>S d
  ((aB tab aC 4 a.1).bind λa=>(Y tab c bU a).bind λa=>(aO tab bU a (Z 0 b)).bind λa=>(aB tab dD 2 a).bind λa=>((aS tab c bH a (.str [])).bind λa=>some ((.bA:D),a)).bind λa=>(O tab .add U (Z 0 b) (.int .i64 1)).bind λe=>some (.aQ,[e,d],a.2))
  (some ((.ext 2),[(Z 0 b),d],c))
def K8(a b c d:D)(h:J):Option (D × J):=
 (some ((.ptr h.length 0 0:D),aG h aH 11 [[.str [],.int .i64 0,.int .i64 0,.int .i64 0,.int .i64 0,.aA,.int .i64 0,.int .i64 0,.str [],.str [],.aA]])).bind λe=>(eD tab aC [0,1,2] [b,c,d]).bind λb=>(some ((.ptr e.2.length 0 0:D),aG e.2 aC 10 [[.int .i64 0,.int .i64 0,.int .i64 0,.int .i64 0,.aA,.int .i64 0,.int .i64 0,.str [],.str [],.aA]])).bind λc=>((aS tab c.2 aC c.1 b).bind λb=>some ((.bA:D),b)).bind λf=>(R gP [a,.int .i64 3] f.2).bind λf=>(O tab .add U (.int .i64 1) f.1).bind λg=>((cA (K9 a c) [d,g,.any,.any,.any] f.2).bind λd=>some ((bX 0 d.1),[(Z 0 d.2.1),(Z 1 d.2.1),(Z 2 d.2.1),(Z 3 d.2.1),(Z 4 d.2.1)],d.2.2)).bind λd=>cI d.1 ((aB tab aC 3 c.1).bind λf=>((aS tab d.2.2 U f (Z 0 d.2.1)).bind λb=>some ((.bA:D),b)).bind λf=>(R gP [a,.int .i64 5] f.2).bind λf=>(O tab .eql U f.1 (.int .i64 4)).bind λg=>S g
  (((cA (La c) [.int .i64 0,.any] f.2).bind λg=>some ((bX 2 g.1),[(Z 0 g.2.1),(Z 1 g.2.1)],g.2.2)).bind λg=>cI g.1 ((dL tab hF 3 [0,1,2] [.str [115,97,109,112,108,101],.str [100,114,111,112],.str [116,111,111,45,108,111,110,103]]).bind λi=>(R gP [a,.int .i64 3] g.2.2).bind λj=>(aO tab hF i j.1).bind λi=>(Y tab j.2 bH i).bind λi=>(Y tab j.2 aC c.1).bind λk=>(eD tab aH [0,1] [i,k]).bind λi=>dY (Y tab g.2.2 aC c.1=some k)
 (((aS tab j.2 aH e.1 i).bind λb=>some ((.bA:D),b)).bind λi=>(Y tab i.2 aH e.1).bind λj=>scope h i.2 (aF [j]))) λi=>cI i ((R yD [a] g.2.2).bind λi=>(R yM [a] i.2).bind λk=>(aB tab aC 5 c.1).bind λl=>((aS tab k.2 U l i.1).bind λb=>some ((.bA:D),b)).bind λi=>(aB tab aC 6 c.1).bind λl=>((aS tab i.2 U l k.1).bind λb=>some ((.bA:D),b)).bind λi=>(dL tab hF 4 [0,1,2,3] [.str [116,49],.str [116,50],.str [],.str [49,58,50,58,48]]).bind λk=>(R gP [a,.int .i64 4] i.2).bind λi=>(aO tab hF k i.1).bind λk=>(Y tab i.2 bH k).bind λl=>(dL tab hF 2 [0,1] [.str [109,97,105,110],.str [100,101,98,117,103]]).bind λm=>(R gP [a,.int .i64 2] i.2).bind λi=>(aO tab hF m i.1).bind λm=>(Y tab i.2 bH m).bind λn=>(aB tab aC 7 c.1).bind λo=>((aS tab i.2 bH o l).bind λb=>some ((.bA:D),b)).bind λo=>dY (Y tab i.2 bH k=some l)
 (dY (Y tab o.2 bH m=some n)
 ((aB tab aC 8 c.1).bind λi=>((aS tab o.2 bH i n).bind λb=>some ((.bA:D),b)).bind λi=>(R vz [a] i.2).bind λi=>(aB tab aC 9 c.1).bind λk=>((aS tab i.2 bQ k i.1).bind λb=>some ((.bA:D),b)).bind λi=>(Y tab i.2 aC c.1).bind λk=>(eD tab aH [1] [k]).bind λk=>((aS tab i.2 aH e.1 k).bind λb=>some ((.bA:D),b)).bind λi=>(Y tab i.2 aH e.1).bind λj=>scope h i.2 (aF [j])))) λi=>dC i ((Y tab g.2.2 aH e.1).bind λj=>scope h g.2.2 (aF [j])))
  ((R yD [a] f.2).bind λf=>(R yM [a] f.2).bind λg=>(aB tab aC 5 c.1).bind λi=>((aS tab g.2 U i f.1).bind λb=>some ((.bA:D),b)).bind λf=>(aB tab aC 6 c.1).bind λi=>((aS tab f.2 U i g.1).bind λb=>some ((.bA:D),b)).bind λf=>(dL tab hF 4 [0,1,2,3] [.str [116,49],.str [116,50],.str [],.str [49,58,50,58,48]]).bind λg=>(R gP [a,.int .i64 4] f.2).bind λf=>(aO tab hF g f.1).bind λg=>(Y tab f.2 bH g).bind λi=>(dL tab hF 2 [0,1] [.str [109,97,105,110],.str [100,101,98,117,103]]).bind λk=>(R gP [a,.int .i64 2] f.2).bind λf=>(aO tab hF k f.1).bind λk=>(Y tab f.2 bH k).bind λl=>(aB tab aC 7 c.1).bind λm=>((aS tab f.2 bH m i).bind λb=>some ((.bA:D),b)).bind λm=>dY (Y tab f.2 bH g=some i)
 (dY (Y tab m.2 bH k=some l)
 ((aB tab aC 8 c.1).bind λf=>((aS tab m.2 bH f l).bind λb=>some ((.bA:D),b)).bind λf=>(R vz [a] f.2).bind λa=>(aB tab aC 9 c.1).bind λf=>((aS tab a.2 bQ f a.1).bind λb=>some ((.bA:D),b)).bind λa=>(Y tab a.2 aC c.1).bind λc=>(eD tab aH [1] [c]).bind λc=>((aS tab a.2 aH e.1 c).bind λb=>some ((.bA:D),b)).bind λa=>(Y tab a.2 aH e.1).bind λj=>scope h a.2 (aF [j]))))) λa=>dC a ((Y tab d.2.2 aH e.1).bind λj=>scope h d.2.2 (aF [j]))
theorem VU(a b c d:D)(h:J):R yI [a,b,c,d] h=K8 a b c d h:=
 er FY
def J6(a:D)(h:J):Option (D × J):=
 (e9 a).bind λa=>(Y tab h aH a).bind λb=>(R qu [b] h).bind λb=>(O tab .neq hz b.1 (.int .i64 0)).bind λc=>S c
  (scope h b.2 (aF [.aA,b.1]))
  ((Y tab b.2 aH a).bind λa=>(R yr [a] b.2).bind λa=>(bC tab aP a.1).bind λb=>(O tab .add U b (.int .i64 4)).bind λb=>(dT tab U eG b).bind λb=>(R mi [.aA,b,.int .i64 4] a.2).bind λb=>(dB tab b.2 aP aP b.1 a.1).bind λa=>(R vk [a.1] a.2).bind λb=>(R mi [a.1,b.1,.int .i64 4] b.2).bind λa=>scope h a.2 (aF [a.1,.int .i64 0]))
theorem Vd(a:D)(h:J):R yq [a] h=J6 a h:=
 er FZ
def Kk(a b:D)(ds:List D)(c:J):Option bK:=
 (O tab .lss U (Z 2 ds) b).bind λb=>S b
  ((aO tab aP a (Z 2 ds)).bind λa=>(Y tab c cD a).bind λa=>(O tab .shl eG (Z 0 ds) (.int .u64 8)).bind λd=>(dT tab cD eG a).bind λe=>(O tab .or eG d e).bind λd=>(O tab .add U (Z 2 ds) (.int .i64 1)).bind λe=>some (.aQ,[d,a,e,b],c))
  (some ((.ext 0),[(Z 0 ds),(Z 1 ds),(Z 2 ds),b],c))
def Kj(a:D)(h:J):Option (D × J):=
 (bC tab aP a).bind λb=>((cA (Kk a b) [.int .u64 0,.any,.int .i64 0,.any] h).bind λa=>some ((bX 0 a.1),[(Z 0 a.2.1),(Z 1 a.2.1),(Z 2 a.2.1),(Z 3 a.2.1)],a.2.2)).bind λa=>cI a.1 (some (aF [(Z 0 a.2.1)],a.2.2)) λb=>dC b (some (aF [.int .u64 0],a.2.2))
theorem Vo(a:D)(h:J):R qx [a] h=Kj a h:=
 er F0
end
end Go.Proofs.YtkcdpfogoepamaaGreatDoor
