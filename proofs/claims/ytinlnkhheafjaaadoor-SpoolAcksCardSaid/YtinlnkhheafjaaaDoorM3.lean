/- Part 3 of the texts that the theorem needs: an interpreter on data, proved sound; the functions on data; laws about them. -/
import Derived.Test.YtinlnkhheafjaaaDoorM2
import Derived.Lib.Bytealg
import Derived.Laws.Externs
import Derived.Test.YtinlnkhheafjaaaDoorM1
import Derived.ProofKit
import Derived.OpenShut
import Derived.Below
import Derived.Deep.Slices
import Derived.MakeChecks
import Derived.FnData
import Derived.ChangeArms
import Derived.Maps.RangeWalk
import Derived.Test.YtinlnkhheafjaaaDoorChecked
import Derived.KernelRfl
set_option linter.unusedSimpArgs false
set_option linter.unusedVariables false
set_option linter.unnecessarySimpa false
set_option maxHeartbeats 2000000
set_option maxRecDepth 100000
namespace Go.Eng
abbrev kE:=@Classical.choose_spec
end Go.Eng
namespace Go.Pi
open Go.Eng
noncomputable def eT(X:Cx)(F:FuncId→Option fc):Nat→cE
 |0,_,_,_=>none
 | n+1,f,args,h=>match F f with
  |some fi=>kl X (eT X F n) (fI n) fi args h
  |none=>X.xt f args h
section
variable {P:Program} {X:Cx} {F:FuncId→Option fc}
theorem Lt(n:Nat):oj (fI n):=λ_ _ _ _ a=>⟨n,a⟩
theorem AQ(c:cC P X.T)(i:P.follows .mixedOrders=true)(j:fV P X X.xt)(b:∀f fi,F f=some fi→bM P f fi):∀n,fV P X (eT X F n)
 |0=>λf args h d h' a=>by cases a
 | n+1=>λf args h d h' a=>by
  simp only[eT]at a;split at a
  ·rename_i fi e;exact λg vs hi k l =>.inl ⟨(b f fi e).enter _ _,JJ c i (AQ c i j b n) (Lt n) (b f fi e) a hi k l⟩
  ·exact j f args h d h' a
def Le{b:Type}(x y:Option b):Prop:=∀a,x=some a→y=some a
theorem Le.refl{b:Type}(x:Option b):Le x x:=λ_ a=>a
theorem Le.trans{c:Type}{x y z:Option c}(h:Le x y)(k:Le y z):Le x z:=λa b=>k a (h a b)
theorem Le.bind{b j:Type}{x y:Option b}{f g:b→Option j}(h:Le x y)(k:∀a,Le (f a) (g a)):Le (x.bind f) (y.bind g):=λi e=>by
 obtain⟨a,c,d⟩:=gG.1 e;rw[h a c];exact k a i d
def js(c d:cE):Prop:=∀a args b,Le (c a args b) (d a args b)
def rR(l e:iT):Prop:=∀(c d:List D→Z→Option bT),(∀a b,Le (c a b) (d a b))→∀a b,Le (l c a b) (e d a b)
theorem F7{c b:cE}(d:js c b)(f:FuncId)(args:List D)(h:Z):Le (kf c f args h) (kf b f args h):=λj a=>by
 unfold kf at a ⊢;split at a
 ·rename_i g i e;rw[d _ _ _ _ e];exact a
 ·cases a
theorem Ge{c b:cE}(a:js c b)(d:Nat)(f:FuncId)(args:List D)(h:Z):Le (calls d c f args h) (calls d b f args h):=by
 unfold calls;split
 ·exact a _ _ _
 ·exact F7 a _ _ _
 ·exact a _ _ _
theorem Ga{T:bD}{c a:cE}(b:js c a)(m:String)(ds:List D)(h:Z):Le (gk T c m ds h) (gk T a m ds h):=by
 unfold gk;split
 ·split
  ·exact b _ _ _
  ·exact Le.refl _
 ·exact Le.refl _
theorem AR{T:bD}{c a:cE}(b:js c a)(d:Nat)(o:Op)(ds:List D)(h:Z):Le (jD T c d o ds h) (jD T a d o ds h):=by
 unfold jD;simp only[v7];split
 ·split
  ·split
   ·exact Ge b _ _ _ _
   ·exact Le.refl _
  ·exact Ga b _ _ _
  ·exact Le.refl _
 ·exact Le.refl _
theorem JW{g:D}{b:Bool}{h:Z}{x y:Option (D × Z)}(c:Le x y):Le (e7 g b h x) (e7 g b h y):=λd a=>by
 unfold e7 at a ⊢;split at a
 ·split at a
  ·exact c d a
  ·exact a
 ·exact a
 ·cases a
theorem MT{c b:cE}(d:js c b){fz a:List Nat}{l:List Oper}{o:Oper}{e:DE}{h:Z}:Le (fS X c fz a l o e h) (fS X b fz a l o e h):=by
 unfold fS;split
 ·exact Le.refl _
 ·split
  ·split
   ·exact Le.refl _
   ·exact Le.refl _
   ·exact Le.refl _
   ·exact AR d _ _ _ _
   ·exact Le.refl _
  ·split
   ·exact Le.refl _
   ·split
    ·exact Le.refl _
    ·split
     ·exact Le.refl _
     ·exact Le.refl _
     ·exact Le.refl _
     ·exact JW (AR d _ _ _ _)
     ·exact Le.refl _
theorem DH{R:Type}{f:Nat}{dst:Option Nat}{d:D}{e:DE}{h:Z}{a b:DE→Z→Option R}(c:∀e h,Le (a e h) (b e h)):Le (gJ f dst d e h a) (gJ f dst d e h b):=by
 unfold gJ;split
 ·exact c _ _
 ·split
  ·exact c _ _
  ·exact Le.refl _
theorem xO{R:Type}{c f:cE}(j:js c f){g:Nat}{fz d:List Nat}{l:List Oper}{o:Oper}{e:DE}{h:Z}{a b:DE→Z→Option R}(i:∀e h,Le (a e h) (b e h)):Le (jN X c g fz d l o e h a) (jN X f g fz d l o e h b):=by
 rw[tn,tn];exact(MT j).bind λk=>DH i
theorem tD{R:Type}{c i:cE}(f:js c i){j:Nat}{fz g:List Nat}{l:List Oper}:∀{k:List Oper} {e:DE} {h:Z} {b d:DE→Z→Option R},(∀e h,Le (b e h) (d e h))→Le (gv X c j fz g l k e h b) (gv X i j fz g l k e h d)
 |[],e,h,b,d,a=>a e h
 |[o],e,h,b,d,a=>xO f a
 | o::p::r,e,h,b,d,a=>by
  simp only[gv];split
  ·split
   ·exact(Le.refl _).bind λm=>DH λe h=>tD f a
   ·exact Le.refl _
  ·exact xO f λe h=>tD f a
theorem Ec{R:Type}{c i:cE}(j:js c i){k:Nat}{fz g:List Nat}{l:List Oper}:∀{m:List Oper} {e:DE} {h:Z} {a:List Z} {b d:DE→Z→List Z→Option R},(∀e h a,Le (b e h a) (d e h a))→Le (lg X c k fz g l m e h a b) (lg X i k fz g l m e h a d)
 |[],e,h,a,b,d,f=>f e h a
 |o::r,e,h,a,b,d,f=>xO j λe h=>Ec j f
theorem AX{R:Type}{l:List Oper}{e:DE}{b:List Z}{x y:Option R}(h:Le x y):∀{ps:List (Nat × Nat)},Le (kg X l e b ps x) (kg X l e b ps y)
 |[]=>h
 | (i, k)::r=>λz a=>by
  simp only[kg]at a ⊢;split at a
  ·unfold eL at a ⊢;split at a
   ·rename_i c;rw[bE c];exact AX h z a
   ·cases a
  ·cases a
theorem yh{R:Type}{fz:List Nat}:∀{d:List Oper} {e:DE} {h:Z} {a b:DE→Z→Option R},(∀e h,Le (a e h) (b e h))→Le (jm X fz d e h a) (jm X fz d e h b)
 |[],e,h,a,b,c=>c e h
 | o::r,e,h,a,b,c=>by
  unfold jm;split
  ·split
   ·exact yh c
   ·exact Le.refl _
  ·exact yh c
theorem G9{R:Type}{c f:cE}(g:js c f){i:Nat}{fz d:List Nat}{m:Nat}{l:List Oper}{e:DE}{h:Z}{a b:DE→Z→Option R}(j:∀e h,Le (a e h) (b e h)):Le (kS X c i fz d m l e h a) (kS X f i fz d m l e h b):=by
 unfold kS;split
 ·exact Le.refl _
 ·exact Ec g λe h k=>AX (yh λe h=>tD g j)
theorem A8{R:Type}{d:D}{x a y b:Option R}(c:Le x a)(e:Le y b):Le (aK d x y) (aK d a b):=by
 unfold aK;split
 ·exact c
 ·exact e
 ·exact Le.refl _
theorem F5{c m:cE}(n:js c m){o p:iT}(t:rR o p){l:mP}:∀(k:Code) {e:DE} {h:Z} {R:Type} {b d:Ex→DE→Z→Option R},(∀x e h,Le (b x e h) (d x e h))→Le (cK X c o l k e h R b) (cK X m p l k e h R d):=by
 intro k
 induction k with
 |skip=>intro e h R b d a;exact a _ _ _
 |label v=>intro e h R b d a;exact a _ _ _
 |ret=>intro e h R b d a;exact a _ _ _
 |exit u=>intro e h R b d a;exact a _ _ _
 |goto v=>intro e h R b d a;exact Le.refl _
 |scope f g=>intro e h R b d a;exact Le.refl _
 |refuse F=>intro e h R b d a;exact Le.refl _
 |rangeFunc z D w f A B=>intro e h R b d a;exact Le.refl _
 | region id C s =>
  intro e h R b d a;simp only[cK];cases s with
  |false=>exact tD n λe h=>a _ _ _
  |true=>exact G9 n λe h=>a _ _ _
 | seq r f i j =>
  intro e h R b d a;simp only[cK];refine i λx e h=>?_
  cases x with
  |aO=>exact j a
  |ext u=>exact a _ _ _
  |ret=>exact a _ _ _
 | cond E r f i j =>
  intro e h R b d a;simp only[cK];split
  ·exact Le.refl _
  ·split
   ·exact(A8 (i λ_ _ _=>Le.refl _) (j λ_ _ _=>Le.refl _)).bind λq=>a _ _ _
   ·exact A8 (i a) (j a)
 | block id f g =>
  intro e h R b d a;simp only[cK];split
  ·exact(g λ_ _ _=>Le.refl _).bind λq=>a _ _ _
  ·exact g λx e h=>a _ _ _
 | loop f g =>
  intro e h R b d a;simp only[cK];exact(t _ _ (λy h=>g λ_ _ _=>Le.refl _) _ _).bind λq=>a _ _ _
theorem qV:∀{n m:Nat},n≤m→rR (fI n) (fI m)
 |0,m,_=>λb c a ds h r e=>by cases e
 |n+1,0,h=>by omega
 | n+1,m+1,h=>λb c a ds d=>by
  simp only[fI];refine(a ds d).bind λr=>?_
  split
  ·exact qV (by omega) b c a _ _
  ·exact Le.refl _
theorem B3{c a:cE}(e:js c a){b d:iT}(f:rR b d){fi:fc}{args:List D}{h:Z}:Le (kl X c b fi args h) (kl X a d fi args h):=by
 unfold kl;split
 ·exact F5 e f _ λ_ _ _=>Le.refl _
 ·exact Le.refl _
theorem sb:∀{n m:Nat},n≤m→js (eT X F n) (eT X F m)
 |0,m,_=>λf args h r a=>by cases a
 |n+1,0,h=>by omega
 | n+1,m+1,h=>λf args b=>by
  simp only[eT];split
  ·exact B3 (sb (by omega)) (qV (by omega))
  ·exact Le.refl _
open Classical in
noncomputable def run(X:Cx)(F:FuncId→Option fc):cE:=λa args b=>if c:∃d e,eT X F d a args b=some e then some (Classical.choose (kE c))else none
open Classical in
noncomputable def cH:iT:=λa b c=>if d:∃e f,fI e a b c=some f then some (Classical.choose (kE d))else none
theorem pw{f:FuncId}{args:List D}{h:Z}{r:D × Z}:run X F f args h=some r↔∃n,eT X F n f args h=some r:=by
 unfold run;constructor
 ·intro b;split at b
  ·rename_i a;injection b with b;exact⟨_,by rw[kE (kE a),b]⟩
  ·cases b
 ·rintro⟨n,d⟩;have a:∃n r,eT X F n f args h=some r:=⟨n,r,d⟩
  rw[dif_pos a];have e:=kE (kE a);have g:=sb (Nat.le_max_left (Classical.choose a) n) f args h _ e;have c:=sb (Nat.le_max_right (Classical.choose a) n) f args h _ d;rw[g]at c;exact c
theorem mz{a:List D→Z→Option bT}{ds:List D}{h:Z}{r:bT}:cH a ds h=some r↔∃n,fI n a ds h=some r:=by
 unfold cH;constructor
 ·intro c;split at c
  ·rename_i b;injection c with c;exact⟨_,by rw[kE (kE b),c]⟩
  ·cases c
 ·rintro⟨n,e⟩;have b:∃n r,fI n a ds h=some r:=⟨n,r,e⟩
  rw[dif_pos b];have f:=kE (kE b);have g:=qV (Nat.le_max_left (Classical.choose b) n) a a (λ_ _=>Le.refl _) ds h _ f;have d:=qV (Nat.le_max_right (Classical.choose b) n) a a (λ_ _=>Le.refl _) ds h _ e;rw[g]at d;exact d
theorem Dw{c:Type}{x y:Option c}(b:Le x y)(h2:Le y x):x=y:=by
 cases x with
 |some a=>exact(b a rfl).symm
 | none =>
  cases y with
  |none=>rfl
  |some a=>exact h2 a rfl
theorem iM(g:List D→Z→Option bT)(ds:List D)(h:Z):cH g ds h=(g ds h).bind λr=>match r.1 with
  |.aO=>cH g r.2.1 r.2.2
  |x=>some (x,r.2.1,r.2.2):=by
 refine Dw (λr i=>?_) (λr i=>?_)
 ·obtain⟨e,d⟩:=mz.1 i;cases e with
  |zero=>cases d
  | succ e =>
   simp only[fI]at d;obtain⟨j,f,a⟩:=gG.1 d;rw[f,gy];split at a
   ·rename_i b;rw[b];exact mz.2 ⟨e,a⟩
   ·rename_i b;cases c:j.1 with
    |aO=>exact absurd c b
    |ext k=>rw[c]at a;exact a
    |ret=>rw[c]at a;exact a
 ·obtain⟨j,f,a⟩:=gG.1 i;split at a
  ·rename_i b;obtain⟨e,d⟩:=mz.1 a;refine mz.2 ⟨e+1,?_⟩;simp only[fI,f,gy,b];exact d
  ·rename_i b;refine mz.2 ⟨1,?_⟩;simp only[fI,f,gy];cases c:j.1 with
   |aO=>exact absurd c b
   |ext k=>rw[c]at a;exact a
   |ret=>rw[c]at a;exact a
def bU{c:Type}(x:Option c)(xs:Nat→Option c):Prop:=∀b,x=some b→∃d,∀a,d≤a→xs a=some b
theorem bU.const{b:Type}(x:Option b):bU x λ_=>x:=λc a=>⟨0,λ_ _=>a⟩
theorem bU.bind{c d:Type}{x:Option c}{xs:Nat→Option c}{f:c→Option d}{fs:Nat→c→Option d}(h:bU x xs)(k:∀a,bU (f a) λn=>fs n a):bU (x.bind f) λn=>(xs n).bind (fs n):=λo l=>by
 obtain⟨a,e,g⟩:=gG.1 l;obtain⟨n,j⟩:=h a e;obtain⟨m,i⟩:=k a o g;exact⟨max n m,λb p=>by
  show(xs b).bind (fs b)=_;rw[j b (by omega),gy];exact i b (by omega)⟩
theorem tA(f:FuncId)(args:List D)(h:Z):bU (run X F f args h) λn=>eT X F n f args h:=λd c=>by
 obtain⟨n,b⟩:=pw.1 c;exact⟨n,λe a=>sb a f args h d b⟩
theorem F9(f:FuncId)(args:List D)(h:Z):bU (kf (run X F) f args h) λn=>kf (eT X F n) f args h:=λj a=>by
 unfold kf at a;split at a
 ·rename_i g i b;obtain⟨n,d⟩:=tA _ _ _ _ b;exact⟨n,λe c=>by show kf _ _ _ _=_;unfold kf;have:=d e c;simp only at this;rw[this];exact a⟩
 ·cases a
theorem Gg(a:Nat)(f:FuncId)(args:List D)(h:Z):bU (calls a (run X F) f args h) λn=>calls a (eT X F n) f args h:=by
 unfold calls;split
 ·exact tA _ _ _
 ·exact F9 _ _ _
 ·exact tA _ _ _
theorem Gb{T:bD}(m:String)(ds:List D)(h:Z):bU (gk T (run X F) m ds h) λn=>gk T (eT X F n) m ds h:=by
 unfold gk;split
 ·split
  ·exact tA _ _ _
  ·exact bU.const _
 ·exact bU.const _
theorem AU{T:bD}(a:Nat)(o:Op)(ds:List D)(h:Z):bU (jD T (run X F) a o ds h) λn=>jD T (eT X F n) a o ds h:=by
 unfold jD;simp only[v7];split
 ·split
  ·split
   ·exact Gg _ _ _ _
   ·exact bU.const _
  ·exact Gb _ _ _
  ·exact bU.const _
 ·exact bU.const _
theorem JX{g:D}{b:Bool}{h:Z}{x:Option (D × Z)}{xs:Nat→Option (D × Z)}(a:bU x xs):bU (e7 g b h x) λn=>e7 g b h (xs n):=by
 unfold e7;split
 ·split
  ·exact a
  ·exact bU.const _
 ·exact bU.const _
 ·exact bU.const _
theorem MU{fz a:List Nat}{l:List Oper}{o:Oper}{e:DE}{h:Z}:bU (fS X (run X F) fz a l o e h) λn=>fS X (eT X F n) fz a l o e h:=by
 unfold fS;split
 ·exact bU.const _
 ·split
  ·split
   ·exact bU.const _
   ·exact bU.const _
   ·exact bU.const _
   ·exact AU _ _ _ _
   ·exact bU.const _
  ·split
   ·exact bU.const _
   ·split
    ·exact bU.const _
    ·split
     ·exact bU.const _
     ·exact bU.const _
     ·exact bU.const _
     ·exact JX (AU _ _ _ _)
     ·exact bU.const _
section
variable {R:Type}
theorem DI{c:Nat}{dst:Option Nat}{d:D}{e:DE}{h:Z}{a:DE→Z→Option R}{Ks:Nat→DE→Z→Option R}(b:∀e h,bU (a e h) λn=>Ks n e h):bU (gJ c dst d e h a) λn=>gJ c dst d e h (Ks n):=by
 unfold gJ;split
 ·exact b _ _
 ·split
  ·exact b _ _
  ·exact bU.const _
theorem xP{c:Nat}{fz b:List Nat}{l:List Oper}{o:Oper}{e:DE}{h:Z}{a:DE→Z→Option R}{Ks:Nat→DE→Z→Option R}(d:∀e h,bU (a e h) λn=>Ks n e h):bU (jN X (run X F) c fz b l o e h a) λn=>jN X (eT X F n) c fz b l o e h (Ks n):=by
 simp only[tn];exact MU.bind λf=>DI d
theorem tF{d:Nat}{fz c:List Nat}{l:List Oper}:∀{i:List Oper} {e:DE} {h:Z} {b:DE→Z→Option R} {Ks:Nat→DE→Z→Option R},(∀e h,bU (b e h) λn=>Ks n e h)→bU (gv X (run X F) d fz c l i e h b) λn=>gv X (eT X F n) d fz c l i e h (Ks n)
 |[],e,h,b,Ks,a=>a e h
 |[o],e,h,b,Ks,a=>xP a
 | o::p::r,e,h,b,Ks,a=>by
  simp only[gv];split
  ·split
   ·exact(bU.const _).bind λj=>DI (Ks:=λn f g=>gv X (eT X F n) d fz c l r f g (Ks n)) λe h=>tF a
   ·exact bU.const _
  ·exact xP (Ks:=λn f g=>gv X (eT X F n) d fz c l (p::r) f g (Ks n)) λe h=>tF a
theorem Ed{f:Nat}{fz c:List Nat}{l:List Oper}:∀{i:List Oper} {e:DE} {h:Z} {a:List Z} {b:DE→Z→List Z→Option R} {Ks:Nat→DE→Z→List Z→Option R},(∀e h a,bU (b e h a) λn=>Ks n e h a)→bU (lg X (run X F) f fz c l i e h a b) λn=>lg X (eT X F n) f fz c l i e h a (Ks n)
 |[],e,h,a,b,Ks,d=>d e h a
 | o::r,e,h,a,b,Ks,d=>xP (Ks:=λn j g=>lg X (eT X F n) f fz c l r j g (match gn X.T fz o with
  |true=>a++[g]
  |false=>a) (Ks n)) λe h=>Ed d
theorem AZ{l:List Oper}{e:DE}{a:List Z}{x:Option R}{xs:Nat→Option R}(h:bU x xs):∀{ps:List (Nat × Nat)},bU (kg X l e a ps x) λn=>kg X l e a ps (xs n)
 |[]=>h
 | (i,k)::r=>by
  simp only[kg];split
  ·unfold eL;split
   ·exact AZ h
   ·exact bU.const _
  ·exact bU.const _
theorem yi{fz:List Nat}:∀{c:List Oper} {e:DE} {h:Z} {a:DE→Z→Option R} {Ks:Nat→DE→Z→Option R},(∀e h,bU (a e h) λn=>Ks n e h)→bU (jm X fz c e h a) λn=>jm X fz c e h (Ks n)
 |[],e,h,a,Ks,b=>b e h
 | o::r,e,h,a,Ks,b=>by
  unfold jm;split
  ·split
   ·exact yi b
   ·exact bU.const _
  ·exact yi b
theorem Hb{b:Nat}{fz a:List Nat}{m:Nat}{l:List Oper}{e:DE}{h:Z}{f:DE→Z→Option R}{Ks:Nat→DE→Z→Option R}(k:∀e h,bU (f e h) λn=>Ks n e h):bU (kS X (run X F) b fz a m l e h f) λn=>kS X (eT X F n) b fz a m l e h (Ks n):=by
 unfold kS;split
 ·exact bU.const _
 ·exact Ed (Ks:=λn g j i=>kg X l g i (tV X.T fz m l) (jm X fz (l.take m) g j λc d=>gv X (eT X F n) b fz a l (l.drop m) c d (Ks n))) λe h i=>AZ (yi (Ks:=λn c d=>gv X (eT X F n) b fz a l (l.drop m) c d (Ks n)) λe h=>tF k)
theorem A9{d:D}{x y:Option R}{xs ys:Nat→Option R}(a:bU x xs)(b:bU y ys):bU (aK d x y) λn=>aK d (xs n) (ys n):=by
 unfold aK;split
 ·exact a
 ·exact b
 ·exact bU.const _
end
theorem Lx{b:List D→Z→Option bT}{O:Nat→List D→Z→Option bT}(s:∀ds h,bU (b ds h) λn=>O n ds h)(ds:List D)(h:Z):bU (cH b ds h) λn=>fI n (O n) ds h:=λg f=>by
 obtain⟨d,t⟩:=mz.1 f;have y:∀(d:Nat) (ds:List D) (h:Z) (g:bT),fI d b ds h=some g→∃n,∀c a,n≤c→d≤a→fI a (O c) ds h=some g:=by
  intro d
  induction d with
  |zero=>intro ds h g f;cases f
  | succ d x =>
   intro ds h g f;simp only[fI]at f;obtain⟨q,r,e⟩:=gG.1 f;obtain⟨p,o⟩:=s ds h q r;split at e
   ·rename_i j;obtain⟨z,v⟩:=x _ _ _ e;refine⟨max p z,λc a m w=>?_⟩;obtain⟨a,rfl⟩:∃l,a=l+1:=⟨a - 1,by omega⟩
    simp only[fI];have i:=o c (by omega);simp only at i;rw[i,gy,j];exact v c a (by omega) (by omega)
   ·refine⟨p,λc a m w=>?_⟩;obtain⟨a,rfl⟩:∃l,a=l+1:=⟨a - 1,by omega⟩
    simp only[fI];have i:=o c (by omega);simp only at i;rw[i,gy];rename_i j;cases k:q.1 with
    |aO=>exact absurd k j
    |ext A=>rw[k]at e;exact e
    |ret=>rw[k]at e;exact e
 obtain⟨n,u⟩:=y d ds h g t;exact⟨max n d,λc m=>u c c (by omega) (by omega)⟩
theorem F6{i:mP}:∀(l:Code) {e:DE} {h:Z} {R:Type} {b:Ex→DE→Z→Option R} {Ks:Nat→Ex→DE→Z→Option R},(∀x e h,bU (b x e h) λn=>Ks n x e h)→bU (cK X (run X F) cH i l e h R b) λn=>cK X (eT X F n) (fI n) i l e h R (Ks n):=by
 intro l
 induction l with
 |skip=>intro e h R b Ks a;exact a _ _ _
 |label t=>intro e h R b Ks a;exact a _ _ _
 |ret=>intro e h R b Ks a;exact a _ _ _
 |exit s=>intro e h R b Ks a;exact a _ _ _
 |goto t=>intro e h R b Ks a;exact bU.const _
 |scope f g=>intro e h R b Ks a;exact bU.const _
 |refuse C=>intro e h R b Ks a;exact bU.const _
 |rangeFunc v A u f w y=>intro e h R b Ks a;exact bU.const _
 | region id z q =>
  intro e h R b Ks a;simp only[cK];cases q with
  |false=>exact tF λe h=>a _ _ _
  |true=>exact Hb λe h=>a _ _ _
 | seq p f j k =>
  intro e h R b Ks a;simp only[cK];refine j (Ks:=λn x c d=>toEnd x (cK X (eT X F n) (fI n) i f c d R (Ks n)) λx=>Ks n x c d) λx e h=>?_
  cases x with
  |aO=>exact k a
  |ext s=>exact a _ _ _
  |ret=>exact a _ _ _
 | cond B p f j k =>
  intro e h R b Ks a;simp only[cK];split
  ·exact bU.const _
  ·split
   ·exact(A9 (j (Ks:=λ_ x c d=>some (x,ie c _,d)) λ_ _ _=>bU.const _) (k (Ks:=λ_ x c d=>some (x,ie c _,d)) λ_ _ _=>bU.const _)).bind λo=>a _ _ _
   ·exact A9 (j a) (k a)
 | block id f g =>
  intro e h R b Ks a;simp only[cK];split
  ·exact(g (Ks:=λ_ x c d=>some (bJ id x,ie c _,d)) λ_ _ _=>bU.const _).bind λo=>a _ _ _
  ·exact g (Ks:=λn x c d=>Ks n (bJ id x) c d) λx e h=>a _ _ _
 | loop f g =>
  intro e h R b Ks a;simp only[cK];refine(Lx (O:=λn r d=>cK X (eT X F n) (fI n) i f _ d bT λx c m=>some (x,ie c _,m)) (λr h=>g (Ks:=λ_ x c m=>some (x,ie c _,m)) λ_ _ _=>bU.const _) _ _).bind λo=>a _ _ _
theorem JK{fi:fc}{args:List D}{h:Z}:bU (kl X (run X F) cH fi args h) λn=>kl X (eT X F n) (fI n) fi args h:=by
 unfold kl;split
 ·exact F6 _ (Ks:=λ_ d c a=>cZ d ((iw X a c fi.res).bind λb=>match fi.sc with
      |true=>scope h a (aE b)
      |false=>some (aE b,a))) λ_ _ _=>bU.const _
 ·exact bU.const _
theorem Nu:∀n,js (eT X F n) (run X F):=λn b args c d a=>pw.2 ⟨n,a⟩
theorem Lv:∀n,rR (fI n) cH:=λn a b e c d g f=>mz.2 ⟨n,qV (aS n) a b e c d g f⟩
theorem DY(f:FuncId)(args:List D)(h:Z):run X F f args h=match F f with
  |some fi=>kl X (run X F) cH fi args h
  |none=>X.xt f args h:=by
 refine Dw (λe c=>?_) (λe c=>?_)
 ·obtain⟨a,b⟩:=pw.1 c;cases a with
  |zero=>cases b
  | succ a =>
   simp only[eT]at b;split at b
   ·exact B3 (Nu a) (Lv a) e b
   ·exact b
 ·split at c
  ·rename_i fi d;obtain⟨a,b⟩:=JK e c;refine pw.2 ⟨a+1,?_⟩;simp only[eT,d];exact b a (aS a)
  ·rename_i d;refine pw.2 ⟨1,?_⟩;simp only[eT,d];exact c
theorem rm{f:FuncId}(a:F f=none)(args:List D)(h:Z):run X F f args h=X.xt f args h:=by
 rw[DY,a]
def mE{R:Type}(X:Cx)(h:Z)(e:DE):List ResultVar→(List D→Option R)→Option R
 |[],a=>a []
 | .tmp t::r,a=>match bK e t with
  |some d=>mE X h e r λds=>a (d::ds)
  |none=>none
 | .cell t ty::r,a=>match bK e t with
  |some p=>(aA X.T h ty p).bind λd=>mE X h e r λds=>a (d::ds)
  |none=>none
theorem tz{R:Type}(h:Z)(e:DE):∀(b:List ResultVar) (a:List D→Option R),mE X h e b a=(iw X h e b).bind a
 |[],a=>rfl
 | .tmp t::r,a=>by
  simp only[mE,iw];cases bK e t with
  |none=>rfl
  |some d=>simp only[tz h e r,bH,gy]
 | .cell t ty::r,a=>by
  simp only[mE,iw];cases bK e t with
  |none=>rfl
  |some p=>simp only[tz h e r,bH,gy]
noncomputable def sT(X:Cx)(c:cE)(e:iT)(fi:fc)(args:List D)(h:Z):Option (D × Z):=
 (match Nat.ble args.length fi.A.nt with
 |true=>cK X c e fi.A fi.body (gw (List.range args.length) args []) h (D × Z) λf d a=>cZ f (mE X a d fi.res λb=>match fi.sc with
   |true=>scope h a (aE b)
   |false=>some (aE b,a))
 |false=>none)
theorem D1{f:FuncId}{fi:fc}(a:F f=some fi)(args:List D)(h:Z):run X F f args h=sT X (run X F) cH fi args h:=by
 rw[DY,a];simp only[kl,sT,tz];rfl
theorem D3(e:cC P X.T)(h:P.follows .mixedOrders=true)(j:fV P X X.xt)(d:∀f fi,F f=some fi→bM P f fi):fV P X (run X F):=λf args b a c g=>by
 obtain⟨k,i⟩:=pw.1 g;exact AQ e h j d k f args b a c i
end
def P5(off:Nat)(x:D):Option D:=match x with
 | .aD a=>match Nat.blt off a.length with
  |true=>some (.aD (a.drop off))
  |false=>none
 |.ptr d b c=>some (.ptr d b (c+off))
 |_=>none
def P7(h:Z)(p:D):Option D:=match p with
 |.aD a=>a.head?
 | .ptr c b d=>match h.row c b with
  |some e=>(e.drop d).head?
  |none=>none
 |_=>none
def mI(n:Nat)(cs:List D):Option D:=match Nat.ble n cs.length with
 |true=>some (.agg (cs.take n))
 |false=>none
def P6(x y:D):Option D:=match x,y with
 | .str c,.int _ a=>if 0≤a then match c[a.toNat]? with
  |some b=>some (.int .u8 b.toNat)
  |none=>none
  else none
 |_,_=>none
def P9(x:D):Option D:=match x with
 |.str a=>some (.int .i64 a.length)
 |_=>none
def P8(x:D):Option D:=match x with
 |.J=>some (.int .i64 0)
 |.sl _ _ b=>some (.int .i64 b.length)
 |.S _ _ _ a=>some (.int .i64 a)
 |_=>none
def gC(x:D):Option D:=if x.fk then some (.aD (cG x))else none
def bI(T:bD)(t n:Nat)(a:List Nat)(ds:List D):Option D:=(lB T t n a ds).bind λ(_,c,b)=>some (.sl c true b)
def jl (n:Nat) (h:Z) (p v:D):Option Z:=match p with
 | .ptr b a c=>match h[b]? with
  | some (.row f g e)=>match e[a]? with
   | some d=>match Nat.beq (cG v).length n&&Nat.ble (c+n) d.length&&v.fk with
    |true=>some (h.set b (.row f g (e.set a (dK d c (cG v)))))
    |false=>none
   |none=>none
  |_=>none
 |_=>none
def pD(e V:Nat)(h:Z)(x:D):Option (D × Z):=if x.fk=true∧(cG x).length=V∧0<V then some (.ptr h.length 0 0,aL h e V [cG x])else none
def EB(e:Nat)(h:Z)(x:D):Option (D × Z):=match x with
 |.str a=>if lim a.length 1=true then some (.S 1 h.length 0 a.length,aL h e 1 (gB a))else none
 |_=>none
def tT (e:Nat) (j o:TI) (h:Z) (x y:D):Option (D × Z):=match Nat.blt 0 j.V,jW h o j y with
 | true,some []=>match x with
  |.J=>some (.J,h)
  |.sl g i k=>some (.sl g i k,h)
  |.S g i k n=>some (.S g i k n,h)
  |_=>none
 | true, some a=>match x with
  |.J=>if lim a.length j.gA=true then some (.S j.V h.length 0 a.length,aL h e j.V a)else none
  |.sl d true b=>if d=j.V∧lim (b.length+a.length) j.gA=true then some (.S j.V h.length 0 (b.length+a.length),aL h e j.V (b++a))else none
  | .S d f 0 c=>match h[f]? with
   | some (.row l m b)=>if d=j.V∧m=d∧l=e∧c≤b.length∧lim (c+a.length) j.gA=true then
     (if c=b.length then some (.S j.V h.length 0 (c+a.length),aL (h.set f .dead) e j.V (b++a))
     else if c+a.length≤b.length then some (.S d f 0 (c+a.length),h.set f (.row l m (b.take c++a++b.drop (c+a.length))))else none)
    else none
   |_=>none
  |_=>none
 |_,_=>none
def fA(b:cE)(f:D)(a:List D)(h:Z):Option (D × Z):=jD (λ_=>none) b 0 (.call ⟨.value (.tmp 0), #[], #[]⟩) (f::a) h
theorem AV(b:cE)(f:FuncId)(a xs ys:List D)(h:Z):fA b (.fn (.func f) xs ys) a h=b f (xs++a++ys) h:=rfl
def Y(k:Nat)(ds:List D):D:=match k with
 |0=>qJ ds
 |k+1=>Y k (rz ds)
def yn(a:List (Option TI)):bD:=λc=>match a[c]? with
 |some (some b)=>some b
 |_=>none
def p6(P:Program):Nat→List (Option TI)→Prop
 |_,[]=>True
 |k,none::r=>p6 P (k+1) r
 |k,some i::r=>(pA P k=some i∧oU P k=true)∧p6 P (k+1) r
theorem yo{P:Program}:∀(b:List (Option TI)) (k:Nat),p6 P k b→∀t i,b[t]?=some (some i)→pA P (k+t)=some i∧oU P (k+t)=true
 |[],k,_,t,i,h=>by simp at h
 | none::r,k,a,t,i,h=>by
  cases t with
  |zero=>simp at h
  | succ t =>
   have:=yo r (k+1) a t i (by simpa using h)
   rwa [show k+1+t=k+(t+1)from by omega]at this
 | some c::r,k,a,t,i,h=>by
  cases t with
  | zero =>
   simp at h;subst h;exact a.1
  | succ t =>
   have:=yo r (k+1) a.2 t i (by simpa using h)
   rwa [show k+1+t=k+(t+1)from by omega]at this
theorem OE{P:Program}{b:List (Option TI)}(h:p6 P 0 b):cC P (yn b):=λe f a=>by
 unfold yn at a;split at a
 ·rename_i d c;injection a with a;subst a;have:=yo b 0 h e d c
  rwa [cT]at this
 ·cases a
def qH:List (Nat × fc)→FuncId→Option fc
 |[],_=>none
 | (k,i)::r,f=>match Nat.beq k f with
  |true=>some i
  |false=>qH r f
def rN(P:Program):List (Nat × fc)→Prop
 |[]=>True
 |(k,i)::r=>bM P k i∧rN P r
theorem vU{P:Program}:∀(a:List (Nat × fc)),rN P a→∀f fi,qH a f=some fi→bM P f fi
 |[],_,f,fi,h=>by cases h
 | (k,i)::r,b,f,fi,h=>by
  simp only[qH]at h;split at h
  ·rename_i c;injection h with h;subst h;have:=gF c;subst this;exact b.1
  ·exact vU r b.2 f fi h
theorem bM.of{P:Program}{f:FuncId}{a:Func}{fi:fc}(e:P.funcs[f]?=some a)(c:a.body=some fi.body)(g:a.ntmps=fi.A.nt)(h:a.results.toList=fi.res)(d:∀(b:Array Value) (w:World),(callFunc f b).run P w = .ok (.enter f b) w):bM P f fi:=⟨⟨a,e,c,g,h⟩,d⟩
theorem Gt{P:Program}{f:FuncId}(e:∀(d:Array Value) (w:World),(callFunc f d).run P w=((Extern.BytealgCompare.compare d).run P w).andThen λv w' =>.ok (.value v) w')
  {a b:List UInt8} {g:Gh} {h:Z} {vs:List Value} (hi:Inv g h) (i:aW g vs [.str a,.str b]):jo P f vs g h (.int .i64 (Lib.compareBytes a b)):=by
 cases i with
 | cons j c=>cases c with
  | cons k c=>cases c with
   | nil =>
    cases j;cases k;refine .inr ⟨.int .i64 (Lib.compareBytes a b),g,?_,aT.refl g,hi,.int _ _⟩;rw[e,Lib.run_compareString];simp[Result.andThen]
def se(args:List D)(h:Z):Option (D × Z):=match args with
 |[.str a,.str b]=>some (.int .i64 (Lib.compareBytes a b),h)
 |_=>none
end Go.Pi
namespace Go.Eng
abbrev vh:=@decide_eq_true_eq
end Go.Eng
namespace Go.Eng
open Go.ChangeShapes Go.WideShapes Go.ChangeAt Go.RowKit
def Gw.all(w:World)(N:Nat):Gw:=⟨w,λa=>if a<w.heap.size then N else 0,λa b=>by rw[bV (by omega)]⟩
theorem Pg{n:Int}(h:(Lit.int .u8 n).wf=true):0≤n∧n<256:=by
 simp only[Lit.wf,dU,vh]at h;have a:IntKind.min .u8=0:=rfl;have b:IntKind.max .u8=255:=rfl;omega
section
variable {H:Type} {enc:TypeId × Value→H} {P:Program} {W:World}
end
theorem dW{P:Program}{f:FuncId}{args:Array Value}{W:World}{N:Nat}{a:Value}(h:kD P f args W (r7 Aj (Gw.all W N) λv _=>v=a)):Calls P f args W λe w'=>e = .returned a∧Below W.heap.size W w':=
 mS h (by
  rintro e w' ⟨v,rfl,c,rfl,b,rfl⟩;exact⟨rfl,b.below⟩)
end Go.Eng
namespace Go.Eng
abbrev r9:=@World.block_lt_of_cell?
end Go.Eng
namespace Go.Pi
open Go.Eng Go.ChangeShapes Go.WideShapes Go.ChangeAt Go.RowKit
def Gh.all(w:World):Gh:=⟨w,[],λ_=>False⟩
theorem KJ(w:World):Inv (Gh.all w) []:=⟨rfl,λb c f e a=>by simp at a,λb j c f g l e k d i a=>by simp at a,λh a=>a.elim,λb d a=>by simp[Gh.all]at a⟩
theorem aT.below{g:Gh}{W:World}(h:aT (Gh.all W) g):Below W.heap.size W g.w:=⟨h.os,h.tape,h.output,h.size,λb a=>(h.fz b ⟨a,λh=>h⟩).2⟩
def ints(k:IntKind)(zs:List Int):List (List D):=zs.map λa=>[.int k a]
def jr(k:IntKind)(zs:List Int)(d:D):Prop:=(d = .J∧zs=[])∨d = .sl 1 false (ints k zs)
section
variable {H:Type} {enc:TypeId × Value→H} {P:Program} {W:World}
theorem J3{t e:TypeId}{k:IntKind}{a:Option Addr}{n cap:Nat}{d:DataW H}{p:List MemPlace}(Q:P.underlying t=some (.slice e))(E:P.underlying e=some (.int k))(C:P.cellsOf e=1)
  (h:DataW.Trod enc P W 0 (λ_=>true) true t (.slice a n cap) d p):∃(zs:List Int) (x:D),aB (Gh.all W) (.slice a n cap) x∧jr k zs x∧zs.length≤9223372036854775807∧(∀z∈zs,(Lit.int k z).wf=true)∧((d = .nil∧zs=[])∨∃T,d = .slice (lits k zs) T):=by
 obtain⟨aa,F⟩:=h;rcases open_ints Q E C F with⟨j,s⟩|⟨x,ad,X,zs,j,_,I,L,m,s,r,R⟩
 ·simp[Value.cells]at j;obtain⟨rfl,rfl,rfl⟩:=j;exact⟨[],.J,.J,.inl ⟨rfl,rfl⟩,by simp,(λz m=>by cases m),.inl ⟨fB Prod.fst s,rfl⟩⟩
 ·simp [Value.cells]at j;obtain⟨rfl,rfl,rfl⟩:=j;have ac:zs.length=cap:=by simpa using m
  have M:cap≤9223372036854775807:=by simpa[maxLen]using L
  have K:(zs.take n).length=n:=by rw[oi];omega
  have y:∀(b:Nat) (f:List D),(ints k (zs.take n))[b]?=some f→b<n∧f=[.int k (zs.getD b 0)]:=λb f c=>by
   simp only[ints,dB]at c;cases l:(zs.take n)[b]? with
   |none=>rw[l]at c;cases c
   | some ae =>
    rw[l]at c;simp only[gH,jT]at c;have o:b<n:=by
     have:=(aZ.1 l).1;omega
    rw[eY,bE o]at l;exact⟨o,by rw[← c,oh,l];rfl⟩
  refine⟨zs.take n,_,.sl x n cap 1 false (ints k (zs.take n)) (by simp only[ints,gi];exact K) I M (λh=>by cases h) (by decide) (λf A=>?_) (λN=>?_) (λb _ =>.int k (zs.getD b 0)) (λb f c g d i=>?_) (λb f c g d i=>rfl) (λb f c g d i=>?_),.inr rfl,by omega,λz m=>R z (gV m),.inr ⟨_,fB Prod.fst s⟩⟩
  ·simp only[ints,eJ]at A;obtain⟨z,_,rfl⟩:=A;rfl
  ·have ab:0<n:=by
     rcases rY n with q|q
     ·subst q;exact absurd (by simp[ints]) N
     ·exact q
   obtain⟨w,B,v⟩:=x;have lG:=r 0 (by omega);have u:v=none:=by simpa[Addr.add]using World.cell?_spot lG
   subst u;refine⟨rfl,?_,λh=>h⟩;have:W.cell? ⟨w,B,none⟩=some (.int k (zs.getD 0 0)):=by simpa[Addr.add]using lG
   exact r9 W _ this
  ·obtain⟨o,rfl⟩:=y b f c;have G:g=0:=by
    cases g with
    |zero=>rfl
    |succ g=>simp at i
   subst G;obtain⟨w,B,v⟩:=x;have u:v=none:=by simpa[Addr.add]using World.cell?_spot (r 0 (by omega))
   subst u;have lG:=r b (by omega);rw[ih]at lG;simpa[Gh.all]using lG
  ·obtain⟨o,rfl⟩:=y b f c;cases g with
   |zero=>simp at i;subst i;exact .int k _
   |succ g=>simp at i
theorem J2{t e:TypeId}{k:IntKind}{a:Option Addr}{n cap:Nat}{d:DataW H}{p:List MemPlace}(l:P.underlying t=some (.slice e))(j:P.underlying e=some (.int k))(i:P.cellsOf e=1)
  (h:DataW.Trod enc P W 0 (λ_=>true) true t (.slice a n cap) d p):∃(zs:List Int) (x:D),aB (Gh.all W) (.slice a n cap) x∧jr k zs x∧zs.length≤9223372036854775807∧∀z∈zs,(Lit.int k z).wf=true:=by
 obtain⟨zs,x,b,c,f,g,_⟩:=J3 l j i h;exact⟨zs,x,b,c,f,g⟩
end
theorem Nr{P:Program}{X:Cx}{R:cE}(j:fV P X R){f:FuncId}(l:∀(b:Array Value) (w:World),(callFunc f b).run P w = .ok (.enter f b) w){args:List D}{d:D}{h':Z}(h:R f args []=some (d,h')){W:World}(m:eR (Gh.all W) X.gl){vs:List Value}(n:aW (Gh.all W) vs args){i:Value}(o:∀g v,aB g v d→v=i):
  Calls P f vs.toArray W λe w'=>e = .returned i∧Below W.heap.size W w':=
 mS (show kD P f vs.toArray W _ from by
  rcases j _ _ _ _ _ h (Gh.all W) vs (KJ W) m n with⟨_,a⟩|⟨v,c,a,_⟩
  ·exact a
  ·have:=(l vs.toArray (Gh.all W).w).symm.trans a;injection this with this;cases this) (by
  rintro e w' ⟨v,rfl,c,rfl,k,_,p⟩;rw[o c v p];exact⟨rfl,k.below⟩)
theorem Nh{g:Gh}{v:Value}{b:Bool}(h:aB g v (.bool b)):v = .bool b:=by cases h;rfl
theorem jG(h:Z)(T V:Nat)(rows:List (List D)):(aL h T V rows)[h.length]?=some (.row T V rows):=by
 unfold aL;rw[iC (aS _)];simp
theorem iW(h:Z)(T V:Nat)(rows:List (List D)){o:Nat}(a:o<h.length):(aL h T V rows)[o]?=h[o]?:=by
 unfold aL;rw[dY a]
end Go.Pi
namespace Go.Pi
open Go.Eng
open Option renaming bind_some → Qd
@[simp] theorem O{b c:Type}(a:b)(f:b→Option c):(some a).bind f=f a:=id rfl
@[simp] theorem cS(d:D):aE [d]=d:=id rfl
@[simp] theorem lN(a b:D)(r:List D):aE (a::b::r) = .bN (a::b::r):=id rfl
@[simp] theorem aQ{R:Type}(b:Bool)(x y:Option R):aK (.bool b) x y=if b=true then x else y:=by cases b<;>exact id rfl
@[simp] theorem hd(b:Bool):ft .not (.bool b)=some (.bool (!b)):=id rfl
@[simp] theorem cX(b:Bool)(x y:D):cP (.bool b) x y=some (if b=true then x else y):=by cases b<;>exact id rfl
@[simp] theorem dC(b c:Bool)(x:Option D):gd (.bool b) c x=if b=c then x else some .bG:=by cases b<;>cases c<;>exact id rfl
@[simp] theorem ia(c:Bool)(x:Option D):gd .bG c x=some .bG:=id rfl
@[simp] theorem lF(c:Bool)(h:Z)(x:Option (D × Z)):e7 .bG c h x=some (.bG,h):=id rfl
@[simp] theorem fQ(b c:Bool)(h:Z)(x:Option (D × Z)):e7 (.bool b) c h x=if b=c then x else some (.bG,h):=by cases b<;>cases c<;>exact id rfl
@[simp] theorem dE{R:Type}(n:Option R)(k:Ex→Option R):toEnd .aO n k=n:=id rfl
@[simp] theorem pB{R:Type}(n:Option R)(k:Ex→Option R):toEnd .ret n k=k .ret:=id rfl
@[simp] theorem Qa{R:Type}(i:Nat)(n:Option R)(k:Ex→Option R):toEnd (.ext i) n k=k (.ext i):=id rfl
@[simp] theorem sn{R:Type}(r:Option R):cZ .aO r=r:=id rfl
@[simp] theorem oI{R:Type}(r:Option R):cZ .ret r=r:=id rfl
@[simp] theorem lj(i:Nat):bJ i .aO = .aO:=id rfl
@[simp] theorem pC(i:Nat):bJ i .ret = .ret:=id rfl
@[simp] theorem eW(i:Nat):bJ i (.ext i) = .aO:=by simp[-Qd,bJ]
@[simp] theorem bY(d:D)(r:List D):Y 0 (d::r)=d:=id rfl
@[simp] theorem dI(k:Nat)(d:D)(r:List D):Y (k+1) (d::r)=Y k r:=id rfl
@[simp] theorem nu{R:Type}(p:Prop)(x:Option R)(h:p):eL p x=x:=by unfold eL;exact bE h
@[simp] theorem qe(b:cE)(f:FuncId)(a xs ys:List D)(h:Z):fA b (.fn (.func f) xs ys) a h=b f (xs++a++ys) h:=id rfl
@[simp] theorem P4(s:List UInt8):gC (.str s)=some (.aD [.str s]):=id rfl
@[simp] theorem Dy(k:IntKind)(n:Int):gC (.int k n)=some (.aD [.int k n]):=id rfl
@[simp] theorem P1(b:Bool):gC (.bool b)=some (.aD [.bool b]):=id rfl
@[simp] theorem nM(cs:List D):gC (.agg cs)=some (.aD cs):=id rfl
@[simp] theorem P2:gC .J=some (.aD [.J]):=id rfl
@[simp] theorem P3(z:Nat)(f:Bool)(r:List (List D)):gC (.sl z f r)=some (.aD [.sl z f r]):=id rfl
section
variable (T:bD) (t:Nat) (k:IntKind) (a b:Int) (s u:List UInt8) (p q:Bool)
@[simp] theorem dN:U T .lss t (.int k a) (.int k b)=some (.bool (decide (a<b))):=by simp[-Qd,U,gI]
@[simp] theorem qg:U T .leq t (.int k a) (.int k b)=some (.bool (decide (a≤b))):=by simp[-Qd,U,gI]
@[simp] theorem eM:U T .gtr t (.int k a) (.int k b)=some (.bool (decide (b<a))):=by simp[-Qd,U,gI]
@[simp] theorem lA:U T .geq t (.int k a) (.int k b)=some (.bool (decide (b≤a))):=by simp[-Qd,U,gI]
@[simp] theorem fY:U T .eql t (.int k a) (.int k b)=some (.bool (decide (a=b))):=by simp[-Qd,U,gI];rfl
@[simp] theorem eC:U T .neq t (.int k a) (.int k b)=some (.bool (decide (a≠b))):=by simp[-Qd,U,gI,bne];rfl
@[simp] theorem dV:U T .add t (.int k a) (.int k b)=some (.int k (k.wrap (a+b))):=by simp[-Qd,U,gI]
@[simp] theorem fM:U T .sub t (.int k a) (.int k b)=some (.int k (k.wrap (a - b))):=by simp[-Qd,U,gI]
@[simp] theorem nv:U T .mul t (.int k a) (.int k b)=some (.int k (k.wrap (a*b))):=by simp[-Qd,U,gI]
@[simp] theorem A6:U T .quo t (.int k a) (.int k b)=if b=0 then none else some (.int k (k.wrap (a.tdiv b))):=by simp[-Qd,U,gI]
@[simp] theorem u5:U T .rem t (.int k a) (.int k b)=if b=0 then none else some (.int k (a.tmod b)):=by simp[-Qd,U,gI]
@[simp] theorem nw:U T .eql t (.str s) (.str u)=some (.bool (s==u)):=id rfl
@[simp] theorem ox:U T .neq t (.str s) (.str u)=some (.bool (!(s==u))):=id rfl
@[simp] theorem PA:U T .lss t (.str s) (.str u)=some (.bool (Op.bytesLess s u)):=id rfl
end
@[simp] theorem qd(n:Nat)(cs:List D)(h:cs.length=n):im n (.agg cs)=some (.aD cs):=by subst h;simp[-Qd,im,D.fk,cG]
@[simp] theorem kh(i:Nat)(ds:List D):fH i (.bN ds)=ds[i]?:=id rfl
@[simp] theorem PD (k:IntKind) (a b:Int):oB (.int k a) (.int k b)=some (.int k (if a≤b then a else b)):=by
 first|rfl|(simp[-Qd,oB];done)|(simp only[oB];split<;>simp_all [-Qd]<;>omega)
theorem dF{n:Int}(a : -9223372036854775808≤n)(b:n≤9223372036854775807):IntKind.wrap .i64 n=n:=by
 unfold IntKind.wrap;simp[-Qd,IntKind.signed,IntKind.bits,IntKind.min,IntKind.max];omega
theorem qI{a:Type}(b:List a)(p:a)(c:List a):(b++p::c)[b.length]?=some p:=by simp
def aU{a:Type}(z:Nat)(f:a→List D)(l:List a)(d:D):Prop:=(d = .J∧l=[])∨∃b,d = .sl z b (l.map f)
theorem aU.J{a:Type}(z:Nat)(f:a→List D):aU z f [] .J :=.inl ⟨rfl,rfl⟩
theorem aU.mk{a:Type}(z:Nat)(f:a→List D)(l:List a)(b:Bool):aU z f l (.sl z b (l.map f)) :=.inr ⟨_,rfl⟩
theorem Lu{d:List D→Z→Option bT}(c:Nat→List D→Z→Prop)(e:Ex→List D→Z→Prop)
  (step:∀k ds h,c k ds h→∃x a h',d ds h=some (x,a,h')∧((x = .aO∧∃b,b<k∧c b a h')∨(x ≠ .aO∧e x a h'))) :
  ∀(k:Nat) (ds:List D) (h:Z),c k ds h→∃x a h',cH d ds h=some (x,a,h')∧e x a h':=by
 intro k
 induction k using Nat.strongRecOn with
 | _ k o =>
  intro ds h g;obtain⟨x,a,h',f,n⟩:=step k ds h g;rw[iM,f];rcases n with⟨rfl,b,l,i⟩|⟨m,j⟩
  ·exact o b l a h' i
  ·refine⟨x,a,h',?_,j⟩;cases x with
   |aO=>exact absurd rfl m
   |ext p=>rfl
   |ret=>rfl
end Go.Pi
namespace Go.Eng
abbrev kK:=@Nat.le_of_eq
abbrev na:=@List.getElem_mem
abbrev pX:=@List.take_length
abbrev uE:=@List.append_nil
abbrev Dt:=@of_decide_eq_true
end Go.Eng
namespace Go.Pi
open Go.Eng
theorem k4{n b:Nat}(h:n*b≤140737488355328)(h2:n≤9223372036854775807):lim n b=true:=by
 simp only[lim,dU];exact⟨iU h,iU h2⟩
def Own(h:Z)(n0 e z:Nat)(rows:List (List D))(d:D):Prop:=(d = .J∧rows=[])∨∃a,n0≤a∧d = .S z a 0 rows.length∧h[a]?=some (.row e z rows)
theorem Own.J(h:Z)(n0 e z:Nat):Own h n0 e z [] .J :=.inl ⟨rfl,rfl⟩
def D.eH(d:D)(b:Nat):Prop:=∃c a,d = .S c b 0 a
theorem Own.aX{h h':Z}{n0 e z:Nat}{rows:List (List D)}{d:D}(a:Own h n0 e z rows d)(i:∀b,n0≤b→d.eH b→h'[b]?=h[b]?):Own h' n0 e z rows d:=by
 rcases a with a|⟨f,c,a,g⟩
 ·exact .inl a
 ·exact .inr ⟨f,c,a,by rw[i f c ⟨_,_,a⟩];exact g⟩
theorem Own.from{h:Z}{n0 b e z:Nat}{rows:List (List D)}{d:D}(g:b≤n0)(a:Own h n0 e z rows d):Own h b e z rows d:=by
 rcases a with a|⟨f,i,a,c⟩
 ·exact .inl a
 ·exact .inr ⟨f,by omega,a,c⟩
theorem Own.lt{h:Z}{n0 e z:Nat}{rows:List (List D)}{d:D}(a:Own h n0 e z rows d){b:Nat}(i:d.eH b):n0≤b∧b<h.length:=by
 obtain⟨l,j,rfl⟩:=i;rcases a with⟨a,_⟩|⟨k,g,a,f⟩
 ·cases a
 ·injection a with _ c;subst c;exact⟨g,(aZ.1 f).1⟩
theorem FB{T:bD}{t e:Nat}{i j:TI}(u:T t=some i)(hi:i.td = .sl e)(o:T e=some j)(w:0<j.V){h:Z}{n0:Nat}(k:n0≤h.length){rows:List (List D)}{x y:D}(m:Own h n0 e j.V rows x)
  {ys:List (List D)} (v:iq h j.V y=some ys) (d:lim (rows.length+ys.length) j.gA=true) :
  ∃g h',dM T h t t x y=some (g,h')∧Own h' n0 e j.V (rows++ys) g∧h.length≤h'.length∧(∀b,b<h.length→¬x.eH b→h'[b]?=h[b]?)∧∀b,g.eH b→x.eH b∨h.length≤b:=by
 have z:Nat.blt 0 j.V=true:=iU w;have s:jW h i j y=some ys:=by simp[jW,hi,v]
 unfold dM;simp only[u,hi,o,z,s];cases ys with
 | nil =>
  rcases m with⟨rfl,rfl⟩|⟨f,l,rfl,c⟩
  ·exact⟨_,_,rfl,.inl ⟨rfl,rfl⟩,aS _,λ_ _ _=>rfl,λb a =>.inl a⟩
  ·exact⟨_,_,rfl,by rw[uE];exact .inr ⟨f,l,rfl,c⟩,aS _,λ_ _ _=>rfl,λb a =>.inl a⟩
 | cons E F =>
  rcases m with⟨rfl,rfl⟩|⟨f,l,rfl,c⟩
  ·simp only[e8,cT]at d;simp only[d,aM];refine⟨_,_,rfl,.inr ⟨h.length,k,by simp,by simp[aL]⟩,by simp[aL],λb a _=>by simp only[aL];rw[dY a],λb a =>.inr ?_⟩;obtain⟨B,A,a⟩:=a;injection a with _ n;omega
  ·have C:=(aZ.1 c).1;simp only[c,d,true_and,and_true,aS,aM];refine⟨_,_,rfl,.inr ⟨h.length,k,by simp,by simp[aL]⟩,by simp[aL],λb a q=>?_,λb a =>.inr ?_⟩
   ·have r:f≠b:=λp=>q ⟨_,_,by rw[p]⟩
    simp only[aL];rw[dY (by simpa using a),iD r]
   ·obtain⟨B,A,a⟩:=a;injection a with _ n;omega
theorem FA{T:bD}{t e:Nat}{i j:TI}(q:T t=some i)(hi:i.td = .sl e)(m:T e=some j)(s:0<j.V){h:Z}{n0:Nat}(p:n0≤h.length){rows:List (List D)}{x y:D}(d:Own h n0 e j.V rows x)
  {ys:List (List D)} (r:iq h j.V y=some ys) (o:lim (rows.length+ys.length) j.gA=true) :
  ∃b h',dM T h t t x y=some (b,h')∧Own h' n0 e j.V (rows++ys) b∧h.length≤h'.length∧(∀a,a<n0→h'[a]?=h[a]?)∧(∀a,a<h.length→¬x.eH a→h'[a]?=h[a]?)∧∀a,b.eH a→x.eH a∨h.length≤a:=by
 obtain⟨b,h',f,g,k,c,l⟩:=FB q hi m s p d r o;exact⟨b,h',f,g,k,λa u=>c a (by omega) λn=>by have:=(d.lt n).1;omega,c,l⟩
@[simp] theorem lf(h:Z)(z:Nat)(f:Bool)(rows:List (List D)):iq h z (.sl z f rows)=some rows:=by simp[iq]
def bW(o:Nat)(h h':Z):Prop:=h'.length=h.length∧∀a,a≠o→h'[a]?=h[a]?
theorem bW.refl(o:Nat)(h:Z):bW o h h:=⟨rfl,λ_ _=>rfl⟩
theorem bW.trans{o:Nat}{h h' c:Z}(a:bW o h h')(b:bW o h' c):bW o h c:=⟨b.1.trans a.1,λe d=>(b.2 e d).trans (a.2 e d)⟩
def lq(n0 o:Nat)(h h':Z):Prop:=h.length≤h'.length∧∀a,a<n0→a≠o→h'[a]?=h[a]?
theorem lq.refl(n0 o:Nat)(h:Z):lq n0 o h h:=⟨aS _,λ_ _ _=>rfl⟩
theorem lq.trans{n0 o:Nat}{h h' c:Z}(a:lq n0 o h h')(b:lq n0 o h' c):lq n0 o h c:=⟨gX a.1 b.1,λf e d=>(b.2 f e d).trans (a.2 f e d)⟩
theorem bW.grow{n0 o:Nat}{h h':Z}(a:bW o h h'):lq n0 o h h':=⟨kK a.1.symm,λc _ b=>a.2 c b⟩
@[simp] theorem JP(n0:Nat)(h:Z)(n:Nat)(k:IntKind)(i:Int):bP n0 h n (.int k i) = .int k i:=by cases n<;>rfl
@[simp] theorem PV(n0:Nat)(h:Z)(n:Nat)(s:List UInt8):bP n0 h n (.str s) = .str s:=by cases n<;>rfl
@[simp] theorem JO(n0:Nat)(h:Z)(n:Nat)(b:Bool):bP n0 h n (.bool b) = .bool b:=by cases n<;>rfl
@[simp] theorem PU(n0:Nat)(h:Z)(n:Nat):bP n0 h n .J = .J:=by cases n<;>rfl
@[simp] theorem vV(n0:Nat)(h:Z)(n:Nat)(cs:List D):bP n0 h (n+1) (.agg cs) = .agg (cs.map (bP n0 h n)):=rfl
@[simp] theorem JS(n0:Nat)(h:Z)(n:Nat)(cs:List D):bP n0 h (n+1) (.bN cs) = .bN (cs.map (bP n0 h n)):=rfl
theorem JQ(n0:Nat)(h:Z)(n z:Nat)(f:Bool)(rows:List (List D)):bP n0 h (n+1) (.sl z f rows) = .sl z f (rows.map λrow=>row.map (bP n0 h n)):=rfl
theorem B9{n0:Nat}{h:Z}{o:Nat}{T z:Nat}{rows:List (List D)}(b:n0≤o)(a:h[o]?=some (.row T z rows))(n s r k:Nat):bP n0 h (n+1) (.S s o r k) = .sl s false (((rows.drop r).take k).map λrow=>row.map (bP n0 h n)):=by
 have:Nat.ble n0 o=true:=iU b;simp only[bP,this,a]
theorem k5{a:Type}{f:a→a}:∀{l:List a},(∀x∈l,f x=x)→l.map f=l
 |[],_=>rfl
 |x::l,h=>by rw[iS,h x (by simp),k5 λy b=>h y (by simp[b])]
theorem JR{n0:Nat}{h:Z}{n z:Nat}{f:Bool}{rows:List (List D)}(a:∀row∈rows,∀d∈row,bP n0 h n d=d):bP n0 h (n+1) (.sl z f rows) = .sl z f rows:=by
 rw[JQ,k5 λrow b=>k5 (a row b)]
theorem Ca{n0:Nat}{h:Z}{n a e z:Nat}{rows:List (List D)}{d:D}(b:Own h a e z rows d)(i:n0≤a)(f:∀row∈rows,∀d∈row,bP n0 h n d=d):(bP n0 h (n+1) d = .J∧rows=[])∨bP n0 h (n+1) d = .sl z false rows:=by
 rcases b with⟨rfl,rfl⟩|⟨k,j,rfl,c⟩
 ·exact .inl ⟨rfl,rfl⟩
 ·right;rw[B9 (by omega) c];simp only[gN,pX];rw[k5 λrow g=>k5 (f row g)]
theorem nL{n0:Nat}{h:Z}{n g e z:Nat}{i:Type}{f:i→List D}{l:List i}{d:D}(c:Own h g e z (l.map f) d)(m:n0≤g)(o:∀a∈l,∀d∈f a,bP n0 h n d=d):aU z f l (bP n0 h (n+1) d):=by
 rcases Ca c m (n:=n) (λq p d c=>by
  obtain⟨a,k,rfl⟩:=eJ.1 p;exact o a k d c)with⟨b,j⟩|b
 ·rw[b];exact .inl ⟨rfl,by simpa using j⟩
 ·rw[b];exact .mk _ _ _ _
theorem tI{n0:Nat}{h:Z}{n z:Nat}{c:Type}{f:c→List D}{l:List c}{d:D}(b:aU z f l d)(g:∀a∈l,∀d∈f a,bP n0 h n d=d):bP n0 h (n+1) d=d:=by
 rcases b with⟨rfl,_⟩|⟨j,rfl⟩
 ·rfl
 ·exact JR λk i d b=>by
    obtain⟨a,e,rfl⟩:=eJ.1 i;exact g a e d b
theorem lh{n z:Nat}{c:Type}{f:c→List D}{l:List c}{d:D}(b:aU z f l d)(g:∀a∈l,∀d∈f a,Ok n d):Ok n d:=by
 rcases b with⟨rfl,_⟩|⟨i,rfl⟩
 ·exact .J
 ·exact .sl _ _ _ λj h d b=>by
    obtain⟨a,e,rfl⟩:=eJ.1 h;exact g a e d b
theorem tJ{z:Nat}{a:Type}{f:a→List D}{l:List a}{d:D}(b:aU z f l d):d.one=true:=by
 rcases b with⟨rfl,_⟩|⟨c,rfl⟩<;>rfl
theorem Dx{h:Z}{n0 e z:Nat}{rows:List (List D)}{d:D}(a:Own h n0 e z rows d):d.one=true:=by
 rcases a with⟨rfl,_⟩|⟨b,_,rfl,_⟩<;>rfl
theorem Oe{h h2:Z}{d d':D}{o:Nat}(j:bP h.length h2 4 d=d')(m:Ok h.length d')(c:lq h.length o h h2)(l:∀T V rows,h2[o]?=some (.row T V rows)→∀row∈rows,∀d∈row,Ok h.length d):
  scope h h2 d=some (d',h2.take h.length)∧bW o h (h2.take h.length)∧∀a,a<h.length→(h2.take h.length)[a]?=h2[a]?:=by
 have k:h.length≤h2.length:=c.1;have i:∀a,a<h.length→(h2.take h.length)[a]?=h2[a]?:=λa b=>by rw[eY,bE b]
 refine⟨?_,⟨by simp[k],λa b=>?_⟩,i⟩
 ·unfold scope;rw[j,nu];refine⟨m,λa T V rows b g=>?_⟩;by_cases f:a=o
  ·subst f;exact .inr (l T V rows g)
  ·left;rw[← c.2 a b f];exact g
 ·by_cases e:a<h.length
  ·rw[i a e];exact c.2 a e b
  ·rw[mY (by simp;omega),mY (by omega)]
theorem jZ{h h2:Z}{d d':D}(e:bP h.length h2 4 d=d')(f:Ok h.length d')(k:h.length≤h2.length)(c:∀a,a<h.length→h2[a]?=h[a]?):scope h h2 d=some (d',h):=by
 have i:h2.take h.length=h:=z8 λa=>by
  rw[eY];split
  ·rename_i b;exact c a b
  ·rename_i b;rw[mY (by omega)]
 unfold scope;rw[e,i,nu];exact⟨f,λa j m l b g =>.inl (by rw[← c a b];exact g)⟩
theorem Oo{z:Nat}{a:Type}{f:a→List D}{l:List a}{d:D}(h:Z)(b:aU z f l d):iq h z d=some (l.map f):=by
 rcases b with⟨rfl,rfl⟩|⟨c,rfl⟩
 ·rfl
 ·simp
theorem DC{a:Type}(l:List a)(v:Int)(b:0≤v)(c:v<l.length):∃s,s∈l∧l[v.toNat]?=some s:=by
 have:v.toNat<l.length:=by omega
 exact⟨l[v.toNat],na _,cA this⟩
theorem J0{k:IntKind}{zs:List Int}{d:D}(a:jr k zs d)(n:Nat):Ok n d:=by
 rcases a with⟨rfl,_⟩|rfl
 ·exact .J
 ·refine .sl _ _ _ λc b d a=>?_
  simp only[ints,eJ]at b;obtain⟨e,_,rfl⟩:=b;simp at a;subst a;exact .int _ _
theorem Own.same{h h':Z}{n0 e z o:Nat}{rows:List (List D)}{d:D}(a:Own h n0 e z rows d)(b:bW o h h')(f:o<n0):Own h' n0 e z rows d:=a.aX λc g _=>b.2 c (by omega)
def Wp{b:Type}(x:Option b)(Q:b→Prop):Prop:=∃a,x=some a∧Q a
theorem Wp.some{b:Type}{a:b}{Q:b→Prop}(h:Q a):Wp (some a) Q:=⟨a,rfl,h⟩
theorem Wp.bind{b c:Type}{x:Option b}{f:b→Option c}{P:b→Prop}{Q:c→Prop}(h:Wp x P)(k:∀a,P a→Wp (f a) Q):Wp (x.bind f) Q:=by
 obtain⟨a,rfl,d⟩:=h;exact k a d
theorem Wp.step{b c:Type}{x:Option b}{a:b}{f:b→Option c}{Q:c→Prop}(h:x=Option.some a)(k:Wp (f a) Q):Wp (x.bind f) Q:=by
 subst h;exact k
theorem Wp.eN{a:Type}{b:Bool}{x y:Option a}{Q:a→Prop}(c:b=true→Wp x Q)(d:b=false→Wp y Q):Wp (aK (.bool b) x y) Q:=by
 cases b
 ·exact d rfl
 ·exact c rfl
theorem Wp.join{c d:Type}{b:Bool}{x y:Option c}{f:c→Option d}{P:c→Prop}{Q:d→Prop}(e:b=true→Wp x P)(g:b=false→Wp y P)(k:∀a,P a→Wp (f a) Q):Wp ((aK (.bool b) x y).bind f) Q:=Wp.bind (Wp.eN e g) k
theorem Wp.mono{b:Type}{x:Option b}{P Q:b→Prop}(h:Wp x P)(k:∀a,P a→Q a):Wp x Q:=by
 obtain⟨a,rfl,c⟩:=h;exact⟨a,rfl,k a c⟩
theorem Wp.eL{a:Type}{p:Prop}{x:Option a}{Q:a→Prop}(b:p)(h:Wp x Q):Wp (eL p x) Q:=by
 rw[nu p x b];exact h
theorem Wp.loop{m:Type}{f:List D→Z→Option bT}{ds:List D}{h:Z}{g:bT→Option m}{Q:m→Prop}(a:Nat→List D→Z→Prop)(c:bT→Prop)(n:Nat)(o:a n ds h)
  (step:∀k ds h,a k ds h→Wp (f ds h) λr=>(r.1 = .aO∧∃l,l<k∧a l r.2.1 r.2.2)∨(r.1 ≠ .aO∧c r)) (k:∀r,c r→Wp (g r) Q):Wp ((cH f ds h).bind g) Q:=by
 obtain⟨b,i,j,d,e⟩:=Lu a (λb ds h=>c (b,ds,h)) (λk ds h p=>by
  obtain⟨⟨b,i,j⟩,d,e⟩:=step k ds h p;exact⟨b,i,j,d,e⟩) n ds h o
 rw[d];exact k _ e
theorem p8{T:bD}{t e:Nat}{i j:TI}(r:T t=Option.some i)(hi:i.td = .sl e)(o:T e=Option.some j)(v:0<j.V){h:Z}{n0:Nat}(q:n0≤h.length){rows:List (List D)}{x y:D}(s:Own h n0 e j.V rows x)
  {ys:List (List D)} (u:iq h j.V y=Option.some ys) (p:lim (rows.length+ys.length) j.gA=true) {c:Type} {f:D × Z→Option c} {Q:c→Prop}
  (k:∀b h',Own h' n0 e j.V (rows++ys) b→h.length≤h'.length→(∀a,a<n0→h'[a]?=h[a]?)→(∀a,a<h.length→¬x.eH a→h'[a]?=h[a]?)→(∀a,b.eH a→x.eH a∨h.length≤a)→Wp (f (b,h')) Q):Wp ((dM T h t t x y).bind f) Q:=by
 obtain⟨b,h',e,d,g,l,m,n⟩:=FA r hi o v q s u p;rw[e];exact k b h' d g l m n
theorem lQ{n:Nat}{h:Z}{o T V kk off:Nat}{rows:List (List D)}{row:List D}{v:D}(a:h[o]?=Option.some (.row T V rows))(l:rows[kk]?=Option.some row)(m:(cG v).length=n)(g:off+n≤row.length)(e:v.fk=true){b:Type}{f:Z→Option b}{Q:b→Prop}
  (k:∀h',h'[o]?=Option.some (.row T V (rows.set kk (dK row off (cG v))))→bW o h h'→Wp (f h') Q):Wp ((jl n h (.ptr o kk off) v).bind f) Q:=by
 have i:=(aZ.1 a).1;have c:jl n h (.ptr o kk off) v=Option.some (h.set o (.row T V (rows.set kk (dK row off (cG v))))):=by
  subst m;have d:Nat.ble (off+(cG v).length) row.length=true:=iU g;simp only[jl,a,l,Nat.beq_refl,d,e,Bool.and_true]
 rw[c];exact k _ (by simp[i]) ⟨by simp,λp j=>iD (Ne.symm j)⟩
@[simp] theorem A5(T:bD)(t:Nat)(k:IntKind)(a b:Int):U T .and t (.int k a) (.int k b)=Option.some (.int k (k.wrap (BitVec.ofInt k.bits a &&& BitVec.ofInt k.bits b).toNat)):=by simp[U,gI]
@[simp] theorem Px(T:bD)(t:Nat)(k:IntKind)(a b:Int):U T .or t (.int k a) (.int k b)=Option.some (.int k (k.wrap (BitVec.ofInt k.bits a ||| BitVec.ofInt k.bits b).toNat)):=by simp[U,gI]
@[simp] theorem PB(T:bD)(t:Nat)(k:IntKind)(a b:Int):U T .xor t (.int k a) (.int k b)=Option.some (.int k (k.wrap (BitVec.ofInt k.bits a ^^^ BitVec.ofInt k.bits b).toNat)):=by simp[U,gI]
@[simp] theorem PE(k:IntKind)(a:Int):ft .neg (.int k a)=Option.some (.int k (k.wrap (0 - a))):=id rfl
@[simp] theorem PF(k:IntKind)(a:Int):ft .xor (.int k a)=Option.some (.int k (k.wrap (BitVec.ofInt k.bits (if k.signed then -1 else k.max) ^^^ BitVec.ofInt k.bits a).toNat)):=id rfl
theorem dW{h:Z}{o T V kk:Nat}{rows:List (List D)}(a:h[o]?=Option.some (.row T V rows)):h.row o kk=rows[kk]?:=by simp[Z.row,a]
@[simp] theorem pj(T:bD)(o i f:Nat):fN T (.ptr o i f)=Option.some (.ptr o i f):=id rfl
@[simp] theorem Pz(T:bD)(t:Nat)(k k2:IntKind)(a b:Int):U T .shr t (.int k a) (.int k2 b)=if b<0 then none else some (.int k (a.fdiv (2 ^ (min b.toNat k.bits)))):=id rfl
@[simp] theorem Py(T:bD)(t:Nat)(k k2:IntKind)(a b:Int):U T .shl t (.int k a) (.int k2 b)=if b<0 then none else some (.int k (k.wrap (a*2 ^ (min b.toNat k.bits)))):=id rfl
theorem Gz(T:bD)(t:Nat)(s a:List UInt8)(h:s.length+a.length≤9223372036854775807):U T .add t (.str s) (.str a)=some (.str (s++a)):=bE h
theorem On{T:bD}{t e z:Nat}{i j:TI}(m:T t=some i)(hi:i.td = .sl e)(h:T e=some j)(o:j.V=z){c:Type}{f:c→List D}{l:List c}{d:D}(g:aU z f l d){k:IntKind}{n:Int}(a:0≤n)(b:n≤l.length):
  ∃d',fO T t false true false [d,.int k n]=some d'∧aU z f (l.take n.toNat) d':=by
 simp only[fO,fZ,O,jg,m,hi,h];rcases g with⟨rfl,rfl⟩|⟨p,rfl⟩
 ·have:n=0:=by simpa using Int.le_antisymm b a
  subst this;exact⟨_,rfl,.inl ⟨rfl,rfl⟩⟩
 ·simp[o,a,b];right;exact⟨_,by rw[rV]⟩
theorem JY{T:bD}{t e:Nat}{i j:TI}(g:T t=some i)(hi:i.td = .sl e)(f:T e=some j)(h:j.V=1){k:IntKind}{zs:List Int}{d:D}(c:jr k zs d){k2:IntKind}{n:Int}(a:0≤n)(b:n≤zs.length):
  ∃d',fO T t false true false [d,.int k2 n]=some d'∧jr k (zs.take n.toNat) d':=by
 simp only[fO,fZ,O,jg,g,hi,f];rcases c with⟨rfl,rfl⟩|rfl
 ·have:n=0:=by simpa using Int.le_antisymm b a
  subst this;exact⟨_,rfl,.inl ⟨rfl,rfl⟩⟩
 ·simp[h,a,b,ints];right;simp[ints]
theorem po{d:D}(h:d.one=true):cG d=[d]∧d.fk=true:=by cases d<;>first|exact⟨rfl,rfl⟩|(simp[D.one]at h)
theorem J1{k:IntKind}{zs:List Int}{d:D}(a:jr k zs d):d.one=true:=by
 rcases a with⟨rfl,_⟩|rfl<;>rfl
theorem tU(e V:Nat)(h:Z)(cs:List D)(a:cs.length=V)(b:0<V):pD e V h (.agg cs)=some (.ptr h.length 0 0,aL h e V [cs]):=by
 simp[pD,D.fk,cG,a,b]
theorem kP(k:IntKind)(n:Int):cG (.int k n)=[.int k n]:=id rfl
theorem kQ(s:List UInt8):cG (.str s)=[.str s]:=id rfl
theorem kO(b:Bool):cG (.bool b)=[.bool b]:=id rfl
theorem kN(cs:List D):cG (.agg cs)=cs:=id rfl
theorem u3{T:bD}{t:Nat}{i:TI}{fs:List (Nat × Nat × Nat)}(b:T t=Option.some i)(hi:i.td = .st fs){a:List Nat}{ds cs:List D}(h:jV fs i.zero a ds=Option.some cs):dZ T t a ds=Option.some (.agg cs):=by
 simp only[dZ,b,hi,h,O]
theorem kX{fs:List (Nat × Nat × Nat)}{cs:List D}{i:Nat}{a:List Nat}{d:D}{ds:List D}{h off V:Nat}(e:fs[i]?=Option.some (h,off,V))(h2:(cG d).length=V)(f:off+V≤cs.length)(g:d.fk=true):
  jV fs cs (i::a) (d::ds)=jV fs (dK cs off (cG d)) a ds:=by
 have b:Nat.beq (cG d).length V=true:=by rw[h2];exact Nat.beq_refl V
 have c:Nat.ble (off+V) cs.length=true:=iU f;simp only[jV,e,b,c,g,Bool.and_self]
theorem KG{T:bD}{t e n z:Nat}{i j:TI}(g:T t=Option.some i)(hi:i.td = .arr n e)(c:T e=Option.some j)(h:j.V=z)(f:0<z){cs:List D}{k:IntKind}{v:Int}(a:0≤v)(b:v<(n:Int))(d:v.toNat*z<cs.length):
  aN T t (.aD cs) (.int k v)=Option.some (.aD (cs.drop (v.toNat*z))):=by
 simp[aN,ma,g,hi,c,h,a,b,f,d]
theorem MG{T:bD}{t e z o r n:Nat}{i j:TI}(f:T t=some i)(hi:i.td = .sl e)(c:T e=some j)(g:j.V=z)(d:0<z){k:IntKind}{m:Nat}(h:m<n)(_:0≤m):
  fO T t true false false [.S z o r n,.int k m]=some (.S z o (r+m) (n - m)):=by
 have l:(0:Int)≤(m:Int)∧(m:Int)≤(n:Int)∧(n:Int)≤(n:Int):=by omega
 have a:(m:Int)<(n:Int):=by omega
 have b:((n:Int) - (m:Int)).toNat=n - m:=by omega
 have p:¬(n<m):=by omega
 simp[fO,fZ,jg,f,hi,c,g,d,a,b];omega
theorem Dj{T:bD}{t e z o r n:Nat}{i j:TI}(d:T t=some i)(hi:i.td = .sl e)(b:T e=some j)(f:j.V=z)(c:0<z){k:IntKind}{m:Nat}(a:m≤n):
  fO T t false true false [.S z o r n,.int k m]=some (.S z o r m):=by
 have g:(m:Int)≤(n:Int):=by omega
 simp[fO,fZ,jg,d,hi,b,f,c,a]
theorem Gk{T:bD}{t e o r n:Nat}{i j:TI}(f:T t=some i)(hi:i.td = .sl e)(b:T e=some j)(d:0<j.V){h:Z}{U:Nat}{rows:List (List D)}(c:h[o]?=some (.row U j.V rows))(k:0<n):
  ∃z,nx T h t (.S j.V o r n)=some (.bN [],h.set o (.row U j.V (rows.take r++z))):=by
 have g:Nat.blt 0 j.V=true:=iU d;obtain⟨a,rfl⟩:∃a,n=a+1:=⟨n - 1,by omega⟩
 refine⟨List.replicate (a+1) j.zero++rows.drop (r+(a+1)),?_⟩;simp[nx,f,hi,b,g,c]
theorem Wp.val{b:Type}{x:Option b}{a:b}(h:Wp x λp=>p=a):x=Option.some a:=by
 obtain⟨p,c,rfl⟩:=h;exact c
theorem sV{a:Type}{l:List a}{n:Nat}(h:n<l.length):∃x,l[n]?=Option.some x:=⟨_,cA h⟩
theorem ig(n:Nat)(h:n<9223372036854775807):IntKind.wrap .i64 ((n:Int)+1)=((n+1:Nat):Int):=by
 rw[dF (by omega) (by omega)];omega
theorem ji{a b:Nat}(h:decide ((a:Int)<(b:Int))=true):a<b:=by
 have:=Dt h;omega
end Go.Pi
namespace Go.Pi
open Go.Eng Go.ChangeShapes Go.WideShapes Go.ChangeAt Go.RowKit Go.Deep
section
variable {H:Type} {enc:TypeId × Value→H} {P:Program} {W:World}
end
end Go.Pi
namespace Go.Eng
abbrev uR:=@Option.some.inj
end Go.Eng
namespace Go.Pi
open Go.Eng Go.ChangeShapes Go.WideShapes Go.ChangeAt Go.RowKit
theorem J4{P:Program}{f:World}{v:String}{g t n e:Nat}{k:IntKind}{zs:List Int}{laid:List (String × DataW Unit)}(s:P.globalNamed v=some g)(M:(P.globals[g]?).map (·.type)=some t)(Q:P.underlying t=some (.array n e))
  (D:P.underlying e=some (.int k)) (B:P.cellsOf e=1) (L:(laid.all λx=>x.2.handleName?.isNone)=true) (I:laid=[(v,.agg (zs.map λz =>.lit (.int k z)))]) (h:laidMetH P laid f) :
  aB (Gh.all f) (.pointer (some ⟨g,0,none⟩)) (.aD (zs.map λz =>.int k z)):=by
 rw[MakeChecks.laidMetH_plain _ _ _ L]at h;subst I;obtain⟨af,⟨X,ai,m,W,ae,ag,F,N,R,C,_,_⟩,_,_⟩:=h;obtain rfl:=uR (s.symm.trans F);obtain rfl:=uR (M.symm.trans N);obtain⟨i,ad,rfl,l,aa,ab,E⟩:=DataW.trod_array Q C;simp only[r2,DataW.agg.injEq]at l;have ac:zs.length=i.length:=by
  have:=fB List.length l.1;simpa using this
 have r:∀(b:Nat) (z:Int),zs[b]?=some z→f.cell? ⟨g,b,none⟩=some (.int k z):=λb z c=>by
  have H:b<n:=by
   have:=(aZ.1 c).1;omega
  have u:i[b]?=some i[b]:=cA (by omega);have p:=E b H;rw[u,B,Nat.mul_one]at p;obtain⟨j,w,y,_⟩:=DataW.trod_int D p;have T:j=z:=by
   have q:(i.map (·.1))[b]?=some (.lit (.int k j)):=by rw[dB,u,y];rfl
   rw[← l.1,dB,c]at q;simpa using q.symm
  subst T;rw[World.var?_cell s R b];have A:(m.toList.drop b)[0]?=some (.int k j):=by
   have:((m.toList.drop b).take 1)[0]?=some (.int k j):=by rw[w];rfl
   rw[eY]at this;simpa using this
  simpa using A
 refine .aD g 0 _ (λd =>.int k (zs.getD d 0)) (λK=>⟨?_,λG=>G⟩) (λd o a=>?_) (λd o a=>rfl) (λd o a=>?_)
 ·cases zs with
  |nil=>simp at K
  |cons z ah=>exact r9 f _ (r 0 z rfl)
 ·rw[dB]at a;cases c:zs[d]? with
  |none=>rw[c]at a;cases a
  | some z =>
   rw[cT];show f.cell? ⟨g,d,none⟩=_;rw[r d z c,oh,c];rfl
 ·rw[dB]at a;cases c:zs[d]? with
  |none=>rw[c]at a;cases a
  | some z =>
   rw[c]at a;simp at a;subst a;rw[oh,c];exact .int k z
end Go.Pi
namespace Go.Pi
open Go.Eng
inductive MO where
 |mp (n:Nat) (f:Int→Option Int)
 |it (m n:Nat) (f:Int→Option Int) (left:Int→Bool) (cur:Option (Int × Int))
abbrev Mp:=Nat→Option MO
def Mp.set(c:Mp)(b:Nat)(o:MO):Mp:=λa=>if a=b then some o else c a
def Mp.nY(d:Mp)(b:Nat)(o:MO):Mp:=λc=>if c=b then some o else match d c with
 |some (.it a h f g e)=>if a=b then none else some (.it a h f g e)
 |y=>y
def M0:Mp:=λ_=>none
def cW(x:Int):Prop := -9223372036854775808≤x∧x≤9223372036854775807
instance (x:Int):Decidable (cW x):=by unfold cW;exact inferInstance
open Classical in
noncomputable def p7{b:Type}(f:b→Option Unit):Option Unit:=if ∀a,f a=some ()then some ()else none
open Classical in
noncomputable def oX(p:Prop)(x:Option Unit):Option Unit:=if p then x else some ()
theorem l6{b:Type}{f:b→Option Unit}:p7 f=some ()↔∀a,f a=some ():=by
 unfold p7;split<;>simp_all
theorem kY{p:Prop}{x:Option Unit}:oX p x=some ()↔(p→x=some ()):=by
 unfold oX;split<;>simp_all
theorem ow{p:Prop}{x:Option Unit}:eL p x=some ()↔p∧x=some ():=by
 unfold eL;split<;>simp_all
abbrev MK:=D→Mp→Option Unit
noncomputable def th(b:Mp)(c:MK):Option Unit:=p7 λa=>oX (b a=none) (c (.raw (.map (some a))) (b.set a (.mp 0 λ_=>none)))
noncomputable def qY(b:Mp)(f g:D)(h:Bool)(d:MK):Option Unit:=match f,g with
 | .raw (.map (some e)),.int .i64 a=>match b e with
  | some (.mp _ c)=>eL (cW a) (match h with
   |true=>d (.bN [.int .i64 ((c a).getD 0),.bool (c a).isSome]) b
   |false=>d (.int .i64 ((c a).getD 0)) b)
  |_=>none
 |_,_=>none
noncomputable def pf(a:Mp)(h i dv:D)(g:MK):Option Unit:=match h,i,dv with
 | .raw (.map (some b)),.int .i64 d,.int .i64 c=>match a b with
  |some (.mp e j)=>eL (cW d∧cW c∧e<1000000000) (g .bG (a.nY b (.mp (e+1) λf=>if f=d then some c else j f)))
  |_=>none
 |_,_,_=>none
noncomputable def q0(a:Mp)(f:D)(e:MK):Option Unit:=match f with
 | .raw (.map (some c))=>match a c with
  |some (.mp g d)=>p7 λb=>oX (a b=none) (e (.raw (.pointer (some ⟨b,0,none⟩))) (a.set b (.it c g d (λh=>(d h).isSome) none)))
  |_=>none
 |_=>none
noncomputable def qZ(c:Mp)(i:D)(e:MK):Option Unit:=match i with
 | .raw (.pointer (some ⟨g,0,none⟩))=>match c g with
  |some (.it h j f d _)=>(oX (∀b,cW b→d b=false) (e (.bN [.bool false]) c)).bind λ_ =>
    p7 λa:Int × Int=>oX (cW a.1∧cW a.2∧d a.1=true∧f a.1=some a.2) (e (.bN [.bool true,.int .i64 a.1,.int .i64 a.2]) (c.set g (.it h j f (λb=>d b && !(b==a.1)) (some a))))
  |_=>none
 |_=>none
noncomputable def qX(a:Mp)(d:D)(c:MK):Option Unit:=match d with
 | .raw (.pointer (some ⟨e,0,none⟩))=>match a e with
  |some (.it _ _ _ _ (some b))=>c (.bN [.int .i64 b.1,.int .i64 b.2]) a
  |_=>none
 |_=>none
def Cj:Op→Bool
 |.makeMap _ _=>true
 |.lookup _ _ _ _=>true
 |.mapUpdate _ _ _ _=>true
 |.range _ _=>true
 |.next _ _=>true
 |.entry _=>true
 |_=>false
noncomputable def xI(X:Cx)(mt:Nat)(k:Op)(e:DE)(c:Mp)(b:MK):Option Unit:=match k with
 | .makeMap t none=>match Nat.beq t mt with
  |true=>th c b
  |false=>none
 | .lookup t d h j=>match Nat.beq t mt,hh X e d,hh X e h with
  |true,some a,some f=>qY c a f j b
  |_,_,_=>none
 | .mapUpdate t d h l=>match Nat.beq t mt,hh X e d,hh X e h,hh X e l with
  |true,some a,some f,some i=>pf c a f i b
  |_,_,_,_=>none
 | .range t d=>match Nat.beq t mt,hh X e d with
  |true,some a=>q0 c a b
  |_,_=>none
 | .next g false=>match hh X e g with
  |some a=>qZ c a b
  |none=>none
 | .entry g=>match hh X e g with
  |some a=>qX c a b
  |none=>none
 |_=>none
noncomputable def q5(X:Cx)(g:cE)(c:Nat)(fz f:List Nat)(mt:Nat)(l:List Oper):List Oper→DE→Z→Mp→(DE→Z→Mp→Option Unit)→Option Unit
 |[],e,h,b,a=>a e h b
 | o::r,e,h,b,a=>match Cj o.op with
  | true=>match o.guard with
   |none=>xI X mt o.op e b λd i=>gJ c o.dst d e h λe' h'=>q5 X g c fz f mt l r e' h' i a
   |some _=>none
  |false=>jN X g c fz f l o e h λe' h'=>q5 X g c fz f mt l r e' h' b a
structure lr (P:Program) (t k:Nat):Prop where
 ht:P.underlying t=some (.map k k)
 hk:P.underlying k=some (.int .i64)
 z:∀w,(zeroValue k).run P w = .ok (.int .i64 0) w
def iH(b:DataW Unit)(f:Int→Option Int):Prop:=Maps.IsMap b∧∀a,cW a→Maps.has b (.int .i64 a)=(f a).isSome∧∀c,b.atKey (.int .i64 a) c=match f a with
 |some d =>.lit (.int .i64 d)
 |none=>c
theorem mL{x:Int}:(Lit.int .i64 x).wf=true↔cW x:=by
 have a:IntKind.min .i64 = -9223372036854775808:=rfl;have b:IntKind.max .i64=9223372036854775807:=rfl;simp only[Lit.wf,dU,vh,cW,a,b]
section
variable {P:Program} {t k:Nat} (hM:lr P t k)
include hM
theorem lr.key{x:Int}(a:cW x):keyOf P k (.int .i64 x)=some (.int .i64 x):=Maps.keyOf_int_mk hM.hk (mL.2 a)
theorem lr.isKey{x:Int}(a:cW x):WideAt.IsKeyLit (.int .i64 x):=(Maps.int_keyed hM.hk).key (hM.key a)
omit hM in
theorem iH.empty:iH (.map []) λ_=>none:=⟨Maps.isMap_empty,λa _=>⟨rfl,λb=>rfl⟩⟩
theorem iH.put{d:DataW Unit}{f:Int→Option Int}(h:iH d f){i c:Int}(hi:cW i):iH (d.put (.int .i64 i) (.lit (.int .i64 c))) λx=>if x=i then some c else f x:=by
 refine⟨h.1.put _ _,λx a=>?_⟩;by_cases b:x=i
 ·subst b;simp only[bE rfl];exact⟨Maps.has_put_same h.1 (hM.isKey a) _,λg=>Maps.atKey_put_same h.1 (hM.isKey a) _ _⟩
 ·have e:(Lit.int .i64 x) ≠ .int .i64 i:=λj=>b (by injection j)
  simp only[bV b];refine⟨(Maps.has_put_other e _).trans (h.2 x a).1,λg=>?_⟩;rw[Maps.atKey_put_other e];exact(h.2 x a).2 g
end
def pY(P:Program)(k:Nat)(w:World)(b:Nat):MO→Prop
 |.mp n f=>∃a,w.ownsMap P k (plainElem P k) b n a∧iH a f
 |.it m n f left g=>∃a d e,w.ranges P k (plainElem P k) m b n a d e∧iH a f∧(∀x,cW x→d (.int .i64 x)=left x) ∧
   ∀x c,g=some (x,c)→(Instr.entry (.pointer (some ⟨b,0,none⟩))).run P w = .ok (.tuple #[.int .i64 x,.int .i64 c]) w
theorem Il{P:Program}{w w':World}{b m:Nat}{e:Nat}{seen:Array Nat}{a:Nat}{d:Array MapEntry}{c:Nat}(o:w'.heap[b]?=w.heap[b]?)(q:w'.heap[m]?=w.heap[m]?)
  (i:w.heap[b]?=some (.mapIter (some m) e seen a)) (h2:w.heap[m]?=some (.map d c)) {v:Value} (h:(Instr.entry (.pointer (some ⟨b,0,none⟩))).run P w = .ok v w):(Instr.entry (.pointer (some ⟨b,0,none⟩))).run P w' = .ok v w':=by
 have l:(getObj b).run P w = .ok (.mapIter (some m) e seen a) w:=by simp[getObj,Sem.run,i]
 have f:(getObj m).run P w = .ok (.map d c) w:=by simp[getObj,Sem.run,h2]
 have n:(getObj b).run P w' = .ok (.mapIter (some m) e seen a) w':=by simp[getObj,Sem.run,o,i]
 have g:(getObj m).run P w' = .ok (.map d c) w':=by simp[getObj,Sem.run,q,h2]
 unfold Instr.entry at h ⊢;simp only[fg,l,f,n,g,fp]at h ⊢;cases k:seen.back? with
 |none=>simp[k]at h
 | some r =>
  simp only[k,fg,f,g,fp]at h ⊢;by_cases j:(c != a)=true
  ·simp[j]at h
  ·simp only[j]at h ⊢;cases p:d.find? (·.born==r)with
   |none=>simp[p]at h
   |some s=>simp_all
theorem pY.aX{P:Program}{k:Nat}{w w':World}{b:Nat}{o:MO}(h:pY P k w b o)(j:w'.heap[b]?=w.heap[b]?)(A:∀m n f l c,o = .it m n f l c→w'.heap[m]?=w.heap[m]?):pY P k w' b o:=by
 cases o with
 | mp n f =>
  obtain⟨d,⟨g,e,a,v⟩,i⟩:=h;exact⟨d,⟨g,e,j.trans a,v⟩,i⟩
 | it m n f l c =>
  obtain⟨d,s,u,⟨g,e,E,seen,t,a,r,B,z,q,D⟩,i,x,y⟩:=h;have p:=A _ _ _ _ _ rfl;exact⟨d,s,u,⟨g,e,E,seen,t,p.trans a,r,B,z,j.trans q,D⟩,i,x,λF G C=>Il j p q a (y F G C)⟩
structure iG (P:Program) (k B0:Nat) (g:Gh) (M:Mp):Prop where
 of:∀b o,M b=some o→B0≤b∧g.lim b∧pY P k g.w b o
 it:∀b m n f l c,M b=some (.it m n f l c)→∃n' f',M m=some (.mp n' f')
theorem iG.zero(P:Program)(k b:Nat)(g:Gh):iG P k b g M0:=⟨λc j a=>(by cases a),λc h i e f d a=>(by cases a)⟩
theorem iG.ext{P:Program}{k d:Nat}{g g':Gh}{e:Mp}(h:iG P k d g e)(b:aT g g'):iG P k d g' e:=by
 refine⟨λa s i=>?_,h.it⟩;obtain⟨m,f,n⟩:=h.of a s i;refine⟨m,(b.lim a f).1,n.aX (b.lim a f).2 λc r l q j o=>?_⟩;subst o;obtain⟨u,t,p⟩:=h.it a c r l q j i;exact(b.lim c (h.of c _ p).2.1).2
theorem CU{g:Gh}{h:Z}(hi:Inv g h){w':World}(d:g.w.grownBy w' none)(E:w'.heap.size=g.w.heap.size+1):∃g':Gh,g'.w=w'∧aT g g'∧Inv g' h∧g'.lim g.w.heap.size:=by
 let g':Gh:=⟨w',g.ms,λa=>g.L a∨a=g.w.heap.size⟩
 have l:∀a,a<g.w.heap.size→w'.heap[a]?=g.w.heap[a]?:=λa b=>d.block a b (by simp)
 have x:iB g g':=⟨d.os,d.tape,d.output,d.size,λ_ _ k=>k,λa b=>⟨⟨by show a<w'.heap.size;have:=b.1;omega,λi=>by
  rcases i with i|i
  ·exact b.2 i
  ·have:=b.1;omega⟩,l a b.1⟩⟩
 have n:aT g g':=⟨x,λa b=>⟨⟨by show a<w'.heap.size;have:=b.1;omega,.inl b.2.1,b.2.2⟩,l a b.1⟩⟩
 refine⟨g',rfl,n,⟨hi.len,λf o B r1 e=>?_,hi.inj,λa b=>?_,λf j e=>?_⟩,?_,.inr rfl,λf j e=>?_⟩
 ·obtain⟨m,p,k,c⟩:=hi.live f o B r1 e;refine⟨m,p,k,?_,c.fR,c.pos,.inl c.hL,c.len,c.le,c.room,c.row,λy A r z q s=>?_⟩
  ·show ∃D,w'.heap[m.b]?=_∧_;rw[l m.b (hi.jS c.hL)];exact c.fy
  ·obtain⟨C,t,u,v⟩:=c.cell y A r z q s;exact⟨C,t,u,v.ext n⟩
 ·show a<w'.heap.size;rcases b with b|b
  ·have:=hi.L a b;omega
  ·omega
 ·show j.b<w'.heap.size;have:=hi.msb f j e;omega
 ·show g.w.heap.size<w'.heap.size;omega
 ·have:=hi.msb f j e;omega
theorem CV{n g:Gh}{h:Z}(f:aT n g)(hi:Inv g h){b:Nat}(M:n.w.heap.size≤b)(r:g.lim b){w':World}(d:g.w.grownBy w' (some b)):∃g':Gh,g'.w=w'∧aT n g'∧iB g g'∧Inv g' h∧(∀c,g.lim c→g'.lim c):=by
 let g':Gh:=⟨w',g.ms,g.L⟩
 have k:∀c,c<g.w.heap.size→c≠b→w'.heap[c]?=g.w.heap[c]?:=λc a C=>d.block c a (by simpa using λo=>C o)
 have s:iB g g':=⟨d.os,d.tape,d.output,d.size,λ_ _ j=>j,λc a=>⟨⟨hX a.1 d.size,a.2⟩,k c a.1 λo=>a.2 (o▸r.2.1)⟩⟩
 refine⟨g',rfl,⟨⟨d.os.trans f.os,d.tape.trans f.tape,d.output.trans f.output,gX f.size d.size,f.ms,λc a=>?_⟩,λc a=>?_⟩,s,⟨hi.len,λm t H r1 p=>?_,hi.inj,λc a=>hX (hi.L c a) d.size,λm F p=>hX (hi.msb m F p) d.size⟩,λc a=>⟨hX a.1 d.size,a.2⟩⟩
 ·obtain⟨i,q⟩:=f.fz c a;refine⟨⟨hX i.1 d.size,i.2⟩,(k c i.1 ?_).trans q⟩;have:=a.1;omega
 ·obtain⟨i,q⟩:=f.lim c a;refine⟨⟨hX i.1 d.size,i.2⟩,(k c i.1 ?_).trans q⟩;have:=a.1;omega
 ·obtain⟨l,u,j,e⟩:=hi.live m t H r1 p;refine⟨l,u,j,?_,e.fR,e.pos,e.hL,e.len,e.le,e.room,e.row,λD G x E v y=>?_⟩
  ·show ∃K,w'.heap[l.b]?=_∧_;rw[k l.b (hi.jS e.hL) (r.2.2 m l j)];exact e.fy
  ·obtain⟨I,z,A,B⟩:=e.cell D G x E v y;exact⟨I,z,A,B.hF s⟩
theorem eG.hF{n:Nat}{g g':Gh}{e:DE}{a:Act}(h:eG n g e a)(d:iB g g'):eG n g' e a:=⟨h.size,h.defers,λt b c=>(h.get t b c).hF d⟩
theorem pq{g:Gh}{v a:Value}(h:aB g v (.raw a)):v=a:=by cases h;rfl
theorem tw{g:Gh}{v:Value}{i:Int}(h:aB g v (.int .i64 i)):v = .int .i64 i:=by cases h;rfl
section
variable {P:Program} {X:Cx} {mt k:Nat} {g0 g:Gh} {h:Z} {nt:Nat} {e:DE} {a:Act} {M:Mp}
theorem xK(d:iG P k g0.w.heap.size g M){g':Gh}{b:Nat}(v:∀c,g.lim c→g'.lim c)(e:∀c,c<g.w.heap.size→c≠b→g'.w.heap[c]?=g.w.heap[c]?){c:Nat}{o:MO}(h:M c=some o)(q:c≠b)(r:∀m n f l a,o = .it m n f l a→m≠b):pY P k g'.w c o:=by
 obtain⟨u,j,p⟩:=d.of c o h;refine p.aX (e c j.1 q) λm n f l a i=>?_
 have:=r m n f l a i;subst i;obtain⟨x,t,s⟩:=d.it c m n f l a h;exact e m (d.of m _ s).2.1.1 this
theorem Mu (q:lr P mt k) (ab:aT g0 g) (hi:Inv g h) (cb:eR g X.gl) (ch:eG nt g e a) (i:iG P k g0.w.heap.size g M) {o:Oper} (ak:o.guard=none) {bm:MK} (c:xI X mt o.op e M bm=some ()) {bu:Array Oper} {bw:List Oper} {Q:Exit→Act→World→Prop}
  (ae:∀d bo g' v,bm d bo=some ()→aT g0 g'→iB g g'→Inv g' h→iG P k g0.w.heap.size g' bo→aB g' v d→wpList P bu Q bw (a.put o.dst v) g'.w):wpList P bu Q (o::bw) a g.w:=by
 have ev:∀{j:Operand} {d:D},hh X e j=some d→aB g (a.eval j) d:=λ{j d} az=>qn cb (λau d _ F=>ch.get au d F) az
 have av:=Maps.int_keyed q.hk;unfold xI at c;split at c
 ·
  rename_i au H;split at c
  case h_2=>cases c
  have c:=l6.1 c g.w.heap.size;have bj:M g.w.heap.size=none:=by
   cases x:M g.w.heap.size with
   |none=>rfl
   |some G=>have:=(i.of _ _ x).2.1.1;omega
  have c:=kY.1 c bj;obtain⟨g',B,aj,am,E⟩:=CU hi (w':=g.w.alloc (.map #[] 0)) (World.grownBy_alloc g.w _ none) (sX _ _);refine wpList_plain ak λb2 bc=>?_
  unfold Oper.wp;have bk:(execOp a.eval o).run P g.w = .ok (.value (.map (some g.w.heap.size))) (g.w.alloc (.map #[] 0)):=by simp[execOp,H,show(Instr.makeMap au none).run P g.w = .ok (.map (some g.w.heap.size)) (g.w.alloc (.map #[] 0))from rfl,Result.andThen]
  rw[bk,nk,← B];refine bc _ _ (ae _ _ g' _ c (ab.trans aj) aj.toiB am ⟨λs G b=>?_,λs r m n R f b=>?_⟩ (.raw _))
  ·unfold Mp.set at b;split at b
   ·rename_i ai;injection b with b;subst b;subst ai;refine⟨ab.size,E,.map [],?_,iH.empty⟩;rw[B];exact World.ownsMap_made g.w P k _
   ·exact(i.ext aj).of s G b
  ·unfold Mp.set at b;split at b
   ·cases b
   ·obtain⟨C,A,p⟩:=i.it s r m n R f b;have:=(i.of _ _ p).2.1.1;refine⟨C,A,?_⟩;unfold Mp.set;rw[bV (by omega)];exact p
 ·
  rename_i au r j cq H;split at c
  case h_2=>cases c
  rename_i a3 b5 F aa a4;have F:=gF F;subst F;unfold qY at c;split at c
  case h_2=>cases c
  rename_i s ag;split at c
  case h_2=>cases c
  rename_i m n an;obtain⟨ap,c⟩:=ow.1 c;obtain⟨ac,ad,z,aq,L⟩:=i.of s _ an;obtain⟨ci,cj⟩:=L.2 ag ap;have aw:∀f,z.atKey (.int .i64 ag) (.lit (.int .i64 0)) = .lit (.int .i64 f)→f=(n ag).getD 0:=λf u=>by
   rw[cj]at u;cases ax:n ag with
   |none=>rw[ax]at u;simp at u;simp[u]
   |some G=>rw[ax]at u;simp at u;simp[u]
  cases cq with
  | false =>
   refine wpList_lookup_own_int g.w ak r j _ H k k .i64 av q.ht q.hk (q.z _) s m z (pq (ev aa)) aq _ _ (tw (ev a4)) (q.key ap) λf u _=>?_
   rw[aw f u];exact ae _ _ g _ c ab (aT.refl g).toiB hi i (.int _ _)
  | true =>
   refine wpList_lookup_own_ok_int g.w ak r j _ H k k .i64 av q.ht q.hk (q.z _) s m z (pq (ev aa)) aq _ _ (tw (ev a4)) (q.key ap) λf u _=>?_
   rw[aw f u,ci];refine ae _ _ g _ c ab (aT.refl g).toiB hi i (.bN [_,_] [_,_] rfl λN v d y K=>?_)
   match N with
   |0=>cases y;cases K;exact .int _ _
   |1=>cases y;cases K;exact .bool _
   |N+2=>cases y
 ·
  rename_i au r j v H;split at c
  case h_2=>cases c
  rename_i a3 b5 cs F aa a4 b6;have F:=gF F;subst F;unfold pf at c;split at c
  case h_2=>cases c
  rename_i s ag f;split at c
  case h_2=>cases c
  rename_i m n an;obtain⟨⟨ap,bg,cu⟩,c⟩:=ow.1 c;obtain⟨ac,ad,z,aq,L⟩:=i.of s _ an;refine wpList_mapUpdate_own g.w ak r j v _ H k k av q.ht (plainElem P k) s m z (pq (ev aa)) aq (by unfold maxLen;omega) _ _ _ (tw (ev a4)) (tw (ev b6)) (q.key ap) _ [] (plainElem_int q.hk (mL.2 bg)) λw' cf al=>?_
  obtain⟨g',B,bd,be,am,E⟩:=CV ab hi ac ad al;have a7:∀f,f<g.w.heap.size→f≠s→g'.w.heap[f]?=g.w.heap[f]?:=λf u af=>by rw[B];exact al.block f u (by simpa using λl=>af l)
  rw[← B];refine ae _ _ g' _ c bd be am ⟨λah G b=>?_,λah r m n R f b=>?_⟩ .bG
  ·unfold Mp.nY at b;split at b
   ·rename_i ai;injection b with b;subst b;subst ai;refine⟨ac,E _ ad,_,?_,iH.put q L ap⟩;rw[B];exact cf
   ·rename_i af;split at b
    ·rename_i co cp b7 cn b3 x;split at b
     ·cases b
     ·rename_i bh;injection b with b;subst b;obtain⟨a0,a1,bv⟩:=i.of _ _ x;exact⟨a0,E _ a1,xK i E a7 x af λr m n R I l=>by injection l with l;subst l;exact bh⟩
    ·rename_i bi;obtain⟨a0,a1,bv⟩:=i.of _ _ b;exact⟨a0,E _ a1,xK i E a7 b af λr m n R I l=>absurd (l▸b) (bi r m n R I)⟩
  ·unfold Mp.nY at b;split at b
   ·cases b
   ·split at b
    ·rename_i co cp b7 cn b3 x;split at b
     ·cases b
     ·rename_i bh;injection b with b;injection b with a2 bx bz b0 b1;subst a2;obtain⟨C,A,cm⟩:=i.it _ _ _ _ _ _ x;exact⟨C,A,by unfold Mp.nY;rw[bV bh,cm]⟩
    ·rename_i bi;exact absurd b (bi _ _ _ _ _)
 ·
  rename_i au r H;split at c
  case h_2=>cases c
  rename_i a3 F aa;have F:=gF F;subst F;unfold q0 at c;split at c
  case h_2=>cases c
  rename_i s;split at c
  case h_2=>cases c
  rename_i m n an;obtain⟨ac,ad,z,aq,L⟩:=i.of s _ an;have c:=l6.1 c g.w.heap.size;have bj:M g.w.heap.size=none:=by
   cases x:M g.w.heap.size with
   |none=>rfl
   |some G=>have:=(i.of _ _ x).2.1.1;omega
  have c:=kY.1 c bj;refine wpList_range_own g.w ak r _ H k k av q.ht (plainElem P k) s m z (pq (ev aa)) aq λw' a8 al br=>?_
  obtain⟨g',B,aj,am,E⟩:=CU hi al br;rw[← B];refine ae _ _ g' _ c (ab.trans aj) aj.toiB am ⟨λah G b=>?_,λah r m n R f b=>?_⟩ (.raw _)
  ·unfold Mp.set at b;split at b
   ·rename_i ai;injection b with b;subst b;subst ai;refine⟨ab.size,E,z,Maps.has z,Maps.size z,?_,L,λj az=>(L.2 j az).1,λj f l=>by cases l⟩;rw[B];exact a8
   ·exact(i.ext aj).of ah G b
  ·have ay:∀I G,M I=some G→∀T,(M.set g.w.heap.size T) I=some G:=λI G x T=>by
     have:=(i.of _ _ x).2.1.1;unfold Mp.set;rw[bV (by omega)];exact x
   unfold Mp.set at b;split at b
   ·injection b with b;injection b with a2 bx bz b0 b1;subst a2;exact⟨_,_,ay _ _ an _⟩
   ·obtain⟨C,A,p⟩:=i.it ah r m n R f b;exact⟨C,A,ay _ _ p _⟩
 ·
  rename_i ag H;split at c
  case h_2=>cases c
  rename_i a3 aa;unfold qZ at c;split at c
  case h_2=>cases c
  rename_i ar;split at c
  case h_2=>cases c
  rename_i s m n R cr ao;obtain⟨cw,cc,cd⟩:=gG.1 c;obtain⟨ac,ad,z,bn,bp,a8,L,a5,bq⟩:=i.of ar _ ao;refine wpList_next_ranges_ii g.w ak ag H k k .i64 .i64 av q.hk q.hk s ar m z bn bp (pq (ev aa)) a8 (λ_ b9=>?_) (λj f w' b4 cl ck b8 aw cg ct al br bf=>?_)
  ·refine ae _ _ g _ (kY.1 cc λj az=>by rw[← a5 j az];exact b9 _) ab (aT.refl g).toiB hi i (.bN [_] [_] rfl λN v d y K=>?_)
   match N with
   |0=>cases y;cases K;exact .bool _
   |N+1=>cases y
  ·have a6:=mL.1 cl;have bg:=mL.1 ck;have ca:n j=some f:=by
    have p:=(L.2 j a6).1;have ba:=(L.2 j a6).2;rw[Maps.has_true_of_atKey aw]at p;cases ax:n j with
    |none=>rw[ax]at p;cases p
    | some G =>
     have bb:=ba (.lit (.int .i64 0));rw[aw,ax]at bb;simp at bb;rw[bb]
   have c:=kY.1 (l6.1 cd (j,f)) ⟨a6,bg,by rw[← a5 j a6];exact b8,ca⟩;obtain⟨g',B,bd,be,am,E⟩:=CV ab hi ac ad al;have a7:∀f,f<g.w.heap.size→f≠ar→g'.w.heap[f]?=g.w.heap[f]?:=λf u af=>by rw[B];exact al.block f u (by simpa using λl=>af l)
   rw[← B];refine ae _ _ g' _ c bd be am ⟨λah G b=>?_,λah r m n R f b=>?_⟩ (.bN [_,_,_] [_,_,_] rfl λN v d y K=>?_)
   ·unfold Mp.set at b;split at b
    ·rename_i ai;injection b with b;subst b;subst ai;refine⟨ac,E _ ad,z,_,b4,by rw[B];exact cg,L,λT bt=>?_,λT I l=>?_⟩
     ·have:(Lit.int .i64 T).sameKey (.int .i64 j)=(T==j):=by
        by_cases bl:T=j
        ·subst bl;rw[WideAt.sameKey_self (q.isKey bt)];simp
        ·rw[Maps.sameKey_ne (λl=>bl (by injection l))];simp[bl]
      rw[a5 T bt,this]
     ·injection l with l;injection l with p ba;subst p;subst ba;rw[B];exact bf
    ·rename_i af;obtain⟨a0,a1,bv⟩:=i.of _ _ b;refine⟨a0,E _ a1,xK i E a7 b af λr m n R I l ce=>?_⟩;subst l;obtain⟨C,A,p⟩:=i.it _ _ _ _ _ _ b;rw[ce,ao]at p;cases p
   ·have ay:∀I C A,M I=some (.mp C A)→∀T,(M.set ar T) I=some (.mp C A):=λI C A x T=>by
      unfold Mp.set;rw[bV (λl=>by rw[l,ao]at x;cases x)];exact x
    unfold Mp.set at b;split at b
    ·injection b with b;injection b with a2 bx bz b0 b1;subst a2;obtain⟨C,A,p⟩:=i.it _ _ _ _ _ _ ao;exact⟨C,A,ay _ _ _ p _⟩
    ·obtain⟨C,A,p⟩:=i.it _ _ _ _ _ _ b;exact⟨C,A,ay _ _ _ p _⟩
   ·match N with
    |0=>cases y;cases K;exact .bool _
    |1=>cases y;cases K;exact .int _ _
    |2=>cases y;cases K;exact .int _ _
    |N+3=>cases y
 ·
  rename_i ag H;split at c
  case h_2=>cases c
  rename_i a3 aa;unfold qX at c;split at c
  case h_2=>cases c
  rename_i ar;split at c
  case h_2=>cases c
  rename_i r m n R a9 ao;obtain⟨ac,ad,z,bn,bp,a8,L,a5,bq⟩:=i.of ar _ ao;have bf:=bq a9.1 a9.2 rfl;refine wpList_plain ak λb2 bc=>?_
  unfold Oper.wp;have bk:(execOp a.eval o).run P g.w = .ok (.value (.tuple #[.int .i64 a9.1,.int .i64 a9.2])) g.w:=by simp[execOp,H,pq (ev aa),bf,Result.andThen]
  rw[bk,nk];refine bc _ _ (ae _ _ g _ c ab (aT.refl g).toiB hi i (.bN [_,_] [_,_] rfl λN v d y K=>?_))
  match N with
  |0=>cases y;cases K;exact .int _ _
  |1=>cases y;cases K;exact .int _ _
  |N+2=>cases y
 ·cases c
end
def kq:Code→Bool
 |.region _ c _=>c.toList.any λo=>Cj o.op
 |.seq a b=>kq a||kq b
 |.cond _ a b=>kq a||kq b
 |.block _ b=>kq b
 |.loop b=>kq b
 |_=>false
abbrev MB:=List D→Z→Mp→(Ex→List D→Z→Mp→Option Unit)→Option Unit
noncomputable def rv(c:Nat→List D→Z→Mp→Prop)(n:Nat)(d:Ex→List D→Z→Mp→Option Unit)(x:Ex)(ds:List D)(h:Z)(a:Mp):Option Unit:=match x with
 |.aO=>eL (∃b,b<n∧c b ds h a) (some ())
 |x=>d x ds h a
open Classical in
noncomputable def my(d:MB)(ds:List D)(h:Z)(a:Mp)(e:Ex→List D→Z→Mp→Option Unit):Option Unit:=
 if ∃(c:Nat→List D→Z→Mp→Prop) (b:Nat),c b ds h a∧∀b ds h a,c b ds h a→d ds h a (rv c b e)=some ()then some ()else none
theorem xG{c:MB}{ds:List D}{h:Z}{a:Mp}{d:Ex→List D→Z→Mp→Option Unit}(b:Nat→List D→Z→Mp→Prop)(n:Nat)(e:b n ds h a)(f:∀n ds h a,b n ds h a→c ds h a (rv b n d)=some ()):my c ds h a d=some ():=bE ⟨b,n,e,f⟩
noncomputable def mK(X:Cx)(j:cE)(l:iT)(f:mP)(mt:Nat):Code→DE→Z→Mp→(Ex→DE→Z→Mp→Option Unit)→Option Unit
 | .region id n o,e,h,i,g=>match kq (.region id n o)with
  |false=>cK X j l f (.region id n o) e h Unit λx e' h'=>g x e' h' i
  | true=>match o with
   |false=>q5 X j f.nt f.fz f.eZ mt n.toList n.toList e h i (g .aO)
   |true=>none
 | .seq a b,e,h,i,g=>match kq (.seq a b)with
  |false=>cK X j l f (.seq a b) e h Unit λx e' h'=>g x e' h' i
  |true=>mK X j l f mt a e h i λx e' h' m=>toEnd x (mK X j l f mt b e' h' m g) λx=>g x e' h' m
 | .cond c a b,e,h,i,g=>match kq (.cond c a b)with
  |false=>cK X j l f (.cond c a b) e h Unit λx e' h'=>g x e' h' i
  | true=>match hh X e c with
   |none=>none
   |some d=>aK d (mK X j l f mt a e h i g) (mK X j l f mt b e h i g)
 | .block id b,e,h,i,g=>match kq (.block id b)with
  |false=>cK X j l f (.block id b) e h Unit λx e' h'=>g x e' h' i
  |true=>mK X j l f mt b e h i λx e' h' m=>g (bJ id x) e' h' m
 | .loop b,e,h,i,g=>match kq (.loop b)with
  |false=>cK X j l f (.loop b) e h Unit λx e' h'=>g x e' h' i
  |true=>my (λds h' m k=>mK X j l f mt b (gw (gu f.aX b) ds (kz f.aX b e)) h' m λx e' q p=>k x (ie e' (gu f.aX b)) q p) (ie e (gu f.aX b)) h i
    λx ds h' m=>g x (gw (gu f.aX b) ds (kz f.aX b e)) h' m
 |c,e,h,i,g=>cK X j l f c e h Unit λx e' h'=>g x e' h' i
noncomputable def mF(X:Cx)(c:cE)(f:iT)(mt:Nat)(fi:fc)(args:List D)(h:Z)(b:D→Z→Option Unit):Option Unit:=match Nat.ble args.length fi.A.nt with
 |true=>mK X c f fi.A mt fi.body (gw (List.range args.length) args []) h M0 λg e a _=>cZ g (mE X a e fi.res λd=>b (aE d) a)
 |false=>none
section
variable {P:Program} {X:Cx} {mt k:Nat}
theorem q6(G:lr P mt k)(H:cC P X.T){ad:cE}(I:fV P X ad){ab:Nat}{fz ah:List Nat}{l:List Oper}{F:Gh}(C:eR F X.gl){Q:Exit→Act→World→Prop}:∀(ac:List Oper) (e:DE) (h:Z) (E:Mp) (M:DE→Z→Mp→Option Unit),q5 X ad ab fz ah mt l ac e h E M=some () →
  ∀(g:Gh) (a:Act),aT F g→Inv g h→eG ab g e a→iG P k F.w.heap.size g E→(∀e' h' b g' i,M e' h' b=some ()→(∀t,t∉eO ac→bK e' t=bK e t)→aT F g'→Inv g' h'→eG ab g' e' i→iG P k F.w.heap.size g' b→Q .normal i g'.w)→wpList P l.toArray Q ac a g.w
 |[],e,h,E,M,n,g,a,q,hi,p,L,D=>D e h E g a n (λ_ _=>rfl) q hi p L
 | o::r,e,h,E,M,n,g,a,q,hi,p,L,D=>by
  simp only[q5]at n;split at n
  ·split at n
   case h_2=>cases n
   rename_i aj;refine Mu G q hi (C.ext q) p L aj n λd b g' v m ae af K ag R=>?_
   rcases xT m with⟨c,m⟩|⟨t,c,N,m⟩
   ·rw[c];refine q6 G H I C r _ _ _ _ m g' a ae K (p.hF af) ag λe' h' b g' i s k2 u x y z=>D e' h' b g' i s (λA f=>k2 A λj=>f ?_) u x y z
    simp only[eO,mW,c]at j ⊢;exact j
   ·rw[c];refine q6 G H I C r _ _ _ _ m g' _ ae K ((p.hF af).put N R) ag λe' h' b g' i s k2 u x y z=>D e' h' b g' i s (λA f=>?_) u x y z
    simp only[eO,mW,c,eI,not_or]at f;rw[k2 A f.2,ib,bV (λj=>f.1 j.symm)]
  ·obtain⟨d,h',al,ai⟩:=tp n;have am:ot P l.toArray Q o a g (wpList P l.toArray Q r):=by
    refine ra H I al hi (C.ext q) (λt d _ an=>p.get t d an) λg' v B K R _=>?_
    rcases ai with⟨c,m⟩|⟨t,c,N,m⟩
    ·rw[c];refine q6 G H I C r _ _ _ _ m g' a (q.trans B) K (p.ext B) (L.ext B) λe' h' b g' i s k2 u x y z=>D e' h' b g' i s (λA f=>k2 A λj=>f ?_) u x y z
     simp only[eO,mW,c]at j ⊢;exact j
    ·rw[c];refine q6 G H I C r _ _ _ _ m g' _ (q.trans B) K ((p.ext B).put N R) (L.ext B) λe' h' b g' i s k2 u x y z=>D e' h' b g' i s (λA f=>?_) u x y z
     simp only[eO,mW,c,eI,not_or]at f;rw[k2 A f.2,ib,bV (λj=>f.1 j.symm)]
   unfold wpList;rcases am with⟨aa,ao⟩|⟨aa,ak⟩
   ·rw[bE aa];exact .inl ao
   ·rw[bV (by simp[aa])];exact ak
theorem Ms (bf:lr P mt k) (a5:cC P X.T) (bn:P.follows .mixedOrders=true) {am:cE} (a6:fV P X am) {loop:iT} (bl:oj loop) {p:mP} {v:Gh} (ap:eR v X.gl):∀(c:Code) (e:DE) (h:Z) (d:Mp) (f:Ex→DE→Z→Mp→Option Unit),mK X am loop p mt c e h d f=some () →
  ∀(Q:Exit→Act→World→Prop) (g:Gh) (a:Act),aT v g→Inv g h→eG p.nt g e a→iG P k v.w.heap.size g d→(∀x e' h' y g' A,f x e' h' y=some ()→lv p.aX c e e'→aT v g'→Inv g' h'→eG p.nt g' e' A→iG P k v.w.heap.size g' y→Q (cv x) A g'.w)→c.wp P Q a g.w:=by
 have r:∀(c:Code) (e:DE) (h:Z) (d:Mp) (f:Ex→DE→Z→Mp→Option Unit),(cK X am loop p c e h Unit λx e' h'=>f x e' h' d)=some () →
  ∀(Q:Exit→Act→World→Prop) (g:Gh) (a:Act),aT v g→Inv g h→eG p.nt g e a→iG P k v.w.heap.size g d→(∀x e' h' y g' A,f x e' h' y=some ()→lv p.aX c e e'→aT v g'→Inv g' h'→eG p.nt g' e' A→iG P k v.w.heap.size g' y→Q (cv x) A g'.w)→c.wp P Q a g.w:=λc e h d f b Q g a o t q u n =>
  AP a5 bn a6 bl c e h Unit _ () b Q g a t (ap.ext o) q λx e' h' g' A ax ay ak az a0=>n x e' h' d g' A ax ay (o.trans ak) az a0 (u.ext ak)
 intro c
 induction c with
 |skip=>intro e h d f b;exact r _ e h d f b
 |label a1=>intro e h d f b;exact r _ e h d f b
 |ret=>intro e h d f b;exact r _ e h d f b
 |exit D=>intro e h d f b;exact r _ e h d f b
 |goto a1=>intro e h d f b;exact r _ e h d f b
 |scope B aj=>intro e h d f b;exact r _ e h d f b
 |refuse a8=>intro e h d f b;exact r _ e h d f b
 |rangeFunc bx b2 bv B b0 b1=>intro e h d f b;exact r _ e h d f b
 | region id bu bw =>
  intro e h d f b;simp only[mK]at b;split at b
  ·exact r _ e h d f b
  ·intro Q g a o t q u n;obtain⟨a1⟩:=bu;split at b
   ·refine wp_region_lit (q6 bf a5 a6 ap a1 e h d (f .aO) b g a o t q u λe' h' y g' A ax ay ak az a0 bq=>?_);exact n .aO e' h' y g' A ax (λj _ ai=>ay j (by rw[vm]at ai;exact ai)) ak az a0 bq
   ·cases b
 | seq x a9 av aw =>
  intro e h d f b;simp only[mK]at b;split at b
  ·exact r _ e h d f b
  ·intro Q g a o t q u n;refine wp_seq (av e h d _ b _ g a o t q u λbb z i s w m ar bo R F K G=>?_);have au:∀j,j∈p.aX→j∉eP (.seq x a9)→bK z j=bK e j:=λj i l=>bo j i (λE=>l (by simp[eP,E]))
   cases bb with
   | aO =>
    refine aw z i s f ar Q w m R F K G λa4 ao l L M af bj ac bh aa ad ab=>n a4 ao l L M af bj (λj i l=>?_) bh aa ad ab
    rw[ac j i (λE=>l (by simp[eP,E])),au j i l]
   |ext D=>exact n (.ext D) z i s w m ar au R F K G
   |ret=>exact n .ret z i s w m ar au R F K G
 | cond a3 x a9 av aw =>
  intro e h d f b;simp only[mK]at b;split at b
  ·exact r _ e h d f b
  ·intro Q g a o t q u n;split at b
   ·cases b
   rename_i an bg;have a7:aB g (a.eval a3) an:=qn (ap.ext o) (λj an _ ai=>q.get j an ai) bg;obtain⟨B,rfl,ah⟩:=vd b;have I:a.eval a3 = .bool B:=by
    generalize bz:a.eval a3=b3 at a7;cases a7;rfl
   cases B with
   |true=>exact wp_cond_true I (av e h d f ah Q g a o t q u λae z i s w m C H=>n ae z i s w m C (λj i l=>H j i (λE=>l (by simp[eP,E]))))
   |false=>exact wp_cond_false I (aw e h d f ah Q g a o t q u λae z i s w m C H=>n ae z i s w m C (λj i l=>H j i (λE=>l (by simp[eP,E]))))
 | block id B aj =>
  intro e h d f b;simp only[mK]at b;split at b
  ·exact r _ e h d f b
  ·intro Q g a o t q u n;have bp:∀(x:Ex) (m:Act) (al:World),Q (cv (bJ id x)) m al→Exit.inBlock id Q (cv x) m al:=λx m al I=>by
    cases x with
    |aO=>exact I
    |ret=>exact I
    | ext D =>
     simp only[cv,Exit.inBlock];by_cases aq:D=id
     ·subst aq;rw[bE rfl];simpa[bJ,cv]using I
     ·rw[bV aq];have:Nat.beq D id=false:=by
       cases ah:Nat.beq D id with
       |false=>rfl
       |true=>exact absurd (gF ah) aq
      simpa[bJ,this,cv]using I
   exact wp_block (aj e h d _ b _ g a o t q u λae z i s w m C H N F K G=>bp _ _ _ (n (bJ id ae) z i s w m C H N F K G))
 | loop B aj =>
  intro e h d f b;simp only[mK]at b;split at b
  ·exact r _ e h d f b
  ·intro Q g a o t q u n;unfold my at b;split at b
   case isFalse=>cases b
   rename_i bi;obtain⟨ba,bt,be,bc⟩:=bi;refine wp_loop_ghost (λa2 a a8=>∃ag h' y g',a8=g'.w∧aT v g'∧Inv g' h'∧eG p.nt g' (gw (gu p.aX B) ag (kz p.aX B e)) a∧iG P k v.w.heap.size g' y∧ba a2 ag h' y) bt
    ⟨_,h,d,g,rfl,o,t,kZ (e':=e) (λ_ _ _=>rfl) q,u,be⟩ ?_
   rintro a2 m al ⟨ag,i,s,w,rfl,R,F,K,G,bk⟩;refine aj _ i s _ (bc a2 ag i s bk) _ w m R F K G λa4 ao l L M af C H N aa ad ab=>?_
   have ac:lv p.aX B e ao:=λj i l=>by
    rw[H j i l];exact mn j i l
   cases a4 with
   | aO =>
    obtain⟨⟨br,bm,bd⟩,_⟩:=ow.1 C;exact⟨br,bm,_,l,L,M,rfl,N,aa,kZ ac ad,ab,bd⟩
   |ext D=>exact n (.ext D) _ l L M af C mn N aa (kZ ac ad) ab
   |ret=>exact n .ret _ l L M af C mn N aa (kZ ac ad) ab
theorem Mr (M:lr P mt k) (z:cC P X.T) (ag:P.follows .mixedOrders=true) {v:cE} (Q:fV P X v) {K:iT} (af:oj K) {f:FuncId} {fi:fc} (B:bM P f fi) {args:List D} {h:Z} {r:D × Z}
  (m:(mF X v K mt fi args h λd h'=>eL (scope h h' d=some r) (some ()))=some ()) {g:Gh} {vs:List Value} (hi:Inv g h) (ac:eR g X.gl) (H:aW g vs args):jo P f vs g r.2 r.1:=by
 refine .inl ⟨B.enter _ _,?_⟩;obtain⟨y,ab,N,ah,ak⟩:=B.body;unfold mF at m;split at m
 case h_2=>cases m
 rename_i G;have G:=dL G;have az:=H.length;refine calls_of_wp ab N (Ms M z ag Q af ac fi.body _ h _ _ m _ g _ (aT.refl g) hi ⟨by simp[ah];omega,rfl,λs l ap=>?_⟩ (iG.zero P k _ g) λl L c au o u q ay R E I ax=>?_)
 ·have ar:∀(i:List Nat) (b:List D),i.length=b.length→bK (gw i b []) s=some l→∃a:Nat,i[a]?=some s∧b[a]?=some l:=by
    intro i
    induction i with
    |nil=>intro b _ h;cases h
    | cons t r aq =>
     intro b F h;cases b with
     |nil=>cases F
     | cons d b =>
      simp only[gw,qJ,rz]at h;rw[ib]at h;split at h
      ·rename_i am;injection h with h;exact⟨0,by simp[am],by simp[h]⟩
      ·obtain⟨a,p,c⟩:=aq b (by simpa using F) h;exact⟨a+1,by simpa using p,by simpa using c⟩
  obtain⟨a,p,c⟩:=ar _ _ (by simp) ap;have ae:a=s:=by
   have:=(aZ.1 p).2;simpa using this
  subst ae;have aw:=(aZ.1 c).1;have C:vs[a]?=some (vs[a]'(by omega)):=cA (by omega);have:(vs.toArray++Array.replicate (y.ntmps - vs.toArray.size) undef).getD a undef=vs[a]'(by omega):=by
   rw[dS,ua (by simp;omega)];simp[C]
  rw[this];exact H.get a _ l C c
 ·have x:(mE X c L fi.res λb=>eL (scope h c (aE b)=some r) (some ()))=some ()→u.defers=[]∧∃j,(results y u.tmps).run P o.w = .ok j o.w∧∃t,Ending.returned j = .returned t∧∃e,e.w=o.w∧aT g e∧Inv e r.2∧aB e t r.1:=λn=>by
    refine⟨I.defers,?_⟩;rw[tz]at n;obtain⟨b,A,n⟩:=gG.1 n;have al:=(ow.1 n).1;rw[← ak]at A;obtain⟨j,an,ai⟩:=xY z E I A;obtain⟨e,ao,aa,ad,aj⟩:=Eb hi R E ai al;exact⟨j,an,j,rfl,e,ao,aa,ad,aj⟩
  cases l with
  |ext a=>cases q
  |aO=>exact x q
  |ret=>exact x q
end
end Go.Pi
namespace Go.Eng
abbrev gx:=@List.mem_singleton
abbrev jz:=@List.take_add_one
abbrev uF:=@List.getElem_range
abbrev uH:=@List.length_range
abbrev uJ:=@List.nodup_cons
abbrev Af:=@List.nodup_append
end Go.Eng
namespace Go.Proofs.YtinlnkhheafjaaaDoor
open Go.Eng Go.Pi
open Option renaming bind_some → Qd
section
structure jB (lt:Nat→Nat→Prop):Prop where
 ir:∀a,¬lt a a
 tr:∀a b c,lt a b→lt b c→lt a c
 nV:∀a b,lt a b∨a=b∨lt b a
theorem jB.nn{lt:Nat→Nat→Prop}(d:jB lt){a b c:Nat}(h:¬lt b a)(k:¬lt c b):¬lt c a:=λg=>by
 rcases d.nV a b with e|e|e
 ·rcases d.nV b c with f|f|f
  ·exact d.ir _ (d.tr _ _ _ (d.tr _ _ _ e f) g)
  ·subst f;exact d.ir _ (d.tr _ _ _ e g)
  ·exact k f
 ·subst e;exact k g
 ·exact h e
theorem jB.as{lt:Nat→Nat→Prop}(c:jB lt){a b:Nat}(h:lt a b):¬lt b a:=λd=>c.ir _ (c.tr _ _ _ h d)
def jd(f:Nat→Nat)(i j:Nat):Nat→Nat:=λa=>if a=i then f j else if a=j then f i else f a
theorem oq(f:Nat→Nat)(i j:Nat):jd f i j i=f j:=by simp[-Qd,jd]
theorem p4(f:Nat→Nat)(i j:Nat):jd f i j j=f i:=by unfold jd;split<;>simp_all [-Qd]
theorem kM{f:Nat→Nat}{i j k:Nat}(a:k≠i)(h2:k≠j):jd f i j k=f k:=by simp[-Qd,jd,a,h2]
def gj(lt:Nat→Nat→Prop)(f:Nat→Nat)(n:Nat):Prop:=∀a,0<a→a<n→¬lt (f a) (f ((a - 1) / 2))
structure p3 (lt:Nat→Nat→Prop) (f:Nat→Nat) (n j:Nat):Prop where
 xH:j<n
 h:∀k,0<k→k<n→k≠j→¬lt (f k) (f ((k - 1) / 2))
 g:∀k,0<j→k<n→0<k→(k - 1) / 2=j→¬lt (f k) (f ((j - 1) / 2))
theorem Fl{lt:Nat→Nat→Prop}{f g:Nat→Nat}{n:Nat}(h:gj lt f n)(b:∀k,k<n→g k=f k):p3 lt g (n+1) n:=by
 refine⟨by omega,λk a c e=>?_,λk a c d i=>by omega⟩;rw[b k (by omega),b _ (by omega)];exact h k a (by omega)
theorem Fo{lt:Nat→Nat→Prop}{f:Nat→Nat}{n j:Nat}(h:p3 lt f n j)(a:j=0∨¬lt (f j) (f ((j - 1) / 2))):gj lt f n:=λc d e=>by
 by_cases b:c=j
 ·subst b;rcases a with a|a
  ·omega
  ·exact a
 ·exact h.h c d e b
theorem Fm{lt:Nat→Nat→Prop}(i:jB lt){f:Nat→Nat}{n j:Nat}(h:p3 lt f n j)(r:0<j)(l:lt (f j) (f ((j - 1) / 2))):p3 lt (jd f ((j - 1) / 2) j) n ((j - 1) / 2):=by
 obtain⟨c,k⟩:∃c,c=(j - 1) / 2:=⟨_,rfl⟩
 rw[← k]at l ⊢;have w:=h.xH;refine⟨by omega,λa e d t=>?_,λa v d e u=>?_⟩
 ·by_cases b:a=j
  ·subst b;rw[← k,p4,oq];exact i.as l
  ·rw [kM t b];by_cases m:(a - 1) / 2=c
   ·rw[m,oq];have:=h.h a e d b;rw[m]at this;exact λs=>this (i.tr _ _ _ s l)
   ·by_cases o:(a - 1) / 2=j
    ·rw[o,p4];have:=h.g a r d e o;rw[← k]at this;exact this
    ·rw[kM m o];exact h.h a e d b
 ·have q:jd f c j ((c - 1) / 2)=f ((c - 1) / 2):=kM (by omega) (by omega);rw[q];have p:=h.h c v (by omega) (by omega);by_cases b:a=j
  ·subst b;rw[p4];exact p
  ·rw[kM (by omega) b];have:=h.h a e d b;rw[u]at this;exact i.nn p this
structure p0 (lt:Nat→Nat→Prop) (f:Nat→Nat) (n i:Nat):Prop where
 h:∀k,0<k→k<n→(k - 1) / 2≠i→¬lt (f k) (f ((k - 1) / 2))
 g:∀k,0<k→k<n→(k - 1) / 2=i→0<i→¬lt (f k) (f ((i - 1) / 2))
theorem E5{lt:Nat→Nat→Prop}{f g:Nat→Nat}{n:Nat}(h:gj lt f (n+1))(b:∀k,0<k→k<n→g k=f k):p0 lt g n 0:=by
 refine⟨λk a c d=>?_,λk a c d e=>by omega⟩;rw[b k a c,b _ (by omega) (by omega)];exact h k a (by omega)
theorem E7{lt:Nat→Nat→Prop}{f:Nat→Nat}{n i:Nat}(h:p0 lt f n i)(d:∀k,0<k→k<n→(k - 1) / 2=i→¬lt (f k) (f i)):gj lt f n:=λk c b=>by
 by_cases a:(k - 1) / 2=i
 ·rw[a];exact d k c b a
 ·exact h.h k c b a
theorem E6{lt:Nat→Nat→Prop}(o:jB lt){f:Nat→Nat}{n i j:Nat}(h:p0 lt f n i)(t:0<j)(q:j<n)(d:(j - 1) / 2=i)(s:∀k,0<k→k<n→(k - 1) / 2=i→¬lt (f k) (f j))(r:lt (f j) (f i)):p0 lt (jd f i j) n j:=by
 refine⟨λk a b e=>?_,λk a b e _=>?_⟩
 ·by_cases m:k=j
  ·subst m;rw[d,p4,oq];exact o.as r
  ·by_cases l:k=i
   ·subst l;have p:jd f k j ((k - 1) / 2)=f ((k - 1) / 2):=kM (by omega) (by omega);rw[p,oq];exact h.g j t q d a
   ·rw[kM l m];by_cases c:(k - 1) / 2=i
    ·rw[c,oq];exact s k a b c
    ·rw[kM c e];exact h.h k a b c
 ·rw[d,oq,kM (by omega) (by omega)];have:=h.h k a b (by omega);rw[e]at this;exact this
theorem Fg{lt:Nat→Nat→Prop}(a:jB lt){f:Nat→Nat}{n:Nat}(h:gj lt f n):∀k,k<n→¬lt (f k) (f 0):=by
 intro k
 induction k using Nat.strongRecOn with
 | ind k d =>
  intro c;by_cases b:k=0
  ·subst b;exact a.ir _
  ·exact a.nn (d ((k - 1) / 2) (by omega) (by omega)) (h k (by omega) c)
def aJ(l:List Nat)(k:Nat):Nat:=l[k]?.getD 0
def je(l:List Nat)(i j:Nat):List Nat:=(l.set i (aJ l j)).set j (aJ l i)
theorem r4(l:List Nat)(i j:Nat):(je l i j).length=l.length:=by simp[-Qd,je]
theorem r3{l:List Nat}{i j:Nat}(hi:i<l.length)(c:j<l.length):∀k,aJ (je l i j) k=jd (aJ l) i j k:=λk=>by
 unfold je aJ jd;by_cases b:k=j
 ·subst b;rw[jR (by simpa using c)];by_cases a:k=i
  ·subst a;simp[-Qd]
  ·simp[-Qd,a]
 ·rw[iD (by omega)];by_cases a:k=i
  ·subst a;rw[jR hi];simp[-Qd]
  ·rw[iD (by omega)];simp[-Qd,b,a]
theorem r5{l:List Nat}{i j:Nat}(hi:i<l.length)(a:j<l.length):(je l i j).Perm l:=by
 have b:aJ l i=l[i]:=by simp[-Qd,aJ,cA hi]
 have c:aJ l j=l[j]:=by simp[-Qd,aJ,cA a]
 unfold je;rw[b,c];exact List.set_set_perm hi a
end
section
theorem np:∀{l r:List Nat},l.Nodup→(∀x∈l,x∈r)→l.length≤r.length
 |[],r,_,_=>by simp
 | a::l,r,h,k=>by
  have b:=uJ.1 h;have c:a∈r:=k a (by simp);have f:=np (r:=r.erase a) b.2 λx d=>(List.mem_erase_of_ne (λe=>b.1 (by rw[← e];exact d))).2 (k x (by simp[-Qd,d]))
  have g:=List.length_erase_of_mem c;have i:0<r.length:=List.length_pos_of_mem c;simp only[eF];omega
variable (n:Nat) (fl rk:Nat→Int)
def cY(a b:Nat):Prop:=rk b<rk a∨(rk a=rk b∧a<b)
instance (a b:Nat):Decidable (cY rk a b):=by unfold cY;exact inferInstance
theorem iI:jB (cY rk):=by
 refine⟨λa=>?_,λa b c=>?_,λa b=>?_⟩<;>unfold cY<;>omega
def fX(ps:List Nat)(i:Nat):Prop:=i<n∧i∉ps∧∀a,a<i→fl a=fl i→a∈ps
inductive eE:List Nat→Prop
 |nil:eE []
 |snoc {ps:List Nat} {b:Nat} (h:eE ps) (hf:fX n fl ps b) (hm:∀i,fX n fl ps i→¬cY rk i b):eE (ps++[b])
variable {n fl rk}
theorem eE.inv{l:List Nat}(h:eE n fl rk l):l=[]∨∃ps b,l=ps++[b]∧eE n fl rk ps∧fX n fl ps b∧∀i,fX n fl ps i→¬cY rk i b:=by
 cases h with
 |nil=>exact .inl rfl
 |snoc h a c=>exact .inr ⟨_,_,rfl,h,a,c⟩
theorem eE.Bc:∀(m:Nat) {l r:List Nat},eE n fl rk l→eE n fl rk r→l.length=m→r.length=m→l=r
 |0,l,r,_,_,a,d=>by rw[List.length_eq_zero_iff.1 a,List.length_eq_zero_iff.1 d]
 | m+1,l,r,h,k,a,d=>by
  rcases h.inv with rfl|⟨ps,b,rfl,e,h2,f⟩
  ·simp at a
  rcases k.inv with rfl|⟨j,c,rfl,g,k2,i⟩
  ·simp at d
  simp at a d;have:=eE.Bc m e g a d;subst this;have:b=c:=by
   rcases(iI rk).nV b c with h|h|h
   ·exact absurd h (i b h2)
   ·exact h
   ·exact absurd h (f c k2)
  rw[this]
theorem eE.mem{l:List Nat}(h:eE n fl rk l):∀x∈l,x<n:=by
 induction h with
 |nil=>simp[-Qd]
 | snoc h b d c =>
  intro x a;rcases eA.1 a with a|a
  ·exact c x a
  ·rw[gx.1 a];exact b.1
theorem eE.nodup{l:List Nat}(h:eE n fl rk l):l.Nodup:=by
 induction h with
 |nil=>exact List.nodup_nil
 | snoc h a f e =>
  rw[Af];exact⟨e,by simp,λg c i d=>by rw[gx.1 d];exact λb=>a.2.1 (b▸c)⟩
theorem eE.closed{l:List Nat}(h:eE n fl rk l):∀x∈l,∀k,k<x→fl k=fl x→k∈l:=by
 induction h with
 |nil=>simp[-Qd]
 | snoc h d f e =>
  intro x a k b c;rcases eA.1 a with a|a
  ·exact pW _ (e x a k b c)
  ·rw[gx.1 a]at b c;exact pW _ (d.2.2 k b c)
theorem eE.len{l:List Nat}(h:eE n fl rk l):l.length≤n:=by
 have:=np h.nodup λb a=>j9.2 (h.mem b a)
 simpa using this
theorem Am{ps:List Nat}(p:ps.Nodup)(o:∀x∈ps,x<n)(m:ps.length<n):∃i,fX n fl ps i:=by
 have e:∃i,i<n∧i∉ps:=rI λc=>by
  have:=np (l:=List.range n) (r:=ps) List.nodup_range λx h=>rI λg=>c ⟨x,j9.1 h,g⟩
  simp at this;omega
 obtain⟨i,d⟩:=e
 induction i using Nat.strongRecOn with
 | ind i j =>
  by_cases c:∀b,b<i→fl b=fl i→b∈ps
  ·exact⟨i,d.1,d.2,c⟩
  ·obtain⟨b,a⟩:=ue.1 c;obtain⟨f,a⟩:=Classical.not_imp.1 a;obtain⟨k,a⟩:=Classical.not_imp.1 a;exact j b f ⟨by omega,a⟩
def uT(n:Nat)(fl:Nat→Int)(k:Nat):Option Nat→Prop
 |some j=>k<j∧j<n∧fl j=fl k∧∀m,k<m→m<j→fl m≠fl k
 |none=>∀m,k<m→m<n→fl m≠fl k
theorem Fb{ps:List Nat}(t:∀x∈ps,∀k,k<x→fl k=fl x→k∈ps){k:Nat}(m:fX n fl ps k){a:Option Nat}(q:uT n fl k a)(i:Nat):
  fX n fl (ps++[k]) i↔(fX n fl ps i∧i≠k)∨a=some i:=by
 constructor
 ·rintro⟨j,c,f⟩;simp only[eA,gx,not_or]at c f;by_cases b:fl i=fl k
  ·right;have u:k<i:=by
    rcases ka k i with h|h|h
    ·exact h
    ·exact absurd h.symm c.2
    ·exact absurd (m.2.2 i h b) c.1
   cases a with
   |none=>exact absurd b (q i u j)
   | some r =>
    obtain⟨o,s,e,p⟩:=q;rcases ka i r with h|h|h
    ·exact absurd b (p i u h)
    ·rw[h]
    ·rcases f r h (by rw[e,b])with l|l
     ·exact absurd (t r l k o e.symm) m.2.1
     ·omega
  ·left;refine⟨⟨j,c.1,λd g v=>?_⟩,c.2⟩;rcases f d g v with h|h
   ·exact h
   ·subst h;exact absurd v.symm b
 ·rintro(⟨⟨j,c,f⟩,l⟩|rfl)
  ·exact⟨j,by simp[-Qd,c,l],λd g b=>pW _ (f d g b)⟩
  ·obtain⟨o,s,e,p⟩:=q;refine⟨s,?_,λd g b=>?_⟩
   ·simp only[eA,gx,not_or];exact⟨λh=>m.2.1 (t i h k o e.symm),by omega⟩
   ·rw[e]at b;rcases ka k d with h|h|h
    ·exact absurd b (p d h g)
    ·subst h;simp[-Qd]
    ·exact pW _ (m.2.2 d h b)
end
section
variable {n:Nat} {fl rk:Nat→Int}
theorem Ao{lt:Nat→Nat→Prop}(d:jB lt):∀(l:List Nat),l≠[]→∃b∈l,∀i∈l,¬lt i b
 |[],h=>absurd rfl h
 |[a],_=>⟨a,by simp,λi hi=>by rw[gx.1 hi];exact d.ir _⟩
 | a::c::l,_=>by
  obtain⟨b,f,e⟩:=Ao d (c::l) (by simp);rcases d.nV a b with h|h|h
  ·refine⟨a,by simp,λi hi=>?_⟩;rcases eI.1 hi with rfl|hi
   ·exact d.ir _
   ·exact λg=>e i hi (d.tr _ _ _ g h)
  ·refine⟨b,fG _ f,λi hi=>?_⟩;rcases eI.1 hi with rfl|hi
   ·subst h;exact d.ir _
   ·exact e i hi
  ·refine⟨b,fG _ f,λi hi=>?_⟩;rcases eI.1 hi with rfl|hi
   ·exact d.as h
   ·exact e i hi
theorem E4{ps:List Nat}(h:∃i,fX n fl ps i):∃b,fX n fl ps b∧∀i,fX n fl ps i→¬cY rk i b:=by
 classical
 obtain⟨j,a⟩:=h;have g:(List.range n).filter (λi=>decide (fX n fl ps i))≠[]:=λe=>by
  have:j∈(List.range n).filter (λi=>decide (fX n fl ps i)):=fo.2 ⟨j9.2 a.1,by simp[-Qd,a]⟩;rw[e]at this;cases this
 obtain⟨b,d,f⟩:=Ao (iI rk) _ g;refine⟨b,by simpa using(fo.1 d).2,λi c=>f i (fo.2 ⟨j9.2 c.1,by simp[-Qd,c]⟩)⟩
theorem eE.ex:∀m,m≤n→∃l,eE n fl rk l∧l.length=m
 |0,_=>⟨[],.nil,rfl⟩
 | m+1,h=>by
  obtain⟨l,a,h2⟩:=eE.ex m (by omega);obtain⟨b,c,d⟩:=E4 (rk:=rk) (Am a.nodup a.mem (by omega));exact⟨l++[b],.snoc a c d,by simp[-Qd,h2]⟩
noncomputable def jc(n:Nat)(fl rk:Nat→Int)(m:Nat):List Nat:=Classical.choose (eE.ex (n:=n) (fl:=fl) (rk:=rk) (min m n) (Nat.min_le_right _ _))
theorem Aq(m:Nat):eE n fl rk (jc n fl rk m)∧(jc n fl rk m).length=min m n:=kE (eE.ex (n:=n) (fl:=fl) (rk:=rk) (min m n) (Nat.min_le_right _ _))
theorem Ap{l:List Nat}{m:Nat}(h:eE n fl rk l)(a:l.length=min m n):l=jc n fl rk m:=h.Bc _ (Aq m).1 a (Aq m).2
theorem eE.lz{ps:List Nat}{b:Nat}(h:eE n fl rk ps)(e:fX n fl ps b):((List.range b).filter λk=>decide (fl k=fl b)).length=(ps.filter λx=>decide (fl x=fl b)).length:=by
 have i:∀x∈(List.range b).filter λk=>decide (fl k=fl b),x∈ps.filter λx=>decide (fl x=fl b):=λx f=>by
  obtain⟨d,a⟩:=fo.1 f;exact fo.2 ⟨e.2.2 x (j9.1 d) (by simpa using a),a⟩
 have j:∀x∈ps.filter λx=>decide (fl x=fl b),x∈(List.range b).filter λk=>decide (fl k=fl b):=λx f=>by
  obtain⟨d,a⟩:=fo.1 f;have g:fl x=fl b:=by simpa using a
  refine fo.2 ⟨j9.2 ?_,a⟩;rcases ka x b with c|c|c
  ·exact c
  ·subst c;exact absurd d e.2.1
  ·exact absurd (h.closed x d b c g.symm) e.2.1
 have l:((List.range b).filter λk=>decide (fl k=fl b)).Nodup:=List.nodup_range.filter _;have m:(ps.filter λx=>decide (fl x=fl b)).Nodup:=h.nodup.filter _;have o:=np l i;have p:=np m j;omega
end
section
variable {n:Nat} {fl rk:Nat→Int}
def gY(n:Nat)(fl:Nat→Int)(k:Nat)(f:Int):Option Nat:=(List.range n).find? λa=>decide (k≤a)&&decide (fl a=f)
theorem lY{k:Nat}{f:Int}{j:Nat}:gY n fl k f=some j↔(k≤j∧j<n∧fl j=f∧∀m,k≤m→m<j→fl m≠f):=by
 unfold gY;rw[List.find?_eq_some_iff_getElem];constructor
 ·rintro⟨a,o,g,b,c⟩;simp only[uF]at b;subst b;simp only[dU,vh]at a;simp only[uH]at g;refine⟨a.1,g,a.2,λm e i l=>?_⟩;have:=c m i;simp[-Qd,e,l]at this
 ·rintro⟨a,b,c,h⟩;refine⟨by simp[-Qd,a,c],j,by simpa using b,by simp,λm e=>?_⟩;simp only[uF];by_cases d:k≤m
  ·simp[-Qd,d,h m d e]
  ·simp[-Qd,d]
theorem uW{k:Nat}{f:Int}:gY n fl k f=none↔∀m,k≤m→m<n→fl m≠f:=by
 unfold gY;rw[List.find?_eq_none];constructor
 ·intro a m d b e;exact a m (j9.2 b) (by simp[-Qd,d,e])
 ·intro a m b;have:=j9.1 b;simp only[dU,vh];exact λc=>a m c.1 this c.2
theorem Fh{k:Nat}(a:k<n):gY n fl k (fl k)=some k:=lY.2 ⟨aS _,a,rfl,λd b c=>by omega⟩
theorem Fj{k:Nat}{f:Int}(h:fl k≠f):gY n fl k f=gY n fl (k+1) f:=by
 cases b:gY n fl (k+1) f with
 | none =>
  rw[uW]at b ⊢;intro a i l;by_cases c:a=k
  ·subst c;exact h
  ·exact b a (by omega) l
 | some o =>
  rw[lY]at b ⊢;obtain⟨m,d,e,g⟩:=b;refine⟨by omega,d,e,λa i j=>?_⟩;by_cases c:a=k
  ·subst c;exact h
  ·exact g a (by omega) j
theorem Fi(f:Int):gY n fl n f=none:=uW.2 λc a b=>by omega
theorem E2(k:Nat):uT n fl k (gY n fl (k+1) (fl k)):=by
 cases a:gY n fl (k+1) (fl k)with
 | none =>
  rw[uW]at a;exact λc d b=>a c (by omega) b
 | some i =>
  rw[lY]at a;obtain⟨d,b,e,f⟩:=a;exact⟨by omega,b,e,λc h g=>f c (by omega) g⟩
theorem Fa(i:Nat):fX n fl [] i↔gY n fl 0 (fl i)=some i:=by
 rw[lY];unfold fX;constructor
 ·rintro⟨a,_,b⟩;exact⟨il _,a,rfl,λe _ c d=>by cases b e c d⟩
 ·rintro⟨_,a,_,b⟩;exact⟨a,by simp,λe c d=>absurd d (b e (il _) c)⟩
def lW(n:Nat)(fl:Nat→Int)(ps:List Nat)(b:List Nat):Prop:=b.Nodup∧∀a,a∈b↔fX n fl ps a
theorem Fe{ps a:List Nat}(h:lW n fl ps a):a.length≤n:=by
 have:=np (r:=List.range n) h.1 λc b=>j9.2 ((h.2 c).1 b).1
 simpa using this
theorem Fc{ps a:List Nat}(h:lW n fl ps a){b:Nat}(c:b∈a)(e:∀i∈a,¬cY rk i b):fX n fl ps b∧∀i,fX n fl ps i→¬cY rk i b:=
 ⟨(h.2 b).1 c,λi d=>e i ((h.2 i).2 d)⟩
theorem An{ps o:List Nat}(v:eE n fl rk ps)(h:lW n fl ps o){b:Nat}{i j:List Nat}(d:o.Perm (b::i)){a:Option Nat}(f:uT n fl b a)(m:j.Perm (a.toList++i)):lW n fl (ps++[b]) j:=by
 have u:(b::i).Nodup:=d.nodup_iff.1 h.1;obtain⟨q,l⟩:=uJ.1 u;have k:fX n fl ps b:=(h.2 b).1 (d.mem_iff.2 (by simp));have t:∀e,e∈j↔fX n fl (ps++[b]) e:=λe=>by
  rw[Fb v.closed k f,m.mem_iff,eA,← h.2 e,d.mem_iff,eI];constructor
  ·rintro(c|c)
   ·right;cases a with
    |none=>simp at c
    |some g=>simp at c;rw[c]
   ·left;exact⟨.inr c,λr=>q (r▸c)⟩
  ·rintro(⟨c|c,p⟩|c)
   ·exact absurd c p
   ·exact .inr c
   ·left;rw[c];simp[-Qd]
 refine⟨m.nodup_iff.2 ?_,t⟩;cases a with
 |none=>simpa using l
 | some g =>
  simp only[Option.toList_some,List.singleton_append];refine uJ.2 ⟨λs=>?_,l⟩;have c:fX n fl ps g:=(h.2 g).1 (d.mem_iff.2 (fG _ s));have:=c.2.2 b f.1 f.2.2.1.symm;exact k.2.1 this
theorem Ff{ps:List Nat}(h:lW n fl ps [])(a:eE n fl rk ps):ps.length=n:=by
 have:=a.len;rcases e9 ps.length n with b|b
 ·obtain⟨d,c⟩:=Am (fl:=fl) a.nodup a.mem b;exact absurd ((h.2 d).2 c) (by simp)
 ·omega
end
section
variable {lt:Nat→Nat→Prop}
theorem Al{l:List Nat}{N k:Nat}(h:k<N):aJ (l.take N) k=aJ l k:=by
 unfold aJ;rw[eY,bE h]
theorem E3{l r:List Nat}{k:Nat}(h:k<l.length):aJ (l++r) k=aJ l k:=by
 unfold aJ;rw[dY h]
theorem Fk{l:List Nat}{N:Nat}(h:l.length=N+1):l.Perm (aJ l N::l.take N):=by
 have d:l=l.take N++[aJ l N]:=by
  have a:l.take (N+1)=l.take N++l[N]?.toList:=jz;rw[gW (by omega)]at a;have b:l[N]?=some l[N]:=cA (by omega);have c:aJ l N=l[N]:=by unfold aJ;rw[b];rfl
  rw[c];rw[b]at a;exact a
 exact(List.Perm.of_eq d).trans List.perm_append_comm
structure oo (lt:Nat→Nat→Prop) (l0 l:List Nat) (j:Nat):Prop where
 p:l.Perm l0
 u:p3 lt (aJ l) l.length j
theorem Fp{l:List Nat}(x:Nat)(h:gj lt (aJ l) l.length):oo lt (l++[x]) (l++[x]) l.length:=by
 refine⟨List.Perm.refl _,?_⟩;rw[gh];exact Fl h λb a=>E3 a
theorem Ar{a l:List Nat}{j:Nat}(h:oo lt a l j)(b:j=0∨¬lt (aJ l j) (aJ l ((j - 1) / 2))):l.Perm a∧gj lt (aJ l) l.length:=⟨h.p,Fo h.u b⟩
theorem Fq(c:jB lt){b l:List Nat}{j:Nat}(h:oo lt b l j)(d:0<j)(e:lt (aJ l j) (aJ l ((j - 1) / 2))):oo lt b (je l ((j - 1) / 2) j) ((j - 1) / 2):=by
 have a:=h.u.xH;refine⟨(r5 (by omega) a).trans h.p,?_⟩;have:=Fm c h.u d e;rw[r4,show aJ (je l ((j - 1) / 2) j)=jd (aJ l) ((j - 1) / 2) j from funext (r3 (by omega) a)];exact this
structure lV (lt:Nat→Nat→Prop) (l0 l:List Nat) (N i:Nat):Prop where
 p:l.Perm l0
 n:l.length=N+1
 x:aJ l N=aJ l0 0
 d:p0 lt (aJ l) N i
theorem E8{l:List Nat}{N:Nat}(a:l.length=N+1)(h:gj lt (aJ l) l.length):lV lt l (je l 0 N) N 0:=by
 rw[a]at h;refine⟨r5 (by omega) (by omega),by rw[r4,a],?_,E5 h λc d b=>?_⟩
 ·rw[r3 (by omega) (by omega),p4]
 ·rw[r3 (by omega) (by omega),kM (by omega) (by omega)]
theorem uV(c:jB lt){b l:List Nat}{N i j:Nat}(h:lV lt b l N i)(o:0<j)(e:j<N)(m:(j - 1) / 2=i)(g:∀k,0<k→k<N→(k - 1) / 2=i→¬lt (aJ l k) (aJ l j))(f:lt (aJ l j) (aJ l i)):lV lt b (je l i j) N j:=by
 have q:=h.n;have a:aJ (je l i j)=jd (aJ l) i j:=funext (r3 (by omega) (by omega));refine⟨(r5 (by omega) (by omega)).trans h.p,by rw[r4];exact h.n,?_,?_⟩
 ·rw[a,kM (by omega) (by omega)];exact h.x
 ·rw[a];exact E6 c h.d o e m g f
theorem E9(c:jB lt){a l:List Nat}{N i:Nat}(e:gj lt (aJ a) a.length)(h:lV lt a l N i)(m:∀k,0<k→k<N→(k - 1) / 2=i→¬lt (aJ l k) (aJ l i)):
  a.Perm (aJ a 0::l.take N)∧gj lt (aJ (l.take N)) (l.take N).length∧∀y∈a,¬lt y (aJ a 0):=by
 have f:=E7 h.d m;have g:(l.take N).length=N:=by rw[oi,h.n];omega
 refine⟨?_,?_,λy o=>?_⟩
 ·have:=Fk h.n;rw[h.x]at this;exact h.p.symm.trans this
 ·rw[g];intro k q b;rw[Al b,Al (by omega)];exact f k q b
 ·obtain⟨k,b⟩:=mZ o;have j:=(aZ.1 b).1;have:=Fg c e k j;unfold aJ at this;rw[b]at this;exact this
theorem uU(b:jB lt){l:List Nat}{N i:Nat}(j:Nat)(e:(2*i+2<N∧lt (aJ l (2*i+2)) (aJ l (2*i+1))∧j=2*i+2)∨((¬2*i+2<N∨¬lt (aJ l (2*i+2)) (aJ l (2*i+1)))∧j=2*i+1)):
  ∀k,0<k→k<N→(k - 1) / 2=i→¬lt (aJ l k) (aJ l j):=λk h f g=>by
 have c:k=2*i+1∨k=2*i+2:=by omega
 rcases e with⟨a,d,rfl⟩|⟨a,rfl⟩
 ·rcases c with rfl|rfl
  ·exact b.as d
  ·exact b.ir _
 ·rcases c with rfl|rfl
  ·exact b.ir _
  ·rcases a with a|a
   ·exact absurd f a
   ·exact a
end
end Go.Proofs.YtinlnkhheafjaaaDoor
namespace Go.Proofs.YtinlnkhheafjaaaDoor
open Go.Eng Go.Pi
def pk{a:Type}(l:List a)(ps:List Nat):List a:=ps.filterMap λb=>l[b]?
def jQ(z:Nat):D→Option (List (List D))
 |.J=>some []
 |.sl a _ rows=>if a=z then some rows else none
 |_=>none
def qM(j:Nat)(row:List D):Int:=match row[j]? with
 |some (.int .i64 a)=>a
 |_=>0
def hZ(l:List Int)(k:Nat):Int:=l[k]?.getD 0
def xF(p:Int × Int × List UInt8):List D:=[.int .i64 p.1,.int .i64 p.2.1,.str p.2.2]
def Iu(p:List UInt8 × List UInt8):List D:=[.str p.1,.str p.2]
def rP(row:List D):Prop:=∃(k l m:List UInt8) (f a g h i j:Int) (d b:D) (e:List (Int × Int × List UInt8)) (c:List (List UInt8 × List UInt8)),
 row=[.str k,.int .i64 f,.int .i64 a,.int .i64 g,.int .i64 h,d,.int .i64 i,.int .i64 j,.str l,.str m,b]∧aU 3 xF e d∧e.length≤9223372036854775807∧aU 2 Iu c b∧c.length≤9223372036854775807 ∧ -9223372036854775808≤a∧a≤9223372036854775807
def E0(a c:List (List D)):Prop:=a.length=c.length∧a.length≤400000000∧(∀b∈a,rP b)∧∀b∈c,∃d,b=[.int .i64 d]
def kA(z:Nat)(rows:List (List D)):D:=match rows with
 |[] =>.J
 |_ =>.sl z false rows
noncomputable def xM(a b:List (List D))(m:Int):List (List D):=pk a (jc a.length (hZ (a.map (qM 2))) (hZ (b.map (qM 0))) m.toNat)
open Classical in
noncomputable def oC(args:List D)(h:Z):Option (D × Z):=match args with
 | [d,e,.int .i64 c]=>match jQ 11 d,jQ 1 e with
  |some a,some b=>if E0 a b then some (kA 11 (xM a b c),h)else none
  |_,_=>none
 |_=>none
end Go.Proofs.YtinlnkhheafjaaaDoor
namespace Go.Pi
open Go.Eng
def dT(i:Nat)(r:List D):Option Int:=match r[i]? with
 |some (.int .i64 a)=>some a
 |_=>none
def mG(fi ti:Nat)(r:List D):Bool:=(dT fi r).isSome&&(dT ti r).isSome
def nG(fi ti:Nat)(f:Int)(rows:List (List D)):Int × Bool:=rows.foldl (λb a=>if dT fi a=some f then((dT ti a).getD 0,true)else b) (0,false)
theorem K2(fi ti:Nat)(f:Int)(rows:List (List D))(r:List D):nG fi ti f (rows++[r])=if dT fi r=some f then((dT ti r).getD 0,true)else nG fi ti f rows:=by simp[nG]
def qi(V fi ti:Nat)(args:List D)(h:Z):Option (D × Z):=match args with
 |[.J,.int .i64 b]=>some (.bN [.int .i64 0,.bool false],h)
 |[.sl c _ a,.int .i64 b]=>if c=V∧a.all (mG fi ti)=true∧a.length*8≤140737488351232 then some (.bN [.int .i64 (nG fi ti b a).1,.bool (nG fi ti b a).2],h)else none
 |_=>none
end Go.Pi
namespace Go.Eng
abbrev Ag:=@List.pairwise_cons
end Go.Eng
namespace Go.Pi
open Go.Eng
structure jA (f:Int→Option Int) (out:List (Int × Int)):Prop where
 mem:∀p,p∈out↔cW p.1∧f p.1=some p.2
 up:out.Pairwise λa b=>a.1<b.1
theorem EA:∀{a b:List (Int × Int)},a.Pairwise (λa b=>a.1<b.1)→b.Pairwise (λa b=>a.1<b.1)→(∀p,p∈a↔p∈b)→a=b
 |[],[],_,_,_=>rfl
 |[],d::b,_,_,h=>absurd ((h d).2 (by simp)) (by simp)
 |p::a,[],_,_,h=>absurd ((h p).1 (by simp)) (by simp)
 | p::a,d::b,m,n,h=>by
  obtain⟨i,k⟩:=Ag.1 m;obtain⟨j,l⟩:=Ag.1 n;have o:p=d:=by
   rcases eI.1 ((h p).1 (by simp))with e|e
   ·exact e
   ·rcases eI.1 ((h d).2 (by simp))with g|g
    ·exact g.symm
    ·have:=j p e;have:=i d g;omega
  subst o;rw[EA k l λf=>?_];constructor
  ·intro c;rcases eI.1 ((h f).1 (fG _ c))with e|e
   ·subst e;have:=i f c;omega
   ·exact e
  ·intro c;rcases eI.1 ((h f).2 (fG _ c))with e|e
   ·subst e;have:=j f c;omega
   ·exact e
theorem jA.uniq{f:Int→Option Int}{a b:List (Int × Int)}(c:jA f a)(d:jA f b):a=b:=EA c.up d.up λe=>(c.mem e).trans (d.mem e).symm
end Go.Pi
namespace Go.Proofs.YtinlnkhheafjaaaDoor
open Go.Eng Go.Pi
def tS(k t:Nat)(f:Int→Option Int)(r:List D):Int→Option Int:=λa=>if a=(dT k r).getD 0 then some ((dT t r).getD 0)else f a
def oE(a b:List (List D)):Int→Option Int:=b.foldl (tS 2 4) (a.reverse.foldl (tS 0 1) λ_=>none)
def eV(p:Int × Int):List D:=[.int .i64 p.1,.int .i64 p.2]
def mB(k t:Nat)(r:List D):Prop:=∃a b,dT k r=some a∧cW a∧dT t r=some b∧cW b
open Classical in
noncomputable def oy(args:List D)(h:Z):Option (D × Z):=match args with
 | [g,e]=>match jQ 11 g,jQ 2 e with
  |some c,some b=>if d:∃f,jA (oE b c) f then(if c.length≤100000000∧b.length≤100000000∧(∀a∈c,mB 2 4 a)∧(∀a∈b,mB 0 1 a)then some (kA 2 (d.choose.map eV),h)else none)else none
  |_,_=>none
 |_=>none
theorem GA{f m:D}{c b:List (List D)}(l:jQ 11 f=some c)(k:jQ 2 m=some b)(g:c.length≤100000000)(h2:b.length≤100000000)(i:∀r∈c,mB 2 4 r)(j:∀r∈b,mB 0 1 r){a:List (Int × Int)}(d:jA (oE b c) a)(h:Z):oy [f,m] h=some (kA 2 (a.map eV),h):=by
 have e:∃a,jA (oE b c) a:=⟨a,d⟩
 unfold oy;simp only[l,k];rw[dif_pos e,bE ⟨g,h2,i,j⟩,e.choose_spec.uniq d]
abbrev W:Nat:=3
abbrev fJ:Nat:=5
abbrev bL:Nat:=9
abbrev Qc:Nat:=20
abbrev iQ:Nat:=22
abbrev cN:Nat:=24
abbrev aP:Nat:=25
abbrev nX:Nat:=30
abbrev bB:Nat:=33
abbrev bS:Nat:=34
abbrev aF:Nat:=36
abbrev aI:Nat:=38
abbrev gS:Nat:=44
abbrev fF:Nat:=47
abbrev bF:Nat:=51
abbrev iz:Nat:=55
abbrev gT:Nat:=56
abbrev Qb:Nat:=64
abbrev iZ:Nat:=74
abbrev dR:Nat:=76
abbrev j0:Nat:=95
abbrev dA:Nat:=111
abbrev bO:Nat:=116
abbrev tR:Nat:=151
abbrev oR:Nat:=13
abbrev qB:Nat:=17
abbrev qs:Nat:=6
abbrev mh:Nat:=7
abbrev oP:Nat:=10
abbrev oQ:Nat:=11
abbrev qE:Nat:=12
abbrev ga:Nat:=14
abbrev lD:Nat:=15
abbrev nD:Nat:=16
abbrev sv:Nat:=18
abbrev sx:Nat:=19
abbrev sH:Nat:=22
abbrev vO:Nat:=23
abbrev sR:Nat:=27
abbrev vN:Nat:=28
abbrev vM:Nat:=29
abbrev sw:Nat:=30
abbrev sI:Nat:=31
abbrev qC:Nat:=32
abbrev vJ:Nat:=33
abbrev sG:Nat:=34
abbrev fP:Nat:=35
abbrev qt:Nat:=36
abbrev sC:Nat:=37
abbrev sD:Nat:=38
abbrev vA:Nat:=39
abbrev qu:Nat:=40
abbrev vQ:Nat:=42
abbrev vR:Nat:=43
abbrev sS:Nat:=47
abbrev qG:Nat:=48
abbrev lE:Nat:=49
abbrev oN:Nat:=50
abbrev sy:Nat:=51
abbrev sA:Nat:=52
abbrev vy:Nat:=53
abbrev sB:Nat:=54
abbrev sJ:Nat:=55
abbrev sK:Nat:=56
abbrev sN:Nat:=57
abbrev sO:Nat:=58
abbrev oO:Nat:=59
abbrev qv:Nat:=60
abbrev vB:Nat:=61
abbrev vC:Nat:=62
abbrev qx:Nat:=63
abbrev sP:Nat:=75
abbrev vD:Nat:=76
abbrev vz:Nat:=77
abbrev qy:Nat:=78
abbrev nC:Nat:=79
abbrev vE:Nat:=80
abbrev vF:Nat:=81
abbrev sQ:Nat:=87
abbrev vG:Nat:=88
abbrev vH:Nat:=89
abbrev qz:Nat:=90
abbrev B1:Nat:=91
abbrev mg:Nat:=93
abbrev qA:Nat:=94
abbrev B2:Nat:=96
abbrev sF:Nat:=97
abbrev vK:Nat:=115
abbrev sL:Nat:=116
abbrev sM:Nat:=117
abbrev qD:Nat:=118
abbrev vP:Nat:=119
noncomputable def fb:TI:=⟨.int .i64,1,8,[.int .i64 0],[]⟩
noncomputable def tO:TI:=⟨.int .u8,1,1,[.int .u8 0],[]⟩
noncomputable def Ey:TI:=⟨.str,1,16,[.str []],[]⟩
noncomputable def Eu:TI:=⟨.Ch,1,16,[.iY],[]⟩
noncomputable def yu:TI:=⟨.sl 5,1,24,[.J],[]⟩
noncomputable def tK:TI:=⟨.sl 38,1,24,[.J],[]⟩
noncomputable def lR:TI:=⟨.sl 3,1,24,[.J],[]⟩
noncomputable def Ew:TI:=⟨.int .i64,1,8,[.int .i64 0],[]⟩
noncomputable def nT:TI:=⟨.sl 51,1,24,[.J],[]⟩
noncomputable def tM:TI:=⟨.sl 116,1,24,[.J],[]⟩
noncomputable def tN:TI:=⟨.st [(3,0,1),(3,1,1),(3,2,1),(3,3,1),(33,4,1),(3,5,1),(3,6,1),(9,7,1),(9,8,1),(34,9,1)],10,128,[.int .i64 0,.int .i64 0,.int .i64 0,.int .i64 0,.J,.int .i64 0,.int .i64 0,.str [],.str [],.J],[]⟩
noncomputable def tP:TI:=⟨.st [(9,0,1),(36,1,10)],11,144,[.str [],.int .i64 0,.int .i64 0,.int .i64 0,.int .i64 0,.J,.int .i64 0,.int .i64 0,.str [],.str [],.J],[]⟩
noncomputable def yr:TI:=⟨.sl 47,1,24,[.J],[]⟩
noncomputable def yt:TI:=⟨.st [(3,0,1),(3,1,1)],2,16,[.int .i64 0,.int .i64 0],[]⟩
noncomputable def mJ:TI:=⟨.st [(3,0,1),(3,1,1),(9,2,1)],3,32,[.int .i64 0,.int .i64 0,.str []],[]⟩
noncomputable def tQ:TI:=⟨.st [(22,0,1),(3,1,1)],2,32,[.J,.int .i64 0],[]⟩
noncomputable def Ep:TI:=⟨.arr 3 3,3,24,[.int .i64 0,.int .i64 0,.int .i64 0],[]⟩
noncomputable def Er:TI:=⟨.rb,1,8,[.any],[]⟩
noncomputable def Es:TI:=⟨.ptr 76,1,8,[.gb],[("Len",some 32),("Less",some 115),("Pop",some 116),("Push",some 117),("Swap",some 118)]⟩
noncomputable def tL:TI:=⟨.st [(25,0,1),(25,1,1)],2,48,[.J,.J],[]⟩
noncomputable def Et:TI:=⟨.int .u64,1,8,[.int .u64 0],[]⟩
noncomputable def Ez:TI:=⟨.sl 9,1,24,[.J],[]⟩
noncomputable def ry:TI:=⟨.st [(9,0,1),(9,1,1)],2,32,[.str [],.str []],[]⟩
noncomputable def yq:TI:=⟨.arr 256 5,256,256,[.int .u8 0,.int .u8 0,.int .u8 0,.int .u8 0,.int .u8 0,.int .u8 0,.int .u8 0,.int .u8 0,.int .u8 0,.int .u8 0,.int .u8 0,.int .u8 0,.int .u8 0,.int .u8 0,.int .u8 0,.int .u8 0,.int .u8 0,.int .u8 0,.int .u8 0,.int .u8 0,.int .u8 0,.int .u8 0,.int .u8 0,.int .u8 0,.int .u8 0,.int .u8 0,.int .u8 0,.int .u8 0,.int .u8 0,.int .u8 0,.int .u8 0,.int .u8 0,.int .u8 0,.int .u8 0,.int .u8 0,.int .u8 0,.int .u8 0,.int .u8 0,.int .u8 0,.int .u8 0,.int .u8 0,.int .u8 0,.int .u8 0,.int .u8 0,.int .u8 0,.int .u8 0,.int .u8 0,.int .u8 0,.int .u8 0,.int .u8 0,.int .u8 0,.int .u8 0,.int .u8 0,.int .u8 0,.int .u8 0,.int .u8 0,.int .u8 0,.int .u8 0,.int .u8 0,.int .u8 0,.int .u8 0,.int .u8 0,.int .u8 0,.int .u8 0,.int .u8 0,.int .u8 0,.int .u8 0,.int .u8 0,.int .u8 0,.int .u8 0,.int .u8 0,.int .u8 0,.int .u8 0,.int .u8 0,.int .u8 0,.int .u8 0,.int .u8 0,.int .u8 0,.int .u8 0,.int .u8 0,.int .u8 0,.int .u8 0,.int .u8 0,.int .u8 0,.int .u8 0,.int .u8 0,.int .u8 0,.int .u8 0,.int .u8 0,.int .u8 0,.int .u8 0,.int .u8 0,.int .u8 0,.int .u8 0,.int .u8 0,.int .u8 0,.int .u8 0,.int .u8 0,.int .u8 0,.int .u8 0,.int .u8 0,.int .u8 0,.int .u8 0,.int .u8 0,.int .u8 0,.int .u8 0,.int .u8 0,.int .u8 0,.int .u8 0,.int .u8 0,.int .u8 0,.int .u8 0,.int .u8 0,.int .u8 0,.int .u8 0,.int .u8 0,.int .u8 0,.int .u8 0,.int .u8 0,.int .u8 0,.int .u8 0,.int .u8 0,.int .u8 0,.int .u8 0,.int .u8 0,.int .u8 0,.int .u8 0,.int .u8 0,.int .u8 0,.int .u8 0,.int .u8 0,.int .u8 0,.int .u8 0,.int .u8 0,.int .u8 0,.int .u8 0,.int .u8 0,.int .u8 0,.int .u8 0,.int .u8 0,.int .u8 0,.int .u8 0,.int .u8 0,.int .u8 0,.int .u8 0,.int .u8 0,.int .u8 0,.int .u8 0,.int .u8 0,.int .u8 0,.int .u8 0,.int .u8 0,.int .u8 0,.int .u8 0,.int .u8 0,.int .u8 0,.int .u8 0,.int .u8 0,.int .u8 0,.int .u8 0,.int .u8 0,.int .u8 0,.int .u8 0,.int .u8 0,.int .u8 0,.int .u8 0,.int .u8 0,.int .u8 0,.int .u8 0,.int .u8 0,.int .u8 0,.int .u8 0,.int .u8 0,.int .u8 0,.int .u8 0,.int .u8 0,.int .u8 0,.int .u8 0,.int .u8 0,.int .u8 0,.int .u8 0,.int .u8 0,.int .u8 0,.int .u8 0,.int .u8 0,.int .u8 0,.int .u8 0,.int .u8 0,.int .u8 0,.int .u8 0,.int .u8 0,.int .u8 0,.int .u8 0,.int .u8 0,.int .u8 0,.int .u8 0,.int .u8 0,.int .u8 0,.int .u8 0,.int .u8 0,.int .u8 0,.int .u8 0,.int .u8 0,.int .u8 0,.int .u8 0,.int .u8 0,.int .u8 0,.int .u8 0,.int .u8 0,.int .u8 0,.int .u8 0,.int .u8 0,.int .u8 0,.int .u8 0,.int .u8 0,.int .u8 0,.int .u8 0,.int .u8 0,.int .u8 0,.int .u8 0,.int .u8 0,.int .u8 0,.int .u8 0,.int .u8 0,.int .u8 0,.int .u8 0,.int .u8 0,.int .u8 0,.int .u8 0,.int .u8 0,.int .u8 0,.int .u8 0,.int .u8 0,.int .u8 0,.int .u8 0,.int .u8 0,.int .u8 0,.int .u8 0,.int .u8 0,.int .u8 0,.int .u8 0,.int .u8 0,.int .u8 0,.int .u8 0,.int .u8 0,.int .u8 0,.int .u8 0,.int .u8 0,.int .u8 0,.int .u8 0,.int .u8 0,.int .u8 0,.int .u8 0,.int .u8 0,.int .u8 0,.int .u8 0],[]⟩
noncomputable def En:List (Option TI):=[none,none,none,some fb,none,some tO,none,none,none,some Ey,none,none,none,none,none,none,none,none,none,none,some Eu,none,some yu,none,some tK,some lR,none,none,none,none,some Ew,none,none,some nT,some tM,none,some tN,none,some tP,none,none,none,none,none,some yr,none,none,some yt,none,none,none,some mJ,none,none,none,some tQ,some Ep,none,none,none,none,none,none,none,some Er,none,none,none,none,none,none,none,none,none,some Es,none,some tL,none,none,none,none,none,none,none,none,none,none,none,none,none,none,none,none,none,none,some Et,none,none,none,none,none,none,none,none,none,none,none,none,none,none,none,some Ez,none,none,none,none,some ry,none,none,none,none,none,none,none,none,none,none,none,none,none,none,none,none,none,none,none,none,none,none,none,none,none,none,none,none,none,none,none,none,none,none,some yq]
noncomputable def tab:bD:=yn En
abbrev fL(t:Nat)(i:TI):Prop:=pA Tryd.prog t=some i∧oU Tryd.prog t=true
theorem gg{t:Nat}{i:TI}(h:pA Tryd.prog t=some i:=by kernel_rfl)(a:oU Tryd.prog t=true:=by kernel_rfl):fL t i:=⟨h,a⟩
theorem OO:fL 3 fb:=gg
theorem OW:fL 5 tO:=gg
theorem O3:fL 9 Ey:=gg
theorem OJ:fL 20 Eu:=gg
theorem OL:fL 22 yu:=gg
theorem OM:fL 24 tK:=gg
theorem ON:fL 25 lR:=gg
theorem OP:fL 30 Ew:=gg
theorem OQ:fL 33 nT:=gg
theorem OR:fL 34 tM:=gg
theorem OS:fL 36 tN:=gg
theorem OT:fL 38 tP:=gg
theorem OU:fL 44 yr:=gg
theorem OV:fL 47 yt:=gg
theorem OX:fL 51 mJ:=gg
theorem OY:fL 55 tQ:=gg
theorem OZ:fL 56 Ep:=gg
theorem O0:fL 64 Er:=gg
theorem O1:fL 74 Es:=gg
theorem O2:fL 76 tL:=gg
theorem O4:fL 95 Et:=gg
theorem OG:fL 111 Ez:=gg
theorem OH:fL 116 ry:=gg
theorem OI:fL 151 yq:=gg
theorem ym:cC Tryd.prog tab:=OE (show p6 Tryd.prog 0 En from⟨OO,OW,O3,OJ,OL,OM,ON,OP,OQ,OR,OS,OT,OU,OV,OX,OY,OZ,O0,O1,O2,O4,OG,OH,OI,trivial⟩)
theorem xJ:Tryd.prog.follows .mixedOrders=true:=by kernel_rfl
def cI(f:Func)(n:Nat)(k z b:List Nat)(s:Bool):fc:=⟨f.body.getD .skip,f.results.toList,⟨n,k,z,b⟩,s⟩
noncomputable def i6:=cI Tryd.f6 15 [0,1,4,8] [] [] false
noncomputable def i7:=cI Tryd.f7 99 [0,1,4,5,6,7,8,9,10,11,12,13,14,30,52,53,54] [90,95] [] true
noncomputable def wa:=cI Tryd.f10 27 [0,1,4,5,10,14,26] [] [] false
noncomputable def wb:=cI Tryd.f11 26 [0,1,4,5,10,14,25] [] [] false
noncomputable def wj:=cI Tryd.f12 53 [0,1,2,6,7,8,9,10,21,22,23,24,25,51] [] [] true
noncomputable def wk:=cI Tryd.f14 33 [0,1,4,11] [] [] false
noncomputable def wm:=cI Tryd.f15 56 [0,1,2,6,7,8,9,10,11,12,13,14,15,16,17,29,37,45] [40,51] [] true
noncomputable def wo:=cI Tryd.f16 14 [0,1,4] [11] [] true
noncomputable def wu:=cI Tryd.f18 52 [0,2,3,4,5,10,24,25,26] [3,43,48] [] true
noncomputable def wv:=cI Tryd.f19 64 [0,1,2,3,4,7,13,18,33,63] [1,3] [] false
noncomputable def wx:=cI Tryd.f22 8 [0,2,4] [5] [] false
noncomputable def wy:=cI Tryd.f23 86 [0,1,2,3,4,5,6] [2,3,1000006] [] true
noncomputable def wz:=cI Tryd.f27 20 [0,1,4,5,6,11,12,13,16,19] [] [] false
noncomputable def wA:=cI Tryd.f28 13 [0,2] [] [] false
noncomputable def wB:=cI Tryd.f29 17 [0,1,3,4,5,6,11] [3] [] false
noncomputable def wC:=cI Tryd.f30 45 [0,1,2,3,4,5,6,11,26] [3] [] true
noncomputable def wD:=cI Tryd.f31 12 [0,1] [] [] false
noncomputable def wE:=cI Tryd.f32 8 [0,2] [] [] false
noncomputable def wF:=cI Tryd.f33 15 [0,2,3] [] [] false
noncomputable def wG:=cI Tryd.f34 49 [0,2,3,4] [4,15,21,24,1000003] [] true
noncomputable def wH:=cI Tryd.f35 12 [0,1,4] [] [] false
noncomputable def wI:=cI Tryd.f36 57 [0,1,2,3,4,5,6,16,29,40,48,54,56] [1] [] true
noncomputable def wJ:=cI Tryd.f37 28 [0,1,2] [1] [] false
noncomputable def wK:=cI Tryd.f38 75 [0,1,2,4,5,6,7,8,9,14,22,23,24,25,64,69] [2] [] true
noncomputable def wL:=cI Tryd.f39 9 [0,1,4] [] [] false
noncomputable def wM:=cI Tryd.f40 6 [0,1,2] [1] [] false
noncomputable def wN:=cI Tryd.f42 26 [0,1,4,5,10,14,25] [] [] false
noncomputable def wO:=cI Tryd.f43 26 [0,1,4,5,10,14,25] [] [] false
noncomputable def wP:=cI Tryd.f47 6 [0,2] [] [] false
noncomputable def wQ:=cI Tryd.f48 19 [0,1,4,5,7,8,9,16] [] [] false
noncomputable def wR:=cI Tryd.f49 8 [0,1,2,3] [2] [] false
noncomputable def wS:=cI Tryd.f50 19 [0,1,4,5,7,8,9,16] [] [] false
noncomputable def wT:=cI Tryd.f51 8 [0,1,2,3] [2] [] false
noncomputable def wU:=cI Tryd.f52 42 [0,1,4,5,6,7,12,19,29] [7] [] false
noncomputable def wV:=cI Tryd.f53 8 [0,2,4] [5] [] false
noncomputable def wW:=cI Tryd.f54 8 [0,1,2,3] [2] [] false
noncomputable def wX:=cI Tryd.f55 23 [0,1,4,17] [] [] false
noncomputable def wY:=cI Tryd.f56 48 [0,1,2,6,7,8,9,10,21,33,39] [] [] false
noncomputable def wZ:=cI Tryd.f57 25 [0,2,3,5,6,7,8,9,14] [6,18,21] [] true
noncomputable def w4:=cI Tryd.f58 38 [0,1,2,3,8,9,10,11,17,25] [31] [] true
noncomputable def w5:=cI Tryd.f59 15 [0,1,2,6] [] [] false
noncomputable def w6:=cI Tryd.f60 44 [0,2,3,5,6,9,10,11,12,13,19,28,42] [5] [] false
noncomputable def w7:=cI Tryd.f61 26 [0,1,4,5,10,12,13,14,24] [] [] false
noncomputable def w8:=cI Tryd.f62 9 [0,1,4] [] [] false
noncomputable def w9:=cI Tryd.f63 7 [0,1,2] [1] [] false
noncomputable def xa:=cI Tryd.f75 98 [0,2,4,5,31,47,57,68,80] [8,13,18,23,28,34,39,44,50,54,60,65,71,76,83,88,93] [] false
noncomputable def xb:=cI Tryd.f76 38 [0,2,4,22,24,25,26,27,36] [] [] true
noncomputable def xc:=cI Tryd.f77 8 [0,2,4] [5] [] false
noncomputable def xd:=cI Tryd.f78 9 [0,1] [] [] false
noncomputable def xe:=cI Tryd.f79 10 [0,1,2,3,4] [2,3] [] false
noncomputable def xf:=cI Tryd.f80 8 [0,1,4] [] [] false
noncomputable def xg:=cI Tryd.f81 19 [0,1,4,5,7,8,9,16] [] [] false
noncomputable def xh:=cI Tryd.f87 21 [0,1,4,5,6,12] [17] [] false
noncomputable def xi:=cI Tryd.f88 8 [0,2] [] [] false
noncomputable def xj:=cI Tryd.f89 12 [0,2] [] [] false
noncomputable def xk:=cI Tryd.f90 63 [0,1,2,6,7,8,9,13,30,35,54] [] [] false
noncomputable def xl:=cI Tryd.f91 8 [0,1,4] [] [] false
noncomputable def xm:=cI Tryd.f93 53 [0,1,2,3,8,9,14,34] [] [] false
noncomputable def xn:=cI Tryd.f94 220 [0,1,2,3,4,10,11,12,13,14,15,16,17,18,19,20,21,22,23,24,28,33,50,58,80,85,103,110,140,151,171,185,199,213] [] [] false
noncomputable def xo:=cI Tryd.f96 58 [0,1,2,3,4,10,11,20,23] [] [] false
noncomputable def xp:=cI Tryd.f97 38 [0,1,2,3,10,13] [] [] false
noncomputable def wc:=cI Tryd.f115 44 [0,1,2,6,7,8] [41] [] false
noncomputable def we:=cI Tryd.f116 29 [0,2,3,4] [] [] false
noncomputable def wg:=cI Tryd.f117 15 [0,1] [11] [] false
noncomputable def wh:=cI Tryd.f118 32 [0,1,2] [] [] false
noncomputable def wi:=cI Tryd.f119 18 [0,2,3,5,6,7,8,9,14] [] [] false
noncomputable def vS:List (Nat × fc):=[(6,i6),(7,i7),(10,wa),(11,wb),(12,wj),(14,wk),(15,wm),(16,wo),(18,wu),(19,wv),(22,wx),(23,wy),(27,wz),(28,wA),(29,wB),(30,wC),(31,wD),(32,wE),(33,wF),(34,wG),(35,wH),(36,wI),(37,wJ),(38,wK),(39,wL),(40,wM),(42,wN),(43,wO),(47,wP),(48,wQ),(49,wR),(50,wS),(51,wT),(52,wU),(53,wV),(54,wW),(55,wX),(56,wY),(57,wZ),(58,w4),(59,w5),(60,w6),(61,w7),(62,w8),(63,w9),(75,xa),(76,xb),(77,xc),(78,xd),(79,xe),(80,xf),(81,xg),(87,xh),(88,xi),(89,xj),(90,xk),(91,xl),(93,xm),(94,xn),(96,xo),(97,xp),(115,wc),(116,we),(117,wg),(118,wh),(119,wi)]
noncomputable def Fs:FuncId→Option fc:=qH vS
theorem cJ{f:FuncId}{a:Func}{fi:fc}(e:Tryd.prog.funcs[f]?=some a)(d:∀(b:Array Value) (w:World),(callFunc f b).run Tryd.prog w = .ok (.enter f b) w)(c:a.body=some fi.body:=by kernel_rfl)(g:a.ntmps=fi.A.nt:=by kernel_rfl)(h:a.results.toList=fi.res:=by kernel_rfl):bM Tryd.prog f fi :=.of e c g h d
theorem Jl:bM Tryd.prog 6 i6:=cJ Tryd.func6 Tryd.call6
theorem Jq:bM Tryd.prog 7 i7:=cJ Tryd.func7 Tryd.call7
theorem Iw:bM Tryd.prog 10 wa:=cJ Tryd.func10 Tryd.call10
theorem Ix:bM Tryd.prog 11 wb:=cJ Tryd.func11 Tryd.call11
theorem ID:bM Tryd.prog 12 wj:=cJ Tryd.func12 Tryd.call12
theorem IE:bM Tryd.prog 14 wk:=cJ Tryd.func14 Tryd.call14
theorem IF:bM Tryd.prog 15 wm:=cJ Tryd.func15 Tryd.call15
theorem IG:bM Tryd.prog 16 wo:=cJ Tryd.func16 Tryd.call16
theorem II:bM Tryd.prog 18 wu:=cJ Tryd.func18 Tryd.call18
theorem IJ:bM Tryd.prog 19 wv:=cJ Tryd.func19 Tryd.call19
theorem IK:bM Tryd.prog 22 wx:=cJ Tryd.func22 Tryd.call22
theorem IL:bM Tryd.prog 23 wy:=cJ Tryd.func23 Tryd.call23
theorem IM:bM Tryd.prog 27 wz:=cJ Tryd.func27 Tryd.call27
theorem IP:bM Tryd.prog 28 wA:=cJ Tryd.func28 Tryd.call28
theorem IQ:bM Tryd.prog 29 wB:=cJ Tryd.func29 Tryd.call29
theorem IU:bM Tryd.prog 30 wC:=cJ Tryd.func30 Tryd.call30
theorem IV:bM Tryd.prog 31 wD:=cJ Tryd.func31 Tryd.call31
theorem IW:bM Tryd.prog 32 wE:=cJ Tryd.func32 Tryd.call32
theorem IX:bM Tryd.prog 33 wF:=cJ Tryd.func33 Tryd.call33
theorem IY:bM Tryd.prog 34 wG:=cJ Tryd.func34 Tryd.call34
theorem IZ:bM Tryd.prog 35 wH:=cJ Tryd.func35 Tryd.call35
theorem I0:bM Tryd.prog 36 wI:=cJ Tryd.func36 Tryd.call36
theorem I1:bM Tryd.prog 37 wJ:=cJ Tryd.func37 Tryd.call37
theorem I2:bM Tryd.prog 38 wK:=cJ Tryd.func38 Tryd.call38
theorem I3:bM Tryd.prog 39 wL:=cJ Tryd.func39 Tryd.call39
theorem I4:bM Tryd.prog 40 wM:=cJ Tryd.func40 Tryd.call40
theorem I5:bM Tryd.prog 42 wN:=cJ Tryd.func42 Tryd.call42
theorem I6:bM Tryd.prog 43 wO:=cJ Tryd.func43 Tryd.call43
theorem I7:bM Tryd.prog 47 wP:=cJ Tryd.func47 Tryd.call47
theorem I8:bM Tryd.prog 48 wQ:=cJ Tryd.func48 Tryd.call48
theorem I9:bM Tryd.prog 49 wR:=cJ Tryd.func49 Tryd.call49
theorem Jb:bM Tryd.prog 50 wS:=cJ Tryd.func50 Tryd.call50
theorem Jc:bM Tryd.prog 51 wT:=cJ Tryd.func51 Tryd.call51
theorem Jd:bM Tryd.prog 52 wU:=cJ Tryd.func52 Tryd.call52
theorem Je:bM Tryd.prog 53 wV:=cJ Tryd.func53 Tryd.call53
theorem Jf:bM Tryd.prog 54 wW:=cJ Tryd.func54 Tryd.call54
theorem Jg:bM Tryd.prog 55 wX:=cJ Tryd.func55 Tryd.call55
theorem Jh:bM Tryd.prog 56 wY:=cJ Tryd.func56 Tryd.call56
theorem Ji:bM Tryd.prog 57 wZ:=cJ Tryd.func57 Tryd.call57
theorem Jj:bM Tryd.prog 58 w4:=cJ Tryd.func58 Tryd.call58
theorem Jk:bM Tryd.prog 59 w5:=cJ Tryd.func59 Tryd.call59
theorem Jm:bM Tryd.prog 60 w6:=cJ Tryd.func60 Tryd.call60
theorem Jn:bM Tryd.prog 61 w7:=cJ Tryd.func61 Tryd.call61
theorem Jo:bM Tryd.prog 62 w8:=cJ Tryd.func62 Tryd.call62
theorem Jp:bM Tryd.prog 63 w9:=cJ Tryd.func63 Tryd.call63
theorem Jr:bM Tryd.prog 75 xa:=cJ Tryd.func75 Tryd.call75
theorem Js:bM Tryd.prog 76 xb:=cJ Tryd.func76 Tryd.call76
theorem Jt:bM Tryd.prog 77 xc:=cJ Tryd.func77 Tryd.call77
theorem Ju:bM Tryd.prog 78 xd:=cJ Tryd.func78 Tryd.call78
theorem Jv:bM Tryd.prog 79 xe:=cJ Tryd.func79 Tryd.call79
theorem Jw:bM Tryd.prog 80 xf:=cJ Tryd.func80 Tryd.call80
theorem Jy:bM Tryd.prog 81 xg:=cJ Tryd.func81 Tryd.call81
theorem Jz:bM Tryd.prog 87 xh:=cJ Tryd.func87 Tryd.call87
theorem JA:bM Tryd.prog 88 xi:=cJ Tryd.func88 Tryd.call88
theorem JB:bM Tryd.prog 89 xj:=cJ Tryd.func89 Tryd.call89
theorem JC:bM Tryd.prog 90 xk:=cJ Tryd.func90 Tryd.call90
theorem JD:bM Tryd.prog 91 xl:=cJ Tryd.func91 Tryd.call91
theorem JE:bM Tryd.prog 93 xm:=cJ Tryd.func93 Tryd.call93
theorem JF:bM Tryd.prog 94 xn:=cJ Tryd.func94 Tryd.call94
theorem JG:bM Tryd.prog 96 xo:=cJ Tryd.func96 Tryd.call96
theorem JH:bM Tryd.prog 97 xp:=cJ Tryd.func97 Tryd.call97
theorem Iy:bM Tryd.prog 115 wc:=cJ Tryd.func115 Tryd.call115
theorem Iz:bM Tryd.prog 116 we:=cJ Tryd.func116 Tryd.call116
theorem IA:bM Tryd.prog 117 wg:=cJ Tryd.func117 Tryd.call117
theorem IB:bM Tryd.prog 118 wh:=cJ Tryd.func118 Tryd.call118
theorem IC:bM Tryd.prog 119 wi:=cJ Tryd.func119 Tryd.call119
theorem JL:rN Tryd.prog vS:=⟨Jl,Jq,Iw,Ix,ID,IE,IF,IG,II,IJ,IK,IL,IM,IP,IQ,IU,IV,IW,IX,IY,IZ,I0,I1,I2,I3,I4,I5,I6,I7,I8,I9,Jb,Jc,Jd,Je,Jf,Jg,Jh,Ji,Jj,Jk,Jm,Jn,Jo,Jp,Jr,Js,Jt,Ju,Jv,Jw,Jy,Jz,JA,JB,JC,JD,JE,JF,JG,JH,Iy,Iz,IA,IB,IC,trivial⟩
def lJ:List Int:=[0,0,0,0,0,0,0,0,0,4,0,0,0,0,0,0,0,0,0,0,0,0,0,0,0,0,0,0,0,0,0,0,4,0,0,0,0,0,0,0,0,0,0,0,0,0,0,0,1,1,1,1,1,1,1,1,1,1,0,0,0,0,0,0,0,2,2,2,2,2,2,2,2,2,2,2,2,2,2,2,2,2,2,2,2,2,2,2,2,2,2,0,0,0,0,0,0,2,2,2,2,2,2,2,2,2,2,2,2,2,2,2,2,2,2,2,2,2,2,2,2,2,2,0,0,0,0,0,0,0,0,0,0,0,0,0,0,0,0,0,0,0,0,0,0,0,0,0,0,0,0,0,0,0,0,0,0,0,0,0,0,0,0,0,0,0,0,0,0,0,0,0,0,0,0,0,0,0,0,0,0,0,0,0,0,0,0,0,0,0,0,0,0,0,0,0,0,0,0,0,0,0,0,0,0,0,0,0,0,0,0,0,0,0,0,0,0,0,0,0,0,0,0,0,0,0,0,0,0,0,0,0,0,0,0,0,0,0,0,0,0,0,0,0,0,0,0,0,0,0,0,0,0,0,0,0]
def kn:List D:=lJ.map λa =>.int .u8 a
noncomputable def gl:Nat→Option D:=λa=>if a=0 then some (.aD kn)else none
abbrev sE:Nat:=95
theorem Im(vs:Array Value)(w:World):(callFunc 95 vs).run Tryd.prog w=((Extern.BytealgCompare.compare vs).run Tryd.prog w).andThen λv w' =>.ok (.value v) w':=run_callFunc_extern Tryd.func95 (by kernel_rfl) (by kernel_rfl) (by kernel_rfl) (by kernel_rfl) vs w
theorem Gp{args:List D}{h h':Z}{d:D}(a:se args h=some (d,h')){g:Gh}{vs:List Value}(hi:Inv g h)(e:aW g vs args):jo Tryd.prog 95 vs g h' d:=by
 unfold se at a;split at a
 ·injection a with a;injection a with b c;subst b;subst c;exact Gt Im hi e
 ·cases a
abbrev qF:Nat:=20
noncomputable def xt:cE:=λa args b=>if a=sE then se args b else if a=qF then qi 11 2 4 args b else none
noncomputable def X:Cx:=⟨tab,gl,xt⟩
noncomputable def R:cE:=run X Fs
theorem er(fi:fc){f:FuncId}{args:List D}{h:Z}{x:Option (D × Z)}(a:Fs f=some fi:=by kernel_rfl)(b:sT X R cH fi args h=x:=by kernel_rfl):R f args h=x:=(D1 a args h).trans b
theorem Po(a b:List UInt8)(h:Z):R sE [.str a,.str b] h=some (.int .i64 (Lib.compareBytes a b),h):=(rm (X:=X) (F:=Fs) (by kernel_rfl) _ _).trans (by simp[X,xt,se])
theorem Pp(args:List D)(h:Z):R qF args h=qi 11 2 4 args h:=(rm (X:=X) (F:=Fs) (by kernel_rfl) _ _).trans (by simp only[X,xt,show ¬(qF=sE) by decide,aM,aR])
noncomputable section
def yK(a b:D)(h:Z):Option (D × Z):=
 (aV tab iQ a).bind λc=>(U tab .gtr W c b).bind λc=>(aK c
  ((fO tab iQ false true false [a,b]).bind λb=>some (.aO,[b],h))
  (some (.aO,[a],h))).bind λa=>toEnd a.1 ((dZ tab iz [0] [(Y 0 a.2.1)]).bind λb=>(pD iz 2 a.2.2 b).bind λb=>some (aE [b.1],b.2)) λb=>cZ b (some (aE [.gb],a.2.2))
theorem sj(a b:D)(h:Z):R qs [a,b] h=yK a b h:=
 er i6
def ux(a b c:D)(d:List D)(e:Z):Option bT:=
 (U tab .lss W (Y 1 d) c).bind λc=>aK c
  ((aN tab bB b (Y 1 d)).bind λf=>(aC tab bF 0 f).bind λf=>(aA tab e W f).bind λf=>(U tab .add W f a).bind λa=>(aN tab bB b (Y 1 d)).bind λb=>(aC tab bF 0 b).bind λb=>((bZ tab e W b a).bind λa=>some ((.bG:D),a)).bind λa=>(U tab .add W (Y 1 d) (.int .i64 1)).bind λb=>some (.aO,[(Y 1 d),b,c],a.2))
  (some ((.ext 2),[(Y 0 d),(Y 1 d),c],e))
def rL(a:D)(b:D × Z)(ds:List D)(c:Z):Option bT:=
 (U tab .gtr W (Y 2 ds) (.int .i64 0)).bind λd=>aK d
  ((R sv [a] c).bind λe=>(some ((.ptr e.2.length 0 0:D),aL e.2 aI 11 [[.str [],.int .i64 0,.int .i64 0,.int .i64 0,.int .i64 0,.J,.int .i64 0,.int .i64 0,.str [],.str [],.J]])).bind λf=>((bZ tab f.2 aI f.1 e.1).bind λe=>some ((.bG:D),e)).bind λg=>(R ga [a,.int .i64 3] g.2).bind λg=>(aC tab aI 1 f.1).bind λh=>(aC tab aF 1 h).bind λh=>((bZ tab g.2 W h g.1).bind λe=>some ((.bG:D),e)).bind λh=>(aN tab gT b.1 g.1).bind λi=>(aA tab h.2 W i).bind λi=>(aC tab aI 1 f.1).bind λj=>(aC tab aF 2 j).bind λj=>(aA tab h.2 W j).bind λj=>(U tab .sub W i j).bind λi=>(aC tab aI 1 f.1).bind λj=>(aC tab aF 4 j).bind λj=>(aA tab h.2 bB j).bind λj=>(dM tab h.2 bB bB (.J) j).bind λh=>(aV tab bB h.1).bind λj=>((cH (ux i h.1 j) [(Y 7 ds),.int .i64 0,(Y 11 ds)] h.2).bind λk=>some ((bJ 2 k.1),[(Y 0 k.2.1),(Y 1 k.2.1),(Y 2 k.2.1)],k.2.2)).bind λk=>toEnd k.1 ((aC tab aI 1 f.1).bind λl=>(aC tab aF 2 l).bind λl=>(aA tab k.2.2 W l).bind λl=>(U tab .add W l i).bind λl=>(aC tab aI 1 f.1).bind λm=>(aC tab aF 3 m).bind λm=>(aA tab k.2.2 W m).bind λm=>(U tab .add W m i).bind λm=>(aC tab aI 1 f.1).bind λn=>(aC tab aF 4 n).bind λn=>((bZ tab k.2.2 bB n h.1).bind λe=>some ((.bG:D),e)).bind λn=>(aC tab aI 1 f.1).bind λo=>(aC tab aF 2 o).bind λo=>((bZ tab n.2 W o l).bind λe=>some ((.bG:D),e)).bind λl=>(aC tab aI 1 f.1).bind λn=>(aC tab aF 3 n).bind λn=>((bZ tab l.2 W n m).bind λe=>some ((.bG:D),e)).bind λl=>(aC tab aI 1 f.1).bind λm=>(aC tab aF 3 m).bind λm=>(aA tab l.2 W m).bind λm=>(aN tab gT b.1 g.1).bind λb=>((bZ tab l.2 W b m).bind λe=>some ((.bG:D),e)).bind λb=>(aA tab b.2 aI f.1).bind λe=>(bI tab cN 1 [0] [e]).bind λe=>(dM tab b.2 cN cN (Y 0 ds) e).bind λb=>(R ga [a,.int .i64 4] b.2).bind λa=>(bI tab aP 1 [0] [a.1]).bind λe=>(dM tab a.2 aP aP (Y 1 ds) e).bind λa=>(U tab .sub W (Y 2 ds) (.int .i64 1)).bind λe=>some (.aO,[b.1,a.1,e,f.1,g.1,i,h.1,(Y 0 k.2.1),d,j,(Y 1 k.2.1),(Y 2 k.2.1)],a.2)) λa=>toEnd (bJ 1 a) ((U tab .sub W (Y 2 ds) (.int .i64 1)).bind λa=>some (.aO,[(Y 0 ds),(Y 1 ds),a,f.1,g.1,i,h.1,(Y 0 k.2.1),d,j,(Y 1 k.2.1),(Y 2 k.2.1)],k.2.2)) λa=>some (a,[(Y 0 ds),(Y 1 ds),(Y 2 ds),f.1,g.1,i,h.1,(Y 0 k.2.1),d,j,(Y 1 k.2.1),(Y 2 k.2.1)],k.2.2))
  (some ((.ext 0),[(Y 0 ds),(Y 1 ds),(Y 2 ds),(Y 3 ds),(Y 4 ds),(Y 5 ds),(Y 6 ds),(Y 7 ds),d,(Y 9 ds),(Y 10 ds),(Y 11 ds)],c))
def zf(a b:D)(h:Z):Option (D × Z):=
 (R ga [a,.int .i64 4] h).bind λc=>(U tab .mul W (.int .i64 10) c.1).bind λd=>(R ga [a,.int .i64 4] c.2).bind λc=>(U tab .mul W (.int .i64 10) c.1).bind λe=>(R ga [a,.int .i64 4] c.2).bind λc=>(U tab .mul W (.int .i64 10) c.1).bind λf=>(dZ tab gT [0,1,2] [d,e,f]).bind λd=>(some ((.ptr c.2.length 0 0:D),aL c.2 gT 3 [[.int .i64 0,.int .i64 0,.int .i64 0]])).bind λc=>((bZ tab c.2 gT c.1 d).bind λd=>some ((.bG:D),d)).bind λd=>(U tab .add W b (.int .i64 1)).bind λb=>(R ga [a,b] d.2).bind λb=>((cH (rL a c) [.J,.J,b.1,.any,.any,.any,.any,.any,.any,.any,.any,.any] b.2).bind λa=>some ((bJ 0 a.1),[(Y 0 a.2.1),(Y 1 a.2.1),(Y 2 a.2.1),(Y 3 a.2.1),(Y 4 a.2.1),(Y 5 a.2.1),(Y 6 a.2.1),(Y 7 a.2.1),(Y 8 a.2.1),(Y 9 a.2.1),(Y 10 a.2.1),(Y 11 a.2.1)],a.2.2)).bind λa=>toEnd a.1 (scope h a.2.2 (aE [(Y 0 a.2.1),(Y 1 a.2.1)])) λb=>cZ b (scope h a.2.2 (aE [.J,.J]))
theorem HF(a b:D)(h:Z):R mh [a,b] h=zf a b h:=
 er i7
def zh(a b:D)(ds:List D)(c:Z):Option bT:=
 (aV tab cN a).bind λd=>(U tab .lss W (Y 1 ds) d).bind λd=>aK d
  ((aN tab cN a (Y 1 ds)).bind λa=>(aA tab c aI a).bind λa=>(aN tab cN b (Y 1 ds)).bind λb=>(aA tab c aI b).bind λb=>(R vO [a,b] c).bind λa=>(ft .not a.1).bind λb=>aK b
  (some (.ret,[.bool false,(Y 1 ds),d,b],a.2))
  ((U tab .add W (Y 1 ds) (.int .i64 1)).bind λe=>some (.aO,[(Y 0 ds),e,d,b],a.2)))
  (some ((.ext 0),[(Y 0 ds),(Y 1 ds),d,(Y 3 ds)],c))
def zg(a b:D)(h:Z):Option (D × Z):=
 (aV tab cN a).bind λc=>(aV tab cN b).bind λd=>(U tab .neq W c d).bind λc=>aK c
  (some (aE [.bool false],h))
  (((cH (zh a b) [.bool false,.int .i64 0,.any,.any] h).bind λa=>some ((bJ 0 a.1),[(Y 0 a.2.1),(Y 1 a.2.1),(Y 2 a.2.1),(Y 3 a.2.1)],a.2.2)).bind λa=>toEnd a.1 (some (aE [.bool true],a.2.2)) λb=>cZ b (some (aE [(Y 0 a.2.1)],a.2.2)))
theorem HG(a b:D)(h:Z):R oP [a,b] h=zg a b h:=
 er wa
def zj(a b:D)(ds:List D)(c:Z):Option bT:=
 (aV tab aP a).bind λd=>(U tab .lss W (Y 1 ds) d).bind λd=>aK d
  ((aN tab aP a (Y 1 ds)).bind λa=>(aA tab c W a).bind λa=>(aN tab aP b (Y 1 ds)).bind λb=>(aA tab c W b).bind λb=>(U tab .neq W a b).bind λa=>aK a
  (some (.ret,[.bool false,(Y 1 ds),d,a],c))
  ((U tab .add W (Y 1 ds) (.int .i64 1)).bind λb=>some (.aO,[(Y 0 ds),b,d,a],c)))
  (some ((.ext 0),[(Y 0 ds),(Y 1 ds),d,(Y 3 ds)],c))
def zi(a b:D)(h:Z):Option (D × Z):=
 (aV tab aP a).bind λc=>(aV tab aP b).bind λd=>(U tab .neq W c d).bind λc=>aK c
  (some (aE [.bool false],h))
  (((cH (zj a b) [.bool false,.int .i64 0,.any,.any] h).bind λa=>some ((bJ 0 a.1),[(Y 0 a.2.1),(Y 1 a.2.1),(Y 2 a.2.1),(Y 3 a.2.1)],a.2.2)).bind λa=>toEnd a.1 (some (aE [.bool true],a.2.2)) λb=>cZ b (some (aE [(Y 0 a.2.1)],a.2.2)))
theorem HH(a b:D)(h:Z):R oQ [a,b] h=zi a b h:=
 er wb
def zy(a b c:D)(ds:List D)(d:Z):Option bT:=
 (U tab .lss W (Y 5 ds) c).bind λc=>aK c
  ((aN tab cN b (Y 5 ds)).bind λb=>(aA tab d aI b).bind λb=>(some ((.ptr d.length 0 0:D),aL d aI 11 [[.str [],.int .i64 0,.int .i64 0,.int .i64 0,.int .i64 0,.J,.int .i64 0,.int .i64 0,.str [],.str [],.J]])).bind λe=>((bZ tab e.2 aI e.1 b).bind λb=>some ((.bG:D),b)).bind λb=>(fO tab cN false true false [a,(Y 5 ds)]).bind λa=>(aC tab aI 1 e.1).bind λf=>(aC tab aF 1 f).bind λf=>(aA tab b.2 W f).bind λf=>(R qF [a,f] b.2).bind λa=>(fH 0 a.1).bind λb=>(fH 1 a.1).bind λf=>(aA tab a.2 aI e.1).bind λg=>(R sx [g] a.2).bind λa=>(U tab .neq nX a.1 (.int .i64 0)).bind λg=>(gd g false (some f)).bind λh=>(gd g false (some h)).bind λh=>(gd h true (some b)).bind λi=>(gd h true (aC tab aI 1 e.1)).bind λj=>(gd h true (aC tab aF 2 j)).bind λj=>(gd h true (aA tab a.2 W j)).bind λj=>(gd h true (U tab .neq W i j)).bind λi=>(gd g false (cP h i (.bool false))).bind λh=>(cP g (.bool true) h).bind λg=>aK g
  (some (.ret,[.bool false,(Y 5 ds),e.1,b,f,(Y 5 ds),c,g],a.2))
  ((U tab .add W (Y 5 ds) (.int .i64 1)).bind λh=>some (.aO,[(Y 0 ds),(Y 5 ds),e.1,b,f,h,c,g],a.2)))
  (some ((.ext 0),[(Y 0 ds),(Y 1 ds),(Y 2 ds),(Y 3 ds),(Y 4 ds),(Y 5 ds),c,(Y 7 ds)],d))
def zx(a b c:D)(h:Z):Option (D × Z):=
 (aV tab cN a).bind λd=>(U tab .gtr W d c).bind λc=>(gd c false (some b)).bind λb=>(gd c false (aV tab aP b)).bind λb=>(gd c false (some a)).bind λd=>(gd c false (aV tab cN d)).bind λd=>(gd c false (U tab .neq W b d)).bind λb=>(cP c (.bool true) b).bind λb=>aK b
  (scope h h (aE [.bool false]))
  ((aV tab cN a).bind λb=>((cH (zy a a b) [.bool false,.any,.any,.any,.any,.int .i64 0,.any,.any] h).bind λa=>some ((bJ 0 a.1),[(Y 0 a.2.1),(Y 1 a.2.1),(Y 2 a.2.1),(Y 3 a.2.1),(Y 4 a.2.1),(Y 5 a.2.1),(Y 6 a.2.1),(Y 7 a.2.1)],a.2.2)).bind λa=>toEnd a.1 (scope h a.2.2 (aE [.bool true])) λb=>cZ b (scope h a.2.2 (aE [(Y 0 a.2.1)])))
theorem HU(a b c:D)(h:Z):R qE [a,b,c] h=zx a b c h:=
 er wj
def uB(a b:D)(h:Z):Option (D × Z):=
 (R vN [a] h).bind λc=>(ft .not c.1).bind λd=>(gd d false (some b)).bind λe=>(gd d false (U tab .lss W e (.int .i64 1))).bind λe=>(cP d (.bool true) e).bind λd=>aK d
  (some (aE [.int .i64 0],c.2))
  ((fN tab a).bind λd=>(aC tab iz 1 d).bind λd=>(aA tab c.2 W d).bind λd=>(U tab .add W d (.int .i64 1)).bind λd=>(fN tab a).bind λe=>(aC tab iz 1 e).bind λe=>((bZ tab c.2 W e d).bind λc=>some ((.bG:D),c)).bind λc=>(fN tab a).bind λd=>(aC tab iz 0 d).bind λd=>(aA tab c.2 iQ d).bind λd=>(fN tab a).bind λa=>(aC tab iz 1 a).bind λa=>(aA tab c.2 W a).bind λa=>(U tab .sub W a (.int .i64 1)).bind λa=>(aN tab iQ d a).bind λa=>(aA tab c.2 fJ a).bind λa=>(jF tab fJ W a).bind λa=>(U tab .rem W a b).bind λa=>some (aE [a],c.2))
theorem Bp(a b:D)(h:Z):R ga [a,b] h=uB a b h:=
 er wk
def zA(a b c d:D)(ds:List D)(e:Z):Option bT:=
 (U tab .lss W (Y 6 ds) d).bind λd=>aK d
  (((aN tab cN c (Y 6 ds)).bind λc=>(aA tab e aI c).bind λc=>(some ((.ptr e.length 0 0:D),aL e aI 11 [[.str [],.int .i64 0,.int .i64 0,.int .i64 0,.int .i64 0,.J,.int .i64 0,.int .i64 0,.str [],.str [],.J]])).bind λf=>((bZ tab f.2 aI f.1 c).bind λc=>some ((.bG:D),c)).bind λg=>(aC tab aI 1 f.1).bind λh=>(aC tab aF 1 h).bind λh=>(aA tab g.2 W h).bind λh=>(R vM [b,h] g.2).bind λb=>(fH 0 b.1).bind λg=>(fH 1 b.1).bind λh=>(aK h
  ((aA tab b.2 aI f.1).bind λi=>(R sw [i,g] b.2).bind λi=>(fH 0 i.1).bind λj=>(fH 1 i.1).bind λk=>((bZ tab i.2 aI f.1 j).bind λc=>some ((.bG:D),c)).bind λc=>(ft .not k).bind λi=>aK i
  (some ((.ext 1),[k,i],c.2))
  (some (.aO,[k,i],c.2)))
  (some (.aO,[h,(Y 9 ds)],b.2))).bind λb=>toEnd b.1 ((aA tab b.2.2 aI f.1).bind λc=>(bI tab cN 1 [0] [c]).bind λc=>(dM tab b.2.2 cN cN (Y 0 ds) c).bind λc=>(aV tab aP a).bind λi=>(U tab .lss W (Y 6 ds) i).bind λi=>(aK i
  ((aN tab aP a (Y 6 ds)).bind λa=>(aA tab c.2 W a).bind λa=>(bI tab aP 1 [0] [a]).bind λa=>(dM tab c.2 aP aP (Y 1 ds) a).bind λa=>some (.aO,[a.1],a.2))
  (some (.aO,[(Y 1 ds)],c.2))).bind λa=>some ((bJ 1 a.1),[c.1,(Y 0 a.2.1),(Y 6 ds),f.1,g,(Y 0 b.2.1),h,(Y 1 b.2.1),i],a.2.2)) λa=>some ((bJ 1 a),[(Y 0 ds),(Y 1 ds),(Y 6 ds),f.1,g,(Y 0 b.2.1),h,(Y 1 b.2.1),(Y 10 ds)],b.2.2)).bind λa=>toEnd a.1 ((U tab .add W (Y 6 ds) (.int .i64 1)).bind λb=>some (.aO,[(Y 0 a.2.1),(Y 1 a.2.1),(Y 2 a.2.1),(Y 3 a.2.1),(Y 4 a.2.1),(Y 5 a.2.1),b,d,(Y 6 a.2.1),(Y 7 a.2.1),(Y 8 a.2.1)],a.2.2)) λb=>some (b,[(Y 0 a.2.1),(Y 1 a.2.1),(Y 2 a.2.1),(Y 3 a.2.1),(Y 4 a.2.1),(Y 5 a.2.1),(Y 6 ds),d,(Y 6 a.2.1),(Y 7 a.2.1),(Y 8 a.2.1)],a.2.2))
  (some ((.ext 0),[(Y 0 ds),(Y 1 ds),(Y 2 ds),(Y 3 ds),(Y 4 ds),(Y 5 ds),(Y 6 ds),d,(Y 8 ds),(Y 9 ds),(Y 10 ds)],e))
def zz(a b c:D)(h:Z):Option (D × Z):=
 (aV tab cN a).bind λd=>((cH (zA b c a d) [.J,.J,.any,.any,.any,.any,.int .i64 0,.any,.any,.any,.any] h).bind λa=>some ((bJ 0 a.1),[(Y 0 a.2.1),(Y 1 a.2.1),(Y 2 a.2.1),(Y 3 a.2.1),(Y 4 a.2.1),(Y 5 a.2.1),(Y 6 a.2.1),(Y 7 a.2.1),(Y 8 a.2.1),(Y 9 a.2.1),(Y 10 a.2.1)],a.2.2)).bind λa=>toEnd a.1 (scope h a.2.2 (aE [(Y 0 a.2.1),(Y 1 a.2.1)])) λb=>cZ b (scope h a.2.2 (aE [.J,.J]))
theorem HV(a b c:D)(h:Z):R lD [a,b,c] h=zz a b c h:=
 er wm
def zl(a b:D)(h:Z):Option (D × Z):=
 (some ((.ptr h.length 0 0:D),aL h aI 11 [[.str [],.int .i64 0,.int .i64 0,.int .i64 0,.int .i64 0,.J,.int .i64 0,.int .i64 0,.str [],.str [],.J]])).bind λc=>(U tab .add W b (.int .i64 1)).bind λd=>(dZ tab bF [0,1] [b,.int .i64 1]).bind λe=>(bI tab bB 1 [0] [e]).bind λe=>(dZ tab aF [1,2,3,4] [a,b,d,e]).bind λa=>(dZ tab aI [0,1] [.str [114],a]).bind λa=>((bZ tab c.2 aI c.1 a).bind λa=>some ((.bG:D),a)).bind λa=>(aA tab a.2 aI c.1).bind λb=>scope h a.2 (aE [b])
theorem HJ(a b:D)(h:Z):R nD [a,b] h=zl a b h:=
 er wo
def yM(a:D)(b:D × Z)(c:D)(ds:List D)(d:Z):Option bT:=
 (U tab .lss W (Y 1 ds) c).bind λc=>aK c
  ((aC tab aF 4 b.1).bind λe=>(aA tab d bB e).bind λe=>(aC tab aF 4 a).bind λf=>(aA tab d bB f).bind λf=>(aN tab bB f (Y 1 ds)).bind λf=>(aC tab bF 0 f).bind λf=>(aA tab d W f).bind λf=>(aC tab aF 4 a).bind λa=>(aA tab d bB a).bind λa=>(aN tab bB a (Y 1 ds)).bind λa=>(aC tab bF 1 a).bind λa=>(aA tab d W a).bind λa=>(dZ tab bF [0,1] [f,a]).bind λa=>(bI tab bB 1 [0] [a]).bind λa=>(dM tab d bB bB e a).bind λa=>(aC tab aF 4 b.1).bind λb=>((bZ tab a.2 bB b a.1).bind λa=>some ((.bG:D),a)).bind λa=>(U tab .add W (Y 1 ds) (.int .i64 1)).bind λb=>some (.aO,[(Y 1 ds),b,c],a.2))
  (some ((.ext 0),[(Y 0 ds),(Y 1 ds),c],d))
def yL(a:D)(h:Z):Option (D × Z):=
 (some ((.ptr h.length 0 0:D),aL h aI 11 [[.str [],.int .i64 0,.int .i64 0,.int .i64 0,.int .i64 0,.J,.int .i64 0,.int .i64 0,.str [],.str [],.J]])).bind λb=>(R sG [a] b.2).bind λc=>(im 10 c.1).bind λd=>(R ga [a,.int .i64 4] c.2).bind λc=>(U tab .lss W c.1 (.int .i64 3)).bind λe=>aK e
  ((aA tab c.2 aF d).bind λe=>(dZ tab aI [1] [e]).bind λe=>((bZ tab c.2 aI b.1 e).bind λe=>some ((.bG:D),e)).bind λf=>(aA tab f.2 aI b.1).bind λg=>scope h f.2 (aE [g]))
  ((aC tab aF 0 d).bind λf=>(aA tab c.2 W f).bind λf=>(aC tab aF 1 d).bind λi=>(aA tab c.2 W i).bind λi=>(aC tab aF 2 d).bind λj=>(aA tab c.2 W j).bind λj=>(aC tab aF 3 d).bind λk=>(aA tab c.2 W k).bind λk=>(dZ tab aF [0,1,2,3] [f,i,j,k]).bind λf=>(some ((.ptr c.2.length 0 0:D),aL c.2 aF 10 [[.int .i64 0,.int .i64 0,.int .i64 0,.int .i64 0,.J,.int .i64 0,.int .i64 0,.str [],.str [],.J]])).bind λc=>((bZ tab c.2 aF c.1 f).bind λe=>some ((.bG:D),e)).bind λf=>(aC tab aF 4 d).bind λi=>(aA tab f.2 bB i).bind λi=>(aV tab bB i).bind λi=>((cH (yM d c i) [.any,.int .i64 0,.any] f.2).bind λd=>some ((bJ 0 d.1),[(Y 0 d.2.1),(Y 1 d.2.1),(Y 2 d.2.1)],d.2.2)).bind λd=>toEnd d.1 ((bI tab dA 3 [0,1,2] [.str [115,97,109,112,108,101],.str [116,111,111,45,108,111,110,103],.str [114,49]]).bind λf=>(R fP [a,f] d.2.2).bind λa=>(aA tab a.2 aF c.1).bind λf=>(dZ tab aI [0,1] [a.1,f]).bind λi=>eL (aA tab d.2.2 aF c.1=some f)
 (((bZ tab a.2 aI b.1 i).bind λe=>some ((.bG:D),e)).bind λa=>(aA tab a.2 aI b.1).bind λg=>scope h a.2 (aE [g]))) λa=>cZ a ((aA tab d.2.2 aI b.1).bind λg=>scope h d.2.2 (aE [g])))
theorem Hg(a:D)(h:Z):R sv [a] h=yL a h:=
 er wu
def yO(a:D)(h:Z):Option (D × Z):=
 (gC a).bind λa=>(aC tab aI 1 a).bind λb=>(aA tab h aF b).bind λb=>(im 10 b).bind λb=>(aC tab aI 0 a).bind λc=>(aA tab h bL c).bind λc=>(U tab .eql bL c (.str [])).bind λc=>aK c
  ((aA tab h aF b).bind λc=>(R qt [c] h).bind λc=>some (aE [c.1],c.2))
  ((aC tab aI 0 a).bind λa=>(aA tab h bL a).bind λa=>(aV tab bL a).bind λa=>(U tab .gtr W a (.int .i64 32)).bind λa=>aK a
  (some (aE [.int .i64 3],h))
  ((aA tab h aF b).bind λa=>(R sC [a] h).bind λa=>(ft .not a.1).bind λc=>aK c
  (some (aE [.int .i64 2],a.2))
  ((aA tab a.2 aF b).bind λc=>(R sD [c,.int .i64 60000] a.2).bind λa=>(U tab .eql nX a.1 (.int .i64 9)).bind λc=>(gd c false (some a.1)).bind λd=>(gd c false (U tab .eql nX d (.int .i64 4))).bind λd=>(cP c (.bool true) d).bind λc=>(gd c false (some a.1)).bind λd=>(gd c false (U tab .eql nX d (.int .i64 19))).bind λd=>(cP c (.bool true) d).bind λc=>aK c
  (some (aE [a.1],a.2))
  ((aC tab aF 5 b).bind λc=>(aA tab a.2 W c).bind λc=>(U tab .neq W c (.int .i64 0)).bind λc=>(gd c false (aC tab aF 6 b)).bind λd=>(gd c false (aA tab a.2 W d)).bind λd=>(gd c false (U tab .neq W d (.int .i64 0))).bind λd=>(cP c (.bool true) d).bind λc=>(gd c false (aC tab aF 7 b)).bind λd=>(gd c false (aA tab a.2 bL d)).bind λd=>(gd c false (U tab .neq bL d (.str []))).bind λd=>(cP c (.bool true) d).bind λc=>(gd c false (aC tab aF 8 b)).bind λd=>(gd c false (aA tab a.2 bL d)).bind λd=>(gd c false (U tab .neq bL d (.str []))).bind λd=>(cP c (.bool true) d).bind λc=>(gd c false (aC tab aF 9 b)).bind λd=>(gd c false (aA tab a.2 bS d)).bind λd=>(gd c false (aV tab bS d)).bind λd=>(gd c false (U tab .neq W d (.int .i64 0))).bind λd=>(cP c (.bool true) d).bind λc=>(gd c false (aC tab aF 4 b)).bind λb=>(gd c false (aA tab a.2 bB b)).bind λb=>(e7 c false a.2 (R vA [b,.fn (.func qu) [] []] a.2)).bind λa=>(cP c (.bool true) a.1).bind λb=>aK b
  (some (aE [.int .i64 19],a.2))
  (some (aE [.int .i64 0],a.2))))))
theorem Hi(a:D)(h:Z):R sx [a] h=yO a h:=
 er wv
def rM(a:D)(h:Z):Option (D × Z):=
 (U tab .eql aP a (.J)).bind λb=>aK b
  (some (aE [.J],h))
  ((bI tab aP 0 [] []).bind λb=>(dM tab h aP aP b a).bind λa=>some (aE [a.1],a.2))
theorem vn(a:D)(h:Z):R sH [a] h=rM a h:=
 er wx
def zM(a b:D)(h:Z):Option (D × Z):=
 (gC a).bind λa=>(gC b).bind λb=>(aC tab aI 1 a).bind λc=>(aA tab h aF c).bind λd=>(aC tab aI 1 b).bind λe=>(aA tab h aF e).bind λf=>(some ((.ptr h.length 0 0:D),aL h aF 10 [[.int .i64 0,.int .i64 0,.int .i64 0,.int .i64 0,.J,.int .i64 0,.int .i64 0,.str [],.str [],.J]])).bind λg=>(some (.any:D)).bind λi=>((bZ tab g.2 aF g.1 d).bind λi=>some ((.bG:D),i)).bind λj=>eL (aA tab g.2 aF c=some d)
 (eL (aA tab g.2 aF e=some f)
 (eL (aA tab j.2 aF e=some f)
 (((bZ tab (aL j.2 aF 10 [[.int .i64 0,.int .i64 0,.int .i64 0,.int .i64 0,.J,.int .i64 0,.int .i64 0,.str [],.str [],.J]]) aF (.ptr j.2.length 0 0) f).bind λi=>some ((.bG:D),i)).bind λc=>(aC tab aI 0 a).bind λa=>(aA tab c.2 bL a).bind λa=>(aC tab aI 0 b).bind λb=>(aA tab c.2 bL b).bind λb=>(U tab .eql bL a b).bind λa=>(gd a true (aC tab aF 0 g.1)).bind λb=>(gd a true (aA tab c.2 W b)).bind λb=>(gd a true (aC tab aF 0 (.ptr j.2.length 0 0))).bind λd=>(gd a true (aA tab c.2 W d)).bind λd=>(gd a true (U tab .eql W b d)).bind λb=>(cP a b (.bool false)).bind λa=>(gd a true (aC tab aF 1 g.1)).bind λb=>(gd a true (aA tab c.2 W b)).bind λb=>(gd a true (aC tab aF 1 (.ptr j.2.length 0 0))).bind λd=>(gd a true (aA tab c.2 W d)).bind λd=>(gd a true (U tab .eql W b d)).bind λb=>(cP a b (.bool false)).bind λa=>(gd a true (aC tab aF 2 g.1)).bind λb=>(gd a true (aA tab c.2 W b)).bind λb=>(gd a true (aC tab aF 2 (.ptr j.2.length 0 0))).bind λd=>(gd a true (aA tab c.2 W d)).bind λd=>(gd a true (U tab .eql W b d)).bind λb=>(cP a b (.bool false)).bind λa=>(gd a true (aC tab aF 3 g.1)).bind λb=>(gd a true (aA tab c.2 W b)).bind λb=>(gd a true (aC tab aF 3 (.ptr j.2.length 0 0))).bind λd=>(gd a true (aA tab c.2 W d)).bind λd=>(gd a true (U tab .eql W b d)).bind λb=>(cP a b (.bool false)).bind λa=>(gd a true (aC tab aF 5 g.1)).bind λb=>(gd a true (aA tab c.2 W b)).bind λb=>(gd a true (aC tab aF 5 (.ptr j.2.length 0 0))).bind λd=>(gd a true (aA tab c.2 W d)).bind λd=>(gd a true (U tab .eql W b d)).bind λb=>(cP a b (.bool false)).bind λa=>(gd a true (aC tab aF 6 g.1)).bind λb=>(gd a true (aA tab c.2 W b)).bind λb=>(gd a true (aC tab aF 6 (.ptr j.2.length 0 0))).bind λd=>(gd a true (aA tab c.2 W d)).bind λd=>(gd a true (U tab .eql W b d)).bind λb=>(cP a b (.bool false)).bind λa=>(gd a true (aC tab aF 7 g.1)).bind λb=>(gd a true (aA tab c.2 bL b)).bind λb=>(gd a true (aC tab aF 7 (.ptr j.2.length 0 0))).bind λd=>(gd a true (aA tab c.2 bL d)).bind λd=>(gd a true (U tab .eql bL b d)).bind λb=>(cP a b (.bool false)).bind λa=>(gd a true (aC tab aF 8 g.1)).bind λb=>(gd a true (aA tab c.2 bL b)).bind λb=>(gd a true (aC tab aF 8 (.ptr j.2.length 0 0))).bind λd=>(gd a true (aA tab c.2 bL d)).bind λd=>(gd a true (U tab .eql bL b d)).bind λb=>(cP a b (.bool false)).bind λa=>(gd a true (aC tab aF 4 g.1)).bind λb=>(gd a true (aA tab c.2 bB b)).bind λb=>(gd a true (aC tab aF 4 (.ptr j.2.length 0 0))).bind λd=>(gd a true (aA tab c.2 bB d)).bind λd=>(e7 a true c.2 (R vQ [b,d] c.2)).bind λb=>(cP a b.1 (.bool false)).bind λa=>(gd a true (aC tab aF 9 g.1)).bind λc=>(gd a true (aA tab b.2 bS c)).bind λc=>(gd a true (aC tab aF 9 (.ptr j.2.length 0 0))).bind λd=>(gd a true (aA tab b.2 bS d)).bind λd=>(e7 a true b.2 (R vR [c,d] b.2)).bind λb=>(cP a b.1 (.bool false)).bind λa=>scope h b.2 (aE [a]))))
theorem H5(a b:D)(h:Z):R vO [a,b] h=zM a b h:=
 er wy
def zQ(a b:D)(h:Z):Option (D × Z):=
 (R sS [a] h).bind λc=>(R sS [b] c.2).bind λd=>aK c.1
  (aK d.1
  (some (aE [.int .i64 0],d.2))
  (some (aE [.int .i64 (-1)],d.2)))
  (aK d.1
  (some (aE [.int .i64 1],d.2))
  ((U tab .lss W a b).bind λc=>aK c
  (some (aE [.int .i64 (-1)],d.2))
  ((U tab .gtr W a b).bind λa=>aK a
  (some (aE [.int .i64 1],d.2))
  (some (aE [.int .i64 0],d.2)))))
theorem H8(a b:D)(h:Z):R sR [a,b] h=zQ a b h:=
 er wz
def zK(a:D)(h:Z):Option (D × Z):=
 (fN tab a).bind λb=>(aC tab iz 1 b).bind λb=>(aA tab h W b).bind λb=>(fN tab a).bind λa=>(aC tab iz 0 a).bind λa=>(aA tab h iQ a).bind λa=>(aV tab iQ a).bind λa=>(U tab .lss W b a).bind λa=>some (aE [a],h)
theorem H3(a:D)(h:Z):R vN [a] h=zK a h:=
 er wA
def zB(a b:D)(h:Z):Option (D × Z):=
 (gC b).bind λb=>(some (.fn (.func lE) [] [b]:D)).bind λb=>(R qG [a,b] h).bind λb=>(U tab .lss W b.1 (.int .i64 0)).bind λc=>aK c
  (some (aE [.int .i64 0,.bool false],b.2))
  ((aN tab gS a b.1).bind λa=>(aC tab fF 1 a).bind λa=>(aA tab b.2 W a).bind λa=>some (aE [a,.bool true],b.2))
theorem HW(a b:D)(h:Z):R vM [a,b] h=zB a b h:=
 er wB
def yN(a b:D)(h:Z):Option (D × Z):=
 (pD aI 11 h a).bind λa=>(gC b).bind λb=>(some ((.ptr a.2.length 0 0:D),aL a.2 aI 11 [[.str [],.int .i64 0,.int .i64 0,.int .i64 0,.int .i64 0,.J,.int .i64 0,.int .i64 0,.str [],.str [],.J]])).bind λc=>(aA tab c.2 W b).bind λd=>(aC tab aI 1 a.1).bind λe=>(aC tab aF 2 e).bind λe=>(aA tab c.2 W e).bind λe=>(U tab .leq W d e).bind λd=>aK d
  ((aA tab c.2 aI a.1).bind λd=>((bZ tab c.2 aI c.1 d).bind λd=>some ((.bG:D),d)).bind λe=>(aA tab e.2 aI c.1).bind λf=>scope h e.2 (aE [f,.bool true]))
  ((aC tab aI 1 a.1).bind λe=>(aC tab aF 4 e).bind λe=>(aA tab c.2 bB e).bind λe=>(some (.fn (.func sy) [] [b]:D)).bind λg=>(R oN [e,g] c.2).bind λe=>(aA tab e.2 W b).bind λg=>(aC tab aI 1 a.1).bind λi=>(aC tab aF 3 i).bind λi=>(aA tab e.2 W i).bind λi=>(U tab .geq W g i).bind λg=>(gd g false (some e.1)).bind λi=>(gd g false (U tab .lss W i (.int .i64 0))).bind λi=>(cP g (.bool true) i).bind λg=>aK g
  ((dZ tab aI [] []).bind λg=>((bZ tab e.2 aI c.1 g).bind λd=>some ((.bG:D),d)).bind λg=>(aA tab g.2 aI c.1).bind λf=>scope h g.2 (aE [f,.bool false]))
  ((aC tab aI 1 a.1).bind λg=>(aC tab aF 4 g).bind λg=>(aA tab e.2 bB g).bind λg=>(R vy [g] e.2).bind λe=>(some (.fn (.func sB) [] [b]:D)).bind λb=>(R sA [e.1,b] e.2).bind λb=>(aC tab aI 1 a.1).bind λe=>(aC tab aF 4 e).bind λe=>((bZ tab b.2 bB e b.1).bind λd=>some ((.bG:D),d)).bind λb=>(aC tab aI 1 a.1).bind λe=>(aC tab aF 4 e).bind λe=>(aA tab b.2 bB e).bind λe=>(aN tab bB e (.int .i64 0)).bind λe=>(aC tab bF 0 e).bind λe=>(aA tab b.2 W e).bind λe=>(aC tab aI 1 a.1).bind λg=>(aC tab aF 2 g).bind λg=>((bZ tab b.2 W g e).bind λd=>some ((.bG:D),d)).bind λb=>(aA tab b.2 aI a.1).bind λa=>((bZ tab b.2 aI c.1 a).bind λd=>some ((.bG:D),d)).bind λa=>(aA tab a.2 aI c.1).bind λf=>scope h a.2 (aE [f,.bool true])))
theorem Hh(a b:D)(h:Z):R sw [a,b] h=yN a b h:=
 er wC
def zm(a b:D)(h:Z):Option (D × Z):=
 (gk tab R "Push" [a,b] h).bind λb=>(gk tab R "Len" [a] b.2).bind λb=>(U tab .sub W b.1 (.int .i64 1)).bind λc=>(R sJ [a,c] b.2).bind λa=>some (aE [],a.2)
theorem HL(a b:D)(h:Z):R sI [a,b] h=zm a b h:=
 er wD
def uy(a:D)(h:Z):Option (D × Z):=
 (fN tab a).bind λa=>(aC tab dR 0 a).bind λa=>(aA tab h aP a).bind λa=>(aV tab aP a).bind λa=>some (aE [a],h)
theorem Bo(a:D)(h:Z):R qC [a] h=uy a h:=
 er wE
def zn(a:D)(h:Z):Option (D × Z):=
 (gk tab R "Len" [a] h).bind λb=>(U tab .sub W b.1 (.int .i64 1)).bind λc=>(gk tab R "Swap" [a,.int .i64 0,c] b.2).bind λb=>(R sK [a,.int .i64 0,c] b.2).bind λb=>(gk tab R "Pop" [a] b.2).bind λa=>some (aE [a.1],a.2)
theorem HM(a:D)(h:Z):R vJ [a] h=zn a h:=
 er wF
def ze(a:D)(h:Z):Option (D × Z):=
 (some ((.ptr h.length 0 0:D),aL h aF 10 [[.int .i64 0,.int .i64 0,.int .i64 0,.int .i64 0,.J,.int .i64 0,.int .i64 0,.str [],.str [],.J]])).bind λb=>(R ga [a,.int .i64 3] b.2).bind λc=>(R ga [a,.int .i64 3] c.2).bind λd=>(R ga [a,.int .i64 6] d.2).bind λe=>(U tab .mul W (.int .i64 10) e.1).bind λf=>(R ga [a,.int .i64 256] e.2).bind λe=>(U tab .mul W (.int .i64 1000) e.1).bind λg=>(bI tab aP 4 [0,1,2,3] [.int .i64 1,.int .i64 1,.int .i64 2,.int .i64 5040]).bind λi=>(R ga [a,.int .i64 4] e.2).bind λe=>(aN tab aP i e.1).bind λi=>(aA tab e.2 W i).bind λj=>(bI tab dA 4 [0,1,2,3] [.str [],.str [116,49],.str [116,50],.str [105,100]]).bind λk=>(R fP [a,k] e.2).bind λe=>(bI tab dA 2 [0,1] [.str [109,97,105,110],.str [97,117,100,105,116]]).bind λk=>(R fP [a,k] e.2).bind λk=>(R sN [a] k.2).bind λl=>(dZ tab aF [0,1,2,5,6,7,8,9] [c.1,d.1,f,g,j,e.1,k.1,l.1]).bind λc=>(some (.any:D)).bind λd=>eL (aA tab e.2 W i=some j)
 (eL (aA tab k.2 W i=some j)
 (eL (aA tab l.2 W i=some j)
 (((bZ tab (aL l.2 aF 10 [[.int .i64 0,.int .i64 0,.int .i64 0,.int .i64 0,.J,.int .i64 0,.int .i64 0,.str [],.str [],.J]]) aF (.ptr l.2.length 0 0) c).bind λc=>some ((.bG:D),c)).bind λd=>(aC tab aF 2 (.ptr l.2.length 0 0)).bind λe=>(aA tab d.2 W e).bind λe=>(R sO [a,e,.int .i64 3,.bool true] d.2).bind λa=>(aC tab aF 4 (.ptr l.2.length 0 0)).bind λd=>((bZ tab a.2 bB d a.1).bind λc=>some ((.bG:D),c)).bind λa=>(aC tab aF 4 (.ptr l.2.length 0 0)).bind λd=>(aA tab a.2 bB d).bind λd=>(aC tab aF 4 (.ptr l.2.length 0 0)).bind λe=>(aA tab a.2 bB e).bind λe=>(aV tab bB e).bind λe=>(U tab .sub W e (.int .i64 1)).bind λe=>(aN tab bB d e).bind λd=>(aA tab a.2 bF d).bind λd=>(im 3 d).bind λd=>(aC tab bF 0 d).bind λe=>(aA tab a.2 W e).bind λe=>(aC tab bF 1 d).bind λd=>(aA tab a.2 W d).bind λd=>(U tab .add W e d).bind λd=>(aC tab aF 3 (.ptr l.2.length 0 0)).bind λe=>((bZ tab a.2 W e d).bind λc=>some ((.bG:D),c)).bind λa=>(aA tab a.2 aF (.ptr l.2.length 0 0)).bind λd=>((bZ tab a.2 aF b.1 d).bind λc=>some ((.bG:D),c)).bind λa=>(aA tab a.2 aF b.1).bind λb=>scope h a.2 (aE [b]))))
theorem HE(a:D)(h:Z):R sG [a] h=ze a h:=
 er wG
def zF(a b:D)(h:Z):Option (D × Z):=
 (aV tab dA b).bind λc=>(R ga [a,c] h).bind λa=>(aN tab dA b a.1).bind λb=>(aA tab a.2 bL b).bind λb=>some (aE [b],a.2)
theorem HZ(a b:D)(h:Z):R fP [a,b] h=zF a b h:=
 er wH
def yP(a:D)(h:Z):Option (D × Z):=
 (gC a).bind λa=>(aA tab h aF a).bind λb=>(R sC [b] h).bind λb=>(ft .not b.1).bind λc=>(gd c false (aC tab aF 5 a)).bind λd=>(gd c false (aA tab b.2 W d)).bind λd=>(e7 c false b.2 (R oO [d,.int .i64 0,.int .i64 253402300799999] b.2)).bind λb=>(gd c false (ft .not b.1)).bind λd=>(cP c (.bool true) d).bind λc=>aK c
  (scope h b.2 (aE [.int .i64 2]))
  ((aC tab aF 6 a).bind λc=>(aA tab b.2 W c).bind λc=>(U tab .lss W c (.int .i64 1)).bind λc=>(gd c false (aC tab aF 6 a)).bind λd=>(gd c false (aA tab b.2 W d)).bind λd=>(gd c false (U tab .rem W (.int .i64 5040) d)).bind λd=>(gd c false (U tab .neq W d (.int .i64 0))).bind λd=>(cP c (.bool true) d).bind λc=>aK c
  (scope h b.2 (aE [.int .i64 21]))
  ((aA tab b.2 aF a).bind λc=>(R sD [c,.int .i64 2000] b.2).bind λb=>(U tab .neq nX b.1 (.int .i64 0)).bind λc=>aK c
  (scope h b.2 (aE [b.1]))
  ((aC tab aF 7 a).bind λc=>(aA tab b.2 bL c).bind λc=>(aV tab bL c).bind λc=>(U tab .gtr W c (.int .i64 32)).bind λc=>(gd c false (aC tab aF 8 a)).bind λd=>(gd c false (aA tab b.2 bL d)).bind λd=>(gd c false (aV tab bL d)).bind λd=>(gd c false (U tab .gtr W d (.int .i64 32))).bind λd=>(cP c (.bool true) d).bind λc=>aK c
  (scope h b.2 (aE [.int .i64 3]))
  ((aC tab aF 9 a).bind λc=>(aA tab b.2 bS c).bind λc=>(R qv [c] b.2).bind λb=>(fH 0 b.1).bind λc=>(fH 1 b.1).bind λd=>(U tab .neq nX d (.int .i64 0)).bind λe=>aK e
  (scope h b.2 (aE [d]))
  ((aC tab aF 9 a).bind λa=>(aA tab b.2 bS a).bind λa=>(R vB [c,a] b.2).bind λa=>(ft .not a.1).bind λb=>aK b
  (scope h a.2 (aE [.int .i64 19]))
  ((R vC [c,.fn (.func qx) [] []] a.2).bind λa=>aK a.1
  (scope h a.2 (aE [.int .i64 3]))
  (scope h a.2 (aE [.int .i64 0]))))))))
theorem Hj(a:D)(h:Z):R qt [a] h=yP a h:=
 er wI
def yU(a:D)(h:Z):Option (D × Z):=
 (gC a).bind λa=>(aC tab aF 0 a).bind λb=>(aA tab h W b).bind λb=>(R oO [b,.int .i64 0,.int .i64 999] h).bind λb=>(gd b.1 true (aC tab aF 1 a)).bind λc=>(gd b.1 true (aA tab b.2 W c)).bind λc=>(e7 b.1 true b.2 (R oO [c,.int .i64 0,.int .i64 2147483646] b.2)).bind λc=>(cP b.1 c.1 (.bool false)).bind λb=>(gd b true (aC tab aF 2 a)).bind λd=>(gd b true (aA tab c.2 W d)).bind λd=>(gd b true (U tab .geq W d (.int .i64 0))).bind λd=>(cP b d (.bool false)).bind λb=>(gd b true (aC tab aF 3 a)).bind λd=>(gd b true (aA tab c.2 W d)).bind λd=>(gd b true (aC tab aF 2 a)).bind λe=>(gd b true (aA tab c.2 W e)).bind λe=>(gd b true (U tab .gtr W d e)).bind λd=>(cP b d (.bool false)).bind λb=>(gd b true (aC tab aF 3 a)).bind λa=>(gd b true (aA tab c.2 W a)).bind λa=>(gd b true (U tab .leq W a (.int .i64 60000))).bind λa=>(cP b a (.bool false)).bind λa=>some (aE [a],c.2)
theorem Hn(a:D)(h:Z):R sC [a] h=yU a h:=
 er wJ
def yW(a b c d:D)(ds:List D)(e:Z):Option bT:=
 (U tab .lss W (Y 5 ds) d).bind λd=>aK d
  ((aN tab bB c (Y 5 ds)).bind λc=>(aA tab e bF c).bind λc=>(some ((.ptr e.length 0 0:D),aL e bF 3 [[.int .i64 0,.int .i64 0,.str []]])).bind λf=>((bZ tab f.2 bF f.1 c).bind λc=>some ((.bG:D),c)).bind λc=>(aC tab aF 4 b).bind λg=>(aA tab c.2 bB g).bind λg=>(aV tab bB g).bind λg=>(U tab .sub W g (.int .i64 1)).bind λg=>(U tab .eql W (Y 5 ds) g).bind λg=>(aC tab bF 0 f.1).bind λh=>(aA tab c.2 W h).bind λh=>(U tab .neq W h (Y 1 ds)).bind λh=>(gd h false (aC tab bF 1 f.1)).bind λi=>(gd h false (aA tab c.2 W i)).bind λi=>(gd h false (U tab .lss W i (.int .i64 1))).bind λi=>(cP h (.bool true) i).bind λh=>(gd h false (aC tab bF 1 f.1)).bind λi=>(gd h false (aA tab c.2 W i)).bind λi=>(gd h false (aC tab aF 3 b)).bind λj=>(gd h false (aA tab c.2 W j)).bind λj=>(gd h false (some (Y 1 ds))).bind λk=>(gd h false (U tab .sub W j k)).bind λj=>(gd h false (U tab .gtr W i j)).bind λi=>(cP h (.bool true) i).bind λh=>(gd h false (some g)).bind λi=>(gd h false (some i)).bind λi=>(gd i true (aC tab bF 1 f.1)).bind λj=>(gd i true (aA tab c.2 W j)).bind λj=>(gd i true (aC tab aF 3 b)).bind λb=>(gd i true (aA tab c.2 W b)).bind λb=>(gd i true (some (Y 1 ds))).bind λk=>(gd i true (U tab .sub W b k)).bind λb=>(gd i true (U tab .lss W j b)).bind λb=>(gd h false (cP i b (.bool false))).bind λb=>(cP h (.bool true) b).bind λb=>aK b
  (some (.ret,[.int .i64 19,(Y 1 ds),(Y 5 ds),f.1,g,(Y 5 ds),d,b,(Y 8 ds)],c.2))
  ((aC tab bF 2 f.1).bind λh=>(aA tab c.2 bL h).bind λh=>(aV tab bL h).bind λh=>(U tab .gtr W h a).bind λa=>aK a
  (some (.ret,[.int .i64 3,(Y 1 ds),(Y 5 ds),f.1,g,(Y 5 ds),d,b,a],c.2))
  ((aC tab bF 1 f.1).bind λh=>(aA tab c.2 W h).bind λh=>(U tab .add W (Y 1 ds) h).bind λh=>(U tab .add W (Y 5 ds) (.int .i64 1)).bind λi=>some (.aO,[(Y 0 ds),h,(Y 5 ds),f.1,g,i,d,b,a],c.2))))
  (some ((.ext 1),[(Y 0 ds),(Y 1 ds),(Y 2 ds),(Y 3 ds),(Y 4 ds),(Y 5 ds),d,(Y 7 ds),(Y 8 ds)],e))
def yV(a b:D)(h:Z):Option (D × Z):=
 (gC a).bind λa=>(aC tab aF 4 a).bind λc=>(aA tab h bB c).bind λc=>(aV tab bB c).bind λc=>(U tab .eql W c (.int .i64 0)).bind λc=>aK c
  (scope h h (aE [.int .i64 9]))
  ((aC tab aF 4 a).bind λc=>(aA tab h bB c).bind λc=>(aV tab bB c).bind λc=>(U tab .gtr W c (.int .i64 40)).bind λc=>aK c
  (scope h h (aE [.int .i64 4]))
  ((aC tab aF 2 a).bind λc=>(aA tab h W c).bind λc=>(aC tab aF 4 a).bind λd=>(aA tab h bB d).bind λd=>(aV tab bB d).bind λe=>((cH (yW b a d e) [.int .i64 0,c,.any,.any,.any,.int .i64 0,.any,.any,.any] h).bind λa=>some ((bJ 1 a.1),[(Y 0 a.2.1),(Y 1 a.2.1),(Y 2 a.2.1),(Y 3 a.2.1),(Y 4 a.2.1),(Y 5 a.2.1),(Y 6 a.2.1),(Y 7 a.2.1),(Y 8 a.2.1)],a.2.2)).bind λa=>toEnd a.1 (scope h a.2.2 (aE [.int .i64 0])) λb=>cZ b (scope h a.2.2 (aE [(Y 0 a.2.1)]))))
theorem Ho(a b:D)(h:Z):R sD [a,b] h=yV a b h:=
 er wK
def yX(a b:D)(h:Z):Option (D × Z):=
 (R oN [a,b] h).bind λa=>(U tab .geq W a.1 (.int .i64 0)).bind λb=>some (aE [b],a.2)
theorem Hq(a b:D)(h:Z):R vA [a,b] h=yX a b h:=
 er wL
def yY(a:D)(h:Z):Option (D × Z):=
 (gC a).bind λa=>(aC tab bF 2 a).bind λa=>(aA tab h bL a).bind λa=>(U tab .neq bL a (.str [])).bind λa=>some (aE [a],h)
theorem Hr(a:D)(h:Z):R qu [a] h=yY a h:=
 er wM
def zS(a b:D)(ds:List D)(c:Z):Option bT:=
 (aV tab bB a).bind λd=>(U tab .lss W (Y 1 ds) d).bind λd=>aK d
  ((aN tab bB a (Y 1 ds)).bind λa=>(aA tab c bF a).bind λa=>(aN tab bB b (Y 1 ds)).bind λb=>(aA tab c bF b).bind λb=>(U tab .neq bF a b).bind λa=>aK a
  (some (.ret,[.bool false,(Y 1 ds),d,a],c))
  ((U tab .add W (Y 1 ds) (.int .i64 1)).bind λb=>some (.aO,[(Y 0 ds),b,d,a],c)))
  (some ((.ext 0),[(Y 0 ds),(Y 1 ds),d,(Y 3 ds)],c))
def zR(a b:D)(h:Z):Option (D × Z):=
 (aV tab bB a).bind λc=>(aV tab bB b).bind λd=>(U tab .neq W c d).bind λc=>aK c
  (some (aE [.bool false],h))
  (((cH (zS a b) [.bool false,.int .i64 0,.any,.any] h).bind λa=>some ((bJ 0 a.1),[(Y 0 a.2.1),(Y 1 a.2.1),(Y 2 a.2.1),(Y 3 a.2.1)],a.2.2)).bind λa=>toEnd a.1 (some (aE [.bool true],a.2.2)) λb=>cZ b (some (aE [(Y 0 a.2.1)],a.2.2)))
theorem H9(a b:D)(h:Z):R vQ [a,b] h=zR a b h:=
 er wN
def zU(a b:D)(ds:List D)(c:Z):Option bT:=
 (aV tab bS a).bind λd=>(U tab .lss W (Y 1 ds) d).bind λd=>aK d
  ((aN tab bS a (Y 1 ds)).bind λa=>(aA tab c bO a).bind λa=>(aN tab bS b (Y 1 ds)).bind λb=>(aA tab c bO b).bind λb=>(U tab .neq bO a b).bind λa=>aK a
  (some (.ret,[.bool false,(Y 1 ds),d,a],c))
  ((U tab .add W (Y 1 ds) (.int .i64 1)).bind λb=>some (.aO,[(Y 0 ds),b,d,a],c)))
  (some ((.ext 0),[(Y 0 ds),(Y 1 ds),d,(Y 3 ds)],c))
def zT(a b:D)(h:Z):Option (D × Z):=
 (aV tab bS a).bind λc=>(aV tab bS b).bind λd=>(U tab .neq W c d).bind λc=>aK c
  (some (aE [.bool false],h))
  (((cH (zU a b) [.bool false,.int .i64 0,.any,.any] h).bind λa=>some ((bJ 0 a.1),[(Y 0 a.2.1),(Y 1 a.2.1),(Y 2 a.2.1),(Y 3 a.2.1)],a.2.2)).bind λa=>toEnd a.1 (some (aE [.bool true],a.2.2)) λb=>cZ b (some (aE [(Y 0 a.2.1)],a.2.2)))
theorem Ia(a b:D)(h:Z):R vR [a,b] h=zT a b h:=
 er wO
def zV(a:D)(h:Z):Option (D × Z):=
 (U tab .neq W a a).bind λa=>some (aE [a],h)
theorem Ib(a:D)(h:Z):R sS [a] h=zV a h:=
 er wP
def zD(a b c:D)(ds:List D)(d:Z):Option bT:=
 (U tab .lss W (Y 2 ds) c).bind λc=>aK c
  ((aN tab gS a (Y 2 ds)).bind λa=>(aA tab d fF a).bind λa=>(fA R b [a] d).bind λa=>aK a.1
  (some (.ret,[(Y 2 ds),(Y 2 ds),(Y 2 ds),c,a.1],a.2))
  ((U tab .add W (Y 2 ds) (.int .i64 1)).bind λb=>some (.aO,[(Y 0 ds),(Y 2 ds),b,c,a.1],a.2)))
  (some ((.ext 0),[(Y 0 ds),(Y 1 ds),(Y 2 ds),c,(Y 4 ds)],d))
def zC(a b:D)(h:Z):Option (D × Z):=
 (aV tab gS a).bind λc=>((cH (zD a b c) [.int .i64 0,.any,.int .i64 0,.any,.any] h).bind λa=>some ((bJ 0 a.1),[(Y 0 a.2.1),(Y 1 a.2.1),(Y 2 a.2.1),(Y 3 a.2.1),(Y 4 a.2.1)],a.2.2)).bind λa=>toEnd a.1 (some (aE [.int .i64 (-1)],a.2.2)) λb=>cZ b (some (aE [(Y 0 a.2.1)],a.2.2))
theorem HX(a b:D)(h:Z):R qG [a,b] h=zC a b h:=
 er wQ
def zE(a b:D)(h:Z):Option (D × Z):=
 (gC a).bind λa=>(aC tab fF 0 a).bind λa=>(aA tab h W a).bind λa=>(aA tab h W b).bind λb=>(U tab .eql W a b).bind λa=>some (aE [a],h)
theorem HY(a b:D)(h:Z):R lE [a,b] h=zE a b h:=
 er wR
def lp(a b c:D)(ds:List D)(d:Z):Option bT:=
 (U tab .lss W (Y 2 ds) c).bind λc=>aK c
  ((aN tab bB a (Y 2 ds)).bind λa=>(aA tab d bF a).bind λa=>(fA R b [a] d).bind λa=>aK a.1
  (some (.ret,[(Y 2 ds),(Y 2 ds),(Y 2 ds),c,a.1],a.2))
  ((U tab .add W (Y 2 ds) (.int .i64 1)).bind λb=>some (.aO,[(Y 0 ds),(Y 2 ds),b,c,a.1],a.2)))
  (some ((.ext 0),[(Y 0 ds),(Y 1 ds),(Y 2 ds),c,(Y 4 ds)],d))
def uf(a b:D)(h:Z):Option (D × Z):=
 (aV tab bB a).bind λc=>((cH (lp a b c) [.int .i64 0,.any,.int .i64 0,.any,.any] h).bind λa=>some ((bJ 0 a.1),[(Y 0 a.2.1),(Y 1 a.2.1),(Y 2 a.2.1),(Y 3 a.2.1),(Y 4 a.2.1)],a.2.2)).bind λa=>toEnd a.1 (some (aE [.int .i64 (-1)],a.2.2)) λb=>cZ b (some (aE [(Y 0 a.2.1)],a.2.2))
theorem Bk(a b:D)(h:Z):R oN [a,b] h=uf a b h:=
 er wS
def yQ(a b:D)(h:Z):Option (D × Z):=
 (gC a).bind λa=>(aC tab bF 0 a).bind λa=>(aA tab h W a).bind λa=>(aA tab h W b).bind λb=>(U tab .geq W a b).bind λa=>some (aE [a],h)
theorem Hk(a b:D)(h:Z):R sy [a,b] h=yQ a b h:=
 er wT
def yS(a b:D)(ds:List D)(c:Z):Option bT:=
 (aV tab bB a).bind λd=>(U tab .lss W (Y 1 ds) d).bind λd=>aK d
  ((aN tab bB a (Y 1 ds)).bind λe=>(aA tab c bF e).bind λe=>(im 3 e).bind λe=>(aA tab c bF e).bind λf=>(fA R b [f] c).bind λb=>(ft .not b.1).bind λf=>(aK f
  ((aA tab b.2 bF e).bind λg=>(aN tab bB a (Y 0 ds)).bind λa=>((bZ tab b.2 bF a g).bind λa=>some ((.bG:D),a)).bind λa=>(U tab .add W (Y 0 ds) (.int .i64 1)).bind λg=>some (.aO,[g],a.2))
  (some (.aO,[(Y 0 ds)],b.2))).bind λa=>toEnd (bJ 1 a.1) ((U tab .add W (Y 1 ds) (.int .i64 1)).bind λb=>some (.aO,[(Y 0 a.2.1),b,e,d,f],a.2.2)) λb=>some (b,[(Y 0 a.2.1),(Y 1 ds),e,d,f],a.2.2))
  (some ((.ext 0),[(Y 0 ds),(Y 1 ds),(Y 2 ds),d,(Y 4 ds)],c))
def yR(a b:D)(h:Z):Option (D × Z):=
 (R oN [a,b] h).bind λc=>(U tab .eql W c.1 (.int .i64 (-1))).bind λd=>aK d
  (some (aE [a],c.2))
  ((U tab .add W c.1 (.int .i64 1)).bind λd=>((cH (yS a b) [c.1,d,.any,.any,.any] c.2).bind λb=>some ((bJ 0 b.1),[(Y 0 b.2.1),(Y 1 b.2.1),(Y 2 b.2.1),(Y 3 b.2.1),(Y 4 b.2.1)],b.2.2)).bind λb=>toEnd b.1 ((fO tab bB true false false [a,(Y 0 b.2.1)]).bind λc=>(nx tab b.2.2 bB c).bind λc=>(fO tab bB false true false [a,(Y 0 b.2.1)]).bind λa=>some (aE [a],c.2)) λa=>cZ a (some (aE [.J],b.2.2)))
theorem Hl(a b:D)(h:Z):R sA [a,b] h=yR a b h:=
 er wU
def ug(a:D)(h:Z):Option (D × Z):=
 (U tab .eql bB a (.J)).bind λb=>aK b
  (some (aE [.J],h))
  ((bI tab bB 0 [] []).bind λb=>(dM tab h bB bB b a).bind λa=>some (aE [a.1],a.2))
theorem He(a:D)(h:Z):R vy [a] h=ug a h:=
 er wV
def yT(a b:D)(h:Z):Option (D × Z):=
 (gC a).bind λa=>(aC tab bF 0 a).bind λa=>(aA tab h W a).bind λa=>(aA tab h W b).bind λb=>(U tab .lss W a b).bind λa=>some (aE [a],h)
theorem Hm(a b:D)(h:Z):R sB [a,b] h=yT a b h:=
 er wW
def uz(a:D)(ds:List D)(b:Z):Option bT:=
 (U tab .sub W (Y 0 ds) (.int .i64 1)).bind λc=>(U tab .quo W c (.int .i64 2)).bind λc=>(U tab .eql W c (Y 0 ds)).bind λd=>(gd d false (some a)).bind λe=>(gd d false (some (Y 0 ds))).bind λf=>(gd d false (some c)).bind λg=>(e7 d false b (gk tab R "Less" [e,f,g] b)).bind λb=>(gd d false (ft .not b.1)).bind λe=>(cP d (.bool true) e).bind λd=>aK d
  (some ((.ext 0),[(Y 0 ds),c,d],b.2))
  ((gk tab R "Swap" [a,c,(Y 0 ds)] b.2).bind λa=>some (.aO,[c,c,d],a.2))
def zo(a b:D)(h:Z):Option (D × Z):=
 ((cH (uz a) [b,.any,.any] h).bind λa=>some ((bJ 0 a.1),[(Y 0 a.2.1),(Y 1 a.2.1),(Y 2 a.2.1)],a.2.2)).bind λa=>cZ a.1 (some (aE [],a.2.2))
theorem HN(a b:D)(h:Z):R sJ [a,b] h=zo a b h:=
 er wX
def uA(a b:D)(ds:List D)(c:Z):Option bT:=
 (U tab .mul W (.int .i64 2) (Y 0 ds)).bind λd=>(U tab .add W d (.int .i64 1)).bind λd=>(U tab .geq W d b).bind λe=>(gd e false (some d)).bind λf=>(gd e false (U tab .lss W f (.int .i64 0))).bind λf=>(cP e (.bool true) f).bind λe=>aK e
  (some ((.ext 0),[(Y 0 ds),d,(Y 2 ds),(Y 3 ds),e,(Y 5 ds),(Y 6 ds)],c))
  ((U tab .add W d (.int .i64 1)).bind λf=>(U tab .lss W f b).bind λb=>(gd b true (some a)).bind λg=>(gd b true (some f)).bind λh=>(gd b true (some d)).bind λi=>(e7 b true c (gk tab R "Less" [g,h,i] c)).bind λc=>(cP b c.1 (.bool false)).bind λb=>(aK b
  (some (.aO,[f],c.2))
  (some (.aO,[d],c.2))).bind λc=>toEnd c.1 ((gk tab R "Less" [a,(Y 0 c.2.1),(Y 0 ds)] c.2.2).bind λg=>(ft .not g.1).bind λh=>aK h
  (some ((.ext 0),[(Y 0 ds),d,(Y 0 c.2.1),f,e,b,h],g.2))
  ((gk tab R "Swap" [a,(Y 0 ds),(Y 0 c.2.1)] g.2).bind λa=>some (.aO,[(Y 0 c.2.1),d,(Y 0 c.2.1),f,e,b,h],a.2))) λa=>some ((bJ 1 a),[(Y 0 ds),d,(Y 0 c.2.1),f,e,b,(Y 6 ds)],c.2.2))
def zp(a b c:D)(h:Z):Option (D × Z):=
 ((cH (uA a c) [b,.any,.any,.any,.any,.any,.any] h).bind λa=>some ((bJ 0 a.1),[(Y 0 a.2.1),(Y 1 a.2.1),(Y 2 a.2.1),(Y 3 a.2.1),(Y 4 a.2.1),(Y 5 a.2.1),(Y 6 a.2.1)],a.2.2)).bind λa=>toEnd a.1 ((U tab .gtr W (Y 0 a.2.1) b).bind λb=>some (aE [b],a.2.2)) λb=>cZ b (some (aE [.bool false],a.2.2))
theorem HO(a b c:D)(h:Z):R sK [a,b,c] h=zp a b c h:=
 er wY
def zH(a b c:D)(ds:List D)(d:Z):Option bT:=
 (U tab .lss W (Y 2 ds) c).bind λc=>aK c
  ((aN tab dA b (Y 2 ds)).bind λb=>(aA tab d bL b).bind λb=>(R ga [a,.int .i64 3] d).bind λe=>(U tab .gtr W e.1 (.int .i64 0)).bind λf=>(aK f
  ((bI tab dA 8 [0,1,2,3,4,5,6,7] [.str [],.str [49],.str [105,110,102,111],.str [119,97,114,110],.str [97,110,110],.str [50,46,53,48],.str [116,114,117,101],.str [116,49]]).bind λg=>(R fP [a,g] e.2).bind λa=>(dZ tab bO [0,1] [b,a.1]).bind λg=>(bI tab bS 1 [0] [g]).bind λg=>(dM tab a.2 bS bS (Y 0 ds) g).bind λa=>some (.aO,[a.1],a.2))
  (some (.aO,[(Y 0 ds)],e.2))).bind λa=>toEnd (bJ 1 a.1) ((U tab .add W (Y 2 ds) (.int .i64 1)).bind λe=>some (.aO,[(Y 0 a.2.1),b,e,c,f],a.2.2)) λe=>some (e,[(Y 0 a.2.1),b,(Y 2 ds),c,f],a.2.2))
  (some ((.ext 0),[(Y 0 ds),(Y 1 ds),(Y 2 ds),c,(Y 4 ds)],d))
def zG(a:D)(h:Z):Option (D × Z):=
 (bI tab dA 4 [0,1,2,3] [.str [97],.str [105,100],.str [108,101,118,101,108],.str [117,115,101,114]]).bind λb=>(aV tab dA b).bind λc=>((cH (zH a b c) [.J,.any,.int .i64 0,.any,.any] h).bind λa=>some ((bJ 0 a.1),[(Y 0 a.2.1),(Y 1 a.2.1),(Y 2 a.2.1),(Y 3 a.2.1),(Y 4 a.2.1)],a.2.2)).bind λa=>toEnd a.1 (scope h a.2.2 (aE [(Y 0 a.2.1)])) λb=>cZ b (scope h a.2.2 (aE [.J]))
theorem H0(a:D)(h:Z):R sN [a] h=zG a h:=
 er wZ
def zJ(a b:D)(ds:List D)(c:Z):Option bT:=
 (U tab .gtr W (Y 2 ds) (.int .i64 0)).bind λd=>aK d
  ((R ga [a,.int .i64 20] c).bind λe=>(U tab .add W (.int .i64 1) e.1).bind λf=>(dZ tab bF [0,1] [(Y 0 ds),f]).bind λf=>(some ((.ptr e.2.length 0 0:D),aL e.2 bF 3 [[.int .i64 0,.int .i64 0,.str []]])).bind λe=>((bZ tab e.2 bF e.1 f).bind λf=>some ((.bG:D),f)).bind λg=>(aK b
  ((R sP [a] g.2).bind λa=>(aC tab bF 2 e.1).bind λh=>((bZ tab a.2 bL h a.1).bind λf=>some ((.bG:D),f)).bind λa=>some (.aO,([]:List D),a.2))
  (some (.aO,([]:List D),g.2))).bind λa=>toEnd a.1 ((aA tab a.2.2 bF e.1).bind λf=>(bI tab bB 1 [0] [f]).bind λf=>(dM tab a.2.2 bB bB (Y 1 ds) f).bind λf=>(aC tab bF 1 e.1).bind λg=>(aA tab f.2 W g).bind λg=>(U tab .add W (Y 0 ds) g).bind λg=>(U tab .sub W (Y 2 ds) (.int .i64 1)).bind λh=>some (.aO,[g,f.1,h,e.1,d,b],f.2)) λf=>toEnd (bJ 1 f) ((U tab .sub W (Y 2 ds) (.int .i64 1)).bind λf=>some (.aO,[(Y 0 ds),(Y 1 ds),f,e.1,d,b],a.2.2)) λf=>some (f,[(Y 0 ds),(Y 1 ds),(Y 2 ds),e.1,d,b],a.2.2))
  (some ((.ext 0),[(Y 0 ds),(Y 1 ds),(Y 2 ds),(Y 3 ds),d,(Y 5 ds)],c))
def zI(a b c d:D)(h:Z):Option (D × Z):=
 (R ga [a,c] h).bind λc=>(U tab .add W (.int .i64 1) c.1).bind λe=>((cH (zJ a d) [b,.J,e,.any,.any,.any] c.2).bind λa=>some ((bJ 0 a.1),[(Y 0 a.2.1),(Y 1 a.2.1),(Y 2 a.2.1),(Y 3 a.2.1),(Y 4 a.2.1),(Y 5 a.2.1)],a.2.2)).bind λa=>toEnd a.1 (scope h a.2.2 (aE [(Y 1 a.2.1)])) λb=>cZ b (scope h a.2.2 (aE [.J]))
theorem H2(a b c d:D)(h:Z):R sO [a,b,c,d] h=zI a b c d h:=
 er w4
def yZ(a b c:D)(h:Z):Option (D × Z):=
 (U tab .leq W b a).bind λb=>(gd b true (some a)).bind λa=>(gd b true (some c)).bind λc=>(gd b true (U tab .leq W a c)).bind λa=>(cP b a (.bool false)).bind λa=>some (aE [a],h)
theorem Hs(a b c:D)(h:Z):R oO [a,b,c] h=yZ a b c h:=
 er w5
def ui(a b:D)(ds:List D)(c:Z):Option bT:=
 (U tab .lss W (Y 3 ds) b).bind λb=>aK b
  ((aN tab bS a (Y 3 ds)).bind λa=>(aA tab c bO a).bind λa=>(im 2 a).bind λa=>(aC tab bO 0 a).bind λd=>(aA tab c bL d).bind λd=>(R vD [d] c).bind λd=>(ft .not d.1).bind λe=>aK e
  (some (.ret,[.J,.int .i64 6,a,(Y 3 ds),b,e],d.2))
  ((U tab .add W (Y 3 ds) (.int .i64 1)).bind λf=>some (.aO,[(Y 0 ds),(Y 1 ds),a,f,b,e],d.2)))
  (some ((.ext 0),[(Y 0 ds),(Y 1 ds),(Y 2 ds),(Y 3 ds),b,(Y 5 ds)],c))
def uj(a:D)(b:List D)(c:Z):Option bT:=
 (aV tab bS a).bind λd=>(U tab .lss W (Y 2 b) d).bind λd=>aK d
  ((aN tab bS a (Y 2 b)).bind λe=>(aC tab bO 0 e).bind λe=>(aA tab c bL e).bind λe=>(U tab .sub W (Y 2 b) (.int .i64 1)).bind λf=>(aN tab bS a f).bind λa=>(aC tab bO 0 a).bind λa=>(aA tab c bL a).bind λa=>(U tab .eql bL e a).bind λa=>aK a
  (some (.ret,[.J,.int .i64 7,(Y 2 b),d,a],c))
  ((U tab .add W (Y 2 b) (.int .i64 1)).bind λe=>some (.aO,[(Y 0 b),(Y 1 b),e,d,a],c)))
  (some ((.ext 2),[(Y 0 b),(Y 1 b),(Y 2 b),d,(Y 4 b)],c))
def y3(a:D)(h:Z):Option (D × Z):=
 (aV tab bS a).bind λb=>(U tab .gtr W b (.int .i64 32)).bind λb=>aK b
  (some (aE [.J,.int .i64 4],h))
  ((aV tab bS a).bind λb=>((cH (ui a b) [.J,.int .i64 0,.any,.int .i64 0,.any,.any] h).bind λb=>some ((bJ 0 b.1),[(Y 0 b.2.1),(Y 1 b.2.1),(Y 2 b.2.1),(Y 3 b.2.1),(Y 4 b.2.1),(Y 5 b.2.1)],b.2.2)).bind λb=>toEnd b.1 ((R vz [a] b.2.2).bind λa=>(R qy [a.1,.fn (.func nC) [] []] a.2).bind λc=>((cH (uj a.1) [(Y 0 b.2.1),(Y 1 b.2.1),.int .i64 1,.any,.any] c.2).bind λc=>some ((bJ 2 c.1),[(Y 0 c.2.1),(Y 1 c.2.1),(Y 2 c.2.1),(Y 3 c.2.1),(Y 4 c.2.1)],c.2.2)).bind λc=>toEnd c.1 (some (aE [a.1,.int .i64 0],c.2.2)) λa=>cZ a (some (aE [(Y 0 c.2.1),(Y 1 c.2.1)],c.2.2))) λa=>cZ a (some (aE [(Y 0 b.2.1),(Y 1 b.2.1)],b.2.2)))
theorem Ht(a:D)(h:Z):R qv [a] h=y3 a h:=
 er w6
def y5(a b c:D)(ds:List D)(d:Z):Option bT:=
 (U tab .lss W (Y 2 ds) c).bind λc=>aK c
  ((aN tab bS a (Y 2 ds)).bind λa=>(aA tab d bO a).bind λa=>(aN tab bS b (Y 2 ds)).bind λb=>(aA tab d bO b).bind λb=>(U tab .neq bO a b).bind λa=>aK a
  (some (.ret,[.bool false,(Y 2 ds),(Y 2 ds),c,a],d))
  ((U tab .add W (Y 2 ds) (.int .i64 1)).bind λb=>some (.aO,[(Y 0 ds),(Y 2 ds),b,c,a],d)))
  (some ((.ext 0),[(Y 0 ds),(Y 1 ds),(Y 2 ds),c,(Y 4 ds)],d))
def y4(a b:D)(h:Z):Option (D × Z):=
 (aV tab bS a).bind λc=>(aV tab bS b).bind λd=>(U tab .neq W c d).bind λc=>aK c
  (some (aE [.bool false],h))
  ((aV tab bS a).bind λc=>((cH (y5 a b c) [.bool false,.any,.int .i64 0,.any,.any] h).bind λa=>some ((bJ 0 a.1),[(Y 0 a.2.1),(Y 1 a.2.1),(Y 2 a.2.1),(Y 3 a.2.1),(Y 4 a.2.1)],a.2.2)).bind λa=>toEnd a.1 (some (aE [.bool true],a.2.2)) λb=>cZ b (some (aE [(Y 0 a.2.1)],a.2.2)))
theorem Hu(a b:D)(h:Z):R vB [a,b] h=y4 a b h:=
 er w7
def y6(a b:D)(h:Z):Option (D × Z):=
 (R vF [a,b] h).bind λa=>(U tab .geq W a.1 (.int .i64 0)).bind λb=>some (aE [b],a.2)
theorem Hv(a b:D)(h:Z):R vC [a,b] h=y6 a b h:=
 er w8
def y7(a:D)(h:Z):Option (D × Z):=
 (gC a).bind λa=>(aC tab bO 1 a).bind λa=>(aA tab h bL a).bind λa=>(aV tab bL a).bind λa=>(U tab .gtr W a (.int .i64 2000)).bind λa=>some (aE [a],h)
theorem Hw(a:D)(h:Z):R qx [a] h=y7 a h:=
 er w9
def zL(a:D)(h:Z):Option (D × Z):=
 (R ga [a,.int .i64 8] h).bind λb=>(U tab .eql W b.1 (.int .i64 0)).bind λc=>aK c
  ((bI tab dA 3 [0,1,2] [.str [49],.str [50],.str [57]]).bind λc=>(R fP [a,c] b.2).bind λc=>(U tab .add bL (.str [50,48,50,54,45,48]) c.1).bind λd=>(U tab .add bL d (.str [45,49])).bind λd=>(bI tab dA 2 [0,1] [.str [48],.str [53]]).bind λe=>(R fP [a,e] c.2).bind λc=>(U tab .add bL d c.1).bind λd=>(U tab .add bL d (.str [84,49,48,58,48,48,58,48])).bind λd=>(bI tab dA 2 [0,1] [.str [49],.str [50]]).bind λe=>(R fP [a,e] c.2).bind λc=>(U tab .add bL d c.1).bind λd=>(U tab .add bL d (.str [90,32,108,101,118,101,108,61])).bind λd=>(bI tab dA 2 [0,1] [.str [105,110,102,111],.str [119,97,114,110]]).bind λe=>(R fP [a,e] c.2).bind λc=>(U tab .add bL d c.1).bind λd=>(U tab .add bL d (.str [32,105,100,61])).bind λd=>(bI tab dA 3 [0,1,2] [.str [55],.str [116,49],.str [116,50]]).bind λe=>(R fP [a,e] c.2).bind λc=>(U tab .add bL d c.1).bind λd=>some (aE [d],c.2))
  ((U tab .eql W b.1 (.int .i64 1)).bind λc=>aK c
  ((bI tab dA 3 [0,1,2] [.str [105,110,102,111],.str [119,97,114,110],.str [100,101,98,117,103]]).bind λc=>(R fP [a,c] b.2).bind λc=>(U tab .add bL (.str [108,101,118,101,108,61]) c.1).bind λd=>(U tab .add bL d (.str [32,117,115,101,114,61])).bind λd=>(bI tab dA 2 [0,1] [.str [97,110,110],.str [98,111,98]]).bind λe=>(R fP [a,e] c.2).bind λc=>(U tab .add bL d c.1).bind λd=>(U tab .add bL d (.str [32,105,112,61])).bind λd=>(bI tab dA 3 [0,1,2] [.str [49,48,46,50],.str [49,48,46,51],.str [55,46,55]]).bind λe=>(R fP [a,e] c.2).bind λc=>(U tab .add bL d c.1).bind λd=>some (aE [d],c.2))
  ((U tab .eql W b.1 (.int .i64 2)).bind λc=>aK c
  ((bI tab dA 2 [0,1] [.str [102],.str [103]]).bind λc=>(R fP [a,c] b.2).bind λc=>(U tab .add bL (.str [32,32,97,116,32]) c.1).bind λd=>(bI tab dA 2 [0,1] [.str [40,49,41],.str [40,50,50,41]]).bind λe=>(R fP [a,e] c.2).bind λc=>(U tab .add bL d c.1).bind λd=>some (aE [d],c.2))
  ((U tab .eql W b.1 (.int .i64 3)).bind λc=>aK c
  ((bI tab dA 3 [0,1,2] [.str [97,110,110],.str [98,111,98],.str [101,118,101]]).bind λc=>(R fP [a,c] b.2).bind λc=>(U tab .add bL (.str [117,115,101,114,32]) c.1).bind λd=>(U tab .add bL d (.str [32,108,111,103,103,101,100,32])).bind λd=>(bI tab dA 2 [0,1] [.str [105,110],.str [111,117,116]]).bind λe=>(R fP [a,e] c.2).bind λc=>(U tab .add bL d c.1).bind λd=>some (aE [d],c.2))
  ((U tab .eql W b.1 (.int .i64 4)).bind λc=>aK c
  ((bI tab dA 2 [0,1] [.str [105,110,102,111],.str [119,97,114,110]]).bind λc=>(R fP [a,c] b.2).bind λc=>(U tab .add bL (.str [123,34,108,101,118,101,108,34,58,32,34]) c.1).bind λd=>(U tab .add bL d (.str [34,44,32,34,110,34,58,32])).bind λd=>(bI tab dA 3 [0,1,2] [.str [49],.str [45,50,48],.str [116,114,117,101]]).bind λe=>(R fP [a,e] c.2).bind λc=>(U tab .add bL d c.1).bind λd=>(U tab .add bL d (.str [125])).bind λd=>some (aE [d],c.2))
  ((U tab .eql W b.1 (.int .i64 5)).bind λc=>aK c
  ((bI tab dA 2 [0,1] [.str [49],.str [50]]).bind λc=>(R fP [a,c] b.2).bind λc=>(U tab .add bL (.str [74,97,110,32,49]) c.1).bind λd=>(U tab .add bL d (.str [32,49,48,58,48,48,58,48])).bind λd=>(bI tab dA 2 [0,1] [.str [49],.str [50]]).bind λe=>(R fP [a,e] c.2).bind λc=>(U tab .add bL d c.1).bind λd=>(U tab .add bL d (.str [32])).bind λd=>(bI tab dA 2 [0,1] [.str [111,107],.str [102,97,105,108,101,100]]).bind λe=>(R fP [a,e] c.2).bind λc=>(U tab .add bL d c.1).bind λd=>some (aE [d],c.2))
  ((R sQ [a,.int .i64 6] b.2).bind λa=>some (aE [a.1],a.2)))))))
theorem H4(a:D)(h:Z):R sP [a] h=zL a h:=
 er xa
def oc(a:D × Z)(b:D)(ds:List D)(c:Z):Option bT:=
 (U tab .lss W (Y 2 ds) b).bind λb=>aK b
  ((aN tab iQ a.1 (Y 2 ds)).bind λa=>(aA tab c fJ a).bind λa=>(R vH [a] c).bind λd=>(ft .not d.1).bind λe=>(gd e true (some a)).bind λf=>(gd e true (U tab .neq fJ f (.int .u8 46))).bind λf=>(cP e f (.bool false)).bind λe=>aK e
  (some (.ret,[.bool false,a,(Y 2 ds),b,e],d.2))
  ((U tab .add W (Y 2 ds) (.int .i64 1)).bind λf=>some (.aO,[(Y 0 ds),a,f,b,e],d.2)))
  (some ((.ext 0),[(Y 0 ds),(Y 1 ds),(Y 2 ds),b,(Y 4 ds)],c))
def oa(a:D)(h:Z):Option (D × Z):=
 (U tab .eql bL a (.str [])).bind λb=>(gd b false (some a)).bind λc=>(gd b false (aV tab bL c)).bind λc=>(gd b false (U tab .gtr W c (.int .i64 32))).bind λc=>(cP b (.bool true) c).bind λb=>(gd b false (some a)).bind λc=>(gd b false (ny tab bL c (.int .i64 0))).bind λc=>(e7 b false h (R vG [c] h)).bind λc=>(gd b false (ft .not c.1)).bind λd=>(gd b false (some d)).bind λd=>(gd d true (some a)).bind λe=>(gd d true (ny tab bL e (.int .i64 0))).bind λe=>(gd d true (U tab .neq fJ e (.int .u8 95))).bind λe=>(gd b false (cP d e (.bool false))).bind λd=>(cP b (.bool true) d).bind λb=>aK b
  (scope h c.2 (aE [.bool false]))
  ((EB fJ c.2 a).bind λa=>(aV tab iQ a.1).bind λb=>((cH (oc a b) [.bool false,.any,.int .i64 0,.any,.any] a.2).bind λa=>some ((bJ 0 a.1),[(Y 0 a.2.1),(Y 1 a.2.1),(Y 2 a.2.1),(Y 3 a.2.1),(Y 4 a.2.1)],a.2.2)).bind λa=>toEnd a.1 (scope h a.2.2 (aE [.bool true])) λb=>cZ b (scope h a.2.2 (aE [(Y 0 a.2.1)])))
theorem Hx(a:D)(h:Z):R vD [a] h=oa a h:=
 er xb
def uh(a:D)(h:Z):Option (D × Z):=
 (U tab .eql bS a (.J)).bind λb=>aK b
  (some (aE [.J],h))
  ((bI tab bS 0 [] []).bind λb=>(dM tab h bS bS b a).bind λa=>some (aE [a.1],a.2))
theorem Hf(a:D)(h:Z):R vz [a] h=uh a h:=
 er xc
def uk(a b:D)(h:Z):Option (D × Z):=
 (aV tab bS a).bind λc=>(R qz [a,c,b] h).bind λa=>some (aE [],a.2)
theorem Bl(a b:D)(h:Z):R qy [a,b] h=uk a b h:=
 er xd
def y8(a b:D)(h:Z):Option (D × Z):=
 (gC a).bind λa=>(gC b).bind λb=>(aC tab bO 0 a).bind λa=>(aA tab h bL a).bind λa=>(aC tab bO 0 b).bind λb=>(aA tab h bL b).bind λb=>(R vE [a,b] h).bind λa=>some (aE [a.1],a.2)
theorem Hy(a b:D)(h:Z):R nC [a,b] h=y8 a b h:=
 er xe
def y9(a b:D)(h:Z):Option (D × Z):=
 (R B1 [a,b] h).bind λa=>some (aE [a.1],a.2)
theorem Hz(a b:D)(h:Z):R vE [a,b] h=y9 a b h:=
 er xf
def pJ(a b c:D)(ds:List D)(d:Z):Option bT:=
 (U tab .lss W (Y 2 ds) c).bind λc=>aK c
  ((aN tab bS a (Y 2 ds)).bind λa=>(aA tab d bO a).bind λa=>(fA R b [a] d).bind λa=>aK a.1
  (some (.ret,[(Y 2 ds),(Y 2 ds),(Y 2 ds),c,a.1],a.2))
  ((U tab .add W (Y 2 ds) (.int .i64 1)).bind λb=>some (.aO,[(Y 0 ds),(Y 2 ds),b,c,a.1],a.2)))
  (some ((.ext 0),[(Y 0 ds),(Y 1 ds),(Y 2 ds),c,(Y 4 ds)],d))
def za(a b:D)(h:Z):Option (D × Z):=
 (aV tab bS a).bind λc=>((cH (pJ a b c) [.int .i64 0,.any,.int .i64 0,.any,.any] h).bind λa=>some ((bJ 0 a.1),[(Y 0 a.2.1),(Y 1 a.2.1),(Y 2 a.2.1),(Y 3 a.2.1),(Y 4 a.2.1)],a.2.2)).bind λa=>toEnd a.1 (some (aE [.int .i64 (-1)],a.2.2)) λb=>cZ b (some (aE [(Y 0 a.2.1)],a.2.2))
theorem HA(a b:D)(h:Z):R vF [a,b] h=za a b h:=
 er xg
def zO(a:D)(ds:List D)(b:Z):Option bT:=
 (U tab .gtr W (Y 1 ds) (.int .i64 0)).bind λc=>aK c
  ((bI tab dA 18 [0,1,2,3,4,5,6,7,8,9,10,11,12,13,14,15,16,17] [.str [97],.str [98],.str [32],.str [49],.str [117,115,101,114],.str [61],.str [34],.str [55],.str [46],.str [44],.str [120,32,121],.str [49,48,46,50],.str [45],.str [195,169],.str [91],.str [105,100],.str [9],.str [58]]).bind λd=>(R fP [a,d] b).bind λa=>(U tab .add bL (Y 0 ds) a.1).bind λd=>(U tab .sub W (Y 1 ds) (.int .i64 1)).bind λe=>some (.aO,[d,e,c],a.2))
  (some ((.ext 0),[(Y 0 ds),(Y 1 ds),c],b))
def zN(a b:D)(h:Z):Option (D × Z):=
 (U tab .add W b (.int .i64 1)).bind λb=>(R ga [a,b] h).bind λb=>((cH (zO a) [.str [],b.1,.any] b.2).bind λa=>some ((bJ 0 a.1),[(Y 0 a.2.1),(Y 1 a.2.1),(Y 2 a.2.1)],a.2.2)).bind λa=>toEnd a.1 (some (aE [(Y 0 a.2.1)],a.2.2)) λb=>cZ b (some (aE [.str []],a.2.2))
theorem H6(a b:D)(h:Z):R sQ [a,b] h=zN a b h:=
 er xh
def zb(a:D)(h:Z):Option (D × Z):=
 (aN tab tR (.aD kn) a).bind λa=>(aA tab h fJ a).bind λa=>(U tab .and fJ a (.int .u8 2)).bind λa=>(U tab .neq fJ a (.int .u8 0)).bind λa=>some (aE [a],h)
theorem HB(a:D)(h:Z):R vG [a] h=zb a h:=
 er xi
def zc(a:D)(h:Z):Option (D × Z):=
 (aN tab tR (.aD kn) a).bind λb=>(aA tab h fJ b).bind λb=>(U tab .and fJ b (.int .u8 3)).bind λb=>(U tab .neq fJ b (.int .u8 0)).bind λb=>(gd b false (some a)).bind λa=>(gd b false (U tab .eql fJ a (.int .u8 95))).bind λa=>(cP b (.bool true) a).bind λa=>some (aE [a],h)
theorem HC(a:D)(h:Z):R vH [a] h=zc a h:=
 er xj
def rK(a b c d:D)(ds:List D)(e:Z):Option bT:=
 (U tab .leq W (Y 1 ds) b).bind λb=>aK b
  ((R mg [a,(Y 0 ds),(Y 1 ds),c] e).bind λa=>(U tab .add W (Y 1 ds) d).bind λc=>some (.aO,[(Y 1 ds),c,b],a.2))
  (some ((.ext 0),[(Y 0 ds),(Y 1 ds),b],e))
def EL(a b c:D)(d:List D)(e:List D)(f:Z):Option bT:=
 (U tab .leq W (Y 1 e) b).bind λb=>aK b
  ((U tab .add W (Y 0 e) (Y 0 d)).bind λg=>(R qA [a,(Y 0 e),g,(Y 1 e),c] f).bind λa=>(U tab .mul W (.int .i64 2) (Y 0 d)).bind λc=>(U tab .add W (Y 1 e) c).bind λc=>some (.aO,[(Y 1 e),c,b],a.2))
  (some ((.ext 4),[(Y 0 e),(Y 1 e),b],f))
def uo(a b c:D)(d:List D)(e:Z):Option bT:=
 (U tab .lss W (Y 0 d) b).bind λf=>aK f
  ((U tab .mul W (.int .i64 2) (Y 0 d)).bind λg=>((cH (EL a b c d) [.int .i64 0,g,(Y 5 d)] e).bind λg=>some ((bJ 4 g.1),[(Y 0 g.2.1),(Y 1 g.2.1),(Y 2 g.2.1)],g.2.2)).bind λg=>toEnd g.1 ((U tab .add W (Y 0 g.2.1) (Y 0 d)).bind λh=>(U tab .lss W h b).bind λi=>(aK i
  ((R qA [a,(Y 0 g.2.1),h,b,c] g.2.2).bind λa=>some (.aO,([]:List D),a.2))
  (some (.aO,([]:List D),g.2.2))).bind λa=>toEnd a.1 ((U tab .mul W (Y 0 d) (.int .i64 2)).bind λb=>some (.aO,[b,(Y 0 g.2.1),(Y 1 g.2.1),h,f,(Y 2 g.2.1),i],a.2.2)) λb=>some ((bJ 3 b),[(Y 0 d),(Y 0 g.2.1),(Y 1 g.2.1),h,f,(Y 2 g.2.1),i],a.2.2)) λa=>some ((bJ 3 a),[(Y 0 d),(Y 0 g.2.1),(Y 1 g.2.1),(Y 3 d),f,(Y 2 g.2.1),(Y 6 d)],g.2.2))
  (some ((.ext 2),[(Y 0 d),(Y 1 d),(Y 2 d),(Y 3 d),f,(Y 5 d),(Y 6 d)],e))
def um(a b c:D)(h:Z):Option (D × Z):=
 ((cH (rK a b c (.int .i64 20)) [.int .i64 0,.int .i64 20,.any] h).bind λd=>some ((bJ 0 d.1),[(Y 0 d.2.1),(Y 1 d.2.1),(Y 2 d.2.1)],d.2.2)).bind λd=>toEnd d.1 ((R mg [a,(Y 0 d.2.1),b,c] d.2.2).bind λe=>((cH (uo a b c) [.int .i64 20,(Y 0 d.2.1),(Y 1 d.2.1),.any,.any,.any,.any] e.2).bind λa=>some ((bJ 2 a.1),[(Y 0 a.2.1),(Y 1 a.2.1),(Y 2 a.2.1),(Y 3 a.2.1),(Y 4 a.2.1),(Y 5 a.2.1),(Y 6 a.2.1)],a.2.2)).bind λa=>cZ a.1 (some (aE [],a.2.2))) λa=>cZ a (some (aE [],d.2.2))
theorem Bm(a b c:D)(h:Z):R qz [a,b,c] h=um a b c h:=
 er xk
def zd(a b:D)(h:Z):Option (D × Z):=
 (R sE [a,b] h).bind λa=>some (aE [a.1],a.2)
theorem HD(a b:D)(h:Z):R B1 [a,b] h=zd a b h:=
 er xl
def uu(a b c:D)(d:List D)(e:Z):Option bT:=
 (U tab .gtr W (Y 0 d) b).bind λb=>(gd b true (some c)).bind λc=>(gd b true (some a)).bind λf=>(gd b true (some (Y 0 d))).bind λg=>(gd b true (aN tab bS f g)).bind λf=>(gd b true (aA tab e bO f)).bind λf=>(gd b true (some a)).bind λg=>(gd b true (some (Y 0 d))).bind λh=>(gd b true (U tab .sub W h (.int .i64 1))).bind λh=>(gd b true (aN tab bS g h)).bind λg=>(gd b true (aA tab e bO g)).bind λg=>(e7 b true e (fA R c [f,g] e)).bind λc=>(gd b true (U tab .lss W c.1 (.int .i64 0))).bind λe=>(cP b e (.bool false)).bind λb=>aK b
  ((U tab .sub W (Y 0 d) (.int .i64 1)).bind λe=>(U tab .sub W (Y 0 d) (.int .i64 1)).bind λf=>(aN tab bS a f).bind λf=>(aA tab c.2 bO f).bind λf=>(aN tab bS a (Y 0 d)).bind λg=>(aA tab c.2 bO g).bind λg=>(aN tab bS a (Y 0 d)).bind λh=>((bZ tab c.2 bO h f).bind λf=>some ((.bG:D),f)).bind λh=>(aN tab bS a e).bind λa=>((bZ tab h.2 bO a g).bind λf=>some ((.bG:D),f)).bind λa=>(U tab .sub W (Y 0 d) (.int .i64 1)).bind λe=>some (.aO,[e,b],a.2))
  (some ((.ext 2),[(Y 0 d),b],c.2))
def ur(a b c d:D)(ds:List D)(e:Z):Option bT:=
 (U tab .lss W (Y 0 ds) c).bind λc=>aK c
  (((cH (uu a b d) [(Y 0 ds),(Y 3 ds)] e).bind λa=>some ((bJ 2 a.1),[(Y 0 a.2.1),(Y 1 a.2.1)],a.2.2)).bind λa=>toEnd (bJ 1 a.1) ((U tab .add W (Y 0 ds) (.int .i64 1)).bind λb=>some (.aO,[b,(Y 0 a.2.1),c,(Y 1 a.2.1)],a.2.2)) λb=>some (b,[(Y 0 ds),(Y 0 a.2.1),c,(Y 1 a.2.1)],a.2.2))
  (some ((.ext 0),[(Y 0 ds),(Y 1 ds),c,(Y 3 ds)],e))
def uq(a b c d:D)(h:Z):Option (D × Z):=
 (U tab .add W b (.int .i64 1)).bind λe=>((cH (ur a b c d) [e,.any,.any,.any] h).bind λa=>some ((bJ 0 a.1),[(Y 0 a.2.1),(Y 1 a.2.1),(Y 2 a.2.1),(Y 3 a.2.1)],a.2.2)).bind λa=>cZ a.1 (some (aE [],a.2.2))
theorem Bn(a b c d:D)(h:Z):R mg [a,b,c,d] h=uq a b c d h:=
 er xm
def EN(a b c:D)(ds:List D)(d:Z):Option bT:=
 (U tab .lss W (Y 0 ds) (Y 1 ds)).bind λe=>aK e
  ((U tab .add W (Y 0 ds) (Y 1 ds)).bind λf=>(jF tab W j0 f).bind λf=>(U tab .shr j0 f (.int .u64 1)).bind λf=>(jF tab j0 W f).bind λf=>(U tab .sub W c f).bind λc=>(aN tab bS a c).bind λc=>(aA tab d bO c).bind λc=>(aN tab bS a f).bind λa=>(aA tab d bO a).bind λa=>(fA R b [c,a] d).bind λa=>(U tab .lss W a.1 (.int .i64 0)).bind λb=>(ft .not b).bind λb=>(aK b
  ((U tab .add W f (.int .i64 1)).bind λc=>some (.aO,[c,(Y 1 ds)],a.2))
  (some (.aO,[(Y 0 ds),f],a.2))).bind λa=>some ((bJ 9 a.1),[(Y 0 a.2.1),(Y 1 a.2.1),f,e,b],a.2.2))
  (some ((.ext 8),[(Y 0 ds),(Y 1 ds),(Y 2 ds),e,(Y 4 ds)],d))
def uw(a b c d e:D)(f:Z):Option (D × Z):=
  (U tab .add W b d).bind λg=>(jF tab W j0 g).bind λg=>(U tab .shr j0 g (.int .u64 1)).bind λg=>(jF tab j0 W g).bind λg=>(U tab .add W g c).bind λh=>(U tab .gtr W c g).bind λi=>(aK i
   ((U tab .sub W h d).bind λi=>some (.aO,[i,g],f))
   (some (.aO,[b,c],f))).bind λf=>toEnd f.1 ((U tab .sub W h (.int .i64 1)).bind λi=>((cH (EN a e i) [(Y 0 f.2.1),(Y 1 f.2.1),.any,.any,.any] f.2.2).bind λi=>some ((bJ 8 i.1),[(Y 0 i.2.1),(Y 1 i.2.1),(Y 2 i.2.1),(Y 3 i.2.1),(Y 4 i.2.1)],i.2.2)).bind λi=>toEnd i.1 ((U tab .sub W h (Y 0 i.2.1)).bind λh=>(U tab .lss W (Y 0 i.2.1) c).bind λj=>(gd j true (some c)).bind λk=>(gd j true (some h)).bind λl=>(gd j true (U tab .lss W k l)).bind λk=>(cP j k (.bool false)).bind λj=>(aK j
   ((R B2 [a,(Y 0 i.2.1),c,h,e] i.2.2).bind λc=>some (.aO,([]:List D),c.2))
   (some (.aO,([]:List D),i.2.2))).bind λc=>toEnd c.1 ((U tab .lss W b (Y 0 i.2.1)).bind λj=>(gd j true (some (Y 0 i.2.1))).bind λk=>(gd j true (some g)).bind λl=>(gd j true (U tab .lss W k l)).bind λk=>(cP j k (.bool false)).bind λj=>(aK j
   ((R qA [a,b,(Y 0 i.2.1),g,e] c.2.2).bind λb=>some (.aO,([]:List D),b.2))
   (some (.aO,([]:List D),c.2.2))).bind λb=>toEnd b.1 ((U tab .lss W g h).bind λj=>(gd j true (some h)).bind λk=>(gd j true (some d)).bind λl=>(gd j true (U tab .lss W k l)).bind λk=>(cP j k (.bool false)).bind λj=>(aK j
   ((R qA [a,g,h,d,e] b.2.2).bind λa=>some (.aO,([]:List D),a.2))
   (some (.aO,([]:List D),b.2.2))).bind λa=>cZ a.1 (some (aE [],a.2.2))) λa=>cZ a (some (aE [],b.2.2))) λa=>cZ a (some (aE [],c.2.2))) λa=>cZ a (some (aE [],i.2.2))) λa=>cZ a (some (aE [],f.2.2))
def EO(a b c:D)(d:List D)(e:Z):Option bT:=
 (U tab .lss W (Y 0 d) (Y 1 d)).bind λf=>aK f
  ((U tab .add W (Y 0 d) (Y 1 d)).bind λg=>(jF tab W j0 g).bind λg=>(U tab .shr j0 g (.int .u64 1)).bind λg=>(jF tab j0 W g).bind λg=>(aN tab bS a b).bind λb=>(aA tab e bO b).bind λb=>(aN tab bS a g).bind λa=>(aA tab e bO a).bind λa=>(fA R c [b,a] e).bind λa=>(U tab .lss W a.1 (.int .i64 0)).bind λb=>(ft .not b).bind λb=>(aK b
  ((U tab .add W g (.int .i64 1)).bind λc=>some (.aO,[c,(Y 1 d)],a.2))
  (some (.aO,[(Y 0 d),g],a.2))).bind λa=>some ((bJ 5 a.1),[(Y 0 a.2.1),(Y 1 a.2.1),g,f,b],a.2.2))
  (some ((.ext 4),[(Y 0 d),(Y 1 d),(Y 2 d),f,(Y 4 d)],e))
def EP(a:D)(b:bT)(c:List D)(d:Z):Option bT:=
 (U tab .gtr W (Y 0 c) (Y 0 b.2.1)).bind λb=>aK b
  ((U tab .sub W (Y 0 c) (.int .i64 1)).bind λe=>(U tab .sub W (Y 0 c) (.int .i64 1)).bind λf=>(aN tab bS a f).bind λf=>(aA tab d bO f).bind λf=>(aN tab bS a (Y 0 c)).bind λg=>(aA tab d bO g).bind λg=>(aN tab bS a (Y 0 c)).bind λh=>((bZ tab d bO h f).bind λf=>some ((.bG:D),f)).bind λh=>(aN tab bS a e).bind λa=>((bZ tab h.2 bO a g).bind λf=>some ((.bG:D),f)).bind λa=>(U tab .sub W (Y 0 c) (.int .i64 1)).bind λe=>some (.aO,[e,b],a.2))
  (some ((.ext 6),[(Y 0 c),b],d))
def uv(a b c d e:D)(f:Z):Option (D × Z):=
  (U tab .sub W d c).bind λg=>(U tab .eql W g (.int .i64 1)).bind λg=>aK g
   (((cH (EO a c e) [b,c,.any,.any,.any] f).bind λg=>some ((bJ 4 g.1),[(Y 0 g.2.1),(Y 1 g.2.1),(Y 2 g.2.1),(Y 3 g.2.1),(Y 4 g.2.1)],g.2.2)).bind λg=>toEnd g.1 (((cH (EP a g) [c,.any] g.2.2).bind λh=>some ((bJ 6 h.1),[(Y 0 h.2.1),(Y 1 h.2.1)],h.2.2)).bind λh=>toEnd h.1 (some (aE [],h.2.2)) λi=>toEnd i (uw a b c d e h.2.2) λi=>cZ i (some (aE [],h.2.2))) λh=>toEnd h (uw a b c d e g.2.2) λh=>cZ h (some (aE [],g.2.2)))
   (uw a b c d e f)
def ER(a b c:D)(d:List D)(e:Z):Option bT:=
 (U tab .lss W (Y 0 d) (Y 1 d)).bind λf=>aK f
  ((U tab .add W (Y 0 d) (Y 1 d)).bind λg=>(jF tab W j0 g).bind λg=>(U tab .shr j0 g (.int .u64 1)).bind λg=>(jF tab j0 W g).bind λg=>(aN tab bS a g).bind λh=>(aA tab e bO h).bind λh=>(aN tab bS a b).bind λa=>(aA tab e bO a).bind λa=>(fA R c [h,a] e).bind λa=>(U tab .lss W a.1 (.int .i64 0)).bind λb=>(aK b
  ((U tab .add W g (.int .i64 1)).bind λc=>some (.aO,[c,(Y 1 d)],a.2))
  (some (.aO,[(Y 0 d),g],a.2))).bind λa=>some ((bJ 1 a.1),[(Y 0 a.2.1),(Y 1 a.2.1),g,f,b],a.2.2))
  (some ((.ext 0),[(Y 0 d),(Y 1 d),(Y 2 d),f,(Y 4 d)],e))
def ES(a:D)(b:bT)(c:List D)(d:Z):Option bT:=
 (U tab .sub W (Y 0 b.2.1) (.int .i64 1)).bind λb=>(U tab .lss W (Y 0 c) b).bind λb=>aK b
  ((U tab .add W (Y 0 c) (.int .i64 1)).bind λe=>(U tab .add W (Y 0 c) (.int .i64 1)).bind λf=>(aN tab bS a f).bind λf=>(aA tab d bO f).bind λf=>(aN tab bS a (Y 0 c)).bind λg=>(aA tab d bO g).bind λg=>(aN tab bS a (Y 0 c)).bind λh=>((bZ tab d bO h f).bind λf=>some ((.bG:D),f)).bind λh=>(aN tab bS a e).bind λa=>((bZ tab h.2 bO a g).bind λf=>some ((.bG:D),f)).bind λa=>(U tab .add W (Y 0 c) (.int .i64 1)).bind λe=>some (.aO,[e,b],a.2))
  (some ((.ext 2),[(Y 0 c),b],d))
def EM(a b c d e:D)(h:Z):Option (D × Z):=
 (U tab .sub W c b).bind λf=>(U tab .eql W f (.int .i64 1)).bind λf=>aK f
  (((cH (ER a b e) [c,d,.any,.any,.any] h).bind λf=>some ((bJ 0 f.1),[(Y 0 f.2.1),(Y 1 f.2.1),(Y 2 f.2.1),(Y 3 f.2.1),(Y 4 f.2.1)],f.2.2)).bind λf=>toEnd f.1 (((cH (ES a f) [b,.any] f.2.2).bind λg=>some ((bJ 2 g.1),[(Y 0 g.2.1),(Y 1 g.2.1)],g.2.2)).bind λg=>toEnd g.1 (some (aE [],g.2.2)) λi=>toEnd i (uv a b c d e g.2.2) λi=>cZ i (some (aE [],g.2.2))) λg=>toEnd g (uv a b c d e f.2.2) λg=>cZ g (some (aE [],f.2.2)))
  (uv a b c d e h)
theorem PG(a b c d e:D)(h:Z):R qA [a,b,c,d,e] h=EM a b c d e h:=
 er xn
def EU(a b c:D)(ds:List D)(d:Z):Option bT:=
 (U tab .neq W (Y 0 ds) (Y 1 ds)).bind λe=>aK e
  ((U tab .gtr W (Y 0 ds) (Y 1 ds)).bind λf=>(aK f
  ((U tab .sub W b (Y 0 ds)).bind λg=>(R sF [a,g,b,(Y 1 ds),c] d).bind λg=>(U tab .sub W (Y 0 ds) (Y 1 ds)).bind λh=>some (.aO,[h,(Y 1 ds)],g.2))
  ((U tab .sub W b (Y 0 ds)).bind λg=>(U tab .add W b (Y 1 ds)).bind λb=>(U tab .sub W b (Y 0 ds)).bind λb=>(R sF [a,g,b,(Y 0 ds),c] d).bind λa=>(U tab .sub W (Y 1 ds) (Y 0 ds)).bind λb=>some (.aO,[(Y 0 ds),b],a.2))).bind λa=>some ((bJ 1 a.1),[(Y 0 a.2.1),(Y 1 a.2.1),e,f],a.2.2))
  (some ((.ext 0),[(Y 0 ds),(Y 1 ds),e,(Y 3 ds)],d))
def ET(a b c d e:D)(h:Z):Option (D × Z):=
 (U tab .sub W c b).bind λb=>(U tab .sub W d c).bind λd=>((cH (EU a c e) [b,d,.any,.any] h).bind λb=>some ((bJ 0 b.1),[(Y 0 b.2.1),(Y 1 b.2.1),(Y 2 b.2.1),(Y 3 b.2.1)],b.2.2)).bind λb=>toEnd b.1 ((U tab .sub W c (Y 0 b.2.1)).bind λd=>(R sF [a,d,c,(Y 0 b.2.1),e] b.2.2).bind λa=>some (aE [],a.2)) λa=>cZ a (some (aE [],b.2.2))
theorem PH(a b c d e:D)(h:Z):R B2 [a,b,c,d,e] h=ET a b c d e h:=
 er xo
def EW(a b c d:D)(ds:List D)(e:Z):Option bT:=
 (U tab .lss W (Y 0 ds) d).bind λd=>aK d
  ((U tab .add W b (Y 0 ds)).bind λf=>(U tab .add W c (Y 0 ds)).bind λg=>(U tab .add W c (Y 0 ds)).bind λc=>(aN tab bS a c).bind λc=>(aA tab e bO c).bind λc=>(U tab .add W b (Y 0 ds)).bind λb=>(aN tab bS a b).bind λb=>(aA tab e bO b).bind λb=>(aN tab bS a f).bind λf=>((bZ tab e bO f c).bind λc=>some ((.bG:D),c)).bind λf=>(aN tab bS a g).bind λa=>((bZ tab f.2 bO a b).bind λc=>some ((.bG:D),c)).bind λa=>(U tab .add W (Y 0 ds) (.int .i64 1)).bind λb=>some (.aO,[b,d],a.2))
  (some ((.ext 0),[(Y 0 ds),d],e))
def EV(a b c d e:D)(h:Z):Option (D × Z):=
 ((cH (EW a b c d) [.int .i64 0,.any] h).bind λa=>some ((bJ 0 a.1),[(Y 0 a.2.1),(Y 1 a.2.1)],a.2.2)).bind λa=>cZ a.1 (some (aE [],a.2.2))
theorem PI(a b c d e:D)(h:Z):R sF [a,b,c,d,e] h=EV a b c d e h:=
 er xp
def zq(a b c:D)(h:Z):Option (D × Z):=
 (fN tab a).bind λd=>(aC tab dR 0 d).bind λd=>(aA tab h aP d).bind λd=>(aN tab aP d b).bind λb=>(aA tab h W b).bind λb=>(fN tab a).bind λd=>(aC tab dR 0 d).bind λd=>(aA tab h aP d).bind λd=>(aN tab aP d c).bind λc=>(aA tab h W c).bind λc=>(fN tab a).bind λd=>(aC tab dR 1 d).bind λd=>(aA tab h aP d).bind λd=>(aN tab aP d c).bind λd=>(aA tab h W d).bind λd=>(fN tab a).bind λa=>(aC tab dR 1 a).bind λa=>(aA tab h aP a).bind λa=>(aN tab aP a b).bind λa=>(aA tab h W a).bind λa=>(R sR [d,a] h).bind λa=>(R sR [b,c] a.2).bind λb=>(bI tab aP 2 [0,1] [a.1,b.1]).bind λa=>(R vP [a] b.2).bind λa=>(U tab .lss W a.1 (.int .i64 0)).bind λb=>some (aE [b],a.2)
theorem HP(a b c:D)(h:Z):R vK [a,b,c] h=zq a b c h:=
 er wc
def zr(a:D)(h:Z):Option (D × Z):=
 (fN tab a).bind λb=>(aC tab dR 0 b).bind λb=>(aA tab h aP b).bind λb=>(aV tab aP b).bind λb=>(U tab .sub W b (.int .i64 1)).bind λb=>(fN tab a).bind λc=>(aC tab dR 0 c).bind λc=>(aA tab h aP c).bind λc=>(aN tab aP c b).bind λc=>(aA tab h W c).bind λc=>(fN tab a).bind λd=>(aC tab dR 0 d).bind λd=>(aA tab h aP d).bind λd=>(fO tab aP false true false [d,b]).bind λb=>(fN tab a).bind λa=>(aC tab dR 0 a).bind λa=>((bZ tab h aP a b).bind λa=>some ((.bG:D),a)).bind λa=>(some (.iface W c:D)).bind λb=>some (aE [b],a.2)
theorem HQ(a:D)(h:Z):R sL [a] h=zr a h:=
 er we
def zt(a b:D)(h:Z):Option (D × Z):=
 (fN tab a).bind λc=>(aC tab dR 0 c).bind λc=>(aA tab h aP c).bind λc=>(l8 W b).bind λb=>(bI tab aP 1 [0] [b]).bind λb=>(dM tab h aP aP c b).bind λb=>(fN tab a).bind λa=>(aC tab dR 0 a).bind λa=>((bZ tab b.2 aP a b.1).bind λa=>some ((.bG:D),a)).bind λa=>some (aE [],a.2)
theorem HR(a b:D)(h:Z):R sM [a,b] h=zt a b h:=
 er wg
def zu(a b c:D)(h:Z):Option (D × Z):=
 (fN tab a).bind λd=>(aC tab dR 0 d).bind λd=>(aA tab h aP d).bind λd=>(fN tab a).bind λe=>(aC tab dR 0 e).bind λe=>(aA tab h aP e).bind λe=>(fN tab a).bind λf=>(aC tab dR 0 f).bind λf=>(aA tab h aP f).bind λf=>(aN tab aP f c).bind λf=>(aA tab h W f).bind λf=>(fN tab a).bind λa=>(aC tab dR 0 a).bind λa=>(aA tab h aP a).bind λa=>(aN tab aP a b).bind λa=>(aA tab h W a).bind λa=>(aN tab aP d b).bind λb=>((bZ tab h W b f).bind λb=>some ((.bG:D),b)).bind λd=>(aN tab aP e c).bind λc=>((bZ tab d.2 W c a).bind λb=>some ((.bG:D),b)).bind λa=>some (aE [],a.2)
theorem HS(a b c:D)(h:Z):R qD [a,b,c] h=zu a b c h:=
 er wh
def pK(a b c:D)(ds:List D)(d:Z):Option bT:=
 (U tab .lss W (Y 2 ds) c).bind λc=>aK c
  ((aN tab aP b (Y 2 ds)).bind λb=>(aA tab d W b).bind λb=>(U tab .neq W b a).bind λa=>aK a
  (some (.ret,[b,b,(Y 2 ds),c,a],d))
  ((U tab .add W (Y 2 ds) (.int .i64 1)).bind λe=>some (.aO,[(Y 0 ds),b,e,c,a],d)))
  (some ((.ext 0),[(Y 0 ds),(Y 1 ds),(Y 2 ds),c,(Y 4 ds)],d))
def zP(a:D)(h:Z):Option (D × Z):=
 (aV tab aP a).bind λb=>((cH (pK (.int .i64 0) a b) [.int .i64 0,.any,.int .i64 0,.any,.any] h).bind λa=>some ((bJ 0 a.1),[(Y 0 a.2.1),(Y 1 a.2.1),(Y 2 a.2.1),(Y 3 a.2.1),(Y 4 a.2.1)],a.2.2)).bind λa=>toEnd a.1 (some (aE [.int .i64 0],a.2.2)) λb=>cZ b (some (aE [(Y 0 a.2.1)],a.2.2))
theorem H7(a:D)(h:Z):R vP [a] h=zP a h:=
 er wi
end
noncomputable def Cf:fc:=⟨Tryd.f17.body.getD .skip,Tryd.f17.results.toList,⟨107,[0,1,2,6,7,8,9,10,11,12,14,15,16,32,49,63,65,81,97],[91],[]⟩,true⟩
theorem IH:bM Tryd.prog 17 Cf :=.of Tryd.func17 (by kernel_rfl) (by kernel_rfl) (by kernel_rfl) Tryd.call17
noncomputable def lU(n r g k:D)(a:List D)(i:Z):Option bT:=
 (aV tab cN (Y 0 a)).bind λs=>(U tab .lss W s r).bind λc=>(gd c true (some (g:D))).bind λt=>(e7 c true i (R qC [t] i)).bind λe=>(gd c true (U tab .gtr W e.1 (.int .i64 0))).bind λu=>(cP c u (.bool false)).bind λh=>aK h
  ((some (.iface iZ g:D)).bind λv=>(R vJ [v] e.2).bind λf=>(l8 W f.1).bind λd=>(aN tab cN n d).bind λw=>(aA tab f.2 aI w).bind λx=>(bI tab cN 1 [0] [x]).bind λy=>(dM tab f.2 cN cN (Y 0 a) y).bind λb=>(aN tab aP k d).bind λz=>(aA tab b.2 W z).bind λA=>(U tab .geq W A (.int .i64 0)).bind λl=>(aK l
  ((some (.iface iZ g:D)).bind λB=>(aN tab aP k d).bind λo=>(aA tab b.2 W o).bind λp=>(some (.iface W p:D)).bind λq=>(R sI [B,q] b.2).bind λm=>some (.aO,([]:List D),m.2))
  (some (.aO,([]:List D),b.2))).bind λj=>some ((bJ 5 j.1),[b.1,d,h,l],j.2.2))
  (some ((.ext 4),[(Y 0 a),(Y 1 a),h,(Y 3 a)],e.2))
noncomputable def pO(o e:D)(i:List D)(c:Z)(g:Mp)(d:Ex→List D→Z→Mp→Option Unit):Option Unit:=
 qZ g e λk b=>(fH 0 k).bind λa=>aK a
  (qX b e λl h=>(fH 1 l).bind λf=>(some (.iface iZ o:D)).bind λm=>(some (.iface W f:D)).bind λn=>(R sI [m,n] c).bind λj=>d .aO [f,a] j.2 h)
  (d (.ext 2) [(Y 0 i),a] c b)
noncomputable def rO(j m n:D)(ds:List D)(i:Z)(h:Mp)(k:Ex→List D→Z→Mp→Option Unit):Option Unit:=
 (U tab .geq W (Y 0 ds) (.int .i64 0)).bind λc=>aK c
  ((aN tab aP m (Y 0 ds)).bind λs=>((bZ tab i W s (.int .i64 (-1))).bind λf=>some ((.bG:D),f)).bind λg=>(aN tab cN j (Y 0 ds)).bind λt=>(aC tab aI 1 t).bind λu=>(aC tab aF 1 u).bind λv=>(aA tab g.2 W v).bind λw=>qY h n w true λl e=>(fH 0 l).bind λd=>(fH 1 l).bind λa=>(aK a
  ((aN tab aP m (Y 0 ds)).bind λx=>((bZ tab g.2 W x d).bind λf=>some ((.bG:D),f)).bind λp=>some (.aO,([]:List D),p.2))
  (some (.aO,([]:List D),g.2))).bind λb=>toEnd b.1 ((aN tab cN j (Y 0 ds)).bind λy=>(aC tab aI 1 y).bind λz=>(aC tab aF 1 z).bind λA=>(aA tab b.2.2 W A).bind λB=>pf e n B (Y 0 ds) λF o=>(U tab .sub W (Y 0 ds) (.int .i64 1)).bind λq=>k .aO [q,d,a,c,a] b.2.2 o) λC=>toEnd (bJ 1 C) ((U tab .sub W (Y 0 ds) (.int .i64 1)).bind λr=>k .aO [r,d,a,c,a] b.2.2 e) λE=>k E [(Y 0 ds),d,a,c,a] b.2.2 e)
  (k (.ext 0) [(Y 0 ds),(Y 1 ds),(Y 2 ds),c,(Y 4 ds)] i h)
noncomputable def pM(b q r:D)(h:Z)(c:D→Z→Option Unit):Option Unit:=
 (R sH [q] h).bind λj=>(aV tab cN b).bind λs=>(dM tab j.2 aP W j.1 s).bind λk=>(dZ tab dR [1] [k.1]).bind λt=>(pD dR 2 k.2 t).bind λe=>(aV tab cN b).bind λl=>(qj tab e.2 aP l l).bind λf=>th M0 λm n=>(aV tab cN b).bind λu=>(U tab .sub W u (.int .i64 1)).bind λv=>my (rO b f.1 m) [v,.any,.any,.any,.any] f.2 n λx E g o=>toEnd (bJ 0 x) (q0 o m λw p=>my (pO e.1 w) [.any,.any] g p λz F i C=>toEnd (bJ 2 z) (((cH (lU b r e.1 f.1) [.J,.any,.any,.any] i).bind λa=>some ((bJ 4 a.1),[(Y 0 a.2.1),(Y 1 a.2.1),(Y 2 a.2.1),(Y 3 a.2.1)],a.2.2)).bind λd=>toEnd d.1 (c (aE [(Y 0 d.2.1)]) d.2.2) λB=>cZ B (c (aE [.J]) d.2.2)) λA=>cZ A (c (aE [.J]) i)) λy=>cZ y (c (aE [.J]) g)
abbrev Em:Nat:=64
noncomputable abbrev Cg:fc:=Cf
theorem JV(b c d:D)(h:Z)(a:D→Z→Option Unit):mF X R cH Em Cg [b,c,d] h a=pM b c d h a:=by kernel_rfl
theorem Mw:lr Tryd.prog 64 3:=⟨by kernel_rfl,by kernel_rfl,λa=>by kernel_rfl⟩
abbrev vL:Nat:=4
abbrev vI:Nat:=5
noncomputable def i4:fc:=⟨Tryd.f4.body.getD .skip,Tryd.f4.results.toList,⟨120,[0,4,5,6,7,8,9,11,12,13,14,15,16,17,18,19,21,31,32,33,34,39,88],[11,49],[]⟩,true⟩
noncomputable def i5:fc:=⟨Tryd.f5.body.getD .skip,Tryd.f5.results.toList,⟨39,[0,1,2],[9,10],[]⟩,false⟩
noncomputable def vT:List (Nat × fc):=[(4,i4),(5,i5)]
noncomputable def od:FuncId→Option fc:=qH vT
theorem BV:bM Tryd.prog 4 i4 :=.of Tryd.func4 (by kernel_rfl) (by kernel_rfl) (by kernel_rfl) Tryd.call4
theorem Ja:bM Tryd.prog 5 i5 :=.of Tryd.func5 (by kernel_rfl) (by kernel_rfl) (by kernel_rfl) Tryd.call5
theorem JM:rN Tryd.prog vT:=⟨BV,Ja,trivial⟩
noncomputable def pF:cE:=λa args b=>if a=qB then oC args b else if a=oR then oy args b else R a args b
noncomputable def X1:Cx:=⟨tab,gl,pF⟩
noncomputable def R1:cE:=run X1 od
theorem Bz(fi:fc){f:FuncId}{args:List D}{h:Z}{x:Option (D × Z)}(a:od f=some fi)(b:sT X1 R1 cH fi args h=x):R1 f args h=x:=(D1 a args h).trans b
theorem Pn(args:List D)(h:Z):R1 qB args h=oC args h:=(rm (X:=X1) (F:=od) (by kernel_rfl) _ _).trans (by simp only[X1,pF,aM,aR])
theorem Pm(args:List D)(h:Z):R1 oR args h=oy args h:=(rm (X:=X1) (F:=od) (by kernel_rfl) _ _).trans (by simp only[X1,pF,show ¬(oR=qB) by decide,aM,aR])
theorem r1(f:Nat)(a:od f=none)(b:f≠qB)(c:f≠oR)(args:List D)(h:Z):R1 f args h=R f args h:=(rm (X:=X1) (F:=od) a _ _).trans (by simp only[X1,pF,b,c,aR])
theorem M4(args:List D)(h:Z):R1 qs args h=R qs args h:=r1 _ (by kernel_rfl) (by decide) (by decide) _ _
theorem M5(args:List D)(h:Z):R1 mh args h=R mh args h:=r1 _ (by kernel_rfl) (by decide) (by decide) _ _
theorem M6(args:List D)(h:Z):R1 oP args h=R oP args h:=r1 _ (by kernel_rfl) (by decide) (by decide) _ _
theorem M7(args:List D)(h:Z):R1 oQ args h=R oQ args h:=r1 _ (by kernel_rfl) (by decide) (by decide) _ _
theorem M9(args:List D)(h:Z):R1 qE args h=R qE args h:=r1 _ (by kernel_rfl) (by decide) (by decide) _ _
theorem Nb(args:List D)(h:Z):R1 ga args h=R ga args h:=r1 _ (by kernel_rfl) (by decide) (by decide) _ _
theorem Na(args:List D)(h:Z):R1 lD args h=R lD args h:=r1 _ (by kernel_rfl) (by decide) (by decide) _ _
theorem M8(args:List D)(h:Z):R1 nD args h=R nD args h:=r1 _ (by kernel_rfl) (by decide) (by decide) _ _
noncomputable def zw(a b c:D)(ds:List D)(d:Z):Option bT:=
 (U tab .lss W (Y 2 ds) c).bind λc=>aK c
  ((aN tab gS b (Y 2 ds)).bind λb=>(aA tab d fF b).bind λb=>(im 2 b).bind λb=>(R1 ga [a,.int .i64 3] d).bind λe=>(U tab .gtr W e.1 (.int .i64 0)).bind λf=>(aK f
  ((aC tab fF 0 b).bind λg=>(aA tab e.2 W g).bind λh=>(aC tab fF 1 b).bind λi=>(aA tab e.2 W i).bind λj=>(R1 ga [a,.int .i64 40] e.2).bind λa=>(U tab .sub W j a.1).bind λk=>(dZ tab fF [0,1] [h,k]).bind λk=>(bI tab gS 1 [0] [k]).bind λk=>(dM tab a.2 gS gS (Y 0 ds) k).bind λk=>eL (aA tab a.2 W g=some h)
 (eL (aA tab a.2 W i=some j)
 (some (.aO,[k.1],k.2))))
  (some (.aO,[(Y 0 ds)],e.2))).bind λa=>toEnd (bJ 1 a.1) ((U tab .add W (Y 2 ds) (.int .i64 1)).bind λe=>some (.aO,[(Y 0 a.2.1),b,e,c,f],a.2.2)) λe=>some (e,[(Y 0 a.2.1),b,(Y 2 ds),c,f],a.2.2))
  (some ((.ext 0),[(Y 0 ds),(Y 1 ds),(Y 2 ds),c,(Y 4 ds)],d))
noncomputable def zv(a b:D)(h:Z):Option (D × Z):=
 (R1 vI [] h).bind λb=>(ft .not b.1).bind λc=>aK c
  (scope h b.2 (aE [.bool false]))
  ((R1 qs [a,.int .i64 240] b.2).bind λa=>(R1 mh [a.1,.int .i64 10] a.2).bind λb=>(fH 0 b.1).bind λc=>(fH 1 b.1).bind λd=>(R1 oR [c,.J] b.2).bind λb=>(aV tab gS b.1).bind λe=>((cH (zw a.1 b.1 e) [.J,.any,.int .i64 0,.any,.any] b.2).bind λa=>some ((bJ 0 a.1),[(Y 0 a.2.1),(Y 1 a.2.1),(Y 2 a.2.1),(Y 3 a.2.1),(Y 4 a.2.1)],a.2.2)).bind λa=>toEnd a.1 ((R1 lD [c,d,(Y 0 a.2.1)] a.2.2).bind λe=>(fH 0 e.1).bind λf=>(fH 1 e.1).bind λg=>(R1 lD [f,g,(Y 0 a.2.1)] e.2).bind λe=>(fH 0 e.1).bind λi=>(fH 1 e.1).bind λj=>(R1 qE [f,g,.int .i64 200] e.2).bind λe=>(ft .not e.1).bind λk=>(gd k false (some f)).bind λl=>(gd k false (some i)).bind λi=>(e7 k false e.2 (R1 oP [l,i] e.2)).bind λe=>(gd k false (ft .not e.1)).bind λi=>(cP k (.bool true) i).bind λi=>(gd i false (some g)).bind λk=>(gd i false (some j)).bind λj=>(e7 i false e.2 (R1 oQ [k,j] e.2)).bind λe=>(gd i false (ft .not e.1)).bind λj=>(cP i (.bool true) j).bind λi=>(gd i false (some f)).bind λj=>(gd i false (aV tab cN j)).bind λj=>(gd i false (some c)).bind λk=>(gd i false (aV tab cN k)).bind λk=>(gd i false (U tab .gtr W j k)).bind λj=>(cP i (.bool true) j).bind λi=>aK i
  (scope h e.2 (aE [.bool false]))
  ((R1 lD [f,g,b.1] e.2).bind λb=>(fH 0 b.1).bind λe=>(fH 1 b.1).bind λf=>(R1 lD [c,d,.J] b.2).bind λb=>(fH 0 b.1).bind λg=>(fH 1 b.1).bind λi=>(aV tab cN e).bind λe=>(U tab .eql W e (.int .i64 0)).bind λe=>(gd e true (some f)).bind λf=>(gd e true (aV tab aP f)).bind λf=>(gd e true (U tab .eql W f (.int .i64 0))).bind λf=>(cP e f (.bool false)).bind λe=>(gd e true (some g)).bind λf=>(gd e true (some c)).bind λc=>(e7 e true b.2 (R1 oP [f,c] b.2)).bind λb=>(cP e b.1 (.bool false)).bind λc=>(gd c true (some i)).bind λe=>(gd c true (some d)).bind λd=>(e7 c true b.2 (R1 oQ [e,d] b.2)).bind λb=>(cP c b.1 (.bool false)).bind λc=>scope h b.2 (aE [c]))) λb=>cZ b (scope h a.2.2 (aE [.bool false])))
theorem HT(a b:D)(h:Z):R1 vL [a,b] h=zv a b h:=
 Bz i4 (by kernel_rfl) (by kernel_rfl)
noncomputable def zk(h:Z):Option (D × Z):=
 (fA R1 (.fn (.func nD) [] []) [.int .i64 1,.int .i64 0] h).bind λa=>(fA R1 (.fn (.func nD) [] []) [.int .i64 2,.int .i64 0] a.2).bind λb=>(fA R1 (.fn (.func nD) [] []) [.int .i64 1,.int .i64 1] b.2).bind λc=>(bI tab cN 3 [0,1,2] [a.1,b.1,c.1]).bind λa=>(bI tab aP 3 [0,1,2] [.int .i64 0,.int .i64 5,.int .i64 9]).bind λb=>(R1 qB [a,b,.int .i64 2] c.2).bind λa=>(aV tab cN a.1).bind λb=>(U tab .eql W b (.int .i64 2)).bind λb=>(gd b true (some a.1)).bind λc=>(gd b true (aN tab cN c (.int .i64 0))).bind λc=>(gd b true (aC tab aI 1 c)).bind λc=>(gd b true (aC tab aF 1 c)).bind λc=>(gd b true (aA tab a.2 W c)).bind λc=>(gd b true (U tab .eql W c (.int .i64 2))).bind λc=>(cP b c (.bool false)).bind λb=>(gd b true (some a.1)).bind λc=>(gd b true (aN tab cN c (.int .i64 1))).bind λc=>(gd b true (aC tab aI 1 c)).bind λc=>(gd b true (aC tab aF 1 c)).bind λc=>(gd b true (aA tab a.2 W c)).bind λc=>(gd b true (U tab .eql W c (.int .i64 1))).bind λc=>(cP b c (.bool false)).bind λb=>(gd b true (some a.1)).bind λc=>(gd b true (aN tab cN c (.int .i64 1))).bind λc=>(gd b true (aC tab aI 1 c)).bind λc=>(gd b true (aC tab aF 2 c)).bind λc=>(gd b true (aA tab a.2 W c)).bind λc=>(gd b true (U tab .eql W c (.int .i64 0))).bind λc=>(cP b c (.bool false)).bind λb=>some (aE [b],a.2)
theorem HI(h:Z):R1 vI [] h=zk h:=
 Bz i5 (by kernel_rfl) (by kernel_rfl)
@[simp] theorem P0(z:Nat)(f:Bool)(rows:List (List D)):aV tab iQ (.sl z f rows)=some (.int .i64 rows.length):=id rfl
@[simp] theorem CP(z o r n:Nat):aV tab iQ (.S z o r n)=some (.int .i64 n):=id rfl
@[simp] theorem FU (b:D) (c:b.one=true):dZ tab iz [0] [b]=some (.agg [b,.int .i64 0]):=by
 have a:=po c;refine u3 (T:=tab) (i:=tQ) (fs:=[(22,0,1),(3,1,1)]) (id rfl) (id rfl) ?_;rw[show tQ.zero=[.J,.int .i64 0]from id rfl];rw[kX (off:=0) (V:=1) (id rfl) (by rw[a.1];rfl) (by simp[dK,kP,kQ,kO,kN]) a.2,a.1];exact id rfl
theorem Pk{h:Z}{o T V kk off:Nat}{rows:List (List D)}{row:List D}{v:D}(d:h[o]?=some (.row T V rows))(e:rows[kk]?=some row)(g:(cG v).length=3)(c:off+3≤row.length)(b:v.fk=true){a:Type}{f:Z→Option a}{Q:a→Prop}
  (k:∀h',h'[o]?=some (.row T V (rows.set kk (dK row off (cG v))))→bW o h h'→Wp (f h') Q):Wp ((bZ tab h gT (.ptr o kk off) v).bind f) Q:=
 by rw[show bZ tab h gT (.ptr o kk off) v=jl 3 h (.ptr o kk off) v from rfl];exact lQ d e g c b k
theorem ll{h:Z}{o T V kk off:Nat}{rows:List (List D)}{row:List D}{v:D}(d:h[o]?=some (.row T V rows))(e:rows[kk]?=some row)(g:(cG v).length=11)(c:off+11≤row.length)(b:v.fk=true){a:Type}{f:Z→Option a}{Q:a→Prop}
  (k:∀h',h'[o]?=some (.row T V (rows.set kk (dK row off (cG v))))→bW o h h'→Wp (f h') Q):Wp ((bZ tab h aI (.ptr o kk off) v).bind f) Q:=
 by rw[show bZ tab h aI (.ptr o kk off) v=jl 11 h (.ptr o kk off) v from rfl];exact lQ d e g c b k
@[simp] theorem lC(o k f:Nat):aC tab aI 1 (.ptr o k f)=some (.ptr o k (f+1)):=id rfl
@[simp] theorem Ip(b a:D)(cs:List D):aC tab aF 1 (.aD (b::a::cs))=some (.aD (a::cs)):=id rfl
@[simp] theorem vo(o k f:Nat):aC tab aF 1 (.ptr o k f)=some (.ptr o k (f+1)):=id rfl
theorem kB{h:Z}{o T V kk off:Nat}{rows:List (List D)}{row:List D}{v:D}(d:h[o]?=some (.row T V rows))(e:rows[kk]?=some row)(g:(cG v).length=1)(c:off+1≤row.length)(b:v.fk=true){a:Type}{f:Z→Option a}{Q:a→Prop}
  (k:∀h',h'[o]?=some (.row T V (rows.set kk (dK row off (cG v))))→bW o h h'→Wp (f h') Q):Wp ((bZ tab h W (.ptr o kk off) v).bind f) Q:=
 by rw[show bZ tab h W (.ptr o kk off) v=jl 1 h (.ptr o kk off) v from rfl];exact lQ d e g c b k
@[simp] theorem fD(c:D)(cs:List D)(h:Z):aA tab h W (.aD (c::cs))=some c:=id rfl
@[simp] theorem fh(h:Z)(o k f:Nat):aA tab h W (.ptr o k f)=(h.row o k).bind λrow=>(row.drop f).head?:=by show(match h.row o k with|some row=>_|none=>none)=_;cases h.row o k<;>rfl
@[simp] theorem BI(b c a:D)(cs:List D):aC tab aF 2 (.aD (b::c::a::cs))=some (.aD (a::cs)):=id rfl
@[simp] theorem me(o k f:Nat):aC tab aF 2 (.ptr o k f)=some (.ptr o k (f+2)):=id rfl
@[simp] theorem BJ(b c d e a:D)(cs:List D):aC tab aF 4 (.aD (b::c::d::e::a::cs))=some (.aD (a::cs)):=id rfl
@[simp] theorem qp(o k f:Nat):aC tab aF 4 (.ptr o k f)=some (.ptr o k (f+4)):=id rfl
@[simp] theorem ko(c:D)(cs:List D)(h:Z):aA tab h bB (.aD (c::cs))=some c:=id rfl
@[simp] theorem oZ(h:Z)(o k f:Nat):aA tab h bB (.ptr o k f)=(h.row o k).bind λrow=>(row.drop f).head?:=by show(match h.row o k with|some row=>_|none=>none)=_;cases h.row o k<;>rfl
theorem yy{h:Z}{n0:Nat}(e:n0≤h.length){rows:List (List D)}{x y:D}(g:Own h n0 bF 3 rows x){ys:List (List D)}(l:iq h 3 y=some ys)(d:(rows.length+ys.length)*32≤140737488355328){c:Type}{f:D × Z→Option c}{Q:c→Prop}
  (k:∀b h',Own h' n0 bF 3 (rows++ys) b→h.length≤h'.length→(∀a,a<n0→h'[a]?=h[a]?)→(∀a,a<h.length→¬x.eH a→h'[a]?=h[a]?)→(∀a,b.eH a→x.eH a∨h.length≤a)→Wp (f (b,h')) Q):Wp ((dM tab h bB bB x y).bind f) Q:=
 p8 (T:=tab) (i:=nT) (j:=mJ) (id rfl) (id rfl) (id rfl) (by decide) e g l (k4 d (by omega)) k
@[simp] theorem lK {a:Type} {f:a→List D} {l:List a} {d:D} (h:aU 3 f l d):aV tab bB d=some (.int .i64 l.length):=
 by
  rcases h with⟨rfl,rfl⟩|⟨b,rfl⟩
  ·rfl
  ·show some (D.int .i64 ((l.map f).length:Nat))=_;simp
theorem Lj{h:Z}{n0 e z:Nat}{rows:List (List D)}{d:D}(a:Own h n0 e z rows d):aV tab bB d=some (.int .i64 rows.length):=by
 rcases a with⟨rfl,rfl⟩|⟨b,_,rfl,_⟩<;>rfl
@[simp] theorem CQ(z o r n:Nat):aV tab bB (.S z o r n)=some (.int .i64 n):=id rfl
@[simp] theorem KN(f:Bool)(rows:List (List D))(i:Int):aN tab bB (.sl 3 f rows) (.int .i64 i)=if 0≤i then(rows[i.toNat]?).map .aD else none:=by show(if 3=3∧0≤i then(match rows[i.toNat]? with|some b=>some (D.aD b)|none=>none)else none)=_;by_cases a:0≤i<;>simp[a]<;>cases rows[i.toNat]?<;>rfl
@[simp] theorem s4(o r n:Nat)(i:Int):aN tab bB (.S 3 o r n) (.int .i64 i)=if 0≤i∧i<n then some (.ptr o (r+i.toNat) 0)else none:=by show(if 3=3∧0≤i∧i<n then some (D.ptr o (r+i.toNat) 0)else none)=_;simp
@[simp] theorem mm {a:Type} {f:a→List D} {l:List a} {d:D} (h:aU 3 f l d) (i:Int):aN tab bB d (.int .i64 i)=if 0≤i then(l[i.toNat]?).map λp =>.aD (f p)else none:=
 by
  rcases h with⟨rfl,rfl⟩|⟨b,rfl⟩
  ·show none=_;simp
  ·rw[KN];simp[mU]
@[simp] theorem BK(a:D)(cs:List D):aC tab bF 0 (.aD (a::cs))=some (.aD (a::cs)):=id rfl
@[simp] theorem kj(o k f:Nat):aC tab bF 0 (.ptr o k f)=some (.ptr o k (f+0)):=id rfl
@[simp] theorem kT(b c d a:D)(cs:List D):aC tab aF 3 (.aD (b::c::d::a::cs))=some (.aD (a::cs)):=id rfl
@[simp] theorem oL(o k f:Nat):aC tab aF 3 (.ptr o k f)=some (.ptr o k (f+3)):=id rfl
theorem tY{h:Z}{o T V kk off:Nat}{rows:List (List D)}{row:List D}{v:D}(d:h[o]?=some (.row T V rows))(e:rows[kk]?=some row)(g:(cG v).length=1)(c:off+1≤row.length)(b:v.fk=true){a:Type}{f:Z→Option a}{Q:a→Prop}
  (k:∀h',h'[o]?=some (.row T V (rows.set kk (dK row off (cG v))))→bW o h h'→Wp (f h') Q):Wp ((bZ tab h bB (.ptr o kk off) v).bind f) Q:=
 by rw[show bZ tab h bB (.ptr o kk off) v=jl 1 h (.ptr o kk off) v from rfl];exact lQ d e g c b k
@[simp] theorem CN(h:Z)(o k f:Nat):aA tab h aI (.ptr o k f)=(h.row o k).bind λrow=>mI 11 (row.drop f):=by show(match h.row o k with|some row=>_|none=>none)=_;cases h.row o k<;>rfl
theorem yx{h:Z}{n0:Nat}(e:n0≤h.length){rows:List (List D)}{x y:D}(g:Own h n0 aI 11 rows x){ys:List (List D)}(l:iq h 11 y=some ys)(d:(rows.length+ys.length)*144≤140737488355328){c:Type}{f:D × Z→Option c}{Q:c→Prop}
  (k:∀b h',Own h' n0 aI 11 (rows++ys) b→h.length≤h'.length→(∀a,a<n0→h'[a]?=h[a]?)→(∀a,a<h.length→¬x.eH a→h'[a]?=h[a]?)→(∀a,b.eH a→x.eH a∨h.length≤a)→Wp (f (b,h')) Q):Wp ((dM tab h cN cN x y).bind f) Q:=
 p8 (T:=tab) (i:=tK) (j:=tP) (id rfl) (id rfl) (id rfl) (by decide) e g l (k4 d (by omega)) k
@[simp] theorem AM(n0:Int):bI tab aP 1 [0] [.int .i64 n0]=some (.sl 1 true [[.int .i64 n0]]):=id rfl
theorem EC{h:Z}{n0:Nat}(e:n0≤h.length){rows:List (List D)}{x y:D}(g:Own h n0 W 1 rows x){ys:List (List D)}(l:iq h 1 y=some ys)(d:(rows.length+ys.length)*8≤140737488355328){c:Type}{f:D × Z→Option c}{Q:c→Prop}
  (k:∀b h',Own h' n0 W 1 (rows++ys) b→h.length≤h'.length→(∀a,a<n0→h'[a]?=h[a]?)→(∀a,a<h.length→¬x.eH a→h'[a]?=h[a]?)→(∀a,b.eH a→x.eH a∨h.length≤a)→Wp (f (b,h')) Q):Wp ((dM tab h aP aP x y).bind f) Q:=
 p8 (T:=tab) (i:=lR) (j:=fb) (id rfl) (id rfl) (id rfl) (by decide) e g l (k4 d (by omega)) k
@[simp] theorem k3 {a:Type} {f:a→List D} {l:List a} {d:D} (h:aU 11 f l d):aV tab cN d=some (.int .i64 l.length):=
 by
  rcases h with⟨rfl,rfl⟩|⟨b,rfl⟩
  ·rfl
  ·show some (D.int .i64 ((l.map f).length:Nat))=_;simp
theorem Li{h:Z}{n0 e z:Nat}{rows:List (List D)}{d:D}(a:Own h n0 e z rows d):aV tab cN d=some (.int .i64 rows.length):=by
 rcases a with⟨rfl,rfl⟩|⟨b,_,rfl,_⟩<;>rfl
@[simp] theorem KM(f:Bool)(rows:List (List D))(i:Int):aN tab cN (.sl 11 f rows) (.int .i64 i)=if 0≤i then(rows[i.toNat]?).map .aD else none:=by show(if 11=11∧0≤i then(match rows[i.toNat]? with|some b=>some (D.aD b)|none=>none)else none)=_;by_cases a:0≤i<;>simp[a]<;>cases rows[i.toNat]?<;>rfl
@[simp] theorem oY {a:Type} {f:a→List D} {l:List a} {d:D} (h:aU 11 f l d) (i:Int):aN tab cN d (.int .i64 i)=if 0≤i then(l[i.toNat]?).map λp =>.aD (f p)else none:=
 by
  rcases h with⟨rfl,rfl⟩|⟨b,rfl⟩
  ·show none=_;simp
  ·rw[KM];simp[mU]
@[simp] theorem mu {a:Type} {f:a→List D} {l:List a} {d:D} (h:aU 1 f l d):aV tab aP d=some (.int .i64 l.length):=
 by
  rcases h with⟨rfl,rfl⟩|⟨b,rfl⟩
  ·rfl
  ·show some (D.int .i64 ((l.map f).length:Nat))=_;simp
@[simp] theorem CS(z o r n:Nat):aV tab aP (.S z o r n)=some (.int .i64 n):=id rfl
@[simp] theorem Lh:aV tab aP .J=some (.int .i64 0):=id rfl
@[simp] theorem Co(f:Bool)(rows:List (List D))(i:Int):aN tab aP (.sl 1 f rows) (.int .i64 i)=if 0≤i then(rows[i.toNat]?).map .aD else none:=by show(if 1=1∧0≤i then(match rows[i.toNat]? with|some b=>some (D.aD b)|none=>none)else none)=_;by_cases a:0≤i<;>simp[a]<;>cases rows[i.toNat]?<;>rfl
@[simp] theorem mj(o r n:Nat)(i:Int):aN tab aP (.S 1 o r n) (.int .i64 i)=if 0≤i∧i<n then some (.ptr o (r+i.toNat) 0)else none:=by show(if 1=1∧0≤i∧i<n then some (D.ptr o (r+i.toNat) 0)else none)=_;simp
@[simp] theorem qQ {a:Type} {f:a→List D} {l:List a} {d:D} (h:aU 1 f l d) (i:Int):aN tab aP d (.int .i64 i)=if 0≤i then(l[i.toNat]?).map λp =>.aD (f p)else none:=
 by
  rcases h with⟨rfl,rfl⟩|⟨b,rfl⟩
  ·show none=_;simp
  ·rw[Co];simp[mU]
@[simp] theorem PT(o k f:Nat):aC tab iz 1 (.ptr o k f)=some (.ptr o k (f+1)):=id rfl
@[simp] theorem PS(o k f:Nat):aC tab iz 0 (.ptr o k f)=some (.ptr o k (f+0)):=id rfl
@[simp] theorem PY(h:Z)(o k f:Nat):aA tab h iQ (.ptr o k f)=(h.row o k).bind λrow=>(row.drop f).head?:=by show(match h.row o k with|some row=>_|none=>none)=_;cases h.row o k<;>rfl
@[simp] theorem PX(f:Bool)(rows:List (List D))(i:Int):aN tab iQ (.sl 1 f rows) (.int .i64 i)=if 0≤i then(rows[i.toNat]?).map .aD else none:=by show(if 1=1∧0≤i then(match rows[i.toNat]? with|some b=>some (D.aD b)|none=>none)else none)=_;by_cases a:0≤i<;>simp[a]<;>cases rows[i.toNat]?<;>rfl
@[simp] theorem xy(o r n:Nat)(i:Int):aN tab iQ (.S 1 o r n) (.int .i64 i)=if 0≤i∧i<n then some (.ptr o (r+i.toNat) 0)else none:=by show(if 1=1∧0≤i∧i<n then some (D.ptr o (r+i.toNat) 0)else none)=_;simp
@[simp] theorem CK(c:D)(cs:List D)(h:Z):aA tab h fJ (.aD (c::cs))=some c:=id rfl
@[simp] theorem Ld(h:Z)(o k f:Nat):aA tab h fJ (.ptr o k f)=(h.row o k).bind λrow=>(row.drop f).head?:=by show(match h.row o k with|some row=>_|none=>none)=_;cases h.row o k<;>rfl
@[simp] theorem Pw(k:IntKind)(n:Int):jF tab fJ W (.int k n)=some (.int .i64 (IntKind.wrap .i64 n)):=id rfl
@[simp] theorem AG(n0:Int)(a:Int):dZ tab bF [0,1] [.int .i64 n0,.int .i64 a]=some (.agg [.int .i64 n0,.int .i64 a,.str []]):=id rfl
@[simp] theorem AK(a b c:D):bI tab bB 1 [0] [.agg [a,b,c]]=some (.sl 3 true [[a,b,c]]):=id rfl
@[simp] theorem FT(a:List UInt8)(b c d e f g h i j k:D):dZ tab aI [0,1] [.str a,.agg [b,c,d,e,f,g,h,i,j,k]]=some (.agg [.str a,b,c,d,e,f,g,h,i,j,k]):=id rfl
theorem rD{h:Z}{o T V kk off:Nat}{rows:List (List D)}{row:List D}{v:D}(d:h[o]?=some (.row T V rows))(e:rows[kk]?=some row)(g:(cG v).length=10)(c:off+10≤row.length)(b:v.fk=true){a:Type}{f:Z→Option a}{Q:a→Prop}
  (k:∀h',h'[o]?=some (.row T V (rows.set kk (dK row off (cG v))))→bW o h h'→Wp (f h') Q):Wp ((bZ tab h aF (.ptr o kk off) v).bind f) Q:=
 by rw[show bZ tab h aF (.ptr o kk off) v=jl 10 h (.ptr o kk off) v from rfl];exact lQ d e g c b k
@[simp] theorem Lc(h:Z)(o k f:Nat):aA tab h aF (.ptr o k f)=(h.row o k).bind λrow=>mI 10 (row.drop f):=by show(match h.row o k with|some row=>_|none=>none)=_;cases h.row o k<;>rfl
@[simp] theorem Io(a:D)(cs:List D):aC tab aF 0 (.aD (a::cs))=some (.aD (a::cs)):=id rfl
@[simp] theorem PL(o k f:Nat):aC tab aF 0 (.ptr o k f)=some (.ptr o k (f+0)):=id rfl
@[simp] theorem FP(n0:Int)(a:Int)(b:Int)(c:Int):dZ tab aF [0,1,2,3] [.int .i64 n0,.int .i64 a,.int .i64 b,.int .i64 c]=some (.agg [.int .i64 n0,.int .i64 a,.int .i64 b,.int .i64 c,.J,.int .i64 0,.int .i64 0,.str [],.str [],.J]):=id rfl
@[simp] theorem BL(b a:D)(cs:List D):aC tab bF 1 (.aD (b::a::cs))=some (.aD (a::cs)):=id rfl
@[simp] theorem kU(o k f:Nat):aC tab bF 1 (.ptr o k f)=some (.ptr o k (f+1)):=id rfl
def qW:List (List UInt8):=[[115,97,109,112,108,101],[116,111,111,45,108,111,110,103],[114,49]]
@[simp] theorem Mc:bI tab dA 3 [0,1,2] [.str [115,97,109,112,108,101],.str [116,111,111,45,108,111,110,103],.str [114,49]]=some (.sl 1 true (qW.map λs=>[.str s])):=id rfl
@[simp] theorem kp(c:D)(cs:List D)(h:Z):aA tab h bL (.aD (c::cs))=some c:=id rfl
@[simp] theorem k0(h:Z)(o k f:Nat):aA tab h bL (.ptr o k f)=(h.row o k).bind λrow=>(row.drop f).head?:=by show(match h.row o k with|some row=>_|none=>none)=_;cases h.row o k<;>rfl
@[simp] theorem iv(s:List UInt8):aV tab bL (.str s)=some (.int .i64 s.length):=id rfl
@[simp] theorem PM(o k f:Nat):aC tab aF 5 (.ptr o k f)=some (.ptr o k (f+5)):=id rfl
@[simp] theorem PN(o k f:Nat):aC tab aF 6 (.ptr o k f)=some (.ptr o k (f+6)):=id rfl
@[simp] theorem PO(o k f:Nat):aC tab aF 7 (.ptr o k f)=some (.ptr o k (f+7)):=id rfl
@[simp] theorem PQ(o k f:Nat):aC tab aF 8 (.ptr o k f)=some (.ptr o k (f+8)):=id rfl
@[simp] theorem PR(o k f:Nat):aC tab aF 9 (.ptr o k f)=some (.ptr o k (f+9)):=id rfl
@[simp] theorem mq(c:D)(cs:List D)(h:Z):aA tab h bS (.aD (c::cs))=some c:=id rfl
@[simp] theorem PZ(h:Z)(o k f:Nat):aA tab h bS (.ptr o k f)=(h.row o k).bind λrow=>(row.drop f).head?:=by show(match h.row o k with|some row=>_|none=>none)=_;cases h.row o k<;>rfl
@[simp] theorem jX {a:Type} {f:a→List D} {l:List a} {d:D} (h:aU 2 f l d):aV tab bS d=some (.int .i64 l.length):=
 by
  rcases h with⟨rfl,rfl⟩|⟨b,rfl⟩
  ·rfl
  ·show some (D.int .i64 ((l.map f).length:Nat))=_;simp
@[simp] theorem CR(z o r n:Nat):aV tab bS (.S z o r n)=some (.int .i64 n):=id rfl
@[simp] theorem AL: bI tab aP 0 [] []=some (.sl 1 true []):=id rfl
@[simp] theorem KL(f:Bool)(rows:List (List D))(i:Int):aN tab gS (.sl 2 f rows) (.int .i64 i)=if 0≤i then(rows[i.toNat]?).map .aD else none:=by show(if 2=2∧0≤i then(match rows[i.toNat]? with|some b=>some (D.aD b)|none=>none)else none)=_;by_cases a:0≤i<;>simp[a]<;>cases rows[i.toNat]?<;>rfl
@[simp] theorem KP(o r n:Nat)(i:Int):aN tab gS (.S 2 o r n) (.int .i64 i)=if 0≤i∧i<n then some (.ptr o (r+i.toNat) 0)else none:=by show(if 2=2∧0≤i∧i<n then some (D.ptr o (r+i.toNat) 0)else none)=_;simp
@[simp] theorem Cs {a:Type} {f:a→List D} {l:List a} {d:D} (h:aU 2 f l d) (i:Int):aN tab gS d (.int .i64 i)=if 0≤i then(l[i.toNat]?).map λp =>.aD (f p)else none:=
 by
  rcases h with⟨rfl,rfl⟩|⟨b,rfl⟩
  ·show none=_;simp
  ·rw[KL];simp[mU]
@[simp] theorem Iq(o k f:Nat):aC tab fF 1 (.ptr o k f)=some (.ptr o k (f+1)):=id rfl
@[simp] theorem FR: dZ tab aI [] []=some (.agg [.str [],.int .i64 0,.int .i64 0,.int .i64 0,.int .i64 0,.J,.int .i64 0,.int .i64 0,.str [],.str [],.J]):=id rfl
@[simp] theorem xC(h:Z)(o k f:Nat):aA tab h aP (.ptr o k f)=(h.row o k).bind λrow=>(row.drop f).head?:=by show(match h.row o k with|some row=>_|none=>none)=_;cases h.row o k<;>rfl
def pa:List Int:=[1,1,2,5040]
@[simp] theorem LB:bI tab aP 4 [0,1,2,3] [.int .i64 1,.int .i64 1,.int .i64 2,.int .i64 5040]=some (.sl 1 true (pa.map λn=>[.int .i64 n])):=id rfl
def pc:List (List UInt8):=[[],[116,49],[116,50],[105,100]]
@[simp] theorem LC:bI tab dA 4 [0,1,2,3] [.str [],.str [116,49],.str [116,50],.str [105,100]]=some (.sl 1 true (pc.map λs=>[.str s])):=id rfl
def pd:List (List UInt8):=[[109,97,105,110],[97,117,100,105,116]]
@[simp] theorem LD:bI tab dA 2 [0,1] [.str [109,97,105,110],.str [97,117,100,105,116]]=some (.sl 1 true (pd.map λs=>[.str s])):=id rfl
@[simp] theorem FQ (n0:Int) (c:Int) (d:Int) (e:Int) (f:Int) (g:List UInt8) (h:List UInt8) (b:D) (j:b.one=true):dZ tab aF [0,1,2,5,6,7,8,9] [.int .i64 n0,.int .i64 c,.int .i64 d,.int .i64 e,.int .i64 f,.str g,.str h,b]=some (.agg [.int .i64 n0,.int .i64 c,.int .i64 d,.int .i64 0,.J,.int .i64 e,.int .i64 f,.str g,.str h,b]):=by
 have a:=po j;refine u3 (T:=tab) (i:=tN) (fs:=[(3,0,1),(3,1,1),(3,2,1),(3,3,1),(33,4,1),(3,5,1),(3,6,1),(9,7,1),(9,8,1),(34,9,1)]) (id rfl) (id rfl) ?_;rw[show tN.zero=[.int .i64 0,.int .i64 0,.int .i64 0,.int .i64 0,.J,.int .i64 0,.int .i64 0,.str [],.str [],.J]from id rfl];rw[kX (off:=0) (V:=1) (id rfl) (id rfl) (by simp[dK,kP,kQ,kO,kN]) (id rfl)];rw[kX (off:=1) (V:=1) (id rfl) (id rfl) (by simp[dK,kP,kQ,kO,kN]) (id rfl)];rw[kX (off:=2) (V:=1) (id rfl) (id rfl) (by simp[dK,kP,kQ,kO,kN]) (id rfl)];rw[kX (off:=5) (V:=1) (id rfl) (id rfl) (by simp[dK,kP,kQ,kO,kN]) (id rfl)];rw[kX (off:=6) (V:=1) (id rfl) (id rfl) (by simp[dK,kP,kQ,kO,kN]) (id rfl)];rw[kX (off:=7) (V:=1) (id rfl) (id rfl) (by simp[dK,kP,kQ,kO,kN]) (id rfl)];rw[kX (off:=8) (V:=1) (id rfl) (id rfl) (by simp[dK,kP,kQ,kO,kN]) (id rfl)];rw[kX (off:=9) (V:=1) (id rfl) (by rw[a.1];rfl) (by simp[dK,kP,kQ,kO,kN]) a.2,a.1];exact id rfl
@[simp] theorem CO(h:Z)(o k f:Nat):aA tab h bF (.ptr o k f)=(h.row o k).bind λrow=>mI 3 (row.drop f):=by show(match h.row o k with|some row=>_|none=>none)=_;cases h.row o k<;>rfl
theorem yA{h:Z}{o T V kk off:Nat}{rows:List (List D)}{row:List D}{v:D}(d:h[o]?=some (.row T V rows))(e:rows[kk]?=some row)(g:(cG v).length=3)(c:off+3≤row.length)(b:v.fk=true){a:Type}{f:Z→Option a}{Q:a→Prop}
  (k:∀h',h'[o]?=some (.row T V (rows.set kk (dK row off (cG v))))→bW o h h'→Wp (f h') Q):Wp ((bZ tab h bF (.ptr o kk off) v).bind f) Q:=
 by rw[show bZ tab h bF (.ptr o kk off) v=jl 3 h (.ptr o kk off) v from rfl];exact lQ d e g c b k
@[simp] theorem Lk {a:Type} {f:a→List D} {l:List a} {d:D} (h:aU 1 f l d):aV tab dA d=some (.int .i64 l.length):=
 by
  rcases h with⟨rfl,rfl⟩|⟨b,rfl⟩
  ·rfl
  ·show some (D.int .i64 ((l.map f).length:Nat))=_;simp
@[simp] theorem Lf(z:Nat)(f:Bool)(rows:List (List D)):aV tab dA (.sl z f rows)=some (.int .i64 rows.length):=id rfl
@[simp] theorem Cp(f:Bool)(rows:List (List D))(i:Int):aN tab dA (.sl 1 f rows) (.int .i64 i)=if 0≤i then(rows[i.toNat]?).map .aD else none:=by show(if 1=1∧0≤i then(match rows[i.toNat]? with|some b=>some (D.aD b)|none=>none)else none)=_;by_cases a:0≤i<;>simp[a]<;>cases rows[i.toNat]?<;>rfl
@[simp] theorem KQ {a:Type} {f:a→List D} {l:List a} {d:D} (h:aU 1 f l d) (i:Int):aN tab dA d (.int .i64 i)=if 0≤i then(l[i.toNat]?).map λp =>.aD (f p)else none:=
 by
  rcases h with⟨rfl,rfl⟩|⟨b,rfl⟩
  ·show none=_;simp
  ·rw[Cp];simp[mU]
@[simp] theorem PK(b c a:D)(cs:List D):aC tab bF 2 (.aD (b::c::a::cs))=some (.aD (a::cs)):=id rfl
@[simp] theorem kV(o k f:Nat):aC tab bF 2 (.ptr o k f)=some (.ptr o k (f+2)):=id rfl
@[simp] theorem Pv(a d:Int)(b e:Int)(c f:List UInt8):U tab .neq bF (.agg [.int .i64 a,.int .i64 b,.str c]) (.agg [.int .i64 d,.int .i64 e,.str f])=some (.bool (!(a==d&&(b==e&&(c==f&&true))))):=id rfl
@[simp] theorem KO(f:Bool)(rows:List (List D))(i:Int):aN tab bS (.sl 2 f rows) (.int .i64 i)=if 0≤i then(rows[i.toNat]?).map .aD else none:=by show(if 2=2∧0≤i then(match rows[i.toNat]? with|some b=>some (D.aD b)|none=>none)else none)=_;by_cases a:0≤i<;>simp[a]<;>cases rows[i.toNat]?<;>rfl
@[simp] theorem Cr(o r n:Nat)(i:Int):aN tab bS (.S 2 o r n) (.int .i64 i)=if 0≤i∧i<n then some (.ptr o (r+i.toNat) 0)else none:=by show(if 2=2∧0≤i∧i<n then some (D.ptr o (r+i.toNat) 0)else none)=_;simp
@[simp] theorem s5 {a:Type} {f:a→List D} {l:List a} {d:D} (h:aU 2 f l d) (i:Int):aN tab bS d (.int .i64 i)=if 0≤i then(l[i.toNat]?).map λp =>.aD (f p)else none:=
 by
  rcases h with⟨rfl,rfl⟩|⟨b,rfl⟩
  ·show none=_;simp
  ·rw[KO];simp[mU]
@[simp] theorem Lb(h:Z)(o k f:Nat):aA tab h bO (.ptr o k f)=(h.row o k).bind λrow=>mI 2 (row.drop f):=by show(match h.row o k with|some row=>_|none=>none)=_;cases h.row o k<;>rfl
@[simp] theorem Pu(a c:List UInt8)(b d:List UInt8):U tab .neq bO (.agg [.str a,.str b]) (.agg [.str c,.str d])=some (.bool (!(a==c&&(b==d&&true)))):=id rfl
@[simp] theorem CT {a:Type} {f:a→List D} {l:List a} {d:D} (h:aU 2 f l d):aV tab gS d=some (.int .i64 l.length):=
 by
  rcases h with⟨rfl,rfl⟩|⟨b,rfl⟩
  ·rfl
  ·show some (D.int .i64 ((l.map f).length:Nat))=_;simp
@[simp] theorem Lg(z o r n:Nat):aV tab gS (.S z o r n)=some (.int .i64 n):=id rfl
@[simp] theorem La(h:Z)(o k f:Nat):aA tab h fF (.ptr o k f)=(h.row o k).bind λrow=>mI 2 (row.drop f):=by show(match h.row o k with|some row=>_|none=>none)=_;cases h.row o k<;>rfl
@[simp] theorem FZ: bI tab bB 0 [] []=some (.sl 3 true []):=id rfl
def jY:List (List UInt8):=[[97],[105,100],[108,101,118,101,108],[117,115,101,114]]
@[simp] theorem LF:jY.length=4:=id rfl
@[simp] theorem LG:bI tab dA 4 [0,1,2,3] [.str [97],.str [105,100],.str [108,101,118,101,108],.str [117,115,101,114]]=some (.sl 1 true (jY.map λs=>[.str s])):=id rfl
def pe:List (List UInt8):=[[],[49],[105,110,102,111],[119,97,114,110],[97,110,110],[50,46,53,48],[116,114,117,101],[116,49]]
@[simp] theorem LH:bI tab dA 8 [0,1,2,3,4,5,6,7] [.str [],.str [49],.str [105,110,102,111],.str [119,97,114,110],.str [97,110,110],.str [50,46,53,48],.str [116,114,117,101],.str [116,49]]=some (.sl 1 true (pe.map λs=>[.str s])):=id rfl
@[simp] theorem FO(a:List UInt8)(b:List UInt8):dZ tab bO [0,1] [.str a,.str b]=some (.agg [.str a,.str b]):=id rfl
@[simp] theorem F1(a b:D):bI tab bS 1 [0] [.agg [a,b]]=some (.sl 2 true [[a,b]]):=id rfl
theorem Pd{h:Z}{n0:Nat}(e:n0≤h.length){rows:List (List D)}{x y:D}(g:Own h n0 bO 2 rows x){ys:List (List D)}(l:iq h 2 y=some ys)(d:(rows.length+ys.length)*32≤140737488355328){c:Type}{f:D × Z→Option c}{Q:c→Prop}
  (k:∀b h',Own h' n0 bO 2 (rows++ys) b→h.length≤h'.length→(∀a,a<n0→h'[a]?=h[a]?)→(∀a,a<h.length→¬x.eH a→h'[a]?=h[a]?)→(∀a,b.eH a→x.eH a∨h.length≤a)→Wp (f (b,h')) Q):Wp ((dM tab h bS bS x y).bind f) Q:=
 p8 (T:=tab) (i:=tM) (j:=ry) (id rfl) (id rfl) (id rfl) (by decide) e g l (k4 d (by omega)) k
theorem Pl{h:Z}{o T V kk off:Nat}{rows:List (List D)}{row:List D}{v:D}(d:h[o]?=some (.row T V rows))(e:rows[kk]?=some row)(g:(cG v).length=1)(c:off+1≤row.length)(b:v.fk=true){a:Type}{f:Z→Option a}{Q:a→Prop}
  (k:∀h',h'[o]?=some (.row T V (rows.set kk (dK row off (cG v))))→bW o h h'→Wp (f h') Q):Wp ((bZ tab h bL (.ptr o kk off) v).bind f) Q:=
 by rw[show bZ tab h bL (.ptr o kk off) v=jl 1 h (.ptr o kk off) v from rfl];exact lQ d e g c b k
theorem EE{h:Z}{o T V kk off:Nat}{rows:List (List D)}{row:List D}{v:D}(d:h[o]?=some (.row T V rows))(e:rows[kk]?=some row)(g:(cG v).length=2)(c:off+2≤row.length)(b:v.fk=true){a:Type}{f:Z→Option a}{Q:a→Prop}
  (k:∀h',h'[o]?=some (.row T V (rows.set kk (dK row off (cG v))))→bW o h h'→Wp (f h') Q):Wp ((bZ tab h bO (.ptr o kk off) v).bind f) Q:=
 by rw[show bZ tab h bO (.ptr o kk off) v=jl 2 h (.ptr o kk off) v from rfl];exact lQ d e g c b k
@[simp] theorem Ir(o k f:Nat):aC tab bO 0 (.ptr o k f)=some (.ptr o k (f+0)):=id rfl
@[simp] theorem PJ(b a:D)(cs:List D):aC tab bO 1 (.aD (b::a::cs))=some (.aD (a::cs)):=id rfl
def LI:List (List UInt8):=[[49],[50],[57]]
@[simp] theorem LJ:bI tab dA 3 [0,1,2] [.str [49],.str [50],.str [57]]=some (.sl 1 true (LI.map λs=>[.str s])):=id rfl
def LK:List (List UInt8):=[[48],[53]]
@[simp] theorem LL:bI tab dA 2 [0,1] [.str [48],.str [53]]=some (.sl 1 true (LK.map λs=>[.str s])):=id rfl
def LM:List (List UInt8):=[[49],[50]]
@[simp] theorem LN:bI tab dA 2 [0,1] [.str [49],.str [50]]=some (.sl 1 true (LM.map λs=>[.str s])):=id rfl
def LO:List (List UInt8):=[[105,110,102,111],[119,97,114,110]]
@[simp] theorem LP:bI tab dA 2 [0,1] [.str [105,110,102,111],.str [119,97,114,110]]=some (.sl 1 true (LO.map λs=>[.str s])):=id rfl
def LQ:List (List UInt8):=[[55],[116,49],[116,50]]
@[simp] theorem LR:bI tab dA 3 [0,1,2] [.str [55],.str [116,49],.str [116,50]]=some (.sl 1 true (LQ.map λs=>[.str s])):=id rfl
def LS:List (List UInt8):=[[105,110,102,111],[119,97,114,110],[100,101,98,117,103]]
@[simp] theorem LU:bI tab dA 3 [0,1,2] [.str [105,110,102,111],.str [119,97,114,110],.str [100,101,98,117,103]]=some (.sl 1 true (LS.map λs=>[.str s])):=id rfl
def LV:List (List UInt8):=[[97,110,110],[98,111,98]]
@[simp] theorem LW:bI tab dA 2 [0,1] [.str [97,110,110],.str [98,111,98]]=some (.sl 1 true (LV.map λs=>[.str s])):=id rfl
def LX:List (List UInt8):=[[49,48,46,50],[49,48,46,51],[55,46,55]]
@[simp] theorem LY:bI tab dA 3 [0,1,2] [.str [49,48,46,50],.str [49,48,46,51],.str [55,46,55]]=some (.sl 1 true (LX.map λs=>[.str s])):=id rfl
def LZ:List (List UInt8):=[[102],[103]]
@[simp] theorem L0:bI tab dA 2 [0,1] [.str [102],.str [103]]=some (.sl 1 true (LZ.map λs=>[.str s])):=id rfl
def L1:List (List UInt8):=[[40,49,41],[40,50,50,41]]
@[simp] theorem L2:bI tab dA 2 [0,1] [.str [40,49,41],.str [40,50,50,41]]=some (.sl 1 true (L1.map λs=>[.str s])):=id rfl
def L3:List (List UInt8):=[[97,110,110],[98,111,98],[101,118,101]]
@[simp] theorem L4:bI tab dA 3 [0,1,2] [.str [97,110,110],.str [98,111,98],.str [101,118,101]]=some (.sl 1 true (L3.map λs=>[.str s])):=id rfl
def L5:List (List UInt8):=[[105,110],[111,117,116]]
@[simp] theorem L6:bI tab dA 2 [0,1] [.str [105,110],.str [111,117,116]]=some (.sl 1 true (L5.map λs=>[.str s])):=id rfl
def L7:List (List UInt8):=[[49],[45,50,48],[116,114,117,101]]
@[simp] theorem L8:bI tab dA 3 [0,1,2] [.str [49],.str [45,50,48],.str [116,114,117,101]]=some (.sl 1 true (L7.map λs=>[.str s])):=id rfl
def L9:List (List UInt8):=[[111,107],[102,97,105,108,101,100]]
@[simp] theorem Ma:bI tab dA 2 [0,1] [.str [111,107],.str [102,97,105,108,101,100]]=some (.sl 1 true (L9.map λs=>[.str s])):=id rfl
@[simp] theorem F0: bI tab bS 0 [] []=some (.sl 2 true []):=id rfl
def C5:List (List UInt8):=[[97],[98],[32],[49],[117,115,101,114],[61],[34],[55],[46],[44],[120,32,121],[49,48,46,50],[45],[195,169],[91],[105,100],[9],[58]]
@[simp] theorem Mb:bI tab dA 18 [0,1,2,3,4,5,6,7,8,9,10,11,12,13,14,15,16,17] [.str [97],.str [98],.str [32],.str [49],.str [117,115,101,114],.str [61],.str [34],.str [55],.str [46],.str [44],.str [120,32,121],.str [49,48,46,50],.str [45],.str [195,169],.str [91],.str [105,100],.str [9],.str [58]]=some (.sl 1 true (C5.map λs=>[.str s])):=id rfl
theorem EF{h:Z}{o T V kk off:Nat}{rows:List (List D)}{row:List D}{v:D}(d:h[o]?=some (.row T V rows))(e:rows[kk]?=some row)(g:(cG v).length=1)(c:off+1≤row.length)(b:v.fk=true){a:Type}{f:Z→Option a}{Q:a→Prop}
  (k:∀h',h'[o]?=some (.row T V (rows.set kk (dK row off (cG v))))→bW o h h'→Wp (f h') Q):Wp ((bZ tab h aP (.ptr o kk off) v).bind f) Q:=
 by rw[show bZ tab h aP (.ptr o kk off) v=jl 1 h (.ptr o kk off) v from rfl];exact lQ d e g c b k
@[simp] theorem FN(n0:Int)(a:Int):dZ tab fF [0,1] [.int .i64 n0,.int .i64 a]=some (.agg [.int .i64 n0,.int .i64 a]):=id rfl
@[simp] theorem FY(a b:D):bI tab gS 1 [0] [.agg [a,b]]=some (.sl 2 true [[a,b]]):=id rfl
theorem Pc{h:Z}{n0:Nat}(e:n0≤h.length){rows:List (List D)}{x y:D}(g:Own h n0 fF 2 rows x){ys:List (List D)}(l:iq h 2 y=some ys)(d:(rows.length+ys.length)*16≤140737488355328){c:Type}{f:D × Z→Option c}{Q:c→Prop}
  (k:∀b h',Own h' n0 fF 2 (rows++ys) b→h.length≤h'.length→(∀a,a<n0→h'[a]?=h[a]?)→(∀a,a<h.length→¬x.eH a→h'[a]?=h[a]?)→(∀a,b.eH a→x.eH a∨h.length≤a)→Wp (f (b,h')) Q):Wp ((dM tab h gS gS x y).bind f) Q:=
 p8 (T:=tab) (i:=yr) (j:=yt) (id rfl) (id rfl) (id rfl) (by decide) e g l (k4 d (by omega)) k
@[simp] theorem AF (b:D) (c:b.one=true):dZ tab dR [1] [b]=some (.agg [.J,b]):=by
 have a:=po c;refine u3 (T:=tab) (i:=tL) (fs:=[(25,0,1),(25,1,1)]) (id rfl) (id rfl) ?_;rw[show tL.zero=[.J,.J]from id rfl];rw[kX (off:=1) (V:=1) (id rfl) (by rw[a.1];rfl) (by simp[dK,kP,kQ,kO,kN]) a.2,a.1];exact id rfl
@[simp] theorem Ci(d:D)(xs:List D)(h:Z):gk tab R "Len" (.iface iZ d::xs) h=R qC (d::xs) h:=by kernel_rfl
@[simp] theorem qN(d:D)(xs:List D)(h:Z):gk tab R "Less" (.iface iZ d::xs) h=R vK (d::xs) h:=by kernel_rfl
@[simp] theorem KH(d:D)(xs:List D)(h:Z):gk tab R "Pop" (.iface iZ d::xs) h=R sL (d::xs) h:=by kernel_rfl
@[simp] theorem KI(d:D)(xs:List D)(h:Z):gk tab R "Push" (.iface iZ d::xs) h=R sM (d::xs) h:=by kernel_rfl
@[simp] theorem qO(d:D)(xs:List D)(h:Z):gk tab R "Swap" (.iface iZ d::xs) h=R qD (d::xs) h:=by kernel_rfl
end Go.Proofs.YtinlnkhheafjaaaDoor
