/- Part 3 of the texts that the theorem needs: an interpreter on data, proved sound; the functions on data; laws about them. -/
import Derived.Test.YtinlnkhheafjaaaDoorM2
import Derived.Lib.Bytealg
import Derived.Laws.Externs
import Derived.Test.YtinlnkhheafjaaaDoorM1
import Derived.ProofKit
import Derived.OpenShut
import Derived.Below
import Derived.Deep.Slices
import Derived.MakeChecks
import Derived.FnData
import Derived.ChangeArms
import Derived.Maps.RangeWalk
import Derived.Test.YtinlnkhheafjaaaDoorChecked
import Derived.KernelRfl
set_option linter.unusedSimpArgs false
set_option linter.unusedVariables false
set_option linter.unnecessarySimpa false
set_option maxHeartbeats 2000000
set_option maxRecDepth 100000
namespace Go.Eng
abbrev jO:=@Classical.choose_spec
end Go.Eng
namespace Go.Pi
open Go.Eng
noncomputable def eH(X:Cx)(F:FuncId→Option eT):Nat→bV
 |0,_,_,_=>none
 | n+1,f,args,h=>match F f with
  |some fi=>jy X (eH X F n) (fm n) fi args h
  |none=>X.xt f args h
section
variable {P:Program} {X:Cx} {F:FuncId→Option eT}
theorem HV(n:Nat):mE (fm n):=λ_ _ _ _ a=>⟨n,a⟩
theorem yk(c:bQ P X.T)(i:P.follows .mixedOrders=true)(j:fy P X X.xt)(b:∀f fi,F f=some fi→bM P f fi):∀n,fy P X (eH X F n)
 |0=>λf args h d h' a=>by cases a
 | n+1=>λf args h d h' a=>by
  simp only[eH]at a;split at a
  ·rename_i fi e;exact λg vs hi k l =>.inl ⟨(b f fi e).enter _ _,Gc c i (yk c i j b n) (HV n) (b f fi e) a hi k l⟩
  ·exact j f args h d h' a
def Le{b:Type}(x y:Option b):Prop:=∀a,x=some a→y=some a
theorem Le.refl{b:Type}(x:Option b):Le x x:=λ_ a=>a
theorem Le.trans{c:Type}{x y z:Option c}(h:Le x y)(k:Le y z):Le x z:=λa b=>k a (h a b)
theorem Le.bind{b j:Type}{x y:Option b}{f g:b→Option j}(h:Le x y)(k:∀a,Le (f a) (g a)):Le (x.bind f) (y.bind g):=λi e=>by
 obtain⟨a,c,d⟩:=gu.1 e;rw[h a c];exact k a i d
def iy(c d:bV):Prop:=∀a args b,Le (c a args b) (d a args b)
def p0(l e:hH):Prop:=∀(c d:List D→Z→Option bP),(∀a b,Le (c a b) (d a b))→∀a b,Le (l c a b) (e d a b)
theorem C5{c b:bV}(d:iy c b)(f:FuncId)(args:List D)(h:Z):Le (ju c f args h) (ju b f args h):=λj a=>by
 unfold ju at a ⊢;split at a
 ·rename_i g i e;rw[d _ _ _ _ e];exact a
 ·cases a
theorem Dd{c b:bV}(a:iy c b)(d:Nat)(f:FuncId)(args:List D)(h:Z):Le (calls d c f args h) (calls d b f args h):=by
 unfold calls;split
 ·exact a _ _ _
 ·exact C5 a _ _ _
 ·exact a _ _ _
theorem C8{T:aZ}{c a:bV}(b:iy c a)(m:String)(ds:List D)(h:Z):Le (fK T c m ds h) (fK T a m ds h):=by
 unfold fK;split
 ·split
  ·exact b _ _ _
  ·exact Le.refl _
 ·exact Le.refl _
theorem yl{T:aZ}{c a:bV}(b:iy c a)(d:Nat)(o:Op)(ds:List D)(h:Z):Le (iH T c d o ds h) (iH T a d o ds h):=by
 unfold iH;simp only[tN];split
 ·split
  ·split
   ·exact Dd b _ _ _ _
   ·exact Le.refl _
  ·exact C8 b _ _ _
  ·exact Le.refl _
 ·exact Le.refl _
theorem Gq{g:D}{b:Bool}{h:Z}{x y:Option (D × Z)}(c:Le x y):Le (eQ g b h x) (eQ g b h y):=λd a=>by
 unfold eQ at a ⊢;split at a
 ·split at a
  ·exact c d a
  ·exact a
 ·exact a
 ·cases a
theorem Ji{c b:bV}(d:iy c b){fz a:List Nat}{l:List Oper}{o:Oper}{e:DE}{h:Z}:Le (fx X c fz a l o e h) (fx X b fz a l o e h):=by
 unfold fx;split
 ·exact Le.refl _
 ·split
  ·split
   ·exact Le.refl _
   ·exact Le.refl _
   ·exact Le.refl _
   ·exact yl d _ _ _ _
   ·exact Le.refl _
  ·split
   ·exact Le.refl _
   ·split
    ·exact Le.refl _
    ·split
     ·exact Le.refl _
     ·exact Le.refl _
     ·exact Le.refl _
     ·exact Gq (yl d _ _ _ _)
     ·exact Le.refl _
theorem AQ{R:Type}{f:Nat}{dst:Option Nat}{d:D}{e:DE}{h:Z}{a b:DE→Z→Option R}(c:∀e h,Le (a e h) (b e h)):Le (gk f dst d e h a) (gk f dst d e h b):=by
 unfold gk;split
 ·exact c _ _
 ·split
  ·exact c _ _
  ·exact Le.refl _
theorem vq{R:Type}{c f:bV}(j:iy c f){g:Nat}{fz d:List Nat}{l:List Oper}{o:Oper}{e:DE}{h:Z}{a b:DE→Z→Option R}(i:∀e h,Le (a e h) (b e h)):Le (iQ X c g fz d l o e h a) (iQ X f g fz d l o e h b):=by
 rw[q6,q6];exact(Ji j).bind λk=>AQ i
theorem rp{R:Type}{c i:bV}(f:iy c i){j:Nat}{fz g:List Nat}{l:List Oper}:∀{k:List Oper} {e:DE} {h:Z} {b d:DE→Z→Option R},(∀e h,Le (b e h) (d e h))→Le (fR X c j fz g l k e h b) (fR X i j fz g l k e h d)
 |[],e,h,b,d,a=>a e h
 |[o],e,h,b,d,a=>vq f a
 | o::p::r,e,h,b,d,a=>by
  simp only[fR];split
  ·split
   ·exact(Le.refl _).bind λm=>AQ λe h=>rp f a
   ·exact Le.refl _
  ·exact vq f λe h=>rp f a
theorem Bj{R:Type}{c i:bV}(j:iy c i){k:Nat}{fz g:List Nat}{l:List Oper}:∀{m:List Oper} {e:DE} {h:Z} {a:List Z} {b d:DE→Z→List Z→Option R},(∀e h a,Le (b e h a) (d e h a))→Le (kl X c k fz g l m e h a b) (kl X i k fz g l m e h a d)
 |[],e,h,a,b,d,f=>f e h a
 |o::r,e,h,a,b,d,f=>vq j λe h=>Bj j f
theorem yo{R:Type}{l:List Oper}{e:DE}{b:List Z}{x y:Option R}(h:Le x y):∀{ps:List (Nat × Nat)},Le (jv X l e b ps x) (jv X l e b ps y)
 |[]=>h
 | (i, k)::r=>λz a=>by
  simp only[jv]at a ⊢;split at a
  ·unfold eD at a ⊢;split at a
   ·rename_i c;rw[bN c];exact yo h z a
   ·cases a
  ·cases a
theorem vN{R:Type}{fz:List Nat}:∀{d:List Oper} {e:DE} {h:Z} {a b:DE→Z→Option R},(∀e h,Le (a e h) (b e h))→Le (iq X fz d e h a) (iq X fz d e h b)
 |[],e,h,a,b,c=>c e h
 | o::r,e,h,a,b,c=>by
  unfold iq;split
  ·split
   ·exact vN c
   ·exact Le.refl _
  ·exact vN c
theorem DY{R:Type}{c f:bV}(g:iy c f){i:Nat}{fz d:List Nat}{m:Nat}{l:List Oper}{e:DE}{h:Z}{a b:DE→Z→Option R}(j:∀e h,Le (a e h) (b e h)):Le (j5 X c i fz d m l e h a) (j5 X f i fz d m l e h b):=by
 unfold j5;split
 ·exact Le.refl _
 ·exact Bj g λe h k=>yo (vN λe h=>rp g j)
theorem yA{R:Type}{d:D}{x a y b:Option R}(c:Le x a)(e:Le y b):Le (aI d x y) (aI d a b):=by
 unfold aI;split
 ·exact c
 ·exact e
 ·exact Le.refl _
theorem C3{c m:bV}(n:iy c m){o p:hH}(t:p0 o p){l:lv}:∀(k:Code) {e:DE} {h:Z} {R:Type} {b d:Ex→DE→Z→Option R},(∀x e h,Le (b x e h) (d x e h))→Le (cK X c o l k e h R b) (cK X m p l k e h R d):=by
 intro k
 induction k with
 |skip=>intro e h R b d a;exact a _ _ _
 |label v=>intro e h R b d a;exact a _ _ _
 |ret=>intro e h R b d a;exact a _ _ _
 |exit u=>intro e h R b d a;exact a _ _ _
 |goto v=>intro e h R b d a;exact Le.refl _
 |scope f g=>intro e h R b d a;exact Le.refl _
 |refuse F=>intro e h R b d a;exact Le.refl _
 |rangeFunc z D w f A B=>intro e h R b d a;exact Le.refl _
 | region id C s =>
  intro e h R b d a;simp only[cK];cases s with
  |false=>exact rp n λe h=>a _ _ _
  |true=>exact DY n λe h=>a _ _ _
 | seq r f i j =>
  intro e h R b d a;simp only[cK];refine i λx e h=>?_
  cases x with
  |aO=>exact j a
  |ext u=>exact a _ _ _
  |ret=>exact a _ _ _
 | cond E r f i j =>
  intro e h R b d a;simp only[cK];split
  ·exact Le.refl _
  ·split
   ·exact(yA (i λ_ _ _=>Le.refl _) (j λ_ _ _=>Le.refl _)).bind λq=>a _ _ _
   ·exact yA (i a) (j a)
 | block id f g =>
  intro e h R b d a;simp only[cK];split
  ·exact(g λ_ _ _=>Le.refl _).bind λq=>a _ _ _
  ·exact g λx e h=>a _ _ _
 | loop f g =>
  intro e h R b d a;simp only[cK];exact(t _ _ (λy h=>g λ_ _ _=>Le.refl _) _ _).bind λq=>a _ _ _
theorem oW:∀{n m:Nat},n≤m→p0 (fm n) (fm m)
 |0,m,_=>λb c a ds h r e=>by cases e
 |n+1,0,h=>by omega
 | n+1,m+1,h=>λb c a ds d=>by
  simp only[fm];refine(a ds d).bind λr=>?_
  split
  ·exact oW (by omega) b c a _ _
  ·exact Le.refl _
theorem zn{c a:bV}(e:iy c a){b d:hH}(f:p0 b d){fi:eT}{args:List D}{h:Z}:Le (jy X c b fi args h) (jy X a d fi args h):=by
 unfold jy;split
 ·exact C3 e f _ λ_ _ _=>Le.refl _
 ·exact Le.refl _
theorem qi:∀{n m:Nat},n≤m→iy (eH X F n) (eH X F m)
 |0,m,_=>λf args h r a=>by cases a
 |n+1,0,h=>by omega
 | n+1,m+1,h=>λf args b=>by
  simp only[eH];split
  ·exact zn (qi (by omega)) (oW (by omega))
  ·exact Le.refl _
open Classical in
noncomputable def run(X:Cx)(F:FuncId→Option eT):bV:=λa args b=>if c:∃d e,eH X F d a args b=some e then some (Classical.choose (jO c))else none
open Classical in
noncomputable def bZ:hH:=λa b c=>if d:∃e f,fm e a b c=some f then some (Classical.choose (jO d))else none
theorem ny{f:FuncId}{args:List D}{h:Z}{r:D × Z}:run X F f args h=some r↔∃n,eH X F n f args h=some r:=by
 unfold run;constructor
 ·intro b;split at b
  ·rename_i a;injection b with b;exact⟨_,by rw[jO (jO a),b]⟩
  ·cases b
 ·rintro⟨n,d⟩;have a:∃n r,eH X F n f args h=some r:=⟨n,r,d⟩
  rw[dif_pos a];have e:=jO (jO a);have g:=qi (Nat.le_max_left (Classical.choose a) n) f args h _ e;have c:=qi (Nat.le_max_right (Classical.choose a) n) f args h _ d;rw[g]at c;exact c
theorem k9{a:List D→Z→Option bP}{ds:List D}{h:Z}{r:bP}:bZ a ds h=some r↔∃n,fm n a ds h=some r:=by
 unfold bZ;constructor
 ·intro c;split at c
  ·rename_i b;injection c with c;exact⟨_,by rw[jO (jO b),c]⟩
  ·cases c
 ·rintro⟨n,e⟩;have b:∃n r,fm n a ds h=some r:=⟨n,r,e⟩
  rw[dif_pos b];have f:=jO (jO b);have g:=oW (Nat.le_max_left (Classical.choose b) n) a a (λ_ _=>Le.refl _) ds h _ f;have d:=oW (Nat.le_max_right (Classical.choose b) n) a a (λ_ _=>Le.refl _) ds h _ e;rw[g]at d;exact d
theorem AG{c:Type}{x y:Option c}(b:Le x y)(h2:Le y x):x=y:=by
 cases x with
 |some a=>exact(b a rfl).symm
 | none =>
  cases y with
  |none=>rfl
  |some a=>exact h2 a rfl
theorem ik(g:List D→Z→Option bP)(ds:List D)(h:Z):bZ g ds h=(g ds h).bind λr=>match r.1 with
  |.aO=>bZ g r.2.1 r.2.2
  |x=>some (x,r.2.1,r.2.2):=by
 refine AG (λr i=>?_) (λr i=>?_)
 ·obtain⟨e,d⟩:=k9.1 i;cases e with
  |zero=>cases d
  | succ e =>
   simp only[fm]at d;obtain⟨j,f,a⟩:=gu.1 d;rw[f,gM];split at a
   ·rename_i b;rw[b];exact k9.2 ⟨e,a⟩
   ·rename_i b;cases c:j.1 with
    |aO=>exact absurd c b
    |ext k=>rw[c]at a;exact a
    |ret=>rw[c]at a;exact a
 ·obtain⟨j,f,a⟩:=gu.1 i;split at a
  ·rename_i b;obtain⟨e,d⟩:=k9.1 a;refine k9.2 ⟨e+1,?_⟩;simp only[fm,f,gM,b];exact d
  ·rename_i b;refine k9.2 ⟨1,?_⟩;simp only[fm,f,gM];cases c:j.1 with
   |aO=>exact absurd c b
   |ext k=>rw[c]at a;exact a
   |ret=>rw[c]at a;exact a
def bK{c:Type}(x:Option c)(xs:Nat→Option c):Prop:=∀b,x=some b→∃d,∀a,d≤a→xs a=some b
theorem bK.const{b:Type}(x:Option b):bK x λ_=>x:=λc a=>⟨0,λ_ _=>a⟩
theorem bK.bind{c d:Type}{x:Option c}{xs:Nat→Option c}{f:c→Option d}{fs:Nat→c→Option d}(h:bK x xs)(k:∀a,bK (f a) λn=>fs n a):bK (x.bind f) λn=>(xs n).bind (fs n):=λo l=>by
 obtain⟨a,e,g⟩:=gu.1 l;obtain⟨n,j⟩:=h a e;obtain⟨m,i⟩:=k a o g;exact⟨max n m,λb p=>by
  show(xs b).bind (fs b)=_;rw[j b (by omega),gM];exact i b (by omega)⟩
theorem rj(f:FuncId)(args:List D)(h:Z):bK (run X F f args h) λn=>eH X F n f args h:=λd c=>by
 obtain⟨n,b⟩:=ny.1 c;exact⟨n,λe a=>qi a f args h d b⟩
theorem C7(f:FuncId)(args:List D)(h:Z):bK (ju (run X F) f args h) λn=>ju (eH X F n) f args h:=λj a=>by
 unfold ju at a;split at a
 ·rename_i g i b;obtain⟨n,d⟩:=rj _ _ _ _ b;exact⟨n,λe c=>by show ju _ _ _ _=_;unfold ju;have:=d e c;simp only at this;rw[this];exact a⟩
 ·cases a
theorem Df(a:Nat)(f:FuncId)(args:List D)(h:Z):bK (calls a (run X F) f args h) λn=>calls a (eH X F n) f args h:=by
 unfold calls;split
 ·exact rj _ _ _
 ·exact C7 _ _ _
 ·exact rj _ _ _
theorem C9{T:aZ}(m:String)(ds:List D)(h:Z):bK (fK T (run X F) m ds h) λn=>fK T (eH X F n) m ds h:=by
 unfold fK;split
 ·split
  ·exact rj _ _ _
  ·exact bK.const _
 ·exact bK.const _
theorem ym{T:aZ}(a:Nat)(o:Op)(ds:List D)(h:Z):bK (iH T (run X F) a o ds h) λn=>iH T (eH X F n) a o ds h:=by
 unfold iH;simp only[tN];split
 ·split
  ·split
   ·exact Df _ _ _ _
   ·exact bK.const _
  ·exact C9 _ _ _
  ·exact bK.const _
 ·exact bK.const _
theorem Gr{g:D}{b:Bool}{h:Z}{x:Option (D × Z)}{xs:Nat→Option (D × Z)}(a:bK x xs):bK (eQ g b h x) λn=>eQ g b h (xs n):=by
 unfold eQ;split
 ·split
  ·exact a
  ·exact bK.const _
 ·exact bK.const _
 ·exact bK.const _
theorem Jj{fz a:List Nat}{l:List Oper}{o:Oper}{e:DE}{h:Z}:bK (fx X (run X F) fz a l o e h) λn=>fx X (eH X F n) fz a l o e h:=by
 unfold fx;split
 ·exact bK.const _
 ·split
  ·split
   ·exact bK.const _
   ·exact bK.const _
   ·exact bK.const _
   ·exact ym _ _ _ _
   ·exact bK.const _
  ·split
   ·exact bK.const _
   ·split
    ·exact bK.const _
    ·split
     ·exact bK.const _
     ·exact bK.const _
     ·exact bK.const _
     ·exact Gr (ym _ _ _ _)
     ·exact bK.const _
section
variable {R:Type}
theorem AR{c:Nat}{dst:Option Nat}{d:D}{e:DE}{h:Z}{a:DE→Z→Option R}{Ks:Nat→DE→Z→Option R}(b:∀e h,bK (a e h) λn=>Ks n e h):bK (gk c dst d e h a) λn=>gk c dst d e h (Ks n):=by
 unfold gk;split
 ·exact b _ _
 ·split
  ·exact b _ _
  ·exact bK.const _
theorem vr{c:Nat}{fz b:List Nat}{l:List Oper}{o:Oper}{e:DE}{h:Z}{a:DE→Z→Option R}{Ks:Nat→DE→Z→Option R}(d:∀e h,bK (a e h) λn=>Ks n e h):bK (iQ X (run X F) c fz b l o e h a) λn=>iQ X (eH X F n) c fz b l o e h (Ks n):=by
 simp only[q6];exact Jj.bind λf=>AR d
theorem ru{d:Nat}{fz c:List Nat}{l:List Oper}:∀{i:List Oper} {e:DE} {h:Z} {b:DE→Z→Option R} {Ks:Nat→DE→Z→Option R},(∀e h,bK (b e h) λn=>Ks n e h)→bK (fR X (run X F) d fz c l i e h b) λn=>fR X (eH X F n) d fz c l i e h (Ks n)
 |[],e,h,b,Ks,a=>a e h
 |[o],e,h,b,Ks,a=>vr a
 | o::p::r,e,h,b,Ks,a=>by
  simp only[fR];split
  ·split
   ·exact(bK.const _).bind λj=>AR (Ks:=λn f g=>fR X (eH X F n) d fz c l r f g (Ks n)) λe h=>ru a
   ·exact bK.const _
  ·exact vr (Ks:=λn f g=>fR X (eH X F n) d fz c l (p::r) f g (Ks n)) λe h=>ru a
theorem Bk{f:Nat}{fz c:List Nat}{l:List Oper}:∀{i:List Oper} {e:DE} {h:Z} {a:List Z} {b:DE→Z→List Z→Option R} {Ks:Nat→DE→Z→List Z→Option R},(∀e h a,bK (b e h a) λn=>Ks n e h a)→bK (kl X (run X F) f fz c l i e h a b) λn=>kl X (eH X F n) f fz c l i e h a (Ks n)
 |[],e,h,a,b,Ks,d=>d e h a
 | o::r,e,h,a,b,Ks,d=>vr (Ks:=λn j g=>kl X (eH X F n) f fz c l r j g (match fO X.T fz o with
  |true=>a++[g]
  |false=>a) (Ks n)) λe h=>Bk d
theorem yq{l:List Oper}{e:DE}{a:List Z}{x:Option R}{xs:Nat→Option R}(h:bK x xs):∀{ps:List (Nat × Nat)},bK (jv X l e a ps x) λn=>jv X l e a ps (xs n)
 |[]=>h
 | (i,k)::r=>by
  simp only[jv];split
  ·unfold eD;split
   ·exact yq h
   ·exact bK.const _
  ·exact bK.const _
theorem vO{fz:List Nat}:∀{c:List Oper} {e:DE} {h:Z} {a:DE→Z→Option R} {Ks:Nat→DE→Z→Option R},(∀e h,bK (a e h) λn=>Ks n e h)→bK (iq X fz c e h a) λn=>iq X fz c e h (Ks n)
 |[],e,h,a,Ks,b=>b e h
 | o::r,e,h,a,Ks,b=>by
  unfold iq;split
  ·split
   ·exact vO b
   ·exact bK.const _
  ·exact vO b
theorem D0{b:Nat}{fz a:List Nat}{m:Nat}{l:List Oper}{e:DE}{h:Z}{f:DE→Z→Option R}{Ks:Nat→DE→Z→Option R}(k:∀e h,bK (f e h) λn=>Ks n e h):bK (j5 X (run X F) b fz a m l e h f) λn=>j5 X (eH X F n) b fz a m l e h (Ks n):=by
 unfold j5;split
 ·exact bK.const _
 ·exact Bk (Ks:=λn g j i=>jv X l g i (rH X.T fz m l) (iq X fz (l.take m) g j λc d=>fR X (eH X F n) b fz a l (l.drop m) c d (Ks n))) λe h i=>yq (vO (Ks:=λn c d=>fR X (eH X F n) b fz a l (l.drop m) c d (Ks n)) λe h=>ru k)
theorem yB{d:D}{x y:Option R}{xs ys:Nat→Option R}(a:bK x xs)(b:bK y ys):bK (aI d x y) λn=>aI d (xs n) (ys n):=by
 unfold aI;split
 ·exact a
 ·exact b
 ·exact bK.const _
end
theorem HZ{b:List D→Z→Option bP}{O:Nat→List D→Z→Option bP}(s:∀ds h,bK (b ds h) λn=>O n ds h)(ds:List D)(h:Z):bK (bZ b ds h) λn=>fm n (O n) ds h:=λg f=>by
 obtain⟨d,t⟩:=k9.1 f;have y:∀(d:Nat) (ds:List D) (h:Z) (g:bP),fm d b ds h=some g→∃n,∀c a,n≤c→d≤a→fm a (O c) ds h=some g:=by
  intro d
  induction d with
  |zero=>intro ds h g f;cases f
  | succ d x =>
   intro ds h g f;simp only[fm]at f;obtain⟨q,r,e⟩:=gu.1 f;obtain⟨p,o⟩:=s ds h q r;split at e
   ·rename_i j;obtain⟨z,v⟩:=x _ _ _ e;refine⟨max p z,λc a m w=>?_⟩;obtain⟨a,rfl⟩:∃l,a=l+1:=⟨a - 1,by omega⟩
    simp only[fm];have i:=o c (by omega);simp only at i;rw[i,gM,j];exact v c a (by omega) (by omega)
   ·refine⟨p,λc a m w=>?_⟩;obtain⟨a,rfl⟩:∃l,a=l+1:=⟨a - 1,by omega⟩
    simp only[fm];have i:=o c (by omega);simp only at i;rw[i,gM];rename_i j;cases k:q.1 with
    |aO=>exact absurd k j
    |ext A=>rw[k]at e;exact e
    |ret=>rw[k]at e;exact e
 obtain⟨n,u⟩:=y d ds h g t;exact⟨max n d,λc m=>u c c (by omega) (by omega)⟩
theorem C4{i:lv}:∀(l:Code) {e:DE} {h:Z} {R:Type} {b:Ex→DE→Z→Option R} {Ks:Nat→Ex→DE→Z→Option R},(∀x e h,bK (b x e h) λn=>Ks n x e h)→bK (cK X (run X F) bZ i l e h R b) λn=>cK X (eH X F n) (fm n) i l e h R (Ks n):=by
 intro l
 induction l with
 |skip=>intro e h R b Ks a;exact a _ _ _
 |label t=>intro e h R b Ks a;exact a _ _ _
 |ret=>intro e h R b Ks a;exact a _ _ _
 |exit s=>intro e h R b Ks a;exact a _ _ _
 |goto t=>intro e h R b Ks a;exact bK.const _
 |scope f g=>intro e h R b Ks a;exact bK.const _
 |refuse C=>intro e h R b Ks a;exact bK.const _
 |rangeFunc v A u f w y=>intro e h R b Ks a;exact bK.const _
 | region id z q =>
  intro e h R b Ks a;simp only[cK];cases q with
  |false=>exact ru λe h=>a _ _ _
  |true=>exact D0 λe h=>a _ _ _
 | seq p f j k =>
  intro e h R b Ks a;simp only[cK];refine j (Ks:=λn x c d=>cP x (cK X (eH X F n) (fm n) i f c d R (Ks n)) λx=>Ks n x c d) λx e h=>?_
  cases x with
  |aO=>exact k a
  |ext s=>exact a _ _ _
  |ret=>exact a _ _ _
 | cond B p f j k =>
  intro e h R b Ks a;simp only[cK];split
  ·exact bK.const _
  ·split
   ·exact(yB (j (Ks:=λ_ x c d=>some (x,gT c _,d)) λ_ _ _=>bK.const _) (k (Ks:=λ_ x c d=>some (x,gT c _,d)) λ_ _ _=>bK.const _)).bind λo=>a _ _ _
   ·exact yB (j a) (k a)
 | block id f g =>
  intro e h R b Ks a;simp only[cK];split
  ·exact(g (Ks:=λ_ x c d=>some (bO id x,gT c _,d)) λ_ _ _=>bK.const _).bind λo=>a _ _ _
  ·exact g (Ks:=λn x c d=>Ks n (bO id x) c d) λx e h=>a _ _ _
 | loop f g =>
  intro e h R b Ks a;simp only[cK];refine(HZ (O:=λn r d=>cK X (eH X F n) (fm n) i f _ d bP λx c m=>some (x,gT c _,m)) (λr h=>g (Ks:=λ_ x c m=>some (x,gT c _,m)) λ_ _ _=>bK.const _) _ _).bind λo=>a _ _ _
theorem Gd{fi:eT}{args:List D}{h:Z}:bK (jy X (run X F) bZ fi args h) λn=>jy X (eH X F n) (fm n) fi args h:=by
 unfold jy;split
 ·exact C4 _ (Ks:=λ_ d c a=>dB d ((gY X a c fi.res).bind λb=>match fi.sc with
      |true=>scope h a (aD b)
      |false=>some (aD b,a))) λ_ _ _=>bK.const _
 ·exact bK.const _
theorem JL:∀n,iy (eH X F n) (run X F):=λn b args c d a=>ny.2 ⟨n,a⟩
theorem HX:∀n,p0 (fm n) bZ:=λn a b e c d g f=>k9.2 ⟨n,oW (aT n) a b e c d g f⟩
theorem A6(f:FuncId)(args:List D)(h:Z):run X F f args h=match F f with
  |some fi=>jy X (run X F) bZ fi args h
  |none=>X.xt f args h:=by
 refine AG (λe c=>?_) (λe c=>?_)
 ·obtain⟨a,b⟩:=ny.1 c;cases a with
  |zero=>cases b
  | succ a =>
   simp only[eH]at b;split at b
   ·exact zn (JL a) (HX a) e b
   ·exact b
 ·split at c
  ·rename_i fi d;obtain⟨a,b⟩:=Gd e c;refine ny.2 ⟨a+1,?_⟩;simp only[eH,d];exact b a (aT a)
  ·rename_i d;refine ny.2 ⟨1,?_⟩;simp only[eH,d];exact c
theorem rm{f:FuncId}(a:F f=none)(args:List D)(h:Z):run X F f args h=X.xt f args h:=by
 rw[A6,a]
def ll{R:Type}(X:Cx)(h:Z)(e:DE):List ResultVar→(List D→Option R)→Option R
 |[],a=>a []
 | .tmp t::r,a=>match bC e t with
  |some d=>ll X h e r λds=>a (d::ds)
  |none=>none
 | .cell t ty::r,a=>match bC e t with
  |some p=>(aA X.T h ty p).bind λd=>ll X h e r λds=>a (d::ds)
  |none=>none
theorem ri{R:Type}(h:Z)(e:DE):∀(b:List ResultVar) (a:List D→Option R),ll X h e b a=(gY X h e b).bind a
 |[],a=>rfl
 | .tmp t::r,a=>by
  simp only[ll,gY];cases bC e t with
  |none=>rfl
  |some d=>simp only[ri h e r,bS,gM]
 | .cell t ty::r,a=>by
  simp only[ll,gY];cases bC e t with
  |none=>rfl
  |some p=>simp only[ri h e r,bS,gM]
noncomputable def qQ(X:Cx)(c:bV)(e:hH)(fi:eT)(args:List D)(h:Z):Option (D × Z):=
 (match Nat.ble args.length fi.A.nt with
 |true=>cK X c e fi.A fi.body (fT (List.range args.length) args []) h (D × Z) λf d a=>dB f (ll X a d fi.res λb=>match fi.sc with
   |true=>scope h a (aD b)
   |false=>some (aD b,a))
 |false=>none)
theorem A9{f:FuncId}{fi:eT}(a:F f=some fi)(args:List D)(h:Z):run X F f args h=qQ X (run X F) bZ fi args h:=by
 rw[A6,a];simp only[jy,qQ,ri];rfl
theorem Bb(e:bQ P X.T)(h:P.follows .mixedOrders=true)(j:fy P X X.xt)(d:∀f fi,F f=some fi→bM P f fi):fy P X (run X F):=λf args b a c g=>by
 obtain⟨k,i⟩:=ny.1 g;exact yk e h j d k f args b a c i
end
def L3(off:Nat)(x:D):Option D:=match x with
 | .aE a=>match Nat.blt off a.length with
  |true=>some (.aE (a.drop off))
  |false=>none
 |.ptr d b c=>some (.ptr d b (c+off))
 |_=>none
def L5(h:Z)(p:D):Option D:=match p with
 |.aE a=>a.head?
 | .ptr c b d=>match h.row c b with
  |some e=>(e.drop d).head?
  |none=>none
 |_=>none
def mj(n:Nat)(cs:List D):Option D:=match Nat.ble n cs.length with
 |true=>some (.agg (cs.take n))
 |false=>none
def L4(x y:D):Option D:=match x,y with
 | .str c,.int _ a=>if 0≤a then match c[a.toNat]? with
  |some b=>some (.int .u8 b.toNat)
  |none=>none
  else none
 |_,_=>none
def L7(x:D):Option D:=match x with
 |.str a=>some (.int .i64 a.length)
 |_=>none
def L6(x:D):Option D:=match x with
 |.J=>some (.int .i64 0)
 |.sl _ _ b=>some (.int .i64 b.length)
 |.S _ _ _ a=>some (.int .i64 a)
 |_=>none
def gX(x:D):Option D:=if x.eZ then some (.aE (bT x))else none
def bF(T:aZ)(t n:Nat)(a:List Nat)(ds:List D):Option D:=(kv T t n a ds).bind λ(_,c,b)=>some (.sl c true b)
def il (n:Nat) (h:Z) (p v:D):Option Z:=match p with
 | .ptr b a c=>match h[b]? with
  | some (.row f g e)=>match e[a]? with
   | some d=>match Nat.beq (bT v).length n&&Nat.ble (c+n) d.length&&v.eZ with
    |true=>some (h.set b (.row f g (e.set a (dF d c (bT v)))))
    |false=>none
   |none=>none
  |_=>none
 |_=>none
def pC(e V:Nat)(h:Z)(x:D):Option (D × Z):=if x.eZ=true∧(bT x).length=V∧0<V then some (.ptr h.length 0 0,aK h e V [bT x])else none
def BG(e:Nat)(h:Z)(x:D):Option (D × Z):=match x with
 |.str a=>if cC a.length 1=true then some (.S 1 h.length 0 a.length,aK h e 1 (fV a))else none
 |_=>none
def nH (e:Nat) (j o:TI) (h:Z) (x y:D):Option (D × Z):=match Nat.blt 0 j.V,iK h o j y with
 | true,some []=>match x with
  |.J=>some (.J,h)
  |.sl g i k=>some (.sl g i k,h)
  |.S g i k n=>some (.S g i k n,h)
  |_=>none
 | true, some a=>match x with
  |.J=>if cC a.length j.fJ=true then some (.S j.V h.length 0 a.length,aK h e j.V a)else none
  |.sl d true b=>if d=j.V∧cC (b.length+a.length) j.fJ=true then some (.S j.V h.length 0 (b.length+a.length),aK h e j.V (b++a))else none
  | .S d f 0 c=>match h[f]? with
   | some (.row l m b)=>if d=j.V∧m=d∧l=e∧c≤b.length∧cC (c+a.length) j.fJ=true then
     (if c=b.length then some (.S j.V h.length 0 (c+a.length),aK (h.set f .dead) e j.V (b++a))
     else if c+a.length≤b.length then some (.S d f 0 (c+a.length),h.set f (.row l m (b.take c++a++b.drop (c+a.length))))else none)
    else none
   |_=>none
  |_=>none
 |_,_=>none
def gh(b:bV)(f:D)(a:List D)(h:Z):Option (D × Z):=iH (λ_=>none) b 0 (.call ⟨.value (.tmp 0), #[], #[]⟩) (f::a) h
theorem Db(b:bV)(f:FuncId)(a xs ys:List D)(h:Z):gh b (.fn (.func f) xs ys) a h=b f (xs++a++ys) h:=rfl
def Y(k:Nat)(ds:List D):D:=match k with
 |0=>oK ds
 |k+1=>Y k (pB ds)
def vV(a:List (Option TI)):aZ:=λc=>match a[c]? with
 |some (some b)=>some b
 |_=>none
def n5(P:Program):Nat→List (Option TI)→Prop
 |_,[]=>True
 |k,none::r=>n5 P (k+1) r
 |k,some i::r=>(nD P k=some i∧m7 P k=true)∧n5 P (k+1) r
theorem vW{P:Program}:∀(b:List (Option TI)) (k:Nat),n5 P k b→∀t i,b[t]?=some (some i)→nD P (k+t)=some i∧m7 P (k+t)=true
 |[],k,_,t,i,h=>by simp at h
 | none::r,k,a,t,i,h=>by
  cases t with
  |zero=>simp at h
  | succ t =>
   have:=vW r (k+1) a t i (by simpa using h)
   rwa [show k+1+t=k+(t+1)from by omega]at this
 | some c::r,k,a,t,i,h=>by
  cases t with
  | zero =>
   simp at h;subst h;exact a.1
  | succ t =>
   have:=vW r (k+1) a.2 t i (by simpa using h)
   rwa [show k+1+t=k+(t+1)from by omega]at this
theorem KF{P:Program}{b:List (Option TI)}(h:n5 P 0 b):bQ P (vV b):=λe f a=>by
 unfold vV at a;split at a
 ·rename_i d c;injection a with a;subst a;have:=vW b 0 h e d c
  rwa [dA]at this
 ·cases a
def oJ:List (Nat × eT)→FuncId→Option eT
 |[],_=>none
 | (k,i)::r,f=>match Nat.beq k f with
  |true=>some i
  |false=>oJ r f
def pW(P:Program):List (Nat × eT)→Prop
 |[]=>True
 |(k,i)::r=>bM P k i∧pW P r
theorem tJ{P:Program}:∀(a:List (Nat × eT)),pW P a→∀f fi,oJ a f=some fi→bM P f fi
 |[],_,f,fi,h=>by cases h
 | (k,i)::r,b,f,fi,h=>by
  simp only[oJ]at h;split at h
  ·rename_i c;injection h with h;subst h;have:=gg c;subst this;exact b.1
  ·exact tJ r b.2 f fi h
theorem bM.of{P:Program}{f:FuncId}{a:Func}{fi:eT}(e:P.funcs[f]?=some a)(c:a.body=some fi.body)(g:a.ntmps=fi.A.nt)(h:a.results.toList=fi.res)(d:∀(b:Array Value) (w:World),(callFunc f b).run P w = .ok (.enter f b) w):bM P f fi:=⟨⟨a,e,c,g,h⟩,d⟩
theorem Dl{P:Program}{f:FuncId}(e:∀(d:Array Value) (w:World),(callFunc f d).run P w=((Extern.BytealgCompare.compare d).run P w).andThen λv w' =>.ok (.value v) w')
  {a b:List UInt8} {g:Gh} {h:Z} {vs:List Value} (hi:Inv g h) (i:aU g vs [.str a,.str b]):jM P f vs g h (.int .i64 (Lib.compareBytes a b)):=by
 cases i with
 | cons j c=>cases c with
  | cons k c=>cases c with
   | nil =>
    cases j;cases k;refine .inr ⟨.int .i64 (Lib.compareBytes a b),g,?_,aS.refl g,hi,.int _ _⟩;rw[e,Lib.run_compareString];simp[Result.andThen]
def qj(args:List D)(h:Z):Option (D × Z):=match args with
 |[.str a,.str b]=>some (.int .i64 (Lib.compareBytes a b),h)
 |_=>none
end Go.Pi
namespace Go.Eng
abbrev sX:=@decide_eq_true_eq
end Go.Eng
namespace Go.Eng
open Go.ChangeShapes Go.WideShapes Go.ChangeAt Go.RowKit
def Gw.all(w:World)(N:Nat):Gw:=⟨w,λa=>if a<w.heap.size then N else 0,λa b=>by rw[cI (by omega)]⟩
theorem La{n:Int}(h:(Lit.int .u8 n).wf=true):0≤n∧n<256:=by
 simp only[Lit.wf,dQ,sX]at h;have a:IntKind.min .u8=0:=rfl;have b:IntKind.max .u8=255:=rfl;omega
section
variable {H:Type} {enc:TypeId × Value→H} {P:Program} {W:World}
end
theorem eI{P:Program}{f:FuncId}{args:Array Value}{W:World}{N:Nat}{a:Value}(h:jN P f args W (qd xP (Gw.all W N) λv _=>v=a)):Calls P f args W λe w'=>e = .returned a∧Below W.heap.size W w':=
 pR h (by
  rintro e w' ⟨v,rfl,c,rfl,b,rfl⟩;exact⟨rfl,b.below⟩)
end Go.Eng
namespace Go.Eng
abbrev sG:=@World.block_lt_of_cell?
end Go.Eng
namespace Go.Pi
open Go.Eng Go.ChangeShapes Go.WideShapes Go.ChangeAt Go.RowKit
def Gh.all(w:World):Gh:=⟨w,[],λ_=>False⟩
theorem Hd(w:World):Inv (Gh.all w) []:=⟨rfl,λb c f e a=>by simp at a,λb j c f g l e k d i a=>by simp at a,λh a=>a.elim,λb d a=>by simp[Gh.all]at a⟩
theorem aS.below{g:Gh}{W:World}(h:aS (Gh.all W) g):Below W.heap.size W g.w:=⟨h.os,h.tape,h.output,h.size,λb a=>(h.fz b ⟨a,λh=>h⟩).2⟩
def ints(k:IntKind)(zs:List Int):List (List D):=zs.map λa=>[.int k a]
def iw(k:IntKind)(zs:List Int)(d:D):Prop:=(d = .J∧zs=[])∨d = .sl 1 false (ints k zs)
section
variable {H:Type} {enc:TypeId × Value→H} {P:Program} {W:World}
theorem Gy{t e:TypeId}{k:IntKind}{a:Option Addr}{n cap:Nat}{d:DataW H}{p:List MemPlace}(Q:P.underlying t=some (.slice e))(E:P.underlying e=some (.int k))(C:P.cellsOf e=1)
  (h:DataW.Trod enc P W 0 (λ_=>true) true t (.slice a n cap) d p):∃(zs:List Int) (x:D),aB (Gh.all W) (.slice a n cap) x∧iw k zs x∧zs.length≤9223372036854775807∧(∀z∈zs,(Lit.int k z).wf=true)∧((d = .nil∧zs=[])∨∃T,d = .slice (lits k zs) T):=by
 obtain⟨aa,F⟩:=h;rcases open_ints Q E C F with⟨j,s⟩|⟨x,ad,X,zs,j,_,I,L,m,s,r,R⟩
 ·simp[Value.cells]at j;obtain⟨rfl,rfl,rfl⟩:=j;exact⟨[],.J,.J,.inl ⟨rfl,rfl⟩,by simp,(λz m=>by cases m),.inl ⟨mQ Prod.fst s,rfl⟩⟩
 ·simp [Value.cells]at j;obtain⟨rfl,rfl,rfl⟩:=j;have ac:zs.length=cap:=by simpa using m
  have M:cap≤9223372036854775807:=by simpa[maxLen]using L
  have K:(zs.take n).length=n:=by rw[hG];omega
  have y:∀(b:Nat) (f:List D),(ints k (zs.take n))[b]?=some f→b<n∧f=[.int k (zs.getD b 0)]:=λb f c=>by
   simp only[ints,dG]at c;cases l:(zs.take n)[b]? with
   |none=>rw[l]at c;cases c
   | some ae =>
    rw[l]at c;simp only[gC,iZ]at c;have o:b<n:=by
     have:=(bB.1 l).1;omega
    rw[eP,bN o]at l;exact⟨o,by rw[← c,mC,l];rfl⟩
  refine⟨zs.take n,_,.sl x n cap 1 false (ints k (zs.take n)) (by simp only[ints,fY];exact K) I M (λh=>by cases h) (by decide) (λf A=>?_) (λN=>?_) (λb _ =>.int k (zs.getD b 0)) (λb f c g d i=>?_) (λb f c g d i=>rfl) (λb f c g d i=>?_),.inr rfl,by omega,λz m=>R z (gb m),.inr ⟨_,mQ Prod.fst s⟩⟩
  ·simp only[ints,fc]at A;obtain⟨z,_,rfl⟩:=A;rfl
  ·have ab:0<n:=by
     rcases p7 n with q|q
     ·subst q;exact absurd (by simp[ints]) N
     ·exact q
   obtain⟨w,B,v⟩:=x;have lW:=r 0 (by omega);have u:v=none:=by simpa[Addr.add]using World.cell?_spot lW
   subst u;refine⟨rfl,?_,λh=>h⟩;have:W.cell? ⟨w,B,none⟩=some (.int k (zs.getD 0 0)):=by simpa[Addr.add]using lW
   exact sG W _ this
  ·obtain⟨o,rfl⟩:=y b f c;have G:g=0:=by
    cases g with
    |zero=>rfl
    |succ g=>simp at i
   subst G;obtain⟨w,B,v⟩:=x;have u:v=none:=by simpa[Addr.add]using World.cell?_spot (r 0 (by omega))
   subst u;have lW:=r b (by omega);rw[g2]at lW;simpa[Gh.all]using lW
  ·obtain⟨o,rfl⟩:=y b f c;cases g with
   |zero=>simp at i;subst i;exact .int k _
   |succ g=>simp at i
theorem Gx{t e:TypeId}{k:IntKind}{a:Option Addr}{n cap:Nat}{d:DataW H}{p:List MemPlace}(l:P.underlying t=some (.slice e))(j:P.underlying e=some (.int k))(i:P.cellsOf e=1)
  (h:DataW.Trod enc P W 0 (λ_=>true) true t (.slice a n cap) d p):∃(zs:List Int) (x:D),aB (Gh.all W) (.slice a n cap) x∧iw k zs x∧zs.length≤9223372036854775807∧∀z∈zs,(Lit.int k z).wf=true:=by
 obtain⟨zs,x,b,c,f,g,_⟩:=Gy l j i h;exact⟨zs,x,b,c,f,g⟩
end
theorem JI{P:Program}{X:Cx}{R:bV}(j:fy P X R){f:FuncId}(l:∀(b:Array Value) (w:World),(callFunc f b).run P w = .ok (.enter f b) w){args:List D}{d:D}{h':Z}(h:R f args []=some (d,h')){W:World}(m:eU (Gh.all W) X.gl){vs:List Value}(n:aU (Gh.all W) vs args){i:Value}(o:∀g v,aB g v d→v=i):
  Calls P f vs.toArray W λe w'=>e = .returned i∧Below W.heap.size W w':=
 pR (show jN P f vs.toArray W _ from by
  rcases j _ _ _ _ _ h (Gh.all W) vs (Hd W) m n with⟨_,a⟩|⟨v,c,a,_⟩
  ·exact a
  ·have:=(l vs.toArray (Gh.all W).w).symm.trans a;injection this with this;cases this) (by
  rintro e w' ⟨v,rfl,c,rfl,k,_,p⟩;rw[o c v p];exact⟨rfl,k.below⟩)
theorem Jz{g:Gh}{v:Value}{b:Bool}(h:aB g v (.bool b)):v = .bool b:=by cases h;rfl
theorem ic(h:Z)(T V:Nat)(rows:List (List D)):(aK h T V rows)[h.length]?=some (.row T V rows):=by
 unfold aK;rw[g4 (aT _)];simp
theorem g8(h:Z)(T V:Nat)(rows:List (List D)){o:Nat}(a:o<h.length):(aK h T V rows)[o]?=h[o]?:=by
 unfold aK;rw[dS a]
end Go.Pi
namespace Go.Pi
open Go.Eng
open Option renaming bind_some → Ma
@[simp] theorem O{b c:Type}(a:b)(f:b→Option c):(some a).bind f=f a:=id rfl
@[simp] theorem cS(d:D):aD [d]=d:=id rfl
@[simp] theorem q3(a b:D)(r:List D):aD (a::b::r) = .bU (a::b::r):=id rfl
@[simp] theorem aQ{R:Type}(b:Bool)(x y:Option R):aI (.bool b) x y=if b=true then x else y:=by cases b<;>exact id rfl
@[simp] theorem hd(b:Bool):fM .not (.bool b)=some (.bool (!b)):=id rfl
@[simp] theorem cU(b:Bool)(x y:D):cJ (.bool b) x y=some (if b=true then x else y):=by cases b<;>exact id rfl
@[simp] theorem cY(b c:Bool)(x:Option D):gd (.bool b) c x=if b=c then x else some .bJ:=by cases b<;>cases c<;>exact id rfl
@[simp] theorem gP(c:Bool)(x:Option D):gd .bJ c x=some .bJ:=id rfl
@[simp] theorem kx(c:Bool)(h:Z)(x:Option (D × Z)):eQ .bJ c h x=some (.bJ,h):=id rfl
@[simp] theorem fj(b c:Bool)(h:Z)(x:Option (D × Z)):eQ (.bool b) c h x=if b=c then x else some (.bJ,h):=by cases b<;>cases c<;>exact id rfl
@[simp] theorem dW{R:Type}(n:Option R)(k:Ex→Option R):cP .aO n k=n:=id rfl
@[simp] theorem nE{R:Type}(n:Option R)(k:Ex→Option R):cP .ret n k=k .ret:=id rfl
@[simp] theorem L8{R:Type}(i:Nat)(n:Option R)(k:Ex→Option R):cP (.ext i) n k=k (.ext i):=id rfl
@[simp] theorem qq{R:Type}(r:Option R):dB .aO r=r:=id rfl
@[simp] theorem m1{R:Type}(r:Option R):dB .ret r=r:=id rfl
@[simp] theorem nF(i:Nat):bO i .aO = .aO:=id rfl
@[simp] theorem nG(i:Nat):bO i .ret = .ret:=id rfl
@[simp] theorem fb(i:Nat):bO i (.ext i) = .aO:=by simp[-Ma,bO]
@[simp] theorem cL(d:D)(r:List D):Y 0 (d::r)=d:=id rfl
@[simp] theorem dT(k:Nat)(d:D)(r:List D):Y (k+1) (d::r)=Y k r:=id rfl
@[simp] theorem lK{R:Type}(p:Prop)(x:Option R)(h:p):eD p x=x:=by unfold eD;exact bN h
@[simp] theorem sN(b:bV)(f:FuncId)(a xs ys:List D)(h:Z):gh b (.fn (.func f) xs ys) a h=b f (xs++a++ys) h:=id rfl
@[simp] theorem L2(s:List UInt8):gX (.str s)=some (.aE [.str s]):=id rfl
@[simp] theorem LZ(k:IntKind)(n:Int):gX (.int k n)=some (.aE [.int k n]):=id rfl
@[simp] theorem LY(b:Bool):gX (.bool b)=some (.aE [.bool b]):=id rfl
@[simp] theorem ma(cs:List D):gX (.agg cs)=some (.aE cs):=id rfl
@[simp] theorem L0:gX .J=some (.aE [.J]):=id rfl
@[simp] theorem L1(z:Nat)(f:Bool)(r:List (List D)):gX (.sl z f r)=some (.aE [.sl z f r]):=id rfl
section
variable (T:aZ) (t:Nat) (k:IntKind) (a b:Int) (s u:List UInt8) (p q:Bool)
@[simp] theorem dZ:U T .lss t (.int k a) (.int k b)=some (.bool (decide (a<b))):=by simp[-Ma,U,fW]
@[simp] theorem mR:U T .leq t (.int k a) (.int k b)=some (.bool (decide (a≤b))):=by simp[-Ma,U,fW]
@[simp] theorem eM:U T .gtr t (.int k a) (.int k b)=some (.bool (decide (b<a))):=by simp[-Ma,U,fW]
@[simp] theorem jb:U T .geq t (.int k a) (.int k b)=some (.bool (decide (b≤a))):=by simp[-Ma,U,fW]
@[simp] theorem gi:U T .eql t (.int k a) (.int k b)=some (.bool (decide (a=b))):=by simp[-Ma,U,fW];rfl
@[simp] theorem dP:U T .neq t (.int k a) (.int k b)=some (.bool (decide (a≠b))):=by simp[-Ma,U,fW,bne];rfl
@[simp] theorem eL:U T .add t (.int k a) (.int k b)=some (.int k (k.wrap (a+b))):=by simp[-Ma,U,fW]
@[simp] theorem fh:U T .sub t (.int k a) (.int k b)=some (.int k (k.wrap (a - b))):=by simp[-Ma,U,fW]
@[simp] theorem lL:U T .mul t (.int k a) (.int k b)=some (.int k (k.wrap (a*b))):=by simp[-Ma,U,fW]
@[simp] theorem yy:U T .quo t (.int k a) (.int k b)=if b=0 then none else some (.int k (k.wrap (a.tdiv b))):=by simp[-Ma,U,fW]
@[simp] theorem sO:U T .rem t (.int k a) (.int k b)=if b=0 then none else some (.int k (a.tmod b)):=by simp[-Ma,U,fW]
@[simp] theorem lM:U T .eql t (.str s) (.str u)=some (.bool (s==u)):=id rfl
@[simp] theorem mS:U T .neq t (.str s) (.str u)=some (.bool (!(s==u))):=id rfl
@[simp] theorem Lu:U T .lss t (.str s) (.str u)=some (.bool (Op.bytesLess s u)):=id rfl
end
@[simp] theorem qh(n:Nat)(cs:List D)(h:cs.length=n):iG n (.agg cs)=some (.aE cs):=by subst h;simp[-Ma,iG,D.eZ,bT]
@[simp] theorem jw(i:Nat)(ds:List D):gF i (.bU ds)=ds[i]?:=id rfl
@[simp] theorem Lx (k:IntKind) (a b:Int):kU (.int k a) (.int k b)=some (.int k (if a≤b then a else b)):=by
 first|rfl|(simp[-Ma,kU];done)|(simp only[kU];split<;>simp_all [-Ma]<;>omega)
theorem cX{n:Int}(a : -9223372036854775808≤n)(b:n≤9223372036854775807):IntKind.wrap .i64 n=n:=by
 unfold IntKind.wrap;simp[-Ma,IntKind.signed,IntKind.bits,IntKind.min,IntKind.max];omega
theorem qS{a:Type}(b:List a)(p:a)(c:List a):(b++p::c)[b.length]?=some p:=by simp
def aV{a:Type}(z:Nat)(f:a→List D)(l:List a)(d:D):Prop:=(d = .J∧l=[])∨∃b,d = .sl z b (l.map f)
theorem aV.J{a:Type}(z:Nat)(f:a→List D):aV z f [] .J :=.inl ⟨rfl,rfl⟩
theorem aV.mk{a:Type}(z:Nat)(f:a→List D)(l:List a)(b:Bool):aV z f l (.sl z b (l.map f)) :=.inr ⟨_,rfl⟩
theorem HW{d:List D→Z→Option bP}(c:Nat→List D→Z→Prop)(e:Ex→List D→Z→Prop)
  (step:∀k ds h,c k ds h→∃x a h',d ds h=some (x,a,h')∧((x = .aO∧∃b,b<k∧c b a h')∨(x ≠ .aO∧e x a h'))) :
  ∀(k:Nat) (ds:List D) (h:Z),c k ds h→∃x a h',bZ d ds h=some (x,a,h')∧e x a h':=by
 intro k
 induction k using Nat.strongRecOn with
 | _ k o =>
  intro ds h g;obtain⟨x,a,h',f,n⟩:=step k ds h g;rw[ik,f];rcases n with⟨rfl,b,l,i⟩|⟨m,j⟩
  ·exact o b l a h' i
  ·refine⟨x,a,h',?_,j⟩;cases x with
   |aO=>exact absurd rfl m
   |ext p=>rfl
   |ret=>rfl
end Go.Pi
namespace Go.Eng
abbrev jX:=@Nat.le_of_eq
abbrev nV:=@List.getElem_mem
abbrev se:=@List.append_nil
abbrev ss:=@List.take_length
abbrev AD:=@of_decide_eq_true
end Go.Eng
namespace Go.Pi
open Go.Eng
theorem kB{n b:Nat}(h:n*b≤140737488355328)(h2:n≤9223372036854775807):cC n b=true:=by
 simp only[cC,dQ];exact⟨h5 h,h5 h2⟩
def Own(h:Z)(n0 e z:Nat)(rows:List (List D))(d:D):Prop:=(d = .J∧rows=[])∨∃a,n0≤a∧d = .S z a 0 rows.length∧h[a]?=some (.row e z rows)
theorem Own.J(h:Z)(n0 e z:Nat):Own h n0 e z [] .J :=.inl ⟨rfl,rfl⟩
def D.eN(d:D)(b:Nat):Prop:=∃c a,d = .S c b 0 a
theorem Own.bA{h h':Z}{n0 e z:Nat}{rows:List (List D)}{d:D}(a:Own h n0 e z rows d)(i:∀b,n0≤b→d.eN b→h'[b]?=h[b]?):Own h' n0 e z rows d:=by
 rcases a with a|⟨f,c,a,g⟩
 ·exact .inl a
 ·exact .inr ⟨f,c,a,by rw[i f c ⟨_,_,a⟩];exact g⟩
theorem Own.from{h:Z}{n0 b e z:Nat}{rows:List (List D)}{d:D}(g:b≤n0)(a:Own h n0 e z rows d):Own h b e z rows d:=by
 rcases a with a|⟨f,i,a,c⟩
 ·exact .inl a
 ·exact .inr ⟨f,by omega,a,c⟩
theorem Own.lt{h:Z}{n0 e z:Nat}{rows:List (List D)}{d:D}(a:Own h n0 e z rows d){b:Nat}(i:d.eN b):n0≤b∧b<h.length:=by
 obtain⟨l,j,rfl⟩:=i;rcases a with⟨a,_⟩|⟨k,g,a,f⟩
 ·cases a
 ·injection a with _ c;subst c;exact⟨g,(bB.1 f).1⟩
theorem CG{T:aZ}{t e:Nat}{i j:TI}(u:T t=some i)(hi:i.td = .sl e)(o:T e=some j)(w:0<j.V){h:Z}{n0:Nat}(k:n0≤h.length){rows:List (List D)}{x y:D}(m:Own h n0 e j.V rows x)
  {ys:List (List D)} (v:g9 h j.V y=some ys) (d:cC (rows.length+ys.length) j.fJ=true) :
  ∃g h',dH T h t t x y=some (g,h')∧Own h' n0 e j.V (rows++ys) g∧h.length≤h'.length∧(∀b,b<h.length→¬x.eN b→h'[b]?=h[b]?)∧∀b,g.eN b→x.eN b∨h.length≤b:=by
 have z:Nat.blt 0 j.V=true:=h5 w;have s:iK h i j y=some ys:=by simp[iK,hi,v]
 unfold dH;simp only[u,hi,o,z,s];cases ys with
 | nil =>
  rcases m with⟨rfl,rfl⟩|⟨f,l,rfl,c⟩
  ·exact⟨_,_,rfl,.inl ⟨rfl,rfl⟩,aT _,λ_ _ _=>rfl,λb a =>.inl a⟩
  ·exact⟨_,_,rfl,by rw[se];exact .inr ⟨f,l,rfl,c⟩,aT _,λ_ _ _=>rfl,λb a =>.inl a⟩
 | cons E F =>
  rcases m with⟨rfl,rfl⟩|⟨f,l,rfl,c⟩
  ·simp only[fB,dA]at d;simp only[d,aL];refine⟨_,_,rfl,.inr ⟨h.length,k,by simp,by simp[aK]⟩,by simp[aK],λb a _=>by simp only[aK];rw[dS a],λb a =>.inr ?_⟩;obtain⟨B,A,a⟩:=a;injection a with _ n;omega
  ·have C:=(bB.1 c).1;simp only[c,d,true_and,and_true,aT,aL];refine⟨_,_,rfl,.inr ⟨h.length,k,by simp,by simp[aK]⟩,by simp[aK],λb a q=>?_,λb a =>.inr ?_⟩
   ·have r:f≠b:=λp=>q ⟨_,_,by rw[p]⟩
    simp only[aK];rw[dS (by simpa using a),hZ r]
   ·obtain⟨B,A,a⟩:=a;injection a with _ n;omega
theorem CF{T:aZ}{t e:Nat}{i j:TI}(q:T t=some i)(hi:i.td = .sl e)(m:T e=some j)(s:0<j.V){h:Z}{n0:Nat}(p:n0≤h.length){rows:List (List D)}{x y:D}(d:Own h n0 e j.V rows x)
  {ys:List (List D)} (r:g9 h j.V y=some ys) (o:cC (rows.length+ys.length) j.fJ=true) :
  ∃b h',dH T h t t x y=some (b,h')∧Own h' n0 e j.V (rows++ys) b∧h.length≤h'.length∧(∀a,a<n0→h'[a]?=h[a]?)∧(∀a,a<h.length→¬x.eN a→h'[a]?=h[a]?)∧∀a,b.eN a→x.eN a∨h.length≤a:=by
 obtain⟨b,h',f,g,k,c,l⟩:=CG q hi m s p d r o;exact⟨b,h',f,g,k,λa u=>c a (by omega) λn=>by have:=(d.lt n).1;omega,c,l⟩
@[simp] theorem lp(h:Z)(z:Nat)(f:Bool)(rows:List (List D)):g9 h z (.sl z f rows)=some rows:=by simp[g9]
def bY(o:Nat)(h h':Z):Prop:=h'.length=h.length∧∀a,a≠o→h'[a]?=h[a]?
theorem bY.refl(o:Nat)(h:Z):bY o h h:=⟨rfl,λ_ _=>rfl⟩
theorem bY.trans{o:Nat}{h h' c:Z}(a:bY o h h')(b:bY o h' c):bY o h c:=⟨b.1.trans a.1,λe d=>(b.2 e d).trans (a.2 e d)⟩
def kr(n0 o:Nat)(h h':Z):Prop:=h.length≤h'.length∧∀a,a<n0→a≠o→h'[a]?=h[a]?
theorem kr.refl(n0 o:Nat)(h:Z):kr n0 o h h:=⟨aT _,λ_ _ _=>rfl⟩
theorem kr.trans{n0 o:Nat}{h h' c:Z}(a:kr n0 o h h')(b:kr n0 o h' c):kr n0 o h c:=⟨h6 a.1 b.1,λf e d=>(b.2 f e d).trans (a.2 f e d)⟩
theorem bY.grow{n0 o:Nat}{h h':Z}(a:bY o h h'):kr n0 o h h':=⟨jX a.1.symm,λc _ b=>a.2 c b⟩
@[simp] theorem Gi(n0:Nat)(h:Z)(n:Nat)(k:IntKind)(i:Int):bL n0 h n (.int k i) = .int k i:=by cases n<;>rfl
@[simp] theorem LQ(n0:Nat)(h:Z)(n:Nat)(s:List UInt8):bL n0 h n (.str s) = .str s:=by cases n<;>rfl
@[simp] theorem LO(n0:Nat)(h:Z)(n:Nat)(b:Bool):bL n0 h n (.bool b) = .bool b:=by cases n<;>rfl
@[simp] theorem LP(n0:Nat)(h:Z)(n:Nat):bL n0 h n .J = .J:=by cases n<;>rfl
@[simp] theorem zu(n0:Nat)(h:Z)(n:Nat)(cs:List D):bL n0 h (n+1) (.agg cs) = .agg (cs.map (bL n0 h n)):=rfl
@[simp] theorem LR(n0:Nat)(h:Z)(n:Nat)(cs:List D):bL n0 h (n+1) (.bU cs) = .bU (cs.map (bL n0 h n)):=rfl
theorem Gk(n0:Nat)(h:Z)(n z:Nat)(f:Bool)(rows:List (List D)):bL n0 h (n+1) (.sl z f rows) = .sl z f (rows.map λrow=>row.map (bL n0 h n)):=rfl
theorem Gj{n0:Nat}{h:Z}{o:Nat}{T z:Nat}{rows:List (List D)}(b:n0≤o)(a:h[o]?=some (.row T z rows))(n s r k:Nat):bL n0 h (n+1) (.S s o r k) = .sl s false (((rows.drop r).take k).map λrow=>row.map (bL n0 h n)):=by
 have:Nat.ble n0 o=true:=h5 b;simp only[bL,this,a]
theorem l4{a:Type}{f:a→a}:∀{l:List a},(∀x∈l,f x=x)→l.map f=l
 |[],_=>rfl
 |x::l,h=>by rw[iB,h x (by simp),l4 λy b=>h y (by simp[b])]
theorem Gl{n0:Nat}{h:Z}{n z:Nat}{f:Bool}{rows:List (List D)}(a:∀row∈rows,∀d∈row,bL n0 h n d=d):bL n0 h (n+1) (.sl z f rows) = .sl z f rows:=by
 rw[Gk,l4 λrow b=>l4 (a row b)]
theorem zv{n0:Nat}{h:Z}{n a e z:Nat}{rows:List (List D)}{d:D}(b:Own h a e z rows d)(i:n0≤a)(f:∀row∈rows,∀d∈row,bL n0 h n d=d):(bL n0 h (n+1) d = .J∧rows=[])∨bL n0 h (n+1) d = .sl z false rows:=by
 rcases b with⟨rfl,rfl⟩|⟨k,j,rfl,c⟩
 ·exact .inl ⟨rfl,rfl⟩
 ·right;rw[Gj (by omega) c];simp only[hF,ss];rw[l4 λrow g=>l4 (f row g)]
theorem l9{n0:Nat}{h:Z}{n g e z:Nat}{i:Type}{f:i→List D}{l:List i}{d:D}(c:Own h g e z (l.map f) d)(m:n0≤g)(o:∀a∈l,∀d∈f a,bL n0 h n d=d):aV z f l (bL n0 h (n+1) d):=by
 rcases zv c m (n:=n) (λq p d c=>by
  obtain⟨a,k,rfl⟩:=fc.1 p;exact o a k d c)with⟨b,j⟩|b
 ·rw[b];exact .inl ⟨rfl,by simpa using j⟩
 ·rw[b];exact .mk _ _ _ _
theorem vQ{n0:Nat}{h:Z}{n z:Nat}{c:Type}{f:c→List D}{l:List c}{d:D}(b:aV z f l d)(g:∀a∈l,∀d∈f a,bL n0 h n d=d):bL n0 h (n+1) d=d:=by
 rcases b with⟨rfl,_⟩|⟨j,rfl⟩
 ·rfl
 ·exact Gl λk i d b=>by
    obtain⟨a,e,rfl⟩:=fc.1 i;exact g a e d b
theorem km{n z:Nat}{c:Type}{f:c→List D}{l:List c}{d:D}(b:aV z f l d)(g:∀a∈l,∀d∈f a,Ok n d):Ok n d:=by
 rcases b with⟨rfl,_⟩|⟨i,rfl⟩
 ·exact .J
 ·exact .sl _ _ _ λj h d b=>by
    obtain⟨a,e,rfl⟩:=fc.1 h;exact g a e d b
theorem rz{z:Nat}{a:Type}{f:a→List D}{l:List a}{d:D}(b:aV z f l d):d.one=true:=by
 rcases b with⟨rfl,_⟩|⟨c,rfl⟩<;>rfl
theorem AH{h:Z}{n0 e z:Nat}{rows:List (List D)}{d:D}(a:Own h n0 e z rows d):d.one=true:=by
 rcases a with⟨rfl,_⟩|⟨b,_,rfl,_⟩<;>rfl
theorem Kp{h h2:Z}{d d':D}{o:Nat}(j:bL h.length h2 4 d=d')(m:Ok h.length d')(c:kr h.length o h h2)(l:∀T V rows,h2[o]?=some (.row T V rows)→∀row∈rows,∀d∈row,Ok h.length d):
  scope h h2 d=some (d',h2.take h.length)∧bY o h (h2.take h.length)∧∀a,a<h.length→(h2.take h.length)[a]?=h2[a]?:=by
 have k:h.length≤h2.length:=c.1;have i:∀a,a<h.length→(h2.take h.length)[a]?=h2[a]?:=λa b=>by rw[eP,bN b]
 refine⟨?_,⟨by simp[k],λa b=>?_⟩,i⟩
 ·unfold scope;rw[j,lK];refine⟨m,λa T V rows b g=>?_⟩;by_cases f:a=o
  ·subst f;exact .inr (l T V rows g)
  ·left;rw[← c.2 a b f];exact g
 ·by_cases e:a<h.length
  ·rw[i a e];exact c.2 a e b
  ·rw[nU (by simp;omega),nU (by omega)]
theorem kj{h h2:Z}{d d':D}(e:bL h.length h2 4 d=d')(f:Ok h.length d')(k:h.length≤h2.length)(c:∀a,a<h.length→h2[a]?=h[a]?):scope h h2 d=some (d',h):=by
 have i:h2.take h.length=h:=xH λa=>by
  rw[eP];split
  ·rename_i b;exact c a b
  ·rename_i b;rw[nU (by omega)]
 unfold scope;rw[e,i,lK];exact⟨f,λa j m l b g =>.inl (by rw[← c a b];exact g)⟩
theorem Kx{z:Nat}{a:Type}{f:a→List D}{l:List a}{d:D}(h:Z)(b:aV z f l d):g9 h z d=some (l.map f):=by
 rcases b with⟨rfl,rfl⟩|⟨c,rfl⟩
 ·rfl
 ·simp
theorem AM{a:Type}(l:List a)(v:Int)(b:0≤v)(c:v<l.length):∃s,s∈l∧l[v.toNat]?=some s:=by
 have:v.toNat<l.length:=by omega
 exact⟨l[v.toNat],nV _,cA this⟩
theorem Gu{k:IntKind}{zs:List Int}{d:D}(a:iw k zs d)(n:Nat):Ok n d:=by
 rcases a with⟨rfl,_⟩|rfl
 ·exact .J
 ·refine .sl _ _ _ λc b d a=>?_
  simp only[ints,fc]at b;obtain⟨e,_,rfl⟩:=b;simp at a;subst a;exact .int _ _
theorem Own.same{h h':Z}{n0 e z o:Nat}{rows:List (List D)}{d:D}(a:Own h n0 e z rows d)(b:bY o h h')(f:o<n0):Own h' n0 e z rows d:=a.bA λc g _=>b.2 c (by omega)
def Wp{b:Type}(x:Option b)(Q:b→Prop):Prop:=∃a,x=some a∧Q a
theorem Wp.some{b:Type}{a:b}{Q:b→Prop}(h:Q a):Wp (some a) Q:=⟨a,rfl,h⟩
theorem Wp.bind{b c:Type}{x:Option b}{f:b→Option c}{P:b→Prop}{Q:c→Prop}(h:Wp x P)(k:∀a,P a→Wp (f a) Q):Wp (x.bind f) Q:=by
 obtain⟨a,rfl,d⟩:=h;exact k a d
theorem Wp.step{b c:Type}{x:Option b}{a:b}{f:b→Option c}{Q:c→Prop}(h:x=Option.some a)(k:Wp (f a) Q):Wp (x.bind f) Q:=by
 subst h;exact k
theorem Wp.eY{a:Type}{b:Bool}{x y:Option a}{Q:a→Prop}(c:b=true→Wp x Q)(d:b=false→Wp y Q):Wp (aI (.bool b) x y) Q:=by
 cases b
 ·exact d rfl
 ·exact c rfl
theorem Wp.join{c d:Type}{b:Bool}{x y:Option c}{f:c→Option d}{P:c→Prop}{Q:d→Prop}(e:b=true→Wp x P)(g:b=false→Wp y P)(k:∀a,P a→Wp (f a) Q):Wp ((aI (.bool b) x y).bind f) Q:=Wp.bind (Wp.eY e g) k
theorem Wp.mono{b:Type}{x:Option b}{P Q:b→Prop}(h:Wp x P)(k:∀a,P a→Q a):Wp x Q:=by
 obtain⟨a,rfl,c⟩:=h;exact⟨a,rfl,k a c⟩
theorem Wp.eD{a:Type}{p:Prop}{x:Option a}{Q:a→Prop}(b:p)(h:Wp x Q):Wp (eD p x) Q:=by
 rw[lK p x b];exact h
theorem Wp.loop{m:Type}{f:List D→Z→Option bP}{ds:List D}{h:Z}{g:bP→Option m}{Q:m→Prop}(a:Nat→List D→Z→Prop)(c:bP→Prop)(n:Nat)(o:a n ds h)
  (step:∀k ds h,a k ds h→Wp (f ds h) λr=>(r.1 = .aO∧∃l,l<k∧a l r.2.1 r.2.2)∨(r.1 ≠ .aO∧c r)) (k:∀r,c r→Wp (g r) Q):Wp ((bZ f ds h).bind g) Q:=by
 obtain⟨b,i,j,d,e⟩:=HW a (λb ds h=>c (b,ds,h)) (λk ds h p=>by
  obtain⟨⟨b,i,j⟩,d,e⟩:=step k ds h p;exact⟨b,i,j,d,e⟩) n ds h o
 rw[d];exact k _ e
theorem qg{T:aZ}{t e:Nat}{i j:TI}(r:T t=Option.some i)(hi:i.td = .sl e)(o:T e=Option.some j)(v:0<j.V){h:Z}{n0:Nat}(q:n0≤h.length){rows:List (List D)}{x y:D}(s:Own h n0 e j.V rows x)
  {ys:List (List D)} (u:g9 h j.V y=Option.some ys) (p:cC (rows.length+ys.length) j.fJ=true) {c:Type} {f:D × Z→Option c} {Q:c→Prop}
  (k:∀b h',Own h' n0 e j.V (rows++ys) b→h.length≤h'.length→(∀a,a<n0→h'[a]?=h[a]?)→(∀a,a<h.length→¬x.eN a→h'[a]?=h[a]?)→(∀a,b.eN a→x.eN a∨h.length≤a)→Wp (f (b,h')) Q):Wp ((dH T h t t x y).bind f) Q:=by
 obtain⟨b,h',e,d,g,l,m,n⟩:=CF r hi o v q s u p;rw[e];exact k b h' d g l m n
theorem kG{n:Nat}{h:Z}{o T V kk off:Nat}{rows:List (List D)}{row:List D}{v:D}(a:h[o]?=Option.some (.row T V rows))(l:rows[kk]?=Option.some row)(m:(bT v).length=n)(g:off+n≤row.length)(e:v.eZ=true){b:Type}{f:Z→Option b}{Q:b→Prop}
  (k:∀h',h'[o]?=Option.some (.row T V (rows.set kk (dF row off (bT v))))→bY o h h'→Wp (f h') Q):Wp ((il n h (.ptr o kk off) v).bind f) Q:=by
 have i:=(bB.1 a).1;have c:il n h (.ptr o kk off) v=Option.some (h.set o (.row T V (rows.set kk (dF row off (bT v))))):=by
  subst m;have d:Nat.ble (off+(bT v).length) row.length=true:=h5 g;simp only[il,a,l,Nat.beq_refl,d,e,Bool.and_true]
 rw[c];exact k _ (by simp[i]) ⟨by simp,λp j=>hZ (Ne.symm j)⟩
@[simp] theorem yx(T:aZ)(t:Nat)(k:IntKind)(a b:Int):U T .and t (.int k a) (.int k b)=Option.some (.int k (k.wrap (BitVec.ofInt k.bits a &&& BitVec.ofInt k.bits b).toNat)):=by simp[U,fW]
@[simp] theorem Lr(T:aZ)(t:Nat)(k:IntKind)(a b:Int):U T .or t (.int k a) (.int k b)=Option.some (.int k (k.wrap (BitVec.ofInt k.bits a ||| BitVec.ofInt k.bits b).toNat)):=by simp[U,fW]
@[simp] theorem Lv(T:aZ)(t:Nat)(k:IntKind)(a b:Int):U T .xor t (.int k a) (.int k b)=Option.some (.int k (k.wrap (BitVec.ofInt k.bits a ^^^ BitVec.ofInt k.bits b).toNat)):=by simp[U,fW]
@[simp] theorem Ly(k:IntKind)(a:Int):fM .neg (.int k a)=Option.some (.int k (k.wrap (0 - a))):=id rfl
@[simp] theorem Lz(k:IntKind)(a:Int):fM .xor (.int k a)=Option.some (.int k (k.wrap (BitVec.ofInt k.bits (if k.signed then -1 else k.max) ^^^ BitVec.ofInt k.bits a).toNat)):=id rfl
theorem eI{h:Z}{o T V kk:Nat}{rows:List (List D)}(a:h[o]?=Option.some (.row T V rows)):h.row o kk=rows[kk]?:=by simp[Z.row,a]
@[simp] theorem nr(T:aZ)(o i f:Nat):fp T (.ptr o i f)=Option.some (.ptr o i f):=id rfl
@[simp] theorem Lt(T:aZ)(t:Nat)(k k2:IntKind)(a b:Int):U T .shr t (.int k a) (.int k2 b)=if b<0 then none else some (.int k (a.fdiv (2 ^ (min b.toNat k.bits)))):=id rfl
@[simp] theorem Ls(T:aZ)(t:Nat)(k k2:IntKind)(a b:Int):U T .shl t (.int k a) (.int k2 b)=if b<0 then none else some (.int k (k.wrap (a*2 ^ (min b.toNat k.bits)))):=id rfl
theorem Dr(T:aZ)(t:Nat)(s a:List UInt8)(h:s.length+a.length≤9223372036854775807):U T .add t (.str s) (.str a)=some (.str (s++a)):=bN h
theorem vR{T:aZ}{t e z:Nat}{i j:TI}(m:T t=some i)(hi:i.td = .sl e)(h:T e=some j)(o:j.V=z){c:Type}{f:c→List D}{l:List c}{d:D}(g:aV z f l d){k:IntKind}{n:Int}(a:0≤n)(b:n≤l.length):
  ∃d',gj T t false true false [d,.int k n]=some d'∧aV z f (l.take n.toNat) d':=by
 simp only[gj,fL,O,iJ,m,hi,h];rcases g with⟨rfl,rfl⟩|⟨p,rfl⟩
 ·have:n=0:=by simpa using Int.le_antisymm b a
  subst this;exact⟨_,rfl,.inl ⟨rfl,rfl⟩⟩
 ·simp[o,a,b];right;exact⟨_,by rw[sn]⟩
theorem Gs{T:aZ}{t e:Nat}{i j:TI}(g:T t=some i)(hi:i.td = .sl e)(f:T e=some j)(h:j.V=1){k:IntKind}{zs:List Int}{d:D}(c:iw k zs d){k2:IntKind}{n:Int}(a:0≤n)(b:n≤zs.length):
  ∃d',gj T t false true false [d,.int k2 n]=some d'∧iw k (zs.take n.toNat) d':=by
 simp only[gj,fL,O,iJ,g,hi,f];rcases c with⟨rfl,rfl⟩|rfl
 ·have:n=0:=by simpa using Int.le_antisymm b a
  subst this;exact⟨_,rfl,.inl ⟨rfl,rfl⟩⟩
 ·simp[h,a,b,ints];right;simp[ints]
theorem ns{d:D}(h:d.one=true):bT d=[d]∧d.eZ=true:=by cases d<;>first|exact⟨rfl,rfl⟩|(simp[D.one]at h)
theorem Gv{k:IntKind}{zs:List Int}{d:D}(a:iw k zs d):d.one=true:=by
 rcases a with⟨rfl,_⟩|rfl<;>rfl
theorem v8(e V:Nat)(h:Z)(cs:List D)(a:cs.length=V)(b:0<V):pC e V h (.agg cs)=some (.ptr h.length 0 0,aK h e V [cs]):=by
 simp[pC,D.eZ,bT,a,b]
theorem j2(k:IntKind)(n:Int):bT (.int k n)=[.int k n]:=id rfl
theorem j3(s:List UInt8):bT (.str s)=[.str s]:=id rfl
theorem j1(b:Bool):bT (.bool b)=[.bool b]:=id rfl
theorem j0(cs:List D):bT (.agg cs)=cs:=id rfl
theorem sL{T:aZ}{t:Nat}{i:TI}{fs:List (Nat × Nat × Nat)}(b:T t=Option.some i)(hi:i.td = .st fs){a:List Nat}{ds cs:List D}(h:jc fs i.zero a ds=Option.some cs):eE T t a ds=Option.some (.agg cs):=by
 simp only[eE,b,hi,h,O]
theorem ka{fs:List (Nat × Nat × Nat)}{cs:List D}{i:Nat}{a:List Nat}{d:D}{ds:List D}{h off V:Nat}(e:fs[i]?=Option.some (h,off,V))(h2:(bT d).length=V)(f:off+V≤cs.length)(g:d.eZ=true):
  jc fs cs (i::a) (d::ds)=jc fs (dF cs off (bT d)) a ds:=by
 have b:Nat.beq (bT d).length V=true:=by rw[h2];exact Nat.beq_refl V
 have c:Nat.ble (off+V) cs.length=true:=h5 f;simp only[jc,e,b,c,g,Bool.and_self]
theorem Ha{T:aZ}{t e n z:Nat}{i j:TI}(g:T t=Option.some i)(hi:i.td = .arr n e)(c:T e=Option.some j)(h:j.V=z)(f:0<z){cs:List D}{k:IntKind}{v:Int}(a:0≤v)(b:v<(n:Int))(d:v.toNat*z<cs.length):
  aM T t (.aE cs) (.int k v)=Option.some (.aE (cs.drop (v.toNat*z))):=by
 simp[aM,kT,g,hi,c,h,a,b,f,d]
theorem I7{T:aZ}{t e z o r n:Nat}{i j:TI}(d:T t=some i)(hi:i.td = .sl e)(b:T e=some j)(f:j.V=z)(c:0<z){k:IntKind}{m:Nat}(a:m≤n):
  gj T t false true false [.S z o r n,.int k m]=some (.S z o r m):=by
 have g:(m:Int)≤(n:Int):=by omega
 simp[gj,fL,iJ,d,hi,b,f,c,a]
theorem Wp.val{b:Type}{x:Option b}{a:b}(h:Wp x λp=>p=a):x=Option.some a:=by
 obtain⟨p,c,rfl⟩:=h;exact c
theorem zy{a:Type}{l:List a}{n:Nat}(h:n<l.length):∃x,l[n]?=Option.some x:=⟨_,cA h⟩
theorem iU(n:Nat)(h:n<9223372036854775807):IntKind.wrap .i64 ((n:Int)+1)=((n+1:Nat):Int):=by
 rw[cX (by omega) (by omega)];omega
theorem jd{a b:Nat}(h:decide ((a:Int)<(b:Int))=true):a<b:=by
 have:=AD h;omega
end Go.Pi
namespace Go.Pi
open Go.Eng Go.ChangeShapes Go.WideShapes Go.ChangeAt Go.RowKit Go.Deep
section
variable {H:Type} {enc:TypeId × Value→H} {P:Program} {W:World}
end
end Go.Pi
namespace Go.Eng
abbrev sx:=@Option.some.inj
end Go.Eng
namespace Go.Pi
open Go.Eng Go.ChangeShapes Go.WideShapes Go.ChangeAt Go.RowKit
theorem Gz{P:Program}{f:World}{v:String}{g t n e:Nat}{k:IntKind}{zs:List Int}{laid:List (String × DataW Unit)}(s:P.globalNamed v=some g)(M:(P.globals[g]?).map (·.type)=some t)(Q:P.underlying t=some (.array n e))
  (D:P.underlying e=some (.int k)) (B:P.cellsOf e=1) (L:(laid.all λx=>x.2.handleName?.isNone)=true) (I:laid=[(v,.agg (zs.map λz =>.lit (.int k z)))]) (h:laidMetH P laid f) :
  aB (Gh.all f) (.pointer (some ⟨g,0,none⟩)) (.aE (zs.map λz =>.int k z)):=by
 rw[MakeChecks.laidMetH_plain _ _ _ L]at h;subst I;obtain⟨af,⟨X,ai,m,W,ae,ag,F,N,R,C,_,_⟩,_,_⟩:=h;obtain rfl:=sx (s.symm.trans F);obtain rfl:=sx (M.symm.trans N);obtain⟨i,ad,rfl,l,aa,ab,E⟩:=DataW.trod_array Q C;simp only[p9,DataW.agg.injEq]at l;have ac:zs.length=i.length:=by
  have:=mQ List.length l.1;simpa using this
 have r:∀(b:Nat) (z:Int),zs[b]?=some z→f.cell? ⟨g,b,none⟩=some (.int k z):=λb z c=>by
  have H:b<n:=by
   have:=(bB.1 c).1;omega
  have u:i[b]?=some i[b]:=cA (by omega);have p:=E b H;rw[u,B,Nat.mul_one]at p;obtain⟨j,w,y,_⟩:=DataW.trod_int D p;have T:j=z:=by
   have q:(i.map (·.1))[b]?=some (.lit (.int k j)):=by rw[dG,u,y];rfl
   rw[← l.1,dG,c]at q;simpa using q.symm
  subst T;rw[World.var?_cell s R b];have A:(m.toList.drop b)[0]?=some (.int k j):=by
   have:((m.toList.drop b).take 1)[0]?=some (.int k j):=by rw[w];rfl
   rw[eP]at this;simpa using this
  simpa using A
 refine .aE g 0 _ (λd =>.int k (zs.getD d 0)) (λK=>⟨?_,λG=>G⟩) (λd o a=>?_) (λd o a=>rfl) (λd o a=>?_)
 ·cases zs with
  |nil=>simp at K
  |cons z ah=>exact sG f _ (r 0 z rfl)
 ·rw[dG]at a;cases c:zs[d]? with
  |none=>rw[c]at a;cases a
  | some z =>
   rw[dA];show f.cell? ⟨g,d,none⟩=_;rw[r d z c,mC,c];rfl
 ·rw[dG]at a;cases c:zs[d]? with
  |none=>rw[c]at a;cases a
  | some z =>
   rw[c]at a;simp at a;subst a;rw[mC,c];exact .int k z
end Go.Pi
namespace Go.Pi
open Go.Eng
inductive MO where
 |mp (n:Nat) (f:Int→Option Int)
 |it (m n:Nat) (f:Int→Option Int) (left:Int→Bool) (cur:Option (Int × Int))
abbrev Mp:=Nat→Option MO
def Mp.set(c:Mp)(b:Nat)(o:MO):Mp:=λa=>if a=b then some o else c a
def Mp.mr(d:Mp)(b:Nat)(o:MO):Mp:=λc=>if c=b then some o else match d c with
 |some (.it a h f g e)=>if a=b then none else some (.it a h f g e)
 |y=>y
def M0:Mp:=λ_=>none
def eB(x:Int):Prop := -9223372036854775808≤x∧x≤9223372036854775807
instance (x:Int):Decidable (eB x):=by unfold eB;exact inferInstance
open Classical in
noncomputable def n6{b:Type}(f:b→Option Unit):Option Unit:=if ∀a,f a=some ()then some ()else none
open Classical in
noncomputable def na(p:Prop)(x:Option Unit):Option Unit:=if p then x else some ()
theorem kQ{b:Type}{f:b→Option Unit}:n6 f=some ()↔∀a,f a=some ():=by
 unfold n6;split<;>simp_all
theorem kb{p:Prop}{x:Option Unit}:na p x=some ()↔(p→x=some ()):=by
 unfold na;split<;>simp_all
theorem mP{p:Prop}{x:Option Unit}:eD p x=some ()↔p∧x=some ():=by
 unfold eD;split<;>simp_all
abbrev MK:=D→Mp→Option Unit
noncomputable def q2(b:Mp)(c:MK):Option Unit:=n6 λa=>na (b a=none) (c (.raw (.map (some a))) (b.set a (.mp 0 λ_=>none)))
noncomputable def oZ(b:Mp)(f g:D)(h:Bool)(d:MK):Option Unit:=match f,g with
 | .raw (.map (some e)),.int .i64 a=>match b e with
  | some (.mp _ c)=>eD (eB a) (match h with
   |true=>d (.bU [.int .i64 ((c a).getD 0),.bool (c a).isSome]) b
   |false=>d (.int .i64 ((c a).getD 0)) b)
  |_=>none
 |_,_=>none
noncomputable def nk(a:Mp)(h i dv:D)(g:MK):Option Unit:=match h,i,dv with
 | .raw (.map (some b)),.int .i64 d,.int .i64 c=>match a b with
  |some (.mp e j)=>eD (eB d∧eB c∧e<1000000000) (g .bJ (a.mr b (.mp (e+1) λf=>if f=d then some c else j f)))
  |_=>none
 |_,_,_=>none
noncomputable def pc(a:Mp)(f:D)(e:MK):Option Unit:=match f with
 | .raw (.map (some c))=>match a c with
  |some (.mp g d)=>n6 λb=>na (a b=none) (e (.raw (.pointer (some ⟨b,0,none⟩))) (a.set b (.it c g d (λh=>(d h).isSome) none)))
  |_=>none
 |_=>none
noncomputable def pa(c:Mp)(i:D)(e:MK):Option Unit:=match i with
 | .raw (.pointer (some ⟨g,0,none⟩))=>match c g with
  |some (.it h j f d _)=>(na (∀b,eB b→d b=false) (e (.bU [.bool false]) c)).bind λ_ =>
    n6 λa:Int × Int=>na (eB a.1∧eB a.2∧d a.1=true∧f a.1=some a.2) (e (.bU [.bool true,.int .i64 a.1,.int .i64 a.2]) (c.set g (.it h j f (λb=>d b && !(b==a.1)) (some a))))
  |_=>none
 |_=>none
noncomputable def oY(a:Mp)(d:D)(c:MK):Option Unit:=match d with
 | .raw (.pointer (some ⟨e,0,none⟩))=>match a e with
  |some (.it _ _ _ _ (some b))=>c (.bU [.int .i64 b.1,.int .i64 b.2]) a
  |_=>none
 |_=>none
def zE:Op→Bool
 |.makeMap _ _=>true
 |.lookup _ _ _ _=>true
 |.mapUpdate _ _ _ _=>true
 |.range _ _=>true
 |.next _ _=>true
 |.entry _=>true
 |_=>false
noncomputable def vk(X:Cx)(mt:Nat)(k:Op)(e:DE)(c:Mp)(b:MK):Option Unit:=match k with
 | .makeMap t none=>match Nat.beq t mt with
  |true=>q2 c b
  |false=>none
 | .lookup t d h j=>match Nat.beq t mt,gG X e d,gG X e h with
  |true,some a,some f=>oZ c a f j b
  |_,_,_=>none
 | .mapUpdate t d h l=>match Nat.beq t mt,gG X e d,gG X e h,gG X e l with
  |true,some a,some f,some i=>nk c a f i b
  |_,_,_,_=>none
 | .range t d=>match Nat.beq t mt,gG X e d with
  |true,some a=>pc c a b
  |_,_=>none
 | .next g false=>match gG X e g with
  |some a=>pa c a b
  |none=>none
 | .entry g=>match gG X e g with
  |some a=>oY c a b
  |none=>none
 |_=>none
noncomputable def pd(X:Cx)(g:bV)(c:Nat)(fz f:List Nat)(mt:Nat)(l:List Oper):List Oper→DE→Z→Mp→(DE→Z→Mp→Option Unit)→Option Unit
 |[],e,h,b,a=>a e h b
 | o::r,e,h,b,a=>match zE o.op with
  | true=>match o.guard with
   |none=>vk X mt o.op e b λd i=>gk c o.dst d e h λe' h'=>pd X g c fz f mt l r e' h' i a
   |some _=>none
  |false=>iQ X g c fz f l o e h λe' h'=>pd X g c fz f mt l r e' h' b a
structure kJ (P:Program) (t k:Nat):Prop where
 ht:P.underlying t=some (.map k k)
 hk:P.underlying k=some (.int .i64)
 z:∀w,(zeroValue k).run P w = .ok (.int .i64 0) w
def ks(b:DataW Unit)(f:Int→Option Int):Prop:=Maps.IsMap b∧∀a,eB a→Maps.has b (.int .i64 a)=(f a).isSome∧∀c,b.atKey (.int .i64 a) c=match f a with
 |some d =>.lit (.int .i64 d)
 |none=>c
theorem rG{x:Int}:(Lit.int .i64 x).wf=true↔eB x:=by
 have a:IntKind.min .i64 = -9223372036854775808:=rfl;have b:IntKind.max .i64=9223372036854775807:=rfl;simp only[Lit.wf,dQ,sX,eB,a,b]
section
variable {P:Program} {t k:Nat} (hM:kJ P t k)
include hM
theorem kJ.key{x:Int}(a:eB x):keyOf P k (.int .i64 x)=some (.int .i64 x):=Maps.keyOf_int_mk hM.hk (rG.2 a)
theorem kJ.isKey{x:Int}(a:eB x):WideAt.IsKeyLit (.int .i64 x):=(Maps.int_keyed hM.hk).key (hM.key a)
omit hM in
theorem ks.empty:ks (.map []) λ_=>none:=⟨Maps.isMap_empty,λa _=>⟨rfl,λb=>rfl⟩⟩
theorem ks.put{d:DataW Unit}{f:Int→Option Int}(h:ks d f){i c:Int}(hi:eB i):ks (d.put (.int .i64 i) (.lit (.int .i64 c))) λx=>if x=i then some c else f x:=by
 refine⟨h.1.put _ _,λx a=>?_⟩;by_cases b:x=i
 ·subst b;simp only[bN rfl];exact⟨Maps.has_put_same h.1 (hM.isKey a) _,λg=>Maps.atKey_put_same h.1 (hM.isKey a) _ _⟩
 ·have e:(Lit.int .i64 x) ≠ .int .i64 i:=λj=>b (by injection j)
  simp only[cI b];refine⟨(Maps.has_put_other e _).trans (h.2 x a).1,λg=>?_⟩;rw[Maps.atKey_put_other e];exact(h.2 x a).2 g
end
def nY(P:Program)(k:Nat)(w:World)(b:Nat):MO→Prop
 |.mp n f=>∃a,w.ownsMap P k (plainElem P k) b n a∧ks a f
 |.it m n f left g=>∃a d e,w.ranges P k (plainElem P k) m b n a d e∧ks a f∧(∀x,eB x→d (.int .i64 x)=left x) ∧
   ∀x c,g=some (x,c)→(Instr.entry (.pointer (some ⟨b,0,none⟩))).run P w = .ok (.tuple #[.int .i64 x,.int .i64 c]) w
theorem EZ{P:Program}{w w':World}{b m:Nat}{e:Nat}{seen:Array Nat}{a:Nat}{d:Array MapEntry}{c:Nat}(o:w'.heap[b]?=w.heap[b]?)(q:w'.heap[m]?=w.heap[m]?)
  (i:w.heap[b]?=some (.mapIter (some m) e seen a)) (h2:w.heap[m]?=some (.map d c)) {v:Value} (h:(Instr.entry (.pointer (some ⟨b,0,none⟩))).run P w = .ok v w):(Instr.entry (.pointer (some ⟨b,0,none⟩))).run P w' = .ok v w':=by
 have l:(getObj b).run P w = .ok (.mapIter (some m) e seen a) w:=by simp[getObj,Sem.run,i]
 have f:(getObj m).run P w = .ok (.map d c) w:=by simp[getObj,Sem.run,h2]
 have n:(getObj b).run P w' = .ok (.mapIter (some m) e seen a) w':=by simp[getObj,Sem.run,o,i]
 have g:(getObj m).run P w' = .ok (.map d c) w':=by simp[getObj,Sem.run,q,h2]
 unfold Instr.entry at h ⊢;simp only[eX,l,f,n,g,e9]at h ⊢;cases k:seen.back? with
 |none=>simp[k]at h
 | some r =>
  simp only[k,eX,f,g,e9]at h ⊢;by_cases j:(c != a)=true
  ·simp[j]at h
  ·simp only[j]at h ⊢;cases p:d.find? (·.born==r)with
   |none=>simp[p]at h
   |some s=>simp_all
theorem nY.bA{P:Program}{k:Nat}{w w':World}{b:Nat}{o:MO}(h:nY P k w b o)(j:w'.heap[b]?=w.heap[b]?)(A:∀m n f l c,o = .it m n f l c→w'.heap[m]?=w.heap[m]?):nY P k w' b o:=by
 cases o with
 | mp n f =>
  obtain⟨d,⟨g,e,a,v⟩,i⟩:=h;exact⟨d,⟨g,e,j.trans a,v⟩,i⟩
 | it m n f l c =>
  obtain⟨d,s,u,⟨g,e,E,seen,t,a,r,B,z,q,D⟩,i,x,y⟩:=h;have p:=A _ _ _ _ _ rfl;exact⟨d,s,u,⟨g,e,E,seen,t,p.trans a,r,B,z,j.trans q,D⟩,i,x,λF G C=>EZ j p q a (y F G C)⟩
structure g5 (P:Program) (k B0:Nat) (g:Gh) (M:Mp):Prop where
 of:∀b o,M b=some o→B0≤b∧g.cC b∧nY P k g.w b o
 it:∀b m n f l c,M b=some (.it m n f l c)→∃n' f',M m=some (.mp n' f')
theorem g5.zero(P:Program)(k b:Nat)(g:Gh):g5 P k b g M0:=⟨λc j a=>(by cases a),λc h i e f d a=>(by cases a)⟩
theorem g5.ext{P:Program}{k d:Nat}{g g':Gh}{e:Mp}(h:g5 P k d g e)(b:aS g g'):g5 P k d g' e:=by
 refine⟨λa s i=>?_,h.it⟩;obtain⟨m,f,n⟩:=h.of a s i;refine⟨m,(b.cC a f).1,n.bA (b.cC a f).2 λc r l q j o=>?_⟩;subst o;obtain⟨u,t,p⟩:=h.it a c r l q j i;exact(b.cC c (h.of c _ p).2.1).2
theorem z7{g:Gh}{h:Z}(hi:Inv g h){w':World}(d:g.w.grownBy w' none)(E:w'.heap.size=g.w.heap.size+1):∃g':Gh,g'.w=w'∧aS g g'∧Inv g' h∧g'.cC g.w.heap.size:=by
 let g':Gh:=⟨w',g.ms,λa=>g.L a∨a=g.w.heap.size⟩
 have l:∀a,a<g.w.heap.size→w'.heap[a]?=g.w.heap[a]?:=λa b=>d.block a b (by simp)
 have x:g3 g g':=⟨d.os,d.tape,d.output,d.size,λ_ _ k=>k,λa b=>⟨⟨by show a<w'.heap.size;have:=b.1;omega,λi=>by
  rcases i with i|i
  ·exact b.2 i
  ·have:=b.1;omega⟩,l a b.1⟩⟩
 have n:aS g g':=⟨x,λa b=>⟨⟨by show a<w'.heap.size;have:=b.1;omega,.inl b.2.1,b.2.2⟩,l a b.1⟩⟩
 refine⟨g',rfl,n,⟨hi.len,λf o B r1 e=>?_,hi.inj,λa b=>?_,λf j e=>?_⟩,?_,.inr rfl,λf j e=>?_⟩
 ·obtain⟨m,p,k,c⟩:=hi.live f o B r1 e;refine⟨m,p,k,?_,c.fN,c.pos,.inl c.hL,c.len,c.le,c.room,c.row,λy A r z q s=>?_⟩
  ·show ∃D,w'.heap[m.b]?=_∧_;rw[l m.b (hi.iY c.hL)];exact c.ff
  ·obtain⟨C,t,u,v⟩:=c.cell y A r z q s;exact⟨C,t,u,v.ext n⟩
 ·show a<w'.heap.size;rcases b with b|b
  ·have:=hi.L a b;omega
  ·omega
 ·show j.b<w'.heap.size;have:=hi.msb f j e;omega
 ·show g.w.heap.size<w'.heap.size;omega
 ·have:=hi.msb f j e;omega
theorem z8{n g:Gh}{h:Z}(f:aS n g)(hi:Inv g h){b:Nat}(M:n.w.heap.size≤b)(r:g.cC b){w':World}(d:g.w.grownBy w' (some b)):∃g':Gh,g'.w=w'∧aS n g'∧g3 g g'∧Inv g' h∧(∀c,g.cC c→g'.cC c):=by
 let g':Gh:=⟨w',g.ms,g.L⟩
 have k:∀c,c<g.w.heap.size→c≠b→w'.heap[c]?=g.w.heap[c]?:=λc a C=>d.block c a (by simpa using λo=>C o)
 have s:g3 g g':=⟨d.os,d.tape,d.output,d.size,λ_ _ j=>j,λc a=>⟨⟨gL a.1 d.size,a.2⟩,k c a.1 λo=>a.2 (o▸r.2.1)⟩⟩
 refine⟨g',rfl,⟨⟨d.os.trans f.os,d.tape.trans f.tape,d.output.trans f.output,h6 f.size d.size,f.ms,λc a=>?_⟩,λc a=>?_⟩,s,⟨hi.len,λm t H r1 p=>?_,hi.inj,λc a=>gL (hi.L c a) d.size,λm F p=>gL (hi.msb m F p) d.size⟩,λc a=>⟨gL a.1 d.size,a.2⟩⟩
 ·obtain⟨i,q⟩:=f.fz c a;refine⟨⟨gL i.1 d.size,i.2⟩,(k c i.1 ?_).trans q⟩;have:=a.1;omega
 ·obtain⟨i,q⟩:=f.cC c a;refine⟨⟨gL i.1 d.size,i.2⟩,(k c i.1 ?_).trans q⟩;have:=a.1;omega
 ·obtain⟨l,u,j,e⟩:=hi.live m t H r1 p;refine⟨l,u,j,?_,e.fN,e.pos,e.hL,e.len,e.le,e.room,e.row,λD G x E v y=>?_⟩
  ·show ∃K,w'.heap[l.b]?=_∧_;rw[k l.b (hi.iY e.hL) (r.2.2 m l j)];exact e.ff
  ·obtain⟨I,z,A,B⟩:=e.cell D G x E v y;exact⟨I,z,A,B.gH s⟩
theorem eA.gH{n:Nat}{g g':Gh}{e:DE}{a:Act}(h:eA n g e a)(d:g3 g g'):eA n g' e a:=⟨h.size,h.defers,λt b c=>(h.get t b c).gH d⟩
theorem nu{g:Gh}{v a:Value}(h:aB g v (.raw a)):v=a:=by cases h;rfl
theorem rh{g:Gh}{v:Value}{i:Int}(h:aB g v (.int .i64 i)):v = .int .i64 i:=by cases h;rfl
section
variable {P:Program} {X:Cx} {mt k:Nat} {g0 g:Gh} {h:Z} {nt:Nat} {e:DE} {a:Act} {M:Mp}
theorem vm(d:g5 P k g0.w.heap.size g M){g':Gh}{b:Nat}(v:∀c,g.cC c→g'.cC c)(e:∀c,c<g.w.heap.size→c≠b→g'.w.heap[c]?=g.w.heap[c]?){c:Nat}{o:MO}(h:M c=some o)(q:c≠b)(r:∀m n f l a,o = .it m n f l a→m≠b):nY P k g'.w c o:=by
 obtain⟨u,j,p⟩:=d.of c o h;refine p.bA (e c j.1 q) λm n f l a i=>?_
 have:=r m n f l a i;subst i;obtain⟨x,t,s⟩:=d.it c m n f l a h;exact e m (d.of m _ s).2.1.1 this
theorem IZ (q:kJ P mt k) (ab:aS g0 g) (hi:Inv g h) (cb:eU g X.gl) (ch:eA nt g e a) (i:g5 P k g0.w.heap.size g M) {o:Oper} (ak:o.guard=none) {bm:MK} (c:vk X mt o.op e M bm=some ()) {bu:Array Oper} {bw:List Oper} {Q:Exit→Act→World→Prop}
  (ae:∀d bo g' v,bm d bo=some ()→aS g0 g'→g3 g g'→Inv g' h→g5 P k g0.w.heap.size g' bo→aB g' v d→wpList P bu Q bw (a.put o.dst v) g'.w):wpList P bu Q (o::bw) a g.w:=by
 have ev:∀{j:Operand} {d:D},gG X e j=some d→aB g (a.eval j) d:=λ{j d} az=>oj cb (λau d _ F=>ch.get au d F) az
 have av:=Maps.int_keyed q.hk;unfold vk at c;split at c
 ·
  rename_i au H;split at c
  case h_2=>cases c
  have c:=kQ.1 c g.w.heap.size;have bj:M g.w.heap.size=none:=by
   cases x:M g.w.heap.size with
   |none=>rfl
   |some G=>have:=(i.of _ _ x).2.1.1;omega
  have c:=kb.1 c bj;obtain⟨g',B,aj,am,E⟩:=z7 hi (w':=g.w.alloc (.map #[] 0)) (World.grownBy_alloc g.w _ none) (qT _ _);refine wpList_plain ak λb2 bc=>?_
  unfold Oper.wp;have bk:(execOp a.eval o).run P g.w = .ok (.value (.map (some g.w.heap.size))) (g.w.alloc (.map #[] 0)):=by simp[execOp,H,show(Instr.makeMap au none).run P g.w = .ok (.map (some g.w.heap.size)) (g.w.alloc (.map #[] 0))from rfl,Result.andThen]
  rw[bk,lF,← B];refine bc _ _ (ae _ _ g' _ c (ab.trans aj) aj.tog3 am ⟨λs G b=>?_,λs r m n R f b=>?_⟩ (.raw _))
  ·unfold Mp.set at b;split at b
   ·rename_i ai;injection b with b;subst b;subst ai;refine⟨ab.size,E,.map [],?_,ks.empty⟩;rw[B];exact World.ownsMap_made g.w P k _
   ·exact(i.ext aj).of s G b
  ·unfold Mp.set at b;split at b
   ·cases b
   ·obtain⟨C,A,p⟩:=i.it s r m n R f b;have:=(i.of _ _ p).2.1.1;refine⟨C,A,?_⟩;unfold Mp.set;rw[cI (by omega)];exact p
 ·
  rename_i au r j cq H;split at c
  case h_2=>cases c
  rename_i a3 b5 F aa a4;have F:=gg F;subst F;unfold oZ at c;split at c
  case h_2=>cases c
  rename_i s ag;split at c
  case h_2=>cases c
  rename_i m n an;obtain⟨ap,c⟩:=mP.1 c;obtain⟨ac,ad,z,aq,L⟩:=i.of s _ an;obtain⟨ci,cj⟩:=L.2 ag ap;have aw:∀f,z.atKey (.int .i64 ag) (.lit (.int .i64 0)) = .lit (.int .i64 f)→f=(n ag).getD 0:=λf u=>by
   rw[cj]at u;cases ax:n ag with
   |none=>rw[ax]at u;simp at u;simp[u]
   |some G=>rw[ax]at u;simp at u;simp[u]
  cases cq with
  | false =>
   refine wpList_lookup_own_int g.w ak r j _ H k k .i64 av q.ht q.hk (q.z _) s m z (nu (ev aa)) aq _ _ (rh (ev a4)) (q.key ap) λf u _=>?_
   rw[aw f u];exact ae _ _ g _ c ab (aS.refl g).tog3 hi i (.int _ _)
  | true =>
   refine wpList_lookup_own_ok_int g.w ak r j _ H k k .i64 av q.ht q.hk (q.z _) s m z (nu (ev aa)) aq _ _ (rh (ev a4)) (q.key ap) λf u _=>?_
   rw[aw f u,ci];refine ae _ _ g _ c ab (aS.refl g).tog3 hi i (.bU [_,_] [_,_] rfl λN v d y K=>?_)
   match N with
   |0=>cases y;cases K;exact .int _ _
   |1=>cases y;cases K;exact .bool _
   |N+2=>cases y
 ·
  rename_i au r j v H;split at c
  case h_2=>cases c
  rename_i a3 b5 cs F aa a4 b6;have F:=gg F;subst F;unfold nk at c;split at c
  case h_2=>cases c
  rename_i s ag f;split at c
  case h_2=>cases c
  rename_i m n an;obtain⟨⟨ap,bg,cu⟩,c⟩:=mP.1 c;obtain⟨ac,ad,z,aq,L⟩:=i.of s _ an;refine wpList_mapUpdate_own g.w ak r j v _ H k k av q.ht (plainElem P k) s m z (nu (ev aa)) aq (by unfold maxLen;omega) _ _ _ (rh (ev a4)) (rh (ev b6)) (q.key ap) _ [] (plainElem_int q.hk (rG.2 bg)) λw' cf al=>?_
  obtain⟨g',B,bd,be,am,E⟩:=z8 ab hi ac ad al;have a7:∀f,f<g.w.heap.size→f≠s→g'.w.heap[f]?=g.w.heap[f]?:=λf u af=>by rw[B];exact al.block f u (by simpa using λl=>af l)
  rw[← B];refine ae _ _ g' _ c bd be am ⟨λah G b=>?_,λah r m n R f b=>?_⟩ .bJ
  ·unfold Mp.mr at b;split at b
   ·rename_i ai;injection b with b;subst b;subst ai;refine⟨ac,E _ ad,_,?_,ks.put q L ap⟩;rw[B];exact cf
   ·rename_i af;split at b
    ·rename_i co cp b7 cn b3 x;split at b
     ·cases b
     ·rename_i bh;injection b with b;subst b;obtain⟨a0,a1,bv⟩:=i.of _ _ x;exact⟨a0,E _ a1,vm i E a7 x af λr m n R I l=>by injection l with l;subst l;exact bh⟩
    ·rename_i bi;obtain⟨a0,a1,bv⟩:=i.of _ _ b;exact⟨a0,E _ a1,vm i E a7 b af λr m n R I l=>absurd (l▸b) (bi r m n R I)⟩
  ·unfold Mp.mr at b;split at b
   ·cases b
   ·split at b
    ·rename_i co cp b7 cn b3 x;split at b
     ·cases b
     ·rename_i bh;injection b with b;injection b with a2 bx bz b0 b1;subst a2;obtain⟨C,A,cm⟩:=i.it _ _ _ _ _ _ x;exact⟨C,A,by unfold Mp.mr;rw[cI bh,cm]⟩
    ·rename_i bi;exact absurd b (bi _ _ _ _ _)
 ·
  rename_i au r H;split at c
  case h_2=>cases c
  rename_i a3 F aa;have F:=gg F;subst F;unfold pc at c;split at c
  case h_2=>cases c
  rename_i s;split at c
  case h_2=>cases c
  rename_i m n an;obtain⟨ac,ad,z,aq,L⟩:=i.of s _ an;have c:=kQ.1 c g.w.heap.size;have bj:M g.w.heap.size=none:=by
   cases x:M g.w.heap.size with
   |none=>rfl
   |some G=>have:=(i.of _ _ x).2.1.1;omega
  have c:=kb.1 c bj;refine wpList_range_own g.w ak r _ H k k av q.ht (plainElem P k) s m z (nu (ev aa)) aq λw' a8 al br=>?_
  obtain⟨g',B,aj,am,E⟩:=z7 hi al br;rw[← B];refine ae _ _ g' _ c (ab.trans aj) aj.tog3 am ⟨λah G b=>?_,λah r m n R f b=>?_⟩ (.raw _)
  ·unfold Mp.set at b;split at b
   ·rename_i ai;injection b with b;subst b;subst ai;refine⟨ab.size,E,z,Maps.has z,Maps.size z,?_,L,λj az=>(L.2 j az).1,λj f l=>by cases l⟩;rw[B];exact a8
   ·exact(i.ext aj).of ah G b
  ·have ay:∀I G,M I=some G→∀T,(M.set g.w.heap.size T) I=some G:=λI G x T=>by
     have:=(i.of _ _ x).2.1.1;unfold Mp.set;rw[cI (by omega)];exact x
   unfold Mp.set at b;split at b
   ·injection b with b;injection b with a2 bx bz b0 b1;subst a2;exact⟨_,_,ay _ _ an _⟩
   ·obtain⟨C,A,p⟩:=i.it ah r m n R f b;exact⟨C,A,ay _ _ p _⟩
 ·
  rename_i ag H;split at c
  case h_2=>cases c
  rename_i a3 aa;unfold pa at c;split at c
  case h_2=>cases c
  rename_i ar;split at c
  case h_2=>cases c
  rename_i s m n R cr ao;obtain⟨cw,cc,cd⟩:=gu.1 c;obtain⟨ac,ad,z,bn,bp,a8,L,a5,bq⟩:=i.of ar _ ao;refine wpList_next_ranges_ii g.w ak ag H k k .i64 .i64 av q.hk q.hk s ar m z bn bp (nu (ev aa)) a8 (λ_ b9=>?_) (λj f w' b4 cl ck b8 aw cg ct al br bf=>?_)
  ·refine ae _ _ g _ (kb.1 cc λj az=>by rw[← a5 j az];exact b9 _) ab (aS.refl g).tog3 hi i (.bU [_] [_] rfl λN v d y K=>?_)
   match N with
   |0=>cases y;cases K;exact .bool _
   |N+1=>cases y
  ·have a6:=rG.1 cl;have bg:=rG.1 ck;have ca:n j=some f:=by
    have p:=(L.2 j a6).1;have ba:=(L.2 j a6).2;rw[Maps.has_true_of_atKey aw]at p;cases ax:n j with
    |none=>rw[ax]at p;cases p
    | some G =>
     have bb:=ba (.lit (.int .i64 0));rw[aw,ax]at bb;simp at bb;rw[bb]
   have c:=kb.1 (kQ.1 cd (j,f)) ⟨a6,bg,by rw[← a5 j a6];exact b8,ca⟩;obtain⟨g',B,bd,be,am,E⟩:=z8 ab hi ac ad al;have a7:∀f,f<g.w.heap.size→f≠ar→g'.w.heap[f]?=g.w.heap[f]?:=λf u af=>by rw[B];exact al.block f u (by simpa using λl=>af l)
   rw[← B];refine ae _ _ g' _ c bd be am ⟨λah G b=>?_,λah r m n R f b=>?_⟩ (.bU [_,_,_] [_,_,_] rfl λN v d y K=>?_)
   ·unfold Mp.set at b;split at b
    ·rename_i ai;injection b with b;subst b;subst ai;refine⟨ac,E _ ad,z,_,b4,by rw[B];exact cg,L,λT bt=>?_,λT I l=>?_⟩
     ·have:(Lit.int .i64 T).sameKey (.int .i64 j)=(T==j):=by
        by_cases bl:T=j
        ·subst bl;rw[WideAt.sameKey_self (q.isKey bt)];simp
        ·rw[Maps.sameKey_ne (λl=>bl (by injection l))];simp[bl]
      rw[a5 T bt,this]
     ·injection l with l;injection l with p ba;subst p;subst ba;rw[B];exact bf
    ·rename_i af;obtain⟨a0,a1,bv⟩:=i.of _ _ b;refine⟨a0,E _ a1,vm i E a7 b af λr m n R I l ce=>?_⟩;subst l;obtain⟨C,A,p⟩:=i.it _ _ _ _ _ _ b;rw[ce,ao]at p;cases p
   ·have ay:∀I C A,M I=some (.mp C A)→∀T,(M.set ar T) I=some (.mp C A):=λI C A x T=>by
      unfold Mp.set;rw[cI (λl=>by rw[l,ao]at x;cases x)];exact x
    unfold Mp.set at b;split at b
    ·injection b with b;injection b with a2 bx bz b0 b1;subst a2;obtain⟨C,A,p⟩:=i.it _ _ _ _ _ _ ao;exact⟨C,A,ay _ _ _ p _⟩
    ·obtain⟨C,A,p⟩:=i.it _ _ _ _ _ _ b;exact⟨C,A,ay _ _ _ p _⟩
   ·match N with
    |0=>cases y;cases K;exact .bool _
    |1=>cases y;cases K;exact .int _ _
    |2=>cases y;cases K;exact .int _ _
    |N+3=>cases y
 ·
  rename_i ag H;split at c
  case h_2=>cases c
  rename_i a3 aa;unfold oY at c;split at c
  case h_2=>cases c
  rename_i ar;split at c
  case h_2=>cases c
  rename_i r m n R a9 ao;obtain⟨ac,ad,z,bn,bp,a8,L,a5,bq⟩:=i.of ar _ ao;have bf:=bq a9.1 a9.2 rfl;refine wpList_plain ak λb2 bc=>?_
  unfold Oper.wp;have bk:(execOp a.eval o).run P g.w = .ok (.value (.tuple #[.int .i64 a9.1,.int .i64 a9.2])) g.w:=by simp[execOp,H,nu (ev aa),bf,Result.andThen]
  rw[bk,lF];refine bc _ _ (ae _ _ g _ c ab (aS.refl g).tog3 hi i (.bU [_,_] [_,_] rfl λN v d y K=>?_))
  match N with
  |0=>cases y;cases K;exact .int _ _
  |1=>cases y;cases K;exact .int _ _
  |N+2=>cases y
 ·cases c
end
def jD:Code→Bool
 |.region _ c _=>c.toList.any λo=>zE o.op
 |.seq a b=>jD a||jD b
 |.cond _ a b=>jD a||jD b
 |.block _ b=>jD b
 |.loop b=>jD b
 |_=>false
abbrev MB:=List D→Z→Mp→(Ex→List D→Z→Mp→Option Unit)→Option Unit
noncomputable def pz(c:Nat→List D→Z→Mp→Prop)(n:Nat)(d:Ex→List D→Z→Mp→Option Unit)(x:Ex)(ds:List D)(h:Z)(a:Mp):Option Unit:=match x with
 |.aO=>eD (∃b,b<n∧c b ds h a) (some ())
 |x=>d x ds h a
open Classical in
noncomputable def k8(d:MB)(ds:List D)(h:Z)(a:Mp)(e:Ex→List D→Z→Mp→Option Unit):Option Unit:=
 if ∃(c:Nat→List D→Z→Mp→Prop) (b:Nat),c b ds h a∧∀b ds h a,c b ds h a→d ds h a (pz c b e)=some ()then some ()else none
theorem vi{c:MB}{ds:List D}{h:Z}{a:Mp}{d:Ex→List D→Z→Mp→Option Unit}(b:Nat→List D→Z→Mp→Prop)(n:Nat)(e:b n ds h a)(f:∀n ds h a,b n ds h a→c ds h a (pz b n d)=some ()):k8 c ds h a d=some ():=bN ⟨b,n,e,f⟩
noncomputable def mK(X:Cx)(j:bV)(l:hH)(f:lv)(mt:Nat):Code→DE→Z→Mp→(Ex→DE→Z→Mp→Option Unit)→Option Unit
 | .region id n o,e,h,i,g=>match jD (.region id n o)with
  |false=>cK X j l f (.region id n o) e h Unit λx e' h'=>g x e' h' i
  | true=>match o with
   |false=>pd X j f.nt f.fz f.eK mt n.toList n.toList e h i (g .aO)
   |true=>none
 | .seq a b,e,h,i,g=>match jD (.seq a b)with
  |false=>cK X j l f (.seq a b) e h Unit λx e' h'=>g x e' h' i
  |true=>mK X j l f mt a e h i λx e' h' m=>cP x (mK X j l f mt b e' h' m g) λx=>g x e' h' m
 | .cond c a b,e,h,i,g=>match jD (.cond c a b)with
  |false=>cK X j l f (.cond c a b) e h Unit λx e' h'=>g x e' h' i
  | true=>match gG X e c with
   |none=>none
   |some d=>aI d (mK X j l f mt a e h i g) (mK X j l f mt b e h i g)
 | .block id b,e,h,i,g=>match jD (.block id b)with
  |false=>cK X j l f (.block id b) e h Unit λx e' h'=>g x e' h' i
  |true=>mK X j l f mt b e h i λx e' h' m=>g (bO id x) e' h' m
 | .loop b,e,h,i,g=>match jD (.loop b)with
  |false=>cK X j l f (.loop b) e h Unit λx e' h'=>g x e' h' i
  |true=>k8 (λds h' m k=>mK X j l f mt b (fT (fP f.bA b) ds (jJ f.bA b e)) h' m λx e' q p=>k x (gT e' (fP f.bA b)) q p) (gT e (fP f.bA b)) h i
    λx ds h' m=>g x (fT (fP f.bA b) ds (jJ f.bA b e)) h' m
 |c,e,h,i,g=>cK X j l f c e h Unit λx e' h'=>g x e' h' i
noncomputable def mF(X:Cx)(c:bV)(f:hH)(mt:Nat)(fi:eT)(args:List D)(h:Z)(b:D→Z→Option Unit):Option Unit:=match Nat.ble args.length fi.A.nt with
 |true=>mK X c f fi.A mt fi.body (fT (List.range args.length) args []) h M0 λg e a _=>dB g (ll X a e fi.res λd=>b (aD d) a)
 |false=>none
section
variable {P:Program} {X:Cx} {mt k:Nat}
theorem pe(G:kJ P mt k)(H:bQ P X.T){ad:bV}(I:fy P X ad){ab:Nat}{fz ah:List Nat}{l:List Oper}{F:Gh}(C:eU F X.gl){Q:Exit→Act→World→Prop}:∀(ac:List Oper) (e:DE) (h:Z) (E:Mp) (M:DE→Z→Mp→Option Unit),pd X ad ab fz ah mt l ac e h E M=some () →
  ∀(g:Gh) (a:Act),aS F g→Inv g h→eA ab g e a→g5 P k F.w.heap.size g E→(∀e' h' b g' i,M e' h' b=some ()→(∀t,t∉eF ac→bC e' t=bC e t)→aS F g'→Inv g' h'→eA ab g' e' i→g5 P k F.w.heap.size g' b→Q .normal i g'.w)→wpList P l.toArray Q ac a g.w
 |[],e,h,E,M,n,g,a,q,hi,p,L,D=>D e h E g a n (λ_ _=>rfl) q hi p L
 | o::r,e,h,E,M,n,g,a,q,hi,p,L,D=>by
  simp only[pd]at n;split at n
  ·split at n
   case h_2=>cases n
   rename_i aj;refine IZ G q hi (C.ext q) p L aj n λd b g' v m ae af K ag R=>?_
   rcases vw m with⟨c,m⟩|⟨t,c,N,m⟩
   ·rw[c];refine pe G H I C r _ _ _ _ m g' a ae K (p.gH af) ag λe' h' b g' i s k2 u x y z=>D e' h' b g' i s (λA f=>k2 A λj=>f ?_) u x y z
    simp only[eF,ly,c]at j ⊢;exact j
   ·rw[c];refine pe G H I C r _ _ _ _ m g' _ ae K ((p.gH af).put N R) ag λe' h' b g' i s k2 u x y z=>D e' h' b g' i s (λA f=>?_) u x y z
    simp only[eF,ly,c,ga,not_or]at f;rw[k2 A f.2,gQ,cI (λj=>f.1 j.symm)]
  ·obtain⟨d,h',al,ai⟩:=q7 n;have am:mJ P l.toArray Q o a g (wpList P l.toArray Q r):=by
    refine po H I al hi (C.ext q) (λt d _ an=>p.get t d an) λg' v B K R _=>?_
    rcases ai with⟨c,m⟩|⟨t,c,N,m⟩
    ·rw[c];refine pe G H I C r _ _ _ _ m g' a (q.trans B) K (p.ext B) (L.ext B) λe' h' b g' i s k2 u x y z=>D e' h' b g' i s (λA f=>k2 A λj=>f ?_) u x y z
     simp only[eF,ly,c]at j ⊢;exact j
    ·rw[c];refine pe G H I C r _ _ _ _ m g' _ (q.trans B) K ((p.ext B).put N R) (L.ext B) λe' h' b g' i s k2 u x y z=>D e' h' b g' i s (λA f=>?_) u x y z
     simp only[eF,ly,c,ga,not_or]at f;rw[k2 A f.2,gQ,cI (λj=>f.1 j.symm)]
   unfold wpList;rcases am with⟨aa,ao⟩|⟨aa,ak⟩
   ·rw[bN aa];exact .inl ao
   ·rw[cI (by simp[aa])];exact ak
theorem IX (bf:kJ P mt k) (a5:bQ P X.T) (bn:P.follows .mixedOrders=true) {am:bV} (a6:fy P X am) {loop:hH} (bl:mE loop) {p:lv} {v:Gh} (ap:eU v X.gl):∀(c:Code) (e:DE) (h:Z) (d:Mp) (f:Ex→DE→Z→Mp→Option Unit),mK X am loop p mt c e h d f=some () →
  ∀(Q:Exit→Act→World→Prop) (g:Gh) (a:Act),aS v g→Inv g h→eA p.nt g e a→g5 P k v.w.heap.size g d→(∀x e' h' y g' A,f x e' h' y=some ()→kt p.bA c e e'→aS v g'→Inv g' h'→eA p.nt g' e' A→g5 P k v.w.heap.size g' y→Q (cv x) A g'.w)→c.wp P Q a g.w:=by
 have r:∀(c:Code) (e:DE) (h:Z) (d:Mp) (f:Ex→DE→Z→Mp→Option Unit),(cK X am loop p c e h Unit λx e' h'=>f x e' h' d)=some () →
  ∀(Q:Exit→Act→World→Prop) (g:Gh) (a:Act),aS v g→Inv g h→eA p.nt g e a→g5 P k v.w.heap.size g d→(∀x e' h' y g' A,f x e' h' y=some ()→kt p.bA c e e'→aS v g'→Inv g' h'→eA p.nt g' e' A→g5 P k v.w.heap.size g' y→Q (cv x) A g'.w)→c.wp P Q a g.w:=λc e h d f b Q g a o t q u n =>
  yj a5 bn a6 bl c e h Unit _ () b Q g a t (ap.ext o) q λx e' h' g' A ax ay ak az a0=>n x e' h' d g' A ax ay (o.trans ak) az a0 (u.ext ak)
 intro c
 induction c with
 |skip=>intro e h d f b;exact r _ e h d f b
 |label a1=>intro e h d f b;exact r _ e h d f b
 |ret=>intro e h d f b;exact r _ e h d f b
 |exit D=>intro e h d f b;exact r _ e h d f b
 |goto a1=>intro e h d f b;exact r _ e h d f b
 |scope B aj=>intro e h d f b;exact r _ e h d f b
 |refuse a8=>intro e h d f b;exact r _ e h d f b
 |rangeFunc bx b2 bv B b0 b1=>intro e h d f b;exact r _ e h d f b
 | region id bu bw =>
  intro e h d f b;simp only[mK]at b;split at b
  ·exact r _ e h d f b
  ·intro Q g a o t q u n;obtain⟨a1⟩:=bu;split at b
   ·refine wp_region_lit (pe bf a5 a6 ap a1 e h d (f .aO) b g a o t q u λe' h' y g' A ax ay ak az a0 bq=>?_);exact n .aO e' h' y g' A ax (λj _ ai=>ay j (by rw[s4]at ai;exact ai)) ak az a0 bq
   ·cases b
 | seq x a9 av aw =>
  intro e h d f b;simp only[mK]at b;split at b
  ·exact r _ e h d f b
  ·intro Q g a o t q u n;refine wp_seq (av e h d _ b _ g a o t q u λbb z i s w m ar bo R F K G=>?_);have au:∀j,j∈p.bA→j∉eG (.seq x a9)→bC z j=bC e j:=λj i l=>bo j i (λE=>l (by simp[eG,E]))
   cases bb with
   | aO =>
    refine aw z i s f ar Q w m R F K G λa4 ao l L M af bj ac bh aa ad ab=>n a4 ao l L M af bj (λj i l=>?_) bh aa ad ab
    rw[ac j i (λE=>l (by simp[eG,E])),au j i l]
   |ext D=>exact n (.ext D) z i s w m ar au R F K G
   |ret=>exact n .ret z i s w m ar au R F K G
 | cond a3 x a9 av aw =>
  intro e h d f b;simp only[mK]at b;split at b
  ·exact r _ e h d f b
  ·intro Q g a o t q u n;split at b
   ·cases b
   rename_i an bg;have a7:aB g (a.eval a3) an:=oj (ap.ext o) (λj an _ ai=>q.get j an ai) bg;obtain⟨B,rfl,ah⟩:=sU b;have I:a.eval a3 = .bool B:=by
    generalize bz:a.eval a3=b3 at a7;cases a7;rfl
   cases B with
   |true=>exact wp_cond_true I (av e h d f ah Q g a o t q u λae z i s w m C H=>n ae z i s w m C (λj i l=>H j i (λE=>l (by simp[eG,E]))))
   |false=>exact wp_cond_false I (aw e h d f ah Q g a o t q u λae z i s w m C H=>n ae z i s w m C (λj i l=>H j i (λE=>l (by simp[eG,E]))))
 | block id B aj =>
  intro e h d f b;simp only[mK]at b;split at b
  ·exact r _ e h d f b
  ·intro Q g a o t q u n;have bp:∀(x:Ex) (m:Act) (al:World),Q (cv (bO id x)) m al→Exit.inBlock id Q (cv x) m al:=λx m al I=>by
    cases x with
    |aO=>exact I
    |ret=>exact I
    | ext D =>
     simp only[cv,Exit.inBlock];by_cases aq:D=id
     ·subst aq;rw[bN rfl];simpa[bO,cv]using I
     ·rw[cI aq];have:Nat.beq D id=false:=by
       cases ah:Nat.beq D id with
       |false=>rfl
       |true=>exact absurd (gg ah) aq
      simpa[bO,this,cv]using I
   exact wp_block (aj e h d _ b _ g a o t q u λae z i s w m C H N F K G=>bp _ _ _ (n (bO id ae) z i s w m C H N F K G))
 | loop B aj =>
  intro e h d f b;simp only[mK]at b;split at b
  ·exact r _ e h d f b
  ·intro Q g a o t q u n;unfold k8 at b;split at b
   case isFalse=>cases b
   rename_i bi;obtain⟨ba,bt,be,bc⟩:=bi;refine wp_loop_ghost (λa2 a a8=>∃ag h' y g',a8=g'.w∧aS v g'∧Inv g' h'∧eA p.nt g' (fT (fP p.bA B) ag (jJ p.bA B e)) a∧g5 P k v.w.heap.size g' y∧ba a2 ag h' y) bt
    ⟨_,h,d,g,rfl,o,t,ke (e':=e) (λ_ _ _=>rfl) q,u,be⟩ ?_
   rintro a2 m al ⟨ag,i,s,w,rfl,R,F,K,G,bk⟩;refine aj _ i s _ (bc a2 ag i s bk) _ w m R F K G λa4 ao l L M af C H N aa ad ab=>?_
   have ac:kt p.bA B e ao:=λj i l=>by
    rw[H j i l];exact k3 j i l
   cases a4 with
   | aO =>
    obtain⟨⟨br,bm,bd⟩,_⟩:=mP.1 C;exact⟨br,bm,_,l,L,M,rfl,N,aa,ke ac ad,ab,bd⟩
   |ext D=>exact n (.ext D) _ l L M af C k3 N aa (ke ac ad) ab
   |ret=>exact n .ret _ l L M af C k3 N aa (ke ac ad) ab
theorem IW (M:kJ P mt k) (z:bQ P X.T) (ag:P.follows .mixedOrders=true) {v:bV} (Q:fy P X v) {K:hH} (af:mE K) {f:FuncId} {fi:eT} (B:bM P f fi) {args:List D} {h:Z} {r:D × Z}
  (m:(mF X v K mt fi args h λd h'=>eD (scope h h' d=some r) (some ()))=some ()) {g:Gh} {vs:List Value} (hi:Inv g h) (ac:eU g X.gl) (H:aU g vs args):jM P f vs g r.2 r.1:=by
 refine .inl ⟨B.enter _ _,?_⟩;obtain⟨y,ab,N,ah,ak⟩:=B.body;unfold mF at m;split at m
 case h_2=>cases m
 rename_i G;have G:=dE G;have az:=H.length;refine calls_of_wp ab N (IX M z ag Q af ac fi.body _ h _ _ m _ g _ (aS.refl g) hi ⟨by simp[ah];omega,rfl,λs l ap=>?_⟩ (g5.zero P k _ g) λl L c au o u q ay R E I ax=>?_)
 ·have ar:∀(i:List Nat) (b:List D),i.length=b.length→bC (fT i b []) s=some l→∃a:Nat,i[a]?=some s∧b[a]?=some l:=by
    intro i
    induction i with
    |nil=>intro b _ h;cases h
    | cons t r aq =>
     intro b F h;cases b with
     |nil=>cases F
     | cons d b =>
      simp only[fT,oK,pB]at h;rw[gQ]at h;split at h
      ·rename_i am;injection h with h;exact⟨0,by simp[am],by simp[h]⟩
      ·obtain⟨a,p,c⟩:=aq b (by simpa using F) h;exact⟨a+1,by simpa using p,by simpa using c⟩
  obtain⟨a,p,c⟩:=ar _ _ (by simp) ap;have ae:a=s:=by
   have:=(bB.1 p).2;simpa using this
  subst ae;have aw:=(bB.1 c).1;have C:vs[a]?=some (vs[a]'(by omega)):=cA (by omega);have:(vs.toArray++Array.replicate (y.ntmps - vs.toArray.size) undef).getD a undef=vs[a]'(by omega):=by
   rw[dN,rL (by simp;omega)];simp[C]
  rw[this];exact H.get a _ l C c
 ·have x:(ll X c L fi.res λb=>eD (scope h c (aD b)=some r) (some ()))=some ()→u.defers=[]∧∃j,(results y u.tmps).run P o.w = .ok j o.w∧∃t,Ending.returned j = .returned t∧∃e,e.w=o.w∧aS g e∧Inv e r.2∧aB e t r.1:=λn=>by
    refine⟨I.defers,?_⟩;rw[ri]at n;obtain⟨b,A,n⟩:=gu.1 n;have al:=(mP.1 n).1;rw[← ak]at A;obtain⟨j,an,ai⟩:=vC z E I A;obtain⟨e,ao,aa,ad,aj⟩:=Bi hi R E ai al;exact⟨j,an,j,rfl,e,ao,aa,ad,aj⟩
  cases l with
  |ext a=>cases q
  |aO=>exact x q
  |ret=>exact x q
end
end Go.Pi
namespace Go.Eng
abbrev h4:=@List.mem_singleton
abbrev jq:=@List.take_add_one
abbrev sj:=@List.getElem_range
abbrev sk:=@List.length_range
abbrev so:=@List.nodup_cons
end Go.Eng
namespace Go.Proofs.YtinlnkhheafjaaaDoor
open Go.Eng Go.Pi
open Option renaming bind_some → Ma
section
structure iE (lt:Nat→Nat→Prop):Prop where
 ir:∀a,¬lt a a
 tr:∀a b c,lt a b→lt b c→lt a c
 mo:∀a b,lt a b∨a=b∨lt b a
theorem iE.nn{lt:Nat→Nat→Prop}(d:iE lt){a b c:Nat}(h:¬lt b a)(k:¬lt c b):¬lt c a:=λg=>by
 rcases d.mo a b with e|e|e
 ·rcases d.mo b c with f|f|f
  ·exact d.ir _ (d.tr _ _ _ (d.tr _ _ _ e f) g)
  ·subst f;exact d.ir _ (d.tr _ _ _ e g)
  ·exact k f
 ·subst e;exact k g
 ·exact h e
theorem iE.as{lt:Nat→Nat→Prop}(c:iE lt){a b:Nat}(h:lt a b):¬lt b a:=λd=>c.ir _ (c.tr _ _ _ h d)
def h9(f:Nat→Nat)(i j:Nat):Nat→Nat:=λa=>if a=i then f j else if a=j then f i else f a
theorem mI(f:Nat→Nat)(i j:Nat):h9 f i j i=f j:=by simp[-Ma,h9]
theorem n3(f:Nat→Nat)(i j:Nat):h9 f i j j=f i:=by unfold h9;split<;>simp_all [-Ma]
theorem jZ{f:Nat→Nat}{i j k:Nat}(a:k≠i)(h2:k≠j):h9 f i j k=f k:=by simp[-Ma,h9,a,h2]
def fI(lt:Nat→Nat→Prop)(f:Nat→Nat)(n:Nat):Prop:=∀a,0<a→a<n→¬lt (f a) (f ((a - 1) / 2))
structure n2 (lt:Nat→Nat→Prop) (f:Nat→Nat) (n j:Nat):Prop where
 vj:j<n
 h:∀k,0<k→k<n→k≠j→¬lt (f k) (f ((k - 1) / 2))
 g:∀k,0<j→k<n→0<k→(k - 1) / 2=j→¬lt (f k) (f ((j - 1) / 2))
theorem Cr{lt:Nat→Nat→Prop}{f g:Nat→Nat}{n:Nat}(h:fI lt f n)(b:∀k,k<n→g k=f k):n2 lt g (n+1) n:=by
 refine⟨by omega,λk a c e=>?_,λk a c d i=>by omega⟩;rw[b k (by omega),b _ (by omega)];exact h k a (by omega)
theorem Ct{lt:Nat→Nat→Prop}{f:Nat→Nat}{n j:Nat}(h:n2 lt f n j)(a:j=0∨¬lt (f j) (f ((j - 1) / 2))):fI lt f n:=λc d e=>by
 by_cases b:c=j
 ·subst b;rcases a with a|a
  ·omega
  ·exact a
 ·exact h.h c d e b
theorem Cs{lt:Nat→Nat→Prop}(i:iE lt){f:Nat→Nat}{n j:Nat}(h:n2 lt f n j)(r:0<j)(l:lt (f j) (f ((j - 1) / 2))):n2 lt (h9 f ((j - 1) / 2) j) n ((j - 1) / 2):=by
 obtain⟨c,k⟩:∃c,c=(j - 1) / 2:=⟨_,rfl⟩
 rw[← k]at l ⊢;have w:=h.vj;refine⟨by omega,λa e d t=>?_,λa v d e u=>?_⟩
 ·by_cases b:a=j
  ·subst b;rw[← k,n3,mI];exact i.as l
  ·rw [jZ t b];by_cases m:(a - 1) / 2=c
   ·rw[m,mI];have:=h.h a e d b;rw[m]at this;exact λs=>this (i.tr _ _ _ s l)
   ·by_cases o:(a - 1) / 2=j
    ·rw[o,n3];have:=h.g a r d e o;rw[← k]at this;exact this
    ·rw[jZ m o];exact h.h a e d b
 ·have q:h9 f c j ((c - 1) / 2)=f ((c - 1) / 2):=jZ (by omega) (by omega);rw[q];have p:=h.h c v (by omega) (by omega);by_cases b:a=j
  ·subst b;rw[n3];exact p
  ·rw[jZ (by omega) b];have:=h.h a e d b;rw[u]at this;exact i.nn p this
structure n1 (lt:Nat→Nat→Prop) (f:Nat→Nat) (n i:Nat):Prop where
 h:∀k,0<k→k<n→(k - 1) / 2≠i→¬lt (f k) (f ((k - 1) / 2))
 g:∀k,0<k→k<n→(k - 1) / 2=i→0<i→¬lt (f k) (f ((i - 1) / 2))
theorem Cc{lt:Nat→Nat→Prop}{f g:Nat→Nat}{n:Nat}(h:fI lt f (n+1))(b:∀k,0<k→k<n→g k=f k):n1 lt g n 0:=by
 refine⟨λk a c d=>?_,λk a c d e=>by omega⟩;rw[b k a c,b _ (by omega) (by omega)];exact h k a (by omega)
theorem Ce{lt:Nat→Nat→Prop}{f:Nat→Nat}{n i:Nat}(h:n1 lt f n i)(d:∀k,0<k→k<n→(k - 1) / 2=i→¬lt (f k) (f i)):fI lt f n:=λk c b=>by
 by_cases a:(k - 1) / 2=i
 ·rw[a];exact d k c b a
 ·exact h.h k c b a
theorem Cd{lt:Nat→Nat→Prop}(o:iE lt){f:Nat→Nat}{n i j:Nat}(h:n1 lt f n i)(t:0<j)(q:j<n)(d:(j - 1) / 2=i)(s:∀k,0<k→k<n→(k - 1) / 2=i→¬lt (f k) (f j))(r:lt (f j) (f i)):n1 lt (h9 f i j) n j:=by
 refine⟨λk a b e=>?_,λk a b e _=>?_⟩
 ·by_cases m:k=j
  ·subst m;rw[d,n3,mI];exact o.as r
  ·by_cases l:k=i
   ·subst l;have p:h9 f k j ((k - 1) / 2)=f ((k - 1) / 2):=jZ (by omega) (by omega);rw[p,mI];exact h.g j t q d a
   ·rw[jZ l m];by_cases c:(k - 1) / 2=i
    ·rw[c,mI];exact s k a b c
    ·rw[jZ c e];exact h.h k a b c
 ·rw[d,mI,jZ (by omega) (by omega)];have:=h.h k a b (by omega);rw[e]at this;exact this
theorem Cm{lt:Nat→Nat→Prop}(a:iE lt){f:Nat→Nat}{n:Nat}(h:fI lt f n):∀k,k<n→¬lt (f k) (f 0):=by
 intro k
 induction k using Nat.strongRecOn with
 | ind k d =>
  intro c;by_cases b:k=0
  ·subst b;exact a.ir _
  ·exact a.nn (d ((k - 1) / 2) (by omega) (by omega)) (h k (by omega) c)
def aH(l:List Nat)(k:Nat):Nat:=l[k]?.getD 0
def ia(l:List Nat)(i j:Nat):List Nat:=(l.set i (aH l j)).set j (aH l i)
theorem qb(l:List Nat)(i j:Nat):(ia l i j).length=l.length:=by simp[-Ma,ia]
theorem qa{l:List Nat}{i j:Nat}(hi:i<l.length)(c:j<l.length):∀k,aH (ia l i j) k=h9 (aH l) i j k:=λk=>by
 unfold ia aH h9;by_cases b:k=j
 ·subst b;rw[jV (by simpa using c)];by_cases a:k=i
  ·subst a;simp[-Ma]
  ·simp[-Ma,a]
 ·rw[hZ (by omega)];by_cases a:k=i
  ·subst a;rw[jV hi];simp[-Ma]
  ·rw[hZ (by omega)];simp[-Ma,b,a]
theorem qc{l:List Nat}{i j:Nat}(hi:i<l.length)(a:j<l.length):(ia l i j).Perm l:=by
 have b:aH l i=l[i]:=by simp[-Ma,aH,cA hi]
 have c:aH l j=l[j]:=by simp[-Ma,aH,cA a]
 unfold ia;rw[b,c];exact List.set_set_perm hi a
end
section
theorem lG:∀{l r:List Nat},l.Nodup→(∀x∈l,x∈r)→l.length≤r.length
 |[],r,_,_=>by simp
 | a::l,r,h,k=>by
  have b:=so.1 h;have c:a∈r:=k a (by simp);have f:=lG (r:=r.erase a) b.2 λx d=>(List.mem_erase_of_ne (λe=>b.1 (by rw[← e];exact d))).2 (k x (by simp[-Ma,d]))
  have g:=List.length_erase_of_mem c;have i:0<r.length:=List.length_pos_of_mem c;simp only[e8];omega
variable (n:Nat) (fl rk:Nat→Int)
def cV(a b:Nat):Prop:=rk b<rk a∨(rk a=rk b∧a<b)
instance (a b:Nat):Decidable (cV rk a b):=by unfold cV;exact inferInstance
theorem g6:iE (cV rk):=by
 refine⟨λa=>?_,λa b c=>?_,λa b=>?_⟩<;>unfold cV<;>omega
def fD(ps:List Nat)(i:Nat):Prop:=i<n∧i∉ps∧∀a,a<i→fl a=fl i→a∈ps
inductive dY:List Nat→Prop
 |nil:dY []
 |snoc {ps:List Nat} {b:Nat} (h:dY ps) (hf:fD n fl ps b) (hm:∀i,fD n fl ps i→¬cV rk i b):dY (ps++[b])
variable {n fl rk}
theorem dY.inv{l:List Nat}(h:dY n fl rk l):l=[]∨∃ps b,l=ps++[b]∧dY n fl rk ps∧fD n fl ps b∧∀i,fD n fl ps i→¬cV rk i b:=by
 cases h with
 |nil=>exact .inl rfl
 |snoc h a c=>exact .inr ⟨_,_,rfl,h,a,c⟩
theorem dY.yE:∀(m:Nat) {l r:List Nat},dY n fl rk l→dY n fl rk r→l.length=m→r.length=m→l=r
 |0,l,r,_,_,a,d=>by rw[List.length_eq_zero_iff.1 a,List.length_eq_zero_iff.1 d]
 | m+1,l,r,h,k,a,d=>by
  rcases h.inv with rfl|⟨ps,b,rfl,e,h2,f⟩
  ·simp at a
  rcases k.inv with rfl|⟨j,c,rfl,g,k2,i⟩
  ·simp at d
  simp at a d;have:=dY.yE m e g a d;subst this;have:b=c:=by
   rcases(g6 rk).mo b c with h|h|h
   ·exact absurd h (i b h2)
   ·exact h
   ·exact absurd h (f c k2)
  rw[this]
theorem dY.mem{l:List Nat}(h:dY n fl rk l):∀x∈l,x<n:=by
 induction h with
 |nil=>simp[-Ma]
 | snoc h b d c =>
  intro x a;rcases fZ.1 a with a|a
  ·exact c x a
  ·rw[h4.1 a];exact b.1
theorem dY.nodup{l:List Nat}(h:dY n fl rk l):l.Nodup:=by
 induction h with
 |nil=>exact List.nodup_nil
 | snoc h a f e =>
  rw[List.nodup_append];exact⟨e,by simp,λg c i d=>by rw[h4.1 d];exact λb=>a.2.1 (b▸c)⟩
theorem dY.closed{l:List Nat}(h:dY n fl rk l):∀x∈l,∀k,k<x→fl k=fl x→k∈l:=by
 induction h with
 |nil=>simp[-Ma]
 | snoc h d f e =>
  intro x a k b c;rcases fZ.1 a with a|a
  ·exact nX _ (e x a k b c)
  ·rw[h4.1 a]at b c;exact nX _ (d.2.2 k b c)
theorem dY.len{l:List Nat}(h:dY n fl rk l):l.length≤n:=by
 have:=lG h.nodup λb a=>jo.2 (h.mem b a)
 simpa using this
theorem xU{ps:List Nat}(p:ps.Nodup)(o:∀x∈ps,x<n)(m:ps.length<n):∃i,fD n fl ps i:=by
 have e:∃i,i<n∧i∉ps:=rQ λc=>by
  have:=lG (l:=List.range n) (r:=ps) List.nodup_range λx h=>rQ λg=>c ⟨x,jo.1 h,g⟩
  simp at this;omega
 obtain⟨i,d⟩:=e
 induction i using Nat.strongRecOn with
 | ind i j =>
  by_cases c:∀b,b<i→fl b=fl i→b∈ps
  ·exact⟨i,d.1,d.2,c⟩
  ·obtain⟨b,a⟩:=rR.1 c;obtain⟨f,a⟩:=Classical.not_imp.1 a;obtain⟨k,a⟩:=Classical.not_imp.1 a;exact j b f ⟨by omega,a⟩
def sA(n:Nat)(fl:Nat→Int)(k:Nat):Option Nat→Prop
 |some j=>k<j∧j<n∧fl j=fl k∧∀m,k<m→m<j→fl m≠fl k
 |none=>∀m,k<m→m<n→fl m≠fl k
theorem Ci{ps:List Nat}(t:∀x∈ps,∀k,k<x→fl k=fl x→k∈ps){k:Nat}(m:fD n fl ps k){a:Option Nat}(q:sA n fl k a)(i:Nat):
  fD n fl (ps++[k]) i↔(fD n fl ps i∧i≠k)∨a=some i:=by
 constructor
 ·rintro⟨j,c,f⟩;simp only[fZ,h4,not_or]at c f;by_cases b:fl i=fl k
  ·right;have u:k<i:=by
    rcases jr k i with h|h|h
    ·exact h
    ·exact absurd h.symm c.2
    ·exact absurd (m.2.2 i h b) c.1
   cases a with
   |none=>exact absurd b (q i u j)
   | some r =>
    obtain⟨o,s,e,p⟩:=q;rcases jr i r with h|h|h
    ·exact absurd b (p i u h)
    ·rw[h]
    ·rcases f r h (by rw[e,b])with l|l
     ·exact absurd (t r l k o e.symm) m.2.1
     ·omega
  ·left;refine⟨⟨j,c.1,λd g v=>?_⟩,c.2⟩;rcases f d g v with h|h
   ·exact h
   ·subst h;exact absurd v.symm b
 ·rintro(⟨⟨j,c,f⟩,l⟩|rfl)
  ·exact⟨j,by simp[-Ma,c,l],λd g b=>nX _ (f d g b)⟩
  ·obtain⟨o,s,e,p⟩:=q;refine⟨s,?_,λd g b=>?_⟩
   ·simp only[fZ,h4,not_or];exact⟨λh=>m.2.1 (t i h k o e.symm),by omega⟩
   ·rw[e]at b;rcases jr k d with h|h|h
    ·exact absurd b (p d h g)
    ·subst h;simp[-Ma]
    ·exact nX _ (m.2.2 d h b)
end
section
variable {n:Nat} {fl rk:Nat→Int}
theorem xW{lt:Nat→Nat→Prop}(d:iE lt):∀(l:List Nat),l≠[]→∃b∈l,∀i∈l,¬lt i b
 |[],h=>absurd rfl h
 |[a],_=>⟨a,by simp,λi hi=>by rw[h4.1 hi];exact d.ir _⟩
 | a::c::l,_=>by
  obtain⟨b,f,e⟩:=xW d (c::l) (by simp);rcases d.mo a b with h|h|h
  ·refine⟨a,by simp,λi hi=>?_⟩;rcases ga.1 hi with rfl|hi
   ·exact d.ir _
   ·exact λg=>e i hi (d.tr _ _ _ g h)
  ·refine⟨b,fH _ f,λi hi=>?_⟩;rcases ga.1 hi with rfl|hi
   ·subst h;exact d.ir _
   ·exact e i hi
  ·refine⟨b,fH _ f,λi hi=>?_⟩;rcases ga.1 hi with rfl|hi
   ·exact d.as h
   ·exact e i hi
theorem Cb{ps:List Nat}(h:∃i,fD n fl ps i):∃b,fD n fl ps b∧∀i,fD n fl ps i→¬cV rk i b:=by
 classical
 obtain⟨j,a⟩:=h;have g:(List.range n).filter (λi=>decide (fD n fl ps i))≠[]:=λe=>by
  have:j∈(List.range n).filter (λi=>decide (fD n fl ps i)):=fC.2 ⟨jo.2 a.1,by simp[-Ma,a]⟩;rw[e]at this;cases this
 obtain⟨b,d,f⟩:=xW (g6 rk) _ g;refine⟨b,by simpa using(fC.1 d).2,λi c=>f i (fC.2 ⟨jo.2 c.1,by simp[-Ma,c]⟩)⟩
theorem dY.ex:∀m,m≤n→∃l,dY n fl rk l∧l.length=m
 |0,_=>⟨[],.nil,rfl⟩
 | m+1,h=>by
  obtain⟨l,a,h2⟩:=dY.ex m (by omega);obtain⟨b,c,d⟩:=Cb (rk:=rk) (xU a.nodup a.mem (by omega));exact⟨l++[b],.snoc a c d,by simp[-Ma,h2]⟩
noncomputable def h8(n:Nat)(fl rk:Nat→Int)(m:Nat):List Nat:=Classical.choose (dY.ex (n:=n) (fl:=fl) (rk:=rk) (min m n) (Nat.min_le_right _ _))
theorem xY(m:Nat):dY n fl rk (h8 n fl rk m)∧(h8 n fl rk m).length=min m n:=jO (dY.ex (n:=n) (fl:=fl) (rk:=rk) (min m n) (Nat.min_le_right _ _))
theorem xX{l:List Nat}{m:Nat}(h:dY n fl rk l)(a:l.length=min m n):l=h8 n fl rk m:=h.yE _ (xY m).1 a (xY m).2
theorem dY.oc{ps:List Nat}{b:Nat}(h:dY n fl rk ps)(e:fD n fl ps b):((List.range b).filter λk=>decide (fl k=fl b)).length=(ps.filter λx=>decide (fl x=fl b)).length:=by
 have i:∀x∈(List.range b).filter λk=>decide (fl k=fl b),x∈ps.filter λx=>decide (fl x=fl b):=λx f=>by
  obtain⟨d,a⟩:=fC.1 f;exact fC.2 ⟨e.2.2 x (jo.1 d) (by simpa using a),a⟩
 have j:∀x∈ps.filter λx=>decide (fl x=fl b),x∈(List.range b).filter λk=>decide (fl k=fl b):=λx f=>by
  obtain⟨d,a⟩:=fC.1 f;have g:fl x=fl b:=by simpa using a
  refine fC.2 ⟨jo.2 ?_,a⟩;rcases jr x b with c|c|c
  ·exact c
  ·subst c;exact absurd d e.2.1
  ·exact absurd (h.closed x d b c g.symm) e.2.1
 have l:((List.range b).filter λk=>decide (fl k=fl b)).Nodup:=List.nodup_range.filter _;have m:(ps.filter λx=>decide (fl x=fl b)).Nodup:=h.nodup.filter _;have o:=lG l i;have p:=lG m j;omega
end
section
variable {n:Nat} {fl rk:Nat→Int}
def gD(n:Nat)(fl:Nat→Int)(k:Nat)(f:Int):Option Nat:=(List.range n).find? λa=>decide (k≤a)&&decide (fl a=f)
theorem kN{k:Nat}{f:Int}{j:Nat}:gD n fl k f=some j↔(k≤j∧j<n∧fl j=f∧∀m,k≤m→m<j→fl m≠f):=by
 unfold gD;rw[List.find?_eq_some_iff_getElem];constructor
 ·rintro⟨a,o,g,b,c⟩;simp only[sj]at b;subst b;simp only[dQ,sX]at a;simp only[sk]at g;refine⟨a.1,g,a.2,λm e i l=>?_⟩;have:=c m i;simp[-Ma,e,l]at this
 ·rintro⟨a,b,c,h⟩;refine⟨by simp[-Ma,a,c],j,by simpa using b,by simp,λm e=>?_⟩;simp only[sj];by_cases d:k≤m
  ·simp[-Ma,d,h m d e]
  ·simp[-Ma,d]
theorem sD{k:Nat}{f:Int}:gD n fl k f=none↔∀m,k≤m→m<n→fl m≠f:=by
 unfold gD;rw[List.find?_eq_none];constructor
 ·intro a m d b e;exact a m (jo.2 b) (by simp[-Ma,d,e])
 ·intro a m b;have:=jo.1 b;simp only[dQ,sX];exact λc=>a m c.1 this c.2
theorem Cn{k:Nat}(a:k<n):gD n fl k (fl k)=some k:=kN.2 ⟨aT _,a,rfl,λd b c=>by omega⟩
theorem Cp{k:Nat}{f:Int}(h:fl k≠f):gD n fl k f=gD n fl (k+1) f:=by
 cases b:gD n fl (k+1) f with
 | none =>
  rw[sD]at b ⊢;intro a i l;by_cases c:a=k
  ·subst c;exact h
  ·exact b a (by omega) l
 | some o =>
  rw[kN]at b ⊢;obtain⟨m,d,e,g⟩:=b;refine⟨by omega,d,e,λa i j=>?_⟩;by_cases c:a=k
  ·subst c;exact h
  ·exact g a (by omega) j
theorem Co(f:Int):gD n fl n f=none:=sD.2 λc a b=>by omega
theorem B9(k:Nat):sA n fl k (gD n fl (k+1) (fl k)):=by
 cases a:gD n fl (k+1) (fl k)with
 | none =>
  rw[sD]at a;exact λc d b=>a c (by omega) b
 | some i =>
  rw[kN]at a;obtain⟨d,b,e,f⟩:=a;exact⟨by omega,b,e,λc h g=>f c (by omega) g⟩
theorem Ch(i:Nat):fD n fl [] i↔gD n fl 0 (fl i)=some i:=by
 rw[kN];unfold fD;constructor
 ·rintro⟨a,_,b⟩;exact⟨iD _,a,rfl,λe _ c d=>by cases b e c d⟩
 ·rintro⟨_,a,_,b⟩;exact⟨a,by simp,λe c d=>absurd d (b e (iD _) c)⟩
def kM(n:Nat)(fl:Nat→Int)(ps:List Nat)(b:List Nat):Prop:=b.Nodup∧∀a,a∈b↔fD n fl ps a
theorem Ck{ps a:List Nat}(h:kM n fl ps a):a.length≤n:=by
 have:=lG (r:=List.range n) h.1 λc b=>jo.2 ((h.2 c).1 b).1
 simpa using this
theorem Cj{ps a:List Nat}(h:kM n fl ps a){b:Nat}(c:b∈a)(e:∀i∈a,¬cV rk i b):fD n fl ps b∧∀i,fD n fl ps i→¬cV rk i b:=
 ⟨(h.2 b).1 c,λi d=>e i ((h.2 i).2 d)⟩
theorem xV{ps o:List Nat}(v:dY n fl rk ps)(h:kM n fl ps o){b:Nat}{i j:List Nat}(d:o.Perm (b::i)){a:Option Nat}(f:sA n fl b a)(m:j.Perm (a.toList++i)):kM n fl (ps++[b]) j:=by
 have u:(b::i).Nodup:=d.nodup_iff.1 h.1;obtain⟨q,l⟩:=so.1 u;have k:fD n fl ps b:=(h.2 b).1 (d.mem_iff.2 (by simp));have t:∀e,e∈j↔fD n fl (ps++[b]) e:=λe=>by
  rw[Ci v.closed k f,m.mem_iff,fZ,← h.2 e,d.mem_iff,ga];constructor
  ·rintro(c|c)
   ·right;cases a with
    |none=>simp at c
    |some g=>simp at c;rw[c]
   ·left;exact⟨.inr c,λr=>q (r▸c)⟩
  ·rintro(⟨c|c,p⟩|c)
   ·exact absurd c p
   ·exact .inr c
   ·left;rw[c];simp[-Ma]
 refine⟨m.nodup_iff.2 ?_,t⟩;cases a with
 |none=>simpa using l
 | some g =>
  simp only[Option.toList_some,List.singleton_append];refine so.2 ⟨λs=>?_,l⟩;have c:fD n fl ps g:=(h.2 g).1 (d.mem_iff.2 (fH _ s));have:=c.2.2 b f.1 f.2.2.1.symm;exact k.2.1 this
theorem Cl{ps:List Nat}(h:kM n fl ps [])(a:dY n fl rk ps):ps.length=n:=by
 have:=a.len;rcases eW ps.length n with b|b
 ·obtain⟨d,c⟩:=xU (fl:=fl) a.nodup a.mem b;exact absurd ((h.2 d).2 c) (by simp)
 ·omega
end
section
variable {lt:Nat→Nat→Prop}
theorem xT{l:List Nat}{N k:Nat}(h:k<N):aH (l.take N) k=aH l k:=by
 unfold aH;rw[eP,bN h]
theorem Ca{l r:List Nat}{k:Nat}(h:k<l.length):aH (l++r) k=aH l k:=by
 unfold aH;rw[dS h]
theorem Cq{l:List Nat}{N:Nat}(h:l.length=N+1):l.Perm (aH l N::l.take N):=by
 have d:l=l.take N++[aH l N]:=by
  have a:l.take (N+1)=l.take N++l[N]?.toList:=jq;rw[gK (by omega)]at a;have b:l[N]?=some l[N]:=cA (by omega);have c:aH l N=l[N]:=by unfold aH;rw[b];rfl
  rw[c];rw[b]at a;exact a
 exact(List.Perm.of_eq d).trans List.perm_append_comm
structure mH (lt:Nat→Nat→Prop) (l0 l:List Nat) (j:Nat):Prop where
 p:l.Perm l0
 u:n2 lt (aH l) l.length j
theorem Cu{l:List Nat}(x:Nat)(h:fI lt (aH l) l.length):mH lt (l++[x]) (l++[x]) l.length:=by
 refine⟨List.Perm.refl _,?_⟩;rw[gB];exact Cr h λb a=>Ca a
theorem xZ{a l:List Nat}{j:Nat}(h:mH lt a l j)(b:j=0∨¬lt (aH l j) (aH l ((j - 1) / 2))):l.Perm a∧fI lt (aH l) l.length:=⟨h.p,Ct h.u b⟩
theorem Cv(c:iE lt){b l:List Nat}{j:Nat}(h:mH lt b l j)(d:0<j)(e:lt (aH l j) (aH l ((j - 1) / 2))):mH lt b (ia l ((j - 1) / 2) j) ((j - 1) / 2):=by
 have a:=h.u.vj;refine⟨(qc (by omega) a).trans h.p,?_⟩;have:=Cs c h.u d e;rw[qb,show aH (ia l ((j - 1) / 2) j)=h9 (aH l) ((j - 1) / 2) j from funext (qa (by omega) a)];exact this
structure kL (lt:Nat→Nat→Prop) (l0 l:List Nat) (N i:Nat):Prop where
 p:l.Perm l0
 n:l.length=N+1
 x:aH l N=aH l0 0
 d:n1 lt (aH l) N i
theorem Cf{l:List Nat}{N:Nat}(a:l.length=N+1)(h:fI lt (aH l) l.length):kL lt l (ia l 0 N) N 0:=by
 rw[a]at h;refine⟨qc (by omega) (by omega),by rw[qb,a],?_,Cc h λc d b=>?_⟩
 ·rw[qa (by omega) (by omega),n3]
 ·rw[qa (by omega) (by omega),jZ (by omega) (by omega)]
theorem sC(c:iE lt){b l:List Nat}{N i j:Nat}(h:kL lt b l N i)(o:0<j)(e:j<N)(m:(j - 1) / 2=i)(g:∀k,0<k→k<N→(k - 1) / 2=i→¬lt (aH l k) (aH l j))(f:lt (aH l j) (aH l i)):kL lt b (ia l i j) N j:=by
 have q:=h.n;have a:aH (ia l i j)=h9 (aH l) i j:=funext (qa (by omega) (by omega));refine⟨(qc (by omega) (by omega)).trans h.p,by rw[qb];exact h.n,?_,?_⟩
 ·rw[a,jZ (by omega) (by omega)];exact h.x
 ·rw[a];exact Cd c h.d o e m g f
theorem Cg(c:iE lt){a l:List Nat}{N i:Nat}(e:fI lt (aH a) a.length)(h:kL lt a l N i)(m:∀k,0<k→k<N→(k - 1) / 2=i→¬lt (aH l k) (aH l i)):
  a.Perm (aH a 0::l.take N)∧fI lt (aH (l.take N)) (l.take N).length∧∀y∈a,¬lt y (aH a 0):=by
 have f:=Ce h.d m;have g:(l.take N).length=N:=by rw[hG,h.n];omega
 refine⟨?_,?_,λy o=>?_⟩
 ·have:=Cq h.n;rw[h.x]at this;exact h.p.symm.trans this
 ·rw[g];intro k q b;rw[xT b,xT (by omega)];exact f k q b
 ·obtain⟨k,b⟩:=lA o;have j:=(bB.1 b).1;have:=Cm c e k j;unfold aH at this;rw[b]at this;exact this
theorem sB(b:iE lt){l:List Nat}{N i:Nat}(j:Nat)(e:(2*i+2<N∧lt (aH l (2*i+2)) (aH l (2*i+1))∧j=2*i+2)∨((¬2*i+2<N∨¬lt (aH l (2*i+2)) (aH l (2*i+1)))∧j=2*i+1)):
  ∀k,0<k→k<N→(k - 1) / 2=i→¬lt (aH l k) (aH l j):=λk h f g=>by
 have c:k=2*i+1∨k=2*i+2:=by omega
 rcases e with⟨a,d,rfl⟩|⟨a,rfl⟩
 ·rcases c with rfl|rfl
  ·exact b.as d
  ·exact b.ir _
 ·rcases c with rfl|rfl
  ·exact b.ir _
  ·rcases a with a|a
   ·exact absurd f a
   ·exact a
end
end Go.Proofs.YtinlnkhheafjaaaDoor
namespace Go.Proofs.YtinlnkhheafjaaaDoor
open Go.Eng Go.Pi
def pk{a:Type}(l:List a)(ps:List Nat):List a:=ps.filterMap λb=>l[b]?
def nw(z:Nat):D→Option (List (List D))
 |.J=>some []
 |.sl a _ rows=>if a=z then some rows else none
 |_=>none
def oM(j:Nat)(row:List D):Int:=match row[j]? with
 |some (.int .i64 a)=>a
 |_=>0
def gN(l:List Int)(k:Nat):Int:=l[k]?.getD 0
def vh(p:Int × Int × List UInt8):List D:=[.int .i64 p.1,.int .i64 p.2.1,.str p.2.2]
def E5(p:List UInt8 × List UInt8):List D:=[.str p.1,.str p.2]
def pY(row:List D):Prop:=∃(k l m:List UInt8) (f a g h i j:Int) (d b:D) (e:List (Int × Int × List UInt8)) (c:List (List UInt8 × List UInt8)),
 row=[.str k,.int .i64 f,.int .i64 a,.int .i64 g,.int .i64 h,d,.int .i64 i,.int .i64 j,.str l,.str m,b]∧aV 3 vh e d∧e.length≤9223372036854775807∧aV 2 E5 c b∧c.length≤9223372036854775807 ∧ -9223372036854775808≤a∧a≤9223372036854775807
def B7(a c:List (List D)):Prop:=a.length=c.length∧a.length≤400000000∧(∀b∈a,pY b)∧∀b∈c,∃d,b=[.int .i64 d]
def mh(z:Nat)(rows:List (List D)):D:=match rows with
 |[] =>.J
 |_ =>.sl z false rows
noncomputable def vo(a b:List (List D))(m:Int):List (List D):=pk a (h8 a.length (gN (a.map (oM 2))) (gN (b.map (oM 0))) m.toNat)
open Classical in
noncomputable def mW(args:List D)(h:Z):Option (D × Z):=match args with
 | [d,e,.int .i64 c]=>match nw 11 d,nw 1 e with
  |some a,some b=>if B7 a b then some (mh 11 (vo a b c),h)else none
  |_,_=>none
 |_=>none
end Go.Proofs.YtinlnkhheafjaaaDoor
namespace Go.Pi
open Go.Eng
def gx(i:Nat)(r:List D):Option Int:=match r[i]? with
 |some (.int .i64 a)=>some a
 |_=>none
def ln(fi ti:Nat)(r:List D):Bool:=(gx fi r).isSome&&(gx ti r).isSome
def lZ(fi ti:Nat)(f:Int)(rows:List (List D)):Int × Bool:=rows.foldl (λb a=>if gx fi a=some f then((gx ti a).getD 0,true)else b) (0,false)
theorem Hv(fi ti:Nat)(f:Int)(rows:List (List D))(r:List D):lZ fi ti f (rows++[r])=if gx fi r=some f then((gx ti r).getD 0,true)else lZ fi ti f rows:=by simp[lZ]
def oe(V fi ti:Nat)(args:List D)(h:Z):Option (D × Z):=match args with
 |[.J,.int .i64 b]=>some (.bU [.int .i64 0,.bool false],h)
 |[.sl c _ a,.int .i64 b]=>if c=V∧a.all (ln fi ti)=true∧a.length*8≤140737488351232 then some (.bU [.int .i64 (lZ fi ti b a).1,.bool (lZ fi ti b a).2],h)else none
 |_=>none
end Go.Pi
namespace Go.Proofs.YtinlnkhheafjaaaDoor
open Go.Eng Go.Pi
abbrev W:Nat:=3
abbrev fa:Nat:=5
abbrev bE:Nat:=9
abbrev L9:Nat:=20
abbrev hC:Nat:=22
abbrev bD:Nat:=24
abbrev aN:Nat:=25
abbrev iT:Nat:=30
abbrev cD:Nat:=33
abbrev bI:Nat:=34
abbrev aF:Nat:=36
abbrev aP:Nat:=38
abbrev bW:Nat:=51
abbrev gZ:Nat:=55
abbrev gy:Nat:=56
abbrev iu:Nat:=74
abbrev dM:Nat:=76
abbrev jg:Nat:=95
abbrev cW:Nat:=111
abbrev bG:Nat:=116
abbrev rF:Nat:=151
abbrev qE:Nat:=17
abbrev ot:Nat:=6
abbrev lS:Nat:=7
abbrev kY:Nat:=8
abbrev oG:Nat:=9
abbrev oC:Nat:=10
abbrev oD:Nat:=11
abbrev oH:Nat:=12
abbrev gw:Nat:=14
abbrev lT:Nat:=16
abbrev qy:Nat:=18
abbrev ou:Nat:=19
abbrev oI:Nat:=21
abbrev lU:Nat:=22
abbrev tD:Nat:=23
abbrev qO:Nat:=27
abbrev tC:Nat:=28
abbrev qF:Nat:=31
abbrev oE:Nat:=32
abbrev tz:Nat:=33
abbrev qD:Nat:=34
abbrev ft:Nat:=35
abbrev ov:Nat:=36
abbrev qz:Nat:=37
abbrev qA:Nat:=38
abbrev tk:Nat:=39
abbrev ow:Nat:=40
abbrev tF:Nat:=42
abbrev tG:Nat:=43
abbrev qP:Nat:=47
abbrev th:Nat:=50
abbrev qG:Nat:=55
abbrev qH:Nat:=56
abbrev qK:Nat:=57
abbrev qL:Nat:=58
abbrev m3:Nat:=59
abbrev ox:Nat:=60
abbrev tm:Nat:=61
abbrev tn:Nat:=62
abbrev oy:Nat:=63
abbrev qM:Nat:=75
abbrev tp:Nat:=76
abbrev tj:Nat:=77
abbrev oz:Nat:=78
abbrev lR:Nat:=79
abbrev tq:Nat:=80
abbrev ts:Nat:=81
abbrev qN:Nat:=87
abbrev tt:Nat:=88
abbrev tu:Nat:=89
abbrev oA:Nat:=90
abbrev zl:Nat:=91
abbrev kX:Nat:=93
abbrev oB:Nat:=94
abbrev zm:Nat:=96
abbrev qC:Nat:=97
abbrev tA:Nat:=115
abbrev qI:Nat:=116
abbrev qJ:Nat:=117
abbrev oF:Nat:=118
abbrev tE:Nat:=119
noncomputable def eO:TI:=⟨.int .i64,1,8,[.int .i64 0],[]⟩
noncomputable def rD:TI:=⟨.int .u8,1,1,[.int .u8 0],[]⟩
noncomputable def BE:TI:=⟨.str,1,16,[.str []],[]⟩
noncomputable def BC:TI:=⟨.zC,1,16,[.hS],[]⟩
noncomputable def vZ:TI:=⟨.sl 5,1,24,[.J],[]⟩
noncomputable def mm:TI:=⟨.sl 38,1,24,[.J],[]⟩
noncomputable def kn:TI:=⟨.sl 3,1,24,[.J],[]⟩
noncomputable def BD:TI:=⟨.int .i64,1,8,[.int .i64 0],[]⟩
noncomputable def v3:TI:=⟨.sl 51,1,24,[.J],[]⟩
noncomputable def rB:TI:=⟨.sl 116,1,24,[.J],[]⟩
noncomputable def rC:TI:=⟨.st [(3,0,1),(3,1,1),(3,2,1),(3,3,1),(33,4,1),(3,5,1),(3,6,1),(9,7,1),(9,8,1),(34,9,1)],10,128,[.int .i64 0,.int .i64 0,.int .i64 0,.int .i64 0,.J,.int .i64 0,.int .i64 0,.str [],.str [],.J],[]⟩
noncomputable def jL:TI:=⟨.st [(9,0,1),(36,1,10)],11,144,[.str [],.int .i64 0,.int .i64 0,.int .i64 0,.int .i64 0,.J,.int .i64 0,.int .i64 0,.str [],.str [],.J],[]⟩
noncomputable def v5:TI:=⟨.st [(3,0,1),(3,1,1),(9,2,1)],3,32,[.int .i64 0,.int .i64 0,.str []],[]⟩
noncomputable def rE:TI:=⟨.st [(22,0,1),(3,1,1)],2,32,[.J,.int .i64 0],[]⟩
noncomputable def Bz:TI:=⟨.arr 3 3,3,24,[.int .i64 0,.int .i64 0,.int .i64 0],[]⟩
noncomputable def BA:TI:=⟨.ptr 76,1,8,[.fG],[("Len",some 32),("Less",some 115),("Pop",some 116),("Push",some 117),("Swap",some 118)]⟩
noncomputable def rA:TI:=⟨.st [(25,0,1),(25,1,1)],2,48,[.J,.J],[]⟩
noncomputable def BB:TI:=⟨.int .u64,1,8,[.int .u64 0],[]⟩
noncomputable def BF:TI:=⟨.sl 9,1,24,[.J],[]⟩
noncomputable def pA:TI:=⟨.st [(9,0,1),(9,1,1)],2,32,[.str [],.str []],[]⟩
noncomputable def vY:TI:=⟨.arr 256 5,256,256,[.int .u8 0,.int .u8 0,.int .u8 0,.int .u8 0,.int .u8 0,.int .u8 0,.int .u8 0,.int .u8 0,.int .u8 0,.int .u8 0,.int .u8 0,.int .u8 0,.int .u8 0,.int .u8 0,.int .u8 0,.int .u8 0,.int .u8 0,.int .u8 0,.int .u8 0,.int .u8 0,.int .u8 0,.int .u8 0,.int .u8 0,.int .u8 0,.int .u8 0,.int .u8 0,.int .u8 0,.int .u8 0,.int .u8 0,.int .u8 0,.int .u8 0,.int .u8 0,.int .u8 0,.int .u8 0,.int .u8 0,.int .u8 0,.int .u8 0,.int .u8 0,.int .u8 0,.int .u8 0,.int .u8 0,.int .u8 0,.int .u8 0,.int .u8 0,.int .u8 0,.int .u8 0,.int .u8 0,.int .u8 0,.int .u8 0,.int .u8 0,.int .u8 0,.int .u8 0,.int .u8 0,.int .u8 0,.int .u8 0,.int .u8 0,.int .u8 0,.int .u8 0,.int .u8 0,.int .u8 0,.int .u8 0,.int .u8 0,.int .u8 0,.int .u8 0,.int .u8 0,.int .u8 0,.int .u8 0,.int .u8 0,.int .u8 0,.int .u8 0,.int .u8 0,.int .u8 0,.int .u8 0,.int .u8 0,.int .u8 0,.int .u8 0,.int .u8 0,.int .u8 0,.int .u8 0,.int .u8 0,.int .u8 0,.int .u8 0,.int .u8 0,.int .u8 0,.int .u8 0,.int .u8 0,.int .u8 0,.int .u8 0,.int .u8 0,.int .u8 0,.int .u8 0,.int .u8 0,.int .u8 0,.int .u8 0,.int .u8 0,.int .u8 0,.int .u8 0,.int .u8 0,.int .u8 0,.int .u8 0,.int .u8 0,.int .u8 0,.int .u8 0,.int .u8 0,.int .u8 0,.int .u8 0,.int .u8 0,.int .u8 0,.int .u8 0,.int .u8 0,.int .u8 0,.int .u8 0,.int .u8 0,.int .u8 0,.int .u8 0,.int .u8 0,.int .u8 0,.int .u8 0,.int .u8 0,.int .u8 0,.int .u8 0,.int .u8 0,.int .u8 0,.int .u8 0,.int .u8 0,.int .u8 0,.int .u8 0,.int .u8 0,.int .u8 0,.int .u8 0,.int .u8 0,.int .u8 0,.int .u8 0,.int .u8 0,.int .u8 0,.int .u8 0,.int .u8 0,.int .u8 0,.int .u8 0,.int .u8 0,.int .u8 0,.int .u8 0,.int .u8 0,.int .u8 0,.int .u8 0,.int .u8 0,.int .u8 0,.int .u8 0,.int .u8 0,.int .u8 0,.int .u8 0,.int .u8 0,.int .u8 0,.int .u8 0,.int .u8 0,.int .u8 0,.int .u8 0,.int .u8 0,.int .u8 0,.int .u8 0,.int .u8 0,.int .u8 0,.int .u8 0,.int .u8 0,.int .u8 0,.int .u8 0,.int .u8 0,.int .u8 0,.int .u8 0,.int .u8 0,.int .u8 0,.int .u8 0,.int .u8 0,.int .u8 0,.int .u8 0,.int .u8 0,.int .u8 0,.int .u8 0,.int .u8 0,.int .u8 0,.int .u8 0,.int .u8 0,.int .u8 0,.int .u8 0,.int .u8 0,.int .u8 0,.int .u8 0,.int .u8 0,.int .u8 0,.int .u8 0,.int .u8 0,.int .u8 0,.int .u8 0,.int .u8 0,.int .u8 0,.int .u8 0,.int .u8 0,.int .u8 0,.int .u8 0,.int .u8 0,.int .u8 0,.int .u8 0,.int .u8 0,.int .u8 0,.int .u8 0,.int .u8 0,.int .u8 0,.int .u8 0,.int .u8 0,.int .u8 0,.int .u8 0,.int .u8 0,.int .u8 0,.int .u8 0,.int .u8 0,.int .u8 0,.int .u8 0,.int .u8 0,.int .u8 0,.int .u8 0,.int .u8 0,.int .u8 0,.int .u8 0,.int .u8 0,.int .u8 0,.int .u8 0,.int .u8 0,.int .u8 0,.int .u8 0,.int .u8 0,.int .u8 0,.int .u8 0,.int .u8 0,.int .u8 0,.int .u8 0,.int .u8 0,.int .u8 0,.int .u8 0,.int .u8 0,.int .u8 0,.int .u8 0,.int .u8 0,.int .u8 0,.int .u8 0,.int .u8 0,.int .u8 0,.int .u8 0,.int .u8 0,.int .u8 0,.int .u8 0,.int .u8 0,.int .u8 0,.int .u8 0,.int .u8 0,.int .u8 0,.int .u8 0],[]⟩
noncomputable def Bv:List (Option TI):=[none,none,none,some eO,none,some rD,none,none,none,some BE,none,none,none,none,none,none,none,none,none,none,some BC,none,some vZ,none,some mm,some kn,none,none,none,none,some BD,none,none,some v3,some rB,none,some rC,none,some jL,none,none,none,none,none,none,none,none,none,none,none,none,some v5,none,none,none,some rE,some Bz,none,none,none,none,none,none,none,none,none,none,none,none,none,none,none,none,none,some BA,none,some rA,none,none,none,none,none,none,none,none,none,none,none,none,none,none,none,none,none,none,some BB,none,none,none,none,none,none,none,none,none,none,none,none,none,none,none,some BF,none,none,none,none,some pA,none,none,none,none,none,none,none,none,none,none,none,none,none,none,none,none,none,none,none,none,none,none,none,none,none,none,none,none,none,none,none,none,none,none,some vY]
noncomputable def tab:aZ:=vV Bv
abbrev fU(t:Nat)(i:TI):Prop:=nD Tryd.prog t=some i∧m7 Tryd.prog t=true
theorem gm{t:Nat}{i:TI}(h:nD Tryd.prog t=some i:=by kernel_rfl)(a:m7 Tryd.prog t=true:=by kernel_rfl):fU t i:=⟨h,a⟩
theorem KN:fU 3 eO:=gm
theorem KT:fU 5 rD:=gm
theorem KZ:fU 9 BE:=gm
theorem KJ:fU 20 BC:=gm
theorem KK:fU 22 vZ:=gm
theorem KL:fU 24 mm:=gm
theorem KM:fU 25 kn:=gm
theorem KO:fU 30 BD:=gm
theorem KP:fU 33 v3:=gm
theorem KQ:fU 34 rB:=gm
theorem KR:fU 36 rC:=gm
theorem KS:fU 38 jL:=gm
theorem KU:fU 51 v5:=gm
theorem KV:fU 55 rE:=gm
theorem KW:fU 56 Bz:=gm
theorem KX:fU 74 BA:=gm
theorem KY:fU 76 rA:=gm
theorem K0:fU 95 BB:=gm
theorem KG:fU 111 BF:=gm
theorem KH:fU 116 pA:=gm
theorem KI:fU 151 vY:=gm
theorem vU:bQ Tryd.prog tab:=KF (show n5 Tryd.prog 0 Bv from⟨KN,KT,KZ,KJ,KK,KL,KM,KO,KP,KQ,KR,KS,KU,KV,KW,KX,KY,K0,KG,KH,KI,trivial⟩)
theorem vl:Tryd.prog.follows .mixedOrders=true:=by kernel_rfl
def cG(f:Func)(n:Nat)(k z b:List Nat)(s:Bool):eT:=⟨f.body.getD .skip,f.results.toList,⟨n,k,z,b⟩,s⟩
noncomputable def i6:=cG Tryd.f6 15 [0,1,4,8] [] [] false
noncomputable def i7:=cG Tryd.f7 99 [0,1,4,5,6,7,8,9,10,11,12,13,14,30,52,53,54] [90,95] [] true
noncomputable def i8:=cG Tryd.f8 51 [0,1,2,3,4,7,10,11,12,13,14,15,19,36,40] [7,44,49] [] true
noncomputable def i9:=cG Tryd.f9 13 [0,1,4,8] [] [] false
noncomputable def tQ:=cG Tryd.f10 27 [0,1,4,5,10,14,26] [] [] false
noncomputable def tR:=cG Tryd.f11 26 [0,1,4,5,10,14,25] [] [] false
noncomputable def tX:=cG Tryd.f12 53 [0,1,2,6,7,8,9,10,21,22,23,24,25,51] [] [] true
noncomputable def tY:=cG Tryd.f14 33 [0,1,4,11] [] [] false
noncomputable def tZ:=cG Tryd.f16 14 [0,1,4] [11] [] true
noncomputable def ua:=cG Tryd.f18 52 [0,2,3,4,5,10,24,25,26] [3,43,48] [] true
noncomputable def ub:=cG Tryd.f19 64 [0,1,2,3,4,7,13,18,33,63] [1,3] [] false
noncomputable def uc:=cG Tryd.f21 8 [0,2,4] [5] [] false
noncomputable def ud:=cG Tryd.f22 8 [0,2,4] [5] [] false
noncomputable def ue:=cG Tryd.f23 86 [0,1,2,3,4,5,6] [2,3,1000006] [] true
noncomputable def uf:=cG Tryd.f27 20 [0,1,4,5,6,11,12,13,16,19] [] [] false
noncomputable def ug:=cG Tryd.f28 13 [0,2] [] [] false
noncomputable def uh:=cG Tryd.f31 12 [0,1] [] [] false
noncomputable def ui:=cG Tryd.f32 8 [0,2] [] [] false
noncomputable def uj:=cG Tryd.f33 15 [0,2,3] [] [] false
noncomputable def uk:=cG Tryd.f34 49 [0,2,3,4] [4,15,21,24,1000003] [] true
noncomputable def um:=cG Tryd.f35 12 [0,1,4] [] [] false
noncomputable def uo:=cG Tryd.f36 57 [0,1,2,3,4,5,6,16,29,40,48,54,56] [1] [] true
noncomputable def uq:=cG Tryd.f37 28 [0,1,2] [1] [] false
noncomputable def ur:=cG Tryd.f38 75 [0,1,2,4,5,6,7,8,9,14,22,23,24,25,64,69] [2] [] true
noncomputable def uu:=cG Tryd.f39 9 [0,1,4] [] [] false
noncomputable def uv:=cG Tryd.f40 6 [0,1,2] [1] [] false
noncomputable def uw:=cG Tryd.f42 26 [0,1,4,5,10,14,25] [] [] false
noncomputable def ux:=cG Tryd.f43 26 [0,1,4,5,10,14,25] [] [] false
noncomputable def uy:=cG Tryd.f47 6 [0,2] [] [] false
noncomputable def uz:=cG Tryd.f50 19 [0,1,4,5,7,8,9,16] [] [] false
noncomputable def uA:=cG Tryd.f55 23 [0,1,4,17] [] [] false
noncomputable def uB:=cG Tryd.f56 48 [0,1,2,6,7,8,9,10,21,33,39] [] [] false
noncomputable def uC:=cG Tryd.f57 25 [0,2,3,5,6,7,8,9,14] [6,18,21] [] true
noncomputable def uD:=cG Tryd.f58 38 [0,1,2,3,8,9,10,11,17,25] [31] [] true
noncomputable def uE:=cG Tryd.f59 15 [0,1,2,6] [] [] false
noncomputable def uF:=cG Tryd.f60 44 [0,2,3,5,6,9,10,11,12,13,19,28,42] [5] [] false
noncomputable def uG:=cG Tryd.f61 26 [0,1,4,5,10,12,13,14,24] [] [] false
noncomputable def uH:=cG Tryd.f62 9 [0,1,4] [] [] false
noncomputable def uI:=cG Tryd.f63 7 [0,1,2] [1] [] false
noncomputable def uJ:=cG Tryd.f75 98 [0,2,4,5,31,47,57,68,80] [8,13,18,23,28,34,39,44,50,54,60,65,71,76,83,88,93] [] false
noncomputable def uK:=cG Tryd.f76 38 [0,2,4,22,24,25,26,27,36] [] [] true
noncomputable def uL:=cG Tryd.f77 8 [0,2,4] [5] [] false
noncomputable def uM:=cG Tryd.f78 9 [0,1] [] [] false
noncomputable def uN:=cG Tryd.f79 10 [0,1,2,3,4] [2,3] [] false
noncomputable def uO:=cG Tryd.f80 8 [0,1,4] [] [] false
noncomputable def uP:=cG Tryd.f81 19 [0,1,4,5,7,8,9,16] [] [] false
noncomputable def uQ:=cG Tryd.f87 21 [0,1,4,5,6,12] [17] [] false
noncomputable def uR:=cG Tryd.f88 8 [0,2] [] [] false
noncomputable def uS:=cG Tryd.f89 12 [0,2] [] [] false
noncomputable def uT:=cG Tryd.f90 63 [0,1,2,6,7,8,9,13,30,35,54] [] [] false
noncomputable def uU:=cG Tryd.f91 8 [0,1,4] [] [] false
noncomputable def uV:=cG Tryd.f93 53 [0,1,2,3,8,9,14,34] [] [] false
noncomputable def uW:=cG Tryd.f94 220 [0,1,2,3,4,10,11,12,13,14,15,16,17,18,19,20,21,22,23,24,28,33,50,58,80,85,103,110,140,151,171,185,199,213] [] [] false
noncomputable def uX:=cG Tryd.f96 58 [0,1,2,3,4,10,11,20,23] [] [] false
noncomputable def uY:=cG Tryd.f97 38 [0,1,2,3,10,13] [] [] false
noncomputable def tS:=cG Tryd.f115 44 [0,1,2,6,7,8] [41] [] false
noncomputable def tT:=cG Tryd.f116 29 [0,2,3,4] [] [] false
noncomputable def tU:=cG Tryd.f117 15 [0,1] [11] [] false
noncomputable def tV:=cG Tryd.f118 32 [0,1,2] [] [] false
noncomputable def tW:=cG Tryd.f119 18 [0,2,3,5,6,7,8,9,14] [] [] false
noncomputable def tH:List (Nat × eT):=[(6,i6),(7,i7),(8,i8),(9,i9),(10,tQ),(11,tR),(12,tX),(14,tY),(16,tZ),(18,ua),(19,ub),(21,uc),(22,ud),(23,ue),(27,uf),(28,ug),(31,uh),(32,ui),(33,uj),(34,uk),(35,um),(36,uo),(37,uq),(38,ur),(39,uu),(40,uv),(42,uw),(43,ux),(47,uy),(50,uz),(55,uA),(56,uB),(57,uC),(58,uD),(59,uE),(60,uF),(61,uG),(62,uH),(63,uI),(75,uJ),(76,uK),(77,uL),(78,uM),(79,uN),(80,uO),(81,uP),(87,uQ),(88,uR),(89,uS),(90,uT),(91,uU),(93,uV),(94,uW),(96,uX),(97,uY),(115,tS),(116,tT),(117,tU),(118,tV),(119,tW)]
noncomputable def Fs:FuncId→Option eT:=oJ tH
theorem cH{f:FuncId}{a:Func}{fi:eT}(e:Tryd.prog.funcs[f]?=some a)(d:∀(b:Array Value) (w:World),(callFunc f b).run Tryd.prog w = .ok (.enter f b) w)(c:a.body=some fi.body:=by kernel_rfl)(g:a.ntmps=fi.A.nt:=by kernel_rfl)(h:a.results.toList=fi.res:=by kernel_rfl):bM Tryd.prog f fi :=.of e c g h d
theorem FM:bM Tryd.prog 6 i6:=cH Tryd.func6 Tryd.call6
theorem FR:bM Tryd.prog 7 i7:=cH Tryd.func7 Tryd.call7
theorem FY:bM Tryd.prog 8 i8:=cH Tryd.func8 Tryd.call8
theorem F4:bM Tryd.prog 9 i9:=cH Tryd.func9 Tryd.call9
theorem E6:bM Tryd.prog 10 tQ:=cH Tryd.func10 Tryd.call10
theorem E7:bM Tryd.prog 11 tR:=cH Tryd.func11 Tryd.call11
theorem Fe:bM Tryd.prog 12 tX:=cH Tryd.func12 Tryd.call12
theorem Ff:bM Tryd.prog 14 tY:=cH Tryd.func14 Tryd.call14
theorem Fg:bM Tryd.prog 16 tZ:=cH Tryd.func16 Tryd.call16
theorem Fi:bM Tryd.prog 18 ua:=cH Tryd.func18 Tryd.call18
theorem Fj:bM Tryd.prog 19 ub:=cH Tryd.func19 Tryd.call19
theorem Fk:bM Tryd.prog 21 uc:=cH Tryd.func21 Tryd.call21
theorem Fl:bM Tryd.prog 22 ud:=cH Tryd.func22 Tryd.call22
theorem Fm:bM Tryd.prog 23 ue:=cH Tryd.func23 Tryd.call23
theorem Fo:bM Tryd.prog 27 uf:=cH Tryd.func27 Tryd.call27
theorem Fp:bM Tryd.prog 28 ug:=cH Tryd.func28 Tryd.call28
theorem Fq:bM Tryd.prog 31 uh:=cH Tryd.func31 Tryd.call31
theorem Ft:bM Tryd.prog 32 ui:=cH Tryd.func32 Tryd.call32
theorem Fu:bM Tryd.prog 33 uj:=cH Tryd.func33 Tryd.call33
theorem Fv:bM Tryd.prog 34 uk:=cH Tryd.func34 Tryd.call34
theorem Fw:bM Tryd.prog 35 um:=cH Tryd.func35 Tryd.call35
theorem Fx:bM Tryd.prog 36 uo:=cH Tryd.func36 Tryd.call36
theorem Fy:bM Tryd.prog 37 uq:=cH Tryd.func37 Tryd.call37
theorem Fz:bM Tryd.prog 38 ur:=cH Tryd.func38 Tryd.call38
theorem FA:bM Tryd.prog 39 uu:=cH Tryd.func39 Tryd.call39
theorem FB:bM Tryd.prog 40 uv:=cH Tryd.func40 Tryd.call40
theorem FC:bM Tryd.prog 42 uw:=cH Tryd.func42 Tryd.call42
theorem FD:bM Tryd.prog 43 ux:=cH Tryd.func43 Tryd.call43
theorem FE:bM Tryd.prog 47 uy:=cH Tryd.func47 Tryd.call47
theorem FG:bM Tryd.prog 50 uz:=cH Tryd.func50 Tryd.call50
theorem FH:bM Tryd.prog 55 uA:=cH Tryd.func55 Tryd.call55
theorem FI:bM Tryd.prog 56 uB:=cH Tryd.func56 Tryd.call56
theorem FJ:bM Tryd.prog 57 uC:=cH Tryd.func57 Tryd.call57
theorem FK:bM Tryd.prog 58 uD:=cH Tryd.func58 Tryd.call58
theorem FL:bM Tryd.prog 59 uE:=cH Tryd.func59 Tryd.call59
theorem FN:bM Tryd.prog 60 uF:=cH Tryd.func60 Tryd.call60
theorem FO:bM Tryd.prog 61 uG:=cH Tryd.func61 Tryd.call61
theorem FP:bM Tryd.prog 62 uH:=cH Tryd.func62 Tryd.call62
theorem FQ:bM Tryd.prog 63 uI:=cH Tryd.func63 Tryd.call63
theorem FT:bM Tryd.prog 75 uJ:=cH Tryd.func75 Tryd.call75
theorem FU:bM Tryd.prog 76 uK:=cH Tryd.func76 Tryd.call76
theorem FV:bM Tryd.prog 77 uL:=cH Tryd.func77 Tryd.call77
theorem FW:bM Tryd.prog 78 uM:=cH Tryd.func78 Tryd.call78
theorem FX:bM Tryd.prog 79 uN:=cH Tryd.func79 Tryd.call79
theorem FZ:bM Tryd.prog 80 uO:=cH Tryd.func80 Tryd.call80
theorem F0:bM Tryd.prog 81 uP:=cH Tryd.func81 Tryd.call81
theorem F1:bM Tryd.prog 87 uQ:=cH Tryd.func87 Tryd.call87
theorem F2:bM Tryd.prog 88 uR:=cH Tryd.func88 Tryd.call88
theorem F3:bM Tryd.prog 89 uS:=cH Tryd.func89 Tryd.call89
theorem F5:bM Tryd.prog 90 uT:=cH Tryd.func90 Tryd.call90
theorem F6:bM Tryd.prog 91 uU:=cH Tryd.func91 Tryd.call91
theorem F7:bM Tryd.prog 93 uV:=cH Tryd.func93 Tryd.call93
theorem F8:bM Tryd.prog 94 uW:=cH Tryd.func94 Tryd.call94
theorem F9:bM Tryd.prog 96 uX:=cH Tryd.func96 Tryd.call96
theorem Ga:bM Tryd.prog 97 uY:=cH Tryd.func97 Tryd.call97
theorem E8:bM Tryd.prog 115 tS:=cH Tryd.func115 Tryd.call115
theorem E9:bM Tryd.prog 116 tT:=cH Tryd.func116 Tryd.call116
theorem Fa:bM Tryd.prog 117 tU:=cH Tryd.func117 Tryd.call117
theorem Fb:bM Tryd.prog 118 tV:=cH Tryd.func118 Tryd.call118
theorem Fc:bM Tryd.prog 119 tW:=cH Tryd.func119 Tryd.call119
theorem Ge:pW Tryd.prog tH:=⟨FM,FR,FY,F4,E6,E7,Fe,Ff,Fg,Fi,Fj,Fk,Fl,Fm,Fo,Fp,Fq,Ft,Fu,Fv,Fw,Fx,Fy,Fz,FA,FB,FC,FD,FE,FG,FH,FI,FJ,FK,FL,FN,FO,FP,FQ,FT,FU,FV,FW,FX,FZ,F0,F1,F2,F3,F5,F6,F7,F8,F9,Ga,E8,E9,Fa,Fb,Fc,trivial⟩
def kA:List Int:=[0,0,0,0,0,0,0,0,0,4,0,0,0,0,0,0,0,0,0,0,0,0,0,0,0,0,0,0,0,0,0,0,4,0,0,0,0,0,0,0,0,0,0,0,0,0,0,0,1,1,1,1,1,1,1,1,1,1,0,0,0,0,0,0,0,2,2,2,2,2,2,2,2,2,2,2,2,2,2,2,2,2,2,2,2,2,2,2,2,2,2,0,0,0,0,0,0,2,2,2,2,2,2,2,2,2,2,2,2,2,2,2,2,2,2,2,2,2,2,2,2,2,2,0,0,0,0,0,0,0,0,0,0,0,0,0,0,0,0,0,0,0,0,0,0,0,0,0,0,0,0,0,0,0,0,0,0,0,0,0,0,0,0,0,0,0,0,0,0,0,0,0,0,0,0,0,0,0,0,0,0,0,0,0,0,0,0,0,0,0,0,0,0,0,0,0,0,0,0,0,0,0,0,0,0,0,0,0,0,0,0,0,0,0,0,0,0,0,0,0,0,0,0,0,0,0,0,0,0,0,0,0,0,0,0,0,0,0,0,0,0,0,0,0,0,0,0,0,0,0,0,0,0,0,0,0]
def jA:List D:=kA.map λa =>.int .u8 a
noncomputable def gl:Nat→Option D:=λa=>if a=0 then some (.aE jA)else none
abbrev qB:Nat:=95
theorem E0(vs:Array Value)(w:World):(callFunc 95 vs).run Tryd.prog w=((Extern.BytealgCompare.compare vs).run Tryd.prog w).andThen λv w' =>.ok (.value v) w':=run_callFunc_extern Tryd.func95 (by kernel_rfl) (by kernel_rfl) (by kernel_rfl) (by kernel_rfl) vs w
theorem Dj{args:List D}{h h':Z}{d:D}(a:qj args h=some (d,h')){g:Gh}{vs:List Value}(hi:Inv g h)(e:aU g vs args):jM Tryd.prog 95 vs g h' d:=by
 unfold qj at a;split at a
 ·injection a with a;injection a with b c;subst b;subst c;exact Dl E0 hi e
 ·cases a
abbrev m4:Nat:=20
noncomputable def xt:bV:=λa args b=>if a=qB then qj args b else if a=m4 then oe 11 2 4 args b else none
noncomputable def X:Cx:=⟨tab,gl,xt⟩
noncomputable def R:bV:=run X Fs
theorem er(fi:eT){f:FuncId}{args:List D}{h:Z}{x:Option (D × Z)}(a:Fs f=some fi:=by kernel_rfl)(b:qQ X R bZ fi args h=x:=by kernel_rfl):R f args h=x:=(A9 a args h).trans b
theorem Lh(a b:List UInt8)(h:Z):R qB [.str a,.str b] h=some (.int .i64 (Lib.compareBytes a b),h):=(rm (X:=X) (F:=Fs) (by kernel_rfl) _ _).trans (by simp[X,xt,qj])
theorem Li(args:List D)(h:Z):R m4 args h=oe 11 2 4 args h:=(rm (X:=X) (F:=Fs) (by kernel_rfl) _ _).trans (by simp only[X,xt,show ¬(m4=qB) by decide,aL,aR])
noncomputable section
def wx(a b:D)(h:Z):Option (D × Z):=
 (aX tab hC a).bind λc=>(U tab .gtr W c b).bind λc=>(aI c
  ((gj tab hC false true false [a,b]).bind λb=>some (.aO,[b],h))
  (some (.aO,[a],h))).bind λa=>cP a.1 ((eE tab gZ [0] [(Y 0 a.2.1)]).bind λb=>(pC gZ 2 a.2.2 b).bind λb=>some (aD [b.1],b.2)) λb=>dB b (some (aD [.fG],a.2.2))
theorem qn(a b:D)(h:Z):R ot [a,b] h=wx a b h:=
 er i6
def r4(a b c:D)(d:List D)(e:Z):Option bP:=
 (U tab .lss W (Y 1 d) c).bind λc=>aI c
  ((aM tab cD b (Y 1 d)).bind λf=>(aC tab bW 0 f).bind λf=>(aA tab e W f).bind λf=>(U tab .add W f a).bind λa=>(aM tab cD b (Y 1 d)).bind λb=>(aC tab bW 0 b).bind λb=>((cE tab e W b a).bind λa=>some ((.bJ:D),a)).bind λa=>(U tab .add W (Y 1 d) (.int .i64 1)).bind λb=>some (.aO,[(Y 1 d),b,c],a.2))
  (some ((.ext 2),[(Y 0 d),(Y 1 d),c],e))
def pV(a:D)(b:D × Z)(ds:List D)(c:Z):Option bP:=
 (U tab .gtr W (Y 2 ds) (.int .i64 0)).bind λd=>aI d
  ((R qy [a] c).bind λe=>(some ((.ptr e.2.length 0 0:D),aK e.2 aP 11 [[.str [],.int .i64 0,.int .i64 0,.int .i64 0,.int .i64 0,.J,.int .i64 0,.int .i64 0,.str [],.str [],.J]])).bind λf=>((cE tab f.2 aP f.1 e.1).bind λe=>some ((.bJ:D),e)).bind λg=>(R gw [a,.int .i64 3] g.2).bind λg=>(aC tab aP 1 f.1).bind λh=>(aC tab aF 1 h).bind λh=>((cE tab g.2 W h g.1).bind λe=>some ((.bJ:D),e)).bind λh=>(aM tab gy b.1 g.1).bind λi=>(aA tab h.2 W i).bind λi=>(aC tab aP 1 f.1).bind λj=>(aC tab aF 2 j).bind λj=>(aA tab h.2 W j).bind λj=>(U tab .sub W i j).bind λi=>(aC tab aP 1 f.1).bind λj=>(aC tab aF 4 j).bind λj=>(aA tab h.2 cD j).bind λj=>(dH tab h.2 cD cD (.J) j).bind λh=>(aX tab cD h.1).bind λj=>((bZ (r4 i h.1 j) [(Y 7 ds),.int .i64 0,(Y 11 ds)] h.2).bind λk=>some ((bO 2 k.1),[(Y 0 k.2.1),(Y 1 k.2.1),(Y 2 k.2.1)],k.2.2)).bind λk=>cP k.1 ((aC tab aP 1 f.1).bind λl=>(aC tab aF 2 l).bind λl=>(aA tab k.2.2 W l).bind λl=>(U tab .add W l i).bind λl=>(aC tab aP 1 f.1).bind λm=>(aC tab aF 3 m).bind λm=>(aA tab k.2.2 W m).bind λm=>(U tab .add W m i).bind λm=>(aC tab aP 1 f.1).bind λn=>(aC tab aF 4 n).bind λn=>((cE tab k.2.2 cD n h.1).bind λe=>some ((.bJ:D),e)).bind λn=>(aC tab aP 1 f.1).bind λo=>(aC tab aF 2 o).bind λo=>((cE tab n.2 W o l).bind λe=>some ((.bJ:D),e)).bind λl=>(aC tab aP 1 f.1).bind λn=>(aC tab aF 3 n).bind λn=>((cE tab l.2 W n m).bind λe=>some ((.bJ:D),e)).bind λl=>(aC tab aP 1 f.1).bind λm=>(aC tab aF 3 m).bind λm=>(aA tab l.2 W m).bind λm=>(aM tab gy b.1 g.1).bind λb=>((cE tab l.2 W b m).bind λe=>some ((.bJ:D),e)).bind λb=>(aA tab b.2 aP f.1).bind λe=>(bF tab bD 1 [0] [e]).bind λe=>(dH tab b.2 bD bD (Y 0 ds) e).bind λb=>(R gw [a,.int .i64 4] b.2).bind λa=>(bF tab aN 1 [0] [a.1]).bind λe=>(dH tab a.2 aN aN (Y 1 ds) e).bind λa=>(U tab .sub W (Y 2 ds) (.int .i64 1)).bind λe=>some (.aO,[b.1,a.1,e,f.1,g.1,i,h.1,(Y 0 k.2.1),d,j,(Y 1 k.2.1),(Y 2 k.2.1)],a.2)) λa=>cP (bO 1 a) ((U tab .sub W (Y 2 ds) (.int .i64 1)).bind λa=>some (.aO,[(Y 0 ds),(Y 1 ds),a,f.1,g.1,i,h.1,(Y 0 k.2.1),d,j,(Y 1 k.2.1),(Y 2 k.2.1)],k.2.2)) λa=>some (a,[(Y 0 ds),(Y 1 ds),(Y 2 ds),f.1,g.1,i,h.1,(Y 0 k.2.1),d,j,(Y 1 k.2.1),(Y 2 k.2.1)],k.2.2))
  (some ((.ext 0),[(Y 0 ds),(Y 1 ds),(Y 2 ds),(Y 3 ds),(Y 4 ds),(Y 5 ds),(Y 6 ds),(Y 7 ds),d,(Y 9 ds),(Y 10 ds),(Y 11 ds)],c))
def wV(a b:D)(h:Z):Option (D × Z):=
 (R gw [a,.int .i64 4] h).bind λc=>(U tab .mul W (.int .i64 10) c.1).bind λd=>(R gw [a,.int .i64 4] c.2).bind λc=>(U tab .mul W (.int .i64 10) c.1).bind λe=>(R gw [a,.int .i64 4] c.2).bind λc=>(U tab .mul W (.int .i64 10) c.1).bind λf=>(eE tab gy [0,1,2] [d,e,f]).bind λd=>(some ((.ptr c.2.length 0 0:D),aK c.2 gy 3 [[.int .i64 0,.int .i64 0,.int .i64 0]])).bind λc=>((cE tab c.2 gy c.1 d).bind λd=>some ((.bJ:D),d)).bind λd=>(U tab .add W b (.int .i64 1)).bind λb=>(R gw [a,b] d.2).bind λb=>((bZ (pV a c) [.J,.J,b.1,.any,.any,.any,.any,.any,.any,.any,.any,.any] b.2).bind λa=>some ((bO 0 a.1),[(Y 0 a.2.1),(Y 1 a.2.1),(Y 2 a.2.1),(Y 3 a.2.1),(Y 4 a.2.1),(Y 5 a.2.1),(Y 6 a.2.1),(Y 7 a.2.1),(Y 8 a.2.1),(Y 9 a.2.1),(Y 10 a.2.1),(Y 11 a.2.1)],a.2.2)).bind λa=>cP a.1 (scope h a.2.2 (aD [(Y 0 a.2.1),(Y 1 a.2.1)])) λb=>dB b (scope h a.2.2 (aD [.J,.J]))
theorem Ep(a b:D)(h:Z):R lS [a,b] h=wV a b h:=
 er i7
def xe(a b c d e:D)(h:Z):Option (D × Z):=
 (gX c).bind λc=>(aA tab h aP c).bind λf=>(R ou [f] h).bind λf=>(U tab .neq iT f.1 (.int .i64 0)).bind λg=>aI g
  (scope h f.2 (aD [.J,.J,f.1]))
  ((aC tab aP 1 c).bind λg=>(aC tab aF 1 g).bind λg=>(aA tab f.2 W g).bind λg=>(R m4 [a,g] f.2).bind λf=>(gF 0 f.1).bind λg=>(gF 1 f.1).bind λi=>(gd i true (some g)).bind λg=>(gd i true (aC tab aP 1 c)).bind λj=>(gd i true (aC tab aF 2 j)).bind λj=>(gd i true (aA tab f.2 W j)).bind λj=>(gd i true (U tab .neq W g j)).bind λg=>(cJ i g (.bool false)).bind λg=>aI g
  (scope h f.2 (aD [.J,.J,.int .i64 19]))
  ((aX tab bD a).bind λg=>(U tab .geq W g e).bind λe=>aI e
  (scope h f.2 (aD [.J,.J,.int .i64 16]))
  ((R oI [a] f.2).bind λa=>(aA tab a.2 aP c).bind λe=>(bF tab bD 1 [0] [e]).bind λg=>(dH tab a.2 bD bD a.1 g).bind λa=>(R lU [b] a.2).bind λb=>(bF tab aN 1 [0] [d]).bind λd=>(dH tab b.2 aN aN b.1 d).bind λb=>eD (aA tab f.2 aP c=some e)
 (scope h b.2 (aD [a.1,b.1,.int .i64 0])))))
theorem EG(a b c d e:D)(h:Z):R kY [a,b,c,d,e] h=xe a b c d e h:=
 er i8
def r8(a b:D)(h:Z):Option (D × Z):=
 (aX tab bD a).bind λc=>(U tab .leq W b c).bind λc=>aI c
  (some (aD [.int .i64 0],h))
  ((aX tab bD a).bind λa=>(U tab .sub W b a).bind λa=>some (aD [a],h))
theorem EH(a b:D)(h:Z):R oG [a,b] h=r8 a b h:=
 er i9
def wX(a b:D)(ds:List D)(c:Z):Option bP:=
 (aX tab bD a).bind λd=>(U tab .lss W (Y 1 ds) d).bind λd=>aI d
  ((aM tab bD a (Y 1 ds)).bind λa=>(aA tab c aP a).bind λa=>(aM tab bD b (Y 1 ds)).bind λb=>(aA tab c aP b).bind λb=>(R tD [a,b] c).bind λa=>(fM .not a.1).bind λb=>aI b
  (some (.ret,[.bool false,(Y 1 ds),d,b],a.2))
  ((U tab .add W (Y 1 ds) (.int .i64 1)).bind λe=>some (.aO,[(Y 0 ds),e,d,b],a.2)))
  (some ((.ext 0),[(Y 0 ds),(Y 1 ds),d,(Y 3 ds)],c))
def wW(a b:D)(h:Z):Option (D × Z):=
 (aX tab bD a).bind λc=>(aX tab bD b).bind λd=>(U tab .neq W c d).bind λc=>aI c
  (some (aD [.bool false],h))
  (((bZ (wX a b) [.bool false,.int .i64 0,.any,.any] h).bind λa=>some ((bO 0 a.1),[(Y 0 a.2.1),(Y 1 a.2.1),(Y 2 a.2.1),(Y 3 a.2.1)],a.2.2)).bind λa=>cP a.1 (some (aD [.bool true],a.2.2)) λb=>dB b (some (aD [(Y 0 a.2.1)],a.2.2)))
theorem Er(a b:D)(h:Z):R oC [a,b] h=wW a b h:=
 er tQ
def wZ(a b:D)(ds:List D)(c:Z):Option bP:=
 (aX tab aN a).bind λd=>(U tab .lss W (Y 1 ds) d).bind λd=>aI d
  ((aM tab aN a (Y 1 ds)).bind λa=>(aA tab c W a).bind λa=>(aM tab aN b (Y 1 ds)).bind λb=>(aA tab c W b).bind λb=>(U tab .neq W a b).bind λa=>aI a
  (some (.ret,[.bool false,(Y 1 ds),d,a],c))
  ((U tab .add W (Y 1 ds) (.int .i64 1)).bind λb=>some (.aO,[(Y 0 ds),b,d,a],c)))
  (some ((.ext 0),[(Y 0 ds),(Y 1 ds),d,(Y 3 ds)],c))
def wY(a b:D)(h:Z):Option (D × Z):=
 (aX tab aN a).bind λc=>(aX tab aN b).bind λd=>(U tab .neq W c d).bind λc=>aI c
  (some (aD [.bool false],h))
  (((bZ (wZ a b) [.bool false,.int .i64 0,.any,.any] h).bind λa=>some ((bO 0 a.1),[(Y 0 a.2.1),(Y 1 a.2.1),(Y 2 a.2.1),(Y 3 a.2.1)],a.2.2)).bind λa=>cP a.1 (some (aD [.bool true],a.2.2)) λb=>dB b (some (aD [(Y 0 a.2.1)],a.2.2)))
theorem Es(a b:D)(h:Z):R oD [a,b] h=wY a b h:=
 er tR
def xg(a b c:D)(ds:List D)(d:Z):Option bP:=
 (U tab .lss W (Y 5 ds) c).bind λc=>aI c
  ((aM tab bD b (Y 5 ds)).bind λb=>(aA tab d aP b).bind λb=>(some ((.ptr d.length 0 0:D),aK d aP 11 [[.str [],.int .i64 0,.int .i64 0,.int .i64 0,.int .i64 0,.J,.int .i64 0,.int .i64 0,.str [],.str [],.J]])).bind λe=>((cE tab e.2 aP e.1 b).bind λb=>some ((.bJ:D),b)).bind λb=>(gj tab bD false true false [a,(Y 5 ds)]).bind λa=>(aC tab aP 1 e.1).bind λf=>(aC tab aF 1 f).bind λf=>(aA tab b.2 W f).bind λf=>(R m4 [a,f] b.2).bind λa=>(gF 0 a.1).bind λb=>(gF 1 a.1).bind λf=>(aA tab a.2 aP e.1).bind λg=>(R ou [g] a.2).bind λa=>(U tab .neq iT a.1 (.int .i64 0)).bind λg=>(gd g false (some f)).bind λh=>(gd g false (some h)).bind λh=>(gd h true (some b)).bind λi=>(gd h true (aC tab aP 1 e.1)).bind λj=>(gd h true (aC tab aF 2 j)).bind λj=>(gd h true (aA tab a.2 W j)).bind λj=>(gd h true (U tab .neq W i j)).bind λi=>(gd g false (cJ h i (.bool false))).bind λh=>(cJ g (.bool true) h).bind λg=>aI g
  (some (.ret,[.bool false,(Y 5 ds),e.1,b,f,(Y 5 ds),c,g],a.2))
  ((U tab .add W (Y 5 ds) (.int .i64 1)).bind λh=>some (.aO,[(Y 0 ds),(Y 5 ds),e.1,b,f,h,c,g],a.2)))
  (some ((.ext 0),[(Y 0 ds),(Y 1 ds),(Y 2 ds),(Y 3 ds),(Y 4 ds),(Y 5 ds),c,(Y 7 ds)],d))
def xf(a b c:D)(h:Z):Option (D × Z):=
 (aX tab bD a).bind λd=>(U tab .gtr W d c).bind λc=>(gd c false (some b)).bind λb=>(gd c false (aX tab aN b)).bind λb=>(gd c false (some a)).bind λd=>(gd c false (aX tab bD d)).bind λd=>(gd c false (U tab .neq W b d)).bind λb=>(cJ c (.bool true) b).bind λb=>aI b
  (scope h h (aD [.bool false]))
  ((aX tab bD a).bind λb=>((bZ (xg a a b) [.bool false,.any,.any,.any,.any,.int .i64 0,.any,.any] h).bind λa=>some ((bO 0 a.1),[(Y 0 a.2.1),(Y 1 a.2.1),(Y 2 a.2.1),(Y 3 a.2.1),(Y 4 a.2.1),(Y 5 a.2.1),(Y 6 a.2.1),(Y 7 a.2.1)],a.2.2)).bind λa=>cP a.1 (scope h a.2.2 (aD [.bool true])) λb=>dB b (scope h a.2.2 (aD [(Y 0 a.2.1)])))
theorem EI(a b c:D)(h:Z):R oH [a,b,c] h=xf a b c h:=
 er tX
def sa(a b:D)(h:Z):Option (D × Z):=
 (R tC [a] h).bind λc=>(fM .not c.1).bind λd=>(gd d false (some b)).bind λe=>(gd d false (U tab .lss W e (.int .i64 1))).bind λe=>(cJ d (.bool true) e).bind λd=>aI d
  (some (aD [.int .i64 0],c.2))
  ((fp tab a).bind λd=>(aC tab gZ 1 d).bind λd=>(aA tab c.2 W d).bind λd=>(U tab .add W d (.int .i64 1)).bind λd=>(fp tab a).bind λe=>(aC tab gZ 1 e).bind λe=>((cE tab c.2 W e d).bind λc=>some ((.bJ:D),c)).bind λc=>(fp tab a).bind λd=>(aC tab gZ 0 d).bind λd=>(aA tab c.2 hC d).bind λd=>(fp tab a).bind λa=>(aC tab gZ 1 a).bind λa=>(aA tab c.2 W a).bind λa=>(U tab .sub W a (.int .i64 1)).bind λa=>(aM tab hC d a).bind λa=>(aA tab c.2 fa a).bind λa=>(hN tab fa W a).bind λa=>(U tab .rem W a b).bind λa=>some (aD [a],c.2))
theorem yR(a b:D)(h:Z):R gw [a,b] h=sa a b h:=
 er tY
def w3(a b:D)(h:Z):Option (D × Z):=
 (some ((.ptr h.length 0 0:D),aK h aP 11 [[.str [],.int .i64 0,.int .i64 0,.int .i64 0,.int .i64 0,.J,.int .i64 0,.int .i64 0,.str [],.str [],.J]])).bind λc=>(U tab .add W b (.int .i64 1)).bind λd=>(eE tab bW [0,1] [b,.int .i64 1]).bind λe=>(bF tab cD 1 [0] [e]).bind λe=>(eE tab aF [1,2,3,4] [a,b,d,e]).bind λa=>(eE tab aP [0,1] [.str [114],a]).bind λa=>((cE tab c.2 aP c.1 a).bind λa=>some ((.bJ:D),a)).bind λa=>(aA tab a.2 aP c.1).bind λb=>scope h a.2 (aD [b])
theorem Eu(a b:D)(h:Z):R lT [a,b] h=w3 a b h:=
 er tZ
def wA(a:D)(b:D × Z)(c:D)(ds:List D)(d:Z):Option bP:=
 (U tab .lss W (Y 1 ds) c).bind λc=>aI c
  ((aC tab aF 4 b.1).bind λe=>(aA tab d cD e).bind λe=>(aC tab aF 4 a).bind λf=>(aA tab d cD f).bind λf=>(aM tab cD f (Y 1 ds)).bind λf=>(aC tab bW 0 f).bind λf=>(aA tab d W f).bind λf=>(aC tab aF 4 a).bind λa=>(aA tab d cD a).bind λa=>(aM tab cD a (Y 1 ds)).bind λa=>(aC tab bW 1 a).bind λa=>(aA tab d W a).bind λa=>(eE tab bW [0,1] [f,a]).bind λa=>(bF tab cD 1 [0] [a]).bind λa=>(dH tab d cD cD e a).bind λa=>(aC tab aF 4 b.1).bind λb=>((cE tab a.2 cD b a.1).bind λa=>some ((.bJ:D),a)).bind λa=>(U tab .add W (Y 1 ds) (.int .i64 1)).bind λb=>some (.aO,[(Y 1 ds),b,c],a.2))
  (some ((.ext 0),[(Y 0 ds),(Y 1 ds),c],d))
def wz(a:D)(h:Z):Option (D × Z):=
 (some ((.ptr h.length 0 0:D),aK h aP 11 [[.str [],.int .i64 0,.int .i64 0,.int .i64 0,.int .i64 0,.J,.int .i64 0,.int .i64 0,.str [],.str [],.J]])).bind λb=>(R qD [a] b.2).bind λc=>(iG 10 c.1).bind λd=>(R gw [a,.int .i64 4] c.2).bind λc=>(U tab .lss W c.1 (.int .i64 3)).bind λe=>aI e
  ((aA tab c.2 aF d).bind λe=>(eE tab aP [1] [e]).bind λe=>((cE tab c.2 aP b.1 e).bind λe=>some ((.bJ:D),e)).bind λf=>(aA tab f.2 aP b.1).bind λg=>scope h f.2 (aD [g]))
  ((aC tab aF 0 d).bind λf=>(aA tab c.2 W f).bind λf=>(aC tab aF 1 d).bind λi=>(aA tab c.2 W i).bind λi=>(aC tab aF 2 d).bind λj=>(aA tab c.2 W j).bind λj=>(aC tab aF 3 d).bind λk=>(aA tab c.2 W k).bind λk=>(eE tab aF [0,1,2,3] [f,i,j,k]).bind λf=>(some ((.ptr c.2.length 0 0:D),aK c.2 aF 10 [[.int .i64 0,.int .i64 0,.int .i64 0,.int .i64 0,.J,.int .i64 0,.int .i64 0,.str [],.str [],.J]])).bind λc=>((cE tab c.2 aF c.1 f).bind λe=>some ((.bJ:D),e)).bind λf=>(aC tab aF 4 d).bind λi=>(aA tab f.2 cD i).bind λi=>(aX tab cD i).bind λi=>((bZ (wA d c i) [.any,.int .i64 0,.any] f.2).bind λd=>some ((bO 0 d.1),[(Y 0 d.2.1),(Y 1 d.2.1),(Y 2 d.2.1)],d.2.2)).bind λd=>cP d.1 ((bF tab cW 3 [0,1,2] [.str [115,97,109,112,108,101],.str [116,111,111,45,108,111,110,103],.str [114,49]]).bind λf=>(R ft [a,f] d.2.2).bind λa=>(aA tab a.2 aF c.1).bind λf=>(eE tab aP [0,1] [a.1,f]).bind λi=>eD (aA tab d.2.2 aF c.1=some f)
 (((cE tab a.2 aP b.1 i).bind λe=>some ((.bJ:D),e)).bind λa=>(aA tab a.2 aP b.1).bind λg=>scope h a.2 (aD [g]))) λa=>dB a ((aA tab d.2.2 aP b.1).bind λg=>scope h d.2.2 (aD [g])))
theorem D5(a:D)(h:Z):R qy [a] h=wz a h:=
 er ua
def wB(a:D)(h:Z):Option (D × Z):=
 (gX a).bind λa=>(aC tab aP 1 a).bind λb=>(aA tab h aF b).bind λb=>(iG 10 b).bind λb=>(aC tab aP 0 a).bind λc=>(aA tab h bE c).bind λc=>(U tab .eql bE c (.str [])).bind λc=>aI c
  ((aA tab h aF b).bind λc=>(R ov [c] h).bind λc=>some (aD [c.1],c.2))
  ((aC tab aP 0 a).bind λa=>(aA tab h bE a).bind λa=>(aX tab bE a).bind λa=>(U tab .gtr W a (.int .i64 32)).bind λa=>aI a
  (some (aD [.int .i64 3],h))
  ((aA tab h aF b).bind λa=>(R qz [a] h).bind λa=>(fM .not a.1).bind λc=>aI c
  (some (aD [.int .i64 2],a.2))
  ((aA tab a.2 aF b).bind λc=>(R qA [c,.int .i64 60000] a.2).bind λa=>(U tab .eql iT a.1 (.int .i64 9)).bind λc=>(gd c false (some a.1)).bind λd=>(gd c false (U tab .eql iT d (.int .i64 4))).bind λd=>(cJ c (.bool true) d).bind λc=>(gd c false (some a.1)).bind λd=>(gd c false (U tab .eql iT d (.int .i64 19))).bind λd=>(cJ c (.bool true) d).bind λc=>aI c
  (some (aD [a.1],a.2))
  ((aC tab aF 5 b).bind λc=>(aA tab a.2 W c).bind λc=>(U tab .neq W c (.int .i64 0)).bind λc=>(gd c false (aC tab aF 6 b)).bind λd=>(gd c false (aA tab a.2 W d)).bind λd=>(gd c false (U tab .neq W d (.int .i64 0))).bind λd=>(cJ c (.bool true) d).bind λc=>(gd c false (aC tab aF 7 b)).bind λd=>(gd c false (aA tab a.2 bE d)).bind λd=>(gd c false (U tab .neq bE d (.str []))).bind λd=>(cJ c (.bool true) d).bind λc=>(gd c false (aC tab aF 8 b)).bind λd=>(gd c false (aA tab a.2 bE d)).bind λd=>(gd c false (U tab .neq bE d (.str []))).bind λd=>(cJ c (.bool true) d).bind λc=>(gd c false (aC tab aF 9 b)).bind λd=>(gd c false (aA tab a.2 bI d)).bind λd=>(gd c false (aX tab bI d)).bind λd=>(gd c false (U tab .neq W d (.int .i64 0))).bind λd=>(cJ c (.bool true) d).bind λc=>(gd c false (aC tab aF 4 b)).bind λb=>(gd c false (aA tab a.2 cD b)).bind λb=>(eQ c false a.2 (R tk [b,.fn (.func ow) [] []] a.2)).bind λa=>(cJ c (.bool true) a.1).bind λb=>aI b
  (some (aD [.int .i64 19],a.2))
  (some (aD [.int .i64 0],a.2))))))
theorem D6(a:D)(h:Z):R ou [a] h=wB a h:=
 er ub
def r9(a:D)(h:Z):Option (D × Z):=
 (U tab .eql bD a (.J)).bind λb=>aI b
  (some (aD [.J],h))
  ((bF tab bD 0 [] []).bind λb=>(dH tab h bD bD b a).bind λa=>some (aD [a.1],a.2))
theorem yQ(a:D)(h:Z):R oI [a] h=r9 a h:=
 er uc
def nM(a:D)(h:Z):Option (D × Z):=
 (U tab .eql aN a (.J)).bind λb=>aI b
  (some (aD [.J],h))
  ((bF tab aN 0 [] []).bind λb=>(dH tab h aN aN b a).bind λa=>some (aD [a.1],a.2))
theorem qo(a:D)(h:Z):R lU [a] h=nM a h:=
 er ud
def xo(a b:D)(h:Z):Option (D × Z):=
 (gX a).bind λa=>(gX b).bind λb=>(aC tab aP 1 a).bind λc=>(aA tab h aF c).bind λd=>(aC tab aP 1 b).bind λe=>(aA tab h aF e).bind λf=>(some ((.ptr h.length 0 0:D),aK h aF 10 [[.int .i64 0,.int .i64 0,.int .i64 0,.int .i64 0,.J,.int .i64 0,.int .i64 0,.str [],.str [],.J]])).bind λg=>(some (.any:D)).bind λi=>((cE tab g.2 aF g.1 d).bind λi=>some ((.bJ:D),i)).bind λj=>eD (aA tab g.2 aF c=some d)
 (eD (aA tab g.2 aF e=some f)
 (eD (aA tab j.2 aF e=some f)
 (((cE tab (aK j.2 aF 10 [[.int .i64 0,.int .i64 0,.int .i64 0,.int .i64 0,.J,.int .i64 0,.int .i64 0,.str [],.str [],.J]]) aF (.ptr j.2.length 0 0) f).bind λi=>some ((.bJ:D),i)).bind λc=>(aC tab aP 0 a).bind λa=>(aA tab c.2 bE a).bind λa=>(aC tab aP 0 b).bind λb=>(aA tab c.2 bE b).bind λb=>(U tab .eql bE a b).bind λa=>(gd a true (aC tab aF 0 g.1)).bind λb=>(gd a true (aA tab c.2 W b)).bind λb=>(gd a true (aC tab aF 0 (.ptr j.2.length 0 0))).bind λd=>(gd a true (aA tab c.2 W d)).bind λd=>(gd a true (U tab .eql W b d)).bind λb=>(cJ a b (.bool false)).bind λa=>(gd a true (aC tab aF 1 g.1)).bind λb=>(gd a true (aA tab c.2 W b)).bind λb=>(gd a true (aC tab aF 1 (.ptr j.2.length 0 0))).bind λd=>(gd a true (aA tab c.2 W d)).bind λd=>(gd a true (U tab .eql W b d)).bind λb=>(cJ a b (.bool false)).bind λa=>(gd a true (aC tab aF 2 g.1)).bind λb=>(gd a true (aA tab c.2 W b)).bind λb=>(gd a true (aC tab aF 2 (.ptr j.2.length 0 0))).bind λd=>(gd a true (aA tab c.2 W d)).bind λd=>(gd a true (U tab .eql W b d)).bind λb=>(cJ a b (.bool false)).bind λa=>(gd a true (aC tab aF 3 g.1)).bind λb=>(gd a true (aA tab c.2 W b)).bind λb=>(gd a true (aC tab aF 3 (.ptr j.2.length 0 0))).bind λd=>(gd a true (aA tab c.2 W d)).bind λd=>(gd a true (U tab .eql W b d)).bind λb=>(cJ a b (.bool false)).bind λa=>(gd a true (aC tab aF 5 g.1)).bind λb=>(gd a true (aA tab c.2 W b)).bind λb=>(gd a true (aC tab aF 5 (.ptr j.2.length 0 0))).bind λd=>(gd a true (aA tab c.2 W d)).bind λd=>(gd a true (U tab .eql W b d)).bind λb=>(cJ a b (.bool false)).bind λa=>(gd a true (aC tab aF 6 g.1)).bind λb=>(gd a true (aA tab c.2 W b)).bind λb=>(gd a true (aC tab aF 6 (.ptr j.2.length 0 0))).bind λd=>(gd a true (aA tab c.2 W d)).bind λd=>(gd a true (U tab .eql W b d)).bind λb=>(cJ a b (.bool false)).bind λa=>(gd a true (aC tab aF 7 g.1)).bind λb=>(gd a true (aA tab c.2 bE b)).bind λb=>(gd a true (aC tab aF 7 (.ptr j.2.length 0 0))).bind λd=>(gd a true (aA tab c.2 bE d)).bind λd=>(gd a true (U tab .eql bE b d)).bind λb=>(cJ a b (.bool false)).bind λa=>(gd a true (aC tab aF 8 g.1)).bind λb=>(gd a true (aA tab c.2 bE b)).bind λb=>(gd a true (aC tab aF 8 (.ptr j.2.length 0 0))).bind λd=>(gd a true (aA tab c.2 bE d)).bind λd=>(gd a true (U tab .eql bE b d)).bind λb=>(cJ a b (.bool false)).bind λa=>(gd a true (aC tab aF 4 g.1)).bind λb=>(gd a true (aA tab c.2 cD b)).bind λb=>(gd a true (aC tab aF 4 (.ptr j.2.length 0 0))).bind λd=>(gd a true (aA tab c.2 cD d)).bind λd=>(eQ a true c.2 (R tF [b,d] c.2)).bind λb=>(cJ a b.1 (.bool false)).bind λa=>(gd a true (aC tab aF 9 g.1)).bind λc=>(gd a true (aA tab b.2 bI c)).bind λc=>(gd a true (aC tab aF 9 (.ptr j.2.length 0 0))).bind λd=>(gd a true (aA tab b.2 bI d)).bind λd=>(eQ a true b.2 (R tG [c,d] b.2)).bind λb=>(cJ a b.1 (.bool false)).bind λa=>scope h b.2 (aD [a]))))
theorem EO(a b:D)(h:Z):R tD [a,b] h=xo a b h:=
 er ue
def xu(a b:D)(h:Z):Option (D × Z):=
 (R qP [a] h).bind λc=>(R qP [b] c.2).bind λd=>aI c.1
  (aI d.1
  (some (aD [.int .i64 0],d.2))
  (some (aD [.int .i64 (-1)],d.2)))
  (aI d.1
  (some (aD [.int .i64 1],d.2))
  ((U tab .lss W a b).bind λc=>aI c
  (some (aD [.int .i64 (-1)],d.2))
  ((U tab .gtr W a b).bind λa=>aI a
  (some (aD [.int .i64 1],d.2))
  (some (aD [.int .i64 0],d.2)))))
theorem ES(a b:D)(h:Z):R qO [a,b] h=xu a b h:=
 er uf
def xm(a:D)(h:Z):Option (D × Z):=
 (fp tab a).bind λb=>(aC tab gZ 1 b).bind λb=>(aA tab h W b).bind λb=>(fp tab a).bind λa=>(aC tab gZ 0 a).bind λa=>(aA tab h hC a).bind λa=>(aX tab hC a).bind λa=>(U tab .lss W b a).bind λa=>some (aD [a],h)
theorem EM(a:D)(h:Z):R tC [a] h=xm a h:=
 er ug
def w4(a b:D)(h:Z):Option (D × Z):=
 (fK tab R "Push" [a,b] h).bind λb=>(fK tab R "Len" [a] b.2).bind λb=>(U tab .sub W b.1 (.int .i64 1)).bind λc=>(R qG [a,c] b.2).bind λa=>some (aD [],a.2)
theorem Ew(a b:D)(h:Z):R qF [a,b] h=w4 a b h:=
 er uh
def r5(a:D)(h:Z):Option (D × Z):=
 (fp tab a).bind λa=>(aC tab dM 0 a).bind λa=>(aA tab h aN a).bind λa=>(aX tab aN a).bind λa=>some (aD [a],h)
theorem yP(a:D)(h:Z):R oE [a] h=r5 a h:=
 er ui
def w5(a:D)(h:Z):Option (D × Z):=
 (fK tab R "Len" [a] h).bind λb=>(U tab .sub W b.1 (.int .i64 1)).bind λc=>(fK tab R "Swap" [a,.int .i64 0,c] b.2).bind λb=>(R qH [a,.int .i64 0,c] b.2).bind λb=>(fK tab R "Pop" [a] b.2).bind λa=>some (aD [a.1],a.2)
theorem Ey(a:D)(h:Z):R tz [a] h=w5 a h:=
 er uj
def wU(a:D)(h:Z):Option (D × Z):=
 (some ((.ptr h.length 0 0:D),aK h aF 10 [[.int .i64 0,.int .i64 0,.int .i64 0,.int .i64 0,.J,.int .i64 0,.int .i64 0,.str [],.str [],.J]])).bind λb=>(R gw [a,.int .i64 3] b.2).bind λc=>(R gw [a,.int .i64 3] c.2).bind λd=>(R gw [a,.int .i64 6] d.2).bind λe=>(U tab .mul W (.int .i64 10) e.1).bind λf=>(R gw [a,.int .i64 256] e.2).bind λe=>(U tab .mul W (.int .i64 1000) e.1).bind λg=>(bF tab aN 4 [0,1,2,3] [.int .i64 1,.int .i64 1,.int .i64 2,.int .i64 5040]).bind λi=>(R gw [a,.int .i64 4] e.2).bind λe=>(aM tab aN i e.1).bind λi=>(aA tab e.2 W i).bind λj=>(bF tab cW 4 [0,1,2,3] [.str [],.str [116,49],.str [116,50],.str [105,100]]).bind λk=>(R ft [a,k] e.2).bind λe=>(bF tab cW 2 [0,1] [.str [109,97,105,110],.str [97,117,100,105,116]]).bind λk=>(R ft [a,k] e.2).bind λk=>(R qK [a] k.2).bind λl=>(eE tab aF [0,1,2,5,6,7,8,9] [c.1,d.1,f,g,j,e.1,k.1,l.1]).bind λc=>(some (.any:D)).bind λd=>eD (aA tab e.2 W i=some j)
 (eD (aA tab k.2 W i=some j)
 (eD (aA tab l.2 W i=some j)
 (((cE tab (aK l.2 aF 10 [[.int .i64 0,.int .i64 0,.int .i64 0,.int .i64 0,.J,.int .i64 0,.int .i64 0,.str [],.str [],.J]]) aF (.ptr l.2.length 0 0) c).bind λc=>some ((.bJ:D),c)).bind λd=>(aC tab aF 2 (.ptr l.2.length 0 0)).bind λe=>(aA tab d.2 W e).bind λe=>(R qL [a,e,.int .i64 3,.bool true] d.2).bind λa=>(aC tab aF 4 (.ptr l.2.length 0 0)).bind λd=>((cE tab a.2 cD d a.1).bind λc=>some ((.bJ:D),c)).bind λa=>(aC tab aF 4 (.ptr l.2.length 0 0)).bind λd=>(aA tab a.2 cD d).bind λd=>(aC tab aF 4 (.ptr l.2.length 0 0)).bind λe=>(aA tab a.2 cD e).bind λe=>(aX tab cD e).bind λe=>(U tab .sub W e (.int .i64 1)).bind λe=>(aM tab cD d e).bind λd=>(aA tab a.2 bW d).bind λd=>(iG 3 d).bind λd=>(aC tab bW 0 d).bind λe=>(aA tab a.2 W e).bind λe=>(aC tab bW 1 d).bind λd=>(aA tab a.2 W d).bind λd=>(U tab .add W e d).bind λd=>(aC tab aF 3 (.ptr l.2.length 0 0)).bind λe=>((cE tab a.2 W e d).bind λc=>some ((.bJ:D),c)).bind λa=>(aA tab a.2 aF (.ptr l.2.length 0 0)).bind λd=>((cE tab a.2 aF b.1 d).bind λc=>some ((.bJ:D),c)).bind λa=>(aA tab a.2 aF b.1).bind λb=>scope h a.2 (aD [b]))))
theorem Eo(a:D)(h:Z):R qD [a] h=wU a h:=
 er uk
def xh(a b:D)(h:Z):Option (D × Z):=
 (aX tab cW b).bind λc=>(R gw [a,c] h).bind λa=>(aM tab cW b a.1).bind λb=>(aA tab a.2 bE b).bind λb=>some (aD [b],a.2)
theorem EJ(a b:D)(h:Z):R ft [a,b] h=xh a b h:=
 er um
def wC(a:D)(h:Z):Option (D × Z):=
 (gX a).bind λa=>(aA tab h aF a).bind λb=>(R qz [b] h).bind λb=>(fM .not b.1).bind λc=>(gd c false (aC tab aF 5 a)).bind λd=>(gd c false (aA tab b.2 W d)).bind λd=>(eQ c false b.2 (R m3 [d,.int .i64 0,.int .i64 253402300799999] b.2)).bind λb=>(gd c false (fM .not b.1)).bind λd=>(cJ c (.bool true) d).bind λc=>aI c
  (scope h b.2 (aD [.int .i64 2]))
  ((aC tab aF 6 a).bind λc=>(aA tab b.2 W c).bind λc=>(U tab .lss W c (.int .i64 1)).bind λc=>(gd c false (aC tab aF 6 a)).bind λd=>(gd c false (aA tab b.2 W d)).bind λd=>(gd c false (U tab .rem W (.int .i64 5040) d)).bind λd=>(gd c false (U tab .neq W d (.int .i64 0))).bind λd=>(cJ c (.bool true) d).bind λc=>aI c
  (scope h b.2 (aD [.int .i64 21]))
  ((aA tab b.2 aF a).bind λc=>(R qA [c,.int .i64 2000] b.2).bind λb=>(U tab .neq iT b.1 (.int .i64 0)).bind λc=>aI c
  (scope h b.2 (aD [b.1]))
  ((aC tab aF 7 a).bind λc=>(aA tab b.2 bE c).bind λc=>(aX tab bE c).bind λc=>(U tab .gtr W c (.int .i64 32)).bind λc=>(gd c false (aC tab aF 8 a)).bind λd=>(gd c false (aA tab b.2 bE d)).bind λd=>(gd c false (aX tab bE d)).bind λd=>(gd c false (U tab .gtr W d (.int .i64 32))).bind λd=>(cJ c (.bool true) d).bind λc=>aI c
  (scope h b.2 (aD [.int .i64 3]))
  ((aC tab aF 9 a).bind λc=>(aA tab b.2 bI c).bind λc=>(R ox [c] b.2).bind λb=>(gF 0 b.1).bind λc=>(gF 1 b.1).bind λd=>(U tab .neq iT d (.int .i64 0)).bind λe=>aI e
  (scope h b.2 (aD [d]))
  ((aC tab aF 9 a).bind λa=>(aA tab b.2 bI a).bind λa=>(R tm [c,a] b.2).bind λa=>(fM .not a.1).bind λb=>aI b
  (scope h a.2 (aD [.int .i64 19]))
  ((R tn [c,.fn (.func oy) [] []] a.2).bind λa=>aI a.1
  (scope h a.2 (aD [.int .i64 3]))
  (scope h a.2 (aD [.int .i64 0]))))))))
theorem D7(a:D)(h:Z):R ov [a] h=wC a h:=
 er uo
def wD(a:D)(h:Z):Option (D × Z):=
 (gX a).bind λa=>(aC tab aF 0 a).bind λb=>(aA tab h W b).bind λb=>(R m3 [b,.int .i64 0,.int .i64 999] h).bind λb=>(gd b.1 true (aC tab aF 1 a)).bind λc=>(gd b.1 true (aA tab b.2 W c)).bind λc=>(eQ b.1 true b.2 (R m3 [c,.int .i64 0,.int .i64 2147483646] b.2)).bind λc=>(cJ b.1 c.1 (.bool false)).bind λb=>(gd b true (aC tab aF 2 a)).bind λd=>(gd b true (aA tab c.2 W d)).bind λd=>(gd b true (U tab .geq W d (.int .i64 0))).bind λd=>(cJ b d (.bool false)).bind λb=>(gd b true (aC tab aF 3 a)).bind λd=>(gd b true (aA tab c.2 W d)).bind λd=>(gd b true (aC tab aF 2 a)).bind λe=>(gd b true (aA tab c.2 W e)).bind λe=>(gd b true (U tab .gtr W d e)).bind λd=>(cJ b d (.bool false)).bind λb=>(gd b true (aC tab aF 3 a)).bind λa=>(gd b true (aA tab c.2 W a)).bind λa=>(gd b true (U tab .leq W a (.int .i64 60000))).bind λa=>(cJ b a (.bool false)).bind λa=>some (aD [a],c.2)
theorem D8(a:D)(h:Z):R qz [a] h=wD a h:=
 er uq
def wF(a b c d:D)(ds:List D)(e:Z):Option bP:=
 (U tab .lss W (Y 5 ds) d).bind λd=>aI d
  ((aM tab cD c (Y 5 ds)).bind λc=>(aA tab e bW c).bind λc=>(some ((.ptr e.length 0 0:D),aK e bW 3 [[.int .i64 0,.int .i64 0,.str []]])).bind λf=>((cE tab f.2 bW f.1 c).bind λc=>some ((.bJ:D),c)).bind λc=>(aC tab aF 4 b).bind λg=>(aA tab c.2 cD g).bind λg=>(aX tab cD g).bind λg=>(U tab .sub W g (.int .i64 1)).bind λg=>(U tab .eql W (Y 5 ds) g).bind λg=>(aC tab bW 0 f.1).bind λh=>(aA tab c.2 W h).bind λh=>(U tab .neq W h (Y 1 ds)).bind λh=>(gd h false (aC tab bW 1 f.1)).bind λi=>(gd h false (aA tab c.2 W i)).bind λi=>(gd h false (U tab .lss W i (.int .i64 1))).bind λi=>(cJ h (.bool true) i).bind λh=>(gd h false (aC tab bW 1 f.1)).bind λi=>(gd h false (aA tab c.2 W i)).bind λi=>(gd h false (aC tab aF 3 b)).bind λj=>(gd h false (aA tab c.2 W j)).bind λj=>(gd h false (some (Y 1 ds))).bind λk=>(gd h false (U tab .sub W j k)).bind λj=>(gd h false (U tab .gtr W i j)).bind λi=>(cJ h (.bool true) i).bind λh=>(gd h false (some g)).bind λi=>(gd h false (some i)).bind λi=>(gd i true (aC tab bW 1 f.1)).bind λj=>(gd i true (aA tab c.2 W j)).bind λj=>(gd i true (aC tab aF 3 b)).bind λb=>(gd i true (aA tab c.2 W b)).bind λb=>(gd i true (some (Y 1 ds))).bind λk=>(gd i true (U tab .sub W b k)).bind λb=>(gd i true (U tab .lss W j b)).bind λb=>(gd h false (cJ i b (.bool false))).bind λb=>(cJ h (.bool true) b).bind λb=>aI b
  (some (.ret,[.int .i64 19,(Y 1 ds),(Y 5 ds),f.1,g,(Y 5 ds),d,b,(Y 8 ds)],c.2))
  ((aC tab bW 2 f.1).bind λh=>(aA tab c.2 bE h).bind λh=>(aX tab bE h).bind λh=>(U tab .gtr W h a).bind λa=>aI a
  (some (.ret,[.int .i64 3,(Y 1 ds),(Y 5 ds),f.1,g,(Y 5 ds),d,b,a],c.2))
  ((aC tab bW 1 f.1).bind λh=>(aA tab c.2 W h).bind λh=>(U tab .add W (Y 1 ds) h).bind λh=>(U tab .add W (Y 5 ds) (.int .i64 1)).bind λi=>some (.aO,[(Y 0 ds),h,(Y 5 ds),f.1,g,i,d,b,a],c.2))))
  (some ((.ext 1),[(Y 0 ds),(Y 1 ds),(Y 2 ds),(Y 3 ds),(Y 4 ds),(Y 5 ds),d,(Y 7 ds),(Y 8 ds)],e))
def wE(a b:D)(h:Z):Option (D × Z):=
 (gX a).bind λa=>(aC tab aF 4 a).bind λc=>(aA tab h cD c).bind λc=>(aX tab cD c).bind λc=>(U tab .eql W c (.int .i64 0)).bind λc=>aI c
  (scope h h (aD [.int .i64 9]))
  ((aC tab aF 4 a).bind λc=>(aA tab h cD c).bind λc=>(aX tab cD c).bind λc=>(U tab .gtr W c (.int .i64 40)).bind λc=>aI c
  (scope h h (aD [.int .i64 4]))
  ((aC tab aF 2 a).bind λc=>(aA tab h W c).bind λc=>(aC tab aF 4 a).bind λd=>(aA tab h cD d).bind λd=>(aX tab cD d).bind λe=>((bZ (wF b a d e) [.int .i64 0,c,.any,.any,.any,.int .i64 0,.any,.any,.any] h).bind λa=>some ((bO 1 a.1),[(Y 0 a.2.1),(Y 1 a.2.1),(Y 2 a.2.1),(Y 3 a.2.1),(Y 4 a.2.1),(Y 5 a.2.1),(Y 6 a.2.1),(Y 7 a.2.1),(Y 8 a.2.1)],a.2.2)).bind λa=>cP a.1 (scope h a.2.2 (aD [.int .i64 0])) λb=>dB b (scope h a.2.2 (aD [(Y 0 a.2.1)]))))
theorem D9(a b:D)(h:Z):R qA [a,b] h=wE a b h:=
 er ur
def wG(a b:D)(h:Z):Option (D × Z):=
 (R th [a,b] h).bind λa=>(U tab .geq W a.1 (.int .i64 0)).bind λb=>some (aD [b],a.2)
theorem Ea(a b:D)(h:Z):R tk [a,b] h=wG a b h:=
 er uu
def wH(a:D)(h:Z):Option (D × Z):=
 (gX a).bind λa=>(aC tab bW 2 a).bind λa=>(aA tab h bE a).bind λa=>(U tab .neq bE a (.str [])).bind λa=>some (aD [a],h)
theorem Eb(a:D)(h:Z):R ow [a] h=wH a h:=
 er uv
def xw(a b:D)(ds:List D)(c:Z):Option bP:=
 (aX tab cD a).bind λd=>(U tab .lss W (Y 1 ds) d).bind λd=>aI d
  ((aM tab cD a (Y 1 ds)).bind λa=>(aA tab c bW a).bind λa=>(aM tab cD b (Y 1 ds)).bind λb=>(aA tab c bW b).bind λb=>(U tab .neq bW a b).bind λa=>aI a
  (some (.ret,[.bool false,(Y 1 ds),d,a],c))
  ((U tab .add W (Y 1 ds) (.int .i64 1)).bind λb=>some (.aO,[(Y 0 ds),b,d,a],c)))
  (some ((.ext 0),[(Y 0 ds),(Y 1 ds),d,(Y 3 ds)],c))
def xv(a b:D)(h:Z):Option (D × Z):=
 (aX tab cD a).bind λc=>(aX tab cD b).bind λd=>(U tab .neq W c d).bind λc=>aI c
  (some (aD [.bool false],h))
  (((bZ (xw a b) [.bool false,.int .i64 0,.any,.any] h).bind λa=>some ((bO 0 a.1),[(Y 0 a.2.1),(Y 1 a.2.1),(Y 2 a.2.1),(Y 3 a.2.1)],a.2.2)).bind λa=>cP a.1 (some (aD [.bool true],a.2.2)) λb=>dB b (some (aD [(Y 0 a.2.1)],a.2.2)))
theorem ET(a b:D)(h:Z):R tF [a,b] h=xv a b h:=
 er uw
def xy(a b:D)(ds:List D)(c:Z):Option bP:=
 (aX tab bI a).bind λd=>(U tab .lss W (Y 1 ds) d).bind λd=>aI d
  ((aM tab bI a (Y 1 ds)).bind λa=>(aA tab c bG a).bind λa=>(aM tab bI b (Y 1 ds)).bind λb=>(aA tab c bG b).bind λb=>(U tab .neq bG a b).bind λa=>aI a
  (some (.ret,[.bool false,(Y 1 ds),d,a],c))
  ((U tab .add W (Y 1 ds) (.int .i64 1)).bind λb=>some (.aO,[(Y 0 ds),b,d,a],c)))
  (some ((.ext 0),[(Y 0 ds),(Y 1 ds),d,(Y 3 ds)],c))
def xx(a b:D)(h:Z):Option (D × Z):=
 (aX tab bI a).bind λc=>(aX tab bI b).bind λd=>(U tab .neq W c d).bind λc=>aI c
  (some (aD [.bool false],h))
  (((bZ (xy a b) [.bool false,.int .i64 0,.any,.any] h).bind λa=>some ((bO 0 a.1),[(Y 0 a.2.1),(Y 1 a.2.1),(Y 2 a.2.1),(Y 3 a.2.1)],a.2.2)).bind λa=>cP a.1 (some (aD [.bool true],a.2.2)) λb=>dB b (some (aD [(Y 0 a.2.1)],a.2.2)))
theorem EU(a b:D)(h:Z):R tG [a,b] h=xx a b h:=
 er ux
def xz(a:D)(h:Z):Option (D × Z):=
 (U tab .neq W a a).bind λa=>some (aD [a],h)
theorem EV(a:D)(h:Z):R qP [a] h=xz a h:=
 er uy
def nK(a b c:D)(ds:List D)(d:Z):Option bP:=
 (U tab .lss W (Y 2 ds) c).bind λc=>aI c
  ((aM tab cD a (Y 2 ds)).bind λa=>(aA tab d bW a).bind λa=>(gh R b [a] d).bind λa=>aI a.1
  (some (.ret,[(Y 2 ds),(Y 2 ds),(Y 2 ds),c,a.1],a.2))
  ((U tab .add W (Y 2 ds) (.int .i64 1)).bind λb=>some (.aO,[(Y 0 ds),(Y 2 ds),b,c,a.1],a.2)))
  (some ((.ext 0),[(Y 0 ds),(Y 1 ds),(Y 2 ds),c,(Y 4 ds)],d))
def wy(a b:D)(h:Z):Option (D × Z):=
 (aX tab cD a).bind λc=>((bZ (nK a b c) [.int .i64 0,.any,.int .i64 0,.any,.any] h).bind λa=>some ((bO 0 a.1),[(Y 0 a.2.1),(Y 1 a.2.1),(Y 2 a.2.1),(Y 3 a.2.1),(Y 4 a.2.1)],a.2.2)).bind λa=>cP a.1 (some (aD [.int .i64 (-1)],a.2.2)) λb=>dB b (some (aD [(Y 0 a.2.1)],a.2.2))
theorem D3(a b:D)(h:Z):R th [a,b] h=wy a b h:=
 er uz
def r6(a:D)(ds:List D)(b:Z):Option bP:=
 (U tab .sub W (Y 0 ds) (.int .i64 1)).bind λc=>(U tab .quo W c (.int .i64 2)).bind λc=>(U tab .eql W c (Y 0 ds)).bind λd=>(gd d false (some a)).bind λe=>(gd d false (some (Y 0 ds))).bind λf=>(gd d false (some c)).bind λg=>(eQ d false b (fK tab R "Less" [e,f,g] b)).bind λb=>(gd d false (fM .not b.1)).bind λe=>(cJ d (.bool true) e).bind λd=>aI d
  (some ((.ext 0),[(Y 0 ds),c,d],b.2))
  ((fK tab R "Swap" [a,c,(Y 0 ds)] b.2).bind λa=>some (.aO,[c,c,d],a.2))
def w6(a b:D)(h:Z):Option (D × Z):=
 ((bZ (r6 a) [b,.any,.any] h).bind λa=>some ((bO 0 a.1),[(Y 0 a.2.1),(Y 1 a.2.1),(Y 2 a.2.1)],a.2.2)).bind λa=>dB a.1 (some (aD [],a.2.2))
theorem Ez(a b:D)(h:Z):R qG [a,b] h=w6 a b h:=
 er uA
def r7(a b:D)(ds:List D)(c:Z):Option bP:=
 (U tab .mul W (.int .i64 2) (Y 0 ds)).bind λd=>(U tab .add W d (.int .i64 1)).bind λd=>(U tab .geq W d b).bind λe=>(gd e false (some d)).bind λf=>(gd e false (U tab .lss W f (.int .i64 0))).bind λf=>(cJ e (.bool true) f).bind λe=>aI e
  (some ((.ext 0),[(Y 0 ds),d,(Y 2 ds),(Y 3 ds),e,(Y 5 ds),(Y 6 ds)],c))
  ((U tab .add W d (.int .i64 1)).bind λf=>(U tab .lss W f b).bind λb=>(gd b true (some a)).bind λg=>(gd b true (some f)).bind λh=>(gd b true (some d)).bind λi=>(eQ b true c (fK tab R "Less" [g,h,i] c)).bind λc=>(cJ b c.1 (.bool false)).bind λb=>(aI b
  (some (.aO,[f],c.2))
  (some (.aO,[d],c.2))).bind λc=>cP c.1 ((fK tab R "Less" [a,(Y 0 c.2.1),(Y 0 ds)] c.2.2).bind λg=>(fM .not g.1).bind λh=>aI h
  (some ((.ext 0),[(Y 0 ds),d,(Y 0 c.2.1),f,e,b,h],g.2))
  ((fK tab R "Swap" [a,(Y 0 ds),(Y 0 c.2.1)] g.2).bind λa=>some (.aO,[(Y 0 c.2.1),d,(Y 0 c.2.1),f,e,b,h],a.2))) λa=>some ((bO 1 a),[(Y 0 ds),d,(Y 0 c.2.1),f,e,b,(Y 6 ds)],c.2.2))
def w7(a b c:D)(h:Z):Option (D × Z):=
 ((bZ (r7 a c) [b,.any,.any,.any,.any,.any,.any] h).bind λa=>some ((bO 0 a.1),[(Y 0 a.2.1),(Y 1 a.2.1),(Y 2 a.2.1),(Y 3 a.2.1),(Y 4 a.2.1),(Y 5 a.2.1),(Y 6 a.2.1)],a.2.2)).bind λa=>cP a.1 ((U tab .gtr W (Y 0 a.2.1) b).bind λb=>some (aD [b],a.2.2)) λb=>dB b (some (aD [.bool false],a.2.2))
theorem EA(a b c:D)(h:Z):R qH [a,b,c] h=w7 a b c h:=
 er uB
def xj(a b c:D)(ds:List D)(d:Z):Option bP:=
 (U tab .lss W (Y 2 ds) c).bind λc=>aI c
  ((aM tab cW b (Y 2 ds)).bind λb=>(aA tab d bE b).bind λb=>(R gw [a,.int .i64 3] d).bind λe=>(U tab .gtr W e.1 (.int .i64 0)).bind λf=>(aI f
  ((bF tab cW 8 [0,1,2,3,4,5,6,7] [.str [],.str [49],.str [105,110,102,111],.str [119,97,114,110],.str [97,110,110],.str [50,46,53,48],.str [116,114,117,101],.str [116,49]]).bind λg=>(R ft [a,g] e.2).bind λa=>(eE tab bG [0,1] [b,a.1]).bind λg=>(bF tab bI 1 [0] [g]).bind λg=>(dH tab a.2 bI bI (Y 0 ds) g).bind λa=>some (.aO,[a.1],a.2))
  (some (.aO,[(Y 0 ds)],e.2))).bind λa=>cP (bO 1 a.1) ((U tab .add W (Y 2 ds) (.int .i64 1)).bind λe=>some (.aO,[(Y 0 a.2.1),b,e,c,f],a.2.2)) λe=>some (e,[(Y 0 a.2.1),b,(Y 2 ds),c,f],a.2.2))
  (some ((.ext 0),[(Y 0 ds),(Y 1 ds),(Y 2 ds),c,(Y 4 ds)],d))
def xi(a:D)(h:Z):Option (D × Z):=
 (bF tab cW 4 [0,1,2,3] [.str [97],.str [105,100],.str [108,101,118,101,108],.str [117,115,101,114]]).bind λb=>(aX tab cW b).bind λc=>((bZ (xj a b c) [.J,.any,.int .i64 0,.any,.any] h).bind λa=>some ((bO 0 a.1),[(Y 0 a.2.1),(Y 1 a.2.1),(Y 2 a.2.1),(Y 3 a.2.1),(Y 4 a.2.1)],a.2.2)).bind λa=>cP a.1 (scope h a.2.2 (aD [(Y 0 a.2.1)])) λb=>dB b (scope h a.2.2 (aD [.J]))
theorem EK(a:D)(h:Z):R qK [a] h=xi a h:=
 er uC
def xl(a b:D)(ds:List D)(c:Z):Option bP:=
 (U tab .gtr W (Y 2 ds) (.int .i64 0)).bind λd=>aI d
  ((R gw [a,.int .i64 20] c).bind λe=>(U tab .add W (.int .i64 1) e.1).bind λf=>(eE tab bW [0,1] [(Y 0 ds),f]).bind λf=>(some ((.ptr e.2.length 0 0:D),aK e.2 bW 3 [[.int .i64 0,.int .i64 0,.str []]])).bind λe=>((cE tab e.2 bW e.1 f).bind λf=>some ((.bJ:D),f)).bind λg=>(aI b
  ((R qM [a] g.2).bind λa=>(aC tab bW 2 e.1).bind λh=>((cE tab a.2 bE h a.1).bind λf=>some ((.bJ:D),f)).bind λa=>some (.aO,([]:List D),a.2))
  (some (.aO,([]:List D),g.2))).bind λa=>cP a.1 ((aA tab a.2.2 bW e.1).bind λf=>(bF tab cD 1 [0] [f]).bind λf=>(dH tab a.2.2 cD cD (Y 1 ds) f).bind λf=>(aC tab bW 1 e.1).bind λg=>(aA tab f.2 W g).bind λg=>(U tab .add W (Y 0 ds) g).bind λg=>(U tab .sub W (Y 2 ds) (.int .i64 1)).bind λh=>some (.aO,[g,f.1,h,e.1,d,b],f.2)) λf=>cP (bO 1 f) ((U tab .sub W (Y 2 ds) (.int .i64 1)).bind λf=>some (.aO,[(Y 0 ds),(Y 1 ds),f,e.1,d,b],a.2.2)) λf=>some (f,[(Y 0 ds),(Y 1 ds),(Y 2 ds),e.1,d,b],a.2.2))
  (some ((.ext 0),[(Y 0 ds),(Y 1 ds),(Y 2 ds),(Y 3 ds),d,(Y 5 ds)],c))
def xk(a b c d:D)(h:Z):Option (D × Z):=
 (R gw [a,c] h).bind λc=>(U tab .add W (.int .i64 1) c.1).bind λe=>((bZ (xl a d) [b,.J,e,.any,.any,.any] c.2).bind λa=>some ((bO 0 a.1),[(Y 0 a.2.1),(Y 1 a.2.1),(Y 2 a.2.1),(Y 3 a.2.1),(Y 4 a.2.1),(Y 5 a.2.1)],a.2.2)).bind λa=>cP a.1 (scope h a.2.2 (aD [(Y 1 a.2.1)])) λb=>dB b (scope h a.2.2 (aD [.J]))
theorem EL(a b c d:D)(h:Z):R qL [a,b,c,d] h=xk a b c d h:=
 er uD
def wI(a b c:D)(h:Z):Option (D × Z):=
 (U tab .leq W b a).bind λb=>(gd b true (some a)).bind λa=>(gd b true (some c)).bind λc=>(gd b true (U tab .leq W a c)).bind λa=>(cJ b a (.bool false)).bind λa=>some (aD [a],h)
theorem Ec(a b c:D)(h:Z):R m3 [a,b,c] h=wI a b c h:=
 er uE
def rT(a b:D)(ds:List D)(c:Z):Option bP:=
 (U tab .lss W (Y 3 ds) b).bind λb=>aI b
  ((aM tab bI a (Y 3 ds)).bind λa=>(aA tab c bG a).bind λa=>(iG 2 a).bind λa=>(aC tab bG 0 a).bind λd=>(aA tab c bE d).bind λd=>(R tp [d] c).bind λd=>(fM .not d.1).bind λe=>aI e
  (some (.ret,[.J,.int .i64 6,a,(Y 3 ds),b,e],d.2))
  ((U tab .add W (Y 3 ds) (.int .i64 1)).bind λf=>some (.aO,[(Y 0 ds),(Y 1 ds),a,f,b,e],d.2)))
  (some ((.ext 0),[(Y 0 ds),(Y 1 ds),(Y 2 ds),(Y 3 ds),b,(Y 5 ds)],c))
def rU(a:D)(b:List D)(c:Z):Option bP:=
 (aX tab bI a).bind λd=>(U tab .lss W (Y 2 b) d).bind λd=>aI d
  ((aM tab bI a (Y 2 b)).bind λe=>(aC tab bG 0 e).bind λe=>(aA tab c bE e).bind λe=>(U tab .sub W (Y 2 b) (.int .i64 1)).bind λf=>(aM tab bI a f).bind λa=>(aC tab bG 0 a).bind λa=>(aA tab c bE a).bind λa=>(U tab .eql bE e a).bind λa=>aI a
  (some (.ret,[.J,.int .i64 7,(Y 2 b),d,a],c))
  ((U tab .add W (Y 2 b) (.int .i64 1)).bind λe=>some (.aO,[(Y 0 b),(Y 1 b),e,d,a],c)))
  (some ((.ext 2),[(Y 0 b),(Y 1 b),(Y 2 b),d,(Y 4 b)],c))
def wJ(a:D)(h:Z):Option (D × Z):=
 (aX tab bI a).bind λb=>(U tab .gtr W b (.int .i64 32)).bind λb=>aI b
  (some (aD [.J,.int .i64 4],h))
  ((aX tab bI a).bind λb=>((bZ (rT a b) [.J,.int .i64 0,.any,.int .i64 0,.any,.any] h).bind λb=>some ((bO 0 b.1),[(Y 0 b.2.1),(Y 1 b.2.1),(Y 2 b.2.1),(Y 3 b.2.1),(Y 4 b.2.1),(Y 5 b.2.1)],b.2.2)).bind λb=>cP b.1 ((R tj [a] b.2.2).bind λa=>(R oz [a.1,.fn (.func lR) [] []] a.2).bind λc=>((bZ (rU a.1) [(Y 0 b.2.1),(Y 1 b.2.1),.int .i64 1,.any,.any] c.2).bind λc=>some ((bO 2 c.1),[(Y 0 c.2.1),(Y 1 c.2.1),(Y 2 c.2.1),(Y 3 c.2.1),(Y 4 c.2.1)],c.2.2)).bind λc=>cP c.1 (some (aD [a.1,.int .i64 0],c.2.2)) λa=>dB a (some (aD [(Y 0 c.2.1),(Y 1 c.2.1)],c.2.2))) λa=>dB a (some (aD [(Y 0 b.2.1),(Y 1 b.2.1)],b.2.2)))
theorem Ed(a:D)(h:Z):R ox [a] h=wJ a h:=
 er uF
def wL(a b c:D)(ds:List D)(d:Z):Option bP:=
 (U tab .lss W (Y 2 ds) c).bind λc=>aI c
  ((aM tab bI a (Y 2 ds)).bind λa=>(aA tab d bG a).bind λa=>(aM tab bI b (Y 2 ds)).bind λb=>(aA tab d bG b).bind λb=>(U tab .neq bG a b).bind λa=>aI a
  (some (.ret,[.bool false,(Y 2 ds),(Y 2 ds),c,a],d))
  ((U tab .add W (Y 2 ds) (.int .i64 1)).bind λb=>some (.aO,[(Y 0 ds),(Y 2 ds),b,c,a],d)))
  (some ((.ext 0),[(Y 0 ds),(Y 1 ds),(Y 2 ds),c,(Y 4 ds)],d))
def wK(a b:D)(h:Z):Option (D × Z):=
 (aX tab bI a).bind λc=>(aX tab bI b).bind λd=>(U tab .neq W c d).bind λc=>aI c
  (some (aD [.bool false],h))
  ((aX tab bI a).bind λc=>((bZ (wL a b c) [.bool false,.any,.int .i64 0,.any,.any] h).bind λa=>some ((bO 0 a.1),[(Y 0 a.2.1),(Y 1 a.2.1),(Y 2 a.2.1),(Y 3 a.2.1),(Y 4 a.2.1)],a.2.2)).bind λa=>cP a.1 (some (aD [.bool true],a.2.2)) λb=>dB b (some (aD [(Y 0 a.2.1)],a.2.2)))
theorem Ee(a b:D)(h:Z):R tm [a,b] h=wK a b h:=
 er uG
def wM(a b:D)(h:Z):Option (D × Z):=
 (R ts [a,b] h).bind λa=>(U tab .geq W a.1 (.int .i64 0)).bind λb=>some (aD [b],a.2)
theorem Ef(a b:D)(h:Z):R tn [a,b] h=wM a b h:=
 er uH
def wN(a:D)(h:Z):Option (D × Z):=
 (gX a).bind λa=>(aC tab bG 1 a).bind λa=>(aA tab h bE a).bind λa=>(aX tab bE a).bind λa=>(U tab .gtr W a (.int .i64 2000)).bind λa=>some (aD [a],h)
theorem Eg(a:D)(h:Z):R oy [a] h=wN a h:=
 er uI
def xn(a:D)(h:Z):Option (D × Z):=
 (R gw [a,.int .i64 8] h).bind λb=>(U tab .eql W b.1 (.int .i64 0)).bind λc=>aI c
  ((bF tab cW 3 [0,1,2] [.str [49],.str [50],.str [57]]).bind λc=>(R ft [a,c] b.2).bind λc=>(U tab .add bE (.str [50,48,50,54,45,48]) c.1).bind λd=>(U tab .add bE d (.str [45,49])).bind λd=>(bF tab cW 2 [0,1] [.str [48],.str [53]]).bind λe=>(R ft [a,e] c.2).bind λc=>(U tab .add bE d c.1).bind λd=>(U tab .add bE d (.str [84,49,48,58,48,48,58,48])).bind λd=>(bF tab cW 2 [0,1] [.str [49],.str [50]]).bind λe=>(R ft [a,e] c.2).bind λc=>(U tab .add bE d c.1).bind λd=>(U tab .add bE d (.str [90,32,108,101,118,101,108,61])).bind λd=>(bF tab cW 2 [0,1] [.str [105,110,102,111],.str [119,97,114,110]]).bind λe=>(R ft [a,e] c.2).bind λc=>(U tab .add bE d c.1).bind λd=>(U tab .add bE d (.str [32,105,100,61])).bind λd=>(bF tab cW 3 [0,1,2] [.str [55],.str [116,49],.str [116,50]]).bind λe=>(R ft [a,e] c.2).bind λc=>(U tab .add bE d c.1).bind λd=>some (aD [d],c.2))
  ((U tab .eql W b.1 (.int .i64 1)).bind λc=>aI c
  ((bF tab cW 3 [0,1,2] [.str [105,110,102,111],.str [119,97,114,110],.str [100,101,98,117,103]]).bind λc=>(R ft [a,c] b.2).bind λc=>(U tab .add bE (.str [108,101,118,101,108,61]) c.1).bind λd=>(U tab .add bE d (.str [32,117,115,101,114,61])).bind λd=>(bF tab cW 2 [0,1] [.str [97,110,110],.str [98,111,98]]).bind λe=>(R ft [a,e] c.2).bind λc=>(U tab .add bE d c.1).bind λd=>(U tab .add bE d (.str [32,105,112,61])).bind λd=>(bF tab cW 3 [0,1,2] [.str [49,48,46,50],.str [49,48,46,51],.str [55,46,55]]).bind λe=>(R ft [a,e] c.2).bind λc=>(U tab .add bE d c.1).bind λd=>some (aD [d],c.2))
  ((U tab .eql W b.1 (.int .i64 2)).bind λc=>aI c
  ((bF tab cW 2 [0,1] [.str [102],.str [103]]).bind λc=>(R ft [a,c] b.2).bind λc=>(U tab .add bE (.str [32,32,97,116,32]) c.1).bind λd=>(bF tab cW 2 [0,1] [.str [40,49,41],.str [40,50,50,41]]).bind λe=>(R ft [a,e] c.2).bind λc=>(U tab .add bE d c.1).bind λd=>some (aD [d],c.2))
  ((U tab .eql W b.1 (.int .i64 3)).bind λc=>aI c
  ((bF tab cW 3 [0,1,2] [.str [97,110,110],.str [98,111,98],.str [101,118,101]]).bind λc=>(R ft [a,c] b.2).bind λc=>(U tab .add bE (.str [117,115,101,114,32]) c.1).bind λd=>(U tab .add bE d (.str [32,108,111,103,103,101,100,32])).bind λd=>(bF tab cW 2 [0,1] [.str [105,110],.str [111,117,116]]).bind λe=>(R ft [a,e] c.2).bind λc=>(U tab .add bE d c.1).bind λd=>some (aD [d],c.2))
  ((U tab .eql W b.1 (.int .i64 4)).bind λc=>aI c
  ((bF tab cW 2 [0,1] [.str [105,110,102,111],.str [119,97,114,110]]).bind λc=>(R ft [a,c] b.2).bind λc=>(U tab .add bE (.str [123,34,108,101,118,101,108,34,58,32,34]) c.1).bind λd=>(U tab .add bE d (.str [34,44,32,34,110,34,58,32])).bind λd=>(bF tab cW 3 [0,1,2] [.str [49],.str [45,50,48],.str [116,114,117,101]]).bind λe=>(R ft [a,e] c.2).bind λc=>(U tab .add bE d c.1).bind λd=>(U tab .add bE d (.str [125])).bind λd=>some (aD [d],c.2))
  ((U tab .eql W b.1 (.int .i64 5)).bind λc=>aI c
  ((bF tab cW 2 [0,1] [.str [49],.str [50]]).bind λc=>(R ft [a,c] b.2).bind λc=>(U tab .add bE (.str [74,97,110,32,49]) c.1).bind λd=>(U tab .add bE d (.str [32,49,48,58,48,48,58,48])).bind λd=>(bF tab cW 2 [0,1] [.str [49],.str [50]]).bind λe=>(R ft [a,e] c.2).bind λc=>(U tab .add bE d c.1).bind λd=>(U tab .add bE d (.str [32])).bind λd=>(bF tab cW 2 [0,1] [.str [111,107],.str [102,97,105,108,101,100]]).bind λe=>(R ft [a,e] c.2).bind λc=>(U tab .add bE d c.1).bind λd=>some (aD [d],c.2))
  ((R qN [a,.int .i64 6] b.2).bind λa=>some (aD [a.1],a.2)))))))
theorem EN(a:D)(h:Z):R qM [a] h=xn a h:=
 er uJ
def mz(a:D × Z)(b:D)(ds:List D)(c:Z):Option bP:=
 (U tab .lss W (Y 2 ds) b).bind λb=>aI b
  ((aM tab hC a.1 (Y 2 ds)).bind λa=>(aA tab c fa a).bind λa=>(R tu [a] c).bind λd=>(fM .not d.1).bind λe=>(gd e true (some a)).bind λf=>(gd e true (U tab .neq fa f (.int .u8 46))).bind λf=>(cJ e f (.bool false)).bind λe=>aI e
  (some (.ret,[.bool false,a,(Y 2 ds),b,e],d.2))
  ((U tab .add W (Y 2 ds) (.int .i64 1)).bind λf=>some (.aO,[(Y 0 ds),a,f,b,e],d.2)))
  (some ((.ext 0),[(Y 0 ds),(Y 1 ds),(Y 2 ds),b,(Y 4 ds)],c))
def my(a:D)(h:Z):Option (D × Z):=
 (U tab .eql bE a (.str [])).bind λb=>(gd b false (some a)).bind λc=>(gd b false (aX tab bE c)).bind λc=>(gd b false (U tab .gtr W c (.int .i64 32))).bind λc=>(cJ b (.bool true) c).bind λb=>(gd b false (some a)).bind λc=>(gd b false (lN tab bE c (.int .i64 0))).bind λc=>(eQ b false h (R tt [c] h)).bind λc=>(gd b false (fM .not c.1)).bind λd=>(gd b false (some d)).bind λd=>(gd d true (some a)).bind λe=>(gd d true (lN tab bE e (.int .i64 0))).bind λe=>(gd d true (U tab .neq fa e (.int .u8 95))).bind λe=>(gd b false (cJ d e (.bool false))).bind λd=>(cJ b (.bool true) d).bind λb=>aI b
  (scope h c.2 (aD [.bool false]))
  ((BG fa c.2 a).bind λa=>(aX tab hC a.1).bind λb=>((bZ (mz a b) [.bool false,.any,.int .i64 0,.any,.any] a.2).bind λa=>some ((bO 0 a.1),[(Y 0 a.2.1),(Y 1 a.2.1),(Y 2 a.2.1),(Y 3 a.2.1),(Y 4 a.2.1)],a.2.2)).bind λa=>cP a.1 (scope h a.2.2 (aD [.bool true])) λb=>dB b (scope h a.2.2 (aD [(Y 0 a.2.1)])))
theorem Eh(a:D)(h:Z):R tp [a] h=my a h:=
 er uK
def rS(a:D)(h:Z):Option (D × Z):=
 (U tab .eql bI a (.J)).bind λb=>aI b
  (some (aD [.J],h))
  ((bF tab bI 0 [] []).bind λb=>(dH tab h bI bI b a).bind λa=>some (aD [a.1],a.2))
theorem D4(a:D)(h:Z):R tj [a] h=rS a h:=
 er uL
def rV(a b:D)(h:Z):Option (D × Z):=
 (aX tab bI a).bind λc=>(R oA [a,c,b] h).bind λa=>some (aD [],a.2)
theorem yM(a b:D)(h:Z):R oz [a,b] h=rV a b h:=
 er uM
def wO(a b:D)(h:Z):Option (D × Z):=
 (gX a).bind λa=>(gX b).bind λb=>(aC tab bG 0 a).bind λa=>(aA tab h bE a).bind λa=>(aC tab bG 0 b).bind λb=>(aA tab h bE b).bind λb=>(R tq [a,b] h).bind λa=>some (aD [a.1],a.2)
theorem Ei(a b:D)(h:Z):R lR [a,b] h=wO a b h:=
 er uN
def wP(a b:D)(h:Z):Option (D × Z):=
 (R zl [a,b] h).bind λa=>some (aD [a.1],a.2)
theorem Ej(a b:D)(h:Z):R tq [a,b] h=wP a b h:=
 er uO
def nL(a b c:D)(ds:List D)(d:Z):Option bP:=
 (U tab .lss W (Y 2 ds) c).bind λc=>aI c
  ((aM tab bI a (Y 2 ds)).bind λa=>(aA tab d bG a).bind λa=>(gh R b [a] d).bind λa=>aI a.1
  (some (.ret,[(Y 2 ds),(Y 2 ds),(Y 2 ds),c,a.1],a.2))
  ((U tab .add W (Y 2 ds) (.int .i64 1)).bind λb=>some (.aO,[(Y 0 ds),(Y 2 ds),b,c,a.1],a.2)))
  (some ((.ext 0),[(Y 0 ds),(Y 1 ds),(Y 2 ds),c,(Y 4 ds)],d))
def wQ(a b:D)(h:Z):Option (D × Z):=
 (aX tab bI a).bind λc=>((bZ (nL a b c) [.int .i64 0,.any,.int .i64 0,.any,.any] h).bind λa=>some ((bO 0 a.1),[(Y 0 a.2.1),(Y 1 a.2.1),(Y 2 a.2.1),(Y 3 a.2.1),(Y 4 a.2.1)],a.2.2)).bind λa=>cP a.1 (some (aD [.int .i64 (-1)],a.2.2)) λb=>dB b (some (aD [(Y 0 a.2.1)],a.2.2))
theorem Ek(a b:D)(h:Z):R ts [a,b] h=wQ a b h:=
 er uP
def xq(a:D)(ds:List D)(b:Z):Option bP:=
 (U tab .gtr W (Y 1 ds) (.int .i64 0)).bind λc=>aI c
  ((bF tab cW 18 [0,1,2,3,4,5,6,7,8,9,10,11,12,13,14,15,16,17] [.str [97],.str [98],.str [32],.str [49],.str [117,115,101,114],.str [61],.str [34],.str [55],.str [46],.str [44],.str [120,32,121],.str [49,48,46,50],.str [45],.str [195,169],.str [91],.str [105,100],.str [9],.str [58]]).bind λd=>(R ft [a,d] b).bind λa=>(U tab .add bE (Y 0 ds) a.1).bind λd=>(U tab .sub W (Y 1 ds) (.int .i64 1)).bind λe=>some (.aO,[d,e,c],a.2))
  (some ((.ext 0),[(Y 0 ds),(Y 1 ds),c],b))
def xp(a b:D)(h:Z):Option (D × Z):=
 (U tab .add W b (.int .i64 1)).bind λb=>(R gw [a,b] h).bind λb=>((bZ (xq a) [.str [],b.1,.any] b.2).bind λa=>some ((bO 0 a.1),[(Y 0 a.2.1),(Y 1 a.2.1),(Y 2 a.2.1)],a.2.2)).bind λa=>cP a.1 (some (aD [(Y 0 a.2.1)],a.2.2)) λb=>dB b (some (aD [.str []],a.2.2))
theorem EP(a b:D)(h:Z):R qN [a,b] h=xp a b h:=
 er uQ
def wR(a:D)(h:Z):Option (D × Z):=
 (aM tab rF (.aE jA) a).bind λa=>(aA tab h fa a).bind λa=>(U tab .and fa a (.int .u8 2)).bind λa=>(U tab .neq fa a (.int .u8 0)).bind λa=>some (aD [a],h)
theorem El(a:D)(h:Z):R tt [a] h=wR a h:=
 er uR
def wS(a:D)(h:Z):Option (D × Z):=
 (aM tab rF (.aE jA) a).bind λb=>(aA tab h fa b).bind λb=>(U tab .and fa b (.int .u8 3)).bind λb=>(U tab .neq fa b (.int .u8 0)).bind λb=>(gd b false (some a)).bind λa=>(gd b false (U tab .eql fa a (.int .u8 95))).bind λa=>(cJ b (.bool true) a).bind λa=>some (aD [a],h)
theorem Em(a:D)(h:Z):R tu [a] h=wS a h:=
 er uS
def pU(a b c d:D)(ds:List D)(e:Z):Option bP:=
 (U tab .leq W (Y 1 ds) b).bind λb=>aI b
  ((R kX [a,(Y 0 ds),(Y 1 ds),c] e).bind λa=>(U tab .add W (Y 1 ds) d).bind λc=>some (.aO,[(Y 1 ds),c,b],a.2))
  (some ((.ext 0),[(Y 0 ds),(Y 1 ds),b],e))
def BR(a b c:D)(d:List D)(e:List D)(f:Z):Option bP:=
 (U tab .leq W (Y 1 e) b).bind λb=>aI b
  ((U tab .add W (Y 0 e) (Y 0 d)).bind λg=>(R oB [a,(Y 0 e),g,(Y 1 e),c] f).bind λa=>(U tab .mul W (.int .i64 2) (Y 0 d)).bind λc=>(U tab .add W (Y 1 e) c).bind λc=>some (.aO,[(Y 1 e),c,b],a.2))
  (some ((.ext 4),[(Y 0 e),(Y 1 e),b],f))
def rX(a b c:D)(d:List D)(e:Z):Option bP:=
 (U tab .lss W (Y 0 d) b).bind λf=>aI f
  ((U tab .mul W (.int .i64 2) (Y 0 d)).bind λg=>((bZ (BR a b c d) [.int .i64 0,g,(Y 5 d)] e).bind λg=>some ((bO 4 g.1),[(Y 0 g.2.1),(Y 1 g.2.1),(Y 2 g.2.1)],g.2.2)).bind λg=>cP g.1 ((U tab .add W (Y 0 g.2.1) (Y 0 d)).bind λh=>(U tab .lss W h b).bind λi=>(aI i
  ((R oB [a,(Y 0 g.2.1),h,b,c] g.2.2).bind λa=>some (.aO,([]:List D),a.2))
  (some (.aO,([]:List D),g.2.2))).bind λa=>cP a.1 ((U tab .mul W (Y 0 d) (.int .i64 2)).bind λb=>some (.aO,[b,(Y 0 g.2.1),(Y 1 g.2.1),h,f,(Y 2 g.2.1),i],a.2.2)) λb=>some ((bO 3 b),[(Y 0 d),(Y 0 g.2.1),(Y 1 g.2.1),h,f,(Y 2 g.2.1),i],a.2.2)) λa=>some ((bO 3 a),[(Y 0 d),(Y 0 g.2.1),(Y 1 g.2.1),(Y 3 d),f,(Y 2 g.2.1),(Y 6 d)],g.2.2))
  (some ((.ext 2),[(Y 0 d),(Y 1 d),(Y 2 d),(Y 3 d),f,(Y 5 d),(Y 6 d)],e))
def rW(a b c:D)(h:Z):Option (D × Z):=
 ((bZ (pU a b c (.int .i64 20)) [.int .i64 0,.int .i64 20,.any] h).bind λd=>some ((bO 0 d.1),[(Y 0 d.2.1),(Y 1 d.2.1),(Y 2 d.2.1)],d.2.2)).bind λd=>cP d.1 ((R kX [a,(Y 0 d.2.1),b,c] d.2.2).bind λe=>((bZ (rX a b c) [.int .i64 20,(Y 0 d.2.1),(Y 1 d.2.1),.any,.any,.any,.any] e.2).bind λa=>some ((bO 2 a.1),[(Y 0 a.2.1),(Y 1 a.2.1),(Y 2 a.2.1),(Y 3 a.2.1),(Y 4 a.2.1),(Y 5 a.2.1),(Y 6 a.2.1)],a.2.2)).bind λa=>dB a.1 (some (aD [],a.2.2))) λa=>dB a (some (aD [],d.2.2))
theorem yN(a b c:D)(h:Z):R oA [a,b,c] h=rW a b c h:=
 er uT
def wT(a b:D)(h:Z):Option (D × Z):=
 (R qB [a,b] h).bind λa=>some (aD [a.1],a.2)
theorem En(a b:D)(h:Z):R zl [a,b] h=wT a b h:=
 er uU
def r0(a b c:D)(d:List D)(e:Z):Option bP:=
 (U tab .gtr W (Y 0 d) b).bind λb=>(gd b true (some c)).bind λc=>(gd b true (some a)).bind λf=>(gd b true (some (Y 0 d))).bind λg=>(gd b true (aM tab bI f g)).bind λf=>(gd b true (aA tab e bG f)).bind λf=>(gd b true (some a)).bind λg=>(gd b true (some (Y 0 d))).bind λh=>(gd b true (U tab .sub W h (.int .i64 1))).bind λh=>(gd b true (aM tab bI g h)).bind λg=>(gd b true (aA tab e bG g)).bind λg=>(eQ b true e (gh R c [f,g] e)).bind λc=>(gd b true (U tab .lss W c.1 (.int .i64 0))).bind λe=>(cJ b e (.bool false)).bind λb=>aI b
  ((U tab .sub W (Y 0 d) (.int .i64 1)).bind λe=>(U tab .sub W (Y 0 d) (.int .i64 1)).bind λf=>(aM tab bI a f).bind λf=>(aA tab c.2 bG f).bind λf=>(aM tab bI a (Y 0 d)).bind λg=>(aA tab c.2 bG g).bind λg=>(aM tab bI a (Y 0 d)).bind λh=>((cE tab c.2 bG h f).bind λf=>some ((.bJ:D),f)).bind λh=>(aM tab bI a e).bind λa=>((cE tab h.2 bG a g).bind λf=>some ((.bJ:D),f)).bind λa=>(U tab .sub W (Y 0 d) (.int .i64 1)).bind λe=>some (.aO,[e,b],a.2))
  (some ((.ext 2),[(Y 0 d),b],c.2))
def rZ(a b c d:D)(ds:List D)(e:Z):Option bP:=
 (U tab .lss W (Y 0 ds) c).bind λc=>aI c
  (((bZ (r0 a b d) [(Y 0 ds),(Y 3 ds)] e).bind λa=>some ((bO 2 a.1),[(Y 0 a.2.1),(Y 1 a.2.1)],a.2.2)).bind λa=>cP (bO 1 a.1) ((U tab .add W (Y 0 ds) (.int .i64 1)).bind λb=>some (.aO,[b,(Y 0 a.2.1),c,(Y 1 a.2.1)],a.2.2)) λb=>some (b,[(Y 0 ds),(Y 0 a.2.1),c,(Y 1 a.2.1)],a.2.2))
  (some ((.ext 0),[(Y 0 ds),(Y 1 ds),c,(Y 3 ds)],e))
def rY(a b c d:D)(h:Z):Option (D × Z):=
 (U tab .add W b (.int .i64 1)).bind λe=>((bZ (rZ a b c d) [e,.any,.any,.any] h).bind λa=>some ((bO 0 a.1),[(Y 0 a.2.1),(Y 1 a.2.1),(Y 2 a.2.1),(Y 3 a.2.1)],a.2.2)).bind λa=>dB a.1 (some (aD [],a.2.2))
theorem yO(a b c d:D)(h:Z):R kX [a,b,c,d] h=rY a b c d h:=
 er uV
def BT(a b c:D)(ds:List D)(d:Z):Option bP:=
 (U tab .lss W (Y 0 ds) (Y 1 ds)).bind λe=>aI e
  ((U tab .add W (Y 0 ds) (Y 1 ds)).bind λf=>(hN tab W jg f).bind λf=>(U tab .shr jg f (.int .u64 1)).bind λf=>(hN tab jg W f).bind λf=>(U tab .sub W c f).bind λc=>(aM tab bI a c).bind λc=>(aA tab d bG c).bind λc=>(aM tab bI a f).bind λa=>(aA tab d bG a).bind λa=>(gh R b [c,a] d).bind λa=>(U tab .lss W a.1 (.int .i64 0)).bind λb=>(fM .not b).bind λb=>(aI b
  ((U tab .add W f (.int .i64 1)).bind λc=>some (.aO,[c,(Y 1 ds)],a.2))
  (some (.aO,[(Y 0 ds),f],a.2))).bind λa=>some ((bO 9 a.1),[(Y 0 a.2.1),(Y 1 a.2.1),f,e,b],a.2.2))
  (some ((.ext 8),[(Y 0 ds),(Y 1 ds),(Y 2 ds),e,(Y 4 ds)],d))
def r3(a b c d e:D)(f:Z):Option (D × Z):=
  (U tab .add W b d).bind λg=>(hN tab W jg g).bind λg=>(U tab .shr jg g (.int .u64 1)).bind λg=>(hN tab jg W g).bind λg=>(U tab .add W g c).bind λh=>(U tab .gtr W c g).bind λi=>(aI i
   ((U tab .sub W h d).bind λi=>some (.aO,[i,g],f))
   (some (.aO,[b,c],f))).bind λf=>cP f.1 ((U tab .sub W h (.int .i64 1)).bind λi=>((bZ (BT a e i) [(Y 0 f.2.1),(Y 1 f.2.1),.any,.any,.any] f.2.2).bind λi=>some ((bO 8 i.1),[(Y 0 i.2.1),(Y 1 i.2.1),(Y 2 i.2.1),(Y 3 i.2.1),(Y 4 i.2.1)],i.2.2)).bind λi=>cP i.1 ((U tab .sub W h (Y 0 i.2.1)).bind λh=>(U tab .lss W (Y 0 i.2.1) c).bind λj=>(gd j true (some c)).bind λk=>(gd j true (some h)).bind λl=>(gd j true (U tab .lss W k l)).bind λk=>(cJ j k (.bool false)).bind λj=>(aI j
   ((R zm [a,(Y 0 i.2.1),c,h,e] i.2.2).bind λc=>some (.aO,([]:List D),c.2))
   (some (.aO,([]:List D),i.2.2))).bind λc=>cP c.1 ((U tab .lss W b (Y 0 i.2.1)).bind λj=>(gd j true (some (Y 0 i.2.1))).bind λk=>(gd j true (some g)).bind λl=>(gd j true (U tab .lss W k l)).bind λk=>(cJ j k (.bool false)).bind λj=>(aI j
   ((R oB [a,b,(Y 0 i.2.1),g,e] c.2.2).bind λb=>some (.aO,([]:List D),b.2))
   (some (.aO,([]:List D),c.2.2))).bind λb=>cP b.1 ((U tab .lss W g h).bind λj=>(gd j true (some h)).bind λk=>(gd j true (some d)).bind λl=>(gd j true (U tab .lss W k l)).bind λk=>(cJ j k (.bool false)).bind λj=>(aI j
   ((R oB [a,g,h,d,e] b.2.2).bind λa=>some (.aO,([]:List D),a.2))
   (some (.aO,([]:List D),b.2.2))).bind λa=>dB a.1 (some (aD [],a.2.2))) λa=>dB a (some (aD [],b.2.2))) λa=>dB a (some (aD [],c.2.2))) λa=>dB a (some (aD [],i.2.2))) λa=>dB a (some (aD [],f.2.2))
def BU(a b c:D)(d:List D)(e:Z):Option bP:=
 (U tab .lss W (Y 0 d) (Y 1 d)).bind λf=>aI f
  ((U tab .add W (Y 0 d) (Y 1 d)).bind λg=>(hN tab W jg g).bind λg=>(U tab .shr jg g (.int .u64 1)).bind λg=>(hN tab jg W g).bind λg=>(aM tab bI a b).bind λb=>(aA tab e bG b).bind λb=>(aM tab bI a g).bind λa=>(aA tab e bG a).bind λa=>(gh R c [b,a] e).bind λa=>(U tab .lss W a.1 (.int .i64 0)).bind λb=>(fM .not b).bind λb=>(aI b
  ((U tab .add W g (.int .i64 1)).bind λc=>some (.aO,[c,(Y 1 d)],a.2))
  (some (.aO,[(Y 0 d),g],a.2))).bind λa=>some ((bO 5 a.1),[(Y 0 a.2.1),(Y 1 a.2.1),g,f,b],a.2.2))
  (some ((.ext 4),[(Y 0 d),(Y 1 d),(Y 2 d),f,(Y 4 d)],e))
def BV(a:D)(b:bP)(c:List D)(d:Z):Option bP:=
 (U tab .gtr W (Y 0 c) (Y 0 b.2.1)).bind λb=>aI b
  ((U tab .sub W (Y 0 c) (.int .i64 1)).bind λe=>(U tab .sub W (Y 0 c) (.int .i64 1)).bind λf=>(aM tab bI a f).bind λf=>(aA tab d bG f).bind λf=>(aM tab bI a (Y 0 c)).bind λg=>(aA tab d bG g).bind λg=>(aM tab bI a (Y 0 c)).bind λh=>((cE tab d bG h f).bind λf=>some ((.bJ:D),f)).bind λh=>(aM tab bI a e).bind λa=>((cE tab h.2 bG a g).bind λf=>some ((.bJ:D),f)).bind λa=>(U tab .sub W (Y 0 c) (.int .i64 1)).bind λe=>some (.aO,[e,b],a.2))
  (some ((.ext 6),[(Y 0 c),b],d))
def r2(a b c d e:D)(f:Z):Option (D × Z):=
  (U tab .sub W d c).bind λg=>(U tab .eql W g (.int .i64 1)).bind λg=>aI g
   (((bZ (BU a c e) [b,c,.any,.any,.any] f).bind λg=>some ((bO 4 g.1),[(Y 0 g.2.1),(Y 1 g.2.1),(Y 2 g.2.1),(Y 3 g.2.1),(Y 4 g.2.1)],g.2.2)).bind λg=>cP g.1 (((bZ (BV a g) [c,.any] g.2.2).bind λh=>some ((bO 6 h.1),[(Y 0 h.2.1),(Y 1 h.2.1)],h.2.2)).bind λh=>cP h.1 (some (aD [],h.2.2)) λi=>cP i (r3 a b c d e h.2.2) λi=>dB i (some (aD [],h.2.2))) λh=>cP h (r3 a b c d e g.2.2) λh=>dB h (some (aD [],g.2.2)))
   (r3 a b c d e f)
def BW(a b c:D)(d:List D)(e:Z):Option bP:=
 (U tab .lss W (Y 0 d) (Y 1 d)).bind λf=>aI f
  ((U tab .add W (Y 0 d) (Y 1 d)).bind λg=>(hN tab W jg g).bind λg=>(U tab .shr jg g (.int .u64 1)).bind λg=>(hN tab jg W g).bind λg=>(aM tab bI a g).bind λh=>(aA tab e bG h).bind λh=>(aM tab bI a b).bind λa=>(aA tab e bG a).bind λa=>(gh R c [h,a] e).bind λa=>(U tab .lss W a.1 (.int .i64 0)).bind λb=>(aI b
  ((U tab .add W g (.int .i64 1)).bind λc=>some (.aO,[c,(Y 1 d)],a.2))
  (some (.aO,[(Y 0 d),g],a.2))).bind λa=>some ((bO 1 a.1),[(Y 0 a.2.1),(Y 1 a.2.1),g,f,b],a.2.2))
  (some ((.ext 0),[(Y 0 d),(Y 1 d),(Y 2 d),f,(Y 4 d)],e))
def BX(a:D)(b:bP)(c:List D)(d:Z):Option bP:=
 (U tab .sub W (Y 0 b.2.1) (.int .i64 1)).bind λb=>(U tab .lss W (Y 0 c) b).bind λb=>aI b
  ((U tab .add W (Y 0 c) (.int .i64 1)).bind λe=>(U tab .add W (Y 0 c) (.int .i64 1)).bind λf=>(aM tab bI a f).bind λf=>(aA tab d bG f).bind λf=>(aM tab bI a (Y 0 c)).bind λg=>(aA tab d bG g).bind λg=>(aM tab bI a (Y 0 c)).bind λh=>((cE tab d bG h f).bind λf=>some ((.bJ:D),f)).bind λh=>(aM tab bI a e).bind λa=>((cE tab h.2 bG a g).bind λf=>some ((.bJ:D),f)).bind λa=>(U tab .add W (Y 0 c) (.int .i64 1)).bind λe=>some (.aO,[e,b],a.2))
  (some ((.ext 2),[(Y 0 c),b],d))
def BS(a b c d e:D)(h:Z):Option (D × Z):=
 (U tab .sub W c b).bind λf=>(U tab .eql W f (.int .i64 1)).bind λf=>aI f
  (((bZ (BW a b e) [c,d,.any,.any,.any] h).bind λf=>some ((bO 0 f.1),[(Y 0 f.2.1),(Y 1 f.2.1),(Y 2 f.2.1),(Y 3 f.2.1),(Y 4 f.2.1)],f.2.2)).bind λf=>cP f.1 (((bZ (BX a f) [b,.any] f.2.2).bind λg=>some ((bO 2 g.1),[(Y 0 g.2.1),(Y 1 g.2.1)],g.2.2)).bind λg=>cP g.1 (some (aD [],g.2.2)) λi=>cP i (r2 a b c d e g.2.2) λi=>dB i (some (aD [],g.2.2))) λg=>cP g (r2 a b c d e f.2.2) λg=>dB g (some (aD [],f.2.2)))
  (r2 a b c d e h)
theorem LA(a b c d e:D)(h:Z):R oB [a,b,c,d,e] h=BS a b c d e h:=
 er uW
def B1(a b c:D)(ds:List D)(d:Z):Option bP:=
 (U tab .neq W (Y 0 ds) (Y 1 ds)).bind λe=>aI e
  ((U tab .gtr W (Y 0 ds) (Y 1 ds)).bind λf=>(aI f
  ((U tab .sub W b (Y 0 ds)).bind λg=>(R qC [a,g,b,(Y 1 ds),c] d).bind λg=>(U tab .sub W (Y 0 ds) (Y 1 ds)).bind λh=>some (.aO,[h,(Y 1 ds)],g.2))
  ((U tab .sub W b (Y 0 ds)).bind λg=>(U tab .add W b (Y 1 ds)).bind λb=>(U tab .sub W b (Y 0 ds)).bind λb=>(R qC [a,g,b,(Y 0 ds),c] d).bind λa=>(U tab .sub W (Y 1 ds) (Y 0 ds)).bind λb=>some (.aO,[(Y 0 ds),b],a.2))).bind λa=>some ((bO 1 a.1),[(Y 0 a.2.1),(Y 1 a.2.1),e,f],a.2.2))
  (some ((.ext 0),[(Y 0 ds),(Y 1 ds),e,(Y 3 ds)],d))
def BZ(a b c d e:D)(h:Z):Option (D × Z):=
 (U tab .sub W c b).bind λb=>(U tab .sub W d c).bind λd=>((bZ (B1 a c e) [b,d,.any,.any] h).bind λb=>some ((bO 0 b.1),[(Y 0 b.2.1),(Y 1 b.2.1),(Y 2 b.2.1),(Y 3 b.2.1)],b.2.2)).bind λb=>cP b.1 ((U tab .sub W c (Y 0 b.2.1)).bind λd=>(R qC [a,d,c,(Y 0 b.2.1),e] b.2.2).bind λa=>some (aD [],a.2)) λa=>dB a (some (aD [],b.2.2))
theorem LB(a b c d e:D)(h:Z):R zm [a,b,c,d,e] h=BZ a b c d e h:=
 er uX
def B3(a b c d:D)(ds:List D)(e:Z):Option bP:=
 (U tab .lss W (Y 0 ds) d).bind λd=>aI d
  ((U tab .add W b (Y 0 ds)).bind λf=>(U tab .add W c (Y 0 ds)).bind λg=>(U tab .add W c (Y 0 ds)).bind λc=>(aM tab bI a c).bind λc=>(aA tab e bG c).bind λc=>(U tab .add W b (Y 0 ds)).bind λb=>(aM tab bI a b).bind λb=>(aA tab e bG b).bind λb=>(aM tab bI a f).bind λf=>((cE tab e bG f c).bind λc=>some ((.bJ:D),c)).bind λf=>(aM tab bI a g).bind λa=>((cE tab f.2 bG a b).bind λc=>some ((.bJ:D),c)).bind λa=>(U tab .add W (Y 0 ds) (.int .i64 1)).bind λb=>some (.aO,[b,d],a.2))
  (some ((.ext 0),[(Y 0 ds),d],e))
def B2(a b c d e:D)(h:Z):Option (D × Z):=
 ((bZ (B3 a b c d) [.int .i64 0,.any] h).bind λa=>some ((bO 0 a.1),[(Y 0 a.2.1),(Y 1 a.2.1)],a.2.2)).bind λa=>dB a.1 (some (aD [],a.2.2))
theorem LC(a b c d e:D)(h:Z):R qC [a,b,c,d,e] h=B2 a b c d e h:=
 er uY
def w8(a b c:D)(h:Z):Option (D × Z):=
 (fp tab a).bind λd=>(aC tab dM 0 d).bind λd=>(aA tab h aN d).bind λd=>(aM tab aN d b).bind λb=>(aA tab h W b).bind λb=>(fp tab a).bind λd=>(aC tab dM 0 d).bind λd=>(aA tab h aN d).bind λd=>(aM tab aN d c).bind λc=>(aA tab h W c).bind λc=>(fp tab a).bind λd=>(aC tab dM 1 d).bind λd=>(aA tab h aN d).bind λd=>(aM tab aN d c).bind λd=>(aA tab h W d).bind λd=>(fp tab a).bind λa=>(aC tab dM 1 a).bind λa=>(aA tab h aN a).bind λa=>(aM tab aN a b).bind λa=>(aA tab h W a).bind λa=>(R qO [d,a] h).bind λa=>(R qO [b,c] a.2).bind λb=>(bF tab aN 2 [0,1] [a.1,b.1]).bind λa=>(R tE [a] b.2).bind λa=>(U tab .lss W a.1 (.int .i64 0)).bind λb=>some (aD [b],a.2)
theorem EB(a b c:D)(h:Z):R tA [a,b,c] h=w8 a b c h:=
 er tS
def w9(a:D)(h:Z):Option (D × Z):=
 (fp tab a).bind λb=>(aC tab dM 0 b).bind λb=>(aA tab h aN b).bind λb=>(aX tab aN b).bind λb=>(U tab .sub W b (.int .i64 1)).bind λb=>(fp tab a).bind λc=>(aC tab dM 0 c).bind λc=>(aA tab h aN c).bind λc=>(aM tab aN c b).bind λc=>(aA tab h W c).bind λc=>(fp tab a).bind λd=>(aC tab dM 0 d).bind λd=>(aA tab h aN d).bind λd=>(gj tab aN false true false [d,b]).bind λb=>(fp tab a).bind λa=>(aC tab dM 0 a).bind λa=>((cE tab h aN a b).bind λa=>some ((.bJ:D),a)).bind λa=>(some (.iface W c:D)).bind λb=>some (aD [b],a.2)
theorem EC(a:D)(h:Z):R qI [a] h=w9 a h:=
 er tT
def xa(a b:D)(h:Z):Option (D × Z):=
 (fp tab a).bind λc=>(aC tab dM 0 c).bind λc=>(aA tab h aN c).bind λc=>(kS W b).bind λb=>(bF tab aN 1 [0] [b]).bind λb=>(dH tab h aN aN c b).bind λb=>(fp tab a).bind λa=>(aC tab dM 0 a).bind λa=>((cE tab b.2 aN a b.1).bind λa=>some ((.bJ:D),a)).bind λa=>some (aD [],a.2)
theorem ED(a b:D)(h:Z):R qJ [a,b] h=xa a b h:=
 er tU
def xb(a b c:D)(h:Z):Option (D × Z):=
 (fp tab a).bind λd=>(aC tab dM 0 d).bind λd=>(aA tab h aN d).bind λd=>(fp tab a).bind λe=>(aC tab dM 0 e).bind λe=>(aA tab h aN e).bind λe=>(fp tab a).bind λf=>(aC tab dM 0 f).bind λf=>(aA tab h aN f).bind λf=>(aM tab aN f c).bind λf=>(aA tab h W f).bind λf=>(fp tab a).bind λa=>(aC tab dM 0 a).bind λa=>(aA tab h aN a).bind λa=>(aM tab aN a b).bind λa=>(aA tab h W a).bind λa=>(aM tab aN d b).bind λb=>((cE tab h W b f).bind λb=>some ((.bJ:D),b)).bind λd=>(aM tab aN e c).bind λc=>((cE tab d.2 W c a).bind λb=>some ((.bJ:D),b)).bind λa=>some (aD [],a.2)
theorem EE(a b c:D)(h:Z):R oF [a,b,c] h=xb a b c h:=
 er tV
def nN(a b c:D)(ds:List D)(d:Z):Option bP:=
 (U tab .lss W (Y 2 ds) c).bind λc=>aI c
  ((aM tab aN b (Y 2 ds)).bind λb=>(aA tab d W b).bind λb=>(U tab .neq W b a).bind λa=>aI a
  (some (.ret,[b,b,(Y 2 ds),c,a],d))
  ((U tab .add W (Y 2 ds) (.int .i64 1)).bind λe=>some (.aO,[(Y 0 ds),b,e,c,a],d)))
  (some ((.ext 0),[(Y 0 ds),(Y 1 ds),(Y 2 ds),c,(Y 4 ds)],d))
def xr(a:D)(h:Z):Option (D × Z):=
 (aX tab aN a).bind λb=>((bZ (nN (.int .i64 0) a b) [.int .i64 0,.any,.int .i64 0,.any,.any] h).bind λa=>some ((bO 0 a.1),[(Y 0 a.2.1),(Y 1 a.2.1),(Y 2 a.2.1),(Y 3 a.2.1),(Y 4 a.2.1)],a.2.2)).bind λa=>cP a.1 (some (aD [.int .i64 0],a.2.2)) λb=>dB b (some (aD [(Y 0 a.2.1)],a.2.2))
theorem ER(a:D)(h:Z):R tE [a] h=xr a h:=
 er tW
end
noncomputable def zA:eT:=⟨Tryd.f17.body.getD .skip,Tryd.f17.results.toList,⟨107,[0,1,2,6,7,8,9,10,11,12,14,15,16,32,49,63,65,81,97],[91],[]⟩,true⟩
theorem Fh:bM Tryd.prog 17 zA :=.of Tryd.func17 (by kernel_rfl) (by kernel_rfl) (by kernel_rfl) Tryd.call17
noncomputable def kI(n r g k:D)(a:List D)(i:Z):Option bP:=
 (aX tab bD (Y 0 a)).bind λs=>(U tab .lss W s r).bind λc=>(gd c true (some (g:D))).bind λt=>(eQ c true i (R oE [t] i)).bind λe=>(gd c true (U tab .gtr W e.1 (.int .i64 0))).bind λu=>(cJ c u (.bool false)).bind λh=>aI h
  ((some (.iface iu g:D)).bind λv=>(R tz [v] e.2).bind λf=>(kS W f.1).bind λd=>(aM tab bD n d).bind λw=>(aA tab f.2 aP w).bind λx=>(bF tab bD 1 [0] [x]).bind λy=>(dH tab f.2 bD bD (Y 0 a) y).bind λb=>(aM tab aN k d).bind λz=>(aA tab b.2 W z).bind λA=>(U tab .geq W A (.int .i64 0)).bind λl=>(aI l
  ((some (.iface iu g:D)).bind λB=>(aM tab aN k d).bind λo=>(aA tab b.2 W o).bind λp=>(some (.iface W p:D)).bind λq=>(R qF [B,q] b.2).bind λm=>some (.aO,([]:List D),m.2))
  (some (.aO,([]:List D),b.2))).bind λj=>some ((bO 5 j.1),[b.1,d,h,l],j.2.2))
  (some ((.ext 4),[(Y 0 a),(Y 1 a),h,(Y 3 a)],e.2))
noncomputable def nQ(o e:D)(i:List D)(c:Z)(g:Mp)(d:Ex→List D→Z→Mp→Option Unit):Option Unit:=
 pa g e λk b=>(gF 0 k).bind λa=>aI a
  (oY b e λl h=>(gF 1 l).bind λf=>(some (.iface iu o:D)).bind λm=>(some (.iface W f:D)).bind λn=>(R qF [m,n] c).bind λj=>d .aO [f,a] j.2 h)
  (d (.ext 2) [(Y 0 i),a] c b)
noncomputable def pX(j m n:D)(ds:List D)(i:Z)(h:Mp)(k:Ex→List D→Z→Mp→Option Unit):Option Unit:=
 (U tab .geq W (Y 0 ds) (.int .i64 0)).bind λc=>aI c
  ((aM tab aN m (Y 0 ds)).bind λs=>((cE tab i W s (.int .i64 (-1))).bind λf=>some ((.bJ:D),f)).bind λg=>(aM tab bD j (Y 0 ds)).bind λt=>(aC tab aP 1 t).bind λu=>(aC tab aF 1 u).bind λv=>(aA tab g.2 W v).bind λw=>oZ h n w true λl e=>(gF 0 l).bind λd=>(gF 1 l).bind λa=>(aI a
  ((aM tab aN m (Y 0 ds)).bind λx=>((cE tab g.2 W x d).bind λf=>some ((.bJ:D),f)).bind λp=>some (.aO,([]:List D),p.2))
  (some (.aO,([]:List D),g.2))).bind λb=>cP b.1 ((aM tab bD j (Y 0 ds)).bind λy=>(aC tab aP 1 y).bind λz=>(aC tab aF 1 z).bind λA=>(aA tab b.2.2 W A).bind λB=>nk e n B (Y 0 ds) λF o=>(U tab .sub W (Y 0 ds) (.int .i64 1)).bind λq=>k .aO [q,d,a,c,a] b.2.2 o) λC=>cP (bO 1 C) ((U tab .sub W (Y 0 ds) (.int .i64 1)).bind λr=>k .aO [r,d,a,c,a] b.2.2 e) λE=>k E [(Y 0 ds),d,a,c,a] b.2.2 e)
  (k (.ext 0) [(Y 0 ds),(Y 1 ds),(Y 2 ds),c,(Y 4 ds)] i h)
noncomputable def nP(b q r:D)(h:Z)(c:D→Z→Option Unit):Option Unit:=
 (R lU [q] h).bind λj=>(aX tab bD b).bind λs=>(dH tab j.2 aN W j.1 s).bind λk=>(eE tab dM [1] [k.1]).bind λt=>(pC dM 2 k.2 t).bind λe=>(aX tab bD b).bind λl=>(oh tab e.2 aN l l).bind λf=>q2 M0 λm n=>(aX tab bD b).bind λu=>(U tab .sub W u (.int .i64 1)).bind λv=>k8 (pX b f.1 m) [v,.any,.any,.any,.any] f.2 n λx E g o=>cP (bO 0 x) (pc o m λw p=>k8 (nQ e.1 w) [.any,.any] g p λz F i C=>cP (bO 2 z) (((bZ (kI b r e.1 f.1) [.J,.any,.any,.any] i).bind λa=>some ((bO 4 a.1),[(Y 0 a.2.1),(Y 1 a.2.1),(Y 2 a.2.1),(Y 3 a.2.1)],a.2.2)).bind λd=>cP d.1 (c (aD [(Y 0 d.2.1)]) d.2.2) λB=>dB B (c (aD [.J]) d.2.2)) λA=>dB A (c (aD [.J]) i)) λy=>dB y (c (aD [.J]) g)
abbrev Bu:Nat:=64
noncomputable abbrev zB:eT:=zA
theorem Gp(b c d:D)(h:Z)(a:D→Z→Option Unit):mF X R bZ Bu zB [b,c,d] h a=nP b c d h a:=by kernel_rfl
theorem I1:kJ Tryd.prog 64 3:=⟨by kernel_rfl,by kernel_rfl,λa=>by kernel_rfl⟩
abbrev tB:Nat:=3
abbrev tw:Nat:=5
noncomputable def i3:eT:=⟨Tryd.f3.body.getD .skip,Tryd.f3.results.toList,⟨90,[0,1,4,5,6,7,8,9,10,11,12,13,14,16,27,28,29,50,52,64],[],[]⟩,false⟩
noncomputable def i5:eT:=⟨Tryd.f5.body.getD .skip,Tryd.f5.results.toList,⟨39,[0,1,2],[9,10],[]⟩,false⟩
noncomputable def tI:List (Nat × eT):=[(3,i3),(5,i5)]
noncomputable def nO:FuncId→Option eT:=oJ tI
theorem zh:bM Tryd.prog 3 i3 :=.of Tryd.func3 (by kernel_rfl) (by kernel_rfl) (by kernel_rfl) Tryd.call3
theorem FF:bM Tryd.prog 5 i5 :=.of Tryd.func5 (by kernel_rfl) (by kernel_rfl) (by kernel_rfl) Tryd.call5
theorem Gf:pW Tryd.prog tI:=⟨zh,FF,trivial⟩
noncomputable def pK:bV:=λa args b=>if a=qE then mW args b else R a args b
noncomputable def X1:Cx:=⟨tab,gl,pK⟩
noncomputable def R1:bV:=run X1 nO
theorem yW(fi:eT){f:FuncId}{args:List D}{h:Z}{x:Option (D × Z)}(a:nO f=some fi)(b:qQ X1 R1 bZ fi args h=x):R1 f args h=x:=(A9 a args h).trans b
theorem Lg(args:List D)(h:Z):R1 qE args h=mW args h:=(rm (X:=X1) (F:=nO) (by kernel_rfl) _ _).trans (by simp only[X1,pK,aL,aR])
theorem r1(f:Nat)(a:nO f=none)(b:f≠qE)(args:List D)(h:Z):R1 f args h=R f args h:=(rm (X:=X1) (F:=nO) a _ _).trans (by simp only[X1,pK,b,aR])
theorem Jp(args:List D)(h:Z):R1 ot args h=R ot args h:=r1 _ (by kernel_rfl) (by decide) _ _
theorem Jq(args:List D)(h:Z):R1 lS args h=R lS args h:=r1 _ (by kernel_rfl) (by decide) _ _
theorem Ju(args:List D)(h:Z):R1 kY args h=R kY args h:=r1 _ (by kernel_rfl) (by decide) _ _
theorem Jv(args:List D)(h:Z):R1 oG args h=R oG args h:=r1 _ (by kernel_rfl) (by decide) _ _
theorem Jr(args:List D)(h:Z):R1 oC args h=R oC args h:=r1 _ (by kernel_rfl) (by decide) _ _
theorem Js(args:List D)(h:Z):R1 oD args h=R oD args h:=r1 _ (by kernel_rfl) (by decide) _ _
theorem Jw(args:List D)(h:Z):R1 oH args h=R oH args h:=r1 _ (by kernel_rfl) (by decide) _ _
theorem Jt(args:List D)(h:Z):R1 lT args h=R lT args h:=r1 _ (by kernel_rfl) (by decide) _ _
noncomputable def xd(a b c d:D)(ds:List D)(e:Z):Option bP:=
 (U tab .lss W (Y 7 ds) d).bind λd=>aI d
  ((aM tab bD a (Y 7 ds)).bind λa=>(aA tab e aP a).bind λa=>(aM tab aN b (Y 7 ds)).bind λb=>(aA tab e W b).bind λb=>(R1 kY [(Y 1 ds),(Y 2 ds),a,b,c] e).bind λa=>(gF 0 a.1).bind λb=>(gF 1 a.1).bind λf=>(gF 2 a.1).bind λg=>(aX tab bD (Y 1 ds)).bind λh=>(U tab .geq W h c).bind λh=>aI h
  ((U tab .neq iT g (.int .i64 16)).bind λi=>aI i
  (some (.ret,[.bool false,(Y 1 ds),(Y 2 ds),(Y 7 ds),b,f,g,(Y 7 ds),d,h,i,(Y 11 ds)],a.2))
  (some ((.ext 0),[(Y 0 ds),(Y 1 ds),(Y 2 ds),(Y 7 ds),b,f,g,(Y 7 ds),d,h,i,(Y 11 ds)],a.2)))
  ((U tab .neq iT g (.int .i64 0)).bind λi=>(gd i false (some b)).bind λj=>(gd i false (some (c:D))).bind λk=>(eQ i false a.2 (R1 oG [j,k] a.2)).bind λa=>(gd i false (some (c:D))).bind λc=>(gd i false (some (Y 7 ds))).bind λj=>(gd i false (U tab .sub W c j)).bind λc=>(gd i false (U tab .sub W c (.int .i64 1))).bind λc=>(gd i false (U tab .neq W a.1 c)).bind λc=>(cJ i (.bool true) c).bind λc=>aI c
  (some (.ret,[.bool false,(Y 1 ds),(Y 2 ds),(Y 7 ds),b,f,g,(Y 7 ds),d,h,(Y 10 ds),c],a.2))
  ((U tab .add W (Y 7 ds) (.int .i64 1)).bind λi=>some (.aO,[(Y 0 ds),b,f,(Y 7 ds),b,f,g,i,d,h,(Y 10 ds),c],a.2))))
  (some ((.ext 0),[(Y 0 ds),(Y 1 ds),(Y 2 ds),(Y 3 ds),(Y 4 ds),(Y 5 ds),(Y 6 ds),(Y 7 ds),d,(Y 9 ds),(Y 10 ds),(Y 11 ds)],e))
noncomputable def xc(a b:D)(h:Z):Option (D × Z):=
 (R1 tw [] h).bind λc=>(fM .not c.1).bind λd=>aI d
  (some (aD [.bool false],c.2))
  ((R1 ot [a,.int .i64 240] c.2).bind λa=>(R1 lS [a.1,.int .i64 10] a.2).bind λa=>(gF 0 a.1).bind λc=>(gF 1 a.1).bind λd=>(hN tab fa W b).bind λb=>(U tab .rem W b (.int .i64 12)).bind λb=>(aX tab bD c).bind λe=>((bZ (xd c d b e) [.bool false,.J,.J,.any,.any,.any,.any,.int .i64 0,.any,.any,.any,.any] a.2).bind λa=>some ((bO 0 a.1),[(Y 0 a.2.1),(Y 1 a.2.1),(Y 2 a.2.1),(Y 3 a.2.1),(Y 4 a.2.1),(Y 5 a.2.1),(Y 6 a.2.1),(Y 7 a.2.1),(Y 8 a.2.1),(Y 9 a.2.1),(Y 10 a.2.1),(Y 11 a.2.1)],a.2.2)).bind λa=>cP a.1 ((aX tab bD c).bind λe=>(kU b e).bind λe=>(gj tab bD false true false [c,e]).bind λc=>(R1 oC [(Y 1 a.2.1),c] a.2.2).bind λc=>(gd c.1 true (some (Y 2 a.2.1))).bind λf=>(gd c.1 true (some d)).bind λd=>(gd c.1 true (some e)).bind λe=>(gd c.1 true (gj tab aN false true false [d,e])).bind λd=>(eQ c.1 true c.2 (R1 oD [f,d] c.2)).bind λd=>(cJ c.1 d.1 (.bool false)).bind λc=>(gd c true (some (Y 1 a.2.1))).bind λe=>(gd c true (some (Y 2 a.2.1))).bind λf=>(gd c true (some b)).bind λb=>(eQ c true d.2 (R1 oH [e,f,b] d.2)).bind λb=>(cJ c b.1 (.bool false)).bind λc=>some (aD [c],b.2)) λb=>dB b (some (aD [(Y 0 a.2.1)],a.2.2)))
theorem EF(a b:D)(h:Z):R1 tB [a,b] h=xc a b h:=
 yW i3 (by kernel_rfl) (by kernel_rfl)
noncomputable def w2(h:Z):Option (D × Z):=
 (gh R1 (.fn (.func lT) [] []) [.int .i64 1,.int .i64 0] h).bind λa=>(gh R1 (.fn (.func lT) [] []) [.int .i64 2,.int .i64 0] a.2).bind λb=>(gh R1 (.fn (.func lT) [] []) [.int .i64 1,.int .i64 1] b.2).bind λc=>(bF tab bD 3 [0,1,2] [a.1,b.1,c.1]).bind λa=>(bF tab aN 3 [0,1,2] [.int .i64 0,.int .i64 5,.int .i64 9]).bind λb=>(R1 qE [a,b,.int .i64 2] c.2).bind λa=>(aX tab bD a.1).bind λb=>(U tab .eql W b (.int .i64 2)).bind λb=>(gd b true (some a.1)).bind λc=>(gd b true (aM tab bD c (.int .i64 0))).bind λc=>(gd b true (aC tab aP 1 c)).bind λc=>(gd b true (aC tab aF 1 c)).bind λc=>(gd b true (aA tab a.2 W c)).bind λc=>(gd b true (U tab .eql W c (.int .i64 2))).bind λc=>(cJ b c (.bool false)).bind λb=>(gd b true (some a.1)).bind λc=>(gd b true (aM tab bD c (.int .i64 1))).bind λc=>(gd b true (aC tab aP 1 c)).bind λc=>(gd b true (aC tab aF 1 c)).bind λc=>(gd b true (aA tab a.2 W c)).bind λc=>(gd b true (U tab .eql W c (.int .i64 1))).bind λc=>(cJ b c (.bool false)).bind λb=>(gd b true (some a.1)).bind λc=>(gd b true (aM tab bD c (.int .i64 1))).bind λc=>(gd b true (aC tab aP 1 c)).bind λc=>(gd b true (aC tab aF 2 c)).bind λc=>(gd b true (aA tab a.2 W c)).bind λc=>(gd b true (U tab .eql W c (.int .i64 0))).bind λc=>(cJ b c (.bool false)).bind λb=>some (aD [b],a.2)
theorem Et(h:Z):R1 tw [] h=w2 h:=
 yW i5 (by kernel_rfl) (by kernel_rfl)
@[simp] theorem LX(z:Nat)(f:Bool)(rows:List (List D)):aX tab hC (.sl z f rows)=some (.int .i64 rows.length):=id rfl
@[simp] theorem z4(z o r n:Nat):aX tab hC (.S z o r n)=some (.int .i64 n):=id rfl
@[simp] theorem CU (b:D) (c:b.one=true):eE tab gZ [0] [b]=some (.agg [b,.int .i64 0]):=by
 have a:=ns c;refine sL (T:=tab) (i:=rE) (fs:=[(22,0,1),(3,1,1)]) (id rfl) (id rfl) ?_;rw[show rE.zero=[.J,.int .i64 0]from id rfl];rw[ka (off:=0) (V:=1) (id rfl) (by rw[a.1];rfl) (by simp[dF,j2,j3,j1,j0]) a.2,a.1];exact id rfl
theorem Ld{h:Z}{o T V kk off:Nat}{rows:List (List D)}{row:List D}{v:D}(d:h[o]?=some (.row T V rows))(e:rows[kk]?=some row)(g:(bT v).length=3)(c:off+3≤row.length)(b:v.eZ=true){a:Type}{f:Z→Option a}{Q:a→Prop}
  (k:∀h',h'[o]?=some (.row T V (rows.set kk (dF row off (bT v))))→bY o h h'→Wp (f h') Q):Wp ((cE tab h gy (.ptr o kk off) v).bind f) Q:=
 by rw[show cE tab h gy (.ptr o kk off) v=il 3 h (.ptr o kk off) v from rfl];exact kG d e g c b k
theorem pJ{h:Z}{o T V kk off:Nat}{rows:List (List D)}{row:List D}{v:D}(d:h[o]?=some (.row T V rows))(e:rows[kk]?=some row)(g:(bT v).length=11)(c:off+11≤row.length)(b:v.eZ=true){a:Type}{f:Z→Option a}{Q:a→Prop}
  (k:∀h',h'[o]?=some (.row T V (rows.set kk (dF row off (bT v))))→bY o h h'→Wp (f h') Q):Wp ((cE tab h aP (.ptr o kk off) v).bind f) Q:=
 by rw[show cE tab h aP (.ptr o kk off) v=il 11 h (.ptr o kk off) v from rfl];exact kG d e g c b k
@[simp] theorem lQ(o k f:Nat):aC tab aP 1 (.ptr o k f)=some (.ptr o k (f+1)):=id rfl
@[simp] theorem E2(b a:D)(cs:List D):aC tab aF 1 (.aE (b::a::cs))=some (.aE (a::cs)):=id rfl
@[simp] theorem zc(o k f:Nat):aC tab aF 1 (.ptr o k f)=some (.ptr o k (f+1)):=id rfl
theorem ko{h:Z}{o T V kk off:Nat}{rows:List (List D)}{row:List D}{v:D}(d:h[o]?=some (.row T V rows))(e:rows[kk]?=some row)(g:(bT v).length=1)(c:off+1≤row.length)(b:v.eZ=true){a:Type}{f:Z→Option a}{Q:a→Prop}
  (k:∀h',h'[o]?=some (.row T V (rows.set kk (dF row off (bT v))))→bY o h h'→Wp (f h') Q):Wp ((cE tab h W (.ptr o kk off) v).bind f) Q:=
 by rw[show cE tab h W (.ptr o kk off) v=il 1 h (.ptr o kk off) v from rfl];exact kG d e g c b k
@[simp] theorem fk(c:D)(cs:List D)(h:Z):aA tab h W (.aE (c::cs))=some c:=id rfl
@[simp] theorem fE(h:Z)(o k f:Nat):aA tab h W (.ptr o k f)=(h.row o k).bind λrow=>(row.drop f).head?:=by show(match h.row o k with|some row=>_|none=>none)=_;cases h.row o k<;>rfl
@[simp] theorem y8(b c a:D)(cs:List D):aC tab aF 2 (.aE (b::c::a::cs))=some (.aE (a::cs)):=id rfl
@[simp] theorem lP(o k f:Nat):aC tab aF 2 (.ptr o k f)=some (.ptr o k (f+2)):=id rfl
@[simp] theorem y9(b c d e a:D)(cs:List D):aC tab aF 4 (.aE (b::c::d::e::a::cs))=some (.aE (a::cs)):=id rfl
@[simp] theorem qs(o k f:Nat):aC tab aF 4 (.ptr o k f)=some (.ptr o k (f+4)):=id rfl
@[simp] theorem jB(c:D)(cs:List D)(h:Z):aA tab h cD (.aE (c::cs))=some c:=id rfl
@[simp] theorem vb(h:Z)(o k f:Nat):aA tab h cD (.ptr o k f)=(h.row o k).bind λrow=>(row.drop f).head?:=by show(match h.row o k with|some row=>_|none=>none)=_;cases h.row o k<;>rfl
theorem wb{h:Z}{n0:Nat}(e:n0≤h.length){rows:List (List D)}{x y:D}(g:Own h n0 bW 3 rows x){ys:List (List D)}(l:g9 h 3 y=some ys)(d:(rows.length+ys.length)*32≤140737488355328){c:Type}{f:D × Z→Option c}{Q:c→Prop}
  (k:∀b h',Own h' n0 bW 3 (rows++ys) b→h.length≤h'.length→(∀a,a<n0→h'[a]?=h[a]?)→(∀a,a<h.length→¬x.eN a→h'[a]?=h[a]?)→(∀a,b.eN a→x.eN a∨h.length≤a)→Wp (f (b,h')) Q):Wp ((dH tab h cD cD x y).bind f) Q:=
 qg (T:=tab) (i:=v3) (j:=v5) (id rfl) (id rfl) (id rfl) (by decide) e g l (kB d (by omega)) k
@[simp] theorem k5 {a:Type} {f:a→List D} {l:List a} {d:D} (h:aV 3 f l d):aX tab cD d=some (.int .i64 l.length):=
 by
  rcases h with⟨rfl,rfl⟩|⟨b,rfl⟩
  ·rfl
  ·show some (D.int .i64 ((l.map f).length:Nat))=_;simp
theorem HJ{h:Z}{n0 e z:Nat}{rows:List (List D)}{d:D}(a:Own h n0 e z rows d):aX tab cD d=some (.int .i64 rows.length):=by
 rcases a with⟨rfl,rfl⟩|⟨b,_,rfl,_⟩<;>rfl
@[simp] theorem Hg(f:Bool)(rows:List (List D))(i:Int):aM tab cD (.sl 3 f rows) (.int .i64 i)=if 0≤i then(rows[i.toNat]?).map .aE else none:=by show(if 3=3∧0≤i then(match rows[i.toNat]? with|some b=>some (D.aE b)|none=>none)else none)=_;by_cases a:0≤i<;>simp[a]<;>cases rows[i.toNat]?<;>rfl
@[simp] theorem Hi(o r n:Nat)(i:Int):aM tab cD (.S 3 o r n) (.int .i64 i)=if 0≤i∧i<n then some (.ptr o (r+i.toNat) 0)else none:=by show(if 3=3∧0≤i∧i<n then some (D.ptr o (r+i.toNat) 0)else none)=_;simp
@[simp] theorem lY {a:Type} {f:a→List D} {l:List a} {d:D} (h:aV 3 f l d) (i:Int):aM tab cD d (.int .i64 i)=if 0≤i then(l[i.toNat]?).map λp =>.aE (f p)else none:=
 by
  rcases h with⟨rfl,rfl⟩|⟨b,rfl⟩
  ·show none=_;simp
  ·rw[Hg];simp[mA]
@[simp] theorem za(a:D)(cs:List D):aC tab bW 0 (.aE (a::cs))=some (.aE (a::cs)):=id rfl
@[simp] theorem j7(o k f:Nat):aC tab bW 0 (.ptr o k f)=some (.ptr o k (f+0)):=id rfl
@[simp] theorem j6(b c d a:D)(cs:List D):aC tab aF 3 (.aE (b::c::d::a::cs))=some (.aE (a::cs)):=id rfl
@[simp] theorem oo(o k f:Nat):aC tab aF 3 (.ptr o k f)=some (.ptr o k (f+3)):=id rfl
theorem we{h:Z}{o T V kk off:Nat}{rows:List (List D)}{row:List D}{v:D}(d:h[o]?=some (.row T V rows))(e:rows[kk]?=some row)(g:(bT v).length=1)(c:off+1≤row.length)(b:v.eZ=true){a:Type}{f:Z→Option a}{Q:a→Prop}
  (k:∀h',h'[o]?=some (.row T V (rows.set kk (dF row off (bT v))))→bY o h h'→Wp (f h') Q):Wp ((cE tab h cD (.ptr o kk off) v).bind f) Q:=
 by rw[show cE tab h cD (.ptr o kk off) v=il 1 h (.ptr o kk off) v from rfl];exact kG d e g c b k
@[simp] theorem z3(h:Z)(o k f:Nat):aA tab h aP (.ptr o k f)=(h.row o k).bind λrow=>mj 11 (row.drop f):=by show(match h.row o k with|some row=>_|none=>none)=_;cases h.row o k<;>rfl
theorem wa{h:Z}{n0:Nat}(e:n0≤h.length){rows:List (List D)}{x y:D}(g:Own h n0 aP 11 rows x){ys:List (List D)}(l:g9 h 11 y=some ys)(d:(rows.length+ys.length)*144≤140737488355328){c:Type}{f:D × Z→Option c}{Q:c→Prop}
  (k:∀b h',Own h' n0 aP 11 (rows++ys) b→h.length≤h'.length→(∀a,a<n0→h'[a]?=h[a]?)→(∀a,a<h.length→¬x.eN a→h'[a]?=h[a]?)→(∀a,b.eN a→x.eN a∨h.length≤a)→Wp (f (b,h')) Q):Wp ((dH tab h bD bD x y).bind f) Q:=
 qg (T:=tab) (i:=mm) (j:=jL) (id rfl) (id rfl) (id rfl) (by decide) e g l (kB d (by omega)) k
@[simp] theorem yg(n0:Int):bF tab aN 1 [0] [.int .i64 n0]=some (.sl 1 true [[.int .i64 n0]]):=id rfl
theorem BH{h:Z}{n0:Nat}(e:n0≤h.length){rows:List (List D)}{x y:D}(g:Own h n0 W 1 rows x){ys:List (List D)}(l:g9 h 1 y=some ys)(d:(rows.length+ys.length)*8≤140737488355328){c:Type}{f:D × Z→Option c}{Q:c→Prop}
  (k:∀b h',Own h' n0 W 1 (rows++ys) b→h.length≤h'.length→(∀a,a<n0→h'[a]?=h[a]?)→(∀a,a<h.length→¬x.eN a→h'[a]?=h[a]?)→(∀a,b.eN a→x.eN a∨h.length≤a)→Wp (f (b,h')) Q):Wp ((dH tab h aN aN x y).bind f) Q:=
 qg (T:=tab) (i:=kn) (j:=eO) (id rfl) (id rfl) (id rfl) (by decide) e g l (kB d (by omega)) k
@[simp] theorem kg {a:Type} {f:a→List D} {l:List a} {d:D} (h:aV 11 f l d):aX tab bD d=some (.int .i64 l.length):=
 by
  rcases h with⟨rfl,rfl⟩|⟨b,rfl⟩
  ·rfl
  ·show some (D.int .i64 ((l.map f).length:Nat))=_;simp
theorem HI{h:Z}{n0 e z:Nat}{rows:List (List D)}{d:D}(a:Own h n0 e z rows d):aX tab bD d=some (.int .i64 rows.length):=by
 rcases a with⟨rfl,rfl⟩|⟨b,_,rfl,_⟩<;>rfl
@[simp] theorem Hf(f:Bool)(rows:List (List D))(i:Int):aM tab bD (.sl 11 f rows) (.int .i64 i)=if 0≤i then(rows[i.toNat]?).map .aE else none:=by show(if 11=11∧0≤i then(match rows[i.toNat]? with|some b=>some (D.aE b)|none=>none)else none)=_;by_cases a:0≤i<;>simp[a]<;>cases rows[i.toNat]?<;>rfl
@[simp] theorem nb {a:Type} {f:a→List D} {l:List a} {d:D} (h:aV 11 f l d) (i:Int):aM tab bD d (.int .i64 i)=if 0≤i then(l[i.toNat]?).map λp =>.aE (f p)else none:=
 by
  rcases h with⟨rfl,rfl⟩|⟨b,rfl⟩
  ·show none=_;simp
  ·rw[Hf];simp[mA]
@[simp] theorem oT {a:Type} {f:a→List D} {l:List a} {d:D} (h:aV 1 f l d):aX tab aN d=some (.int .i64 l.length):=
 by
  rcases h with⟨rfl,rfl⟩|⟨b,rfl⟩
  ·rfl
  ·show some (D.int .i64 ((l.map f).length:Nat))=_;simp
@[simp] theorem z6(z o r n:Nat):aX tab aN (.S z o r n)=some (.int .i64 n):=id rfl
@[simp] theorem HH:aX tab aN .J=some (.int .i64 0):=id rfl
@[simp] theorem zK(f:Bool)(rows:List (List D))(i:Int):aM tab aN (.sl 1 f rows) (.int .i64 i)=if 0≤i then(rows[i.toNat]?).map .aE else none:=by show(if 1=1∧0≤i then(match rows[i.toNat]? with|some b=>some (D.aE b)|none=>none)else none)=_;by_cases a:0≤i<;>simp[a]<;>cases rows[i.toNat]?<;>rfl
@[simp] theorem k0(o r n:Nat)(i:Int):aM tab aN (.S 1 o r n) (.int .i64 i)=if 0≤i∧i<n then some (.ptr o (r+i.toNat) 0)else none:=by show(if 1=1∧0≤i∧i<n then some (D.ptr o (r+i.toNat) 0)else none)=_;simp
@[simp] theorem oQ {a:Type} {f:a→List D} {l:List a} {d:D} (h:aV 1 f l d) (i:Int):aM tab aN d (.int .i64 i)=if 0≤i then(l[i.toNat]?).map λp =>.aE (f p)else none:=
 by
  rcases h with⟨rfl,rfl⟩|⟨b,rfl⟩
  ·show none=_;simp
  ·rw[zK];simp[mA]
@[simp] theorem LN(o k f:Nat):aC tab gZ 1 (.ptr o k f)=some (.ptr o k (f+1)):=id rfl
@[simp] theorem LM(o k f:Nat):aC tab gZ 0 (.ptr o k f)=some (.ptr o k (f+0)):=id rfl
@[simp] theorem LV(h:Z)(o k f:Nat):aA tab h hC (.ptr o k f)=(h.row o k).bind λrow=>(row.drop f).head?:=by show(match h.row o k with|some row=>_|none=>none)=_;cases h.row o k<;>rfl
@[simp] theorem LU(f:Bool)(rows:List (List D))(i:Int):aM tab hC (.sl 1 f rows) (.int .i64 i)=if 0≤i then(rows[i.toNat]?).map .aE else none:=by show(if 1=1∧0≤i then(match rows[i.toNat]? with|some b=>some (D.aE b)|none=>none)else none)=_;by_cases a:0≤i<;>simp[a]<;>cases rows[i.toNat]?<;>rfl
@[simp] theorem u5(o r n:Nat)(i:Int):aM tab hC (.S 1 o r n) (.int .i64 i)=if 0≤i∧i<n then some (.ptr o (r+i.toNat) 0)else none:=by show(if 1=1∧0≤i∧i<n then some (D.ptr o (r+i.toNat) 0)else none)=_;simp
@[simp] theorem z0(c:D)(cs:List D)(h:Z):aA tab h fa (.aE (c::cs))=some c:=id rfl
@[simp] theorem HE(h:Z)(o k f:Nat):aA tab h fa (.ptr o k f)=(h.row o k).bind λrow=>(row.drop f).head?:=by show(match h.row o k with|some row=>_|none=>none)=_;cases h.row o k<;>rfl
@[simp] theorem Lq(k:IntKind)(n:Int):hN tab fa W (.int k n)=some (.int .i64 (IntKind.wrap .i64 n)):=id rfl
@[simp] theorem yb(n0:Int)(a:Int):eE tab bW [0,1] [.int .i64 n0,.int .i64 a]=some (.agg [.int .i64 n0,.int .i64 a,.str []]):=id rfl
@[simp] theorem ye(a b c:D):bF tab cD 1 [0] [.agg [a,b,c]]=some (.sl 3 true [[a,b,c]]):=id rfl
@[simp] theorem CT(a:List UInt8)(b c d e f g h i j k:D):eE tab aP [0,1] [.str a,.agg [b,c,d,e,f,g,h,i,j,k]]=some (.agg [.str a,b,c,d,e,f,g,h,i,j,k]):=id rfl
theorem pH{h:Z}{o T V kk off:Nat}{rows:List (List D)}{row:List D}{v:D}(d:h[o]?=some (.row T V rows))(e:rows[kk]?=some row)(g:(bT v).length=10)(c:off+10≤row.length)(b:v.eZ=true){a:Type}{f:Z→Option a}{Q:a→Prop}
  (k:∀h',h'[o]?=some (.row T V (rows.set kk (dF row off (bT v))))→bY o h h'→Wp (f h') Q):Wp ((cE tab h aF (.ptr o kk off) v).bind f) Q:=
 by rw[show cE tab h aF (.ptr o kk off) v=il 10 h (.ptr o kk off) v from rfl];exact kG d e g c b k
@[simp] theorem HD(h:Z)(o k f:Nat):aA tab h aF (.ptr o k f)=(h.row o k).bind λrow=>mj 10 (row.drop f):=by show(match h.row o k with|some row=>_|none=>none)=_;cases h.row o k<;>rfl
@[simp] theorem E1(a:D)(cs:List D):aC tab aF 0 (.aE (a::cs))=some (.aE (a::cs)):=id rfl
@[simp] theorem LG(o k f:Nat):aC tab aF 0 (.ptr o k f)=some (.ptr o k (f+0)):=id rfl
@[simp] theorem CR(n0:Int)(a:Int)(b:Int)(c:Int):eE tab aF [0,1,2,3] [.int .i64 n0,.int .i64 a,.int .i64 b,.int .i64 c]=some (.agg [.int .i64 n0,.int .i64 a,.int .i64 b,.int .i64 c,.J,.int .i64 0,.int .i64 0,.str [],.str [],.J]):=id rfl
@[simp] theorem zb(b a:D)(cs:List D):aC tab bW 1 (.aE (b::a::cs))=some (.aE (a::cs)):=id rfl
@[simp] theorem j8(o k f:Nat):aC tab bW 1 (.ptr o k f)=some (.ptr o k (f+1)):=id rfl
def oX:List (List UInt8):=[[115,97,109,112,108,101],[116,111,111,45,108,111,110,103],[114,49]]
@[simp] theorem IG:bF tab cW 3 [0,1,2] [.str [115,97,109,112,108,101],.str [116,111,111,45,108,111,110,103],.str [114,49]]=some (.sl 1 true (oX.map λs=>[.str s])):=id rfl
@[simp] theorem jC(c:D)(cs:List D)(h:Z):aA tab h bE (.aE (c::cs))=some c:=id rfl
@[simp] theorem kf(h:Z)(o k f:Nat):aA tab h bE (.ptr o k f)=(h.row o k).bind λrow=>(row.drop f).head?:=by show(match h.row o k with|some row=>_|none=>none)=_;cases h.row o k<;>rfl
@[simp] theorem gW(s:List UInt8):aX tab bE (.str s)=some (.int .i64 s.length):=id rfl
@[simp] theorem LH(o k f:Nat):aC tab aF 5 (.ptr o k f)=some (.ptr o k (f+5)):=id rfl
@[simp] theorem LI(o k f:Nat):aC tab aF 6 (.ptr o k f)=some (.ptr o k (f+6)):=id rfl
@[simp] theorem LJ(o k f:Nat):aC tab aF 7 (.ptr o k f)=some (.ptr o k (f+7)):=id rfl
@[simp] theorem LK(o k f:Nat):aC tab aF 8 (.ptr o k f)=some (.ptr o k (f+8)):=id rfl
@[simp] theorem LL(o k f:Nat):aC tab aF 9 (.ptr o k f)=some (.ptr o k (f+9)):=id rfl
@[simp] theorem k4(c:D)(cs:List D)(h:Z):aA tab h bI (.aE (c::cs))=some c:=id rfl
@[simp] theorem LW(h:Z)(o k f:Nat):aA tab h bI (.ptr o k f)=(h.row o k).bind λrow=>(row.drop f).head?:=by show(match h.row o k with|some row=>_|none=>none)=_;cases h.row o k<;>rfl
@[simp] theorem je {a:Type} {f:a→List D} {l:List a} {d:D} (h:aV 2 f l d):aX tab bI d=some (.int .i64 l.length):=
 by
  rcases h with⟨rfl,rfl⟩|⟨b,rfl⟩
  ·rfl
  ·show some (D.int .i64 ((l.map f).length:Nat))=_;simp
@[simp] theorem z5(z o r n:Nat):aX tab bI (.S z o r n)=some (.int .i64 n):=id rfl
@[simp] theorem yf: bF tab aN 0 [] []=some (.sl 1 true []):=id rfl
@[simp] theorem vd(h:Z)(o k f:Nat):aA tab h aN (.ptr o k f)=(h.row o k).bind λrow=>(row.drop f).head?:=by show(match h.row o k with|some row=>_|none=>none)=_;cases h.row o k<;>rfl
def ng:List Int:=[1,1,2,5040]
@[simp] theorem H3:bF tab aN 4 [0,1,2,3] [.int .i64 1,.int .i64 1,.int .i64 2,.int .i64 5040]=some (.sl 1 true (ng.map λn=>[.int .i64 n])):=id rfl
def nh:List (List UInt8):=[[],[116,49],[116,50],[105,100]]
@[simp] theorem H4:bF tab cW 4 [0,1,2,3] [.str [],.str [116,49],.str [116,50],.str [105,100]]=some (.sl 1 true (nh.map λs=>[.str s])):=id rfl
def ni:List (List UInt8):=[[109,97,105,110],[97,117,100,105,116]]
@[simp] theorem H5:bF tab cW 2 [0,1] [.str [109,97,105,110],.str [97,117,100,105,116]]=some (.sl 1 true (ni.map λs=>[.str s])):=id rfl
@[simp] theorem CS (n0:Int) (c:Int) (d:Int) (e:Int) (f:Int) (g:List UInt8) (h:List UInt8) (b:D) (j:b.one=true):eE tab aF [0,1,2,5,6,7,8,9] [.int .i64 n0,.int .i64 c,.int .i64 d,.int .i64 e,.int .i64 f,.str g,.str h,b]=some (.agg [.int .i64 n0,.int .i64 c,.int .i64 d,.int .i64 0,.J,.int .i64 e,.int .i64 f,.str g,.str h,b]):=by
 have a:=ns j;refine sL (T:=tab) (i:=rC) (fs:=[(3,0,1),(3,1,1),(3,2,1),(3,3,1),(33,4,1),(3,5,1),(3,6,1),(9,7,1),(9,8,1),(34,9,1)]) (id rfl) (id rfl) ?_;rw[show rC.zero=[.int .i64 0,.int .i64 0,.int .i64 0,.int .i64 0,.J,.int .i64 0,.int .i64 0,.str [],.str [],.J]from id rfl];rw[ka (off:=0) (V:=1) (id rfl) (id rfl) (by simp[dF,j2,j3,j1,j0]) (id rfl)];rw[ka (off:=1) (V:=1) (id rfl) (id rfl) (by simp[dF,j2,j3,j1,j0]) (id rfl)];rw[ka (off:=2) (V:=1) (id rfl) (id rfl) (by simp[dF,j2,j3,j1,j0]) (id rfl)];rw[ka (off:=5) (V:=1) (id rfl) (id rfl) (by simp[dF,j2,j3,j1,j0]) (id rfl)];rw[ka (off:=6) (V:=1) (id rfl) (id rfl) (by simp[dF,j2,j3,j1,j0]) (id rfl)];rw[ka (off:=7) (V:=1) (id rfl) (id rfl) (by simp[dF,j2,j3,j1,j0]) (id rfl)];rw[ka (off:=8) (V:=1) (id rfl) (id rfl) (by simp[dF,j2,j3,j1,j0]) (id rfl)];rw[ka (off:=9) (V:=1) (id rfl) (by rw[a.1];rfl) (by simp[dF,j2,j3,j1,j0]) a.2,a.1];exact id rfl
@[simp] theorem HF(h:Z)(o k f:Nat):aA tab h bW (.ptr o k f)=(h.row o k).bind λrow=>mj 3 (row.drop f):=by show(match h.row o k with|some row=>_|none=>none)=_;cases h.row o k<;>rfl
theorem BK{h:Z}{o T V kk off:Nat}{rows:List (List D)}{row:List D}{v:D}(d:h[o]?=some (.row T V rows))(e:rows[kk]?=some row)(g:(bT v).length=3)(c:off+3≤row.length)(b:v.eZ=true){a:Type}{f:Z→Option a}{Q:a→Prop}
  (k:∀h',h'[o]?=some (.row T V (rows.set kk (dF row off (bT v))))→bY o h h'→Wp (f h') Q):Wp ((cE tab h bW (.ptr o kk off) v).bind f) Q:=
 by rw[show cE tab h bW (.ptr o kk off) v=il 3 h (.ptr o kk off) v from rfl];exact kG d e g c b k
@[simp] theorem HL {a:Type} {f:a→List D} {l:List a} {d:D} (h:aV 1 f l d):aX tab cW d=some (.int .i64 l.length):=
 by
  rcases h with⟨rfl,rfl⟩|⟨b,rfl⟩
  ·rfl
  ·show some (D.int .i64 ((l.map f).length:Nat))=_;simp
@[simp] theorem HG(z:Nat)(f:Bool)(rows:List (List D)):aX tab cW (.sl z f rows)=some (.int .i64 rows.length):=id rfl
@[simp] theorem zL(f:Bool)(rows:List (List D))(i:Int):aM tab cW (.sl 1 f rows) (.int .i64 i)=if 0≤i then(rows[i.toNat]?).map .aE else none:=by show(if 1=1∧0≤i then(match rows[i.toNat]? with|some b=>some (D.aE b)|none=>none)else none)=_;by_cases a:0≤i<;>simp[a]<;>cases rows[i.toNat]?<;>rfl
@[simp] theorem Hj {a:Type} {f:a→List D} {l:List a} {d:D} (h:aV 1 f l d) (i:Int):aM tab cW d (.int .i64 i)=if 0≤i then(l[i.toNat]?).map λp =>.aE (f p)else none:=
 by
  rcases h with⟨rfl,rfl⟩|⟨b,rfl⟩
  ·show none=_;simp
  ·rw[zL];simp[mA]
@[simp] theorem LF(b c a:D)(cs:List D):aC tab bW 2 (.aE (b::c::a::cs))=some (.aE (a::cs)):=id rfl
@[simp] theorem j9(o k f:Nat):aC tab bW 2 (.ptr o k f)=some (.ptr o k (f+2)):=id rfl
@[simp] theorem Lp(a d:Int)(b e:Int)(c f:List UInt8):U tab .neq bW (.agg [.int .i64 a,.int .i64 b,.str c]) (.agg [.int .i64 d,.int .i64 e,.str f])=some (.bool (!(a==d&&(b==e&&(c==f&&true))))):=id rfl
@[simp] theorem Hh(f:Bool)(rows:List (List D))(i:Int):aM tab bI (.sl 2 f rows) (.int .i64 i)=if 0≤i then(rows[i.toNat]?).map .aE else none:=by show(if 2=2∧0≤i then(match rows[i.toNat]? with|some b=>some (D.aE b)|none=>none)else none)=_;by_cases a:0≤i<;>simp[a]<;>cases rows[i.toNat]?<;>rfl
@[simp] theorem zN(o r n:Nat)(i:Int):aM tab bI (.S 2 o r n) (.int .i64 i)=if 0≤i∧i<n then some (.ptr o (r+i.toNat) 0)else none:=by show(if 2=2∧0≤i∧i<n then some (D.ptr o (r+i.toNat) 0)else none)=_;simp
@[simp] theorem qV {a:Type} {f:a→List D} {l:List a} {d:D} (h:aV 2 f l d) (i:Int):aM tab bI d (.int .i64 i)=if 0≤i then(l[i.toNat]?).map λp =>.aE (f p)else none:=
 by
  rcases h with⟨rfl,rfl⟩|⟨b,rfl⟩
  ·show none=_;simp
  ·rw[Hh];simp[mA]
@[simp] theorem HC(h:Z)(o k f:Nat):aA tab h bG (.ptr o k f)=(h.row o k).bind λrow=>mj 2 (row.drop f):=by show(match h.row o k with|some row=>_|none=>none)=_;cases h.row o k<;>rfl
@[simp] theorem Lo(a c:List UInt8)(b d:List UInt8):U tab .neq bG (.agg [.str a,.str b]) (.agg [.str c,.str d])=some (.bool (!(a==c&&(b==d&&true)))):=id rfl
def jf:List (List UInt8):=[[97],[105,100],[108,101,118,101,108],[117,115,101,114]]
@[simp] theorem H6:jf.length=4:=id rfl
@[simp] theorem H7:bF tab cW 4 [0,1,2,3] [.str [97],.str [105,100],.str [108,101,118,101,108],.str [117,115,101,114]]=some (.sl 1 true (jf.map λs=>[.str s])):=id rfl
def nj:List (List UInt8):=[[],[49],[105,110,102,111],[119,97,114,110],[97,110,110],[50,46,53,48],[116,114,117,101],[116,49]]
@[simp] theorem H8:bF tab cW 8 [0,1,2,3,4,5,6,7] [.str [],.str [49],.str [105,110,102,111],.str [119,97,114,110],.str [97,110,110],.str [50,46,53,48],.str [116,114,117,101],.str [116,49]]=some (.sl 1 true (nj.map λs=>[.str s])):=id rfl
@[simp] theorem CQ(a:List UInt8)(b:List UInt8):eE tab bG [0,1] [.str a,.str b]=some (.agg [.str a,.str b]):=id rfl
@[simp] theorem CZ(a b:D):bF tab bI 1 [0] [.agg [a,b]]=some (.sl 2 true [[a,b]]):=id rfl
theorem K6{h:Z}{n0:Nat}(e:n0≤h.length){rows:List (List D)}{x y:D}(g:Own h n0 bG 2 rows x){ys:List (List D)}(l:g9 h 2 y=some ys)(d:(rows.length+ys.length)*32≤140737488355328){c:Type}{f:D × Z→Option c}{Q:c→Prop}
  (k:∀b h',Own h' n0 bG 2 (rows++ys) b→h.length≤h'.length→(∀a,a<n0→h'[a]?=h[a]?)→(∀a,a<h.length→¬x.eN a→h'[a]?=h[a]?)→(∀a,b.eN a→x.eN a∨h.length≤a)→Wp (f (b,h')) Q):Wp ((dH tab h bI bI x y).bind f) Q:=
 qg (T:=tab) (i:=rB) (j:=pA) (id rfl) (id rfl) (id rfl) (by decide) e g l (kB d (by omega)) k
theorem Lf{h:Z}{o T V kk off:Nat}{rows:List (List D)}{row:List D}{v:D}(d:h[o]?=some (.row T V rows))(e:rows[kk]?=some row)(g:(bT v).length=1)(c:off+1≤row.length)(b:v.eZ=true){a:Type}{f:Z→Option a}{Q:a→Prop}
  (k:∀h',h'[o]?=some (.row T V (rows.set kk (dF row off (bT v))))→bY o h h'→Wp (f h') Q):Wp ((cE tab h bE (.ptr o kk off) v).bind f) Q:=
 by rw[show cE tab h bE (.ptr o kk off) v=il 1 h (.ptr o kk off) v from rfl];exact kG d e g c b k
theorem BJ{h:Z}{o T V kk off:Nat}{rows:List (List D)}{row:List D}{v:D}(d:h[o]?=some (.row T V rows))(e:rows[kk]?=some row)(g:(bT v).length=2)(c:off+2≤row.length)(b:v.eZ=true){a:Type}{f:Z→Option a}{Q:a→Prop}
  (k:∀h',h'[o]?=some (.row T V (rows.set kk (dF row off (bT v))))→bY o h h'→Wp (f h') Q):Wp ((cE tab h bG (.ptr o kk off) v).bind f) Q:=
 by rw[show cE tab h bG (.ptr o kk off) v=il 2 h (.ptr o kk off) v from rfl];exact kG d e g c b k
@[simp] theorem E3(o k f:Nat):aC tab bG 0 (.ptr o k f)=some (.ptr o k (f+0)):=id rfl
@[simp] theorem LD(b a:D)(cs:List D):aC tab bG 1 (.aE (b::a::cs))=some (.aE (a::cs)):=id rfl
def H9:List (List UInt8):=[[49],[50],[57]]
@[simp] theorem Ia:bF tab cW 3 [0,1,2] [.str [49],.str [50],.str [57]]=some (.sl 1 true (H9.map λs=>[.str s])):=id rfl
def Ib:List (List UInt8):=[[48],[53]]
@[simp] theorem Ic:bF tab cW 2 [0,1] [.str [48],.str [53]]=some (.sl 1 true (Ib.map λs=>[.str s])):=id rfl
def Ie:List (List UInt8):=[[49],[50]]
@[simp] theorem Ig:bF tab cW 2 [0,1] [.str [49],.str [50]]=some (.sl 1 true (Ie.map λs=>[.str s])):=id rfl
def Ih:List (List UInt8):=[[105,110,102,111],[119,97,114,110]]
@[simp] theorem Ii:bF tab cW 2 [0,1] [.str [105,110,102,111],.str [119,97,114,110]]=some (.sl 1 true (Ih.map λs=>[.str s])):=id rfl
def Ij:List (List UInt8):=[[55],[116,49],[116,50]]
@[simp] theorem Ik:bF tab cW 3 [0,1,2] [.str [55],.str [116,49],.str [116,50]]=some (.sl 1 true (Ij.map λs=>[.str s])):=id rfl
def Il:List (List UInt8):=[[105,110,102,111],[119,97,114,110],[100,101,98,117,103]]
@[simp] theorem Im:bF tab cW 3 [0,1,2] [.str [105,110,102,111],.str [119,97,114,110],.str [100,101,98,117,103]]=some (.sl 1 true (Il.map λs=>[.str s])):=id rfl
def Io:List (List UInt8):=[[97,110,110],[98,111,98]]
@[simp] theorem Ip:bF tab cW 2 [0,1] [.str [97,110,110],.str [98,111,98]]=some (.sl 1 true (Io.map λs=>[.str s])):=id rfl
def Iq:List (List UInt8):=[[49,48,46,50],[49,48,46,51],[55,46,55]]
@[simp] theorem Ir:bF tab cW 3 [0,1,2] [.str [49,48,46,50],.str [49,48,46,51],.str [55,46,55]]=some (.sl 1 true (Iq.map λs=>[.str s])):=id rfl
def Is:List (List UInt8):=[[102],[103]]
@[simp] theorem Iu:bF tab cW 2 [0,1] [.str [102],.str [103]]=some (.sl 1 true (Is.map λs=>[.str s])):=id rfl
def Iv:List (List UInt8):=[[40,49,41],[40,50,50,41]]
@[simp] theorem Iw:bF tab cW 2 [0,1] [.str [40,49,41],.str [40,50,50,41]]=some (.sl 1 true (Iv.map λs=>[.str s])):=id rfl
def Ix:List (List UInt8):=[[97,110,110],[98,111,98],[101,118,101]]
@[simp] theorem Iy:bF tab cW 3 [0,1,2] [.str [97,110,110],.str [98,111,98],.str [101,118,101]]=some (.sl 1 true (Ix.map λs=>[.str s])):=id rfl
def Iz:List (List UInt8):=[[105,110],[111,117,116]]
@[simp] theorem IA:bF tab cW 2 [0,1] [.str [105,110],.str [111,117,116]]=some (.sl 1 true (Iz.map λs=>[.str s])):=id rfl
def IB:List (List UInt8):=[[49],[45,50,48],[116,114,117,101]]
@[simp] theorem IC:bF tab cW 3 [0,1,2] [.str [49],.str [45,50,48],.str [116,114,117,101]]=some (.sl 1 true (IB.map λs=>[.str s])):=id rfl
def ID:List (List UInt8):=[[111,107],[102,97,105,108,101,100]]
@[simp] theorem IE:bF tab cW 2 [0,1] [.str [111,107],.str [102,97,105,108,101,100]]=some (.sl 1 true (ID.map λs=>[.str s])):=id rfl
@[simp] theorem CY: bF tab bI 0 [] []=some (.sl 2 true []):=id rfl
def Ai:List (List UInt8):=[[97],[98],[32],[49],[117,115,101,114],[61],[34],[55],[46],[44],[120,32,121],[49,48,46,50],[45],[195,169],[91],[105,100],[9],[58]]
@[simp] theorem IF:bF tab cW 18 [0,1,2,3,4,5,6,7,8,9,10,11,12,13,14,15,16,17] [.str [97],.str [98],.str [32],.str [49],.str [117,115,101,114],.str [61],.str [34],.str [55],.str [46],.str [44],.str [120,32,121],.str [49,48,46,50],.str [45],.str [195,169],.str [91],.str [105,100],.str [9],.str [58]]=some (.sl 1 true (Ai.map λs=>[.str s])):=id rfl
theorem BL{h:Z}{o T V kk off:Nat}{rows:List (List D)}{row:List D}{v:D}(d:h[o]?=some (.row T V rows))(e:rows[kk]?=some row)(g:(bT v).length=1)(c:off+1≤row.length)(b:v.eZ=true){a:Type}{f:Z→Option a}{Q:a→Prop}
  (k:∀h',h'[o]?=some (.row T V (rows.set kk (dF row off (bT v))))→bY o h h'→Wp (f h') Q):Wp ((cE tab h aN (.ptr o kk off) v).bind f) Q:=
 by rw[show cE tab h aN (.ptr o kk off) v=il 1 h (.ptr o kk off) v from rfl];exact kG d e g c b k
@[simp] theorem ya (b:D) (c:b.one=true):eE tab dM [1] [b]=some (.agg [.J,b]):=by
 have a:=ns c;refine sL (T:=tab) (i:=rA) (fs:=[(25,0,1),(25,1,1)]) (id rfl) (id rfl) ?_;rw[show rA.zero=[.J,.J]from id rfl];rw[ka (off:=1) (V:=1) (id rfl) (by rw[a.1];rfl) (by simp[dF,j2,j3,j1,j0]) a.2,a.1];exact id rfl
@[simp] theorem zD(d:D)(xs:List D)(h:Z):fK tab R "Len" (.iface iu d::xs) h=R oE (d::xs) h:=by kernel_rfl
@[simp] theorem oN(d:D)(xs:List D)(h:Z):fK tab R "Less" (.iface iu d::xs) h=R tA (d::xs) h:=by kernel_rfl
@[simp] theorem Hb(d:D)(xs:List D)(h:Z):fK tab R "Pop" (.iface iu d::xs) h=R qI (d::xs) h:=by kernel_rfl
@[simp] theorem Hc(d:D)(xs:List D)(h:Z):fK tab R "Push" (.iface iu d::xs) h=R qJ (d::xs) h:=by kernel_rfl
@[simp] theorem oO(d:D)(xs:List D)(h:Z):fK tab R "Swap" (.iface iu d::xs) h=R oF (d::xs) h:=by kernel_rfl
end Go.Proofs.YtinlnkhheafjaaaDoor
