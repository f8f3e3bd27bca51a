/- Part 6 of the texts that the theorem needs: an interpreter on data, proved sound; the functions on data; laws about them. -/
import Derived.Test.YtinlnkhheafjaaaGreatDoorM5
import Derived.Test.YtinlnkhheafjaaaGreatDoorM3
import Derived.RangeFuncNested
import Derived.RangeFuncLeaves
import Derived.Laws.Externs
import Derived.Shelf.SlSortCmp.WholeK
import Derived.Sort.OwnSorted
import Derived.Test.YtinlnkhheafjaaaGreatDoorChecked
import Derived.RangeFuncBox
import Derived.Shelf.Abstract
import Derived.WalkKit
import Derived.OwnWalkIn
import Derived.TacticsInMore
import Derived.LoopNIn
import Derived.LoopIn
import Derived.KernelRfl
import Derived.Carry
import Derived.Maps.OwnIn
import Derived.Sort.MapsRangeIn
import Derived.Shelf.SlSortCmp.NoneTotal
import Derived.Shelf.SlicesG.Cmp
set_option linter.unusedSimpArgs false
set_option linter.unusedVariables false
set_option linter.unnecessarySimpa false
namespace Go.Pi
open Go.Eng
def JG:D→Bool
 |.aB=>true
 |.sl _ _ _=>true
 |_=>false
def LR:D→Int→D
 |.sl _ _ rows,a =>.sl 1 false (rows.drop a.toNat)
 |d,_=>d
def p8:D→Option Nat
 |.aB=>some 0
 | .sl 1 _ rows=>match oJ rows with
  |some _=>some rows.length
  |none=>none
 |_=>none
def uq(R:dP)(f:Nat)(d:D)(b:Nat):Nat→Int→Option (List (List D × Int))
 |0,_=>none
 | k+1,a=>match R f [LR d a] []with
  |some (.bZ [.agg [.int .i64 c,y,z],.int .i64 n,.int .i64 e],[])=>if JG y=true∧JG z=true then(if e=0 then(if 0<n∧a+n≤b then(uq R f d b k (a+n)).map (([.int .i64 c,y,z],a+n) :: ·)else none)else some [])else none
  |_=>none
def yS(R:dP)(b:Nat):List D→Option (List (List D × Int))
 | [d]=>match p8 d with
  |some a=>if a≤10000000000 then uq R b d a (a+1) 0 else none
  |none=>none
 |_=>none
def LX(R:dP)(b:Nat)(args:List D)(h:J):Option (D × J):=(yS R b args).bind λa=>some (if a=[]then .aB else .sl 1 false (a.map λc=>[.int .i64 c.2]),h)
end Go.Pi
namespace Go.Eng
abbrev uZ:=@KeepsOthers.setCell
end Go.Eng
namespace Go.Pi
open Go.Eng Go.RowKit
structure gF (L:Nat→Prop) (W W':World):Prop where
 size:W.heap.size≤W'.heap.size
 cell:∀b i v,¬L b→W.cell? ⟨b,i,none⟩=some v→W'.cell? ⟨b,i,none⟩=some v
theorem gF.refl(b:Nat→Prop)(a:World):gF b a a:=⟨aX _,λ_ _ _ _ c=>c⟩
theorem gF.trans{a:Nat→Prop}{A B C:World}(h:gF a A B)(k:gF a B C):gF a A C:=⟨hX h.size k.size,λb d e c f=>k.cell b d e c (h.cell b d e c f)⟩
theorem gF.below{e:Nat→Prop}{a b:World}(h:Below a.heap.size a b):gF e a b:=⟨h.size,λc g i _ d=>by
 have f:c<a.heap.size:=sV a _ d;rw[oF (w:=a) (h.block c f)];exact d⟩
theorem gF.putObj{c:Nat→Prop}{a:World}{l:Nat}{o:Obj}(h:Obj)(f:a.heap[l]?=some o)(i:o.isCells=false):gF c a (a.putObj l h):=⟨by simp,λd j k _ b=>by
 have g:d≠l:=λe=>by
  subst e;unfold World.cell? at b;rw[f]at b;cases o<;>simp_all [Obj.isCells]
 rw[oF (w:=a) (World.putObj_heap_other g)];exact b⟩
theorem gF.alloc{b:Nat→Prop}(a:World)(o:Obj):gF b a (a.alloc o) :=.below ((Below.refl _ a).alloc (aX _) o)
theorem gF.set{c:Nat→Prop}(b:World)(a:Addr)(v:Value)(h:c a.block):gF c b (b.setCell a v):=⟨(uZ b a v).size,λd i j e g=>by
 rw[oF (w:=b) (Below.heap_setCell b a v d λf=>e (f▸h))];exact g⟩
theorem gF.drew{b:Nat→Prop}(a:World):gF b a a.drew:=⟨aX _,λ_ _ _ _ c=>c⟩
def Gh.off(L:Nat→Prop)(a:World):Gh:=⟨a,[],L⟩
theorem aM.move{g g':Gh}(E:∀(o:Nat) (m:Me),g.ms[o]?=some m→g'.ms[o]?=some m)(A:∀b,g.fz b→g'.fz b)(z:∀b i v,g.fz b→g.w.cell? ⟨b,i,none⟩=some v→g'.w.cell? ⟨b,i,none⟩=some v){v:Value}{d:D}(h:aM g v d):aM g' v d:=by
 induction h with
 |any v=>exact .any v
 |bU=>exact .bU
 |bool b=>exact .bool b
 |int ad n=>exact .int ad n
 |str ai=>exact .str ai
 |h9=>exact .h9
 |ptr o i ae m u=>exact .ptr o i ae m (E _ _ u)
 | aI b o l c B q e x a =>
  refine .aI b o l c (λf=>A _ (B f)) (λy d j=>?_) e a;exact z _ _ _ (B λs=>by subst s;cases j) (q y d j)
 |aB=>exact .aB
 | sl G n k aj L ah f Q r M T R p c q e x a =>
  refine .sl G n k aj L ah f Q r M T R (λF=>⟨(p F).1,A _ (p F).2⟩) c (λi ag C y d j=>?_) e a;exact z _ _ _ (p λs=>by subst s;cases C).2 (q i ag C y d j)
 |aO o af n k m u f P N r=>exact .aO o af n k m (E _ _ u) f P N r
 |jx=>exact .jx
 |fn K first H am al aa X ao an ac ab=>exact .fn K first H am al aa X ac ab
 |ko=>exact .ko
 |iface ak v d h a=>exact .iface ak v d a
 |agg c l t e x a=>exact .agg c l t e a
 |bZ c I t x a=>exact .bZ c I t a
 |raw v=>exact .raw _
theorem aM.bH{a:Nat→Prop}{c e:World}(i:gF a c e){v:Value}{d:D}(h:aM (Gh.off a c) v d):aM (Gh.off a e) v d:=
 aM.move (g:=Gh.off a c) (g':=Gh.off a e) (λ_ _ h=>h) (λf b=>⟨jq b.1 i.size,b.2⟩) (λf k v b j=>i.cell f k v b.2 j) h
variable {F:Fence} {n:Nat} {P:Program}
structure RX where
 k:Int
 p1:Option Addr
 l1:Nat
 c1:Nat
 p2:Option Addr
 l2:Nat
 c2:Nat
 d1:D
 d2:D
 at_:Int
def RX.val(x:RX):Value :=.agg #[.int .i64 x.k,.slice x.p1 x.l1 x.c1,.slice x.p2 x.l2 x.c2]
def RX.enc(x:RX):Array Value := #[.agg #[.int .i64 x.k,.slice x.p1 x.l1 x.c1,.slice x.p2 x.l2 x.c2],.int .i64 x.at_]
def RX.row(x:RX):List D:=[.int .i64 x.k,x.d1,x.d2]
def RX.LZ(x:RX):List D × Int:=(x.row,x.at_)
def RX.OK(a:Nat→Prop)(x:RX)(b:World):Prop:=aM (Gh.off a b) x.val (.agg x.row)
theorem RX.OK.bH{a:Nat→Prop}{x:RX}{b c:World}(h:x.OK a b)(k:gF a b c):x.OK a c:=aM.bH k h
def CB(a:World)(b:Nat)(cs:Array Value)(t:TypeId):Prop:=a.heap[b]?=some (.cells cs t (0,0))
theorem CB.below{a c:World}{b:Nat}{cs:Array Value}{t:TypeId}(h:CB a b cs t)(d:Below a.heap.size a c):CB c b cs t:=(d.block b (iI.1 h).1).trans h
theorem CB.grown{a c:World}{b:Nat}{cs:Array Value}{t:TypeId}(h:CB a b cs t){row:Option Nat}(d:a.grownBy c row)(e:∀r,row=some r→∃o:Obj,a.heap[r]?=some o∧o.isCells=false):CB c b cs t:=(grownBy_keeps_cells d e h rfl).trans h
theorem CB.put{a:World}{b:Nat}{cs:Array Value}{t:TypeId}(h:CB a b cs t){l:Nat}{o:Obj}(c:Obj)(e:a.heap[l]?=some o)(f:o.isCells=false):CB (a.putObj l c) b cs t:=h.grown (grownBy_putObj' a l c) λg d=>by cases d;exact⟨o,e,f⟩
theorem CB.alloc{a:World}{b:Nat}{cs:Array Value}{t:TypeId}(h:CB a b cs t)(o:Obj):CB (a.alloc o) b cs t:=h.below ((Below.refl _ a).alloc (aX _) o)
theorem CB.new(a:World)(cs:Array Value)(t:TypeId):CB (a.alloc (.cells cs t)) a.heap.size cs t:=World.alloc_heap_new a _
theorem CB.set{a:World}{b:Nat}{cs:Array Value}{t:TypeId}(h:CB a b cs t)(i:Nat)(v:Value):CB (a.setCell ⟨b,i,none⟩ v) b (cs.setIfInBounds i v) t:=by
 obtain⟨d,c⟩:=iI.1 h;show(a.heap.modify b _)[b]?=_;rw[nF (by rw[Array.size_modify];exact d),Array.getElem_modify_self,c];rfl
theorem CB.other{a:World}{b:Nat}{cs:Array Value}{t:TypeId}(h:CB a b cs t){c i:Nat}(v:Value)(d:b≠c):CB (a.setCell ⟨c,i,none⟩ v) b cs t:=(Below.heap_setCell a ⟨c,i,none⟩ v b d).trans h
theorem CB.lt{a:World}{b:Nat}{cs:Array Value}{t:TypeId}(h:CB a b cs t):b<a.heap.size:=(iI.1 h).1
theorem CB.cell{a:World}{b:Nat}{cs:Array Value}{t:TypeId}(h:CB a b cs t)(i:Nat):a.cell? ⟨b,i,none⟩=cs[i]?:=by
 unfold World.cell?;simp only[show a.heap[b]?=_ from h];simp
theorem CB.frozen{a:World}{b:Nat}{cs:Array Value}{t:TypeId}(h:CB a b cs t)(i:Nat):a.frozen? ⟨b,i,none⟩=false:=by
 unfold World.frozen?;simp only[show a.heap[b]?=_ from h];simp
theorem gF.grown{b:Nat→Prop}{a c:World}{row:Option Nat}(e:a.grownBy c row)(i:∀r,row=some r→b r):gF b a c:=⟨e.size,λd j k h f=>by
 rw[oF (w:=a) (e.block d (sV a _ f) λg=>h (i d g.symm))];exact f⟩
def HB(a:List RX):RX:=(a.getLast?).getD ⟨0,none,0,0,none,0,0,.aB,.aB,0⟩
def RX.cs(x:RX):Array Value := #[.int .i64 x.k,.slice x.p1 x.l1 x.c1,.slice x.p2 x.l2 x.c2]
structure KO (P:Program) (X:Cx) (R:dP) (fl fe fd te:FuncId):Prop where
 last:∀(L:Nat→Prop) (len:Nat) (w:World) (a:Option Addr) (m c:Nat) (d:D) (recs:List (List D × Int)),len≤10000000000→(∀b,L b→b<w.heap.size)→aM (Gh.off L w) (.slice a m c) d→p8 d=some len→fP (Gh.off L w) X.gl →
  uq R fd d len (len+1) 0=some recs→Calls P fl #[.slice a m c] w λe W'=>∃xs:List RX,xs.map RX.LZ=recs∧(∀x∈xs,x.OK L W')∧Below w.heap.size w W'∧e = .returned (.tuple #[(HB xs).val,.int .i64 (HB xs).at_])
 ends:∀ (L:Nat→Prop) (len:Nat) (w:World) (a:Option Addr) (m c:Nat) (d:D) (recs:List (List D × Int)),len≤10000000000→(∀ b,L b→b<w.heap.size)→aM (Gh.off L w) (.slice a m c) d→p8 d=some len→fP (Gh.off L w) X.gl →
  uq R fd d len (len+1) 0=some recs→Calls P fe #[.slice a m c] w λe W'=>∃v,e = .returned v∧W'.ownsRow (w.heap.size+2) te 1 v recs.length (recs.map λr =>.int .i64 r.2)∧(recs=[]→v = .slice none 0 0)∧Below w.heap.size w W'
theorem F5 {g:Gh} {v:Value} {d:D} {ac:Nat} (z:aM g v d) (f:p8 d=some ac):(∃a m c,v = .slice a m c)∧∀{g':Gh},(∀b,g.fz b→g'.fz b)→g'.w=g.w→aM g' v d:=by
 unfold p8 at f;split at f
 ·cases z;exact⟨⟨_,_,_,rfl⟩,λ_ _ =>.aB⟩
 ·rename_i t h;split at f
  ·rename_i k Q;cases z with
   | sl B n C ah t h M N I L T P u A H G i =>
    refine⟨⟨_,_,_,rfl⟩,λ{g'} K X =>.sl B n C 1 t h M N I L T P (λx=>⟨(u x).1,K _ (u x).2⟩) A (λp e l q d o=>by rw[X];exact H p e l q d o) G (λp e l q d o=>?_)⟩;have ab:∀(h:List (List D)) (k:List UInt8),oJ h=some k→∀e∈h,∀d∈e,∃s n,d = .int s n:=by
     intro h
     induction h with
     |nil=>intro k _ e i;cases i
     | cons ad af aa =>
      intro k j e i d f;unfold oJ at j;split at j
      ·rename_i r;cases r
      ·rename_i n ae r;injection r with E F;subst E;subst F;split at j
       ·rename_i ag R;rcases dW.1 i with rfl|i
        ·rw[gz.1 f];exact⟨_,_,rfl⟩
        ·exact aa _ R e i d f
       ·cases j
      ·cases j
    obtain⟨s,n,rfl⟩:=ab h k Q e (eS l) d (eS o);have y:=i p e l q _ o;generalize A p q=ai at y ⊢;cases y;exact .int s n
  ·cases f
 ·cases f
theorem TO{g:Gh}{h:J}(hi:Inv g h){v:Value}{d:D}{e:Nat}(c:aM g v d)(b:p8 d=some e):aM (Gh.off g.L g.w) v d:=(F5 c b).2 (λf a=>a) rfl
theorem rC{g:Gh}{c:World}(h:Below g.w.heap.size g.w c):cE g ⟨c,g.ms,g.L⟩ :=.ui ⟨h.os,h.tape,h.output,h.size,λ_ _ h=>h,λb a=>⟨⟨jq a.1 h.size,a.2⟩,h.block b a.1⟩⟩ rfl rfl λb a=>h.block b a
section
variable {X:Cx} {R:dP} {fl fe fd te:FuncId}
theorem L0{f:FuncId}(u:∀(q:Array Value) (w:World),(callFunc f q).run P w = .ok (.enter f q) w){args:List D}{s:List (List D × Int)}(i:yS R fd args=some s){g:Gh}{vs:List Value}{h:J}(hi:Inv g h)(x:fP (Gh.off g.L g.w) X.gl)(o:cC g vs args){p:D}
  (A:∀(j:Nat) (a:Option Addr) (m c:Nat) (d:D),j≤10000000000→(∀b,g.L b→b<g.w.heap.size)→aM (Gh.off g.L g.w) (.slice a m c) d→p8 d=some j→fP (Gh.off g.L g.w) X.gl→uq R fd d j (j+1) 0=some s→Calls P f #[.slice a m c] g.w λe k=>∃v,e = .returned v∧Below g.w.heap.size g.w k∧aM ⟨k,g.ms,g.L⟩ v p) :
  kJ P f vs g h p:=by
 unfold yS at i;split at i
 ·rename_i d;split at i
  ·rename_i j n;split at i
   ·rename_i y;cases o with
    | cons r o =>
     cases o;obtain⟨⟨a,m,c,rfl⟩,_⟩:=F5 r n;refine .inl ⟨u _ _,pH (A j a m c d y hi.L (TO hi r n) n x i) ?_⟩;rintro e k ⟨v,rfl,l,z⟩;exact⟨v,rfl,⟨k,g.ms,g.L⟩,rfl,rC l,hi.same (rC l) rfl rfl λb t=>l.block b t,z⟩
   ·cases i
  ·cases i
 ·cases i
theorem Gq(C:KO P X R fl fe fd te)(I:∀(t:Array Value) (w:World),(callFunc fe t).run P w = .ok (.enter fe t) w){args:List D}{h h':J}{d:D}(G:LX R fd args h=some (d,h')){g:Gh}{vs:List Value}(hi:Inv g h)(M:fP (Gh.off g.L g.w) X.gl)(f:cC g vs args):kJ P fe vs g h' d:=by
 obtain⟨j,q,k⟩:=iL.1 G;injection k with k;injection k with k A;subst k;subst A;refine L0 (X:=X) I q hi M f λai x aj y d aa B ah T K ae=>pH (C.ends _ ai _ x aj y d j aa B ah T K ae) ?_
 rintro al s ⟨ak,rfl,ad,H,E⟩;refine⟨ak,rfl,E,?_⟩;by_cases n:j=[]
 ·rw[bE n,H n];exact .aB
 ·rw [cH n];obtain⟨am,q|⟨o,z,p,rfl,an,v,F,ac,ao,ag⟩⟩:=ad
  ·exact absurd (fQ q.2) n
  ·have ab:o<s.heap.size:=(iI.1 v).1;have r:∀(a:Nat) (b:List D),(j.map λl=>[D.int .i64 l.2])[a]?=some b→∃m,b=[D.int .i64 m]∧p[a]?=some (.int .i64 m):=λa b hi=>by
    rw[dH]at hi;cases f:j[a]? with
    |none=>rw[f]at hi;cases hi
    | some l =>
     rw[f]at hi;injection hi with hi;refine⟨l.2,hi.symm,?_⟩;have ap:=(bO.1 f).1;have u:(p.toList.take (j.length*1))[a]?=some (.int .i64 l.2):=by rw[ag,dH,f];rfl
     rw[fF,bE (by omega)]at u;simpa using u
   refine .sl ⟨o,0,none⟩ j.length z 1 false _ (by simp) F (by simp[maxLen]at ac;omega) (λh=>by cases h) (by decide) (λb af=>?_) (λ_=>⟨rfl,ab,λN=>by have:=hi.L o N;omega⟩)
    (λa _=>((p[a]?).getD undef)) (λa b hi e d c=>?_) (λa b hi e d c=>?_) (λa b hi e d c=>?_)
   ·obtain⟨l,_,rfl⟩:=e8.1 af;rfl
   ·obtain⟨m,rfl,i⟩:=r a b hi;have Q:e=0:=by
     cases e with
     |zero=>rfl
     |succ e=>cases c
    subst Q;rw[i];show World.cell? s _=_;unfold World.cell?;simp only[v];simpa using i
   ·obtain⟨m,rfl,i⟩:=r a b hi;rw[i];rfl
   ·obtain⟨m,rfl,i⟩:=r a b hi;rw[i];cases e with
    |zero=>injection c with c;subst c;exact .int _ _
    |succ e=>cases c
end
theorem CB.uk{a:World}{b:Nat}{cs:Array Value}{t:TypeId}(h:CB a b cs t)(c i:Nat)(v:Value)(d:b≠c):CB (a.setCell ⟨c,i,none⟩ v) b cs t:=h.other v d
def gJ(n k:Nat):List Nat:=((List.range n).drop k).reverse
theorem tf(n:Nat):gJ n n=[]:=by simp[gJ]
theorem tg{n k:Nat}(h:k<n):gJ n (k+1)++[k]=gJ n k:=by
 unfold gJ;rw[ia (l:=List.range n) (i:=k) (by simpa using h)];simp
theorem Ij{n k j:Nat}:j∈gJ n k↔k≤j∧j<n:=by
 unfold gJ;rw[List.mem_reverse,E3];constructor
 ·rintro⟨d,c⟩;rw[kt]at c;obtain⟨a,b⟩:=bO.1 c;rw[yf]at b;rw[u6]at a;omega
 ·rintro⟨a,b⟩;refine⟨j - k,?_⟩;rw[kt,bO];exact⟨by rw[u6];omega,by rw[yf];omega⟩
theorem yU(n k:Nat):(gJ n k).length=n - k:=by simp[gJ]
def mb(a b:Nat→Int)(f:Int):Nat→Int × Bool
 |0=>(0,false)
 |n+1=>if a n=f then(b n,true)else mb a b f n
theorem GW{a b:Nat→Int}{f:Int}:∀{n:Nat},(∀j,j<n→a j≠f)→mb a b f n=(0,false)
 |0,_=>rfl
 |n+1,h=>by unfold mb;rw[cH (h n (by omega))];exact GW λj c=>h j (by omega)
theorem GV{a c:Nat→Int}{f:Int}{k:Nat}:∀{n:Nat},k<n→a k=f→(∀j,k<j→j<n→a j≠f)→mb a c f n=(c k,true)
 |0,h,_,_=>by omega
 | n+1,h,e,b=>by
  unfold mb;by_cases g:k=n
  ·subst g;rw[bE e]
  ·rw[cH (b n (by omega) (by omega))];exact GV (by omega) e λj d h2=>b j d (by omega)
structure EV (P:Program) (fl:FuncId) (Y fi ti:Nat):Prop where
 run:∀(b off len cap:Nat) (vs:Nat→Nat→Value) (fv tv:Nat→Int) (f:Int) (w:World),len*8≤140737488351232→b<w.heap.size→(∀j,j<len→∀i,i<Y→w.cell? ⟨b,off+j*Y+i,none⟩=some (vs j i))→(∀j i,i<Y→(vs j i).oneCell'=true)→(∀j,vs j fi = .int .i64 (fv j))→(∀j,vs j ti = .int .i64 (tv j)) →
  Calls P fl #[.slice (some ⟨b,off,none⟩) len cap,.int .i64 f] w λe W'=>e = .returned (.tuple #[.int .i64 (mb fv tv f len).1,.bool (mb fv tv f len).2])∧Below w.heap.size w W'
 nil:∀(a:Option Addr) (cap:Nat) (f:Int) (w:World),Calls P fl #[.slice a 0 cap,.int .i64 f] w λe W'=>e = .returned (.tuple #[.int .i64 0,.bool false])∧Below w.heap.size w W'
theorem uu{i:Nat}{r:List D}{z:Int}(h:fj i r=some z):r[i]?=some (.int .i64 z):=by
 unfold fj at h;split at h
 ·rename_i a;injection h with h;rw[a,h]
 ·cases h
theorem GX{fi ti:Nat}{f:Int}:∀(rows:List (List D)) (n:Nat),n≤rows.length→(∀r∈rows,pt fi ti r=true)→mb (λj=>(fj fi (rows[j]?.getD [])).getD 0) (λj=>(fj ti (rows[j]?.getD [])).getD 0) f n=qn fi ti f (rows.take n)
 |rows,0,_,_=>rfl
 | rows,n+1,g,c=>by
  unfold mb;have a:n<rows.length:=by omega
  rw[GX rows n (by omega) c,Km a,RQ];have b:=c _ (ou a);simp only[pt,eO,yn]at b;obtain⟨⟨i,e⟩,⟨h,d⟩⟩:=b;simp only[cJ a,gP,e,d,kU]
variable {P:Program} {fl:FuncId} {Y fi ti:Nat}
theorem RR (G:EV P fl Y fi ti) (M:∀(t:Array Value) (w:World),(callFunc fl t).run P w = .ok (.enter fl t) w) {args:List D} {h h':J} {d:D} (c:tc Y fi ti args h=some (d,h')) {g:Gh} {vs:List Value} (hi:Inv g h) (j:cC g vs args):kJ P fl vs g h' d:=by
 have E:∀{r:Int × Bool} {t:Array Value},(Calls P fl t g.w λn s=>n = .returned (.tuple #[.int .i64 r.1,.bool r.2])∧Below g.w.heap.size g.w s)→Calls P fl t g.w λn s=>∃X,n = .returned X∧∃y,y.w=s∧cE g y∧Inv y h∧aM y X (.bZ [.int .i64 r.1,.bool r.2]):=λK=>pH K λn s ⟨am,I⟩ =>
  ⟨_,am,⟨s,g.ms,g.L⟩,rfl,rC I,hi.same (rC I) rfl rfl λA ak=>I.block A ak,.bZ [_,_] [_,_] rfl λa X d k c=>by
   match a with
   |0=>injection k with k;injection c with c;subst k;subst c;exact .int _ _
   |1=>injection k with k;injection c with c;subst k;subst c;exact .bool _
   |a+2=>cases c⟩
 unfold tc at c;split at c
 ·rename_i f;injection c with c;injection c with u F;subst u;subst F;cases j with
  | cons k j=>cases j with
   | cons N j =>
    cases j;cases k;cases N;exact .inl ⟨M _ _,E (r:=(0,false)) (G.nil none 0 f g.w)⟩
 ·rename_i p ai i f;split at c
  ·rename_i K;obtain⟨rfl,H,an⟩:=K;injection c with c;injection c with u F;subst u;subst F;rw[gg]at H;cases j with
   | cons k j=>cases j with
    | cons N j =>
     cases j;cases N;cases k with
     | sl ah ax ac Y ai i ao av ar au aw ap aj ag al u j =>
      subst ao;by_cases ad:i=[]
      ·subst ad;exact .inl ⟨M _ _,E (r:=(0,false)) (G.nil _ ac f g.w)⟩
      ·obtain⟨aa,ab⟩:=aj ad;obtain⟨A,aq,ay⟩:=ah;simp only at aa ab;subst aa;have Q:∀{a:Nat} (e:a<i.length),∃r,i[a]?=some r∧r.length=p∧pt fi ti r=true:=λ{a} e=>⟨i[a],cJ e,ap _ (ou e),H _ (ou e)⟩
       obtain⟨z,T⟩:∃z:Nat→Nat→Value,z=λa b=>if a<i.length∧b<p then ag a b else .int .i64 0:=⟨_,rfl⟩
       have m:∀{b:Nat} (a:Nat),(∀r,r.length=p→pt fi ti r=true→b<p∧∃q,fj b r=some q)→z a b = .int .i64 ((fj b (i[a]?.getD [])).getD 0):=λ{b} a l=>by
        rw[T];by_cases e:a<i.length
        ·obtain⟨r,o,B,C⟩:=Q e;obtain⟨v,q,m⟩:=l r B C;rw[o,gP,m,gP];simp only[e,v,gX,aJ];have:=j a r o b _ (uu m);generalize ag a b=az at this ⊢;cases this;rfl
        ·simp only[e,false_and,aL];rw[mH (by omega)];rfl
       have af:∀{b:Nat} {r:List D},r.length=p→(fj b r).isSome=true→b<p∧∃q,fj b r=some q:=λ{b r} x l=>by
        obtain⟨q,m⟩:=yn.1 l;exact⟨x▸(bO.1 (uu m)).1,q,m⟩
       have ae:=G.run A aq i.length ac z (λa=>(fj fi (i[a]?.getD [])).getD 0) (λa=>(fj ti (i[a]?.getD [])).getD 0) f g.w an ab.1 (λa e b v=>by
        obtain⟨r,o,B,C⟩:=Q e;have R:b<r.length:=by omega
        rw[T];simp only[e,v,gX,aJ];exact al a r o b _ (cJ R)) (λa b v=>by
        rw[T];by_cases e:a<i.length
        ·obtain⟨r,o,B,C⟩:=Q e;have R:b<r.length:=by omega
         simp only[e,v,gX,aJ];exact u a r o b _ (cJ R)
        ·simp only[e,false_and,aL];rfl) (λa=>m a λr x l=>af x (by simp only[pt,eO]at l;exact l.1)) (λa=>m a λr x l=>af x (by simp only[pt,eO]at l;exact l.2))
       have n:=GX (fi:=fi) (ti:=ti) (f:=f) i i.length (aX _) H;rw[j9]at n;rw[n]at ae;exact .inl ⟨M _ _,E ae⟩
  ·cases c
 ·cases c
def wO(a b:Nat→Int)(j i:Nat):Value:=if i=0 then .int .i64 (a j)else .int .i64 (b j)
def Fu(a b:Nat→Int)(x:Nat):Array Value := #[.int .i64 (x:Int),.agg #[.int .i64 (a x),.int .i64 (b x)]]
def nb(d e:Nat→Int)(g:Int→Option Int)(l:List Nat):Int→Option Int:=l.foldl (λc a=>λb=>if b=d a then some (e a)else c b) g
theorem GH(a b:Nat→Int)(g:Int→Option Int)(l:List Nat)(j:Nat):nb a b g (l++[j])=λx=>if x=a j then some (b j)else nb a b g l x:=by simp[nb]
def pg(a b:Nat→Int)(l:List Nat):Int→Option Int:=nb a b (λ_=>none) l
theorem TB(a b:Nat→Int)(l:List Nat)(j:Nat):pg a b (l++[j])=λx=>if x=a j then some (b j)else pg a b l x:=GH _ _ _ _ _
theorem Ry{f:Nat→Prop}{a c:World}{r:Nat}{o:Obj}(e:a.grownBy c (some r))(i:a.heap[r]?=some o)(l:o.isCells=false):gF f a c:=⟨e.size,λd m n k b=>by
 have j:d≠r:=λh=>by
  subst h;unfold World.cell? at b;rw[i]at b;cases o<;>simp_all [Obj.isCells]
 rw[oF (w:=a) (e.block d (sV a _ b) λg=>j (by cases g;rfl))];exact b⟩
def il(p:Int × Int):List Value:=[.int .i64 p.1,.int .i64 p.2]
theorem LB(w:World)(xs:List Value)(t:TypeId):∀j a,xs[j]?=some a→(w.alloc (.cells xs.toArray t)).cell? ((⟨w.heap.size,0,none⟩:Addr).add j)=some a:=λj a b=>by
 have c:=World.alloc_heap_new w (.cells xs.toArray t);rw[jl,dF];unfold World.cell?;simp only[c];simpa using b
structure om (f:Int→Option Int) (left:Lit→Bool) (ss:List (Int × Int)):Prop where
 mem:∀p∈ss,dZ p.1∧dZ p.2∧f p.1=some p.2
 left:∀x,dZ x→(left (.int .i64 x)=true↔(f x).isSome=true∧∀p∈ss,p.1≠x)
 nodup:(ss.map Prod.fst).Nodup
theorem om.start{A:DataW Unit}{f:Int→Option Int}(h:jW A f):om f (Maps.has A) []:=⟨λd a=>by simp at a,λc b=>by rw[(h.2 c b).1];simp,List.nodup_nil⟩
theorem om.step{A:DataW Unit}{f:Int→Option Int}{left:Lit→Bool}{m:List (Int × Int)}(o:jW A f)(h:om f left m){x c:Int}(j:dZ x)(r:dZ c)(u:left (.int .i64 x)=true)(q:∀y,A.atKey (.int .i64 x) y = .lit (.int .i64 c)):
  om f (λz=>left z && !z.sameKey (.int .i64 x)) (m++[(x,c)]):=by
 have s:f x=some c:=by
  have:=(o.2 x j).2 (.lit (.bool true));rw[q]at this;cases l:f x with
  |none=>rw[l]at this;simp at this
  |some e=>rw[l]at this;simp at this;rw[this]
 obtain⟨_,v⟩:=(h.left x j).1 u;refine⟨λb a=>?_,λe w=>?_,?_⟩
 ·rcases eI.1 a with a|a
  ·exact h.mem b a
  ·rw[gz.1 a];exact⟨j,r,s⟩
 ·have t:(Lit.int .i64 e).sameKey (.int .i64 x)=decide (e=x):=by
    simp[Lit.sameKey]
  simp only[eO,t,lr,yR];rw[h.left e w];constructor
  ·rintro⟨⟨i,d⟩,n⟩;refine⟨i,λb a=>?_⟩;rcases eI.1 a with a|a
   ·exact d b a
   ·rw[gz.1 a];exact λg=>n g.symm
  ·rintro⟨i,d⟩;exact⟨⟨i,λb a=>d b (eI.2 (.inl a))⟩,λg=>d (x,c) (eI.2 (.inr (by simp))) g.symm⟩
 ·rw[fV,yg];refine⟨h.nodup,by simp,λB p C k=>?_⟩;simp only[gO,pQ,gz]at k;subst k;obtain⟨b,a,rfl⟩:=e8.1 p;exact v b a
theorem Uq{w:World}{d:Nat}{e:TypeId}{j:Nat}{v:Value}{n:Nat}{xs:List Value}(h:w.ownsRow d e j v n xs){b:Nat}{o:Obj}(g:w.heap[b]?=some o)(i:o.isCells=false):some b≠v.ownBlock:=λa=>by
 rcases h.2 with⟨rfl,_⟩|⟨f,k,l,rfl,_,c,_⟩
 ·cases a
 ·have:b=f:=by simpa[Value.ownBlock]using a
  subst this;rw[g]at c;cases c;cases i
end Go.Pi
namespace Go.Eng
abbrev zF:=@getElem!_pos
end Go.Eng
namespace Go.Pi
open Go.Eng
theorem GQ:∀(a:List (Int × Int)) (t:Nat),((a.map il).flatten)[t]?=(a[t / 2]?).bind λp=>(il p)[t % 2]?
 |[],t=>by simp
 |p::a,0=>rfl
 |p::a,1=>rfl
 | p::a,t+2=>by
  have b:(t+2) / 2=t / 2+1:=by omega
  have c:(t+2) % 2=t % 2:=by omega
  rw[b,c];show((a.map il).flatten)[t]?=_;rw[GQ a t];rfl
theorem G8{w:World}{g:Nat}{f:Array Value}{e:TypeId}{a:List (Int × Int)}(i:w.heap[g]?=some (.cells f e (0,0)))(m:f.toList.take (a.length*2)=(a.map il).flatten):Sort.HoldsK il 2 w g 0 a.toArray:=by
 intro b h;rw[Sort.size_flatK,kT]at h;refine⟨?_,by simp[World.frozen?,i]⟩;have c:(f.toList.take (a.length*2))[b]?=((a.map il).flatten)[b]?:=by rw[m]
 rw[List.getElem?_take_of_lt h,GQ]at c;have j:b / 2<a.length:=by omega
 have k:a[b / 2]?=some a[b / 2]:=cJ j;rw[k]at c;simp only[iA]at c;rw[Sort.get_flatK _ _ _ _ (by rw[kT];exact h)];unfold World.cell?;simp only[i,dF,id_eq];have l:a.toArray[b / 2]! = a[b / 2]:=by simp[j]
 rw[l];rw[Array.getElem?_toList]at c;rw[show((none:Option Nat)=none)from rfl]at *;have d:b % 2=0∨b % 2=1:=by omega
 rcases d with d|d<;>rw[d]at c ⊢<;>exact c
theorem QE{w:World}{g n:Nat}{os:Array Obj}(d:Array (Int × Int)):w.grownBy (Go.Proofs.sortWorldK il 2 w g 0 n d os) (some g):=by
 unfold Go.Proofs.sortWorldK;refine⟨rfl,rfl,rfl,by simp[Go.Sort.putRowK,Go.Sort.putRow,Go.Sort.mapBlock,Go.Sort.ahead,Go.Sort.grow],λe b c=>?_⟩;rw[Go.Sort.heap_grow_old _ _ (by simpa[Go.Sort.putRowK,Go.Sort.putRow,Go.Sort.mapBlock,Go.Sort.ahead]using b)];have:g≠e:=λa=>c (by rw[a])
 simp[Go.Sort.putRowK,Go.Sort.putRow,Go.Sort.mapBlock,Go.Sort.ahead,xu,this]
theorem wJ(x y:Int × Int):Go.Proofs.ltOf (λx y:Int × Int=>Go.Lib.compareInt x.1 y.1) x y=decide (x.1<y.1):=by
 unfold Go.Proofs.ltOf Go.Lib.compareInt;by_cases a:x.1<y.1
 ·simp[a]
 ·by_cases b:y.1<x.1<;>simp[a,b]
theorem VI:Go.Sort.SWO (Go.Proofs.ltOf λx y:Int × Int=>Go.Lib.compareInt x.1 y.1):=by
 refine⟨λx=>?_,λx y c a b=>?_,λx y c a b=>?_⟩
 ·rw[wJ];simp
 ·rw[wJ]at *;simp at *;omega
 ·rw[wJ]at *;simp at *;omega
theorem VA{f:Int→Option Int}{left:Lit→Bool}{a:List (Int × Int)}{d':Array (Int × Int)}(i:om f left a)(B:∀H,left H=false)(E:Go.Sort.PermIn 0 a.length a.toArray d')
  (F:Go.Sort.SortedIn (Go.Proofs.ltOf λx y:Int × Int=>Go.Lib.compareInt x.1 y.1) 0 a.length d'):d'.size=a.length∧lA f d'.toList:=by
 obtain⟨h,_,l⟩:=E;have h:d'.size=a.length:=by simpa using h
 have r:d'.toList.Perm a:=by
  have u:d'.extract 0 a.length=d':=by rw[← h];simp
  have v:a.toArray.extract 0 a.length=a.toArray:=by simp
  rw[u,v]at l;simpa using l
 refine⟨h,⟨λj=>?_,?_⟩⟩
 ·rw [r.mem_iff];constructor
  ·intro C;obtain⟨s,_,t⟩:=i.mem j C;exact⟨s,t⟩
  ·rintro⟨G,m⟩;have q:¬(left (.int .i64 j.1)=true):=by rw[B];simp
   rw[i.left _ G]at q;have:∃g∈a,g.1=j.1:=by
    refine mA λw=>?_
    exact q ⟨by rw[m];rfl,λg k c=>w ⟨g,k,c⟩⟩
   obtain⟨g,k,c⟩:=this;obtain⟨_,_,b⟩:=i.mem g k;rw[c,m]at b;injection b with b;have:g=j:=Prod.ext c b.symm
   rwa [← this]
 ·have D:(d'.toList.map Prod.fst).Nodup:=(r.map Prod.fst).nodup_iff.2 i.nodup;rw[yh];intro d e z A o;have n:d<d'.size:=by simpa using z
  have p:e<d'.size:=by simpa using A
  have b:=F d e (jr _) o (by omega);rw[wJ,zF d' d n,zF d' e p]at b;have I:¬d'[e].1<d'[d].1:=by simpa using b
  have K:d'[d].1≠d'[e].1:=λc=>by
   have:=(yh.1 D) d e (by simpa using n) (by simpa using p) o;apply this;simpa using c
  simp only[Array.getElem_toList];omega
end Go.Pi
namespace Go.Proofs.YtinlnkhheafjaaaGreatDoor
open Go.Eng Go.Pi Go.RowKit
structure C3 (P:Program) (fe:FuncId):Prop where
 run:∀(a1 a2:Option Addr) (n1 c1 n2 c2:Nat) (vs:Nat→Nat→Value) (fv tv mf mo:Nat→Int) (w:World),n1*8≤1000000000→n2*8≤1000000000 →
  (n1=0∨∃b off,a1=some ⟨b,off,none⟩∧b<w.heap.size∧∀j,j<n1→∀i,i<11→w.cell? ⟨b,off+j*11+i,none⟩=some (vs j i)) →
  (n2=0∨∃b off,a2=some ⟨b,off,none⟩∧b<w.heap.size∧∀j,j<n2→∀i,i<2→w.cell? ⟨b,off+j*2+i,none⟩=some (wO mf mo j i)) →
  (∀j i,i<11→(vs j i).oneCell'=true)→(∀j,vs j 2 = .int .i64 (fv j))→(∀j,vs j 4 = .int .i64 (tv j))→(∀j,dZ (fv j)∧dZ (tv j)∧dZ (mf j)∧dZ (mo j)) →
  Calls P fe #[.slice a1 n1 c1,.slice a2 n2 c2] w λe W'=>∃(out:List (Int × Int)) (v:Value),e = .returned v∧lA (nb fv tv (pg mf mo (gJ n2 0)) (List.range n1)) out∧RowKit.Below w.heap.size w W'∧((out=[]∧v = .slice none 0 0) ∨
   ∃g cap,v = .slice (some ⟨g,0,none⟩) out.length cap∧w.heap.size≤g∧g<W'.heap.size∧out.length≤cap∧cap≤maxLen∧out≠[]∧∀(j:Nat) (p:Int × Int),out[j]?=some p→∀(c:Nat) (u:Value),(il p)[c]?=some u→W'.cell? ⟨g,j*2+c,none⟩=some u)
theorem I7{g:Gh}{z:Nat}{p:D}{rows:List (List D)}{v:Value}(c:lp z p=some rows)(o:aM g v p):∃(a:Option Addr) (cap:Nat) (f:Nat→Nat→Value),v = .slice a rows.length cap ∧
  (rows.length=0∨∃b off,a=some ⟨b,off,none⟩∧b<g.w.heap.size∧∀j,j<rows.length→∀i,i<z→g.w.cell? ⟨b,off+j*z+i,none⟩=some (f j i)) ∧
  ∀j r,rows[j]?=some r→r.length=z∧∀i e,r[i]?=some e→(f j i).oneCell'=true∧aM g (f j i) e:=by
 unfold lp at c;split at c
 ·injection c with c;subst c;cases o;exact⟨none,0,λ_ _ =>.int .i64 0,rfl,.inl rfl,λj r d=>by cases d⟩
 ·rename_i N s C;split at c
  ·rename_i B;injection c with c;subst c;subst B;cases o with
   | sl q K cap M s rows y H E F I n u f x t A =>
    subst y;refine⟨_,cap,f,rfl,?_,λj r d=>⟨n r (eS d),λi e h=>⟨t j r d i e h,A j r d i e h⟩⟩⟩;by_cases m:C=[]
    ·left;rw[m];rfl
    ·obtain⟨k,l⟩:=u m;obtain⟨b,off,L⟩:=q;simp only at k l;subst k;refine .inr ⟨b,off,rfl,l.1,λj d i h=>?_⟩;have G:=n _ (ou d);exact x j _ (cJ d) i _ (cJ (by omega))
  ·cases c
 ·cases c
theorem Ic(rows:List (List D)):(List.range rows.length).map (λj=>rows[j]?.getD [])=rows:=by
 apply List.ext_getElem
 ·simp
 ·intro c b a;simp[a]
theorem GI(k t:Nat)(rows:List (List D))(g:Int→Option Int)(l:List Nat):nb (λj=>(fj k (rows[j]?.getD [])).getD 0) (λj=>(fj t (rows[j]?.getD [])).getD 0) g l=(l.map λj=>rows[j]?.getD []).foldl (uF k t) g:=by
 rw[List.foldl_map];rfl
theorem Oc(a b:List (List D)):nb (λj=>(fj 2 (b[j]?.getD [])).getD 0) (λj=>(fj 4 (b[j]?.getD [])).getD 0) (pg (λj=>(fj 0 (a[j]?.getD [])).getD 0) (λj=>(fj 1 (a[j]?.getD [])).getD 0) (gJ a.length 0)) (List.range b.length)=oO a b:=by
 unfold pg oO;rw[GI,GI,Ic];have:gJ a.length 0=(List.range a.length).reverse:=by simp[gJ]
 rw[this,List.map_reverse,Ic]
theorem Gq {P:Program} {C:FuncId} (a1:C3 P C) (a7:∀(xs:Array Value) (w:World),(callFunc C xs).run P w = .ok (.enter C xs) w) {args:List D} {h h':J} {d:D} (f:rj args h=some (d,h')) {g:Gh} {vs:List Value} (hi:Inv g h) (p:cC g vs args):kJ P C vs g h' d:=by
 unfold rj at f;split at f
 case h_2=>cases f
 rename_i bp bn;split at f
 case h_2=>cases f
 rename_i t ac bd a9;split at f
 case isFalse=>cases f
 rename_i al;split at f
 case isFalse=>cases f
 rename_i z;obtain⟨bl,bm,F,aa⟩:=z;injection f with f;injection f with I az;subst I;subst az;have aj:=al.choose_spec;generalize al.choose=s at aj ⊢;cases p with
 | cons bh p=>cases p with
  | cons bg p =>
   cases p;obtain⟨aq,au,ao,rfl,K,ag⟩:=I7 bd bh;obtain⟨ar,av,ap,rfl,M,ah⟩:=I7 a9 bg;obtain⟨G,T⟩:∃G:Nat→Nat→Value,G=λa b=>if a<t.length then ao a b else .int .i64 0:=⟨_,rfl⟩
   have get:∀{l:List (List D)} {a:Nat},a<l.length→∃e,l[a]?=some e∧e∈l:=λ{l a} c=>⟨_,cJ c,ou c⟩
   have am:dZ 0:=by unfold dZ;omega
   have E:∀{X ad:Nat} {l:List (List D)},(∀e∈l,pj X ad e)→∀a,dZ ((fj X (l[a]?.getD [])).getD 0)∧dZ ((fj ad (l[a]?.getD [])).getD 0):=λ{X ad l} R a=>by
    by_cases c:a<l.length
    ·obtain⟨e,j,x⟩:=get c;obtain⟨m,u,r,H,B,ax⟩:=R e x;rw[j,gP,r,B];exact⟨H,ax⟩
    ·rw[mH (by omega)];exact⟨am,am⟩
   have ak:∀{b:Nat} (a:Nat),(∀e∈t,∃m,fj b e=some m)→G a b = .int .i64 ((fj b (t[a]?.getD [])).getD 0):=λ{b} a R=>by
    rw[T];by_cases c:a<t.length
    ·obtain⟨e,j,x⟩:=get c;obtain⟨m,r⟩:=R e x;have:=((ag a e j).2 b _ (uu r)).2;simp only[c,aJ];rw[j,gP,r];generalize ao a b=an at this ⊢;cases this;rfl
    ·simp only[c,aL];rw[mH (by omega)];rfl
   have ai:=a1.run aq ar t.length au ac.length av G (λa=>(fj 2 (t[a]?.getD [])).getD 0) (λa=>(fj 4 (t[a]?.getD [])).getD 0) (λa=>(fj 0 (ac[a]?.getD [])).getD 0) (λa=>(fj 1 (ac[a]?.getD [])).getD 0) g.w (by omega) (by omega)
    (by
     rcases K with K|⟨u,ab,q,v,z⟩
     ·exact .inl K
     ·exact .inr ⟨u,ab,q,v,λa c b hi=>by rw[T];simp only[c,aJ];exact z a c b hi⟩)
    (by
     rcases M with M|⟨u,ab,q,v,z⟩
     ·exact .inl M
     ·refine .inr ⟨u,ab,q,v,λa c b hi=>?_⟩;rw[z a c b hi];obtain⟨e,j,x⟩:=get c;obtain⟨m,bj,r,_,B,_⟩:=aa e x;unfold wO;simp only[j,gP,r,B];by_cases ay:b=0
      ·subst ay;have:=((ah a e j).2 0 _ (uu r)).2;generalize ap a 0=an at this ⊢;cases this;rfl
      ·have I:b=1:=by omega
       subst I;have:=((ah a e j).2 1 _ (uu B)).2;generalize ap a 1=an at this ⊢;cases this;rfl)
    (λa b hi=>by
     rw[T];by_cases c:a<t.length
     ·obtain⟨e,j,x⟩:=get c;obtain⟨r,H⟩:=ag a e j;simp only[c,aJ];exact(H b _ (cJ (by omega))).1
     ·simp only[c,aL];rfl)
    (λa=>ak a λe p=>by obtain⟨m,_,q,_⟩:=F e p;exact⟨m,q⟩) (λa=>ak a λe p=>by obtain⟨_,m,_,_,q,_⟩:=F e p;exact⟨m,q⟩)
    (λa=>⟨(E F a).1,(E F a).2,(E aa a).1,(E aa a).2⟩)
   rw[Oc]at ai;refine .inl ⟨a7 _ _,pH ai ?_⟩;rintro q af ⟨bo,bi,rfl,bc,v,a4⟩;obtain rfl:=aj.uniq bc;refine⟨bi,rfl,⟨af,g.ms,g.L⟩,rfl,rC v,hi.same (rC v) rfl rfl λu a3=>v.block u a3,?_⟩;rcases a4 with⟨rfl,rfl⟩|⟨ae,aw,rfl,bk,a0,a6,ba,bb,a5⟩
   ·exact .aB
   ·have bf:lQ 2 (s.map cX) = .sl 2 false (s.map cX):=by
      cases s with
      |nil=>exact absurd rfl bb
      |cons m u=>rfl
    rw[bf];have N:∀(b:Nat) (k:List D),(s.map cX)[b]?=some k→∃i,s[b]?=some i∧k=cX i:=λb k hi=>by
     rw[dH]at hi;cases o:s[b]? with
     |none=>rw[o]at hi;cases hi
     |some i=>rw[o]at hi;injection hi with hi;exact⟨i,rfl,hi.symm⟩
    have Q:∀(i:Int × Int) (a:Nat) (n:D),(cX i)[a]?=some n→∃A,n = .int .i64 A∧(il i)[a]?=some (.int .i64 A):=λi a n f=>by
     match a with
     |0=>injection f with f;exact⟨_,f.symm,rfl⟩
     |1=>injection f with f;exact⟨_,f.symm,rfl⟩
     |a+2=>cases f
    refine .sl ⟨ae,0,none⟩ s.length aw 2 false _ (by simp) a6 (by simp[maxLen]at ba;omega) (λh=>by cases h) (by decide) (λk be=>?_) (λ_=>⟨rfl,a0,λa8=>by have:=hi.L ae a8;omega⟩)
     (λb a=>((s[b]?.bind λi=>(il i)[a]?)).getD undef) (λb k hi a n c=>?_) (λb k hi a n c=>?_) (λb k hi a n c=>?_)
    ·obtain⟨i,_,rfl⟩:=e8.1 be;rfl
    ·obtain⟨i,o,rfl⟩:=N b k hi;obtain⟨A,rfl,y⟩:=Q i a n c;rw[o,iA,y,gP];have:=a5 b i o a _ y;show World.cell? af _=_;rw[← this];simp
    ·obtain⟨i,o,rfl⟩:=N b k hi;obtain⟨A,rfl,y⟩:=Q i a n c;rw[o,iA,y,gP];rfl
    ·obtain⟨i,o,rfl⟩:=N b k hi;obtain⟨A,rfl,y⟩:=Q i a n c;rw[o,iA,y,gP];exact .int _ _
end Go.Proofs.YtinlnkhheafjaaaGreatDoor
namespace Go.Eng
abbrev pF:=@Array.replicate_succ
abbrev pG:=@Array.replicate_zero
abbrev pM:=@List.append_toArray
abbrev pR:=@List.push_toArray
abbrev s9:=@callsIn_of_wp
abbrev vr:=@callsIn_wide
abbrev Cl:=@run_takeDeferred
end Go.Eng
namespace Go.Proofs.YtinlnkhheafjaaaGreatDoor
open Go.Eng Go.Pi Go.RowKit Go.Shelf
attribute [local go_sem] Oper.semAt_some
set_option maxRecDepth 100000 in
set_option maxHeartbeats 4000000 in
theorem K0 (F:Fence) (n:Nat) (hf:F.fn 77) (hro:F.round=none) (hn:1≤n) (l Bs n₀ b off len cap:Nat) (vs:Nat→Nat→Value) (hreach:len*8≤140737488351232) (hb:b<n₀) (J Jx:List Nat→World→Prop)
  (hY:∀ pre (x:Nat) W,J pre W→pre.length<len→YieldAt F (n - 1) Tryz.prog l #[.int .i64 (x:Int),.agg #[vs x 0,vs x 1,vs x 2,vs x 3,vs x 4,vs x 5,vs x 6,vs x 7,vs x 8,vs x 9,vs x 10]] W fun e W' =>
   (e = .returned (.bool true)∧J (pre++[x]) W'∧Below n₀ W W')∨(e = .returned (.bool false)∧Jx (pre++[x]) W'))
  (W:World) (hBs:W.cell? ⟨Bs,0,none⟩=some (.slice (some ⟨b,off,none⟩) len cap)) (hBn:Bs<n₀) (hc:∀ j,j<len→∀ i,i<11→W.cell? ⟨b,off+j*11+i,none⟩=some (vs j i)) (h0:J [] W) :
  CallsIn F n Tryz.prog 77 #[.func (.yield l) #[] #[],.pointer (some ⟨Bs,0,none⟩)] W fun e W'=>(∃ v,e = .returned v) ∧
   (J (gJ len 0) W'∨(∃ k,k≤len∧Jx (gJ len k) W')):=by
 have hl63:len≤17592186044416:=by omega
 refine s9 Tryz.func77 rfl hf ?_ hro
 simp only [Tryz.ntmps77,kT,eP,eJ,Nat.reduceAdd,Nat.reduceSub,pF,pG,pR,pM,jE,lU]
 gi_wp2
 gi_loopw [3] (fun i wr=>∃ (k:Nat) (z:Int),k≤len∧i = .int .i64 z∧z=(k:Int) - 1∧J (gJ len k) wr∧Below n₀ W wr)
  (fun i _=>(intOf i+1).toNat)
 case atStart=>exact ⟨len,_,aX _,rfl,by simp,by rw [tf];exact h0,Below.refl _ _⟩
 case round =>
  obtain ⟨k,z,hk,rfl,hz,hJs,hnx⟩:=hrel
  have hBs':=(hnx.cell (p:=⟨Bs,0,none⟩) hBn).trans hBs
  cases k with
  | zero =>
   obtain rfl:z = -1:=by omega
   clear hz
   gi_wp2
   go_end0
   exact ⟨⟨_,rfl⟩,.inl hJs⟩
  | succ k =>
   obtain rfl:z=(k:Int):=by omega
   clear hz
   have hcc:∀ i,i<11→wr.cell? ⟨b,off+k*11+i,none⟩=some (vs k i):=fun i hi=>(hnx.cell (p:=⟨b,off+k*11+i,none⟩) hb).trans (hc k (by omega) i hi)
   have c0:wr.cell? ⟨b,off+k*11,none⟩=some (vs k 0):=hcc 0 (by omega)
   have c1:=hcc 1 (by omega)
   have c2:=hcc 2 (by omega)
   have c3:=hcc 3 (by omega)
   have c4:=hcc 4 (by omega)
   have c5:=hcc 5 (by omega)
   have c6:=hcc 6 (by omega)
   have c7:=hcc 7 (by omega)
   have c8:=hcc 8 (by omega)
   have c9:=hcc 9 (by omega)
   have c10:=hcc 10 (by omega)
   clear hcc
   obtain ⟨fn,tmps,assign,body,hy,hR⟩:=hY _ k wr hJs (by rw [yU];omega)
   gi_wp2
   refine hR.mono ?_
   rintro e W3 (⟨rfl,hJ3,hk3⟩ | ⟨rfl,hJx3⟩)
   ·gi_wp2
    go_roundw
    case rel=>exact ⟨k,_,by omega,rfl,by simp,by rw [← tg (by omega:k<len)];exact hJ3,hnx.trans hk3⟩
    case measure=>simp [intOf] <;> omega
   ·gi_wp2
    refine bodyPost_ret (results_none rfl _ _ _) rfl ?_
    exact ⟨⟨_,rfl⟩,.inr ⟨k,by omega,by rw [← tg (by omega:k<len)];exact hJx3⟩⟩
set_option maxRecDepth 100000 in
set_option maxHeartbeats 4000000 in
theorem K2 (F:Fence) (n:Nat) (hf:F.fn 77) (hro:F.round=none) (l Bs cap:Nat) (a:Option Addr) (J:List Nat→World→Prop)
  (W:World) (hBs:W.cell? ⟨Bs,0,none⟩=some (.slice a 0 cap)) (h0:J [] W) :
  CallsIn F n Tryz.prog 77 #[.func (.yield l) #[] #[],.pointer (some ⟨Bs,0,none⟩)] W fun e W'=>(∃ v,e = .returned v)∧J [] W':=by
 refine s9 Tryz.func77 rfl hf ?_ hro
 simp only [Tryz.ntmps77,kT,eP,eJ,Nat.reduceAdd,Nat.reduceSub,pF,pG,pR,pM,jE,lU]
 gi_wp2
 gi_loopw [3] (fun i wr=>i = .int .i64 (-1)∧J [] wr) (fun _ _=>0)
 case atStart=>exact ⟨rfl,h0⟩
 case round =>
  obtain ⟨rfl,hJs⟩:=hrel
  gi_wp2
  go_end0
  exact ⟨⟨_,rfl⟩,hJs⟩
set_option maxHeartbeats 1000000 in
theorem K6 (F:Fence) (n:Nat) (hf:F.fn 51) (hro:F.round=none) (a:Option Addr) (len cap:Nat) (w:World) :
  CallsIn F n Tryz.prog 51 #[.slice a len cap] w fun e w'=>e = .returned (.func (.func 77) #[] #[.pointer (some ⟨w.heap.size,0,none⟩)])∧w'=w.alloc (.cells #[.slice a len cap] 32):=by
 refine s9 Tryz.func51 rfl hf ?_ hro
 simp only [Tryz.ntmps51,kT,eP,eJ,Nat.reduceAdd,Nat.reduceSub,pF,pG,pR,pM,jE,lU]
 gi_wp2
 go_ret
 exact ⟨rfl,rfl⟩
def yD (vs:Nat→Nat→Value) (x:Nat):Array Value := #[.int .i64 (x:Int),.agg #[vs x 0,vs x 1,vs x 2,vs x 3,vs x 4,vs x 5,vs x 6,vs x 7,vs x 8,vs x 9,vs x 10]]
theorem K4 (F:Fence) (n:Nat) (hf:F.fn 77) (hro:F.round=none) (hn:1≤n) (Bs n₀ b off len cap:Nat) (vs:Nat→Nat→Value) (hreach:len*8≤140737488351232) (hb:b<n₀) (w:World) (hBs:Bs<w.heap.size) (hBn:Bs<n₀) (hbw:b<w.heap.size)
  (hcB:CB w Bs #[.slice (some ⟨b,off,none⟩) len cap] 32) (hc:∀ j,j<len→∀ i,i<11→w.cell? ⟨b,off+j*11+i,none⟩=some (vs j i)) :
  SeqStopsK F n Tryz.prog 77 #[.pointer (some ⟨Bs,0,none⟩)] (yD vs) (Below n₀) (fun ys=>ys=gJ len 0) (fun pre=>∃ k,k≤len∧pre=gJ len k) len w:=fun l J Jx W hW hJ hJx hY h0=>by
 refine (K0 F n hf hro hn l Bs n₀ b off len cap vs hreach hb J Jx hY W ((hW.cell (p:=⟨Bs,0,none⟩) hBs).trans (hcB.cell 0)) hBn (fun j hj i hi=>(hW.cell (p:=⟨b,off+j*11+i,none⟩) hbw).trans (hc j hj i hi)) h0).mono ?_
 rintro e W' ⟨he,h | ⟨k,hk,h⟩⟩
 ·exact ⟨he,.inl ⟨_,rfl,h⟩⟩
 ·exact ⟨he,.inr ⟨_,⟨k,hk,rfl⟩,h⟩⟩
set_option maxRecDepth 100000 in
set_option maxHeartbeats 4000000 in
theorem HD (F:Fence) (n:Nat) (hf:F.fn 28) (hfb:F.fn 51) (hfi:F.fn 77) (hro:F.round=none) (hn:3≤n) (a:Option Addr) (len cap:Nat) (vs:Nat→Nat→Value) (fv tv:Nat→Int) (f:Int) (w:World)
  (hseq:∀ W0:World,Below w.heap.size w W0→W0.heap.size=w.heap.size+4→CB W0 (w.heap.size+1+1+1) #[.slice a len cap] 32→SeqStopsK F (n - 1) Tryz.prog 77 #[.pointer (some ⟨w.heap.size+1+1+1,0,none⟩)] (yD vs) (Below (w.heap.size+4)) (fun ys=>ys=gJ len 0) (fun pre=>∃ k,k≤len∧pre=gJ len k) len W0)
  (hfv:∀ j,vs j 2 = .int .i64 (fv j)) (htv:∀ j,vs j 4 = .int .i64 (tv j)) (h1c:∀ j i,i<11→(vs j i).oneCell'=true) :
  CallsIn F n Tryz.prog 28 #[.slice a len cap,.int .i64 f] w fun e W'=>e = .returned (.tuple #[.int .i64 (mb fv tv f len).1,.bool (mb fv tv f len).2])∧Below w.heap.size w W':=by
 have h1:1≤n:=by omega
 refine callsIn_of_wp_marks Tryz.func28 rfl hf ?_ hro
 simp only [Tryz.ntmps28,kT,eP,eJ,Nat.reduceAdd,Nat.reduceSub,pF,pG,pR,pM,jE,lU]
 gi_wp2_with (gi_at_call 51;refine (K6 F (n - 1) hfb hro _ _ _ _).mono ?_;rintro e w' ⟨rfl,rfl⟩)
 have cF:=(((CB.new w #[.int .i64 f] 3).alloc (.cells #[.int .i64 0] 3)).alloc (.cells #[.bool false] 4)).alloc (.cells #[.slice a len cap] 32)
 have cR:=((CB.new (w.alloc (.cells #[.int .i64 f] 3)) #[.int .i64 0] 3).alloc (.cells #[.bool false] 4)).alloc (.cells #[.slice a len cap] 32)
 have cO:=(CB.new ((w.alloc (.cells #[.int .i64 f] 3)).alloc (.cells #[.int .i64 0] 3)) #[.bool false] 4).alloc (.cells #[.slice a len cap] 32)
 have cB:=CB.new (((w.alloc (.cells #[.int .i64 f] 3)).alloc (.cells #[.int .i64 0] 3)).alloc (.cells #[.bool false] 4)) #[.slice a len cap] 32
 have hB0:Below w.heap.size w ((((w.alloc (.cells #[.int .i64 f] 3)).alloc (.cells #[.int .i64 0] 3)).alloc (.cells #[.bool false] 4)).alloc (.cells #[.slice a len cap] 32)):=((((Below.refl _ w).alloc (aX _) _).alloc (by simp) _).alloc (by simp;omega) _).alloc (by simp;omega) _
 have hI:((((w.alloc (.cells #[.int .i64 f] 3)).alloc (.cells #[.int .i64 0] 3)).alloc (.cells #[.bool false] 4)).alloc (.cells #[.slice a len cap] 32)).heap.size=w.heap.size+4:=by simp
 simp only [World.size_alloc] at cR cO cB
 obtain ⟨W0,hW0⟩:∃ W0,((((w.alloc (.cells #[.int .i64 f] 3)).alloc (.cells #[.int .i64 0] 3)).alloc (.cells #[.bool false] 4)).alloc (.cells #[.slice a len cap] 32))=W0:=⟨_,rfl⟩
 rw [hW0] at cF cR cO cB hB0 hI ⊢
 clear hW0
 refine wpIn_rangeFunc_ownH hro h1 (gf:=77) (lb := #[.pointer (some ⟨w.heap.size+1+1+1,0,none⟩)]) rfl hfi (enters_of Tryz.func77 (by kernel_rfl) rfl)
  (hseq W0 hB0 hI cB) belowK_t (belowK_b (by omega)) (Below.refl _ _) (fun _=>rfl)
  (fun pre W=>(∀ j∈pre,fv j≠f)∧CB W w.heap.size #[.int .i64 f] 3∧CB W (w.heap.size+1) #[.int .i64 0] 3∧CB W (w.heap.size+1+1) #[.bool false] 4∧Below w.heap.size w W∧w.heap.size+4≤W.heap.size)
  (fun c pre W=>c = .ret∧(∃ ini last,pre=ini++[last]∧(∀ j∈ini,fv j≠f)∧fv last=f∧CB W (w.heap.size+1) #[.int .i64 (tv last)] 3∧CB W (w.heap.size+1+1) #[.bool true] 4)∧Below w.heap.size w W)
  ?own ?ownx ⟨by simp,cF,cR,cO,hB0,by omega⟩
  (fun x a' W=>∃ Bx,w.heap.size+1+1<Bx∧CB W Bx #[vs x 0,vs x 1,.int .i64 (fv x),vs x 3,.int .i64 (tv x),vs x 5,vs x 6,vs x 7,vs x 8,vs x 9,vs x 10] 28∧a'={ tmps := #[Value.slice a len cap,.int .i64 f,undef,.pointer (some ⟨w.heap.size,0,none⟩),.pointer (some ⟨w.heap.size+1,0,none⟩),.pointer (some ⟨w.heap.size+1+1,0,none⟩),undef,.pointer (some ⟨Bx,0,none⟩),Value.slice a len cap,.func (.func 77) #[] #[.pointer (some ⟨w.heap.size+1+1+1,0,none⟩)],.int .i64 (x:Int),.agg #[vs x 0,vs x 1,.int .i64 (fv x),vs x 3,.int .i64 (tv x),vs x 5,vs x 6,vs x 7,vs x 8,vs x 9,vs x 10],undef,undef,undef,undef,undef,undef,undef,undef],defers:=[] })
  ?ax ?assign ?body ?done ?stop
 case own=>exact fun s A B row hs hg hr=>⟨hs.1,hs.2.1.grown hg fun r e=>(hr r e).2,hs.2.2.1.grown hg fun r e=>(hr r e).2,hs.2.2.2.1.grown hg fun r e=>(hr r e).2,hs.2.2.2.2.1.grown hg hs.2.2.2.2.1.size (fun k e=>by have:=(hr k e).1;omega),hX hs.2.2.2.2.2 hg.size⟩
 case ownx =>
  rintro c s A B row ⟨hc,⟨ini,last,e1,e2,e3,e4,e5⟩,hs⟩ hg hr
  exact ⟨hc,⟨ini,last,e1,e2,e3,e4.grown hg fun r e=>(hr r e).2,e5.grown hg fun r e=>(hr r e).2⟩,hs.grown hg hs.size fun k e=>by have:=(hr k e).1;omega⟩
 case ax =>
  rintro x a' s A B row ⟨Bx,h1,h2,h3⟩ hg hr
  exact ⟨Bx,h1,h2.grown hg fun r e=>(hr r e).2,h3⟩
 case assign =>
  rintro l pre x W K ⟨hp,i1,i2,i3,i4,i5⟩ hK
  dsimp only [yD]
  have o0:=fun (w:World) (a:Addr) (m:Mode)=>iG Tryz.prog w a (vs x 0) m (h1c x 0 (by omega))
  have o1:=fun (w:World) (a:Addr) (m:Mode)=>iG Tryz.prog w a (vs x 1) m (h1c x 1 (by omega))
  have o2:=fun (w:World) (a:Addr) (m:Mode)=>iG Tryz.prog w a (vs x 2) m (h1c x 2 (by omega))
  have o3:=fun (w:World) (a:Addr) (m:Mode)=>iG Tryz.prog w a (vs x 3) m (h1c x 3 (by omega))
  have o4:=fun (w:World) (a:Addr) (m:Mode)=>iG Tryz.prog w a (vs x 4) m (h1c x 4 (by omega))
  have o5:=fun (w:World) (a:Addr) (m:Mode)=>iG Tryz.prog w a (vs x 5) m (h1c x 5 (by omega))
  have o6:=fun (w:World) (a:Addr) (m:Mode)=>iG Tryz.prog w a (vs x 6) m (h1c x 6 (by omega))
  have o7:=fun (w:World) (a:Addr) (m:Mode)=>iG Tryz.prog w a (vs x 7) m (h1c x 7 (by omega))
  have o8:=fun (w:World) (a:Addr) (m:Mode)=>iG Tryz.prog w a (vs x 8) m (h1c x 8 (by omega))
  have o9:=fun (w:World) (a:Addr) (m:Mode)=>iG Tryz.prog w a (vs x 9) m (h1c x 9 (by omega))
  have o10:=fun (w:World) (a:Addr) (m:Mode)=>iG Tryz.prog w a (vs x 10) m (h1c x 10 (by omega))
  gi_wp2
  exact hK _ _ ((KeepsOthers.alloc _ _).from _) ((Below.refl _ _).alloc i5 _) ⟨hp,i1.alloc _,i2.alloc _,i3.alloc _,i4.alloc i4.size _,by simp;omega⟩ ⟨W.heap.size,i3.lt,CB.new W _ 28,rfl⟩
 case body =>
  rintro l pre x a' W _ _ ⟨hp,i1,i2,i3,i4,i5⟩ ⟨Bx,hBx,bX,rfl⟩ _
  have x2:W.cell? ⟨Bx,2,none⟩=some (.int .i64 (fv x)):=bX.cell 2
  have x4:W.cell? ⟨Bx,4,none⟩=some (.int .i64 (tv x)):=bX.cell 4
  have y0:W.cell? ⟨w.heap.size,0,none⟩=some (.int .i64 f):=i1.cell 0
  have y1:W.cell? ⟨w.heap.size+1,0,none⟩=some (.int .i64 0):=i2.cell 0
  have y2:W.cell? ⟨w.heap.size+1+1,0,none⟩=some (.bool false):=i3.cell 0
  have f1:=i2.frozen 0
  have f2:=i3.frozen 0
  by_cases hfx:fv x=f
  ·gi_wp2
   exact ⟨((uZ _ _ _).trans (uZ _ _ _)).from _,rfl,⟨pre,x,rfl,hp,hfx,(i2.set 0 _).other _ (by omega),(i3.other _ (by omega)).set 0 _⟩,(i4.setCell (p:=⟨w.heap.size+1,0,none⟩) (by simp) _).setCell (p:=⟨w.heap.size+1+1,0,none⟩) (by simp;omega) _⟩
  ·gi_wp2
   exact ⟨KeepsFrom.refl _ _,Below.refl _ _,fun j hj=>(eI.1 hj).elim (hp j) (fun e=>by rw [gz.1 e];exact hfx),i1,i2,i3,i4,i5⟩
 case done =>
  rintro D ys W hD rfl ⟨hp,i1,i2,i3,i4,i5⟩ hK
  have y1:W.cell? ⟨w.heap.size+1,0,none⟩=some (.int .i64 0):=i2.cell 0
  have y2:W.cell? ⟨w.heap.size+1+1,0,none⟩=some (.bool false):=i3.cell 0
  have f1:=i2.frozen 0
  have f2:=i3.frozen 0
  gi_wp2
  have hK':=((uZ W ⟨w.heap.size+1,0,none⟩ (.int .i64 0)).trans (uZ _ ⟨w.heap.size+1+1,0,none⟩ (.bool false))).same D _ hK rfl
  have k1:=(((i2.set 0 (.int .i64 0)).uk (w.heap.size+1+1) 0 (.bool false) (by omega)).put (.deferred none) hK' rfl).cell 0
  have k2:=(((i3.uk (w.heap.size+1) 0 (.int .i64 0) (by omega)).set 0 (.bool false)).put (.deferred none) hK' rfl).cell 0
  refine ⟨by simp,.inl ⟨_,_,rfl,Cl hK',?_⟩⟩
  refine ⟨.tuple #[.int .i64 0,.bool false],?_,by rw [GW fun j hj=>hp j (Ij.2 ⟨jr _,hj⟩)],((i4.setCell (p:=⟨w.heap.size+1,0,none⟩) (by simp) _).setCell (p:=⟨w.heap.size+1+1,0,none⟩) (by simp;omega) _).trans (belowK_b (w:=w) (aX _) _ D _ _ (by omega) hK' rfl rfl)⟩
  simp [results,Tryz.f28,go_sem,k1,k2]
 case stop =>
  rintro D c pre W hD ⟨k,hk,rfl⟩ ⟨rfl,⟨ini,last,e1,e2,e3,e4,e5⟩,hB⟩ hK
  gi_wp2
  have zJ:k<len:=by
   rcases fm k len with h | h
   ·exact h
   ·have:k=len:=by omega
    rw [this,tf] at e1
    cases ini <;> cases e1
  rw [← tg zJ] at e1
  obtain ⟨rfl,e6⟩:=qU e1 rfl
  obtain rfl:k=last:=by simpa using e6
  have k1:=(e4.put (.deferred none) hK rfl).cell 0
  have k2:=(e5.put (.deferred none) hK rfl).cell 0
  refine ⟨by simp,.inl ⟨_,_,rfl,Cl hK,?_⟩⟩
  refine ⟨.tuple #[.int .i64 (tv k),.bool true],?_,by rw [GV zJ e3 fun j h1 h2=>e2 j (Ij.2 ⟨h1,h2⟩)],hB.trans (belowK_b (w:=w) (aX _) _ D _ _ (by omega) hK rfl rfl)⟩
  simp [results,Tryz.f28,go_sem,k1,k2]
theorem RS:EV Tryz.prog 28 11 2 4 where
 run b off len cap vs fv tv f w hl hb hc h1 hf ht:=vr.1 (HD Fence.wide 3 trivial trivial trivial rfl (aX _) (some ⟨b,off,none⟩) len cap vs fv tv f w (fun W0 hB hI cB =>
  K4 Fence.wide 2 trivial rfl (by omega) (w.heap.size+1+1+1) (w.heap.size+4) b off len cap vs (by omega) (by omega) W0 (by omega) (by omega) (by omega) cB fun j hj i hi=>(hB.cell (p:=⟨b,off+j*11+i,none⟩) hb).trans (hc j hj i hi)) hf ht h1)
 nil a cap f w:=vr.1 (HD Fence.wide 3 trivial trivial trivial rfl (aX _) a 0 cap (fun _ _ => .int .i64 0) (fun _=>0) (fun _=>0) f w (fun W0 hB hI cB=>fun l J Jx W hW hJ hJx hY h0=>(K2 Fence.wide 2 trivial rfl l (w.heap.size+1+1+1) cap a J W ((hW.cell (p:=⟨w.heap.size+1+1+1,0,none⟩) (by show w.heap.size+1+1+1<W0.heap.size;omega)).trans (cB.cell 0)) h0).mono fun e W' ⟨he,hj⟩=>⟨he,.inl ⟨_,(tf 0).symm,hj⟩⟩) (fun _=>rfl) (fun _=>rfl) (fun _ _ _=>rfl))
end Go.Proofs.YtinlnkhheafjaaaGreatDoor
namespace Go.Proofs
open Go.Shelf Go.RowKit Go.Lib Go.Sort
def YtinlnkhheafjaaaGreatDoor.Vy:Go.Shelf.Ren:=⟨fun | 6=>48 | 15=>75 | 14=>74 | 28=>94 | 29=>95 | 20=>86 | 21=>87 | 22=>88 | 23=>89 | 24=>90 | 25=>91 | 26=>92 | 27=>93 | 46=>103 | 47=>104 | 48=>105 | 49=>106 | 50=>107 | 57=>114 | n=>n,fun | 22=>36 | 24=>61 | 25=>90 | 3=>3 | 39=>119 | 0=>0 | 53=>137 | 55=>139 | 4=>4 | 46=>131 | 45=>130 | 50=>62 | 5=>5 | 9=>9 | 66=>146 | 70=>150 | 76=>154 | 77=>155 | n=>n,fun | n=>n⟩
theorem YtinlnkhheafjaaaGreatDoor.JL:Go.Proofs.SlLaysF0.n6 Tryz.prog YtinlnkhheafjaaaGreatDoor.Vy:={
 mixed:=by kernel_rfl,
 f6:=⟨Tryz.f48.name,by decide,Tryz.func48.trans (_root_.congrArg some (by kernel_rfl))⟩,
 f14:=⟨Tryz.f74.name,by decide,Tryz.func74.trans (_root_.congrArg some (by kernel_rfl))⟩,
 f15:=Tryz.func75.trans (_root_.congrArg some (by kernel_rfl)),
 f20:=⟨Tryz.f86.name,by decide,Tryz.func86.trans (_root_.congrArg some (by kernel_rfl))⟩,
 f21:=⟨Tryz.f87.name,by decide,Tryz.func87.trans (_root_.congrArg some (by kernel_rfl))⟩,
 f22:=⟨Tryz.f88.name,by decide,Tryz.func88.trans (_root_.congrArg some (by kernel_rfl))⟩,
 f23:=⟨Tryz.f89.name,by decide,Tryz.func89.trans (_root_.congrArg some (by kernel_rfl))⟩,
 f24:=⟨Tryz.f90.name,by decide,Tryz.func90.trans (_root_.congrArg some (by kernel_rfl))⟩,
 f25:=⟨Tryz.f91.name,by decide,Tryz.func91.trans (_root_.congrArg some (by kernel_rfl))⟩,
 f26:=⟨Tryz.f92.name,by decide,Tryz.func92.trans (_root_.congrArg some (by kernel_rfl))⟩,
 f27:=⟨Tryz.f93.name,by decide,Tryz.func93.trans (_root_.congrArg some (by kernel_rfl))⟩,
 f28:=Tryz.func94.trans (_root_.congrArg some (by kernel_rfl)),
 f29:=Tryz.func95.trans (_root_.congrArg some (by kernel_rfl)),
 f46:=⟨Tryz.f103.name,by decide,Tryz.func103.trans (_root_.congrArg some (by kernel_rfl))⟩,
 f47:=Tryz.func104.trans (_root_.congrArg some (by kernel_rfl)),
 f48:=Tryz.func105.trans (_root_.congrArg some (by kernel_rfl)),
 f49:=⟨Tryz.f106.name,by decide,Tryz.func106.trans (_root_.congrArg some (by kernel_rfl))⟩,
 f50:=⟨Tryz.f107.name,by decide,Tryz.func107.trans (_root_.congrArg some (by kernel_rfl))⟩,
 f57:=⟨Tryz.f114.name,by decide,Tryz.func114.trans (_root_.congrArg some (by kernel_rfl))⟩,
 t0:=Tryz.underlying0,
 a0:=Tryz.isAgg0,
 z0:=Tryz.sizeOf0,
 v0:=Tryz.zeroValue0,
 t3:=Tryz.underlying3,
 a3:=Tryz.isAgg3,
 z3:=Tryz.sizeOf3,
 v3:=Tryz.zeroValue3,
 t4:=Tryz.underlying4,
 a4:=Tryz.isAgg4,
 z4:=Tryz.sizeOf4,
 v4:=Tryz.zeroValue4,
 t5:=Tryz.underlying5,
 a5:=Tryz.isAgg5,
 z5:=Tryz.sizeOf5,
 v5:=Tryz.zeroValue5,
 t9:=Tryz.underlying9,
 a9:=Tryz.isAgg9,
 z9:=Tryz.sizeOf9,
 v9:=Tryz.zeroValue9,
 t22:=Tryz.underlying36,
 a22:=Tryz.isAgg36,
 z22:=Tryz.sizeOf36,
 v22:=Tryz.zeroValue36,
 t25:=Tryz.underlying90,
 a25:=Tryz.isAgg90,
 z25:=Tryz.sizeOf90,
 v25:=Tryz.zeroValue90,
 t39:=Tryz.underlying119,
 a39:=Tryz.isAgg119,
 z39:=Tryz.sizeOf119,
 v39:=Tryz.zeroValue119,
 t45:=Tryz.underlying130,
 a45:=Tryz.isAgg130,
 z45:=Tryz.sizeOf130,
 v45:=Tryz.zeroValue130,
 t46:=Tryz.underlying131,
 a46:=Tryz.isAgg131,
 z46:=Tryz.sizeOf131,
 v46:=Tryz.zeroValue131,
 t50:=Tryz.underlying62,
 a50:=Tryz.isAgg62,
 z50:=Tryz.sizeOf62,
 v50:=Tryz.zeroValue62,
 t53:=Tryz.underlying137,
 a53:=Tryz.isAgg137,
 z53:=Tryz.sizeOf137,
 v53:=Tryz.zeroValue137,
 t55:=Tryz.underlying139,
 a55:=Tryz.isAgg139,
 z55:=Tryz.sizeOf139,
 v55:=Tryz.zeroValue139,
 t66:=Tryz.underlying146,
 a66:=Tryz.isAgg146,
 z66:=Tryz.sizeOf146,
 v66:=Tryz.zeroValue146,
 t70:=Tryz.underlying150,
 a70:=Tryz.isAgg150,
 z70:=Tryz.sizeOf150,
 v70:=Tryz.zeroValue150,
 t76:=Tryz.underlying154,
 a76:=Tryz.isAgg154,
 z76:=Tryz.sizeOf154,
 v76:=Tryz.zeroValue154,
 t77:=Tryz.underlying155,
 a77:=Tryz.isAgg155,
 z77:=Tryz.sizeOf155,
 v77:=Tryz.zeroValue155 }
def YtinlnkhheafjaaaGreatDoor.LM:Go.Shelf.Ren:=⟨fun | 5=>50 | 7=>76 | n=>n,fun | 22=>3 | 3=>3 | 4=>4 | n=>n,fun | n=>n⟩
theorem YtinlnkhheafjaaaGreatDoor.LL:Go.Proofs.SlLaysC2.n5 Tryz.prog YtinlnkhheafjaaaGreatDoor.LM:={
 mixed:=by kernel_rfl,
 f5:=⟨Tryz.f50.name,by decide,Tryz.func50.trans (_root_.congrArg some (by kernel_rfl))⟩,
 f7:=⟨Tryz.f76.name,by decide,Tryz.func76.trans (_root_.congrArg some (by kernel_rfl))⟩,
 t3:=Tryz.underlying3,
 a3:=Tryz.isAgg3,
 z3:=Tryz.sizeOf3,
 v3:=Tryz.zeroValue3,
 t4:=Tryz.underlying4,
 a4:=Tryz.isAgg4,
 z4:=Tryz.sizeOf4,
 v4:=Tryz.zeroValue4,
 t22:=Tryz.underlying3,
 a22:=Tryz.isAgg3,
 z22:=Tryz.sizeOf3,
 v22:=Tryz.zeroValue3 }
end Go.Proofs
namespace Go.Proofs.YtinlnkhheafjaaaGreatDoor
open Go.Eng Go.Pi Go.RowKit Go.Shelf
attribute [local go_sem] Oper.semAt_some
set_option maxHeartbeats 1000000 in
theorem K5 (F:Fence) (n:Nat) (hf:F.fn 47) (hro:F.round=none) (a:Option Addr) (len cap:Nat) (w:World) :
  CallsIn F n Tryz.prog 47 #[.slice a len cap] w fun e w'=>e = .returned (.func (.func 73) #[] #[.pointer (some ⟨w.heap.size,0,none⟩)])∧w'=w.alloc (.cells #[.slice a len cap] 36):=by
 refine s9 Tryz.func47 rfl hf ?_ hro
 simp only [Tryz.ntmps47,kT,eP,eJ,Nat.reduceAdd,Nat.reduceSub,pF,pG,pR,pM,jE,lU]
 gi_wp2
 go_ret
 exact ⟨rfl,rfl⟩
set_option maxRecDepth 100000 in
set_option maxHeartbeats 4000000 in
theorem K1 (n l Bs b off len cap:Nat) (hn:1≤n) (mf mo:Nat→Int) (hreach:len*8≤140737488351232) (J Jx:List Nat→World→Prop)
  (hY:∀ pre (x:Nat) W,J pre W→pre.length<len→YieldAt Fence.wide (n - 1) Tryz.prog l #[.int .i64 (x:Int),.agg #[.int .i64 (mf x),.int .i64 (mo x)]] W fun e W' =>
   (e = .returned (.bool true)∧J (pre++[x]) W'∧gF (fun _=>False) W W')∨(e = .returned (.bool false)∧Jx (pre++[x]) W'))
  (W:World) (hBs:W.cell? ⟨Bs,0,none⟩=some (.slice (some ⟨b,off,none⟩) len cap)) (hc:∀ j,j<len→∀ i,i<2→W.cell? ⟨b,off+j*2+i,none⟩=some (wO mf mo j i)) (h0:J [] W) :
  CallsIn Fence.wide n Tryz.prog 73 #[.func (.yield l) #[] #[],.pointer (some ⟨Bs,0,none⟩)] W fun e W'=>(∃ v,e = .returned v) ∧
   (J (gJ len 0) W'∨(∃ k,k≤len∧Jx (gJ len k) W')):=by
 have hl63:len≤17592186044416:=by omega
 refine s9 Tryz.func73 rfl trivial ?_ rfl
 simp only [Tryz.ntmps73,kT,eP,eJ,Nat.reduceAdd,Nat.reduceSub,pF,pG,pR,pM,jE,lU]
 gi_wp2
 gi_loopw [3] (fun i wr=>∃ (k:Nat) (z:Int),k≤len∧i = .int .i64 z∧z=(k:Int) - 1∧J (gJ len k) wr∧gF (fun _=>False) W wr)
  (fun i _=>(intOf i+1).toNat)
 case atStart=>exact ⟨len,_,aX _,rfl,by simp,by rw [tf];exact h0,gF.refl _ _⟩
 case round =>
  obtain ⟨k,z,hk,rfl,hz,hJs,hnx⟩:=hrel
  have hBs':=hnx.cell Bs 0 _ id hBs
  cases k with
  | zero =>
   obtain rfl:z = -1:=by omega
   clear hz
   gi_wp2
   go_end0
   exact ⟨⟨_,rfl⟩,.inl hJs⟩
  | succ k =>
   obtain rfl:z=(k:Int):=by omega
   clear hz
   have c0:wr.cell? ⟨b,off+k*2,none⟩=some (.int .i64 (mf k)):=hnx.cell b _ _ id (hc k (by omega) 0 (by omega))
   have c1:wr.cell? ⟨b,off+k*2+1,none⟩=some (.int .i64 (mo k)):=hnx.cell b _ _ id (hc k (by omega) 1 (by omega))
   obtain ⟨fn,tmps,assign,body,hy,hR⟩:=hY _ k wr hJs (by rw [yU];omega)
   gi_wp2
   refine hR.mono ?_
   rintro e W3 (⟨rfl,hJ3,hk3⟩ | ⟨rfl,hJx3⟩)
   ·gi_wp2
    go_roundw
    case rel=>exact ⟨k,_,by omega,rfl,by simp,by rw [← tg (by omega:k<len)];exact hJ3,hnx.trans hk3⟩
    case measure=>simp [intOf] <;> omega
   ·gi_wp2
    refine bodyPost_ret (results_none rfl _ _ _) rfl ?_
    exact ⟨⟨_,rfl⟩,.inr ⟨k,by omega,by rw [← tg (by omega:k<len)];exact hJx3⟩⟩
set_option maxRecDepth 100000 in
set_option maxHeartbeats 4000000 in
theorem K3 (n l Bs cap:Nat) (a:Option Addr) (J:List Nat→World→Prop)
  (W:World) (hBs:W.cell? ⟨Bs,0,none⟩=some (.slice a 0 cap)) (h0:J [] W) :
  CallsIn Fence.wide n Tryz.prog 73 #[.func (.yield l) #[] #[],.pointer (some ⟨Bs,0,none⟩)] W fun e W'=>(∃ v,e = .returned v)∧J [] W':=by
 refine s9 Tryz.func73 rfl trivial ?_ rfl
 simp only [Tryz.ntmps73,kT,eP,eJ,Nat.reduceAdd,Nat.reduceSub,pF,pG,pR,pM,jE,lU]
 gi_wp2
 gi_loopw [3] (fun i wr=>i = .int .i64 (-1)∧J [] wr) (fun _ _=>0)
 case atStart=>exact ⟨rfl,h0⟩
 case round =>
  obtain ⟨rfl,hJs⟩:=hrel
  gi_wp2
  go_end0
  exact ⟨⟨_,rfl⟩,hJs⟩
set_option maxHeartbeats 1000000 in
theorem LI (x y:Int × Int) (W:World):Calls Tryz.prog 49 #[.agg #[.int .i64 x.1,.int .i64 x.2],.agg #[.int .i64 y.1,.int .i64 y.2]] W fun e w'=>e = .returned (.int .i64 (Go.Lib.compareInt x.1 y.1))∧∃ q os',w'=Go.Sort.grow (W.drewN q) os':=by
 have hcon:=fun W'=>AnyG.cmp_Compare_int LL x.1 y.1 W'
 change ∀ W',Calls Tryz.prog 50 _ _ _ at hcon
 generalize Go.Lib.compareInt x.1 y.1=r at hcon ⊢
 go_enter Tryz.func49,Tryz.ntmps49
 go_wp2_with (go_at_call 50;refine (hcon _).mono ?_;rintro e w' ⟨rfl,rfl⟩)
 go_ret
 exact ⟨rfl,0,_,by rw [Go.Sort.alloc_eq_grow,Go.Sort.alloc_eq_grow,Go.Sort.grow_grow];rfl⟩
theorem Vw (g cap:Nat) (ss:List (Int × Int)) (w:World) (hH:Go.Sort.HoldsK il 2 w g 0 ss.toArray) (hb:g<w.heap.size) (hl:ss.length<4611686018427387904) :
  Calls Tryz.prog 48 #[.slice (some ⟨g,0,none⟩) ss.length cap,.func (.func 49) #[] #[]] w fun e w'=>e = .returned (.tuple #[])∧∃ d' n os,Go.Sort.PermIn 0 ss.length ss.toArray d'∧Go.Sort.SortedIn (ltOf fun x y:Int × Int=>Go.Lib.compareInt x.1 y.1) 0 ss.length d'∧w'=sortWorldK il 2 w g 0 n d' os:=by
 have eg:∀ args w,(callFunc 49 args).run Tryz.prog w = .ok (.enter 49 args) w:=enters_of Tryz.func49 (by kernel_rfl) rfl
 exact AnyQ.slices_SortFunc JL 2 (fun w=>by kernel_rfl) (fun w=>by kernel_rfl) il (fun _=>rfl) (fun x v hv=>by simp [il] at hv;rcases hv with rfl | rfl <;> rfl) (fun x y=>Go.Lib.compareInt x.1 y.1) VI 49 #[] g 0 cap ss.toArray w eg (fun _ _ _ _ x y=>LI x y _) hH hb hl
set_option maxRecDepth 100000 in
set_option maxHeartbeats 4000000 in
theorem Of (n:Nat) (hn:3≤n) (a1 a2:Option Addr) (n1 c1 n2 c2:Nat) (vs:Nat→Nat→Value) (fv tv mf mo:Nat→Int) (w:World) (hl1:n1*8≤1000000000) (hl2:n2*8≤1000000000)
  (hq:n1=0∨∃ b off,a1=some ⟨b,off,none⟩∧b<w.heap.size∧∀ j,j<n1→∀ i,i<11→w.cell? ⟨b,off+j*11+i,none⟩=some (vs j i))
  (hm:n2=0∨∃ b off,a2=some ⟨b,off,none⟩∧b<w.heap.size∧∀ j,j<n2→∀ i,i<2→w.cell? ⟨b,off+j*2+i,none⟩=some (wO mf mo j i))
  (h1c:∀ j i,i<11→(vs j i).oneCell'=true) (hfv:∀ j,vs j 2 = .int .i64 (fv j)) (htv:∀ j,vs j 4 = .int .i64 (tv j)) (hin:∀ j,dZ (fv j)∧dZ (tv j)∧dZ (mf j)∧dZ (mo j)) :
  CallsIn Fence.wide n Tryz.prog 25 #[.slice a1 n1 c1,.slice a2 n2 c2] w fun e W'=>∃ (out:List (Int × Int)) (v:Value),e = .returned v∧lA (nb fv tv (pg mf mo (gJ n2 0)) (List.range n1)) out∧Below w.heap.size w W'∧((out=[]∧v = .slice none 0 0) ∨
   ∃ g cap,v = .slice (some ⟨g,0,none⟩) out.length cap∧w.heap.size≤g∧g<W'.heap.size∧out.length≤cap∧cap≤maxLen∧out≠[]∧∀ (j:Nat) (p:Int × Int),out[j]?=some p→∀ (c:Nat) (u:Value),(il p)[c]?=some u→W'.cell? ⟨g,j*2+c,none⟩=some u):=by
 have h1:1≤n:=by omega
 have hMT:nL Tryz.prog 77 3:=⟨by kernel_rfl,by kernel_rfl,fun w=>by kernel_rfl⟩
 have hKy:=Maps.int_keyed hMT.hk
 have hmk:=@run_makeMap Tryz.prog
 refine callsIn_of_wp_marks Tryz.func25 rfl trivial ?_ rfl
 simp only [Tryz.ntmps25,kT,eP,eJ,Nat.reduceAdd,Nat.reduceSub,pF,pG,pR,pM,jE,lU]
 have hFb:Fence.wide.fn 47:=trivial
 gi_wp2_with (gi_at_call 47;refine (K5 Fence.wide (n - 1) trivial rfl _ _ _ _).mono ?_;rintro e w' ⟨rfl,rfl⟩)
 have cM:=CB.new (w.alloc (.map #[] 0)) #[.map (some w.heap.size)] 77
 have oM:((w.alloc (.map #[] 0)).alloc (.cells #[.map (some w.heap.size)] 77)).ownsMap Tryz.prog 3 (plainElem Tryz.prog 3) w.heap.size 0 (.map []:DataW Unit):=(World.ownsMap_made w Tryz.prog 3 _).alloc _
 have hB0:Below w.heap.size w (((w.alloc (.map #[] 0)).alloc (.cells #[.map (some w.heap.size)] 77)).alloc (.cells #[.slice a2 n2 c2] 36)):=(((Below.refl _ w).alloc (aX _) _).alloc (by simp) _).alloc (by simp;omega) _
 have hI:(((w.alloc (.map #[] 0)).alloc (.cells #[.map (some w.heap.size)] 77)).alloc (.cells #[.slice a2 n2 c2] 36)).heap.size=w.heap.size+3:=by simp
 have cB:=CB.new ((w.alloc (.map #[] 0)).alloc (.cells #[.map (some w.heap.size)] 77)) #[.slice a2 n2 c2] 36
 replace cM:=cM.alloc (.cells #[.slice a2 n2 c2] 36)
 replace oM:=oM.alloc (.cells #[.slice a2 n2 c2] 36)
 simp only [World.size_alloc] at cM cB
 obtain ⟨W0,hW0⟩:∃ W0,((w.alloc (.map #[] 0)).alloc (.cells #[.map (some w.heap.size)] 77)).alloc (.cells #[.slice a2 n2 c2] 36)=W0:=⟨_,rfl⟩
 rw [hW0] at cM oM cB hB0 hI ⊢
 clear hW0
 refine wpIn_rangeFunc_ownH rfl h1 (gf:=73) (lb := #[.pointer (some ⟨w.heap.size+1+1,0,none⟩)]) rfl trivial (enters_of Tryz.func73 (by kernel_rfl) rfl)
  (encs:=Fu mf mo) (Kp:=gF fun _=>False) (S:=fun ys=>ys=gJ n2 0) (Sp:=fun pre=>∃ k,k≤n2∧pre=gJ n2 k) (N:=n2) (w0:=W0) ?seq (fun h k=>h.trans k) (fun W l o o' _ ho hc _=>gF.putObj o' ho hc) (Below.refl _ _) (fun _=>rfl)
  (fun pre W=>(∃ A:DataW Unit,W.ownsMap Tryz.prog 3 (plainElem Tryz.prog 3) w.heap.size pre.length A∧jW A (pg mf mo pre))∧CB W (w.heap.size+1) #[.map (some w.heap.size)] 77∧Below w.heap.size w W∧w.heap.size+3≤W.heap.size)
  (fun c pre W=>False)
  ?own (fun _ _ _ _ _ h=>h.elim) ⟨⟨_,oM,jW.empty⟩,cM,hB0,by omega⟩
  (fun x a' W=>∃ Bx,w.heap.size+1<Bx∧CB W Bx #[.int .i64 (mf x),.int .i64 (mo x)] 61∧a'={ tmps := #[Value.slice a1 n1 c1,Value.slice a2 n2 c2,undef,undef,.slice none 0 0,.pointer (some ⟨w.heap.size+1,0,none⟩),undef,.pointer (some ⟨Bx,0,none⟩),undef,undef,undef,undef,undef,.map (some w.heap.size),Value.slice a2 n2 c2,.func (.func 73) #[] #[.pointer (some ⟨w.heap.size+1+1,0,none⟩)],.int .i64 (x:Int),.agg #[.int .i64 (mf x),.int .i64 (mo x)],undef,undef,undef,undef,undef,undef,undef,undef,undef,undef,undef,undef,undef,undef,undef,undef,undef,undef,undef,undef,undef,undef,undef,undef,undef,undef,undef,undef,undef,undef,undef,undef,undef,undef,undef],defers:=[] })
  ?ax ?assign ?body ?done ?stop
 case seq =>
  intro l J Jx W hW _ _ hY h0
  have hcB:W.cell? ⟨w.heap.size+1+1,0,none⟩=some (.slice a2 n2 c2):=(hW.cell (p:=⟨w.heap.size+1+1,0,none⟩) (by show w.heap.size+1+1<W0.heap.size;omega)).trans (cB.cell 0)
  rcases hm with rfl | ⟨b,off,rfl,hb,hc⟩
  ·exact (K3 (n - 1) l (w.heap.size+1+1) c2 a2 J W hcB h0).mono fun e W' ⟨he,hj⟩=>⟨he,.inl ⟨_,(tf 0).symm,hj⟩⟩
  ·refine (K1 (n - 1) l (w.heap.size+1+1) b off n2 c2 (by omega) mf mo (by omega) J Jx hY W hcB (fun j hj i hi=>?_) h0).mono ?_
   ·exact (hW.cell (p:=⟨b,off+j*2+i,none⟩) (by show b<W0.heap.size;omega)).trans ((hB0.cell (p:=⟨b,off+j*2+i,none⟩) hb).trans (hc j hj i hi))
   ·rintro e W' ⟨he,h | ⟨k,hk,h⟩⟩
    ·exact ⟨he,.inl ⟨_,rfl,h⟩⟩
    ·exact ⟨he,.inr ⟨_,⟨k,hk,rfl⟩,h⟩⟩
 case own =>
  rintro s A B row ⟨⟨D,h1,h2⟩,h4,h5,h6⟩ hg hr
  exact ⟨⟨D,h1.kept hg (fun e=>by have:=(hr _ e.symm).1;omega),h2⟩,h4.grown hg fun r e=>(hr r e).2,h5.grown hg h5.size (fun k e=>by have:=(hr k e).1;omega),hX h6 hg.size⟩
 case ax =>
  rintro x a' s A B row ⟨Bx,h1,h2,h3⟩ hg hr
  exact ⟨Bx,h1,h2.grown hg fun r e=>(hr r e).2,h3⟩
 case assign =>
  rintro l pre x W K ⟨hA,i1,i2,i3⟩ hK
  dsimp only [Fu]
  gi_wp2
  exact hK _ _ ((KeepsOthers.alloc _ _).from _) (gF.alloc _ _) ⟨by obtain ⟨D,h1,h2⟩:=hA;exact ⟨D,h1.alloc _,h2⟩,i1.alloc _,i2.alloc i2.size _,by simp;omega⟩ ⟨W.heap.size,i1.lt,CB.new W _ 61,rfl⟩
 case body =>
  rintro l pre x a' W _ _ ⟨⟨D,h1,h2⟩,i1,i2,i3⟩ ⟨Bx,hBx,bX,rfl⟩ hpl
  obtain ⟨q1,q2,q3,q4⟩:=hin x
  have x0:W.cell? ⟨Bx,0,none⟩=some (.int .i64 (mf x)):=bX.cell 0
  have x1:W.cell? ⟨Bx,1,none⟩=some (.int .i64 (mo x)):=bX.cell 1
  have y0:W.cell? ⟨w.heap.size+1,0,none⟩=some (.map (some w.heap.size)):=i1.cell 0
  gi_wp2_with (gi_at_mapUpdate;refine wpListIn_mapUpdate_own _ rfl _ _ _ 77 rfl 3 3 hKy hMT.ht (plainElem Tryz.prog 3) w.heap.size pre.length D rfl h1 (by unfold maxLen;omega) _ _ _ rfl rfl (hMT.key q3) _ [] (plainElem_int hMT.hk (pz.2 q4)) ?_;intro w1 hown1 hgrow1)
  have hl:∃ o:Obj,W.heap[w.heap.size]?=some o∧o.isCells=false:=by obtain ⟨es,clock,hb,_⟩:=h1;exact ⟨_,hb,rfl⟩
  obtain ⟨o,hl,ho⟩:=hl
  refine ⟨KeepsFrom.of_grownBy hgrow1 fun j hj=>by cases hj;omega,Ry hgrow1 hl ho,⟨_,by rw [dL];exact hown1,by rw [TB];exact jW.put hMT h2 q3⟩,i1.grown hgrow1 fun r e=>by cases e;exact ⟨o,hl,ho⟩,i2.grown hgrow1 i2.size fun k e=>by cases e;omega,hX i3 hgrow1.size⟩
 case stop=>exact fun D c pre W hD hS h=>h.elim
 case done =>
  rintro D ys W hD rfl ⟨⟨A,h1,h2⟩,i1,i2,i3⟩ hK
  have hDl:∃ G:Int→Option Int,G=pg mf mo (gJ n2 0):=⟨_,rfl⟩
  obtain ⟨G,hG⟩:=hDl
  rw [← hG] at h2
  rw [yU,Nat.sub_zero] at h1
  gi_wp2
  gi_loopw [25] (fun p wr=>∃ k:Nat,k≤n1∧p = .int .i64 k∧(∃ A:DataW Unit,wr.ownsMap Tryz.prog 3 (plainElem Tryz.prog 3) w.heap.size (n2+k) A∧jW A (nb fv tv G (List.range k)))∧CB wr (w.heap.size+1) #[.map (some w.heap.size)] 77∧Below w.heap.size w wr∧w.heap.size+3≤wr.heap.size∧wr.heap[D]?=some (.deferred (some [])))
   (fun p _=>n1 - (intOf p).toNat)
  case atStart=>exact ⟨0,jr _,rfl,⟨A,h1,h2⟩,i1,i2,i3,hK⟩
  case round =>
   obtain ⟨k,hk,rfl,⟨A',h1',h2'⟩,j1,j2,j3,hKr⟩:=hrel
   have y0:wr.cell? ⟨w.heap.size+1,0,none⟩=some (.map (some w.heap.size)):=j1.cell 0
   by_cases hlt:k<n1
   ·rcases hq with hq | ⟨b,off,rfl,hb,hc⟩
    ·omega
    have hcc:∀ i,i<11→wr.cell? ⟨b,off+k*11+i,none⟩=some (vs k i):=fun i hi=>(j2.cell (p:=⟨b,off+k*11+i,none⟩) hb).trans (hc k hlt i hi)
    have cc0:wr.cell? ⟨b,off+k*11,none⟩=some (vs k 0):=hcc 0 (by omega)
    have cc1:=hcc 1 (by omega)
    have cc2:=hcc 2 (by omega)
    have cc3:=hcc 3 (by omega)
    have cc4:=hcc 4 (by omega)
    have cc5:=hcc 5 (by omega)
    have cc6:=hcc 6 (by omega)
    have cc7:=hcc 7 (by omega)
    have cc8:=hcc 8 (by omega)
    have cc9:=hcc 9 (by omega)
    have cc10:=hcc 10 (by omega)
    clear hcc hc
    have o0:=fun (w:World) (a:Addr) (m:Mode)=>iG Tryz.prog w a (vs k 0) m (h1c k 0 (by omega))
    have o1:=fun (w:World) (a:Addr) (m:Mode)=>iG Tryz.prog w a (vs k 1) m (h1c k 1 (by omega))
    have o2:=fun (w:World) (a:Addr) (m:Mode)=>iG Tryz.prog w a (vs k 2) m (h1c k 2 (by omega))
    have o3:=fun (w:World) (a:Addr) (m:Mode)=>iG Tryz.prog w a (vs k 3) m (h1c k 3 (by omega))
    have o4:=fun (w:World) (a:Addr) (m:Mode)=>iG Tryz.prog w a (vs k 4) m (h1c k 4 (by omega))
    have o5:=fun (w:World) (a:Addr) (m:Mode)=>iG Tryz.prog w a (vs k 5) m (h1c k 5 (by omega))
    have o6:=fun (w:World) (a:Addr) (m:Mode)=>iG Tryz.prog w a (vs k 6) m (h1c k 6 (by omega))
    have o7:=fun (w:World) (a:Addr) (m:Mode)=>iG Tryz.prog w a (vs k 7) m (h1c k 7 (by omega))
    have o8:=fun (w:World) (a:Addr) (m:Mode)=>iG Tryz.prog w a (vs k 8) m (h1c k 8 (by omega))
    have o9:=fun (w:World) (a:Addr) (m:Mode)=>iG Tryz.prog w a (vs k 9) m (h1c k 9 (by omega))
    have o10:=fun (w:World) (a:Addr) (m:Mode)=>iG Tryz.prog w a (vs k 10) m (h1c k 10 (by omega))
    have hf2:=hfv k
    have ht4:=htv k
    obtain ⟨q1,q2,q3,q4⟩:=hin k
    have y1:∀ o,(wr.alloc o).cell? ⟨w.heap.size+1,0,none⟩=some (.map (some w.heap.size)):=fun o=>(j1.alloc o).cell 0
    gi_wp2_with (gi_at_mapUpdate;(refine wpListIn_mapUpdate_own _ rfl _ _ _ 77 rfl 3 3 hKy hMT.ht (plainElem Tryz.prog 3) w.heap.size (n2+k) A' rfl (h1'.alloc _) (by unfold maxLen;omega) _ _ _ rfl rfl (hMT.key q1) _ [] (plainElem_int hMT.hk (pz.2 q2)) ?_;intro w1 hown1 hgrow1))
    go_roundw
    case rel =>
     have hl:∃ o:Obj,wr.heap[w.heap.size]?=some o∧o.isCells=false:=by obtain ⟨es,clock,hb,_⟩:=h1';exact ⟨_,hb,rfl⟩
     obtain ⟨o,hl,ho⟩:=hl
     have hl':∀ o',(wr.alloc o').heap[w.heap.size]?=some o:=fun o'=>by
      have hlt:w.heap.size<wr.heap.size:=(iI.1 hl).1
      exact (Below.heap_alloc _ _ _ hlt).trans hl
     refine ⟨k+1,by omega,by simp,⟨_,hown1,?_⟩,(j1.alloc _).grown hgrow1 fun r e=>by cases e;exact ⟨o,hl' _,ho⟩,(j2.alloc j2.size _).grown hgrow1 (by have:=j2.size;simp;omega) fun k e=>by cases e;omega,hX (by simp;omega) hgrow1.size,?_⟩
     ·rw [pT,GH];exact jW.put hMT h2' q1
     ·have hDlt:D<wr.heap.size:=(iI.1 hKr).1
      rw [hgrow1.block D (by simp;omega) (by simp;omega)]
      exact (Below.heap_alloc _ _ _ hDlt).trans hKr
    case measure=>simp [intOf] <;> omega
   ·obtain rfl:k=n1:=by omega
    obtain ⟨i0,hi,hz0,hz1,hz2⟩:=info_parts (show (Tryz.prog.info? 61).map (fun i=>(i.zero,i.size,i.bytes))=some (some (.agg #[.int .i64 0,.int .i64 0]),2,16) by kernel_rfl)
    have hU:Tryz.prog.underlying 36=some (.slice 61):=by kernel_rfl
    have hsl:=h1'.size_le
    gi_wp2_with (gi_at_range;refine wpListIn_range_own _ rfl _ 77 rfl 3 3 hKy hMT.ht _ w.heap.size (n2+k) A' rfl h1' ?_;intro w0 hrg0 hg0 hs0)
    have hit:∃ it,it=wr.heap.size:=⟨_,rfl⟩
    obtain ⟨it,hit⟩:=hit
    have hits:w.heap.size+3≤it∧D<it:=⟨by omega,by rw [hit];exact (iI.1 hKr).1⟩
    rw [← hit] at hrg0 ⊢
    clear hit
    have hKw:w0.heap[D]?=some (.deferred (some [])):=(hg0.block D (iI.1 hKr).1 (by simp)).trans hKr
    have jw0:=j2.grown hg0 j2.size (fun k e=>by cases e)
    clear hs0
    go_frame
    gi_loopw [10] (fun v wr=>∃ (left:Lit→Bool) (nO:Nat) (ss:List (Int × Int)),wr.ranges Tryz.prog 3 (plainElem Tryz.prog 3) w.heap.size it (n2+k) A' left nO∧ss.length+nO≤Maps.size A' ∧
      wr.ownsRow (w.heap.size+2) 61 2 v ss.length (ss.map il).flatten∧(v = .slice none 0 0↔ss=[])∧om (nb fv tv G (List.range k)) left ss∧Below w.heap.size w wr∧wr.heap[D]?=some (.deferred (some []))∧w.heap.size+3≤wr.heap.size)
     (fun _ wr=>wr.rangeLeft w.heap.size it)
    case atStart=>exact ⟨_,_,[],hrg0,by simp,World.ownsRow_nil _ _ _ _,by simp,om.start h2',jw0,hKw,hX j3 hg0.size⟩
    case round =>
     obtain ⟨left,nO,ss,hrg,hcs,hrow,hnn,hC,hnx,hKx,hs3⟩:=hrel
     gi_wp2_with (gi_at_next;refine wpListIn_next_ranges_ii _ rfl _ rfl 3 3 .i64 .i64 hKy hMT.hk hMT.hk w.heap.size it (n2+k) _ _ _ rfl hrg ?_ ?_)
     ·intro nZ hl0
      have hFs:Fence.wide.fn 48:=trivial
      rcases hrow.2 with ⟨rfl,_⟩ | ⟨g,cap,cur,rfl,hbase,hb,hr1,hr2,hr3,hr4⟩
      ·obtain rfl:=hnn.1 rfl
       have hc:=AnyF.slices_SortFunc_none JL none 0 (.func (.func 49) #[] #[]) wr
       change Calls Tryz.prog 48 _ _ _ at hc
       gi_wp2_with (gi_at_call 48;refine (vr.2 hc).mono ?_;rintro e w' ⟨rfl,rfl⟩)
       refine ⟨by simp,.inl ⟨_,_,rfl,Cl hKx,?_⟩⟩
       exact ⟨_,results_tmp rfl _ _ _,[],_,rfl,⟨fun p=>by
        constructor
        ·intro h;simp at h
        ·rintro ⟨hx,hfx⟩
         have hno:¬ (left (.int .i64 p.1)=true):=by rw [hl0];simp
         rw [hC.left _ hx,hG] at *
         exact absurd ⟨by rw [hfx];rfl,fun p hp=>by simp at hp⟩ hno,.nil⟩,hnx.trans (belowK_b (w:=w) (aX _) _ D _ _ (by omega) hKx rfl rfl),.inl ⟨rfl,rfl⟩⟩
      ·have hgl:g<wr.heap.size:=(iI.1 hb).1
       have hc:=Vw g cap ss wr (G8 hb hr4) hgl (by omega)
       gi_wp2_with (gi_at_call 48;refine (vr.2 hc).mono ?_;rintro e w' ⟨rfl,d',nn,os,hp,hs,hw⟩;have hg5:wr.grownBy w' (some g):=hw▸QE d';have hH5:Go.Sort.HoldsK il 2 w' g 0 d':=hw▸holdsK_sortWorldK il 2 wr g 0 nn ss.toArray d' os hgl (G8 hb hr4) hp.1;clear hw hc)
       have hKlt:D<wr.heap.size:=(iI.1 hKx).1
       have hDg:D≠g:=fun e=>by rw [e,hb] at hKx;cases hKx
       have hK5:w'.heap[D]?=some (.deferred (some [])):=(hg5.block D hKlt (fun e=>hDg (by cases e;rfl))).trans hKx
       obtain ⟨hsz',hout⟩:=VA hC hl0 hp hs
       have hol:d'.toList.length=ss.length:=by simpa using hsz'
       have hne:ss≠[]:=fun e=>by have:=hnn.2 e;cases this
       have hg5s:=hg5.size
       refine ⟨by simp,.inl ⟨_,_,rfl,Cl hK5,?_⟩⟩
       refine ⟨_,results_tmp rfl _ _ _,d'.toList,_,rfl,by rw [← hG];exact hout,(hnx.grown hg5 hnx.size (fun j hj=>by cases hj;omega)).trans (belowK_b (w:=w) (aX _) _ D _ _ (by omega) hK5 rfl rfl),.inr ⟨g,cap,by rw [hol];rfl,by omega,by simp;omega,by omega,hr2,fun e=>hne (fQ (by rw [← hol,e];rfl)),?_⟩⟩
       intro j p hj c u hu
       have hjl:j<d'.size:=by simpa using (bO.1 hj).1
       have gE:c<2:=(bO.1 hu).1
       have h6:=(hH5.cell (i:=j) (c:=c) hjl gE).1
       have e1:d'[j]! = p:=by
        rw [zF d' j hjl]
        have:=(bO.1 hj).2
        simpa using this
       have e2:(il p)[c]! = u:=by
        rw [zF (il p) c gE]
        exact (bO.1 hu).2
       rw [e1,e2,dF] at h6
       rw [oF (w:=w') (World.putObj_heap_other (fun e=>hDg e.symm))]
       exact h6
     ·intro x c w2 cnt2 hwx hwc hlk hat hrg2 hlt hg2 hs2 hen
      have hrow2:=hrow.kept hg2 (Or.inr (row_ne_iter hrow hrg).symm)
      have hs4:w.heap.size+2≤w2.heap.size:=by omega
      clear hs2
      gi_wp2_with (gi_at_builtin;(refine wpListIn_append_own _ rfl _ _ 36 rfl (w.heap.size+2) 61 i0 _ 2 16 hU hi hz0 hz1 hz2 rfl (by decide) _ _ _ rfl (hrow2.alloc _) ⟨w2.heap.size,0,none⟩ 1 1 (il (x,c)) rfl rfl (LB w2 (il (x,c)) 61) (by simp [Value.oneCell',il]) (by unfold maxLen;omega) (by omega) (by simp;omega) ?_;intro v' w3 hown' hg3 hnil3))
      have hbl:w.heap.size<w.heap.size+2:=by omega
      have hrg3:=(hrg2.alloc (.cells #[.int .i64 x,.int .i64 c] 61)).kept hg3 (row_ne_low hrow2 hbl) (row_ne_iter hrow2 hrg2)
      have hK2:w2.heap[D]?=some (.deferred (some [])):=(hg2.block D (iI.1 hKx).1 (fun e=>by cases e;omega)).trans hKx
      have hK3:w3.heap[D]?=some (.deferred (some [])):=by
       have hlt2:=(iI.1 hK2).1
       have e1:=Below.heap_alloc w2 (.cells #[.int .i64 x,.int .i64 c] 61) D hlt2
       exact (hg3.block D (by simp;omega) (Uq (hrow2.alloc _) (e1.trans hK2) rfl)).trans (e1.trans hK2)
      go_roundw
      case rel =>
       refine ⟨_,cnt2,ss++[(x,c)],hrg3,by simp;omega,by simpa using hown',⟨fun hv'=>by have:=(hnil3.1 hv').2;omega,fun h=>by simp at h⟩,hC.step h2' (pz.1 hwx) (pz.1 hwc) hlk hat,?_,hK3,?_⟩
       ·exact ((hnx.grown hg2 hnx.size (fun j hj=>by cases hj;omega)).alloc (by have:=hnx.size;have:=hg2.size;omega) _).grown hg3 (by have:=hnx.size;have:=hg2.size;simp;omega) (fun j hj=>by have:=(hrow2.lt j hj).1;omega)
       ·have:=hg2.size;have:=hg3.size;simp at this;omega
      case measure=>rw [hrg3.left_eq,hrg.left_eq];exact hlt
theorem Oe:C3 Tryz.prog 25:=⟨fun a1 a2 n1 c1 n2 c2 vs fv tv mf mo w h1 h2 h3 h4 h5 h6 h7 h8=>vr.1 (Of 3 (by omega) a1 a2 n1 c1 n2 c2 vs fv tv mf mo w h1 h2 h3 h4 h5 h6 h7 h8)⟩
end Go.Proofs.YtinlnkhheafjaaaGreatDoor
namespace Go.Proofs.YtinlnkhheafjaaaGreatDoor
open Go.Eng Go.Pi
theorem WJ(X:Cx):hQ Tryz.prog X xt:=λf args h e i a g k c j d=>by
 unfold xt at a;split at a
 ·rename_i b;subst b;exact LK a c d
 ·skip
  split at a
  ·rename_i b;subst b;exact RR RS Tryz.call28 a c d
  ·skip
   cases a
theorem Fe:hQ Tryz.prog X R:=Jh (X:=X) CH BO (WJ X) (zD zB P9)
theorem Sn:qX cA:=λ_ _ _ _ a=>pc.1 a
theorem WI:hQ Tryz.prog X1 su:=λj args k f h a g i c e d=>by
 unfold su at a;split at a
 ·rename_i b;subst b;exact To (X:=X) Tu CH BO Fe Sn OZ (r:=(f,h)) (Wd a) c e d
 ·skip
  split at a
  ·rename_i b;subst b;exact Gq Oe Tryz.call25 a c d
  ·skip
   exact Fe _ _ _ _ _ a g i c e d
theorem KN:hQ Tryz.prog X1 R1:=Jh (X:=X1) CH BO WI (zD zC Qa)
end Go.Proofs.YtinlnkhheafjaaaGreatDoor
