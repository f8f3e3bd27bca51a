/- Part 5 of the texts that the theorem needs: an interpreter on data, proved sound; the functions on data; laws about them. -/
import Derived.Test.YtinlnkhheafjaaaDoorM4
import Derived.Test.YtinlnkhheafjaaaDoorM3
import Derived.RangeFuncNested
import Derived.RangeFuncLeaves
import Derived.Laws.Externs
import Derived.Shelf.SlSortCmp.WholeK
import Derived.Sort.OwnSorted
import Derived.Test.YtinlnkhheafjaaaDoorChecked
import Derived.RangeFuncBox
import Derived.Shelf.Abstract
import Derived.WalkKit
import Derived.OwnWalkIn
import Derived.TacticsInMore
import Derived.LoopNIn
import Derived.LoopIn
import Derived.KernelRfl
import Derived.Carry
import Derived.Maps.OwnIn
import Derived.Sort.MapsRangeIn
import Derived.Shelf.SlSortCmp.NoneTotal
import Derived.Shelf.SlicesG.Cmp
set_option linter.unusedSimpArgs false
set_option linter.unusedVariables false
set_option linter.unnecessarySimpa false
namespace Go.Pi
open Go.Eng
def Eh:D→Bool
 |.J=>true
 |.sl _ _ _=>true
 |_=>false
def Gx:D→Int→D
 |.sl _ _ rows,a =>.sl 1 false (rows.drop a.toNat)
 |d,_=>d
def nB:D→Option Nat
 |.J=>some 0
 | .sl 1 _ rows=>match l9 rows with
  |some _=>some rows.length
  |none=>none
 |_=>none
def rh(R:cE)(f:Nat)(d:D)(b:Nat):Nat→Int→Option (List (List D × Int))
 |0,_=>none
 | k+1,a=>match R f [Gx d a] []with
  |some (.bN [.agg [.int .i64 c,y,z],.int .i64 n,.int .i64 e],[])=>if Eh y=true∧Eh z=true then(if e=0 then(if 0<n∧a+n≤b then(rh R f d b k (a+n)).map (([.int .i64 c,y,z],a+n) :: ·)else none)else some [])else none
  |_=>none
def vj(R:cE)(b:Nat):List D→Option (List (List D × Int))
 | [d]=>match nB d with
  |some a=>if a≤10000000000 then rh R b d a (a+1) 0 else none
  |none=>none
 |_=>none
def GB(R:cE)(b:Nat)(args:List D)(h:Z):Option (D × Z):=(vj R b args).bind λa=>some (if a=[]then .J else .sl 1 false (a.map λc=>[.int .i64 c.2]),h)
end Go.Pi
namespace Go.Eng
abbrev rQ:=@KeepsOthers.setCell
end Go.Eng
namespace Go.Pi
open Go.Eng Go.RowKit
structure fx (L:Nat→Prop) (W W':World):Prop where
 size:W.heap.size≤W'.heap.size
 cell:∀b i v,¬L b→W.cell? ⟨b,i,none⟩=some v→W'.cell? ⟨b,i,none⟩=some v
theorem fx.refl(b:Nat→Prop)(a:World):fx b a a:=⟨aS _,λ_ _ _ _ c=>c⟩
theorem fx.trans{a:Nat→Prop}{b c C:World}(h:fx a b c)(k:fx a c C):fx a b C:=⟨gX h.size k.size,λd f g e i=>k.cell d f g e (h.cell d f g e i)⟩
theorem fx.below{e:Nat→Prop}{a b:World}(h:Below a.heap.size a b):fx e a b:=⟨h.size,λc g i _ d=>by
 have f:c<a.heap.size:=r9 a _ d;rw[l5 (w:=a) (h.block c f)];exact d⟩
theorem fx.putObj{c:Nat→Prop}{a:World}{l:Nat}{o:Obj}(h:Obj)(f:a.heap[l]?=some o)(i:o.isCells=false):fx c a (a.putObj l h):=⟨by simp,λd j k _ b=>by
 have g:d≠l:=λe=>by
  subst e;unfold World.cell? at b;rw[f]at b;cases o<;>simp_all [Obj.isCells]
 rw[l5 (w:=a) (World.putObj_heap_other g)];exact b⟩
theorem fx.alloc{b:Nat→Prop}(a:World)(o:Obj):fx b a (a.alloc o) :=.below ((Below.refl _ a).alloc (aS _) o)
theorem fx.set{c:Nat→Prop}(b:World)(a:Addr)(v:Value)(h:c a.block):fx c b (b.setCell a v):=⟨(rQ b a v).size,λd i j e g=>by
 rw[l5 (w:=b) (Below.heap_setCell b a v d λf=>e (f▸h))];exact g⟩
theorem fx.drew{b:Nat→Prop}(a:World):fx b a a.drew:=⟨aS _,λ_ _ _ _ c=>c⟩
def Gh.off(L:Nat→Prop)(a:World):Gh:=⟨a,[],L⟩
theorem aB.move{g g':Gh}(E:∀(o:Nat) (m:Me),g.ms[o]?=some m→g'.ms[o]?=some m)(A:∀b,g.fz b→g'.fz b)(z:∀b i v,g.fz b→g.w.cell? ⟨b,i,none⟩=some v→g'.w.cell? ⟨b,i,none⟩=some v){v:Value}{d:D}(h:aB g v d):aB g' v d:=by
 induction h with
 |any v=>exact .any v
 |bG=>exact .bG
 |bool b=>exact .bool b
 |int ad n=>exact .int ad n
 |str ai=>exact .str ai
 |gb=>exact .gb
 |ptr o i ae m u=>exact .ptr o i ae m (E _ _ u)
 | aD b o l c B q e x a =>
  refine .aD b o l c (λf=>A _ (B f)) (λy d j=>?_) e a;exact z _ _ _ (B λs=>by subst s;cases j) (q y d j)
 |J=>exact .J
 | sl G n k aj L ah f Q r M T R p c q e x a =>
  refine .sl G n k aj L ah f Q r M T R (λF=>⟨(p F).1,A _ (p F).2⟩) c (λi ag C y d j=>?_) e a;exact z _ _ _ (p λs=>by subst s;cases C).2 (q i ag C y d j)
 |S o af n k m u f P N r=>exact .S o af n k m (E _ _ u) f P N r
 |ic=>exact .ic
 |fn K first H am al aa X ao an ac ab=>exact .fn K first H am al aa X ac ab
 |iY=>exact .iY
 |iface ak v d h a=>exact .iface ak v d a
 |agg c l t e x a=>exact .agg c l t e a
 |bN c I t x a=>exact .bN c I t a
 |raw v=>exact .raw _
theorem aB.aX{a:Nat→Prop}{c e:World}(i:fx a c e){v:Value}{d:D}(h:aB (Gh.off a c) v d):aB (Gh.off a e) v d:=
 aB.move (g:=Gh.off a c) (g':=Gh.off a e) (λ_ _ h=>h) (λf b=>⟨hX b.1 i.size,b.2⟩) (λf k v b j=>i.cell f k v b.2 j) h
variable {F:Fence} {n:Nat} {P:Program}
structure RX where
 k:Int
 p1:Option Addr
 l1:Nat
 c1:Nat
 p2:Option Addr
 l2:Nat
 c2:Nat
 d1:D
 d2:D
 at_:Int
def RX.val(x:RX):Value :=.agg #[.int .i64 x.k,.slice x.p1 x.l1 x.c1,.slice x.p2 x.l2 x.c2]
def RX.enc(x:RX):Array Value := #[.agg #[.int .i64 x.k,.slice x.p1 x.l1 x.c1,.slice x.p2 x.l2 x.c2],.int .i64 x.at_]
def RX.row(x:RX):List D:=[.int .i64 x.k,x.d1,x.d2]
def RX.GD(x:RX):List D × Int:=(x.row,x.at_)
def RX.OK(a:Nat→Prop)(x:RX)(b:World):Prop:=aB (Gh.off a b) x.val (.agg x.row)
theorem RX.OK.aX{a:Nat→Prop}{x:RX}{b c:World}(h:x.OK a b)(k:fx a b c):x.OK a c:=aB.aX k h
def CB(a:World)(b:Nat)(cs:Array Value)(t:TypeId):Prop:=a.heap[b]?=some (.cells cs t (0,0))
theorem CB.below{a c:World}{b:Nat}{cs:Array Value}{t:TypeId}(h:CB a b cs t)(d:Below a.heap.size a c):CB c b cs t:=(d.block b (gL.1 h).1).trans h
theorem CB.grown{a c:World}{b:Nat}{cs:Array Value}{t:TypeId}(h:CB a b cs t){row:Option Nat}(d:a.grownBy c row)(e:∀r,row=some r→∃o:Obj,a.heap[r]?=some o∧o.isCells=false):CB c b cs t:=(grownBy_keeps_cells d e h rfl).trans h
theorem CB.put{a:World}{b:Nat}{cs:Array Value}{t:TypeId}(h:CB a b cs t){l:Nat}{o:Obj}(c:Obj)(e:a.heap[l]?=some o)(f:o.isCells=false):CB (a.putObj l c) b cs t:=h.grown (grownBy_putObj' a l c) λg d=>by cases d;exact⟨o,e,f⟩
theorem CB.alloc{a:World}{b:Nat}{cs:Array Value}{t:TypeId}(h:CB a b cs t)(o:Obj):CB (a.alloc o) b cs t:=h.below ((Below.refl _ a).alloc (aS _) o)
theorem CB.new(a:World)(cs:Array Value)(t:TypeId):CB (a.alloc (.cells cs t)) a.heap.size cs t:=World.alloc_heap_new a _
theorem CB.set{a:World}{b:Nat}{cs:Array Value}{t:TypeId}(h:CB a b cs t)(i:Nat)(v:Value):CB (a.setCell ⟨b,i,none⟩ v) b (cs.setIfInBounds i v) t:=by
 obtain⟨d,c⟩:=gL.1 h;show(a.heap.modify b _)[b]?=_;rw[ln (by rw[Array.size_modify];exact d),Array.getElem_modify_self,c];rfl
theorem CB.other{a:World}{b:Nat}{cs:Array Value}{t:TypeId}(h:CB a b cs t){c i:Nat}(v:Value)(d:b≠c):CB (a.setCell ⟨c,i,none⟩ v) b cs t:=(Below.heap_setCell a ⟨c,i,none⟩ v b d).trans h
theorem CB.lt{a:World}{b:Nat}{cs:Array Value}{t:TypeId}(h:CB a b cs t):b<a.heap.size:=(gL.1 h).1
theorem CB.cell{a:World}{b:Nat}{cs:Array Value}{t:TypeId}(h:CB a b cs t)(i:Nat):a.cell? ⟨b,i,none⟩=cs[i]?:=by
 unfold World.cell?;simp only[show a.heap[b]?=_ from h];simp
theorem CB.frozen{a:World}{b:Nat}{cs:Array Value}{t:TypeId}(h:CB a b cs t)(i:Nat):a.frozen? ⟨b,i,none⟩=false:=by
 unfold World.frozen?;simp only[show a.heap[b]?=_ from h];simp
theorem fx.grown{b:Nat→Prop}{a c:World}{row:Option Nat}(e:a.grownBy c row)(i:∀r,row=some r→b r):fx b a c:=⟨e.size,λd j k h f=>by
 rw[l5 (w:=a) (e.block d (r9 a _ f) λg=>h (i d g.symm))];exact f⟩
def CG(a:List RX):RX:=(a.getLast?).getD ⟨0,none,0,0,none,0,0,.J,.J,0⟩
def RX.cs(x:RX):Array Value := #[.int .i64 x.k,.slice x.p1 x.l1 x.c1,.slice x.p2 x.l2 x.c2]
structure Fu (P:Program) (X:Cx) (R:cE) (fl fe fd te:FuncId):Prop where
 last:∀(L:Nat→Prop) (len:Nat) (w:World) (a:Option Addr) (m c:Nat) (d:D) (recs:List (List D × Int)),len≤10000000000→(∀b,L b→b<w.heap.size)→aB (Gh.off L w) (.slice a m c) d→nB d=some len→eR (Gh.off L w) X.gl →
  rh R fd d len (len+1) 0=some recs→Calls P fl #[.slice a m c] w λe W'=>∃xs:List RX,xs.map RX.GD=recs∧(∀x∈xs,x.OK L W')∧Below w.heap.size w W'∧e = .returned (.tuple #[(CG xs).val,.int .i64 (CG xs).at_])
 ends:∀ (L:Nat→Prop) (len:Nat) (w:World) (a:Option Addr) (m c:Nat) (d:D) (recs:List (List D × Int)),len≤10000000000→(∀ b,L b→b<w.heap.size)→aB (Gh.off L w) (.slice a m c) d→nB d=some len→eR (Gh.off L w) X.gl →
  rh R fd d len (len+1) 0=some recs→Calls P fe #[.slice a m c] w λe W'=>∃v,e = .returned v∧W'.ownsRow (w.heap.size+2) te 1 v recs.length (recs.map λr =>.int .i64 r.2)∧(recs=[]→v = .slice none 0 0)∧Below w.heap.size w W'
theorem Be {g:Gh} {v:Value} {d:D} {ac:Nat} (z:aB g v d) (f:nB d=some ac):(∃a m c,v = .slice a m c)∧∀{g':Gh},(∀b,g.fz b→g'.fz b)→g'.w=g.w→aB g' v d:=by
 unfold nB at f;split at f
 ·cases z;exact⟨⟨_,_,_,rfl⟩,λ_ _ =>.J⟩
 ·rename_i t h;split at f
  ·rename_i k Q;cases z with
   | sl B n C ah t h M N I L T P u A H G i =>
    refine⟨⟨_,_,_,rfl⟩,λ{g'} K X =>.sl B n C 1 t h M N I L T P (λx=>⟨(u x).1,K _ (u x).2⟩) A (λp e l q d o=>by rw[X];exact H p e l q d o) G (λp e l q d o=>?_)⟩;have ab:∀(h:List (List D)) (k:List UInt8),l9 h=some k→∀e∈h,∀d∈e,∃s n,d = .int s n:=by
     intro h
     induction h with
     |nil=>intro k _ e i;cases i
     | cons ad af aa =>
      intro k j e i d f;unfold l9 at j;split at j
      ·rename_i r;cases r
      ·rename_i n ae r;injection r with E F;subst E;subst F;split at j
       ·rename_i ag R;rcases eI.1 i with rfl|i
        ·rw[gx.1 f];exact⟨_,_,rfl⟩
        ·exact aa _ R e i d f
       ·cases j
      ·cases j
    obtain⟨s,n,rfl⟩:=ab h k Q e (eB l) d (eB o);have y:=i p e l q _ o;generalize A p q=ai at y ⊢;cases y;exact .int s n
  ·cases f
 ·cases f
theorem MP{g:Gh}{h:Z}(hi:Inv g h){v:Value}{d:D}{e:Nat}(c:aB g v d)(b:nB d=some e):aB (Gh.off g.L g.w) v d:=(Be c b).2 (λf a=>a) rfl
theorem oJ{g:Gh}{c:World}(h:Below g.w.heap.size g.w c):aT g ⟨c,g.ms,g.L⟩ :=.q9 ⟨h.os,h.tape,h.output,h.size,λ_ _ h=>h,λb a=>⟨⟨hX a.1 h.size,a.2⟩,h.block b a.1⟩⟩ rfl rfl λb a=>h.block b a
section
variable {X:Cx} {R:cE} {fl fe fd te:FuncId}
theorem GF{f:FuncId}(u:∀(q:Array Value) (w:World),(callFunc f q).run P w = .ok (.enter f q) w){args:List D}{s:List (List D × Int)}(i:vj R fd args=some s){g:Gh}{vs:List Value}{h:Z}(hi:Inv g h)(x:eR (Gh.off g.L g.w) X.gl)(o:aW g vs args){p:D}
  (A:∀(j:Nat) (a:Option Addr) (m c:Nat) (d:D),j≤10000000000→(∀b,g.L b→b<g.w.heap.size)→aB (Gh.off g.L g.w) (.slice a m c) d→nB d=some j→eR (Gh.off g.L g.w) X.gl→rh R fd d j (j+1) 0=some s→Calls P f #[.slice a m c] g.w λe k=>∃v,e = .returned v∧Below g.w.heap.size g.w k∧aB ⟨k,g.ms,g.L⟩ v p) :
  jo P f vs g h p:=by
 unfold vj at i;split at i
 ·rename_i d;split at i
  ·rename_i j n;split at i
   ·rename_i y;cases o with
    | cons r o =>
     cases o;obtain⟨⟨a,m,c,rfl⟩,_⟩:=Be r n;refine .inl ⟨u _ _,mS (A j a m c d y hi.L (MP hi r n) n x i) ?_⟩;rintro e k ⟨v,rfl,l,z⟩;exact⟨v,rfl,⟨k,g.ms,g.L⟩,rfl,oJ l,hi.same (oJ l) rfl rfl λb t=>l.block b t,z⟩
   ·cases i
  ·cases i
 ·cases i
theorem Bv(C:Fu P X R fl fe fd te)(I:∀(t:Array Value) (w:World),(callFunc fe t).run P w = .ok (.enter fe t) w){args:List D}{h h':Z}{d:D}(G:GB R fd args h=some (d,h')){g:Gh}{vs:List Value}(hi:Inv g h)(M:eR (Gh.off g.L g.w) X.gl)(f:aW g vs args):jo P fe vs g h' d:=by
 obtain⟨j,q,k⟩:=gG.1 G;injection k with k;injection k with k A;subst k;subst A;refine GF (X:=X) I q hi M f λai x aj y d aa B ah T K ae=>mS (C.ends _ ai _ x aj y d j aa B ah T K ae) ?_
 rintro al s ⟨ak,rfl,ad,H,E⟩;refine⟨ak,rfl,E,?_⟩;by_cases n:j=[]
 ·rw[bE n,H n];exact .J
 ·rw [bV n];obtain⟨am,q|⟨o,z,p,rfl,an,v,F,ac,ao,ag⟩⟩:=ad
  ·exact absurd (gE q.2) n
  ·have ab:o<s.heap.size:=(gL.1 v).1;have r:∀(a:Nat) (b:List D),(j.map λl=>[D.int .i64 l.2])[a]?=some b→∃m,b=[D.int .i64 m]∧p[a]?=some (.int .i64 m):=λa b hi=>by
    rw[dB]at hi;cases f:j[a]? with
    |none=>rw[f]at hi;cases hi
    | some l =>
     rw[f]at hi;injection hi with hi;refine⟨l.2,hi.symm,?_⟩;have ap:=(aZ.1 f).1;have u:(p.toList.take (j.length*1))[a]?=some (.int .i64 l.2):=by rw[ag,dB,f];rfl
     rw[eY,bE (by omega)]at u;simpa using u
   refine .sl ⟨o,0,none⟩ j.length z 1 false _ (by simp) F (by simp[maxLen]at ac;omega) (λh=>by cases h) (by decide) (λb af=>?_) (λ_=>⟨rfl,ab,λN=>by have:=hi.L o N;omega⟩)
    (λa _=>((p[a]?).getD undef)) (λa b hi e d c=>?_) (λa b hi e d c=>?_) (λa b hi e d c=>?_)
   ·obtain⟨l,_,rfl⟩:=eJ.1 af;rfl
   ·obtain⟨m,rfl,i⟩:=r a b hi;have Q:e=0:=by
     cases e with
     |zero=>rfl
     |succ e=>cases c
    subst Q;rw[i];show World.cell? s _=_;unfold World.cell?;simp only[v];simpa using i
   ·obtain⟨m,rfl,i⟩:=r a b hi;rw[i];rfl
   ·obtain⟨m,rfl,i⟩:=r a b hi;rw[i];cases e with
    |zero=>injection c with c;subst c;exact .int _ _
    |succ e=>cases c
end
theorem CB.rb{a:World}{b:Nat}{cs:Array Value}{t:TypeId}(h:CB a b cs t)(c i:Nat)(v:Value)(d:b≠c):CB (a.setCell ⟨c,i,none⟩ v) b cs t:=h.other v d
def fC(n k:Nat):List Nat:=((List.range n).drop k).reverse
theorem ql(n:Nat):fC n n=[]:=by simp[fC]
theorem qm{n k:Nat}(h:k<n):fC n (k+1)++[k]=fC n k:=by
 unfold fC;rw[j5 (l:=List.range n) (i:=k) (by simpa using h)];simp
theorem Dd{n k j:Nat}:j∈fC n k↔k≤j∧j<n:=by
 unfold fC;rw[List.mem_reverse,List.mem_iff_getElem?];constructor
 ·rintro⟨d,c⟩;rw[jw]at c;obtain⟨a,b⟩:=aZ.1 c;rw[uF]at b;rw[uH]at a;omega
 ·rintro⟨a,b⟩;refine⟨j - k,?_⟩;rw[jw,aZ];exact⟨by rw[uH];omega,by rw[uF];omega⟩
theorem vl(n k:Nat):(fC n k).length=n - k:=by simp[fC]
def km(a b:Nat→Int)(f:Int):Nat→Int × Bool
 |0=>(0,false)
 |n+1=>if a n=f then(b n,true)else km a b f n
theorem B5{a b:Nat→Int}{f:Int}:∀{n:Nat},(∀j,j<n→a j≠f)→km a b f n=(0,false)
 |0,_=>rfl
 |n+1,h=>by unfold km;rw[bV (h n (by omega))];exact B5 λj c=>h j (by omega)
theorem B4{a c:Nat→Int}{f:Int}{k:Nat}:∀{n:Nat},k<n→a k=f→(∀j,k<j→j<n→a j≠f)→km a c f n=(c k,true)
 |0,h,_,_=>by omega
 | n+1,h,e,b=>by
  unfold km;by_cases g:k=n
  ·subst g;rw[bE e]
  ·rw[bV (b n (by omega) (by omega))];exact B4 (by omega) e λj d h2=>b j d (by omega)
structure zY (P:Program) (fl:FuncId) (V fi ti:Nat):Prop where
 run:∀(b off len cap:Nat) (vs:Nat→Nat→Value) (fv tv:Nat→Int) (f:Int) (w:World),len*8≤140737488351232→b<w.heap.size→(∀j,j<len→∀i,i<V→w.cell? ⟨b,off+j*V+i,none⟩=some (vs j i))→(∀j i,i<V→(vs j i).oneCell'=true)→(∀j,vs j fi = .int .i64 (fv j))→(∀j,vs j ti = .int .i64 (tv j)) →
  Calls P fl #[.slice (some ⟨b,off,none⟩) len cap,.int .i64 f] w λe W'=>e = .returned (.tuple #[.int .i64 (km fv tv f len).1,.bool (km fv tv f len).2])∧Below w.heap.size w W'
 nil:∀(a:Option Addr) (cap:Nat) (f:Int) (w:World),Calls P fl #[.slice a 0 cap,.int .i64 f] w λe W'=>e = .returned (.tuple #[.int .i64 0,.bool false])∧Below w.heap.size w W'
theorem rj{i:Nat}{r:List D}{z:Int}(h:dT i r=some z):r[i]?=some (.int .i64 z):=by
 unfold dT at h;split at h
 ·rename_i a;injection h with h;rw[a,h]
 ·cases h
theorem B6{fi ti:Nat}{f:Int}:∀(rows:List (List D)) (n:Nat),n≤rows.length→(∀r∈rows,mG fi ti r=true)→km (λj=>(dT fi (rows[j]?.getD [])).getD 0) (λj=>(dT ti (rows[j]?.getD [])).getD 0) f n=nG fi ti f (rows.take n)
 |rows,0,_,_=>rfl
 | rows,n+1,g,c=>by
  unfold km;have a:n<rows.length:=by omega
  rw[B6 rows n (by omega) c,EZ a,K2];have b:=c _ (na a);simp only[mG,dU,Ak]at b;obtain⟨⟨i,e⟩,⟨h,d⟩⟩:=b;simp only[cA a,gP,e,d,jT]
variable {P:Program} {fl:FuncId} {V fi ti:Nat}
theorem K3 (G:zY P fl V fi ti) (M:∀(t:Array Value) (w:World),(callFunc fl t).run P w = .ok (.enter fl t) w) {args:List D} {h h':Z} {d:D} (c:qi V fi ti args h=some (d,h')) {g:Gh} {vs:List Value} (hi:Inv g h) (j:aW g vs args):jo P fl vs g h' d:=by
 have E:∀{r:Int × Bool} {t:Array Value},(Calls P fl t g.w λn s=>n = .returned (.tuple #[.int .i64 r.1,.bool r.2])∧Below g.w.heap.size g.w s)→Calls P fl t g.w λn s=>∃X,n = .returned X∧∃y,y.w=s∧aT g y∧Inv y h∧aB y X (.bN [.int .i64 r.1,.bool r.2]):=λK=>mS K λn s ⟨am,I⟩ =>
  ⟨_,am,⟨s,g.ms,g.L⟩,rfl,oJ I,hi.same (oJ I) rfl rfl λA ak=>I.block A ak,.bN [_,_] [_,_] rfl λa X d k c=>by
   match a with
   |0=>injection k with k;injection c with c;subst k;subst c;exact .int _ _
   |1=>injection k with k;injection c with c;subst k;subst c;exact .bool _
   |a+2=>cases c⟩
 unfold qi at c;split at c
 ·rename_i f;injection c with c;injection c with u F;subst u;subst F;cases j with
  | cons k j=>cases j with
   | cons N j =>
    cases j;cases k;cases N;exact .inl ⟨M _ _,E (r:=(0,false)) (G.nil none 0 f g.w)⟩
 ·rename_i p ai i f;split at c
  ·rename_i K;obtain⟨rfl,H,an⟩:=K;injection c with c;injection c with u F;subst u;subst F;rw[ff]at H;cases j with
   | cons k j=>cases j with
    | cons N j =>
     cases j;cases N;cases k with
     | sl ah ax ac V ai i ao av ar au aw ap aj ag al u j =>
      subst ao;by_cases ad:i=[]
      ·subst ad;exact .inl ⟨M _ _,E (r:=(0,false)) (G.nil _ ac f g.w)⟩
      ·obtain⟨aa,ab⟩:=aj ad;obtain⟨A,aq,ay⟩:=ah;simp only at aa ab;subst aa;have Q:∀{a:Nat} (e:a<i.length),∃r,i[a]?=some r∧r.length=p∧mG fi ti r=true:=λ{a} e=>⟨i[a],cA e,ap _ (na e),H _ (na e)⟩
       obtain⟨z,T⟩:∃z:Nat→Nat→Value,z=λa b=>if a<i.length∧b<p then ag a b else .int .i64 0:=⟨_,rfl⟩
       have m:∀{b:Nat} (a:Nat),(∀r,r.length=p→mG fi ti r=true→b<p∧∃q,dT b r=some q)→z a b = .int .i64 ((dT b (i[a]?.getD [])).getD 0):=λ{b} a l=>by
        rw[T];by_cases e:a<i.length
        ·obtain⟨r,o,B,C⟩:=Q e;obtain⟨v,q,m⟩:=l r B C;rw[o,gP,m,gP];simp only[e,v,gz,aM];have:=j a r o b _ (rj m);generalize ag a b=az at this ⊢;cases this;rfl
        ·simp only[e,false_and,aR];rw[mY (by omega)];rfl
       have af:∀{b:Nat} {r:List D},r.length=p→(dT b r).isSome=true→b<p∧∃q,dT b r=some q:=λ{b r} x l=>by
        obtain⟨q,m⟩:=Ak.1 l;exact⟨x▸(aZ.1 (rj m)).1,q,m⟩
       have ae:=G.run A aq i.length ac z (λa=>(dT fi (i[a]?.getD [])).getD 0) (λa=>(dT ti (i[a]?.getD [])).getD 0) f g.w an ab.1 (λa e b v=>by
        obtain⟨r,o,B,C⟩:=Q e;have R:b<r.length:=by omega
        rw[T];simp only[e,v,gz,aM];exact al a r o b _ (cA R)) (λa b v=>by
        rw[T];by_cases e:a<i.length
        ·obtain⟨r,o,B,C⟩:=Q e;have R:b<r.length:=by omega
         simp only[e,v,gz,aM];exact u a r o b _ (cA R)
        ·simp only[e,false_and,aR];rfl) (λa=>m a λr x l=>af x (by simp only[mG,dU]at l;exact l.1)) (λa=>m a λr x l=>af x (by simp only[mG,dU]at l;exact l.2))
       have n:=B6 (fi:=fi) (ti:=ti) (f:=f) i i.length (aS _) H;rw[pX]at n;rw[n]at ae;exact .inl ⟨M _ _,E ae⟩
  ·cases c
 ·cases c
def tk(a b:Nat→Int)(j i:Nat):Value:=if i=0 then .int .i64 (a j)else .int .i64 (b j)
def AE(a b:Nat→Int)(x:Nat):Array Value := #[.int .i64 (x:Int),.agg #[.int .i64 (a x),.int .i64 (b x)]]
def kW(d e:Nat→Int)(g:Int→Option Int)(l:List Nat):Int→Option Int:=l.foldl (λc a=>λb=>if b=d a then some (e a)else c b) g
theorem BN(a b:Nat→Int)(g:Int→Option Int)(l:List Nat)(j:Nat):kW a b g (l++[j])=λx=>if x=a j then some (b j)else kW a b g l x:=by simp[kW]
def mA(a b:Nat→Int)(l:List Nat):Int→Option Int:=kW a b (λ_=>none) l
theorem MD(a b:Nat→Int)(l:List Nat)(j:Nat):mA a b (l++[j])=λx=>if x=a j then some (b j)else mA a b l x:=BN _ _ _ _ _
theorem KR{f:Nat→Prop}{a c:World}{r:Nat}{o:Obj}(e:a.grownBy c (some r))(i:a.heap[r]?=some o)(l:o.isCells=false):fx f a c:=⟨e.size,λd m n k b=>by
 have j:d≠r:=λh=>by
  subst h;unfold World.cell? at b;rw[i]at b;cases o<;>simp_all [Obj.isCells]
 rw[l5 (w:=a) (e.block d (r9 a _ b) λg=>j (by cases g;rfl))];exact b⟩
def gp(p:Int × Int):List Value:=[.int .i64 p.1,.int .i64 p.2]
theorem Gi(w:World)(xs:List Value)(t:TypeId):∀j a,xs[j]?=some a→(w.alloc (.cells xs.toArray t)).cell? ((⟨w.heap.size,0,none⟩:Addr).add j)=some a:=λj a b=>by
 have c:=World.alloc_heap_new w (.cells xs.toArray t);rw[ih,cT];unfold World.cell?;simp only[c];simpa using b
structure lS (f:Int→Option Int) (left:Lit→Bool) (ss:List (Int × Int)):Prop where
 mem:∀p∈ss,cW p.1∧cW p.2∧f p.1=some p.2
 left:∀x,cW x→(left (.int .i64 x)=true↔(f x).isSome=true∧∀p∈ss,p.1≠x)
 nodup:(ss.map Prod.fst).Nodup
theorem lS.start{a:DataW Unit}{f:Int→Option Int}(h:iH a f):lS f (Maps.has a) []:=⟨λe b=>by simp at b,λd c=>by rw[(h.2 d c).1];simp,List.nodup_nil⟩
theorem lS.step{k:DataW Unit}{f:Int→Option Int}{left:Lit→Bool}{n:List (Int × Int)}(p:iH k f)(h:lS f left n){x c:Int}(j:cW x)(s:cW c)(v:left (.int .i64 x)=true)(r:∀A,k.atKey (.int .i64 x) A = .lit (.int .i64 c)):
  lS f (λz=>left z && !z.sameKey (.int .i64 x)) (n++[(x,c)]):=by
 have t:f x=some c:=by
  have:=(p.2 x j).2 (.lit (.bool true));rw[r]at this;cases m:f x with
  |none=>rw[m]at this;simp at this
  |some e=>rw[m]at this;simp at this;rw[this]
 obtain⟨_,w⟩:=(h.left x j).1 v;refine⟨λb a=>?_,λe y=>?_,?_⟩
 ·rcases eA.1 a with a|a
  ·exact h.mem b a
  ·rw[gx.1 a];exact⟨j,s,t⟩
 ·have u:(Lit.int .i64 e).sameKey (.int .i64 x)=decide (e=x):=by
    simp[Lit.sameKey]
  simp only[dU,u,kC,decide_eq_false_iff_not];rw[h.left e y];constructor
  ·rintro⟨⟨i,d⟩,o⟩;refine⟨i,λb a=>?_⟩;rcases eA.1 a with a|a
   ·exact d b a
   ·rw[gx.1 a];exact λg=>o g.symm
  ·rintro⟨i,d⟩;exact⟨⟨i,λb a=>d b (eA.2 (.inl a))⟩,λg=>d (x,c) (eA.2 (.inr (by simp))) g.symm⟩
 ·rw[iF,Af];refine⟨h.nodup,by simp,λB q C l=>?_⟩;simp only[iS,uI,gx]at l;subst l;obtain⟨b,a,rfl⟩:=eJ.1 q;exact w b a
theorem Nq{w:World}{d:Nat}{e:TypeId}{j:Nat}{v:Value}{n:Nat}{xs:List Value}(h:w.ownsRow d e j v n xs){b:Nat}{o:Obj}(g:w.heap[b]?=some o)(i:o.isCells=false):some b≠v.ownBlock:=λa=>by
 rcases h.2 with⟨rfl,_⟩|⟨f,k,l,rfl,_,c,_⟩
 ·cases a
 ·have:b=f:=by simpa[Value.ownBlock]using a
  subst this;rw[g]at c;cases c;cases i
end Go.Pi
namespace Go.Eng
abbrev vX:=@getElem!_pos
end Go.Eng
namespace Go.Pi
open Go.Eng
theorem BX:∀(a:List (Int × Int)) (t:Nat),((a.map gp).flatten)[t]?=(a[t / 2]?).bind λp=>(gp p)[t % 2]?
 |[],t=>by simp
 |p::a,0=>rfl
 |p::a,1=>rfl
 | p::a,t+2=>by
  have b:(t+2) / 2=t / 2+1:=by omega
  have c:(t+2) % 2=t % 2:=by omega
  rw[b,c];show((a.map gp).flatten)[t]?=_;rw[BX a t];rfl
theorem Ce{w:World}{g:Nat}{f:Array Value}{e:TypeId}{a:List (Int × Int)}(i:w.heap[g]?=some (.cells f e (0,0)))(m:f.toList.take (a.length*2)=(a.map gp).flatten):Sort.HoldsK gp 2 w g 0 a.toArray:=by
 intro b h;rw[Sort.size_flatK,jy]at h;refine⟨?_,by simp[World.frozen?,i]⟩;have c:(f.toList.take (a.length*2))[b]?=((a.map gp).flatten)[b]?:=by rw[m]
 rw[List.getElem?_take_of_lt h,BX]at c;have j:b / 2<a.length:=by omega
 have k:a[b / 2]?=some a[b / 2]:=cA j;rw[k]at c;simp only[gy]at c;rw[Sort.get_flatK _ _ _ _ (by rw[jy];exact h)];unfold World.cell?;simp only[i,cT,id_eq];have l:a.toArray[b / 2]! = a[b / 2]:=by simp[j]
 rw[l];rw[Array.getElem?_toList]at c;rw[show((none:Option Nat)=none)from rfl]at *;have d:b % 2=0∨b % 2=1:=by omega
 rcases d with d|d<;>rw[d]at c ⊢<;>exact c
theorem J7{w:World}{g n:Nat}{os:Array Obj}(d:Array (Int × Int)):w.grownBy (Go.Proofs.sortWorldK gp 2 w g 0 n d os) (some g):=by
 unfold Go.Proofs.sortWorldK;refine⟨rfl,rfl,rfl,by simp[Go.Sort.putRowK,Go.Sort.putRow,Go.Sort.mapBlock,Go.Sort.ahead,Go.Sort.grow],λe b c=>?_⟩;rw[Go.Sort.heap_grow_old _ _ (by simpa[Go.Sort.putRowK,Go.Sort.putRow,Go.Sort.mapBlock,Go.Sort.ahead]using b)];have:g≠e:=λa=>c (by rw[a])
 simp[Go.Sort.putRowK,Go.Sort.putRow,Go.Sort.mapBlock,Go.Sort.ahead,ub,this]
theorem tg(x y:Int × Int):Go.Proofs.ltOf (λx y:Int × Int=>Go.Lib.compareInt x.1 y.1) x y=decide (x.1<y.1):=by
 unfold Go.Proofs.ltOf Go.Lib.compareInt;by_cases a:x.1<y.1
 ·simp[a]
 ·by_cases b:y.1<x.1<;>simp[a,b]
theorem OD:Go.Sort.SWO (Go.Proofs.ltOf λx y:Int × Int=>Go.Lib.compareInt x.1 y.1):=by
 refine⟨λx=>?_,λx y c a b=>?_,λx y c a b=>?_⟩
 ·rw[tg];simp
 ·rw[tg]at *;simp at *;omega
 ·rw[tg]at *;simp at *;omega
theorem Oy{f:Int→Option Int}{left:Lit→Bool}{a:List (Int × Int)}{d':Array (Int × Int)}(i:lS f left a)(B:∀H,left H=false)(E:Go.Sort.PermIn 0 a.length a.toArray d')
  (F:Go.Sort.SortedIn (Go.Proofs.ltOf λx y:Int × Int=>Go.Lib.compareInt x.1 y.1) 0 a.length d'):d'.size=a.length∧jA f d'.toList:=by
 obtain⟨h,_,l⟩:=E;have h:d'.size=a.length:=by simpa using h
 have r:d'.toList.Perm a:=by
  have u:d'.extract 0 a.length=d':=by rw[← h];simp
  have v:a.toArray.extract 0 a.length=a.toArray:=by simp
  rw[u,v]at l;simpa using l
 refine⟨h,⟨λj=>?_,?_⟩⟩
 ·rw [r.mem_iff];constructor
  ·intro C;obtain⟨s,_,t⟩:=i.mem j C;exact⟨s,t⟩
  ·rintro⟨G,m⟩;have q:¬(left (.int .i64 j.1)=true):=by rw[B];simp
   rw[i.left _ G]at q;have:∃g∈a,g.1=j.1:=by
    refine rI λw=>?_
    exact q ⟨by rw[m];rfl,λg k c=>w ⟨g,k,c⟩⟩
   obtain⟨g,k,c⟩:=this;obtain⟨_,_,b⟩:=i.mem g k;rw[c,m]at b;injection b with b;have:g=j:=Prod.ext c b.symm
   rwa [← this]
 ·have D:(d'.toList.map Prod.fst).Nodup:=(r.map Prod.fst).nodup_iff.2 i.nodup;rw[Ah];intro d e z A o;have n:d<d'.size:=by simpa using z
  have p:e<d'.size:=by simpa using A
  have b:=F d e (il _) o (by omega);rw[tg,vX d' d n,vX d' e p]at b;have I:¬d'[e].1<d'[d].1:=by simpa using b
  have K:d'[d].1≠d'[e].1:=λc=>by
   have:=(Ah.1 D) d e (by simpa using n) (by simpa using p) o;apply this;simpa using c
  simp only[Array.getElem_toList];omega
end Go.Pi
namespace Go.Proofs.YtinlnkhheafjaaaDoor
open Go.Eng Go.Pi Go.RowKit
structure yG (P:Program) (fe:FuncId):Prop where
 run:∀(a1 a2:Option Addr) (n1 c1 n2 c2:Nat) (vs:Nat→Nat→Value) (fv tv mf mo:Nat→Int) (w:World),n1*8≤1000000000→n2*8≤1000000000 →
  (n1=0∨∃b off,a1=some ⟨b,off,none⟩∧b<w.heap.size∧∀j,j<n1→∀i,i<11→w.cell? ⟨b,off+j*11+i,none⟩=some (vs j i)) →
  (n2=0∨∃b off,a2=some ⟨b,off,none⟩∧b<w.heap.size∧∀j,j<n2→∀i,i<2→w.cell? ⟨b,off+j*2+i,none⟩=some (tk mf mo j i)) →
  (∀j i,i<11→(vs j i).oneCell'=true)→(∀j,vs j 2 = .int .i64 (fv j))→(∀j,vs j 4 = .int .i64 (tv j))→(∀j,cW (fv j)∧cW (tv j)∧cW (mf j)∧cW (mo j)) →
  Calls P fe #[.slice a1 n1 c1,.slice a2 n2 c2] w λe W'=>∃(out:List (Int × Int)) (v:Value),e = .returned v∧jA (kW fv tv (mA mf mo (fC n2 0)) (List.range n1)) out∧RowKit.Below w.heap.size w W'∧((out=[]∧v = .slice none 0 0) ∨
   ∃g cap,v = .slice (some ⟨g,0,none⟩) out.length cap∧w.heap.size≤g∧g<W'.heap.size∧out.length≤cap∧cap≤maxLen∧out≠[]∧∀(j:Nat) (p:Int × Int),out[j]?=some p→∀(c:Nat) (u:Value),(gp p)[c]?=some u→W'.cell? ⟨g,j*2+c,none⟩=some u)
theorem DU{g:Gh}{z:Nat}{p:D}{rows:List (List D)}{v:Value}(c:jQ z p=some rows)(o:aB g v p):∃(a:Option Addr) (cap:Nat) (f:Nat→Nat→Value),v = .slice a rows.length cap ∧
  (rows.length=0∨∃b off,a=some ⟨b,off,none⟩∧b<g.w.heap.size∧∀j,j<rows.length→∀i,i<z→g.w.cell? ⟨b,off+j*z+i,none⟩=some (f j i)) ∧
  ∀j r,rows[j]?=some r→r.length=z∧∀i e,r[i]?=some e→(f j i).oneCell'=true∧aB g (f j i) e:=by
 unfold jQ at c;split at c
 ·injection c with c;subst c;cases o;exact⟨none,0,λ_ _ =>.int .i64 0,rfl,.inl rfl,λj r d=>by cases d⟩
 ·rename_i N s C;split at c
  ·rename_i B;injection c with c;subst c;subst B;cases o with
   | sl q K cap M s rows y H E F I n u f x t A =>
    subst y;refine⟨_,cap,f,rfl,?_,λj r d=>⟨n r (eB d),λi e h=>⟨t j r d i e h,A j r d i e h⟩⟩⟩;by_cases m:C=[]
    ·left;rw[m];rfl
    ·obtain⟨k,l⟩:=u m;obtain⟨b,off,L⟩:=q;simp only at k l;subst k;refine .inr ⟨b,off,rfl,l.1,λj d i h=>?_⟩;have G:=n _ (na d);exact x j _ (cA d) i _ (cA (by omega))
  ·cases c
 ·cases c
theorem C7(rows:List (List D)):(List.range rows.length).map (λj=>rows[j]?.getD [])=rows:=by
 apply List.ext_getElem
 ·simp
 ·intro c b a;simp[a]
theorem BO(k t:Nat)(rows:List (List D))(g:Int→Option Int)(l:List Nat):kW (λj=>(dT k (rows[j]?.getD [])).getD 0) (λj=>(dT t (rows[j]?.getD [])).getD 0) g l=(l.map λj=>rows[j]?.getD []).foldl (tS k t) g:=by
 rw[List.foldl_map];rfl
theorem Ih(a b:List (List D)):kW (λj=>(dT 2 (b[j]?.getD [])).getD 0) (λj=>(dT 4 (b[j]?.getD [])).getD 0) (mA (λj=>(dT 0 (a[j]?.getD [])).getD 0) (λj=>(dT 1 (a[j]?.getD [])).getD 0) (fC a.length 0)) (List.range b.length)=oE a b:=by
 unfold mA oE;rw[BO,BO,C7];have:fC a.length 0=(List.range a.length).reverse:=by simp[fC]
 rw[this,List.map_reverse,C7]
theorem Bv {P:Program} {C:FuncId} (a1:yG P C) (a7:∀(xs:Array Value) (w:World),(callFunc C xs).run P w = .ok (.enter C xs) w) {args:List D} {h h':Z} {d:D} (f:oy args h=some (d,h')) {g:Gh} {vs:List Value} (hi:Inv g h) (p:aW g vs args):jo P C vs g h' d:=by
 unfold oy at f;split at f
 case h_2=>cases f
 rename_i bp bn;split at f
 case h_2=>cases f
 rename_i t ac bd a9;split at f
 case isFalse=>cases f
 rename_i al;split at f
 case isFalse=>cases f
 rename_i z;obtain⟨bl,bm,F,aa⟩:=z;injection f with f;injection f with I az;subst I;subst az;have aj:=al.choose_spec;generalize al.choose=s at aj ⊢;cases p with
 | cons bh p=>cases p with
  | cons bg p =>
   cases p;obtain⟨aq,au,ao,rfl,K,ag⟩:=DU bd bh;obtain⟨ar,av,ap,rfl,M,ah⟩:=DU a9 bg;obtain⟨G,T⟩:∃G:Nat→Nat→Value,G=λa b=>if a<t.length then ao a b else .int .i64 0:=⟨_,rfl⟩
   have get:∀{l:List (List D)} {a:Nat},a<l.length→∃e,l[a]?=some e∧e∈l:=λ{l a} c=>⟨_,cA c,na c⟩
   have am:cW 0:=by unfold cW;omega
   have E:∀{X ad:Nat} {l:List (List D)},(∀e∈l,mB X ad e)→∀a,cW ((dT X (l[a]?.getD [])).getD 0)∧cW ((dT ad (l[a]?.getD [])).getD 0):=λ{X ad l} R a=>by
    by_cases c:a<l.length
    ·obtain⟨e,j,x⟩:=get c;obtain⟨m,u,r,H,B,ax⟩:=R e x;rw[j,gP,r,B];exact⟨H,ax⟩
    ·rw[mY (by omega)];exact⟨am,am⟩
   have ak:∀{b:Nat} (a:Nat),(∀e∈t,∃m,dT b e=some m)→G a b = .int .i64 ((dT b (t[a]?.getD [])).getD 0):=λ{b} a R=>by
    rw[T];by_cases c:a<t.length
    ·obtain⟨e,j,x⟩:=get c;obtain⟨m,r⟩:=R e x;have:=((ag a e j).2 b _ (rj r)).2;simp only[c,aM];rw[j,gP,r];generalize ao a b=an at this ⊢;cases this;rfl
    ·simp only[c,aR];rw[mY (by omega)];rfl
   have ai:=a1.run aq ar t.length au ac.length av G (λa=>(dT 2 (t[a]?.getD [])).getD 0) (λa=>(dT 4 (t[a]?.getD [])).getD 0) (λa=>(dT 0 (ac[a]?.getD [])).getD 0) (λa=>(dT 1 (ac[a]?.getD [])).getD 0) g.w (by omega) (by omega)
    (by
     rcases K with K|⟨u,ab,q,v,z⟩
     ·exact .inl K
     ·exact .inr ⟨u,ab,q,v,λa c b hi=>by rw[T];simp only[c,aM];exact z a c b hi⟩)
    (by
     rcases M with M|⟨u,ab,q,v,z⟩
     ·exact .inl M
     ·refine .inr ⟨u,ab,q,v,λa c b hi=>?_⟩;rw[z a c b hi];obtain⟨e,j,x⟩:=get c;obtain⟨m,bj,r,_,B,_⟩:=aa e x;unfold tk;simp only[j,gP,r,B];by_cases ay:b=0
      ·subst ay;have:=((ah a e j).2 0 _ (rj r)).2;generalize ap a 0=an at this ⊢;cases this;rfl
      ·have I:b=1:=by omega
       subst I;have:=((ah a e j).2 1 _ (rj B)).2;generalize ap a 1=an at this ⊢;cases this;rfl)
    (λa b hi=>by
     rw[T];by_cases c:a<t.length
     ·obtain⟨e,j,x⟩:=get c;obtain⟨r,H⟩:=ag a e j;simp only[c,aM];exact(H b _ (cA (by omega))).1
     ·simp only[c,aR];rfl)
    (λa=>ak a λe p=>by obtain⟨m,_,q,_⟩:=F e p;exact⟨m,q⟩) (λa=>ak a λe p=>by obtain⟨_,m,_,_,q,_⟩:=F e p;exact⟨m,q⟩)
    (λa=>⟨(E F a).1,(E F a).2,(E aa a).1,(E aa a).2⟩)
   rw[Ih]at ai;refine .inl ⟨a7 _ _,mS ai ?_⟩;rintro q af ⟨bo,bi,rfl,bc,v,a4⟩;obtain rfl:=aj.uniq bc;refine⟨bi,rfl,⟨af,g.ms,g.L⟩,rfl,oJ v,hi.same (oJ v) rfl rfl λu a3=>v.block u a3,?_⟩;rcases a4 with⟨rfl,rfl⟩|⟨ae,aw,rfl,bk,a0,a6,ba,bb,a5⟩
   ·exact .J
   ·have bf:kA 2 (s.map eV) = .sl 2 false (s.map eV):=by
      cases s with
      |nil=>exact absurd rfl bb
      |cons m u=>rfl
    rw[bf];have N:∀(b:Nat) (k:List D),(s.map eV)[b]?=some k→∃i,s[b]?=some i∧k=eV i:=λb k hi=>by
     rw[dB]at hi;cases o:s[b]? with
     |none=>rw[o]at hi;cases hi
     |some i=>rw[o]at hi;injection hi with hi;exact⟨i,rfl,hi.symm⟩
    have Q:∀(i:Int × Int) (a:Nat) (n:D),(eV i)[a]?=some n→∃A,n = .int .i64 A∧(gp i)[a]?=some (.int .i64 A):=λi a n f=>by
     match a with
     |0=>injection f with f;exact⟨_,f.symm,rfl⟩
     |1=>injection f with f;exact⟨_,f.symm,rfl⟩
     |a+2=>cases f
    refine .sl ⟨ae,0,none⟩ s.length aw 2 false _ (by simp) a6 (by simp[maxLen]at ba;omega) (λh=>by cases h) (by decide) (λk be=>?_) (λ_=>⟨rfl,a0,λa8=>by have:=hi.L ae a8;omega⟩)
     (λb a=>((s[b]?.bind λi=>(gp i)[a]?)).getD undef) (λb k hi a n c=>?_) (λb k hi a n c=>?_) (λb k hi a n c=>?_)
    ·obtain⟨i,_,rfl⟩:=eJ.1 be;rfl
    ·obtain⟨i,o,rfl⟩:=N b k hi;obtain⟨A,rfl,y⟩:=Q i a n c;rw[o,gy,y,gP];have:=a5 b i o a _ y;show World.cell? af _=_;rw[← this];simp
    ·obtain⟨i,o,rfl⟩:=N b k hi;obtain⟨A,rfl,y⟩:=Q i a n c;rw[o,gy,y,gP];rfl
    ·obtain⟨i,o,rfl⟩:=N b k hi;obtain⟨A,rfl,y⟩:=Q i a n c;rw[o,gy,y,gP];exact .int _ _
end Go.Proofs.YtinlnkhheafjaaaDoor
namespace Go.Eng
abbrev mQ:=@Array.replicate_succ
abbrev mR:=@Array.replicate_zero
abbrev mV:=@List.append_toArray
abbrev nb:=@List.push_toArray
abbrev qf:=@callsIn_of_wp
abbrev sd:=@callsIn_wide
abbrev x8:=@run_takeDeferred
end Go.Eng
namespace Go.Proofs.YtinlnkhheafjaaaDoor
open Go.Eng Go.Pi Go.RowKit Go.Shelf
attribute [local go_sem] Oper.semAt_some
set_option maxRecDepth 100000 in
set_option maxHeartbeats 4000000 in
theorem FG (F:Fence) (n:Nat) (hf:F.fn 64) (hro:F.round=none) (hn:1≤n) (l Bs n₀ b off len cap:Nat) (vs:Nat→Nat→Value) (hreach:len*8≤140737488351232) (hb:b<n₀) (J Jx:List Nat→World→Prop)
  (hY:∀ pre (x:Nat) W,J pre W→pre.length<len→YieldAt F (n - 1) Tryd.prog l #[.int .i64 (x:Int),.agg #[vs x 0,vs x 1,vs x 2,vs x 3,vs x 4,vs x 5,vs x 6,vs x 7,vs x 8,vs x 9,vs x 10]] W fun e W' =>
   (e = .returned (.bool true)∧J (pre++[x]) W'∧Below n₀ W W')∨(e = .returned (.bool false)∧Jx (pre++[x]) W'))
  (W:World) (hBs:W.cell? ⟨Bs,0,none⟩=some (.slice (some ⟨b,off,none⟩) len cap)) (hBn:Bs<n₀) (hc:∀ j,j<len→∀ i,i<11→W.cell? ⟨b,off+j*11+i,none⟩=some (vs j i)) (h0:J [] W) :
  CallsIn F n Tryd.prog 64 #[.func (.yield l) #[] #[],.pointer (some ⟨Bs,0,none⟩)] W fun e W'=>(∃ v,e = .returned v) ∧
   (J (fC len 0) W'∨(∃ k,k≤len∧Jx (fC len k) W')):=by
 have hl63:len≤17592186044416:=by omega
 refine qf Tryd.func64 rfl hf ?_ hro
 simp only [Tryd.ntmps64,jy,eF,e8,Nat.reduceAdd,Nat.reduceSub,mQ,mR,nb,mV,jx,kI]
 gi_wp2
 gi_loopw [3] (fun i wr=>∃ (k:Nat) (z:Int),k≤len∧i = .int .i64 z∧z=(k:Int) - 1∧J (fC len k) wr∧Below n₀ W wr)
  (fun i _=>(intOf i+1).toNat)
 case atStart=>exact ⟨len,_,aS _,rfl,by simp,by rw [ql];exact h0,Below.refl _ _⟩
 case round =>
  obtain ⟨k,z,hk,rfl,hz,hJs,hnx⟩:=hrel
  have hBs':=(hnx.cell (p:=⟨Bs,0,none⟩) hBn).trans hBs
  cases k with
  | zero =>
   obtain rfl:z = -1:=by omega
   clear hz
   gi_wp2
   go_end0
   exact ⟨⟨_,rfl⟩,.inl hJs⟩
  | succ k =>
   obtain rfl:z=(k:Int):=by omega
   clear hz
   have hcc:∀ i,i<11→wr.cell? ⟨b,off+k*11+i,none⟩=some (vs k i):=fun i hi=>(hnx.cell (p:=⟨b,off+k*11+i,none⟩) hb).trans (hc k (by omega) i hi)
   have c0:wr.cell? ⟨b,off+k*11,none⟩=some (vs k 0):=hcc 0 (by omega)
   have c1:=hcc 1 (by omega)
   have c2:=hcc 2 (by omega)
   have c3:=hcc 3 (by omega)
   have c4:=hcc 4 (by omega)
   have c5:=hcc 5 (by omega)
   have c6:=hcc 6 (by omega)
   have c7:=hcc 7 (by omega)
   have c8:=hcc 8 (by omega)
   have c9:=hcc 9 (by omega)
   have c10:=hcc 10 (by omega)
   clear hcc
   obtain ⟨fn,tmps,assign,body,hy,hR⟩:=hY _ k wr hJs (by rw [vl];omega)
   gi_wp2
   refine hR.mono ?_
   rintro e W3 (⟨rfl,hJ3,hk3⟩ | ⟨rfl,hJx3⟩)
   ·gi_wp2
    go_roundw
    case rel=>exact ⟨k,_,by omega,rfl,by simp,by rw [← qm (by omega:k<len)];exact hJ3,hnx.trans hk3⟩
    case measure=>simp [intOf] <;> omega
   ·gi_wp2
    refine bodyPost_ret (results_none rfl _ _ _) rfl ?_
    exact ⟨⟨_,rfl⟩,.inr ⟨k,by omega,by rw [← qm (by omega:k<len)];exact hJx3⟩⟩
set_option maxRecDepth 100000 in
set_option maxHeartbeats 4000000 in
theorem FI (F:Fence) (n:Nat) (hf:F.fn 64) (hro:F.round=none) (l Bs cap:Nat) (a:Option Addr) (J:List Nat→World→Prop)
  (W:World) (hBs:W.cell? ⟨Bs,0,none⟩=some (.slice a 0 cap)) (h0:J [] W) :
  CallsIn F n Tryd.prog 64 #[.func (.yield l) #[] #[],.pointer (some ⟨Bs,0,none⟩)] W fun e W'=>(∃ v,e = .returned v)∧J [] W':=by
 refine qf Tryd.func64 rfl hf ?_ hro
 simp only [Tryd.ntmps64,jy,eF,e8,Nat.reduceAdd,Nat.reduceSub,mQ,mR,nb,mV,jx,kI]
 gi_wp2
 gi_loopw [3] (fun i wr=>i = .int .i64 (-1)∧J [] wr) (fun _ _=>0)
 case atStart=>exact ⟨rfl,h0⟩
 case round =>
  obtain ⟨rfl,hJs⟩:=hrel
  gi_wp2
  go_end0
  exact ⟨⟨_,rfl⟩,hJs⟩
set_option maxHeartbeats 1000000 in
theorem FM (F:Fence) (n:Nat) (hf:F.fn 41) (hro:F.round=none) (a:Option Addr) (len cap:Nat) (w:World) :
  CallsIn F n Tryd.prog 41 #[.slice a len cap] w fun e w'=>e = .returned (.func (.func 64) #[] #[.pointer (some ⟨w.heap.size,0,none⟩)])∧w'=w.alloc (.cells #[.slice a len cap] 24):=by
 refine qf Tryd.func41 rfl hf ?_ hro
 simp only [Tryd.ntmps41,jy,eF,e8,Nat.reduceAdd,Nat.reduceSub,mQ,mR,nb,mV,jx,kI]
 gi_wp2
 go_ret
 exact ⟨rfl,rfl⟩
def u2 (vs:Nat→Nat→Value) (x:Nat):Array Value := #[.int .i64 (x:Int),.agg #[vs x 0,vs x 1,vs x 2,vs x 3,vs x 4,vs x 5,vs x 6,vs x 7,vs x 8,vs x 9,vs x 10]]
theorem FK (F:Fence) (n:Nat) (hf:F.fn 64) (hro:F.round=none) (hn:1≤n) (Bs n₀ b off len cap:Nat) (vs:Nat→Nat→Value) (hreach:len*8≤140737488351232) (hb:b<n₀) (w:World) (hBs:Bs<w.heap.size) (hBn:Bs<n₀) (hbw:b<w.heap.size)
  (hcB:CB w Bs #[.slice (some ⟨b,off,none⟩) len cap] 24) (hc:∀ j,j<len→∀ i,i<11→w.cell? ⟨b,off+j*11+i,none⟩=some (vs j i)) :
  SeqStopsK F n Tryd.prog 64 #[.pointer (some ⟨Bs,0,none⟩)] (u2 vs) (Below n₀) (fun ys=>ys=fC len 0) (fun pre=>∃ k,k≤len∧pre=fC len k) len w:=fun l J Jx W hW hJ hJx hY h0=>by
 refine (FG F n hf hro hn l Bs n₀ b off len cap vs hreach hb J Jx hY W ((hW.cell (p:=⟨Bs,0,none⟩) hBs).trans (hcB.cell 0)) hBn (fun j hj i hi=>(hW.cell (p:=⟨b,off+j*11+i,none⟩) hbw).trans (hc j hj i hi)) h0).mono ?_
 rintro e W' ⟨he,h | ⟨k,hk,h⟩⟩
 ·exact ⟨he,.inl ⟨_,rfl,h⟩⟩
 ·exact ⟨he,.inr ⟨_,⟨k,hk,rfl⟩,h⟩⟩
set_option maxRecDepth 100000 in
set_option maxHeartbeats 4000000 in
theorem CI (F:Fence) (n:Nat) (hf:F.fn 20) (hfb:F.fn 41) (hfi:F.fn 64) (hro:F.round=none) (hn:3≤n) (a:Option Addr) (len cap:Nat) (vs:Nat→Nat→Value) (fv tv:Nat→Int) (f:Int) (w:World)
  (hseq:∀ W0:World,Below w.heap.size w W0→W0.heap.size=w.heap.size+4→CB W0 (w.heap.size+1+1+1) #[.slice a len cap] 24→SeqStopsK F (n - 1) Tryd.prog 64 #[.pointer (some ⟨w.heap.size+1+1+1,0,none⟩)] (u2 vs) (Below (w.heap.size+4)) (fun ys=>ys=fC len 0) (fun pre=>∃ k,k≤len∧pre=fC len k) len W0)
  (hfv:∀ j,vs j 2 = .int .i64 (fv j)) (htv:∀ j,vs j 4 = .int .i64 (tv j)) (h1c:∀ j i,i<11→(vs j i).oneCell'=true) :
  CallsIn F n Tryd.prog 20 #[.slice a len cap,.int .i64 f] w fun e W'=>e = .returned (.tuple #[.int .i64 (km fv tv f len).1,.bool (km fv tv f len).2])∧Below w.heap.size w W':=by
 have h1:1≤n:=by omega
 refine callsIn_of_wp_marks Tryd.func20 rfl hf ?_ hro
 simp only [Tryd.ntmps20,jy,eF,e8,Nat.reduceAdd,Nat.reduceSub,mQ,mR,nb,mV,jx,kI]
 gi_wp2_with (gi_at_call 41;refine (FM F (n - 1) hfb hro _ _ _ _).mono ?_;rintro e w' ⟨rfl,rfl⟩)
 have cF:=(((CB.new w #[.int .i64 f] 3).alloc (.cells #[.int .i64 0] 3)).alloc (.cells #[.bool false] 4)).alloc (.cells #[.slice a len cap] 24)
 have cR:=((CB.new (w.alloc (.cells #[.int .i64 f] 3)) #[.int .i64 0] 3).alloc (.cells #[.bool false] 4)).alloc (.cells #[.slice a len cap] 24)
 have cO:=(CB.new ((w.alloc (.cells #[.int .i64 f] 3)).alloc (.cells #[.int .i64 0] 3)) #[.bool false] 4).alloc (.cells #[.slice a len cap] 24)
 have cB:=CB.new (((w.alloc (.cells #[.int .i64 f] 3)).alloc (.cells #[.int .i64 0] 3)).alloc (.cells #[.bool false] 4)) #[.slice a len cap] 24
 have hB0:Below w.heap.size w ((((w.alloc (.cells #[.int .i64 f] 3)).alloc (.cells #[.int .i64 0] 3)).alloc (.cells #[.bool false] 4)).alloc (.cells #[.slice a len cap] 24)):=((((Below.refl _ w).alloc (aS _) _).alloc (by simp) _).alloc (by simp;omega) _).alloc (by simp;omega) _
 have fR:((((w.alloc (.cells #[.int .i64 f] 3)).alloc (.cells #[.int .i64 0] 3)).alloc (.cells #[.bool false] 4)).alloc (.cells #[.slice a len cap] 24)).heap.size=w.heap.size+4:=by simp
 simp only [World.size_alloc] at cR cO cB
 obtain ⟨W0,hW0⟩:∃ W0,((((w.alloc (.cells #[.int .i64 f] 3)).alloc (.cells #[.int .i64 0] 3)).alloc (.cells #[.bool false] 4)).alloc (.cells #[.slice a len cap] 24))=W0:=⟨_,rfl⟩
 rw [hW0] at cF cR cO cB hB0 fR ⊢
 clear hW0
 refine wpIn_rangeFunc_ownH hro h1 (gf:=64) (lb := #[.pointer (some ⟨w.heap.size+1+1+1,0,none⟩)]) rfl hfi (enters_of Tryd.func64 (by kernel_rfl) rfl)
  (hseq W0 hB0 fR cB) belowK_t (belowK_b (by omega)) (Below.refl _ _) (fun _=>rfl)
  (fun pre W=>(∀ j∈pre,fv j≠f)∧CB W w.heap.size #[.int .i64 f] 3∧CB W (w.heap.size+1) #[.int .i64 0] 3∧CB W (w.heap.size+1+1) #[.bool false] 4∧Below w.heap.size w W∧w.heap.size+4≤W.heap.size)
  (fun c pre W=>c = .ret∧(∃ ini last,pre=ini++[last]∧(∀ j∈ini,fv j≠f)∧fv last=f∧CB W (w.heap.size+1) #[.int .i64 (tv last)] 3∧CB W (w.heap.size+1+1) #[.bool true] 4)∧Below w.heap.size w W)
  ?own ?ownx ⟨by simp,cF,cR,cO,hB0,by omega⟩
  (fun x a' W=>∃ Bx,w.heap.size+1+1<Bx∧CB W Bx #[vs x 0,vs x 1,.int .i64 (fv x),vs x 3,.int .i64 (tv x),vs x 5,vs x 6,vs x 7,vs x 8,vs x 9,vs x 10] 38∧a'={ tmps := #[Value.slice a len cap,.int .i64 f,undef,.pointer (some ⟨w.heap.size,0,none⟩),.pointer (some ⟨w.heap.size+1,0,none⟩),.pointer (some ⟨w.heap.size+1+1,0,none⟩),undef,.pointer (some ⟨Bx,0,none⟩),Value.slice a len cap,.func (.func 64) #[] #[.pointer (some ⟨w.heap.size+1+1+1,0,none⟩)],.int .i64 (x:Int),.agg #[vs x 0,vs x 1,.int .i64 (fv x),vs x 3,.int .i64 (tv x),vs x 5,vs x 6,vs x 7,vs x 8,vs x 9,vs x 10],undef,undef,undef,undef,undef,undef,undef,undef],defers:=[] })
  ?ax ?assign ?body ?done ?stop
 case own=>exact fun s A B row hs hg hr=>⟨hs.1,hs.2.1.grown hg fun r e=>(hr r e).2,hs.2.2.1.grown hg fun r e=>(hr r e).2,hs.2.2.2.1.grown hg fun r e=>(hr r e).2,hs.2.2.2.2.1.grown hg hs.2.2.2.2.1.size (fun k e=>by have:=(hr k e).1;omega),gX hs.2.2.2.2.2 hg.size⟩
 case ownx =>
  rintro c s A B row ⟨hc,⟨ini,last,e1,e2,e3,e4,e5⟩,hs⟩ hg hr
  exact ⟨hc,⟨ini,last,e1,e2,e3,e4.grown hg fun r e=>(hr r e).2,e5.grown hg fun r e=>(hr r e).2⟩,hs.grown hg hs.size fun k e=>by have:=(hr k e).1;omega⟩
 case ax =>
  rintro x a' s A B row ⟨Bx,h1,h2,h3⟩ hg hr
  exact ⟨Bx,h1,h2.grown hg fun r e=>(hr r e).2,h3⟩
 case assign =>
  rintro l pre x W K ⟨hp,i1,i2,i3,i4,i5⟩ hK
  dsimp only [u2]
  have o0:=fun (w:World) (a:Addr) (m:Mode)=>gD Tryd.prog w a (vs x 0) m (h1c x 0 (by omega))
  have o1:=fun (w:World) (a:Addr) (m:Mode)=>gD Tryd.prog w a (vs x 1) m (h1c x 1 (by omega))
  have o2:=fun (w:World) (a:Addr) (m:Mode)=>gD Tryd.prog w a (vs x 2) m (h1c x 2 (by omega))
  have o3:=fun (w:World) (a:Addr) (m:Mode)=>gD Tryd.prog w a (vs x 3) m (h1c x 3 (by omega))
  have o4:=fun (w:World) (a:Addr) (m:Mode)=>gD Tryd.prog w a (vs x 4) m (h1c x 4 (by omega))
  have o5:=fun (w:World) (a:Addr) (m:Mode)=>gD Tryd.prog w a (vs x 5) m (h1c x 5 (by omega))
  have o6:=fun (w:World) (a:Addr) (m:Mode)=>gD Tryd.prog w a (vs x 6) m (h1c x 6 (by omega))
  have o7:=fun (w:World) (a:Addr) (m:Mode)=>gD Tryd.prog w a (vs x 7) m (h1c x 7 (by omega))
  have o8:=fun (w:World) (a:Addr) (m:Mode)=>gD Tryd.prog w a (vs x 8) m (h1c x 8 (by omega))
  have o9:=fun (w:World) (a:Addr) (m:Mode)=>gD Tryd.prog w a (vs x 9) m (h1c x 9 (by omega))
  have o10:=fun (w:World) (a:Addr) (m:Mode)=>gD Tryd.prog w a (vs x 10) m (h1c x 10 (by omega))
  gi_wp2
  exact hK _ _ ((KeepsOthers.alloc _ _).from _) ((Below.refl _ _).alloc i5 _) ⟨hp,i1.alloc _,i2.alloc _,i3.alloc _,i4.alloc i4.size _,by simp;omega⟩ ⟨W.heap.size,i3.lt,CB.new W _ 38,rfl⟩
 case body =>
  rintro l pre x a' W _ _ ⟨hp,i1,i2,i3,i4,i5⟩ ⟨Bx,hBx,bX,rfl⟩ _
  have x2:W.cell? ⟨Bx,2,none⟩=some (.int .i64 (fv x)):=bX.cell 2
  have x4:W.cell? ⟨Bx,4,none⟩=some (.int .i64 (tv x)):=bX.cell 4
  have y0:W.cell? ⟨w.heap.size,0,none⟩=some (.int .i64 f):=i1.cell 0
  have y1:W.cell? ⟨w.heap.size+1,0,none⟩=some (.int .i64 0):=i2.cell 0
  have y2:W.cell? ⟨w.heap.size+1+1,0,none⟩=some (.bool false):=i3.cell 0
  have f1:=i2.frozen 0
  have f2:=i3.frozen 0
  by_cases hfx:fv x=f
  ·gi_wp2
   exact ⟨((rQ _ _ _).trans (rQ _ _ _)).from _,rfl,⟨pre,x,rfl,hp,hfx,(i2.set 0 _).other _ (by omega),(i3.other _ (by omega)).set 0 _⟩,(i4.setCell (p:=⟨w.heap.size+1,0,none⟩) (by simp) _).setCell (p:=⟨w.heap.size+1+1,0,none⟩) (by simp;omega) _⟩
  ·gi_wp2
   exact ⟨KeepsFrom.refl _ _,Below.refl _ _,fun j hj=>(eA.1 hj).elim (hp j) (fun e=>by rw [gx.1 e];exact hfx),i1,i2,i3,i4,i5⟩
 case done =>
  rintro D ys W hD rfl ⟨hp,i1,i2,i3,i4,i5⟩ hK
  have y1:W.cell? ⟨w.heap.size+1,0,none⟩=some (.int .i64 0):=i2.cell 0
  have y2:W.cell? ⟨w.heap.size+1+1,0,none⟩=some (.bool false):=i3.cell 0
  have f1:=i2.frozen 0
  have f2:=i3.frozen 0
  gi_wp2
  have hK':=((rQ W ⟨w.heap.size+1,0,none⟩ (.int .i64 0)).trans (rQ _ ⟨w.heap.size+1+1,0,none⟩ (.bool false))).same D _ hK rfl
  have k1:=(((i2.set 0 (.int .i64 0)).rb (w.heap.size+1+1) 0 (.bool false) (by omega)).put (.deferred none) hK' rfl).cell 0
  have k2:=(((i3.rb (w.heap.size+1) 0 (.int .i64 0) (by omega)).set 0 (.bool false)).put (.deferred none) hK' rfl).cell 0
  refine ⟨by simp,.inl ⟨_,_,rfl,x8 hK',?_⟩⟩
  refine ⟨.tuple #[.int .i64 0,.bool false],?_,by rw [B5 fun j hj=>hp j (Dd.2 ⟨il _,hj⟩)],((i4.setCell (p:=⟨w.heap.size+1,0,none⟩) (by simp) _).setCell (p:=⟨w.heap.size+1+1,0,none⟩) (by simp;omega) _).trans (belowK_b (w:=w) (aS _) _ D _ _ (by omega) hK' rfl rfl)⟩
  simp [results,Tryd.f20,go_sem,k1,k2]
 case stop =>
  rintro D c pre W hD ⟨k,hk,rfl⟩ ⟨rfl,⟨ini,last,e1,e2,e3,e4,e5⟩,hB⟩ hK
  gi_wp2
  have v8:k<len:=by
   rcases e9 k len with h | h
   ·exact h
   ·have:k=len:=by omega
    rw [this,ql] at e1
    cases ini <;> cases e1
  rw [← qm v8] at e1
  obtain ⟨rfl,e6⟩:=oe e1 rfl
  obtain rfl:k=last:=by simpa using e6
  have k1:=(e4.put (.deferred none) hK rfl).cell 0
  have k2:=(e5.put (.deferred none) hK rfl).cell 0
  refine ⟨by simp,.inl ⟨_,_,rfl,x8 hK,?_⟩⟩
  refine ⟨.tuple #[.int .i64 (tv k),.bool true],?_,by rw [B4 v8 e3 fun j h1 h2=>e2 j (Dd.2 ⟨h1,h2⟩)],hB.trans (belowK_b (w:=w) (aS _) _ D _ _ (by omega) hK rfl rfl)⟩
  simp [results,Tryd.f20,go_sem,k1,k2]
theorem K4:zY Tryd.prog 20 11 2 4 where
 run b off len cap vs fv tv f w hl hb hc h1 hf ht:=sd.1 (CI Fence.wide 3 trivial trivial trivial rfl (aS _) (some ⟨b,off,none⟩) len cap vs fv tv f w (fun W0 hB fR cB =>
  FK Fence.wide 2 trivial rfl (by omega) (w.heap.size+1+1+1) (w.heap.size+4) b off len cap vs (by omega) (by omega) W0 (by omega) (by omega) (by omega) cB fun j hj i hi=>(hB.cell (p:=⟨b,off+j*11+i,none⟩) hb).trans (hc j hj i hi)) hf ht h1)
 nil a cap f w:=sd.1 (CI Fence.wide 3 trivial trivial trivial rfl (aS _) a 0 cap (fun _ _ => .int .i64 0) (fun _=>0) (fun _=>0) f w (fun W0 hB fR cB=>fun l J Jx W hW hJ hJx hY h0=>(FI Fence.wide 2 trivial rfl l (w.heap.size+1+1+1) cap a J W ((hW.cell (p:=⟨w.heap.size+1+1+1,0,none⟩) (by show w.heap.size+1+1+1<W0.heap.size;omega)).trans (cB.cell 0)) h0).mono fun e W' ⟨he,hj⟩=>⟨he,.inl ⟨_,(ql 0).symm,hj⟩⟩) (fun _=>rfl) (fun _=>rfl) (fun _ _ _=>rfl))
end Go.Proofs.YtinlnkhheafjaaaDoor
namespace Go.Proofs
open Go.Shelf Go.RowKit Go.Lib Go.Sort
def YtinlnkhheafjaaaDoor.Ox:Go.Shelf.Ren:=⟨fun | 6=>25 | 15=>46 | 14=>45 | 28=>73 | 29=>74 | 20=>65 | 21=>66 | 22=>67 | 23=>68 | 24=>69 | 25=>70 | 26=>71 | 27=>72 | 46=>82 | 47=>83 | 48=>84 | 49=>85 | 50=>86 | 57=>92 | n=>n,fun | 22=>44 | 24=>47 | 25=>70 | 3=>3 | 39=>95 | 0=>0 | 53=>128 | 55=>130 | 4=>4 | 46=>122 | 45=>121 | 50=>59 | 5=>5 | 9=>9 | 66=>139 | 70=>143 | 76=>148 | 77=>149 | n=>n,fun | n=>n⟩
theorem YtinlnkhheafjaaaDoor.Ej:Go.Proofs.SlLaysF0.n6 Tryd.prog YtinlnkhheafjaaaDoor.Ox:={
 mixed:=by kernel_rfl,
 f6:=⟨Tryd.f25.name,by decide,Tryd.func25.trans (_root_.congrArg some (by kernel_rfl))⟩,
 f14:=⟨Tryd.f45.name,by decide,Tryd.func45.trans (_root_.congrArg some (by kernel_rfl))⟩,
 f15:=Tryd.func46.trans (_root_.congrArg some (by kernel_rfl)),
 f20:=⟨Tryd.f65.name,by decide,Tryd.func65.trans (_root_.congrArg some (by kernel_rfl))⟩,
 f21:=⟨Tryd.f66.name,by decide,Tryd.func66.trans (_root_.congrArg some (by kernel_rfl))⟩,
 f22:=⟨Tryd.f67.name,by decide,Tryd.func67.trans (_root_.congrArg some (by kernel_rfl))⟩,
 f23:=⟨Tryd.f68.name,by decide,Tryd.func68.trans (_root_.congrArg some (by kernel_rfl))⟩,
 f24:=⟨Tryd.f69.name,by decide,Tryd.func69.trans (_root_.congrArg some (by kernel_rfl))⟩,
 f25:=⟨Tryd.f70.name,by decide,Tryd.func70.trans (_root_.congrArg some (by kernel_rfl))⟩,
 f26:=⟨Tryd.f71.name,by decide,Tryd.func71.trans (_root_.congrArg some (by kernel_rfl))⟩,
 f27:=⟨Tryd.f72.name,by decide,Tryd.func72.trans (_root_.congrArg some (by kernel_rfl))⟩,
 f28:=Tryd.func73.trans (_root_.congrArg some (by kernel_rfl)),
 f29:=Tryd.func74.trans (_root_.congrArg some (by kernel_rfl)),
 f46:=⟨Tryd.f82.name,by decide,Tryd.func82.trans (_root_.congrArg some (by kernel_rfl))⟩,
 f47:=Tryd.func83.trans (_root_.congrArg some (by kernel_rfl)),
 f48:=Tryd.func84.trans (_root_.congrArg some (by kernel_rfl)),
 f49:=⟨Tryd.f85.name,by decide,Tryd.func85.trans (_root_.congrArg some (by kernel_rfl))⟩,
 f50:=⟨Tryd.f86.name,by decide,Tryd.func86.trans (_root_.congrArg some (by kernel_rfl))⟩,
 f57:=⟨Tryd.f92.name,by decide,Tryd.func92.trans (_root_.congrArg some (by kernel_rfl))⟩,
 t0:=Tryd.underlying0,
 a0:=Tryd.isAgg0,
 z0:=Tryd.sizeOf0,
 v0:=Tryd.zeroValue0,
 t3:=Tryd.underlying3,
 a3:=Tryd.isAgg3,
 z3:=Tryd.sizeOf3,
 v3:=Tryd.zeroValue3,
 t4:=Tryd.underlying4,
 a4:=Tryd.isAgg4,
 z4:=Tryd.sizeOf4,
 v4:=Tryd.zeroValue4,
 t5:=Tryd.underlying5,
 a5:=Tryd.isAgg5,
 z5:=Tryd.sizeOf5,
 v5:=Tryd.zeroValue5,
 t9:=Tryd.underlying9,
 a9:=Tryd.isAgg9,
 z9:=Tryd.sizeOf9,
 v9:=Tryd.zeroValue9,
 t22:=Tryd.underlying44,
 a22:=Tryd.isAgg44,
 z22:=Tryd.sizeOf44,
 v22:=Tryd.zeroValue44,
 t25:=Tryd.underlying70,
 a25:=Tryd.isAgg70,
 z25:=Tryd.sizeOf70,
 v25:=Tryd.zeroValue70,
 t39:=Tryd.underlying95,
 a39:=Tryd.isAgg95,
 z39:=Tryd.sizeOf95,
 v39:=Tryd.zeroValue95,
 t45:=Tryd.underlying121,
 a45:=Tryd.isAgg121,
 z45:=Tryd.sizeOf121,
 v45:=Tryd.zeroValue121,
 t46:=Tryd.underlying122,
 a46:=Tryd.isAgg122,
 z46:=Tryd.sizeOf122,
 v46:=Tryd.zeroValue122,
 t50:=Tryd.underlying59,
 a50:=Tryd.isAgg59,
 z50:=Tryd.sizeOf59,
 v50:=Tryd.zeroValue59,
 t53:=Tryd.underlying128,
 a53:=Tryd.isAgg128,
 z53:=Tryd.sizeOf128,
 v53:=Tryd.zeroValue128,
 t55:=Tryd.underlying130,
 a55:=Tryd.isAgg130,
 z55:=Tryd.sizeOf130,
 v55:=Tryd.zeroValue130,
 t66:=Tryd.underlying139,
 a66:=Tryd.isAgg139,
 z66:=Tryd.sizeOf139,
 v66:=Tryd.zeroValue139,
 t70:=Tryd.underlying143,
 a70:=Tryd.isAgg143,
 z70:=Tryd.sizeOf143,
 v70:=Tryd.zeroValue143,
 t76:=Tryd.underlying148,
 a76:=Tryd.isAgg148,
 z76:=Tryd.sizeOf148,
 v76:=Tryd.zeroValue148,
 t77:=Tryd.underlying149,
 a77:=Tryd.isAgg149,
 z77:=Tryd.sizeOf149,
 v77:=Tryd.zeroValue149 }
def YtinlnkhheafjaaaDoor.Gr:Go.Shelf.Ren:=⟨fun | 5=>27 | 7=>47 | n=>n,fun | 22=>3 | 3=>3 | 4=>4 | n=>n,fun | n=>n⟩
theorem YtinlnkhheafjaaaDoor.Gq:Go.Proofs.SlLaysC2.n5 Tryd.prog YtinlnkhheafjaaaDoor.Gr:={
 mixed:=by kernel_rfl,
 f5:=⟨Tryd.f27.name,by decide,Tryd.func27.trans (_root_.congrArg some (by kernel_rfl))⟩,
 f7:=⟨Tryd.f47.name,by decide,Tryd.func47.trans (_root_.congrArg some (by kernel_rfl))⟩,
 t3:=Tryd.underlying3,
 a3:=Tryd.isAgg3,
 z3:=Tryd.sizeOf3,
 v3:=Tryd.zeroValue3,
 t4:=Tryd.underlying4,
 a4:=Tryd.isAgg4,
 z4:=Tryd.sizeOf4,
 v4:=Tryd.zeroValue4,
 t22:=Tryd.underlying3,
 a22:=Tryd.isAgg3,
 z22:=Tryd.sizeOf3,
 v22:=Tryd.zeroValue3 }
end Go.Proofs
namespace Go.Proofs.YtinlnkhheafjaaaDoor
open Go.Eng Go.Pi Go.RowKit Go.Shelf
attribute [local go_sem] Oper.semAt_some
set_option maxHeartbeats 1000000 in
theorem FL (F:Fence) (n:Nat) (hf:F.fn 24) (hro:F.round=none) (a:Option Addr) (len cap:Nat) (w:World) :
  CallsIn F n Tryd.prog 24 #[.slice a len cap] w fun e w'=>e = .returned (.func (.func 44) #[] #[.pointer (some ⟨w.heap.size,0,none⟩)])∧w'=w.alloc (.cells #[.slice a len cap] 44):=by
 refine qf Tryd.func24 rfl hf ?_ hro
 simp only [Tryd.ntmps24,jy,eF,e8,Nat.reduceAdd,Nat.reduceSub,mQ,mR,nb,mV,jx,kI]
 gi_wp2
 go_ret
 exact ⟨rfl,rfl⟩
set_option maxRecDepth 100000 in
set_option maxHeartbeats 4000000 in
theorem FH (n l Bs b off len cap:Nat) (hn:1≤n) (mf mo:Nat→Int) (hreach:len*8≤140737488351232) (J Jx:List Nat→World→Prop)
  (hY:∀ pre (x:Nat) W,J pre W→pre.length<len→YieldAt Fence.wide (n - 1) Tryd.prog l #[.int .i64 (x:Int),.agg #[.int .i64 (mf x),.int .i64 (mo x)]] W fun e W' =>
   (e = .returned (.bool true)∧J (pre++[x]) W'∧fx (fun _=>False) W W')∨(e = .returned (.bool false)∧Jx (pre++[x]) W'))
  (W:World) (hBs:W.cell? ⟨Bs,0,none⟩=some (.slice (some ⟨b,off,none⟩) len cap)) (hc:∀ j,j<len→∀ i,i<2→W.cell? ⟨b,off+j*2+i,none⟩=some (tk mf mo j i)) (h0:J [] W) :
  CallsIn Fence.wide n Tryd.prog 44 #[.func (.yield l) #[] #[],.pointer (some ⟨Bs,0,none⟩)] W fun e W'=>(∃ v,e = .returned v) ∧
   (J (fC len 0) W'∨(∃ k,k≤len∧Jx (fC len k) W')):=by
 have hl63:len≤17592186044416:=by omega
 refine qf Tryd.func44 rfl trivial ?_ rfl
 simp only [Tryd.ntmps44,jy,eF,e8,Nat.reduceAdd,Nat.reduceSub,mQ,mR,nb,mV,jx,kI]
 gi_wp2
 gi_loopw [3] (fun i wr=>∃ (k:Nat) (z:Int),k≤len∧i = .int .i64 z∧z=(k:Int) - 1∧J (fC len k) wr∧fx (fun _=>False) W wr)
  (fun i _=>(intOf i+1).toNat)
 case atStart=>exact ⟨len,_,aS _,rfl,by simp,by rw [ql];exact h0,fx.refl _ _⟩
 case round =>
  obtain ⟨k,z,hk,rfl,hz,hJs,hnx⟩:=hrel
  have hBs':=hnx.cell Bs 0 _ id hBs
  cases k with
  | zero =>
   obtain rfl:z = -1:=by omega
   clear hz
   gi_wp2
   go_end0
   exact ⟨⟨_,rfl⟩,.inl hJs⟩
  | succ k =>
   obtain rfl:z=(k:Int):=by omega
   clear hz
   have c0:wr.cell? ⟨b,off+k*2,none⟩=some (.int .i64 (mf k)):=hnx.cell b _ _ id (hc k (by omega) 0 (by omega))
   have c1:wr.cell? ⟨b,off+k*2+1,none⟩=some (.int .i64 (mo k)):=hnx.cell b _ _ id (hc k (by omega) 1 (by omega))
   obtain ⟨fn,tmps,assign,body,hy,hR⟩:=hY _ k wr hJs (by rw [vl];omega)
   gi_wp2
   refine hR.mono ?_
   rintro e W3 (⟨rfl,hJ3,hk3⟩ | ⟨rfl,hJx3⟩)
   ·gi_wp2
    go_roundw
    case rel=>exact ⟨k,_,by omega,rfl,by simp,by rw [← qm (by omega:k<len)];exact hJ3,hnx.trans hk3⟩
    case measure=>simp [intOf] <;> omega
   ·gi_wp2
    refine bodyPost_ret (results_none rfl _ _ _) rfl ?_
    exact ⟨⟨_,rfl⟩,.inr ⟨k,by omega,by rw [← qm (by omega:k<len)];exact hJx3⟩⟩
set_option maxRecDepth 100000 in
set_option maxHeartbeats 4000000 in
theorem FJ (n l Bs cap:Nat) (a:Option Addr) (J:List Nat→World→Prop)
  (W:World) (hBs:W.cell? ⟨Bs,0,none⟩=some (.slice a 0 cap)) (h0:J [] W) :
  CallsIn Fence.wide n Tryd.prog 44 #[.func (.yield l) #[] #[],.pointer (some ⟨Bs,0,none⟩)] W fun e W'=>(∃ v,e = .returned v)∧J [] W':=by
 refine qf Tryd.func44 rfl trivial ?_ rfl
 simp only [Tryd.ntmps44,jy,eF,e8,Nat.reduceAdd,Nat.reduceSub,mQ,mR,nb,mV,jx,kI]
 gi_wp2
 gi_loopw [3] (fun i wr=>i = .int .i64 (-1)∧J [] wr) (fun _ _=>0)
 case atStart=>exact ⟨rfl,h0⟩
 case round =>
  obtain ⟨rfl,hJs⟩:=hrel
  gi_wp2
  go_end0
  exact ⟨⟨_,rfl⟩,hJs⟩
set_option maxHeartbeats 1000000 in
theorem Gm (x y:Int × Int) (W:World):Calls Tryd.prog 26 #[.agg #[.int .i64 x.1,.int .i64 x.2],.agg #[.int .i64 y.1,.int .i64 y.2]] W fun e w'=>e = .returned (.int .i64 (Go.Lib.compareInt x.1 y.1))∧∃ q os',w'=Go.Sort.grow (W.drewN q) os':=by
 have hcon:=fun W'=>AnyG.cmp_Compare_int Gq x.1 y.1 W'
 change ∀ W',Calls Tryd.prog 27 _ _ _ at hcon
 generalize Go.Lib.compareInt x.1 y.1=r at hcon ⊢
 go_enter Tryd.func26,Tryd.ntmps26
 go_wp2_with (go_at_call 27;refine (hcon _).mono ?_;rintro e w' ⟨rfl,rfl⟩)
 go_ret
 exact ⟨rfl,0,_,by rw [Go.Sort.alloc_eq_grow,Go.Sort.alloc_eq_grow,Go.Sort.grow_grow];rfl⟩
theorem Ou (g cap:Nat) (ss:List (Int × Int)) (w:World) (hH:Go.Sort.HoldsK gp 2 w g 0 ss.toArray) (hb:g<w.heap.size) (hl:ss.length<4611686018427387904) :
  Calls Tryd.prog 25 #[.slice (some ⟨g,0,none⟩) ss.length cap,.func (.func 26) #[] #[]] w fun e w'=>e = .returned (.tuple #[])∧∃ d' n os,Go.Sort.PermIn 0 ss.length ss.toArray d'∧Go.Sort.SortedIn (ltOf fun x y:Int × Int=>Go.Lib.compareInt x.1 y.1) 0 ss.length d'∧w'=sortWorldK gp 2 w g 0 n d' os:=by
 have eg:∀ args w,(callFunc 26 args).run Tryd.prog w = .ok (.enter 26 args) w:=enters_of Tryd.func26 (by kernel_rfl) rfl
 exact AnyQ.slices_SortFunc Ej 2 (fun w=>by kernel_rfl) (fun w=>by kernel_rfl) gp (fun _=>rfl) (fun x v hv=>by simp [gp] at hv;rcases hv with rfl | rfl <;> rfl) (fun x y=>Go.Lib.compareInt x.1 y.1) OD 26 #[] g 0 cap ss.toArray w eg (fun _ _ _ _ x y=>Gm x y _) hH hb hl
set_option maxRecDepth 100000 in
set_option maxHeartbeats 4000000 in
theorem Ik (n:Nat) (hn:3≤n) (a1 a2:Option Addr) (n1 c1 n2 c2:Nat) (vs:Nat→Nat→Value) (fv tv mf mo:Nat→Int) (w:World) (hl1:n1*8≤1000000000) (hl2:n2*8≤1000000000)
  (hq:n1=0∨∃ b off,a1=some ⟨b,off,none⟩∧b<w.heap.size∧∀ j,j<n1→∀ i,i<11→w.cell? ⟨b,off+j*11+i,none⟩=some (vs j i))
  (hm:n2=0∨∃ b off,a2=some ⟨b,off,none⟩∧b<w.heap.size∧∀ j,j<n2→∀ i,i<2→w.cell? ⟨b,off+j*2+i,none⟩=some (tk mf mo j i))
  (h1c:∀ j i,i<11→(vs j i).oneCell'=true) (hfv:∀ j,vs j 2 = .int .i64 (fv j)) (htv:∀ j,vs j 4 = .int .i64 (tv j)) (hin:∀ j,cW (fv j)∧cW (tv j)∧cW (mf j)∧cW (mo j)) :
  CallsIn Fence.wide n Tryd.prog 13 #[.slice a1 n1 c1,.slice a2 n2 c2] w fun e W'=>∃ (out:List (Int × Int)) (v:Value),e = .returned v∧jA (kW fv tv (mA mf mo (fC n2 0)) (List.range n1)) out∧Below w.heap.size w W'∧((out=[]∧v = .slice none 0 0) ∨
   ∃ g cap,v = .slice (some ⟨g,0,none⟩) out.length cap∧w.heap.size≤g∧g<W'.heap.size∧out.length≤cap∧cap≤maxLen∧out≠[]∧∀ (j:Nat) (p:Int × Int),out[j]?=some p→∀ (c:Nat) (u:Value),(gp p)[c]?=some u→W'.cell? ⟨g,j*2+c,none⟩=some u):=by
 have h1:1≤n:=by omega
 have hMT:lr Tryd.prog 64 3:=⟨by kernel_rfl,by kernel_rfl,fun w=>by kernel_rfl⟩
 have hKy:=Maps.int_keyed hMT.hk
 have hmk:=@run_makeMap Tryd.prog
 refine callsIn_of_wp_marks Tryd.func13 rfl trivial ?_ rfl
 simp only [Tryd.ntmps13,jy,eF,e8,Nat.reduceAdd,Nat.reduceSub,mQ,mR,nb,mV,jx,kI]
 have hFb:Fence.wide.fn 24:=trivial
 gi_wp2_with (gi_at_call 24;refine (FL Fence.wide (n - 1) trivial rfl _ _ _ _).mono ?_;rintro e w' ⟨rfl,rfl⟩)
 have cM:=CB.new (w.alloc (.map #[] 0)) #[.map (some w.heap.size)] 64
 have oM:((w.alloc (.map #[] 0)).alloc (.cells #[.map (some w.heap.size)] 64)).ownsMap Tryd.prog 3 (plainElem Tryd.prog 3) w.heap.size 0 (.map []:DataW Unit):=(World.ownsMap_made w Tryd.prog 3 _).alloc _
 have hB0:Below w.heap.size w (((w.alloc (.map #[] 0)).alloc (.cells #[.map (some w.heap.size)] 64)).alloc (.cells #[.slice a2 n2 c2] 44)):=(((Below.refl _ w).alloc (aS _) _).alloc (by simp) _).alloc (by simp;omega) _
 have fR:(((w.alloc (.map #[] 0)).alloc (.cells #[.map (some w.heap.size)] 64)).alloc (.cells #[.slice a2 n2 c2] 44)).heap.size=w.heap.size+3:=by simp
 have cB:=CB.new ((w.alloc (.map #[] 0)).alloc (.cells #[.map (some w.heap.size)] 64)) #[.slice a2 n2 c2] 44
 replace cM:=cM.alloc (.cells #[.slice a2 n2 c2] 44)
 replace oM:=oM.alloc (.cells #[.slice a2 n2 c2] 44)
 simp only [World.size_alloc] at cM cB
 obtain ⟨W0,hW0⟩:∃ W0,((w.alloc (.map #[] 0)).alloc (.cells #[.map (some w.heap.size)] 64)).alloc (.cells #[.slice a2 n2 c2] 44)=W0:=⟨_,rfl⟩
 rw [hW0] at cM oM cB hB0 fR ⊢
 clear hW0
 refine wpIn_rangeFunc_ownH rfl h1 (gf:=44) (lb := #[.pointer (some ⟨w.heap.size+1+1,0,none⟩)]) rfl trivial (enters_of Tryd.func44 (by kernel_rfl) rfl)
  (encs:=AE mf mo) (Kp:=fx fun _=>False) (S:=fun ys=>ys=fC n2 0) (Sp:=fun pre=>∃ k,k≤n2∧pre=fC n2 k) (N:=n2) (w0:=W0) ?seq (fun h k=>h.trans k) (fun W l o o' _ ho hc _=>fx.putObj o' ho hc) (Below.refl _ _) (fun _=>rfl)
  (fun pre W=>(∃ A:DataW Unit,W.ownsMap Tryd.prog 3 (plainElem Tryd.prog 3) w.heap.size pre.length A∧iH A (mA mf mo pre))∧CB W (w.heap.size+1) #[.map (some w.heap.size)] 64∧Below w.heap.size w W∧w.heap.size+3≤W.heap.size)
  (fun c pre W=>False)
  ?own (fun _ _ _ _ _ h=>h.elim) ⟨⟨_,oM,iH.empty⟩,cM,hB0,by omega⟩
  (fun x a' W=>∃ Bx,w.heap.size+1<Bx∧CB W Bx #[.int .i64 (mf x),.int .i64 (mo x)] 47∧a'={ tmps := #[Value.slice a1 n1 c1,Value.slice a2 n2 c2,undef,undef,.slice none 0 0,.pointer (some ⟨w.heap.size+1,0,none⟩),undef,.pointer (some ⟨Bx,0,none⟩),undef,undef,undef,undef,undef,.map (some w.heap.size),Value.slice a2 n2 c2,.func (.func 44) #[] #[.pointer (some ⟨w.heap.size+1+1,0,none⟩)],.int .i64 (x:Int),.agg #[.int .i64 (mf x),.int .i64 (mo x)],undef,undef,undef,undef,undef,undef,undef,undef,undef,undef,undef,undef,undef,undef,undef,undef,undef,undef,undef,undef,undef,undef,undef,undef,undef,undef,undef,undef,undef,undef,undef,undef,undef,undef,undef],defers:=[] })
  ?ax ?assign ?body ?done ?stop
 case seq =>
  intro l J Jx W hW _ _ hY h0
  have hcB:W.cell? ⟨w.heap.size+1+1,0,none⟩=some (.slice a2 n2 c2):=(hW.cell (p:=⟨w.heap.size+1+1,0,none⟩) (by show w.heap.size+1+1<W0.heap.size;omega)).trans (cB.cell 0)
  rcases hm with rfl | ⟨b,off,rfl,hb,hc⟩
  ·exact (FJ (n - 1) l (w.heap.size+1+1) c2 a2 J W hcB h0).mono fun e W' ⟨he,hj⟩=>⟨he,.inl ⟨_,(ql 0).symm,hj⟩⟩
  ·refine (FH (n - 1) l (w.heap.size+1+1) b off n2 c2 (by omega) mf mo (by omega) J Jx hY W hcB (fun j hj i hi=>?_) h0).mono ?_
   ·exact (hW.cell (p:=⟨b,off+j*2+i,none⟩) (by show b<W0.heap.size;omega)).trans ((hB0.cell (p:=⟨b,off+j*2+i,none⟩) hb).trans (hc j hj i hi))
   ·rintro e W' ⟨he,h | ⟨k,hk,h⟩⟩
    ·exact ⟨he,.inl ⟨_,rfl,h⟩⟩
    ·exact ⟨he,.inr ⟨_,⟨k,hk,rfl⟩,h⟩⟩
 case own =>
  rintro s A B row ⟨⟨D,h1,h2⟩,h4,h5,h6⟩ hg hr
  exact ⟨⟨D,h1.kept hg (fun e=>by have:=(hr _ e.symm).1;omega),h2⟩,h4.grown hg fun r e=>(hr r e).2,h5.grown hg h5.size (fun k e=>by have:=(hr k e).1;omega),gX h6 hg.size⟩
 case ax =>
  rintro x a' s A B row ⟨Bx,h1,h2,h3⟩ hg hr
  exact ⟨Bx,h1,h2.grown hg fun r e=>(hr r e).2,h3⟩
 case assign =>
  rintro l pre x W K ⟨hA,i1,i2,i3⟩ hK
  dsimp only [AE]
  gi_wp2
  exact hK _ _ ((KeepsOthers.alloc _ _).from _) (fx.alloc _ _) ⟨by obtain ⟨D,h1,h2⟩:=hA;exact ⟨D,h1.alloc _,h2⟩,i1.alloc _,i2.alloc i2.size _,by simp;omega⟩ ⟨W.heap.size,i1.lt,CB.new W _ 47,rfl⟩
 case body =>
  rintro l pre x a' W _ _ ⟨⟨D,h1,h2⟩,i1,i2,i3⟩ ⟨Bx,hBx,bX,rfl⟩ hpl
  obtain ⟨q1,q2,q3,q4⟩:=hin x
  have x0:W.cell? ⟨Bx,0,none⟩=some (.int .i64 (mf x)):=bX.cell 0
  have x1:W.cell? ⟨Bx,1,none⟩=some (.int .i64 (mo x)):=bX.cell 1
  have y0:W.cell? ⟨w.heap.size+1,0,none⟩=some (.map (some w.heap.size)):=i1.cell 0
  gi_wp2_with (gi_at_mapUpdate;refine wpListIn_mapUpdate_own _ rfl _ _ _ 64 rfl 3 3 hKy hMT.ht (plainElem Tryd.prog 3) w.heap.size pre.length D rfl h1 (by unfold maxLen;omega) _ _ _ rfl rfl (hMT.key q3) _ [] (plainElem_int hMT.hk (mL.2 q4)) ?_;intro w1 hown1 hgrow1)
  have hl:∃ o:Obj,W.heap[w.heap.size]?=some o∧o.isCells=false:=by obtain ⟨es,clock,hb,_⟩:=h1;exact ⟨_,hb,rfl⟩
  obtain ⟨o,hl,ho⟩:=hl
  refine ⟨KeepsFrom.of_grownBy hgrow1 fun j hj=>by cases hj;omega,KR hgrow1 hl ho,⟨_,by rw [gh];exact hown1,by rw [MD];exact iH.put hMT h2 q3⟩,i1.grown hgrow1 fun r e=>by cases e;exact ⟨o,hl,ho⟩,i2.grown hgrow1 i2.size fun k e=>by cases e;omega,gX i3 hgrow1.size⟩
 case stop=>exact fun D c pre W hD hS h=>h.elim
 case done =>
  rintro D ys W hD rfl ⟨⟨A,h1,h2⟩,i1,i2,i3⟩ hK
  have hDl:∃ G:Int→Option Int,G=mA mf mo (fC n2 0):=⟨_,rfl⟩
  obtain ⟨G,hG⟩:=hDl
  rw [← hG] at h2
  rw [vl,Nat.sub_zero] at h1
  gi_wp2
  gi_loopw [25] (fun p wr=>∃ k:Nat,k≤n1∧p = .int .i64 k∧(∃ A:DataW Unit,wr.ownsMap Tryd.prog 3 (plainElem Tryd.prog 3) w.heap.size (n2+k) A∧iH A (kW fv tv G (List.range k)))∧CB wr (w.heap.size+1) #[.map (some w.heap.size)] 64∧Below w.heap.size w wr∧w.heap.size+3≤wr.heap.size∧wr.heap[D]?=some (.deferred (some [])))
   (fun p _=>n1 - (intOf p).toNat)
  case atStart=>exact ⟨0,il _,rfl,⟨A,h1,h2⟩,i1,i2,i3,hK⟩
  case round =>
   obtain ⟨k,hk,rfl,⟨A',h1',h2'⟩,j1,j2,j3,hKr⟩:=hrel
   have y0:wr.cell? ⟨w.heap.size+1,0,none⟩=some (.map (some w.heap.size)):=j1.cell 0
   by_cases hlt:k<n1
   ·rcases hq with hq | ⟨b,off,rfl,hb,hc⟩
    ·omega
    have hcc:∀ i,i<11→wr.cell? ⟨b,off+k*11+i,none⟩=some (vs k i):=fun i hi=>(j2.cell (p:=⟨b,off+k*11+i,none⟩) hb).trans (hc k hlt i hi)
    have cc0:wr.cell? ⟨b,off+k*11,none⟩=some (vs k 0):=hcc 0 (by omega)
    have cc1:=hcc 1 (by omega)
    have cc2:=hcc 2 (by omega)
    have cc3:=hcc 3 (by omega)
    have cc4:=hcc 4 (by omega)
    have cc5:=hcc 5 (by omega)
    have cc6:=hcc 6 (by omega)
    have cc7:=hcc 7 (by omega)
    have cc8:=hcc 8 (by omega)
    have cc9:=hcc 9 (by omega)
    have cc10:=hcc 10 (by omega)
    clear hcc hc
    have o0:=fun (w:World) (a:Addr) (m:Mode)=>gD Tryd.prog w a (vs k 0) m (h1c k 0 (by omega))
    have o1:=fun (w:World) (a:Addr) (m:Mode)=>gD Tryd.prog w a (vs k 1) m (h1c k 1 (by omega))
    have o2:=fun (w:World) (a:Addr) (m:Mode)=>gD Tryd.prog w a (vs k 2) m (h1c k 2 (by omega))
    have o3:=fun (w:World) (a:Addr) (m:Mode)=>gD Tryd.prog w a (vs k 3) m (h1c k 3 (by omega))
    have o4:=fun (w:World) (a:Addr) (m:Mode)=>gD Tryd.prog w a (vs k 4) m (h1c k 4 (by omega))
    have o5:=fun (w:World) (a:Addr) (m:Mode)=>gD Tryd.prog w a (vs k 5) m (h1c k 5 (by omega))
    have o6:=fun (w:World) (a:Addr) (m:Mode)=>gD Tryd.prog w a (vs k 6) m (h1c k 6 (by omega))
    have o7:=fun (w:World) (a:Addr) (m:Mode)=>gD Tryd.prog w a (vs k 7) m (h1c k 7 (by omega))
    have o8:=fun (w:World) (a:Addr) (m:Mode)=>gD Tryd.prog w a (vs k 8) m (h1c k 8 (by omega))
    have o9:=fun (w:World) (a:Addr) (m:Mode)=>gD Tryd.prog w a (vs k 9) m (h1c k 9 (by omega))
    have o10:=fun (w:World) (a:Addr) (m:Mode)=>gD Tryd.prog w a (vs k 10) m (h1c k 10 (by omega))
    have hf2:=hfv k
    have ht4:=htv k
    obtain ⟨q1,q2,q3,q4⟩:=hin k
    have y1:∀ o,(wr.alloc o).cell? ⟨w.heap.size+1,0,none⟩=some (.map (some w.heap.size)):=fun o=>(j1.alloc o).cell 0
    gi_wp2_with (gi_at_mapUpdate;(refine wpListIn_mapUpdate_own _ rfl _ _ _ 64 rfl 3 3 hKy hMT.ht (plainElem Tryd.prog 3) w.heap.size (n2+k) A' rfl (h1'.alloc _) (by unfold maxLen;omega) _ _ _ rfl rfl (hMT.key q1) _ [] (plainElem_int hMT.hk (mL.2 q2)) ?_;intro w1 hown1 hgrow1))
    go_roundw
    case rel =>
     have hl:∃ o:Obj,wr.heap[w.heap.size]?=some o∧o.isCells=false:=by obtain ⟨es,clock,hb,_⟩:=h1';exact ⟨_,hb,rfl⟩
     obtain ⟨o,hl,ho⟩:=hl
     have hl':∀ o',(wr.alloc o').heap[w.heap.size]?=some o:=fun o'=>by
      have hlt:w.heap.size<wr.heap.size:=(gL.1 hl).1
      exact (Below.heap_alloc _ _ _ hlt).trans hl
     refine ⟨k+1,by omega,by simp,⟨_,hown1,?_⟩,(j1.alloc _).grown hgrow1 fun r e=>by cases e;exact ⟨o,hl' _,ho⟩,(j2.alloc j2.size _).grown hgrow1 (by have:=j2.size;simp;omega) fun k e=>by cases e;omega,gX (by simp;omega) hgrow1.size,?_⟩
     ·rw [ng,BN];exact iH.put hMT h2' q1
     ·have hDlt:D<wr.heap.size:=(gL.1 hKr).1
      rw [hgrow1.block D (by simp;omega) (by simp;omega)]
      exact (Below.heap_alloc _ _ _ hDlt).trans hKr
    case measure=>simp [intOf] <;> omega
   ·obtain rfl:k=n1:=by omega
    obtain ⟨i0,hi,hz0,hz1,hz2⟩:=info_parts (show (Tryd.prog.info? 47).map (fun i=>(i.zero,i.size,i.bytes))=some (some (.agg #[.int .i64 0,.int .i64 0]),2,16) by kernel_rfl)
    have hU:Tryd.prog.underlying 44=some (.slice 47):=by kernel_rfl
    have hsl:=h1'.size_le
    gi_wp2_with (gi_at_range;refine wpListIn_range_own _ rfl _ 64 rfl 3 3 hKy hMT.ht _ w.heap.size (n2+k) A' rfl h1' ?_;intro w0 hrg0 hg0 hs0)
    have hit:∃ it,it=wr.heap.size:=⟨_,rfl⟩
    obtain ⟨it,hit⟩:=hit
    have hits:w.heap.size+3≤it∧D<it:=⟨by omega,by rw [hit];exact (gL.1 hKr).1⟩
    rw [← hit] at hrg0 ⊢
    clear hit
    have hKw:w0.heap[D]?=some (.deferred (some [])):=(hg0.block D (gL.1 hKr).1 (by simp)).trans hKr
    have jw0:=j2.grown hg0 j2.size (fun k e=>by cases e)
    clear hs0
    go_frame
    gi_loopw [10] (fun v wr=>∃ (left:Lit→Bool) (lz:Nat) (ss:List (Int × Int)),wr.ranges Tryd.prog 3 (plainElem Tryd.prog 3) w.heap.size it (n2+k) A' left lz∧ss.length+lz≤Maps.size A' ∧
      wr.ownsRow (w.heap.size+2) 47 2 v ss.length (ss.map gp).flatten∧(v = .slice none 0 0↔ss=[])∧lS (kW fv tv G (List.range k)) left ss∧Below w.heap.size w wr∧wr.heap[D]?=some (.deferred (some []))∧w.heap.size+3≤wr.heap.size)
     (fun _ wr=>wr.rangeLeft w.heap.size it)
    case atStart=>exact ⟨_,_,[],hrg0,by simp,World.ownsRow_nil _ _ _ _,by simp,lS.start h2',jw0,hKw,gX j3 hg0.size⟩
    case round =>
     obtain ⟨left,lz,ss,hrg,hcs,hrow,hnn,hC,hnx,hKx,hs3⟩:=hrel
     gi_wp2_with (gi_at_next;refine wpListIn_next_ranges_ii _ rfl _ rfl 3 3 .i64 .i64 hKy hMT.hk hMT.hk w.heap.size it (n2+k) _ _ _ rfl hrg ?_ ?_)
     ·intro lG hl0
      have hFs:Fence.wide.fn 25:=trivial
      rcases hrow.2 with ⟨rfl,_⟩ | ⟨g,cap,cur,rfl,hbase,hb,hr1,hr2,hr3,hr4⟩
      ·obtain rfl:=hnn.1 rfl
       have hc:=AnyF.slices_SortFunc_none Ej none 0 (.func (.func 26) #[] #[]) wr
       change Calls Tryd.prog 25 _ _ _ at hc
       gi_wp2_with (gi_at_call 25;refine (sd.2 hc).mono ?_;rintro e w' ⟨rfl,rfl⟩)
       refine ⟨by simp,.inl ⟨_,_,rfl,x8 hKx,?_⟩⟩
       exact ⟨_,results_tmp rfl _ _ _,[],_,rfl,⟨fun p=>by
        constructor
        ·intro h;simp at h
        ·rintro ⟨hx,hfx⟩
         have hno:¬ (left (.int .i64 p.1)=true):=by rw [hl0];simp
         rw [hC.left _ hx,hG] at *
         exact absurd ⟨by rw [hfx];rfl,fun p hp=>by simp at hp⟩ hno,.nil⟩,hnx.trans (belowK_b (w:=w) (aS _) _ D _ _ (by omega) hKx rfl rfl),.inl ⟨rfl,rfl⟩⟩
      ·have hgl:g<wr.heap.size:=(gL.1 hb).1
       have hc:=Ou g cap ss wr (Ce hb hr4) hgl (by omega)
       gi_wp2_with (gi_at_call 25;refine (sd.2 hc).mono ?_;rintro e w' ⟨rfl,d',nn,os,hp,hs,hw⟩;have hg5:wr.grownBy w' (some g):=hw▸J7 d';have hH5:Go.Sort.HoldsK gp 2 w' g 0 d':=hw▸holdsK_sortWorldK gp 2 wr g 0 nn ss.toArray d' os hgl (Ce hb hr4) hp.1;clear hw hc)
       have hKlt:D<wr.heap.size:=(gL.1 hKx).1
       have hDg:D≠g:=fun e=>by rw [e,hb] at hKx;cases hKx
       have hK5:w'.heap[D]?=some (.deferred (some [])):=(hg5.block D hKlt (fun e=>hDg (by cases e;rfl))).trans hKx
       obtain ⟨hsz',hout⟩:=Oy hC hl0 hp hs
       have hol:d'.toList.length=ss.length:=by simpa using hsz'
       have hne:ss≠[]:=fun e=>by have:=hnn.2 e;cases this
       have hg5s:=hg5.size
       refine ⟨by simp,.inl ⟨_,_,rfl,x8 hK5,?_⟩⟩
       refine ⟨_,results_tmp rfl _ _ _,d'.toList,_,rfl,by rw [← hG];exact hout,(hnx.grown hg5 hnx.size (fun j hj=>by cases hj;omega)).trans (belowK_b (w:=w) (aS _) _ D _ _ (by omega) hK5 rfl rfl),.inr ⟨g,cap,by rw [hol];rfl,by omega,by simp;omega,by omega,hr2,fun e=>hne (gE (by rw [← hol,e];rfl)),?_⟩⟩
       intro j p hj c u hu
       have hjl:j<d'.size:=by simpa using (aZ.1 hj).1
       have fu:c<2:=(aZ.1 hu).1
       have h6:=(hH5.cell (i:=j) (c:=c) hjl fu).1
       have e1:d'[j]! = p:=by
        rw [vX d' j hjl]
        have:=(aZ.1 hj).2
        simpa using this
       have e2:(gp p)[c]! = u:=by
        rw [vX (gp p) c fu]
        exact (aZ.1 hu).2
       rw [e1,e2,cT] at h6
       rw [l5 (w:=w') (World.putObj_heap_other (fun e=>hDg e.symm))]
       exact h6
     ·intro x c w2 cnt2 hwx hwc hlk hat hrg2 hlt hg2 hs2 hen
      have hrow2:=hrow.kept hg2 (Or.inr (row_ne_iter hrow hrg).symm)
      have hs4:w.heap.size+2≤w2.heap.size:=by omega
      clear hs2
      gi_wp2_with (gi_at_builtin;(refine wpListIn_append_own _ rfl _ _ 44 rfl (w.heap.size+2) 47 i0 _ 2 16 hU hi hz0 hz1 hz2 rfl (by decide) _ _ _ rfl (hrow2.alloc _) ⟨w2.heap.size,0,none⟩ 1 1 (gp (x,c)) rfl rfl (Gi w2 (gp (x,c)) 47) (by simp [Value.oneCell',gp]) (by unfold maxLen;omega) (by omega) (by simp;omega) ?_;intro v' w3 hown' hg3 hnil3))
      have hbl:w.heap.size<w.heap.size+2:=by omega
      have hrg3:=(hrg2.alloc (.cells #[.int .i64 x,.int .i64 c] 47)).kept hg3 (row_ne_low hrow2 hbl) (row_ne_iter hrow2 hrg2)
      have hK2:w2.heap[D]?=some (.deferred (some [])):=(hg2.block D (gL.1 hKx).1 (fun e=>by cases e;omega)).trans hKx
      have hK3:w3.heap[D]?=some (.deferred (some [])):=by
       have hlt2:=(gL.1 hK2).1
       have e1:=Below.heap_alloc w2 (.cells #[.int .i64 x,.int .i64 c] 47) D hlt2
       exact (hg3.block D (by simp;omega) (Nq (hrow2.alloc _) (e1.trans hK2) rfl)).trans (e1.trans hK2)
      go_roundw
      case rel =>
       refine ⟨_,cnt2,ss++[(x,c)],hrg3,by simp;omega,by simpa using hown',⟨fun hv'=>by have:=(hnil3.1 hv').2;omega,fun h=>by simp at h⟩,hC.step h2' (mL.1 hwx) (mL.1 hwc) hlk hat,?_,hK3,?_⟩
       ·exact ((hnx.grown hg2 hnx.size (fun j hj=>by cases hj;omega)).alloc (by have:=hnx.size;have:=hg2.size;omega) _).grown hg3 (by have:=hnx.size;have:=hg2.size;simp;omega) (fun j hj=>by have:=(hrow2.lt j hj).1;omega)
       ·have:=hg2.size;have:=hg3.size;simp at this;omega
      case measure=>rw [hrg3.left_eq,hrg.left_eq];exact hlt
theorem Ij:yG Tryd.prog 13:=⟨fun a1 a2 n1 c1 n2 c2 vs fv tv mf mo w h1 h2 h3 h4 h5 h6 h7 h8=>sd.1 (Ik 3 (by omega) a1 a2 n1 c1 n2 c2 vs fv tv mf mo w h1 h2 h3 h4 h5 h6 h7 h8)⟩
end Go.Proofs.YtinlnkhheafjaaaDoor
namespace Go.Proofs.YtinlnkhheafjaaaDoor
open Go.Eng Go.Pi
theorem Pr(X:Cx):fV Tryd.prog X xt:=λf args h e i a g k c j d=>by
 unfold xt at a;split at a
 ·rename_i b;subst b;exact Gp a c d
 ·skip
  split at a
  ·rename_i b;subst b;exact K3 K4 Tryd.call20 a c d
  ·skip
   cases a
theorem As:fV Tryd.prog X R:=D3 (X:=X) ym xJ (Pr X) (vU vS JL)
theorem Lw:oj cH:=λ_ _ _ _ a=>mz.1 a
theorem Pq:fV Tryd.prog X1 pF:=λj args k f h a g i c e d=>by
 unfold pF at a;split at a
 ·rename_i b;subst b;exact Mr (X:=X) Mw ym xJ As Lw IH (r:=(f,h)) (O5 a) c e d
 ·skip
  split at a
  ·rename_i b;subst b;exact Bv Ij Tryd.call13 a c d
  ·skip
   exact As _ _ _ _ _ a g i c e d
theorem Ft:fV Tryd.prog X1 R1:=D3 (X:=X1) ym xJ Pq (vU vT JM)
end Go.Proofs.YtinlnkhheafjaaaDoor
