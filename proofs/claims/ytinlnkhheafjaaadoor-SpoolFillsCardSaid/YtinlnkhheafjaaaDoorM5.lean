/- Part 5 of the texts that the theorem needs: an interpreter on data, proved sound; the functions on data; laws about them. -/
import Derived.Test.YtinlnkhheafjaaaDoorM4
import Derived.Test.YtinlnkhheafjaaaDoorM3
import Derived.RangeFuncNested
import Derived.RangeFuncLeaves
import Derived.Laws.Externs
import Derived.Test.YtinlnkhheafjaaaDoorChecked
import Derived.RangeFuncBox
import Derived.Shelf.Abstract
import Derived.WalkKit
import Derived.OwnWalkIn
import Derived.TacticsInMore
import Derived.LoopNIn
import Derived.LoopIn
import Derived.KernelRfl
set_option linter.unusedSimpArgs false
set_option linter.unusedVariables false
set_option linter.unnecessarySimpa false
namespace Go.Pi
open Go.Eng
def Bp:D→Bool
 |.J=>true
 |.sl _ _ _=>true
 |_=>false
def Dp:D→Int→D
 |.sl _ _ rows,a =>.sl 1 false (rows.drop a.toNat)
 |d,_=>d
def yL:D→Option Nat
 |.J=>some 0
 | .sl 1 _ rows=>match mT rows with
  |some _=>some rows.length
  |none=>none
 |_=>none
def vz(R:bV)(f:Nat)(d:D)(b:Nat):Nat→Int→Option (List (List D × Int))
 |0,_=>none
 | k+1,a=>match R f [Dp d a] []with
  |some (.bU [.agg [.int .i64 c,y,z],.int .i64 n,.int .i64 e],[])=>if Bp y=true∧Bp z=true then(if e=0 then(if 0<n∧a+n≤b then(vz R f d b k (a+n)).map (([.int .i64 c,y,z],a+n) :: ·)else none)else some [])else none
  |_=>none
end Go.Pi
namespace Go.Eng
abbrev pZ:=@KeepsOthers.setCell
end Go.Eng
namespace Go.Pi
open Go.Eng Go.RowKit
structure gp (L:Nat→Prop) (W W':World):Prop where
 size:W.heap.size≤W'.heap.size
 cell:∀b i v,¬L b→W.cell? ⟨b,i,none⟩=some v→W'.cell? ⟨b,i,none⟩=some v
theorem gp.refl(b:Nat→Prop)(a:World):gp b a a:=⟨aT _,λ_ _ _ _ c=>c⟩
theorem gp.trans{a:Nat→Prop}{b c C:World}(h:gp a b c)(k:gp a c C):gp a b C:=⟨h6 h.size k.size,λd f g e i=>k.cell d f g e (h.cell d f g e i)⟩
theorem gp.below{e:Nat→Prop}{a b:World}(h:Below a.heap.size a b):gp e a b:=⟨h.size,λc g i _ d=>by
 have f:c<a.heap.size:=sG a _ d;rw[mL (w:=a) (h.block c f)];exact d⟩
theorem gp.putObj{c:Nat→Prop}{a:World}{l:Nat}{o:Obj}(h:Obj)(f:a.heap[l]?=some o)(i:o.isCells=false):gp c a (a.putObj l h):=⟨by simp,λd j k _ b=>by
 have g:d≠l:=λe=>by
  subst e;unfold World.cell? at b;rw[f]at b;cases o<;>simp_all [Obj.isCells]
 rw[mL (w:=a) (World.putObj_heap_other g)];exact b⟩
theorem gp.alloc{b:Nat→Prop}(a:World)(o:Obj):gp b a (a.alloc o) :=.below ((Below.refl _ a).alloc (aT _) o)
theorem gp.set{c:Nat→Prop}(b:World)(a:Addr)(v:Value)(h:c a.block):gp c b (b.setCell a v):=⟨(pZ b a v).size,λd i j e g=>by
 rw[mL (w:=b) (Below.heap_setCell b a v d λf=>e (f▸h))];exact g⟩
theorem gp.drew{b:Nat→Prop}(a:World):gp b a a.drew:=⟨aT _,λ_ _ _ _ c=>c⟩
def Gh.off(L:Nat→Prop)(a:World):Gh:=⟨a,[],L⟩
theorem aB.move{g g':Gh}(E:∀(o:Nat) (m:Me),g.ms[o]?=some m→g'.ms[o]?=some m)(A:∀b,g.fz b→g'.fz b)(z:∀b i v,g.fz b→g.w.cell? ⟨b,i,none⟩=some v→g'.w.cell? ⟨b,i,none⟩=some v){v:Value}{d:D}(h:aB g v d):aB g' v d:=by
 induction h with
 |any v=>exact .any v
 |bJ=>exact .bJ
 |bool b=>exact .bool b
 |int ad n=>exact .int ad n
 |str ai=>exact .str ai
 |fG=>exact .fG
 |ptr o i ae m u=>exact .ptr o i ae m (E _ _ u)
 | aE b o l c B q e x a =>
  refine .aE b o l c (λf=>A _ (B f)) (λy d j=>?_) e a;exact z _ _ _ (B λs=>by subst s;cases j) (q y d j)
 |J=>exact .J
 | sl G n k aj L ah f Q r M T R p c q e x a =>
  refine .sl G n k aj L ah f Q r M T R (λF=>⟨(p F).1,A _ (p F).2⟩) c (λi ag C y d j=>?_) e a;exact z _ _ _ (p λs=>by subst s;cases C).2 (q i ag C y d j)
 |S o af n k m u f P N r=>exact .S o af n k m (E _ _ u) f P N r
 |gS=>exact .gS
 |fn K first H am al aa X ao an ac ab=>exact .fn K first H am al aa X ac ab
 |hS=>exact .hS
 |iface ak v d h a=>exact .iface ak v d a
 |agg c l t e x a=>exact .agg c l t e a
 |bU c I t x a=>exact .bU c I t a
 |raw v=>exact .raw _
theorem aB.bA{a:Nat→Prop}{c e:World}(i:gp a c e){v:Value}{d:D}(h:aB (Gh.off a c) v d):aB (Gh.off a e) v d:=
 aB.move (g:=Gh.off a c) (g':=Gh.off a e) (λ_ _ h=>h) (λf b=>⟨gL b.1 i.size,b.2⟩) (λf k v b j=>i.cell f k v b.2 j) h
variable {F:Fence} {n:Nat} {P:Program}
structure RX where
 k:Int
 p1:Option Addr
 l1:Nat
 c1:Nat
 p2:Option Addr
 l2:Nat
 c2:Nat
 d1:D
 d2:D
 at_:Int
def RX.val(x:RX):Value :=.agg #[.int .i64 x.k,.slice x.p1 x.l1 x.c1,.slice x.p2 x.l2 x.c2]
def RX.enc(x:RX):Array Value := #[.agg #[.int .i64 x.k,.slice x.p1 x.l1 x.c1,.slice x.p2 x.l2 x.c2],.int .i64 x.at_]
def RX.row(x:RX):List D:=[.int .i64 x.k,x.d1,x.d2]
def RX.Dt(x:RX):List D × Int:=(x.row,x.at_)
def RX.OK(a:Nat→Prop)(x:RX)(b:World):Prop:=aB (Gh.off a b) x.val (.agg x.row)
theorem RX.OK.bA{a:Nat→Prop}{x:RX}{b c:World}(h:x.OK a b)(k:gp a b c):x.OK a c:=aB.bA k h
def CB(a:World)(b:Nat)(cs:Array Value)(t:TypeId):Prop:=a.heap[b]?=some (.cells cs t (0,0))
theorem CB.below{a c:World}{b:Nat}{cs:Array Value}{t:TypeId}(h:CB a b cs t)(d:Below a.heap.size a c):CB c b cs t:=(d.block b (jh.1 h).1).trans h
theorem CB.grown{a c:World}{b:Nat}{cs:Array Value}{t:TypeId}(h:CB a b cs t){row:Option Nat}(d:a.grownBy c row)(e:∀r,row=some r→∃o:Obj,a.heap[r]?=some o∧o.isCells=false):CB c b cs t:=(grownBy_keeps_cells d e h rfl).trans h
theorem CB.put{a:World}{b:Nat}{cs:Array Value}{t:TypeId}(h:CB a b cs t){l:Nat}{o:Obj}(c:Obj)(e:a.heap[l]?=some o)(f:o.isCells=false):CB (a.putObj l c) b cs t:=h.grown (grownBy_putObj' a l c) λg d=>by cases d;exact⟨o,e,f⟩
theorem CB.alloc{a:World}{b:Nat}{cs:Array Value}{t:TypeId}(h:CB a b cs t)(o:Obj):CB (a.alloc o) b cs t:=h.below ((Below.refl _ a).alloc (aT _) o)
theorem CB.new(a:World)(cs:Array Value)(t:TypeId):CB (a.alloc (.cells cs t)) a.heap.size cs t:=World.alloc_heap_new a _
theorem CB.set{a:World}{b:Nat}{cs:Array Value}{t:TypeId}(h:CB a b cs t)(i:Nat)(v:Value):CB (a.setCell ⟨b,i,none⟩ v) b (cs.setIfInBounds i v) t:=by
 obtain⟨d,c⟩:=jh.1 h;show(a.heap.modify b _)[b]?=_;rw[kp (by rw[Array.size_modify];exact d),Array.getElem_modify_self,c];rfl
theorem CB.other{a:World}{b:Nat}{cs:Array Value}{t:TypeId}(h:CB a b cs t){c i:Nat}(v:Value)(d:b≠c):CB (a.setCell ⟨c,i,none⟩ v) b cs t:=(Below.heap_setCell a ⟨c,i,none⟩ v b d).trans h
theorem CB.lt{a:World}{b:Nat}{cs:Array Value}{t:TypeId}(h:CB a b cs t):b<a.heap.size:=(jh.1 h).1
theorem CB.cell{a:World}{b:Nat}{cs:Array Value}{t:TypeId}(h:CB a b cs t)(i:Nat):a.cell? ⟨b,i,none⟩=cs[i]?:=by
 unfold World.cell?;simp only[show a.heap[b]?=_ from h];simp
theorem CB.frozen{a:World}{b:Nat}{cs:Array Value}{t:TypeId}(h:CB a b cs t)(i:Nat):a.frozen? ⟨b,i,none⟩=false:=by
 unfold World.frozen?;simp only[show a.heap[b]?=_ from h];simp
theorem gp.grown{b:Nat→Prop}{a c:World}{row:Option Nat}(e:a.grownBy c row)(i:∀r,row=some r→b r):gp b a c:=⟨e.size,λd j k h f=>by
 rw[mL (w:=a) (e.block d (sG a _ f) λg=>h (i d g.symm))];exact f⟩
def zX(a:List RX):RX:=(a.getLast?).getD ⟨0,none,0,0,none,0,0,.J,.J,0⟩
def RX.cs(x:RX):Array Value := #[.int .i64 x.k,.slice x.p1 x.l1 x.c1,.slice x.p2 x.l2 x.c2]
structure Ln (P:Program) (X:Cx) (R:bV) (fl fe fd te:FuncId):Prop where
 last:∀(L:Nat→Prop) (len:Nat) (w:World) (a:Option Addr) (m c:Nat) (d:D) (recs:List (List D × Int)),len≤10000000000→(∀b,L b→b<w.heap.size)→aB (Gh.off L w) (.slice a m c) d→yL d=some len→eU (Gh.off L w) X.gl →
  vz R fd d len (len+1) 0=some recs→Calls P fl #[.slice a m c] w λe W'=>∃xs:List RX,xs.map RX.Dt=recs∧(∀x∈xs,x.OK L W')∧Below w.heap.size w W'∧e = .returned (.tuple #[(zX xs).val,.int .i64 (zX xs).at_])
 ends:∀ (L:Nat→Prop) (len:Nat) (w:World) (a:Option Addr) (m c:Nat) (d:D) (recs:List (List D × Int)),len≤10000000000→(∀ b,L b→b<w.heap.size)→aB (Gh.off L w) (.slice a m c) d→yL d=some len→eU (Gh.off L w) X.gl →
  vz R fd d len (len+1) 0=some recs→Calls P fe #[.slice a m c] w λe W'=>∃v,e = .returned v∧W'.ownsRow (w.heap.size+2) te 1 v recs.length (recs.map λr =>.int .i64 r.2)∧(recs=[]→v = .slice none 0 0)∧Below w.heap.size w W'
theorem y4{g:Gh}{c:World}(h:Below g.w.heap.size g.w c):aS g ⟨c,g.ms,g.L⟩ :=.pj ⟨h.os,h.tape,h.output,h.size,λ_ _ h=>h,λb a=>⟨⟨gL a.1 h.size,a.2⟩,h.block b a.1⟩⟩ rfl rfl λb a=>h.block b a
section
variable {X:Cx} {R:bV} {fl fe fd te:FuncId}
end
theorem CB.q8{a:World}{b:Nat}{cs:Array Value}{t:TypeId}(h:CB a b cs t)(c i:Nat)(v:Value)(d:b≠c):CB (a.setCell ⟨c,i,none⟩ v) b cs t:=h.other v d
def hh(n k:Nat):List Nat:=((List.range n).drop k).reverse
theorem s0(n:Nat):hh n n=[]:=by simp[hh]
theorem s3{n k:Nat}(h:k<n):hh n (k+1)++[k]=hh n k:=by
 unfold hh;rw[jk (l:=List.range n) (i:=k) (by simpa using h)];simp
theorem Ao{n k j:Nat}:j∈hh n k↔k≤j∧j<n:=by
 unfold hh;rw[List.mem_reverse,List.mem_iff_getElem?];constructor
 ·rintro⟨d,c⟩;rw[iA]at c;obtain⟨a,b⟩:=bB.1 c;rw[sj]at b;rw[sk]at a;omega
 ·rintro⟨a,b⟩;refine⟨j - k,?_⟩;rw[iA,bB];exact⟨by rw[sk];omega,by rw[sj];omega⟩
theorem DX(n k:Nat):(hh n k).length=n - k:=by simp[hh]
def jz(a b:Nat→Int)(f:Int):Nat→Int × Bool
 |0=>(0,false)
 |n+1=>if a n=f then(b n,true)else jz a b f n
theorem zp{a b:Nat→Int}{f:Int}:∀{n:Nat},(∀j,j<n→a j≠f)→jz a b f n=(0,false)
 |0,_=>rfl
 |n+1,h=>by unfold jz;rw[cI (h n (by omega))];exact zp λj c=>h j (by omega)
theorem zo{a c:Nat→Int}{f:Int}{k:Nat}:∀{n:Nat},k<n→a k=f→(∀j,k<j→j<n→a j≠f)→jz a c f n=(c k,true)
 |0,h,_,_=>by omega
 | n+1,h,e,b=>by
  unfold jz;by_cases g:k=n
  ·subst g;rw[bN e]
  ·rw[cI (b n (by omega) (by omega))];exact zo (by omega) e λj d h2=>b j d (by omega)
structure xC (P:Program) (fl:FuncId) (V fi ti:Nat):Prop where
 run:∀(b off len cap:Nat) (vs:Nat→Nat→Value) (fv tv:Nat→Int) (f:Int) (w:World),len*8≤140737488351232→b<w.heap.size→(∀j,j<len→∀i,i<V→w.cell? ⟨b,off+j*V+i,none⟩=some (vs j i))→(∀j i,i<V→(vs j i).oneCell'=true)→(∀j,vs j fi = .int .i64 (fv j))→(∀j,vs j ti = .int .i64 (tv j)) →
  Calls P fl #[.slice (some ⟨b,off,none⟩) len cap,.int .i64 f] w λe W'=>e = .returned (.tuple #[.int .i64 (jz fv tv f len).1,.bool (jz fv tv f len).2])∧Below w.heap.size w W'
 nil:∀(a:Option Addr) (cap:Nat) (f:Int) (w:World),Calls P fl #[.slice a 0 cap,.int .i64 f] w λe W'=>e = .returned (.tuple #[.int .i64 0,.bool false])∧Below w.heap.size w W'
theorem A2{i:Nat}{r:List D}{z:Int}(h:gx i r=some z):r[i]?=some (.int .i64 z):=by
 unfold gx at h;split at h
 ·rename_i a;injection h with h;rw[a,h]
 ·cases h
theorem zq{fi ti:Nat}{f:Int}:∀(rows:List (List D)) (n:Nat),n≤rows.length→(∀r∈rows,ln fi ti r=true)→jz (λj=>(gx fi (rows[j]?.getD [])).getD 0) (λj=>(gx ti (rows[j]?.getD [])).getD 0) f n=lZ fi ti f (rows.take n)
 |rows,0,_,_=>rfl
 | rows,n+1,g,c=>by
  unfold jz;have a:n<rows.length:=by omega
  rw[zq rows n (by omega) c,B6 a,Hv];have b:=c _ (nV a);simp only[ln,dQ,xR]at b;obtain⟨⟨i,e⟩,⟨h,d⟩⟩:=b;simp only[cA a,js,e,d,iZ]
variable {P:Program} {fl:FuncId} {V fi ti:Nat}
theorem Hw (G:xC P fl V fi ti) (M:∀(t:Array Value) (w:World),(callFunc fl t).run P w = .ok (.enter fl t) w) {args:List D} {h h':Z} {d:D} (c:oe V fi ti args h=some (d,h')) {g:Gh} {vs:List Value} (hi:Inv g h) (j:aU g vs args):jM P fl vs g h' d:=by
 have E:∀{r:Int × Bool} {t:Array Value},(Calls P fl t g.w λn s=>n = .returned (.tuple #[.int .i64 r.1,.bool r.2])∧Below g.w.heap.size g.w s)→Calls P fl t g.w λn s=>∃X,n = .returned X∧∃y,y.w=s∧aS g y∧Inv y h∧aB y X (.bU [.int .i64 r.1,.bool r.2]):=λK=>pR K λn s ⟨am,I⟩ =>
  ⟨_,am,⟨s,g.ms,g.L⟩,rfl,y4 I,hi.same (y4 I) rfl rfl λA ak=>I.block A ak,.bU [_,_] [_,_] rfl λa X d k c=>by
   match a with
   |0=>injection k with k;injection c with c;subst k;subst c;exact .int _ _
   |1=>injection k with k;injection c with c;subst k;subst c;exact .bool _
   |a+2=>cases c⟩
 unfold oe at c;split at c
 ·rename_i f;injection c with c;injection c with u F;subst u;subst F;cases j with
  | cons k j=>cases j with
   | cons N j =>
    cases j;cases k;cases N;exact .inl ⟨M _ _,E (r:=(0,false)) (G.nil none 0 f g.w)⟩
 ·rename_i p ai i f;split at c
  ·rename_i K;obtain⟨rfl,H,an⟩:=K;injection c with c;injection c with u F;subst u;subst F;rw[eV]at H;cases j with
   | cons k j=>cases j with
    | cons N j =>
     cases j;cases N;cases k with
     | sl ah ax ac V ai i ao av ar au aw ap aj ag al u j =>
      subst ao;by_cases ad:i=[]
      ·subst ad;exact .inl ⟨M _ _,E (r:=(0,false)) (G.nil _ ac f g.w)⟩
      ·obtain⟨aa,ab⟩:=aj ad;obtain⟨A,aq,ay⟩:=ah;simp only at aa ab;subst aa;have Q:∀{a:Nat} (e:a<i.length),∃r,i[a]?=some r∧r.length=p∧ln fi ti r=true:=λ{a} e=>⟨i[a],cA e,ap _ (nV e),H _ (nV e)⟩
       obtain⟨z,T⟩:∃z:Nat→Nat→Value,z=λa b=>if a<i.length∧b<p then ag a b else .int .i64 0:=⟨_,rfl⟩
       have m:∀{b:Nat} (a:Nat),(∀r,r.length=p→ln fi ti r=true→b<p∧∃q,gx b r=some q)→z a b = .int .i64 ((gx b (i[a]?.getD [])).getD 0):=λ{b} a l=>by
        rw[T];by_cases e:a<i.length
        ·obtain⟨r,o,B,C⟩:=Q e;obtain⟨v,q,m⟩:=l r B C;rw[o,js,m,js];simp only[e,v,gv,aL];have:=j a r o b _ (A2 m);generalize ag a b=az at this ⊢;cases this;rfl
        ·simp only[e,false_and,aR];rw[nU (by omega)];rfl
       have af:∀{b:Nat} {r:List D},r.length=p→(gx b r).isSome=true→b<p∧∃q,gx b r=some q:=λ{b r} x l=>by
        obtain⟨q,m⟩:=xR.1 l;exact⟨x▸(bB.1 (A2 m)).1,q,m⟩
       have ae:=G.run A aq i.length ac z (λa=>(gx fi (i[a]?.getD [])).getD 0) (λa=>(gx ti (i[a]?.getD [])).getD 0) f g.w an ab.1 (λa e b v=>by
        obtain⟨r,o,B,C⟩:=Q e;have R:b<r.length:=by omega
        rw[T];simp only[e,v,gv,aL];exact al a r o b _ (cA R)) (λa b v=>by
        rw[T];by_cases e:a<i.length
        ·obtain⟨r,o,B,C⟩:=Q e;have R:b<r.length:=by omega
         simp only[e,v,gv,aL];exact u a r o b _ (cA R)
        ·simp only[e,false_and,aR];rfl) (λa=>m a λr x l=>af x (by simp only[ln,dQ]at l;exact l.1)) (λa=>m a λr x l=>af x (by simp only[ln,dQ]at l;exact l.2))
       have n:=zq (fi:=fi) (ti:=ti) (f:=f) i i.length (aT _) H;rw[ss]at n;rw[n]at ae;exact .inl ⟨M _ _,E ae⟩
  ·cases c
 ·cases c
end Go.Pi
namespace Go.Eng
abbrev rM:=@Array.replicate_succ
abbrev rN:=@Array.replicate_zero
abbrev sf:=@List.append_toArray
abbrev sq:=@List.push_toArray
end Go.Eng
namespace Go.Proofs.YtinlnkhheafjaaaDoor
open Go.Eng Go.Pi Go.RowKit Go.Shelf
attribute [local go_sem] Oper.semAt_some
set_option maxRecDepth 100000 in
set_option maxHeartbeats 4000000 in
theorem CL (F:Fence) (n:Nat) (hf:F.fn 64) (hro:F.round=none) (hn:1≤n) (l Bs n₀ b off len cap:Nat) (vs:Nat→Nat→Value) (hreach:len*8≤140737488351232) (hb:b<n₀) (J Jx:List Nat→World→Prop)
  (hY:∀ pre (x:Nat) W,J pre W→pre.length<len→YieldAt F (n - 1) Tryd.prog l #[.int .i64 (x:Int),.agg #[vs x 0,vs x 1,vs x 2,vs x 3,vs x 4,vs x 5,vs x 6,vs x 7,vs x 8,vs x 9,vs x 10]] W fun e W' =>
   (e = .returned (.bool true)∧J (pre++[x]) W'∧Below n₀ W W')∨(e = .returned (.bool false)∧Jx (pre++[x]) W'))
  (W:World) (hBs:W.cell? ⟨Bs,0,none⟩=some (.slice (some ⟨b,off,none⟩) len cap)) (hBn:Bs<n₀) (hc:∀ j,j<len→∀ i,i<11→W.cell? ⟨b,off+j*11+i,none⟩=some (vs j i)) (h0:J [] W) :
  CallsIn F n Tryd.prog 64 #[.func (.yield l) #[] #[],.pointer (some ⟨Bs,0,none⟩)] W fun e W'=>(∃ v,e = .returned v) ∧
   (J (hh len 0) W'∨(∃ k,k≤len∧Jx (hh len k) W')):=by
 have hl63:len≤17592186044416:=by omega
 refine callsIn_of_wp Tryd.func64 rfl hf ?_ hro
 simp only [Tryd.ntmps64,lB,e8,fB,Nat.reduceAdd,Nat.reduceSub,rM,rN,sq,sf,jW,mB]
 gi_wp2
 gi_loopw [3] (fun i wr=>∃ (k:Nat) (z:Int),k≤len∧i = .int .i64 z∧z=(k:Int) - 1∧J (hh len k) wr∧Below n₀ W wr)
  (fun i _=>(intOf i+1).toNat)
 case atStart=>exact ⟨len,_,aT _,rfl,by simp,by rw [s0];exact h0,Below.refl _ _⟩
 case round =>
  obtain ⟨k,z,hk,rfl,hz,hJs,hnx⟩:=hrel
  have hBs':=(hnx.cell (p:=⟨Bs,0,none⟩) hBn).trans hBs
  cases k with
  | zero =>
   obtain rfl:z = -1:=by omega
   clear hz
   gi_wp2
   go_end0
   exact ⟨⟨_,rfl⟩,.inl hJs⟩
  | succ k =>
   obtain rfl:z=(k:Int):=by omega
   clear hz
   have hcc:∀ i,i<11→wr.cell? ⟨b,off+k*11+i,none⟩=some (vs k i):=fun i hi=>(hnx.cell (p:=⟨b,off+k*11+i,none⟩) hb).trans (hc k (by omega) i hi)
   have c0:wr.cell? ⟨b,off+k*11,none⟩=some (vs k 0):=hcc 0 (by omega)
   have c1:=hcc 1 (by omega)
   have c2:=hcc 2 (by omega)
   have c3:=hcc 3 (by omega)
   have c4:=hcc 4 (by omega)
   have c5:=hcc 5 (by omega)
   have c6:=hcc 6 (by omega)
   have c7:=hcc 7 (by omega)
   have c8:=hcc 8 (by omega)
   have c9:=hcc 9 (by omega)
   have c10:=hcc 10 (by omega)
   clear hcc
   obtain ⟨fn,tmps,assign,body,hy,hR⟩:=hY _ k wr hJs (by rw [DX];omega)
   gi_wp2
   refine hR.mono ?_
   rintro e W3 (⟨rfl,hJ3,hk3⟩ | ⟨rfl,hJx3⟩)
   ·gi_wp2
    go_roundw
    case rel=>exact ⟨k,_,by omega,rfl,by simp,by rw [← s3 (by omega:k<len)];exact hJ3,hnx.trans hk3⟩
    case measure=>simp [intOf] <;> omega
   ·gi_wp2
    refine bodyPost_ret (results_none rfl _ _ _) rfl ?_
    exact ⟨⟨_,rfl⟩,.inr ⟨k,by omega,by rw [← s3 (by omega:k<len)];exact hJx3⟩⟩
set_option maxRecDepth 100000 in
set_option maxHeartbeats 4000000 in
theorem CN (F:Fence) (n:Nat) (hf:F.fn 64) (hro:F.round=none) (l Bs cap:Nat) (a:Option Addr) (J:List Nat→World→Prop)
  (W:World) (hBs:W.cell? ⟨Bs,0,none⟩=some (.slice a 0 cap)) (h0:J [] W) :
  CallsIn F n Tryd.prog 64 #[.func (.yield l) #[] #[],.pointer (some ⟨Bs,0,none⟩)] W fun e W'=>(∃ v,e = .returned v)∧J [] W':=by
 refine callsIn_of_wp Tryd.func64 rfl hf ?_ hro
 simp only [Tryd.ntmps64,lB,e8,fB,Nat.reduceAdd,Nat.reduceSub,rM,rN,sq,sf,jW,mB]
 gi_wp2
 gi_loopw [3] (fun i wr=>i = .int .i64 (-1)∧J [] wr) (fun _ _=>0)
 case atStart=>exact ⟨rfl,h0⟩
 case round =>
  obtain ⟨rfl,hJs⟩:=hrel
  gi_wp2
  go_end0
  exact ⟨⟨_,rfl⟩,hJs⟩
set_option maxHeartbeats 1000000 in
theorem CP (F:Fence) (n:Nat) (hf:F.fn 41) (hro:F.round=none) (a:Option Addr) (len cap:Nat) (w:World) :
  CallsIn F n Tryd.prog 41 #[.slice a len cap] w fun e w'=>e = .returned (.func (.func 64) #[] #[.pointer (some ⟨w.heap.size,0,none⟩)])∧w'=w.alloc (.cells #[.slice a len cap] 24):=by
 refine callsIn_of_wp Tryd.func41 rfl hf ?_ hro
 simp only [Tryd.ntmps41,lB,e8,fB,Nat.reduceAdd,Nat.reduceSub,rM,rN,sq,sf,jW,mB]
 gi_wp2
 go_ret
 exact ⟨rfl,rfl⟩
def sK (vs:Nat→Nat→Value) (x:Nat):Array Value := #[.int .i64 (x:Int),.agg #[vs x 0,vs x 1,vs x 2,vs x 3,vs x 4,vs x 5,vs x 6,vs x 7,vs x 8,vs x 9,vs x 10]]
theorem CO (F:Fence) (n:Nat) (hf:F.fn 64) (hro:F.round=none) (hn:1≤n) (Bs n₀ b off len cap:Nat) (vs:Nat→Nat→Value) (hreach:len*8≤140737488351232) (hb:b<n₀) (w:World) (hBs:Bs<w.heap.size) (hBn:Bs<n₀) (hbw:b<w.heap.size)
  (hcB:CB w Bs #[.slice (some ⟨b,off,none⟩) len cap] 24) (hc:∀ j,j<len→∀ i,i<11→w.cell? ⟨b,off+j*11+i,none⟩=some (vs j i)) :
  SeqStopsK F n Tryd.prog 64 #[.pointer (some ⟨Bs,0,none⟩)] (sK vs) (Below n₀) (fun ys=>ys=hh len 0) (fun pre=>∃ k,k≤len∧pre=hh len k) len w:=fun l J Jx W hW hJ hJx hY h0=>by
 refine (CL F n hf hro hn l Bs n₀ b off len cap vs hreach hb J Jx hY W ((hW.cell (p:=⟨Bs,0,none⟩) hBs).trans (hcB.cell 0)) hBn (fun j hj i hi=>(hW.cell (p:=⟨b,off+j*11+i,none⟩) hbw).trans (hc j hj i hi)) h0).mono ?_
 rintro e W' ⟨he,h | ⟨k,hk,h⟩⟩
 ·exact ⟨he,.inl ⟨_,rfl,h⟩⟩
 ·exact ⟨he,.inr ⟨_,⟨k,hk,rfl⟩,h⟩⟩
set_option maxRecDepth 100000 in
set_option maxHeartbeats 4000000 in
theorem zY (F:Fence) (n:Nat) (hf:F.fn 20) (hfb:F.fn 41) (hfi:F.fn 64) (hro:F.round=none) (hn:3≤n) (a:Option Addr) (len cap:Nat) (vs:Nat→Nat→Value) (fv tv:Nat→Int) (f:Int) (w:World)
  (hseq:∀ W0:World,Below w.heap.size w W0→W0.heap.size=w.heap.size+4→CB W0 (w.heap.size+1+1+1) #[.slice a len cap] 24→SeqStopsK F (n - 1) Tryd.prog 64 #[.pointer (some ⟨w.heap.size+1+1+1,0,none⟩)] (sK vs) (Below (w.heap.size+4)) (fun ys=>ys=hh len 0) (fun pre=>∃ k,k≤len∧pre=hh len k) len W0)
  (hfv:∀ j,vs j 2 = .int .i64 (fv j)) (htv:∀ j,vs j 4 = .int .i64 (tv j)) (h1c:∀ j i,i<11→(vs j i).oneCell'=true) :
  CallsIn F n Tryd.prog 20 #[.slice a len cap,.int .i64 f] w fun e W'=>e = .returned (.tuple #[.int .i64 (jz fv tv f len).1,.bool (jz fv tv f len).2])∧Below w.heap.size w W':=by
 have h1:1≤n:=by omega
 refine callsIn_of_wp_marks Tryd.func20 rfl hf ?_ hro
 simp only [Tryd.ntmps20,lB,e8,fB,Nat.reduceAdd,Nat.reduceSub,rM,rN,sq,sf,jW,mB]
 gi_wp2_with (gi_at_call 41;refine (CP F (n - 1) hfb hro _ _ _ _).mono ?_;rintro e w' ⟨rfl,rfl⟩)
 have cF:=(((CB.new w #[.int .i64 f] 3).alloc (.cells #[.int .i64 0] 3)).alloc (.cells #[.bool false] 4)).alloc (.cells #[.slice a len cap] 24)
 have cR:=((CB.new (w.alloc (.cells #[.int .i64 f] 3)) #[.int .i64 0] 3).alloc (.cells #[.bool false] 4)).alloc (.cells #[.slice a len cap] 24)
 have cO:=(CB.new ((w.alloc (.cells #[.int .i64 f] 3)).alloc (.cells #[.int .i64 0] 3)) #[.bool false] 4).alloc (.cells #[.slice a len cap] 24)
 have cB:=CB.new (((w.alloc (.cells #[.int .i64 f] 3)).alloc (.cells #[.int .i64 0] 3)).alloc (.cells #[.bool false] 4)) #[.slice a len cap] 24
 have hB0:Below w.heap.size w ((((w.alloc (.cells #[.int .i64 f] 3)).alloc (.cells #[.int .i64 0] 3)).alloc (.cells #[.bool false] 4)).alloc (.cells #[.slice a len cap] 24)):=((((Below.refl _ w).alloc (aT _) _).alloc (by simp) _).alloc (by simp;omega) _).alloc (by simp;omega) _
 have fN:((((w.alloc (.cells #[.int .i64 f] 3)).alloc (.cells #[.int .i64 0] 3)).alloc (.cells #[.bool false] 4)).alloc (.cells #[.slice a len cap] 24)).heap.size=w.heap.size+4:=by simp
 simp only [World.size_alloc] at cR cO cB
 obtain ⟨W0,hW0⟩:∃ W0,((((w.alloc (.cells #[.int .i64 f] 3)).alloc (.cells #[.int .i64 0] 3)).alloc (.cells #[.bool false] 4)).alloc (.cells #[.slice a len cap] 24))=W0:=⟨_,rfl⟩
 rw [hW0] at cF cR cO cB hB0 fN ⊢
 clear hW0
 refine wpIn_rangeFunc_ownH hro h1 (gf:=64) (lb := #[.pointer (some ⟨w.heap.size+1+1+1,0,none⟩)]) rfl hfi (enters_of Tryd.func64 (by kernel_rfl) rfl)
  (hseq W0 hB0 fN cB) belowK_t (belowK_b (by omega)) (Below.refl _ _) (fun _=>rfl)
  (fun pre W=>(∀ j∈pre,fv j≠f)∧CB W w.heap.size #[.int .i64 f] 3∧CB W (w.heap.size+1) #[.int .i64 0] 3∧CB W (w.heap.size+1+1) #[.bool false] 4∧Below w.heap.size w W∧w.heap.size+4≤W.heap.size)
  (fun c pre W=>c = .ret∧(∃ ini last,pre=ini++[last]∧(∀ j∈ini,fv j≠f)∧fv last=f∧CB W (w.heap.size+1) #[.int .i64 (tv last)] 3∧CB W (w.heap.size+1+1) #[.bool true] 4)∧Below w.heap.size w W)
  ?own ?ownx ⟨by simp,cF,cR,cO,hB0,by omega⟩
  (fun x a' W=>∃ Bx,w.heap.size+1+1<Bx∧CB W Bx #[vs x 0,vs x 1,.int .i64 (fv x),vs x 3,.int .i64 (tv x),vs x 5,vs x 6,vs x 7,vs x 8,vs x 9,vs x 10] 38∧a'={ tmps := #[Value.slice a len cap,.int .i64 f,undef,.pointer (some ⟨w.heap.size,0,none⟩),.pointer (some ⟨w.heap.size+1,0,none⟩),.pointer (some ⟨w.heap.size+1+1,0,none⟩),undef,.pointer (some ⟨Bx,0,none⟩),Value.slice a len cap,.func (.func 64) #[] #[.pointer (some ⟨w.heap.size+1+1+1,0,none⟩)],.int .i64 (x:Int),.agg #[vs x 0,vs x 1,.int .i64 (fv x),vs x 3,.int .i64 (tv x),vs x 5,vs x 6,vs x 7,vs x 8,vs x 9,vs x 10],undef,undef,undef,undef,undef,undef,undef,undef],defers:=[] })
  ?ax ?assign ?body ?done ?stop
 case own=>exact fun s A B row hs hg hr=>⟨hs.1,hs.2.1.grown hg fun r e=>(hr r e).2,hs.2.2.1.grown hg fun r e=>(hr r e).2,hs.2.2.2.1.grown hg fun r e=>(hr r e).2,hs.2.2.2.2.1.grown hg hs.2.2.2.2.1.size (fun k e=>by have:=(hr k e).1;omega),h6 hs.2.2.2.2.2 hg.size⟩
 case ownx =>
  rintro c s A B row ⟨hc,⟨ini,last,e1,e2,e3,e4,e5⟩,hs⟩ hg hr
  exact ⟨hc,⟨ini,last,e1,e2,e3,e4.grown hg fun r e=>(hr r e).2,e5.grown hg fun r e=>(hr r e).2⟩,hs.grown hg hs.size fun k e=>by have:=(hr k e).1;omega⟩
 case ax =>
  rintro x a' s A B row ⟨Bx,h1,h2,h3⟩ hg hr
  exact ⟨Bx,h1,h2.grown hg fun r e=>(hr r e).2,h3⟩
 case assign =>
  rintro l pre x W K ⟨hp,i1,i2,i3,i4,i5⟩ hK
  dsimp only [sK]
  have o0:=fun (w:World) (a:Addr) (m:Mode)=>jK Tryd.prog w a (vs x 0) m (h1c x 0 (by omega))
  have o1:=fun (w:World) (a:Addr) (m:Mode)=>jK Tryd.prog w a (vs x 1) m (h1c x 1 (by omega))
  have o2:=fun (w:World) (a:Addr) (m:Mode)=>jK Tryd.prog w a (vs x 2) m (h1c x 2 (by omega))
  have o3:=fun (w:World) (a:Addr) (m:Mode)=>jK Tryd.prog w a (vs x 3) m (h1c x 3 (by omega))
  have o4:=fun (w:World) (a:Addr) (m:Mode)=>jK Tryd.prog w a (vs x 4) m (h1c x 4 (by omega))
  have o5:=fun (w:World) (a:Addr) (m:Mode)=>jK Tryd.prog w a (vs x 5) m (h1c x 5 (by omega))
  have o6:=fun (w:World) (a:Addr) (m:Mode)=>jK Tryd.prog w a (vs x 6) m (h1c x 6 (by omega))
  have o7:=fun (w:World) (a:Addr) (m:Mode)=>jK Tryd.prog w a (vs x 7) m (h1c x 7 (by omega))
  have o8:=fun (w:World) (a:Addr) (m:Mode)=>jK Tryd.prog w a (vs x 8) m (h1c x 8 (by omega))
  have o9:=fun (w:World) (a:Addr) (m:Mode)=>jK Tryd.prog w a (vs x 9) m (h1c x 9 (by omega))
  have o10:=fun (w:World) (a:Addr) (m:Mode)=>jK Tryd.prog w a (vs x 10) m (h1c x 10 (by omega))
  gi_wp2
  exact hK _ _ ((KeepsOthers.alloc _ _).from _) ((Below.refl _ _).alloc i5 _) ⟨hp,i1.alloc _,i2.alloc _,i3.alloc _,i4.alloc i4.size _,by simp;omega⟩ ⟨W.heap.size,i3.lt,CB.new W _ 38,rfl⟩
 case body =>
  rintro l pre x a' W _ _ ⟨hp,i1,i2,i3,i4,i5⟩ ⟨Bx,hBx,bX,rfl⟩ _
  have x2:W.cell? ⟨Bx,2,none⟩=some (.int .i64 (fv x)):=bX.cell 2
  have x4:W.cell? ⟨Bx,4,none⟩=some (.int .i64 (tv x)):=bX.cell 4
  have y0:W.cell? ⟨w.heap.size,0,none⟩=some (.int .i64 f):=i1.cell 0
  have y1:W.cell? ⟨w.heap.size+1,0,none⟩=some (.int .i64 0):=i2.cell 0
  have y2:W.cell? ⟨w.heap.size+1+1,0,none⟩=some (.bool false):=i3.cell 0
  have f1:=i2.frozen 0
  have f2:=i3.frozen 0
  by_cases hfx:fv x=f
  ·gi_wp2
   exact ⟨((pZ _ _ _).trans (pZ _ _ _)).from _,rfl,⟨pre,x,rfl,hp,hfx,(i2.set 0 _).other _ (by omega),(i3.other _ (by omega)).set 0 _⟩,(i4.setCell (p:=⟨w.heap.size+1,0,none⟩) (by simp) _).setCell (p:=⟨w.heap.size+1+1,0,none⟩) (by simp;omega) _⟩
  ·gi_wp2
   exact ⟨KeepsFrom.refl _ _,Below.refl _ _,fun j hj=>(fZ.1 hj).elim (hp j) (fun e=>by rw [h4.1 e];exact hfx),i1,i2,i3,i4,i5⟩
 case done =>
  rintro D ys W hD rfl ⟨hp,i1,i2,i3,i4,i5⟩ hK
  have y1:W.cell? ⟨w.heap.size+1,0,none⟩=some (.int .i64 0):=i2.cell 0
  have y2:W.cell? ⟨w.heap.size+1+1,0,none⟩=some (.bool false):=i3.cell 0
  have f1:=i2.frozen 0
  have f2:=i3.frozen 0
  gi_wp2
  have hK':=((pZ W ⟨w.heap.size+1,0,none⟩ (.int .i64 0)).trans (pZ _ ⟨w.heap.size+1+1,0,none⟩ (.bool false))).same D _ hK rfl
  have k1:=(((i2.set 0 (.int .i64 0)).q8 (w.heap.size+1+1) 0 (.bool false) (by omega)).put (.deferred none) hK' rfl).cell 0
  have k2:=(((i3.q8 (w.heap.size+1) 0 (.int .i64 0) (by omega)).set 0 (.bool false)).put (.deferred none) hK' rfl).cell 0
  refine ⟨by simp,.inl ⟨_,_,rfl,run_takeDeferred hK',?_⟩⟩
  refine ⟨.tuple #[.int .i64 0,.bool false],?_,by rw [zp fun j hj=>hp j (Ao.2 ⟨iD _,hj⟩)],((i4.setCell (p:=⟨w.heap.size+1,0,none⟩) (by simp) _).setCell (p:=⟨w.heap.size+1+1,0,none⟩) (by simp;omega) _).trans (belowK_b (w:=w) (aT _) _ D _ _ (by omega) hK' rfl rfl)⟩
  simp [results,Tryd.f20,go_sem,k1,k2]
 case stop =>
  rintro D c pre W hD ⟨k,hk,rfl⟩ ⟨rfl,⟨ini,last,e1,e2,e3,e4,e5⟩,hB⟩ hK
  gi_wp2
  have tO:k<len:=by
   rcases eW k len with h | h
   ·exact h
   ·have:k=len:=by omega
    rw [this,s0] at e1
    cases ini <;> cases e1
  rw [← s3 tO] at e1
  obtain ⟨rfl,e6⟩:=List.append_inj' e1 rfl
  obtain rfl:k=last:=by simpa using e6
  have k1:=(e4.put (.deferred none) hK rfl).cell 0
  have k2:=(e5.put (.deferred none) hK rfl).cell 0
  refine ⟨by simp,.inl ⟨_,_,rfl,run_takeDeferred hK,?_⟩⟩
  refine ⟨.tuple #[.int .i64 (tv k),.bool true],?_,by rw [zo tO e3 fun j h1 h2=>e2 j (Ao.2 ⟨h1,h2⟩)],hB.trans (belowK_b (w:=w) (aT _) _ D _ _ (by omega) hK rfl rfl)⟩
  simp [results,Tryd.f20,go_sem,k1,k2]
theorem Hx:xC Tryd.prog 20 11 2 4 where
 run b off len cap vs fv tv f w hl hb hc h1 hf ht:=callsIn_wide.1 (zY Fence.wide 3 trivial trivial trivial rfl (aT _) (some ⟨b,off,none⟩) len cap vs fv tv f w (fun W0 hB fN cB =>
  CO Fence.wide 2 trivial rfl (by omega) (w.heap.size+1+1+1) (w.heap.size+4) b off len cap vs (by omega) (by omega) W0 (by omega) (by omega) (by omega) cB fun j hj i hi=>(hB.cell (p:=⟨b,off+j*11+i,none⟩) hb).trans (hc j hj i hi)) hf ht h1)
 nil a cap f w:=callsIn_wide.1 (zY Fence.wide 3 trivial trivial trivial rfl (aT _) a 0 cap (fun _ _ => .int .i64 0) (fun _=>0) (fun _=>0) f w (fun W0 hB fN cB=>fun l J Jx W hW hJ hJx hY h0=>(CN Fence.wide 2 trivial rfl l (w.heap.size+1+1+1) cap a J W ((hW.cell (p:=⟨w.heap.size+1+1+1,0,none⟩) (by show w.heap.size+1+1+1<W0.heap.size;omega)).trans (cB.cell 0)) h0).mono fun e W' ⟨he,hj⟩=>⟨he,.inl ⟨_,(s0 0).symm,hj⟩⟩) (fun _=>rfl) (fun _=>rfl) (fun _ _ _=>rfl))
end Go.Proofs.YtinlnkhheafjaaaDoor
namespace Go.Proofs.YtinlnkhheafjaaaDoor
open Go.Eng Go.Pi
theorem Lk(X:Cx):fy Tryd.prog X xt:=λf args h e i a g k c j d=>by
 unfold xt at a;split at a
 ·rename_i b;subst b;exact Dj a c d
 ·skip
  split at a
  ·rename_i b;subst b;exact Hw Hx Tryd.call20 a c d
  ·skip
   cases a
theorem x0:fy Tryd.prog X R:=Bb (X:=X) vU vl (Lk X) (tJ tH Ge)
theorem HY:mE bZ:=λ_ _ _ _ a=>k9.1 a
theorem Lj:fy Tryd.prog X1 pK:=λj args k e g a f i c b d=>by
 unfold pK at a;split at a
 ·rename_i h;subst h;exact IW (X:=X) I1 vU vl x0 HY Fh (r:=(e,g)) (K1 a) c b d
 ·skip
  exact x0 _ _ _ _ _ a f i c b d
theorem Cw:fy Tryd.prog X1 R1:=Bb (X:=X1) vU vl Lj (tJ tI Gf)
end Go.Proofs.YtinlnkhheafjaaaDoor
