/- A range over a function whose elements lie in memory of their own: the law of the statement, and what an iterator's elements are in plain data. No program is named here. -/
import Derived.Test.YtjmndhbabkjebaaGreatDoorRB
import Derived.RangeFuncNested
import Derived.RangeFuncLeaves
import Derived.Laws.Externs
set_option linter.unusedSimpArgs false
set_option linter.unusedVariables false
set_option linter.unnecessarySimpa false
namespace Go.Pi
open Go.Eng Go.RowKit
structure Keep (L:Nat→Prop) (W W':World):Prop where
 size:W.heap.size≤W'.heap.size
 cell:∀ b i v,¬ L b→W.cell? ⟨b,i,none⟩=some v→W'.cell? ⟨b,i,none⟩=some v
theorem Keep.refl (L:Nat→Prop) (W:World):Keep L W W:=⟨Nat.le_refl _,fun _ _ _ _ h=>h⟩
theorem Keep.trans {L:Nat→Prop} {A B C:World} (h:Keep L A B) (k:Keep L B C):Keep L A C:=⟨Nat.le_trans h.size k.size,fun b i v hb hv=>k.cell b i v hb (h.cell b i v hb hv)⟩
theorem Keep.below {L:Nat→Prop} {W W':World} (h:Below W.heap.size W W'):Keep L W W':=⟨h.size,fun b i v _ hv=>by
 have hlt:b<W.heap.size:=World.block_lt_of_cell? W _ hv
 rw [World.cell?_of_block (w:=W) (h.block b hlt)];exact hv⟩
theorem Keep.putObj {L:Nat→Prop} {W:World} {l:Nat} {o:Obj} (o':Obj) (hl:W.heap[l]?=some o) (ho:o.isCells=false):Keep L W (W.putObj l o'):=⟨by simp,fun b i v _ hv=>by
 have hne:b≠l:=fun hh=>by
  subst hh
  unfold World.cell? at hv
  rw [hl] at hv
  cases o <;> simp_all [Obj.isCells]
 rw [World.cell?_of_block (w:=W) (World.putObj_heap_other hne)];exact hv⟩
theorem Keep.alloc {L:Nat→Prop} (W:World) (o:Obj):Keep L W (W.alloc o) := .below ((Below.refl _ W).alloc (Nat.le_refl _) o)
theorem Keep.set {L:Nat→Prop} (W:World) (a:Addr) (v:Value) (h:L a.block):Keep L W (W.setCell a v):=⟨(KeepsOthers.setCell W a v).size,fun b i u hb hv=>by
 rw [World.cell?_of_block (w:=W) (Below.heap_setCell W a v b fun hh=>hb (hh▸h))];exact hv⟩
theorem Keep.drew {L:Nat→Prop} (W:World):Keep L W W.drew:=⟨Nat.le_refl _,fun _ _ _ _ h=>h⟩
def Gh.off (L:Nat→Prop) (W:World):Gh:=⟨W,[],L⟩
theorem c3l {L:Nat→Prop} {W:World} (h:∀ b,L b→b<W.heap.size):Inv (Gh.off L W) []:=⟨rfl,fun o T sz rows h=>by simp at h,fun o o' T sz T' sz' rows rows' m m' h=>by simp at h,h,fun o m h=>by simp [Gh.off] at h⟩
theorem Rep.move {g g':Gh} (hms:∀ (o:Nat) (m:Me),g.ms[o]?=some m→g'.ms[o]?=some m) (hf:∀ b,g.fz b→g'.fz b) (hc:∀ b i v,g.fz b→g.w.cell? ⟨b,i,none⟩=some v→g'.w.cell? ⟨b,i,none⟩=some v) {v:Value} {d:D} (h:Rep g v d):Rep g' v d:=by
 induction h with
 | any v=>exact .any v
 | und=>exact .und
 | bool b=>exact .bool b
 | int k n=>exact .int k n
 | str s=>exact .str s
 | nilp=>exact .nilp
 | ptr o i off m hm=>exact .ptr o i off m (hms _ _ hm)
 | fptr b o cs vs hfz hcl h1 hr ih =>
  refine .fptr b o cs vs (fun hn=>hf _ (hfz hn)) (fun j d hj=>?_) h1 ih
  exact hc _ _ _ (hfz fun hh=>by subst hh;cases hj) (hcl j d hj)
 | nils=>exact .nils
 | sl ad n cap sz full rows hn hnc hcm hfull hsz hrow had vs hcl h1 hr ih =>
  refine .sl ad n cap sz full rows hn hnc hcm hfull hsz hrow (fun hne=>⟨(had hne).1,hf _ (had hne).2⟩) vs (fun i row hi j d hj=>?_) h1 ih
  exact hc _ _ _ (had fun hh=>by subst hh;cases hi).2 (hcl i row hi j d hj)
 | msl o r n cap m hm hn hlo hhi hcm=>exact .msl o r n cap m (hms _ _ hm) hn hlo hhi hcm
 | nilf=>exact .nilf
 | fn f first caps vf vc hvf hvc rf rc ihf ihc=>exact .fn f first caps vf vc hvf hvc ihf ihc
 | nili=>exact .nili
 | iface t v d h ih=>exact .iface t v d ih
 | agg vs cs hl h1 hr ih=>exact .agg vs cs hl h1 ih
 | tup vs ds hl hr ih=>exact .tup vs ds hl ih
theorem Rep.keep {L:Nat→Prop} {W W':World} (hk:Keep L W W') {v:Value} {d:D} (h:Rep (Gh.off L W) v d):Rep (Gh.off L W') v d :=
 Rep.move (g:=Gh.off L W) (g':=Gh.off L W') (fun _ _ h=>h) (fun b hb=>⟨Nat.lt_of_lt_of_le hb.1 hk.size,hb.2⟩) (fun b i v hb hv=>hk.cell b i v hb.2 hv) h
theorem Rep.less {L Lo:Nat→Prop} (h:∀ b,Lo b→L b) {W:World} {v:Value} {d:D} (hv:Rep (Gh.off L W) v d):Rep (Gh.off Lo W) v d :=
 Rep.move (g:=Gh.off L W) (g':=Gh.off Lo W) (fun _ _ h=>h) (fun b hb=>⟨hb.1,fun hh=>hb.2 (h b hh)⟩) (fun b i v _ hv=>hv) hv
variable {F:Fence} {n:Nat} {P:Program}
theorem c1Y {α:Type} {g:Operand} {ps:Array Tmp} {assign body:Code} {Q:Exit→Act→World→Prop} {a:Act} {w:World}
  (hro:F.round=none) (h1:1≤n) {gf:Nat} {lb:Array Value} (hg:a.eval g = .func (.func gf) #[] lb) (hFg:F.fn gf) (eg:∀ args w,(callFunc gf args).run P w = .ok (.enter gf args) w)
  (N:Nat) (encs:α→Array Value) (hps:∀ x,(encs x).size=ps.size) (L:Nat→Prop) (A:α→World→Prop) (hA:∀ x W W',A x W→Keep L W W'→A x W') (S:List α→World→Prop) (hS:∀ xs W W',S xs W→Keep L W W'→S xs W')
  (hseq:∀ (l:Nat) (J:List α→World→Prop) (W1:World),Keep L w W1→(∀ pre W W',J pre W→Below W.heap.size W W'→J pre W') →
   (∀ pre x W,J pre W→A x W→pre.length<N→YieldAt F (n - 1 - 1) P l (encs x) W fun e W'=>e = .returned (.bool true)∧J (pre++[x]) W'∧Keep L W W')→J [] W1 →
   CallsIn F (n - 1) P gf (#[.func (.yield l) #[] #[]]++lb) W1 fun e W'=>(∃ v,e = .returned v)∧∃ xs,S xs W'∧J xs W')
  (I:List α→World→Prop) (hI:OwnFrom w.heap.size I) (hI2:∀ pre W W',I pre W→Below W.heap.size W W'→I pre W') (h0:I [] w)
  (Ax:α→Act→World→Prop) (hAx:∀ x a' l o (o':Obj) W,Ax x a' W→w.heap.size≤l→W.heap[l]?=some o→o.isCells=false→Ax x a' (W.putObj l o'))
  (hassign:∀ (l:Nat) (pre:List α) (x:α) (W:World) (K:Act→World→Prop),I pre W→A x W→(∀ a' W',KeepsFrom w.heap.size W W'→Keep L W W'→I pre W'→Ax x a' W'→K a' W') →
   assign.wpIn (F.inRound l) (n - 1 - 1) P (Exit.then K (fun _ _ _=>False)) { tmps:=(ps.zip (encs x)).foldl (fun t (p,v)=>t.setIfInBounds p v) a.tmps,defers:=[] } W)
  (hbody:∀ (l:Nat) (pre:List α) (x:α) (a':Act) (W:World),I pre W→A x W→pre.length<N→Ax x a' W→body.wpIn (F.inRound l) (n - 1 - 1) P (fun e _ W'=>e = .normal∧KeepsFrom w.heap.size W W'∧Keep L W W'∧I (pre++[x]) W') a' W)
  (hdone:∀ (D:Nat) (xs:List α) (W:World),w.heap.size≤D→S xs W→I xs W→W.heap[D]?=some (.deferred (some []))→Q .normal { a with defers:={ target := .collected D,args := #[] }::a.defers } W) :
  (Code.rangeFunc g ps assign body).wpIn F n P Q a w:=by
 refine wpIn_rangeFunc ?_
 intro fn hfn
 rw [hro]
 obtain ⟨rc,hrc⟩:∃ rc:LoopState→Option Code→Loop,rc=fun st pe=>{ state:=st,pending:=pe,fn,tmps:=a.tmps,params:=ps,assign,body,defers:=w.heap.size }:=⟨_,rfl⟩
 obtain ⟨W1,hW1⟩:∃ W1,(w.alloc (.deferred (some []))).alloc (.loop (rc .ready none))=W1:=⟨_,rfl⟩
 have hL1:W1.heap[w.heap.size+1]?=some (.loop (rc .ready none)):=by
  rw [← hW1];have:=World.alloc_heap_new (w.alloc (.deferred (some []))) (.loop (rc .ready none));rwa [World.size_alloc] at this
 have hK1:W1.heap[w.heap.size]?=some (.deferred (some [])):=by
  rw [← hW1];exact (Below.heap_alloc _ _ _ (by simp)).trans (World.alloc_heap_new w _)
 have hB1:Below w.heap.size w W1:=by rw [← hW1];exact ((Below.refl _ w).alloc (Nat.le_refl _) _).alloc (by simp) _
 have hb1:Keep L w W1 := .below hB1
 have hI1:I [] W1:=hI2 _ _ _ h0 hB1
 clear hB1
 refine ⟨w.heap.size+1,[{ target := .collected w.heap.size,args := #[] }],W1,{ target := .fn (.func gf) lb,args := #[.func (.yield (w.heap.size+1)) #[] #[]] },W1,gf,
  #[.func (.yield (w.heap.size+1)) #[] #[]]++lb,W1,?_,?_,?_,?_,fun _=>h1,?_⟩
 ·rw [← hW1,hrc];exact run_enterLoop_outer _ _ _ _ _
 ·simp only [resolve,hg]
  simp [go_sem]
 ·intro f' hf';simp [Target.leads] at hf';subst hf';exact hFg
 ·simp [invoke,go_sem,eg]
 ·refine (hseq (w.heap.size+1)
    (fun pre W=>I pre W∧W.heap[w.heap.size+1]?=some (.loop (rc .ready none))∧W.heap[w.heap.size]?=some (.deferred (some [])))
    W1 hb1 (fun pre W W' hs hb=>⟨hI2 _ _ _ hs.1 hb,(hb.block _ (Array.getElem?_eq_some_iff.1 hs.2.1).1).trans hs.2.1,(hb.block _ (Array.getElem?_eq_some_iff.1 hs.2.2).1).trans hs.2.2⟩) ?_ ⟨hI1,hL1,hK1⟩).mono ?_
  ·rintro pre x W ⟨hi,hl,hk⟩ hx hpn
   have hy:=run_yield (P:=P) (args:=encs x) hl (by rw [hrc];exact hps x)
   rw [hrc] at hy
   refine ⟨fn,_,assign,body,hy,roundIn_of_wpIn hfn (hassign _ pre x W _ hi hx ?_)⟩
   clear hy
   intro a' Wa hkfa hkpa hia hax
   have hxa:=hA _ _ _ hx hkpa
   replace hl:=hkfa.same _ _ (by omega) hl rfl
   replace hk:=hkfa.same _ _ (Nat.le_refl _) hk rfl
   have hlt:w.heap.size+1<Wa.heap.size:=(Array.getElem?_eq_some_iff.1 hl).1
   refine ⟨_,run_beginRound hl (by rw [hrc]),?_⟩
   have hl2:(Wa.putObj (w.heap.size+1) (.loop { rc .ready none with state := .busy })).heap[w.heap.size+1]?=some (.loop { rc .ready none with state := .busy }):=World.putObj_heap_same hlt
   have hk2:(Wa.putObj (w.heap.size+1) (.loop { rc .ready none with state := .busy })).heap[w.heap.size]?=some (.deferred (some [])):=(World.putObj_heap_other (by omega)).trans hk
   have hw2:Keep L Wa (Wa.putObj (w.heap.size+1) (.loop { rc .ready none with state := .busy })) := .putObj _ hl rfl
   refine wpIn_mono (hbody _ pre x a' _ (hI.putObj _ hia (by omega) hl rfl) (hA _ _ _ hxa hw2) hpn (hAx _ _ _ _ _ _ hax (by omega) hl rfl)) ?_
   rintro e a3 W3 ⟨rfl,hk3,hkp3,hi3⟩
   have hl3:=hk3.same _ _ (by omega) hl2 rfl
   have hk4:=hk3.same _ _ (Nat.le_refl _) hk2 rfl
   have hr:=run_endRound (P:=P) none hl3
   rw [hrc] at hr hl3
   refine ⟨_,_,hr,rfl,⟨hI.putObj _ hi3 (by omega) hl3 rfl,?_,(World.putObj_heap_other (by omega)).trans hk4⟩,hkpa.trans ((hw2.trans hkp3).trans (.putObj _ hl3 rfl))⟩
   rw [hrc]
   exact World.putObj_heap_same (Array.getElem?_eq_some_iff.1 hl3).1
  ·rintro e W2 ⟨⟨v,rfl⟩,xs,hS1,hi,hl,hk⟩
   have hend:=run_endLoop (P:=P) hl (by rw [hrc];simp)
   rw [hrc] at hend
   exact ⟨none,_,hend,hdone _ xs _ (Nat.le_refl _) (hS _ _ _ hS1 (.putObj _ hl rfl)) (hI.putObj _ hi (by omega) hl rfl) ((World.putObj_heap_other (by omega)).trans hk)⟩
structure RX where
 k:Int
 p1:Option Addr
 l1:Nat
 c1:Nat
 p2:Option Addr
 l2:Nat
 c2:Nat
 d1:D
 d2:D
 at_:Int
def RX.val (x:RX):Value := .agg #[.int .i64 x.k,.slice x.p1 x.l1 x.c1,.slice x.p2 x.l2 x.c2]
def RX.enc (x:RX):Array Value := #[.agg #[.int .i64 x.k,.slice x.p1 x.l1 x.c1,.slice x.p2 x.l2 x.c2],.int .i64 x.at_]
def RX.row (x:RX):List D:=[.int .i64 x.k,x.d1,x.d2]
def RX.dat (x:RX):List D × Int:=(x.row,x.at_)
def RX.OK (L:Nat→Prop) (x:RX) (W:World):Prop:=Rep (Gh.off L W) x.val (.agg x.row)
theorem RX.OK.keep {L:Nat→Prop} {x:RX} {W W':World} (h:x.OK L W) (k:Keep L W W'):x.OK L W':=Rep.keep k h
theorem b9O {X:Cx} {R:a1A} (hR:a2z P X R) {f:FuncId} (hent:∀ (as:Array Value) (w:World),(callFunc f as).run P w = .ok (.enter f as) w) {L:Nat→Prop} {W:World} (hL:∀ b,L b→b<W.heap.size)
  (hgl:GlOK (Gh.off L W) X.gl) {vs:List Value} {ds:List D} (hc:RepL (Gh.off L W) vs ds) {d:D} (h:R f ds []=some (d,[])):Calls P f vs.toArray W fun e W'=>∃ v,e = .returned v∧Below W.heap.size W W'∧Rep (Gh.off L W') v d:=by
 rcases hR _ _ _ _ _ h (Gh.off L W) vs (c3l hL) hgl hc with ⟨_,k⟩ | ⟨v,g',k,_⟩
 ·refine Calls.mono k ?_
  rintro e w' ⟨v,rfl,g',rfl,he,hi,hv⟩
  have hms:g'.ms=[]:=List.eq_nil_of_length_eq_zero hi.len
  have hlim:∀ b,L b→g'.L b∧g'.w.heap[b]?=W.heap[b]?:=fun b hb=>by
   obtain ⟨h1,h2⟩:=he.lim b ⟨hL b hb,hb,fun o m hm=>by simp [Gh.off] at hm⟩
   exact ⟨h1.2.1,h2⟩
  refine ⟨v,rfl,⟨he.os,he.tape,he.output,he.size,fun b hb=>?_⟩,Rep.move (g:=g') (g':=Gh.off L g'.w) (fun o m hm=>by rw [hms] at hm;simp at hm) (fun b hb=>⟨hb.1,fun hh=>hb.2 (hlim b hh).1⟩) (fun b i v _ hv=>hv) hv⟩
  by_cases hLb:L b
  ·exact (hlim b hLb).2
  ·exact (he.fz b ⟨hb,hLb⟩).2
 ·have:=(hent vs.toArray (Gh.off L W).w).symm.trans k
  injection this with this
  cases this
theorem c0b {X:Cx} {R:a1A} (hR:a2z P X R) {f:FuncId} (hent:∀ (as:Array Value) (w:World),(callFunc f as).run P w = .ok (.enter f as) w) {L:Nat→Prop} {W:World} (hL:∀ b,L b→b<W.heap.size)
  (hgl:GlOK (Gh.off L W) X.gl) {v:Value} {c:D} (hc:Rep (Gh.off L W) v c) {y z:D} {q k e:Int} (hy:slD y=true) (hz:slD z=true) (h:R f [c] []=some (.tup [.agg [.int .i64 q,y,z],.int .i64 k,.int .i64 e],[])) :
  Calls P f #[v] W fun en W'=>∃ p1 l1 c1 p2 l2 c2,en = .returned (.tuple #[.agg #[.int .i64 q,.slice p1 l1 c1,.slice p2 l2 c2],.int .i64 k,.int .i64 e])∧Below W.heap.size W W'∧∀ a,(RX.mk q p1 l1 c1 p2 l2 c2 y z a).OK L W':=by
 refine Calls.mono (b9O hR hent hL hgl (RepL.cons hc .nil) h) ?_
 rintro en W' ⟨u,rfl,hb,hu⟩
 cases hu with
 | tup vs ds hl hr =>
  have hl3:vs.length=3:=hl
  obtain ⟨a,b,c,rfl⟩:∃ a b c,vs=[a,b,c]:=by
   match vs,hl3 with
   | [a,b,c],_=>exact ⟨a,b,c,rfl⟩
  have ha:=hr 0 a _ rfl rfl
  have hb2:=hr 1 b _ rfl rfl
  have hc2:=hr 2 c _ rfl rfl
  cases hb2
  cases hc2
  have ha':=ha
  cases ha with
  | agg vs cs hl h1 hr =>
   have hl3:vs.length=3:=hl
   obtain ⟨v0,v1,v2,rfl⟩:∃ a b c,vs=[a,b,c]:=by
    match vs,hl3 with
    | [a,b,c],_=>exact ⟨a,b,c,rfl⟩
   have r0:=hr 0 v0 _ rfl rfl
   cases r0
   have hs:∀ (v:Value) (d:D),slD d=true→Rep (Gh.off L W') v d→∃ p l c,v = .slice p l c:=fun v d hd hv=>by
    cases hv <;> first | exact ⟨_,_,_,rfl⟩ | (simp [slD] at hd)
   obtain ⟨p1,l1,c1,rfl⟩:=hs v1 y hy (hr 1 v1 _ rfl rfl)
   obtain ⟨p2,l2,c2,rfl⟩:=hs v2 z hz (hr 2 v2 _ rfl rfl)
   exact ⟨p1,l1,c1,p2,l2,c2,rfl,hb,fun _=>ha'⟩
theorem c2K {T:Tab} (hT:TabOK P T) {t e:Nat} {ti tj:TI} (ht:T t=some ti) (hi:ti.td = .sl e) (hj:T e=some tj) (hz:tj.sz=1) {L:Nat→Prop} {W:World} {v:Value} {d:D} {len:Nat} (hv:Rep (Gh.off L W) v d) (hd:b2m d=some len) {a:Int} (h0:0≤a) (h1:a≤len) :
  ∃ v',(Instr.sliceAt t v (some (.int .i64 a)) none none).run P W = .ok v' W∧Rep (Gh.off L W) v' (c6B d a):=by
 have key:∃ d',a2k T t d (some a) none none=some d'∧∀ u,Rep (Gh.off L W) u d'→Rep (Gh.off L W) u (c6B d a):=by
  unfold b2m at hd
  split at hd
  ·injection hd with hd
   subst hd
   have:a=0:=by omega
   subst this
   exact ⟨.nils,by simp [a2k,ht,hi,hj],fun u hu=>hu⟩
  ·rename_i full rows
   split at hd
   ·injection hd with hd
    subst hd
    refine ⟨.sl 1 (full&&true) (rows.drop a.toNat),by simp [a2k,ht,hi,hj,hz,h0,h1],fun u hu=>?_⟩
    cases hu with
    | sl ad n cap sz full rows hn hnc hcm hfull hsz hrow had vs hc h1 hr=>exact .sl ad n cap 1 false _ hn hnc hcm (fun h=>by cases h) (by decide) hrow had vs hc h1 hr
   ·cases hd
  ·cases hd
 obtain ⟨d',hd',hk⟩:=key
 obtain ⟨v',hrun,hr⟩:=a2A (P:=P) (T:=T) (g:=Gh.off L W) (ρ:=fun o=>match o with | .tmp 0=>v | _ => .int .i64 a) (dst:=none) (ty:=0) (pos := "") (af := #[]) (gd:=none) hT (t:=t) (x := .tmp 0) (lo:=some (.tmp 1)) (hi:=none) (mx:=none) (l:=some a) (h:=none) (m:=none)
  (dx:=d) hv ⟨_,rfl⟩ trivial trivial (by simp) hd'
 refine ⟨v',?_,hk _ hr⟩
 simp only [execOp,Sem.run_bind] at hrun
 cases hq:(Instr.sliceAt t v (some (.int .i64 a)) none none).run P W with
 | ok u w' =>
  have hrun:Result.andThen ((Instr.sliceAt t v (some (.int .i64 a)) none none).run P W) _=_:=hrun
  rw [hq] at hrun
  simp [Result.andThen] at hrun
  obtain ⟨h1,h2⟩:=hrun
  rw [h1,h2];rfl
 | halt x w' =>
  have hrun:Result.andThen ((Instr.sliceAt t v (some (.int .i64 a)) none none).run P W) _=_:=hrun
  rw [hq] at hrun
  simp [Result.andThen] at hrun
def CB (W:World) (b:Nat) (cs:Array Value) (t:TypeId):Prop:=W.heap[b]?=some (.cells cs t (0,0))
theorem CB.below {W W':World} {b:Nat} {cs:Array Value} {t:TypeId} (h:CB W b cs t) (hb:Below W.heap.size W W'):CB W' b cs t:=(hb.block b (Array.getElem?_eq_some_iff.1 h).1).trans h
theorem CB.grown {W W':World} {b:Nat} {cs:Array Value} {t:TypeId} (h:CB W b cs t) {row:Option Nat} (hg:W.grownBy W' row) (hr:∀ r,row=some r→∃ o:Obj,W.heap[r]?=some o∧o.isCells=false):CB W' b cs t:=(grownBy_keeps_cells hg hr h rfl).trans h
theorem CB.put {W:World} {b:Nat} {cs:Array Value} {t:TypeId} (h:CB W b cs t) {l:Nat} {o:Obj} (o':Obj) (hl:W.heap[l]?=some o) (ho:o.isCells=false):CB (W.putObj l o') b cs t:=h.grown (grownBy_putObj' W l o') fun r e=>by cases e;exact ⟨o,hl,ho⟩
theorem CB.alloc {W:World} {b:Nat} {cs:Array Value} {t:TypeId} (h:CB W b cs t) (o:Obj):CB (W.alloc o) b cs t:=h.below ((Below.refl _ W).alloc (Nat.le_refl _) o)
theorem CB.new (W:World) (cs:Array Value) (t:TypeId):CB (W.alloc (.cells cs t)) W.heap.size cs t:=World.alloc_heap_new W _
theorem CB.set {W:World} {b:Nat} {cs:Array Value} {t:TypeId} (h:CB W b cs t) (i:Nat) (v:Value):CB (W.setCell ⟨b,i,none⟩ v) b (cs.setIfInBounds i v) t:=by
 obtain ⟨hlt,hk⟩:=Array.getElem?_eq_some_iff.1 h
 show (W.heap.modify b _)[b]?=_
 rw [Array.getElem?_eq_getElem (by rw [Array.size_modify];exact hlt),Array.getElem_modify_self,hk]
 rfl
theorem CB.other {W:World} {b:Nat} {cs:Array Value} {t:TypeId} (h:CB W b cs t) {b' i:Nat} (v:Value) (hne:b≠b'):CB (W.setCell ⟨b',i,none⟩ v) b cs t:=(Below.heap_setCell W ⟨b',i,none⟩ v b hne).trans h
theorem CB.lt {W:World} {b:Nat} {cs:Array Value} {t:TypeId} (h:CB W b cs t):b<W.heap.size:=(Array.getElem?_eq_some_iff.1 h).1
theorem CB.cell {W:World} {b:Nat} {cs:Array Value} {t:TypeId} (h:CB W b cs t) (i:Nat):W.cell? ⟨b,i,none⟩=cs[i]?:=by
 unfold World.cell?
 simp only [show W.heap[b]?=_ from h]
 simp
theorem CB.frozen {W:World} {b:Nat} {cs:Array Value} {t:TypeId} (h:CB W b cs t) (i:Nat):W.frozen? ⟨b,i,none⟩=false:=by
 unfold World.frozen?
 simp only [show W.heap[b]?=_ from h]
 simp
theorem Keep.grown {L:Nat→Prop} {W W':World} {row:Option Nat} (hg:W.grownBy W' row) (hr:∀ r,row=some r→L r):Keep L W W':=⟨hg.size,fun b i v hb hv=>by
 rw [World.cell?_of_block (w:=W) (hg.block b (World.block_lt_of_cell? W _ hv) fun e=>hb (hr b e.symm))];exact hv⟩
theorem b1K {W:World} {b b' e sz n:Nat} {v:Value} {xs:List Value} (h:W.ownsRow b e sz v n xs) (hb:b'≤b):W.ownsRow b' e sz v n xs:=⟨h.1,h.2.imp id fun ⟨g,cap,cur,h1,h2,h3⟩=>⟨g,cap,cur,h1,Nat.le_trans hb h2,h3⟩⟩
theorem c0T {W:World} {b e sz n:Nat} {v:Value} {xs:List Value} (h:W.ownsRow b e sz v n xs):∀ r,v.ownBlock=some r→b≤r:=fun r hr=>by
 rcases h.2 with ⟨rfl,_⟩ | ⟨g,cap,cur,rfl,hb,_⟩
 ·cases hr
 ·injection hr with hr;subst hr;exact hb
theorem b6d {W W':World} {b e sz n:Nat} {v:Value} {xs:List Value} (h:W.ownsRow b e sz v n xs) (hb:Below W.heap.size W W'):W'.ownsRow b e sz v n xs :=
 ⟨h.1,h.2.imp id fun ⟨g,cap,cur,h1,h2,h3,h4⟩=>⟨g,cap,cur,h1,h2,(hb.block g (Array.getElem?_eq_some_iff.1 h3).1).trans h3,h4⟩⟩
def a1j (pre:List RX):RX:=(pre.getLast?).getD ⟨0,none,0,0,none,0,0,.nils,.nils,0⟩
theorem a9h (pre:List RX) (x:RX):a1j (pre++[x])=x:=by simp [a1j]
def RX.cs (x:RX):Array Value := #[.int .i64 x.k,.slice x.p1 x.l1 x.c1,.slice x.p2 x.l2 x.c2]
structure RecWalk (P:Program) (X:Cx) (R:a1A) (fl fe fd te:FuncId):Prop where
 last:∀ (L:Nat→Prop) (len:Nat) (w:World) (a:Option Addr) (m c:Nat) (d:D) (recs:List (List D × Int)),len≤10000000000→(∀ b,L b→b<w.heap.size)→Rep (Gh.off L w) (.slice a m c) d→b2m d=some len→GlOK (Gh.off L w) X.gl →
  a7r R fd d len (len+1) 0=some recs→Calls P fl #[.slice a m c] w fun e W'=>∃ xs:List RX,xs.map RX.dat=recs∧(∀ x∈xs,x.OK L W')∧Below w.heap.size w W'∧e = .returned (.tuple #[(a1j xs).val,.int .i64 (a1j xs).at_])
 ends:∀ (L:Nat→Prop) (len:Nat) (w:World) (a:Option Addr) (m c:Nat) (d:D) (recs:List (List D × Int)),len≤10000000000→(∀ b,L b→b<w.heap.size)→Rep (Gh.off L w) (.slice a m c) d→b2m d=some len→GlOK (Gh.off L w) X.gl →
  a7r R fd d len (len+1) 0=some recs→Calls P fe #[.slice a m c] w fun e W'=>∃ v,e = .returned v∧W'.ownsRow (w.heap.size+2) te 1 v recs.length (recs.map fun r => .int .i64 r.2)∧(recs=[]→v = .slice none 0 0)∧Below w.heap.size w W'
theorem a8V {g:Gh} {v:Value} {d:D} {len:Nat} (hv:Rep g v d) (hd:b2m d=some len):(∃ a m c,v = .slice a m c)∧∀ {g':Gh},(∀ b,g.fz b→g'.fz b)→g'.w=g.w→Rep g' v d:=by
 unfold b2m at hd
 split at hd
 ·cases hv
  exact ⟨⟨_,_,_,rfl⟩,fun _ _ => .nils⟩
 ·rename_i full rows
  split at hd
  ·rename_i s hs
   cases hv with
   | sl ad n cap sz full rows hn hnc hcm hfull hsz hrow had vs hc h1 hr =>
    refine ⟨⟨_,_,_,rfl⟩,fun {g'} hf hw => .sl ad n cap 1 full rows hn hnc hcm hfull hsz hrow (fun hne=>⟨(had hne).1,hf _ (had hne).2⟩) vs (fun i row hi j d hj=>by rw [hw];exact hc i row hi j d hj) h1 (fun i row hi j d hj=>?_)⟩
    have key:∀ (rows:List (List D)) (s:List UInt8),a5B rows=some s→∀ row∈rows,∀ d∈row,∃ k n,d = .int k n:=by
     intro rows
     induction rows with
     | nil=>intro s _ row hr;cases hr
     | cons r rs ih =>
      intro s h row hr d hd
      unfold a5B at h
      split at h
      ·rename_i e;cases e
      ·rename_i n r' e
       injection e with e1 e2
       subst e1;subst e2
       split at h
       ·rename_i s' hs'
        rcases d7x.1 hr with rfl | hr
        ·rw [List.mem_singleton.1 hd];exact ⟨_,_,rfl⟩
        ·exact ih _ hs' row hr d hd
       ·cases h
      ·cases h
    obtain ⟨k,n,rfl⟩:=key rows s hs row (d7q hi) d (d7q hj)
    have hq:=hr i row hi j _ hj
    generalize vs i j=u at hq ⊢
    cases hq
    exact .int k n
  ·cases hd
 ·cases hd
theorem c3K {g:Gh} {h:Hp} (hi:Inv g h) {v:Value} {d:D} {len:Nat} (hv:Rep g v d) (hd:b2m d=some len):Rep (Gh.off g.L g.w) v d:=(a8V hv hd).2 (fun b hb=>hb) rfl
theorem c0S {g:Gh} {v:Value} {zs:List Int} (hv:Rep g v (.fptr (zs.map fun z => .int .u8 z))):Rep (Gh.off g.L g.w) v (.fptr (zs.map fun z => .int .u8 z)):=by
 cases hv with
 | fptr b o cs vs hf hc h1 hr =>
  refine .fptr b o _ vs hf hc h1 fun j d hj=>?_
  have hq:=hr j d hj
  rw [d7p] at hj
  cases hz:zs[j]? with
  | none=>rw [hz] at hj;cases hj
  | some z =>
   rw [hz] at hj
   injection hj with hj
   subst hj
   generalize vs j=u at hq ⊢
   cases hq
   exact .int _ _
theorem b1b {g:Gh} {W:World} (h:Below g.w.heap.size g.w W):Ext g ⟨W,g.ms,g.L⟩ := .of_old ⟨h.os,h.tape,h.output,h.size,fun _ _ h=>h,fun b hb=>⟨⟨Nat.lt_of_lt_of_le hb.1 h.size,hb.2⟩,h.block b hb.1⟩⟩ rfl rfl fun b hb=>h.block b hb
theorem c7O {g:Gh} {W:World} {v:Value} {d:D} (h:Rep (Gh.off g.L W) v d):Rep ⟨W,g.ms,g.L⟩ v d:=Rep.move (g:=Gh.off g.L W) (g':=⟨W,g.ms,g.L⟩) (fun o m hm=>by simp [Gh.off] at hm) (fun b hb=>hb) (fun b i v _ hv=>hv) h
section
variable {X:Cx} {R:a1A} {fl fe fd te:FuncId}
theorem b0Y {f:FuncId} (hent:∀ (as:Array Value) (w:World),(callFunc f as).run P w = .ok (.enter f as) w) {args:List D} {recs:List (List D × Int)} (hd:b5t R fd args=some recs) {g:Gh} {vs:List Value} {h:Hp} (hi:Inv g h) (hgl:GlOK (Gh.off g.L g.w) X.gl) (hr:RepL g vs args) {D0:D}
  (hw:∀ (len:Nat) (a:Option Addr) (m c:Nat) (d:D),len≤10000000000→(∀ b,g.L b→b<g.w.heap.size)→Rep (Gh.off g.L g.w) (.slice a m c) d→b2m d=some len→GlOK (Gh.off g.L g.w) X.gl→a7r R fd d len (len+1) 0=some recs→Calls P f #[.slice a m c] g.w fun e W'=>∃ v,e = .returned v∧Below g.w.heap.size g.w W'∧Rep ⟨W',g.ms,g.L⟩ v D0) :
  a4M P f vs g h D0:=by
 unfold b5t at hd
 split at hd
 ·rename_i d
  split at hd
  ·rename_i len hlen
   split at hd
   ·rename_i hle
    cases hr with
    | cons hv hr =>
     cases hr
     obtain ⟨⟨a,m,c,rfl⟩,_⟩:=a8V hv hlen
     refine .inl ⟨hent _ _,Calls.mono (hw len a m c d hle hi.L (c3K hi hv hlen) hlen hgl hd) ?_⟩
     rintro e W' ⟨v,rfl,hb,hrep⟩
     exact ⟨v,rfl,⟨W',g.ms,g.L⟩,rfl,b1b hb,hi.same (b1b hb) rfl rfl fun b hbb=>hb.block b hbb,hrep⟩
   ·cases hd
  ·cases hd
 ·cases hd
theorem c3u (hW:RecWalk P X R fl fe fd te) (hent:∀ (as:Array Value) (w:World),(callFunc fl as).run P w = .ok (.enter fl as) w) {args:List D} {h h':Hp} {d:D} (hd:b9V R fd args h=some (d,h')) {g:Gh} {vs:List Value} (hi:Inv g h) (hgl:GlOK (Gh.off g.L g.w) X.gl) (hr:RepL g vs args):a4M P fl vs g h' d:=by
 obtain ⟨recs,h1,h2⟩:=d7D.1 hd
 injection h2 with h2
 injection h2 with h2 h3
 subst h2;subst h3
 refine b0Y (X:=X) hent h1 hi hgl hr fun len a m c d hle hL hv hk hg hrec=>Calls.mono (hW.last _ len _ a m c d recs hle hL hv hk hg hrec) ?_
 rintro e W' ⟨xs,hx,hok,hb,rfl⟩
 refine ⟨_,rfl,hb,?_⟩
 have key:Rep ⟨W',g.ms,g.L⟩ (a1j xs).val (.agg (b2y recs).1)∧(b2y recs).2=(a1j xs).at_:=by
  subst hx
  unfold a1j b2y
  rw [List.getLast?_map]
  cases hl:xs.getLast? with
  | none =>
   refine ⟨.agg _ _ rfl (fun v hv=>?_) fun j v d hv hd=>?_,rfl⟩
   ·simp only [Option.getD_none,d7x,List.not_mem_nil,or_false] at hv
    rcases hv with rfl | rfl | rfl <;> rfl
   ·match j with
    | 0=>injection hv with hv;injection hd with hd;subst hv;subst hd;exact .int _ _
    | 1=>injection hv with hv;injection hd with hd;subst hv;subst hd;exact .nils
    | 2=>injection hv with hv;injection hd with hd;subst hv;subst hd;exact .nils
    | j+3=>cases hd
  | some x=>exact ⟨c7O (hok x (List.mem_of_getLast? hl)),rfl⟩
 rw [key.2]
 exact .tup [(a1j xs).val,.int .i64 (a1j xs).at_] [.agg (b2y recs).1,.int .i64 (a1j xs).at_] rfl fun j v d hv hd=>by
  match j with
  | 0=>injection hv with hv;injection hd with hd;subst hv;subst hd;exact key.1
  | 1=>injection hv with hv;injection hd with hd;subst hv;subst hd;exact .int _ _
  | j+2=>cases hd
theorem c2Y (hW:RecWalk P X R fl fe fd te) (hent:∀ (as:Array Value) (w:World),(callFunc fe as).run P w = .ok (.enter fe as) w) {args:List D} {h h':Hp} {d:D} (hd:c2L R fd args h=some (d,h')) {g:Gh} {vs:List Value} (hi:Inv g h) (hgl:GlOK (Gh.off g.L g.w) X.gl) (hr:RepL g vs args):a4M P fe vs g h' d:=by
 obtain ⟨recs,h1,h2⟩:=d7D.1 hd
 injection h2 with h2
 injection h2 with h2 h3
 subst h2;subst h3
 refine b0Y (X:=X) hent h1 hi hgl hr fun len a m c d hle hL hv hk hg hrec=>Calls.mono (hW.ends _ len _ a m c d recs hle hL hv hk hg hrec) ?_
 rintro e W' ⟨v,rfl,ho,he,hb⟩
 refine ⟨v,rfl,hb,?_⟩
 by_cases hn:recs=[]
 ·rw [if_pos hn,he hn];exact .nils
 ·rw [if_neg hn]
  obtain ⟨h0,h1 | ⟨b,cap,cur,rfl,hbb,hcb,hcap,hmx,hcs,htk⟩⟩:=ho
  ·exact absurd (List.eq_nil_of_length_eq_zero h1.2) hn
  ·have hlt:b<W'.heap.size:=(Array.getElem?_eq_some_iff.1 hcb).1
   have hget:∀ (i:Nat) (row:List D),(recs.map fun r=>[D.int .i64 r.2])[i]?=some row→∃ z,row=[D.int .i64 z]∧cur[i]?=some (.int .i64 z):=fun i row hi=>by
    rw [d7p] at hi
    cases hr:recs[i]? with
    | none=>rw [hr] at hi;cases hi
    | some r =>
     rw [hr] at hi
     injection hi with hi
     refine ⟨r.2,hi.symm,?_⟩
     have hil:=(d7s.1 hr).1
     have h5:(cur.toList.take (recs.length*1))[i]?=some (.int .i64 r.2):=by rw [htk,d7p,hr];rfl
     rw [List.getElem?_take,if_pos (by omega)] at h5
     simpa using h5
   refine .sl ⟨b,0,none⟩ recs.length cap 1 false _ (by simp) hcap (by simp [maxLen] at hmx;omega) (fun h=>by cases h) (by decide) (fun row hrow=>?_) (fun _=>⟨rfl,hlt,fun hh=>by have:=hi.L b hh;omega⟩)
    (fun i _=>((cur[i]?).getD undef)) (fun i row hi j d hj=>?_) (fun i row hi j d hj=>?_) (fun i row hi j d hj=>?_)
   ·obtain ⟨r,_,rfl⟩:=d7z.1 hrow;rfl
   ·obtain ⟨z,rfl,hz⟩:=hget i row hi
    have hj0:j=0:=by
     cases j with
     | zero=>rfl
     | succ j=>cases hj
    subst hj0
    rw [hz]
    show World.cell? W' _=_
    unfold World.cell?
    simp only [hcb]
    simpa using hz
   ·obtain ⟨z,rfl,hz⟩:=hget i row hi
    rw [hz];rfl
   ·obtain ⟨z,rfl,hz⟩:=hget i row hi
    rw [hz]
    cases j with
    | zero=>injection hj with hj;subst hj;exact .int _ _
    | succ j=>cases hj
end
end Go.Pi
