/- Statements: operations one after the other, and in an order that is open. No program is named here. -/
import Derived.Test.YtkpnnfhodlanjaaGreatDoorPiP
set_option linter.unusedSimpArgs false
set_option linter.unusedVariables false
set_option linter.unnecessarySimpa false
namespace Go.Pi
open Go.Eng
section
variable {P:Program} {X:Cx} {R:Type}
theorem a7W {nt:Nat} {dst:Option Nat} {d:D} {e:DE} {h:Hp} {K:DE→Hp→Option R} {r:R} (hk:a5P nt dst d e h K=some r):(dst=none∧K e h=some r)∨(∃ t,dst=some t∧t<nt∧K ((t,d)::e) h=some r):=by
 unfold a5P at hk
 split at hk
 ·exact .inl ⟨rfl,hk⟩
 ·rename_i t
  split at hk
  ·rename_i hlt
   exact .inr ⟨t,rfl,Nat.le_of_ble_eq_true hlt,hk⟩
  ·cases hk
theorem a6S {call:a0Z} {nt:Nat} {fz bor:List Nat} {l:List Oper} {o:Oper} {e:DE} {h:Hp} {K:DE→Hp→Option R} {r:R} (hk:opK X call nt fz bor l o e h K=some r) :
  ∃ d h',opR X call fz bor l o e h=some (d,h')∧((o.dst=none∧K e h'=some r)∨(∃ t,o.dst=some t∧t<nt∧K ((t,d)::e) h'=some r)):=by
 rw [a9U] at hk
 cases hp:opR X call fz bor l o e h with
 | none=>rw [hp] at hk;cases hk
 | some p =>
  rw [hp] at hk
  obtain ⟨d,h'⟩:=p
  exact ⟨d,h',rfl,a7W hk⟩
theorem b1X {fz:List Nat} {o p:Oper} {E d:Nat} {x:Operand} (h:b7W fz o p=some (E,d,x)):o.op = .alloc E∧o.dst=some d∧o.guard=none∧p.op = .store E (.tmp d) x∧p.dst=none∧p.guard=none∧x ≠ .tmp d:=by
 unfold b7W at h
 split at h
 ·rename_i e d1 e' d2 x' h1 h2 h3 h4 h5 h6
  split at h
  ·rename_i hb
   injection h with h
   injection h with k1 k2
   injection k2 with k2 k3
   subst k1;subst k2;subst k3
   simp only [Bool.and_eq_true] at hb
   obtain ⟨⟨⟨b1,b2⟩,_⟩,b4⟩:=hb
   have b1:=Nat.eq_of_beq_eq_true b1
   have b2:=Nat.eq_of_beq_eq_true b2
   subst b1;subst b2
   refine ⟨h1,h2,h3,h4,h5,h6,fun hh=>?_⟩
   subst hh
   simp at b4
  ·cases h
 ·cases h
theorem b4m (hT:TabOK P X.T) {g:Gh} {h:Hp} {nt:Nat} {e:DE} {a:Act} (hi:Inv g h) (hgl:GlOK g X.gl) (hs:SatD nt g e a) {E d:Nat} {x:Operand} {v u:D} {i:TI} (hx:evD X e x=some v) (hE:X.T E=some i) (hu:b0n i.sz v=some u) (hd:d<nt) (hne:x ≠ .tmp d)
  {Q:Exit→Act→World→Prop} {l:List Oper} {r:List Oper} {o p:Oper} (ho:o.op = .alloc E∧o.dst=some d∧o.guard=none∧p.op = .store E (.tmp d) x∧p.dst=none∧p.guard=none∧x ≠ .tmp d)
  (hn:∀ g' a',Ext g g'→Inv g' h→SatD nt g' ((d,u)::e) a'→wpList P l.toArray Q r a' g'.w):wpList P l.toArray Q (o::p::r) a g.w:=by
 obtain ⟨h1,h2,h3,h4,h5,h6,_⟩:=ho
 unfold b0n at hu
 split at hu
 case h_2=>cases hu
 rename_i hb
 injection hu with hu
 subst hu
 simp only [Bool.and_eq_true] at hb
 obtain ⟨hok,hlen⟩:=hb
 have hlen:=Nat.eq_of_beq_eq_true hlen
 obtain ⟨z,hz,_,hzs,_⟩:=hT.zrun hE
 have hrv:Rep g (a.eval x) v:=b1s hgl (fun t d' _ ht=>hs.get t d' ht) hx
 obtain ⟨vs,hvs,hvr,hv1⟩:=hrv.cells hok
 have hvl:=hvr.length
 -- the new variable
 have hrun1:(execOp a.eval o).run P g.w = .ok (.value (.pointer (some ⟨g.w.heap.size,0,none⟩))) (g.w.alloc (.cells z.cells E)):=by
  simp only [execOp,h1,Instr.alloc,Sem.run_bind,hz g.w,Result.andThen_ok,newVar,newRow,run_newObj,Sem.run_pure]
  rfl
 have hput:(a.put (some d) (.pointer (some ⟨g.w.heap.size,0,none⟩))).eval (.tmp d) = .pointer (some ⟨g.w.heap.size,0,none⟩):=by
  simp [Act.put,Act.eval,hs.size,hd]
 have hput2:(a.put (some d) (.pointer (some ⟨g.w.heap.size,0,none⟩))).eval x=a.eval x:=Act.eval_put (fun d' hd' hh=>hne (by injection hd' with hd';rw [hd'];exact hh))
 have hnew:(g.w.alloc (.cells z.cells E)).heap[g.w.heap.size]?=some (.cells z.cells.toList.toArray E (0,0)):=by
  rw [a6J]
 obtain ⟨w',hst,hset⟩:=a1p (P:=P) (i:=0) vs (g.w.alloc (.cells z.cells E)) z.cells.toList 0 hnew (.inl rfl) (by simp;omega) hv1
 have hfull:z.cells.toList.take (0+0)++vs++z.cells.toList.drop (0+0+vs.length)=vs:=by
  simp
  omega
 rw [hfull] at hset
 have hsz1:vs.length=i.sz:=by omega
 have hrun2:(execOp (a.put (some d) (.pointer (some ⟨g.w.heap.size,0,none⟩))).eval p).run P (g.w.alloc (.cells z.cells E)) = .ok .skip w':=by
  simp [execOp,h4,Instr.storeAt,Instr.sureAddr,storeVar,hput,hput2,hvs,hT.size hE,hsz1,hst]
 have hold:∀ b,b<g.w.heap.size→w'.heap[b]?=g.w.heap[b]?:=fun b hb=>by
  rw [hset.other b (by omega)]
  exact a2G _ _ hb
 have hsz':w'.heap.size=g.w.heap.size+1:=by rw [hset.size];exact a5a _ _
 let g':Gh:=⟨w',g.ms,g.L⟩
 have he:Ext g g' := .of_old ⟨hset.os,hset.tape,hset.output,by show g.w.heap.size≤w'.heap.size;omega,fun _ _ hm=>hm,fun b hb=>⟨⟨by show b<w'.heap.size;have:=hb.1;omega,hb.2⟩,hold b hb.1⟩⟩ rfl rfl hold
 have hat:At g' g.w.heap.size 0 vs (a0A v):=⟨fun j u hj=>by
  show w'.cell? _=_
  simp only [World.cell?,hset.blk,Nat.zero_add]
  simpa using hj,hv1,hvr.ext he⟩
 have hrep:Rep g' (.pointer (some ⟨g.w.heap.size,0,none⟩)) (.fptr (a0A v)):=hat.fptr fun _=>⟨by show _<w'.heap.size;omega,fun hh=>by
  have:=hi.Llt (show g.L g.w.heap.size from hh)
  omega⟩
 have hfin:=hn g' (a.put (some d) (.pointer (some ⟨g.w.heap.size,0,none⟩))) he (hi.same he rfl rfl hold) ((hs.ext he).put hd hrep)
 unfold wpList
 rw [if_pos (a3E h3)]
 refine .inl ?_
 unfold Oper.wp
 rw [hrun1,Oper.upon_value,h2]
 unfold wpList
 rw [if_pos (a3E h6)]
 refine .inl ?_
 unfold Oper.wp
 rw [hrun2,Oper.upon_skip,h5]
 exact hfin
def b6g (P:Program) (X:Cx) (call:a0Z) (nt:Nat) (fz bor:List Nat) (l:List Oper) (Q:Exit→Act→World→Prop) (r:R) (ops:List Oper) (e:DE) (h:Hp) (K:DE→Hp→Option R):Prop :=
 ∀ (g:Gh) (a:Act),Inv g h→GlOK g X.gl→SatD nt g e a→(∀ e' h' g' a',K e' h'=some r→(∀ t,t∉a3X ops→lkD e' t=lkD e t)→Ext g g'→Inv g' h'→SatD nt g' e' a'→Q .normal a' g'.w)→wpList P l.toArray Q ops a g.w
theorem b3a (hT:TabOK P X.T) {call:a0Z} (hc:a1I P X call) {nt:Nat} {fz bor:List Nat} {l:List Oper} {Q:Exit→Act→World→Prop} {r:R} {o:Oper} {ops:List Oper} {e:DE} {h:Hp} {K1 K:DE→Hp→Option R} (hk:opK X call nt fz bor l o e h K1=some r)
  (rec:∀ (e:DE) (h:Hp),K1 e h=some r→b6g P X call nt fz bor l Q r ops e h K):b6g P X call nt fz bor l Q r (o::ops) e h K:=by
 intro g a hi hgl hs hn
 obtain ⟨d,h',hr,hcase⟩:=a6S hk
 have hst:b9e P l.toArray Q o a g (wpList P l.toArray Q ops):=by
  refine a9W hT hc hr hi hgl (fun t d _ ht=>hs.get t d ht) fun g' v he hi' hrep _=>?_
  rcases hcase with ⟨hd,hk'⟩ | ⟨t,hd,hlt,hk'⟩
  ·rw [hd]
   refine rec e h' hk' g' a hi' (hgl.ext he) (hs.ext he) fun e' h'' g'' a' h1 h2 h3 h4 h5=>hn e' h'' g'' a' h1 (fun u hu=>h2 u fun hh=>hu ?_) (he.trans h3) h4 h5
   simp only [a3X,List.filterMap_cons,hd] at hh ⊢
   exact hh
  ·rw [hd]
   refine rec _ h' hk' g' (a.put (some t) v) hi' (hgl.ext he) ((hs.ext he).put hlt hrep) fun e' h'' g'' a' h1 h2 h3 h4 h5=>hn e' h'' g'' a' h1 (fun u hu=>?_) (he.trans h3) h4 h5
   simp only [a3X,List.filterMap_cons,hd,c9i,not_or] at hu
   rw [h2 u hu.2,a1v,if_neg (fun hh=>hu.1 hh.symm)]
 unfold wpList
 rcases hst with ⟨hw,hwp⟩ | ⟨hw,hnx⟩
 ·rw [if_pos hw];exact .inl hwp
 ·rw [if_neg (by simp [hw])];exact hnx
theorem a6Y (hT:TabOK P X.T) {call:a0Z} (hc:a1I P X call) {nt:Nat} {fz bor:List Nat} {l:List Oper} {Q:Exit→Act→World→Prop} {r:R}:∀ (ops:List Oper) (e:DE) (h:Hp) (K:DE→Hp→Option R),a5i X call nt fz bor l ops e h K=some r→b6g P X call nt fz bor l Q r ops e h K
 | [],e,h,K,hk=>fun g a hi hgl hs hn=>hn e h g a hk (fun _ _=>rfl) (Ext.refl g) hi hs
 | [o],e,h,K,hk=>b3a hT hc hk fun e h hk g a hi hgl hs hn=>hn e h g a hk (fun _ _=>rfl) (Ext.refl g) hi hs
 | o::p::ops,e,h,K,hk=>by
  simp only [a5i] at hk
  split at hk
  ·rename_i E d x hf
   have hfs:=b1X hf
   split at hk
   ·rename_i v i hx hE
    obtain ⟨u,hu,hk⟩:=c9n.1 hk
    rcases a7W hk with ⟨hh,_⟩ | ⟨t,ht,hlt,hk⟩
    ·cases hh
    ·injection ht with ht
     subst ht
     intro g a hi hgl hs hn
     refine b4m hT hi hgl hs hx hE hu hlt hfs.2.2.2.2.2.2 hfs fun g' a' he hi' hs'=>a6Y hT hc ops _ h K hk g' a' hi' (hgl.ext he) hs' fun e' h'' g'' a'' h1 h2 h3 h4 h5=>hn e' h'' g'' a'' h1 (fun t ht=>?_) (he.trans h3) h4 h5
     simp only [a3X,List.filterMap_cons,hfs.2.1,hfs.2.2.2.2.1,c9i,not_or] at ht
     rw [h2 t ht.2,a1v,if_neg (fun hh=>ht.1 hh.symm)]
   ·cases hk
  ·exact b3a hT hc hk fun e h hk=>a6Y hT hc (p::ops) e h K hk
-- an order that is open
theorem b2Z {call:a0Z} {nt:Nat} {fz bor:List Nat} {l:List Oper} {r:R}:∀ (ops:List Oper) (e:DE) (h:Hp) (hs:List Hp) (K:DE→Hp→List Hp→Option R),b3u X call nt fz bor l ops e h hs K=some r →
  ∃ (en:Nat→DE) (hp:Nat→Hp) (va:Nat→D),en 0=e∧hp 0=h∧(∀ (i:Nat) (o:Oper),ops[i]?=some o→opR X call fz bor l o (en i) (hp i)=some (va i,hp (i+1))∧(o.dst=none→en (i+1)=en i)∧(∀ t,o.dst=some t→t<nt∧en (i+1)=(t,va i)::en i)) ∧
   K (en ops.length) (hp ops.length) (hs++((List.range ops.length).filter (a1g X.T fz ops)).map fun i=>hp (i+1))=some r
 | [],e,h,hs,K,hk=>⟨fun _=>e,fun _=>h,fun _ => .any,rfl,rfl,by simp,by simpa [b3u] using hk⟩
 | o::ops,e,h,hs,K,hk=>by
  obtain ⟨d,h',hr,hcase⟩:=a6S hk
  obtain ⟨e1,hk',he1,hlt⟩:∃ e1,b3u X call nt fz bor l ops e1 h' (match isW X.T fz o with | true=>hs++[h'] | false=>hs) K=some r∧((o.dst=none→e1=e)∧∀ t,o.dst=some t→e1=(t,d)::e)∧(∀ t,o.dst=some t→t<nt):=by
   rcases hcase with ⟨hd,hk'⟩ | ⟨t,hd,hlt,hk'⟩
   ·exact ⟨e,hk',⟨fun _=>rfl,(fun t ht=>by rw [hd] at ht;cases ht)⟩,(fun t ht=>by rw [hd] at ht;cases ht)⟩
   ·exact ⟨_,hk',⟨(fun ht=>by rw [hd] at ht;cases ht),(fun u hu=>by rw [hd] at hu;injection hu with hu;subst hu;rfl)⟩,(fun u hu=>by rw [hd] at hu;injection hu with hu;subst hu;exact hlt)⟩
  obtain ⟨en,hp,va,q1,q2,q3,q4⟩:=b2Z ops e1 h' _ K hk'
  refine ⟨fun i=>match i with | 0=>e | i+1=>en i,fun i=>match i with | 0=>h | i+1=>hp i,fun i=>match i with | 0=>d | i+1=>va i,rfl,rfl,fun i p hp'=>?_,?_⟩
  ·cases i with
   | zero =>
    simp at hp'
    subst hp'
    simp only [q1,q2]
    exact ⟨hr,he1.1,fun t ht=>⟨hlt t ht,he1.2 t ht⟩⟩
   | succ i=>exact q3 i p (by simpa using hp')
  ·simp only [c9e]
   rw [← q4]
   have hcomp:((List.range ops.length).map Nat.succ).filter (a1g X.T fz (o::ops))=((List.range ops.length).filter (a1g X.T fz ops)).map Nat.succ:=by
    rw [List.filter_map]
    congr 1
   have hh:(hs++((List.range (ops.length+1)).filter (a1g X.T fz (o::ops))).map fun i=>hp i)=(match isW X.T fz o with | true=>hs++[h'] | false=>hs)++((List.range ops.length).filter (a1g X.T fz ops)).map fun i=>hp (i+1):=by
    have h0:a1g X.T fz (o::ops) 0=isW X.T fz o:=rfl
    rw [List.range_succ_eq_map,List.filter_cons,hcomp,h0]
    by_cases hw:isW X.T fz o=true
    ·rw [if_pos hw,hw]
     simp [q2,List.map_map,Function.comp_def]
    ·rw [if_neg hw]
     simp only [Bool.not_eq_true] at hw
     rw [hw]
     simp [List.map_map,Function.comp_def]
   rw [← hh]
-- what stands before what
def b0U (acc:Array Nat) (o:Oper):Nat:=o.after.foldl (fun s e=>if Region.binds .any e then s ||| 2 ^ e.on ||| acc.getD e.on 0 else s) 0
theorem b0W (ops:Array Oper):Region.before ops=ops.toList.foldl (fun acc o=>acc.push (b0U acc o)) #[]:=by
 unfold Region.before b0U
 rw [← Array.foldl_toList]
theorem b0V {acc:Array Nat} {o:Oper} {j:Nat} (h:(b0U acc o).testBit j=true):∃ x∈o.after.toList,Region.binds .any x=true∧(x.on=j∨(acc.getD x.on 0).testBit j=true):=by
 unfold b0U at h
 rw [← Array.foldl_toList] at h
 have key:∀ (l:List Edge) (s:Nat),(l.foldl (fun s e=>if Region.binds .any e then s ||| 2 ^ e.on ||| acc.getD e.on 0 else s) s).testBit j=true→s.testBit j=true∨∃ x∈l,Region.binds .any x=true∧(x.on=j∨(acc.getD x.on 0).testBit j=true):=by
  intro l
  induction l with
  | nil=>intro s h;exact .inl h
  | cons x r ih =>
   intro s h
   rw [List.foldl_cons] at h
   rcases ih _ h with h1 | ⟨y,hy,h1⟩
   ·split at h1
    ·rename_i hb
     simp only [Nat.testBit_or,Bool.or_eq_true] at h1
     rcases h1 with (h1 | h1) | h1
     ·exact .inl h1
     ·refine .inr ⟨x,List.mem_cons_self ..,hb,.inl ?_⟩
      rw [Nat.testBit_two_pow] at h1
      simpa using h1
     ·exact .inr ⟨x,List.mem_cons_self ..,hb,.inr h1⟩
    ·exact .inl h1
   ·exact .inr ⟨y,List.mem_cons_of_mem _ hy,h1⟩
 rcases key _ 0 h with h1 | h1
 ·simp at h1
 ·exact h1
theorem a7I:∀ (l:List Oper) (acc:Array Nat),(∀ k,k<acc.size→(l.foldl (fun acc o=>acc.push (b0U acc o)) acc)[k]?=acc[k]?)∧(l.foldl (fun acc o=>acc.push (b0U acc o)) acc).size=acc.size+l.length ∧
  ∀ (i:Nat) (o:Oper),l[i]?=some o→∃ acc':Array Nat,acc'.size=acc.size+i∧(∀ k,k<acc'.size→(l.foldl (fun acc o=>acc.push (b0U acc o)) acc)[k]?=acc'[k]?)∧(l.foldl (fun acc o=>acc.push (b0U acc o)) acc)[acc.size+i]?=some (b0U acc' o)
 | [],acc=>⟨fun _ _=>rfl,by simp,fun i o h=>by cases h⟩
 | p::l,acc=>by
  obtain ⟨h1,h2,h3⟩:=a7I l (acc.push (b0U acc p))
  simp only [List.foldl_cons]
  simp only [Array.size_push] at h1 h2 h3
  refine ⟨fun k hk=>?_,by rw [h2];simp;omega,fun i o hi=>?_⟩
  ·rw [h1 k (by omega),Array.getElem?_push_lt hk,Array.getElem?_eq_getElem hk]
  ·cases i with
   | zero =>
    simp at hi
    subst hi
    refine ⟨acc,rfl,fun k hk=>?_,?_⟩
    ·rw [h1 k (by omega),Array.getElem?_push_lt hk,Array.getElem?_eq_getElem hk]
    ·rw [Nat.add_zero,h1 _ (by omega)];simp
   | succ i =>
    obtain ⟨acc',k1,k2,k3⟩:=h3 i o (by simpa using hi)
    exact ⟨acc',by omega,k2,by rw [← k3];congr 1;omega⟩
theorem b0X {l:List Oper} {i j:Nat} {o:Oper} (ho:l[i]?=some o) (h:a1V (a2b l) i j=true):∃ x∈o.after.toList,Region.binds .any x=true∧(x.on=j∨(x.on<i∧a1V (a2b l) x.on j=true)):=by
 obtain ⟨_,hsz,hs⟩:=a7I l #[]
 obtain ⟨acc',k1,k2,k3⟩:=hs i o ho
 simp only [List.size_toArray,c9f,Nat.zero_add] at k1 k3
 have hb:∀ q:Nat,(a2b l).getD q 0=((l.foldl (fun acc o=>acc.push (b0U acc o)) #[])[q]?).getD 0:=fun q=>by
  unfold a2b
  rw [b0W]
  simp [List.getD_eq_getElem?_getD]
 unfold a1V at h ⊢
 rw [hb i,k3] at h
 obtain ⟨x,hx,hbx,hc⟩:=b0V h
 refine ⟨x,hx,hbx,?_⟩
 rcases hc with hc | hc
 ·exact .inl hc
 ·rcases Nat.lt_or_ge x.on i with hlt | hge
  ·refine .inr ⟨hlt,?_⟩
   rw [hb x.on,k2 _ (by omega)]
   rwa [Array.getD_eq_getD_getElem?] at hc
  ·rw [Array.getD_eq_getD_getElem?,Array.getElem?_eq_none (by omega)] at hc
   simp at hc
theorem a2c {l:List Oper} {S:Nat→Prop} (hcl:∀ (i:Nat) (o:Oper),S i→l[i]?=some o→∀ x∈o.after.toList,Region.binds .any x=true→S x.on):∀ (n i j:Nat) (o:Oper),i<n→l[i]?=some o→(∀ x∈o.after.toList,Region.binds .any x=true→S x.on)→(∀ k,S k→∃ p,l[k]?=some p)→a1V (a2b l) i j=true→S j
 | 0,i,j,o,hn,_,_,_,_=>by omega
 | n+1,i,j,o,hn,ho,hd,hex,h=>by
  obtain ⟨x,hx,hb,hc⟩:=b0X ho h
  have hS:=hd x hx hb
  rcases hc with rfl | ⟨hlt,hc⟩
  ·exact hS
  ·obtain ⟨p,hp⟩:=hex _ hS
   exact a2c hcl n x.on j p (by omega) hp (fun y hy hb=>hcl x.on p hS hp y hy hb) hex hc
theorem a8l {nt:Nat} {l:List Oper} (hreg:b5J nt l=true) {i j:Nat} {o:Oper} (ho:l[i]?=some o) (h:a1V (a2b l) i j=true):j<i:=by
 have hlt:=(c9d.1 ho).1
 have back:∀ (k:Nat) (p:Oper),l[k]?=some p→∀ x∈p.after.toList,Region.binds .any x=true→x.on<k:=fun k p hp x hx hb=>by
  simp only [b5J,Bool.and_eq_true] at hreg
  have hk:=(c9d.1 hp).1
  have:=(List.all_eq_true.1 hreg.2) k (by simp [hk])
  have hd:x.on∈a9x l.toArray k:=by
   unfold a9x
   have hok:l.toArray[k]?=some p:=by simpa using hp
   rw [hok]
   simp only [c9k,List.mem_filter]
   exact ⟨x,⟨hx,hb⟩,rfl⟩
  exact Nat.le_of_ble_eq_true ((List.all_eq_true.1 this) _ hd)
 refine a2c (S:=fun k=>k<i) (fun k p hk hp x hx hb=>Nat.lt_trans (back k p hp x hx hb) hk) (i+1) i j o (by omega) ho (back i o ho) (fun k hk=>⟨_,c9c (show k<l.length by omega)⟩) h
end
end Go.Pi
