/- The walks of functions that range over the records of a disk, printed. -/
import Derived.Test.YtjmndhbabkjebaaGreatDoorRA
import Derived.Test.YtjmndhbabkjebaaGreatDoorB1
import Derived.Shelf.Abstract
import Derived.Shelf.RegionOpen
import Derived.WalkKit
import Derived.OwnWalkIn
import Derived.TacticsInMore
import Derived.LoopNIn
import Derived.LoopIn
import Derived.Laws.Rows
import Derived.Laws.ResultCell
import Derived.Maps.AppendAt
import Derived.KernelRfl
set_option linter.unusedSimpArgs false
set_option linter.unusedVariables false
namespace Go.Proofs.YtjmndhbabkjebaaGreatDoor
open Go.Eng Go.Pi Go.RowKit Go.Shelf
attribute [local go_sem] Oper.semAt_some
set_option maxRecDepth 100000 in
set_option maxHeartbeats 4000000 in
theorem b8I (n:Nat) (a:Option Addr) (m c:Nat) (w:World):CallsIn Fence.wide n Tryz.prog 48 #[.slice a m c] w fun e w'=>e = .returned (.func (.func 61) #[] #[.pointer (some ⟨w.heap.size,0,none⟩)])∧w'=w.alloc (.cells #[.slice a m c] 22):=by
 refine callsIn_of_wp Tryz.func48 rfl trivial ?_ rfl
 simp only [Tryz.ntmps48,List.size_toArray,d7t,d7u,Nat.reduceAdd,Nat.reduceSub,Array.replicate_succ,Array.replicate_zero,List.push_toArray,List.append_toArray,List.nil_append,List.cons_append]
 gi_wp2
 go_ret
 exact ⟨rfl,rfl⟩
set_option maxRecDepth 100000 in
set_option maxHeartbeats 4000000 in
theorem b8J (n l Bn len:Nat) (L Lo:Nat→Prop) (hsub:∀ b,Lo b→L b) (A:RX→World→Prop) (hA0:∀ x W,x.OK Lo W→A x W) (hA:∀ x W W',A x W→Keep L W W'→A x W') (w0:World) (a:Option Addr) (m c:Nat) (d:D) (recs:List (List D × Int)) (hl63:len≤4000000000000000000) (hL:∀ b,Lo b→b<w0.heap.size) (hLB:¬ L Bn)
  (hrep:Rep (Gh.off L w0) (.slice a m c) d) (hdk:b2m d=some len) (hgl:GlOK (Gh.off L w0) X.gl) (hrec:a7r R 16 d len (len+1) 0=some recs) (J:List RX→World→Prop)
  (hJ:∀ pre W W',J pre W→Below W.heap.size W W'→J pre W')
  (hY:∀ pre x W,J pre W→A x W→pre.length<len→YieldAt Fence.wide (n - 1) Tryz.prog l x.enc W fun e W'=>e = .returned (.bool true)∧J (pre++[x]) W'∧Keep L W W')
  (W:World) (hK:Keep L w0 W) (hB:W.cell? ⟨Bn,0,none⟩=some (.slice a m c)) (h0:J [] W) :
  CallsIn Fence.wide n Tryz.prog 61 #[.func (.yield l) #[] #[],.pointer (some ⟨Bn,0,none⟩)] W fun e W'=>(∃ v,e = .returned v)∧∃ xs:List RX,(xs.map RX.dat=recs∧∀ x∈xs,A x W')∧J xs W':=by
 refine callsIn_of_wp Tryz.func61 rfl trivial ?_ rfl
 simp only [Tryz.ntmps61,List.size_toArray,d7t,d7u,Nat.reduceAdd,Nat.reduceSub,Array.replicate_succ,Array.replicate_zero,List.push_toArray,List.append_toArray,List.nil_append,List.cons_append]
 gi_wp2
 gi_loopw [3] (fun p wr=>∃ (q:Int) (pre:List RX) (rest:List (List D × Int)) (k:Nat),p = .int .i64 q∧0≤q∧q≤len∧a7r R 16 d len k q=some rest∧pre.map RX.dat++rest=recs∧(pre.length:Int)≤q∧(∀ x∈pre,A x wr)∧J pre wr∧Keep L W wr)
  (fun p wr=>len - (intOf p).toNat)
 case atStart =>
  exact ⟨0,[],recs,len+1,rfl,by omega,by omega,hrec,rfl,by simp,by simp,h0,Keep.refl _ _⟩
 case round =>
  obtain ⟨q,pre,rest,k,rfl,hq0,hq1,hr,hpr,hpl,hpo,hJs,hk0⟩:=hrel
  have hk:=hK.trans hk0
  have hLw:∀ b,Lo b→b<wr.heap.size:=fun b hb=>Nat.lt_of_lt_of_le (hL b hb) hk.size
  have hglw:GlOK (Gh.off Lo wr) X.gl:=fun i d hd=>((hgl i d hd).keep hk).less hsub
  have hBw:=hk0.cell Bn 0 _ hLB hB
  obtain ⟨v',hsl,hv'⟩:=c2K (P:=Tryz.prog) c4q (t:=22) (e:=5) (ti:=ti22) (tj:=ti5) rfl rfl rfl rfl ((hrep.keep hk).less hsub) hdk hq0 hq1
  obtain ⟨a',m',c',rfl⟩:∃ a' m' c',v' = .slice a' m' c':=by
   unfold b2m at hdk
   split at hdk
   ·cases hv';exact ⟨_,_,_,rfl⟩
   ·cases hv';exact ⟨_,_,_,rfl⟩
   ·cases hdk
  obtain ⟨k,rfl⟩:∃ k',k=k'+1:=by
   cases k with
   | zero=>cases hr
   | succ k=>exact ⟨k,rfl⟩
  unfold a7r at hr
  split at hr
  ·rename_i kk y z nn er hdec
   split at hr
   case isFalse=>cases hr
   rename_i hyz
   obtain ⟨hy,hz⟩:=hyz
   have hcall:=c0b d3J (f:=16) (d3P).enter hLw hglw hv' hy hz hdec
   by_cases he:er=0
   ·rw [if_pos he] at hr
    subst he
    split at hr
    ·rename_i hnn
     obtain ⟨hn0,hn1⟩:=hnn
     gi_wp2
     refine ⟨trivial,(fun h=>by cases h),?_⟩
     gi_at_call 16
     refine (callsIn_wide.2 hcall).mono ?_
     clear hcall
     rintro en W2 ⟨p1,l1,c1,p2,l2,c2,rfl,hbel,hOK⟩
     have hb3:Below wr.heap.size wr (W2.alloc (.cells #[.int .i64 kk,.slice p1 l1 c1,.slice p2 l2 c2] 30)):=hbel.alloc hbel.size _
     have hk3:=(Keep.below (L:=L) hbel).trans (Keep.alloc W2 (.cells #[.int .i64 kk,.slice p1 l1 c1,.slice p2 l2 c2] 30))
     have hOK3:=hA0 _ _ ((hOK (q+nn)).keep (Keep.alloc W2 (.cells #[.int .i64 kk,.slice p1 l1 c1,.slice p2 l2 c2] 30)))
     obtain ⟨fn,tmps,assign,body,hy2,hR2⟩:=hY pre ⟨kk,p1,l1,c1,p2,l2,c2,y,z,q+nn⟩ _ (hJ _ _ _ hJs hb3) hOK3 (by omega)
     dsimp only [RX.enc] at hy2
     gi_wp2
     refine ⟨(fun h=>by cases h),?_⟩
     refine hR2.mono ?_
     rintro e W3 ⟨rfl,hJ3,hk4⟩
     gi_wp2
     go_roundw
     case rel =>
      rw [Option.map_eq_some_iff] at hr
      obtain ⟨rest',hr,rfl⟩:=hr
      refine ⟨q+nn,pre++[⟨kk,p1,l1,c1,p2,l2,c2,y,z,q+nn⟩],rest',k,rfl,by omega,hn1,hr,by rw [← hpr];simp [RX.dat,RX.row],by simp;omega,fun x hx=>?_,hJ3,hk0.trans (hk3.trans hk4)⟩
      rcases d7y.1 hx with hx | hx
      ·exact hA _ _ _ (hpo x hx) (hk3.trans hk4)
      ·rw [List.mem_singleton.1 hx];exact hA _ _ _ hOK3 hk4
     case measure =>
      simp [intOf];omega
    ·cases hr
   ·rw [if_neg he] at hr
    injection hr with hr
    subst hr
    gi_wp2
    refine ⟨trivial,(fun h=>by cases h),?_⟩
    gi_at_call 16
    refine (callsIn_wide.2 hcall).mono ?_
    clear hcall
    rintro en W2 ⟨p1,l1,c1,p2,l2,c2,rfl,hbel,hOK⟩
    have hb3:Below wr.heap.size wr (W2.alloc (.cells #[.int .i64 kk,.slice p1 l1 c1,.slice p2 l2 c2] 30)):=hbel.alloc hbel.size _
    have hk3:=(Keep.below (L:=L) hbel).trans (Keep.alloc W2 (.cells #[.int .i64 kk,.slice p1 l1 c1,.slice p2 l2 c2] 30))
    gi_wp2
    refine bodyPost_ret (results_none rfl _ _ _) rfl ?_
    exact ⟨⟨_,rfl⟩,pre,⟨by simpa using hpr,fun x hx=>hA _ _ _ (hpo x hx) hk3⟩,hJ _ _ _ hJs hb3⟩
  ·cases hr
set_option maxRecDepth 100000 in
set_option maxHeartbeats 4000000 in
theorem c3E (n len:Nat) (hn:3≤n) (L:Nat→Prop) (w:World) (a:Option Addr) (m c:Nat) (d:D) (recs:List (List D × Int)) (hl63:len≤4000000000000000000) (hL:∀ b,L b→b<w.heap.size)
  (hrep:Rep (Gh.off L w) (.slice a m c) d) (hdk:b2m d=some len) (hgl:GlOK (Gh.off L w) X.gl) (hrec:a7r R 16 d len (len+1) 0=some recs) :
  CallsIn Fence.wide n Tryz.prog 21 #[.slice a m c] w fun e W'=>∃ xs:List RX,xs.map RX.dat=recs∧(∀ x∈xs,x.OK L W')∧Below w.heap.size w W'∧e = .returned (.tuple #[(a1j xs).val,.int .i64 (a1j xs).at_]):=by
 have h1:1≤n:=by omega
 refine callsIn_of_wp_marks Tryz.func21 rfl trivial ?_ rfl
 simp only [Tryz.ntmps21,List.size_toArray,d7t,d7u,Nat.reduceAdd,Nat.reduceSub,Array.replicate_succ,Array.replicate_zero,List.push_toArray,List.append_toArray,List.nil_append,List.cons_append]
 gi_wp2
 refine ⟨trivial,?_⟩
 gi_at_call 48
 refine (b8I (n - 1) a m c _).mono ?_
 rintro e w' ⟨rfl,rfl⟩
 gi_wp2
 have cR:=(((CB.new w #[.int .i64 0,.slice none 0 0,.slice none 0 0] 30).alloc (.cells #[.int .i64 0,.slice none 0 0,.slice none 0 0] 30)).alloc (.cells #[.int .i64 0] 3)).alloc (.cells #[.slice a m c] 22)
 have cL:=((CB.new (w.alloc (.cells #[.int .i64 0,.slice none 0 0,.slice none 0 0] 30)) #[.int .i64 0,.slice none 0 0,.slice none 0 0] 30).alloc (.cells #[.int .i64 0] 3)).alloc (.cells #[.slice a m c] 22)
 have cE:=(CB.new ((w.alloc (.cells #[.int .i64 0,.slice none 0 0,.slice none 0 0] 30)).alloc (.cells #[.int .i64 0,.slice none 0 0,.slice none 0 0] 30)) #[.int .i64 0] 3).alloc (.cells #[.slice a m c] 22)
 have cB:=CB.new (((w.alloc (.cells #[.int .i64 0,.slice none 0 0,.slice none 0 0] 30)).alloc (.cells #[.int .i64 0,.slice none 0 0,.slice none 0 0] 30)).alloc (.cells #[.int .i64 0] 3)) #[.slice a m c] 22
 have hB0:Below w.heap.size w ((((w.alloc (.cells #[.int .i64 0,.slice none 0 0,.slice none 0 0] 30)).alloc (.cells #[.int .i64 0,.slice none 0 0,.slice none 0 0] 30)).alloc (.cells #[.int .i64 0] 3)).alloc (.cells #[.slice a m c] 22)):=((((Below.refl _ w).alloc (Nat.le_refl _) _).alloc (by simp) _).alloc (by simp;omega) _).alloc (by simp;omega) _
 have hsz:((((w.alloc (.cells #[.int .i64 0,.slice none 0 0,.slice none 0 0] 30)).alloc (.cells #[.int .i64 0,.slice none 0 0,.slice none 0 0] 30)).alloc (.cells #[.int .i64 0] 3)).alloc (.cells #[.slice a m c] 22)).heap.size=w.heap.size+4:=by simp
 simp only [World.size_alloc] at cL cE cB
 obtain ⟨W0,hW0⟩:∃ W0,((((w.alloc (.cells #[.int .i64 0,.slice none 0 0,.slice none 0 0] 30)).alloc (.cells #[.int .i64 0,.slice none 0 0,.slice none 0 0] 30)).alloc (.cells #[.int .i64 0] 3)).alloc (.cells #[.slice a m c] 22))=W0:=⟨_,rfl⟩
 rw [hW0] at cR cL cE cB hB0 hsz ⊢
 clear hW0
 obtain ⟨LL,hLL⟩:∃ LL:Nat→Prop,LL=fun b=>L b∨(w.heap.size≤b∧b≤w.heap.size+2):=⟨_,rfl⟩
 have mv:∀ {v:Value} {d:D},Rep (Gh.off L w) v d→Rep (Gh.off LL W0) v d:=fun h=>Rep.move (g:=Gh.off L w) (g':=Gh.off LL W0) (fun _ _ h=>h) (fun b hb=>⟨Nat.lt_of_lt_of_le hb.1 hB0.size,by
  have hb1:b<w.heap.size:=hb.1
  have hb2:¬ L b:=hb.2
  show ¬ LL b
  rw [hLL];rintro (h | h)
  ·exact hb2 h
  ·omega⟩) (fun b i v hb hv=>by
  have hb1:b<w.heap.size:=hb.1
  show W0.cell? _=_
  rw [World.cell?_of_block (w:=w) (hB0.block b hb1)];exact hv) h
 have back:∀ {x:RX} {W:World},x.OK LL W→x.OK L W:=fun {x W} h=>Rep.move (g:=Gh.off LL W) (g':=Gh.off L W) (fun _ _ h=>h) (fun b hb=>⟨hb.1,fun hh=>hb.2 (by rw [hLL];exact .inl hh)⟩) (fun b i v hb hv=>hv) h
 have hLL0:∀ b,LL b→b<W0.heap.size:=fun b hb=>by
  rw [hLL] at hb
  rcases hb with hb | hb
  ·have:=hL b hb;omega
  ·omega
 have hL0:LL w.heap.size:=by rw [hLL];exact .inr (by omega)
 have hL1:LL (w.heap.size+1):=by rw [hLL];exact .inr (by omega)
 have hL2:LL (w.heap.size+1+1):=by rw [hLL];exact .inr (by omega)
 have hL3:¬ LL (w.heap.size+3):=by
  rw [hLL];rintro (h | h)
  ·have:=hL _ h;omega
  ·omega
 clear hLL
 refine c1Y rfl h1 (gf:=61) (lb := #[.pointer (some ⟨w.heap.size+1+1+1,0,none⟩)]) rfl trivial (enters_of Tryz.func61 (by kernel_rfl) rfl) len RX.enc (fun _=>rfl) LL (fun x W=>x.OK LL W) (fun x W W' h k=>h.keep k)
  (fun xs W=>xs.map RX.dat=recs∧∀ x∈xs,x.OK LL W) (fun xs W W' h k=>⟨h.1,fun x hx=>(h.2 x hx).keep k⟩) ?seq
  (fun pre W=>CB W (w.heap.size+1) (a1j pre).cs 30∧CB W (w.heap.size+1+1) #[.int .i64 (a1j pre).at_] 3∧CB W w.heap.size #[.int .i64 0,.slice none 0 0,.slice none 0 0] 30∧Below w.heap.size w W)
  ?own ?bel ⟨cL,cE,cR,hB0⟩
  (fun x a' W=>∃ Bx,w.heap.size+1+1<Bx∧CB W Bx x.cs 30∧a'={ tmps := #[Value.slice a m c,undef,Value.pointer (some { block:=w.heap.size,off:=0 }),Value.int IntKind.i64 0,Value.pointer (some { block:=w.heap.size+1,off:=0 }),
              Value.pointer (some { block:=w.heap.size+1+1,off:=0 }),.pointer (some ⟨Bx,0,none⟩),.int .i64 x.at_,Value.slice a m c,.func (.func 61) #[] #[.pointer (some ⟨w.heap.size+1+1+1,0,none⟩)],x.val,.int .i64 x.at_,undef,undef,undef,undef],defers:=[] })
  ?ax ?assign ?body ?done
 case seq=>exact fun l J W1 hk hJ hY h0=>b8J (n - 1) l (w.heap.size+1+1+1) len LL LL (fun _ h=>h) (fun x W=>x.OK LL W) (fun x W h=>h) (fun x W W' h k=>h.keep k) W0 a m c d recs hl63 hLL0 hL3 (mv hrep) hdk (fun i d hd=>mv (hgl i d hd)) hrec J hJ hY W1 hk (hk.cell _ _ _ hL3 (cB.cell 0)) h0
 case own=>exact fun s A B row hs hg hr=>⟨hs.1.grown hg fun r e=>(hr r e).2,hs.2.1.grown hg fun r e=>(hr r e).2,hs.2.2.1.grown hg fun r e=>(hr r e).2,hs.2.2.2.grown hg hs.2.2.2.size fun k e=>by have:=(hr k e).1;omega⟩
 case bel=>exact fun pre W W' hs hb=>⟨hs.1.below hb,hs.2.1.below hb,hs.2.2.1.below hb,hs.2.2.2.trans (hb.mono hs.2.2.2.size)⟩
 case ax =>
  rintro x a' l o o' W ⟨Bx,h1,h2,h3⟩ hl hlo ho
  exact ⟨Bx,h1,h2.put o' hlo ho,h3⟩
 case assign =>
  rintro l pre x W K ⟨i1,i2,i3,i4⟩ hx hK
  dsimp only [RX.enc]
  gi_wp2
  exact hK _ _ ((KeepsOthers.alloc _ _).from _) (Keep.alloc _ _) ⟨i1.alloc _,i2.alloc _,i3.alloc _,i4.alloc i4.size _⟩ ⟨W.heap.size,i2.lt,CB.new W _ 30,rfl⟩
 case body =>
  rintro l pre x a' W ⟨i1,i2,i3,i4⟩ hx _ ⟨Bx,hBx,bX,rfl⟩
  have x0:W.cell? ⟨Bx,0,none⟩=some (.int .i64 x.k):=bX.cell 0
  have x1:W.cell? ⟨Bx,1,none⟩=some (.slice x.p1 x.l1 x.c1):=bX.cell 1
  have x2:W.cell? ⟨Bx,2,none⟩=some (.slice x.p2 x.l2 x.c2):=bX.cell 2
  have y0:W.cell? ⟨w.heap.size+1,0,none⟩=some (.int .i64 (a1j pre).k):=i1.cell 0
  have y1:W.cell? ⟨w.heap.size+1,1,none⟩=some (.slice (a1j pre).p1 (a1j pre).l1 (a1j pre).c1):=i1.cell 1
  have y2:W.cell? ⟨w.heap.size+1,2,none⟩=some (.slice (a1j pre).p2 (a1j pre).l2 (a1j pre).c2):=i1.cell 2
  have f0:=i1.frozen 0
  have f1:=i1.frozen 1
  have f2:=i1.frozen 2
  have z0:W.cell? ⟨w.heap.size+1+1,0,none⟩=some (.int .i64 (a1j pre).at_):=i2.cell 0
  have g0:=i2.frozen 0
  gi_wp2
  refine ⟨((((KeepsOthers.setCell _ _ _).trans (KeepsOthers.setCell _ _ _)).trans (KeepsOthers.setCell _ _ _)).trans (KeepsOthers.setCell _ _ _)).from _,(((Keep.set _ _ _ hL1).trans (Keep.set _ _ _ hL1)).trans (Keep.set _ _ _ hL1)).trans (Keep.set _ _ _ hL2),?_,?_,?_,?_⟩
  ·rw [a9h]
   exact (((i1.set 0 _).set 1 _).set 2 _).other _ (by omega)
  ·rw [a9h]
   exact (((i2.other _ (by omega)).other _ (by omega)).other _ (by omega)).set 0 _
  ·exact (((i3.other _ (by omega)).other _ (by omega)).other _ (by omega)).other _ (by omega)
  ·exact (((i4.setCell (p:=⟨w.heap.size+1,0,none⟩) (by simp) _).setCell (p:=⟨w.heap.size+1,1,none⟩) (by simp) _).setCell (p:=⟨w.heap.size+1,2,none⟩) (by simp) _).setCell (p:=⟨w.heap.size+1+1,0,none⟩) (by simp;omega) _
 case done =>
  rintro D xs W hD ⟨hS1,hS2⟩ ⟨i1,i2,i3,i4⟩ hK
  have y0:W.cell? ⟨w.heap.size+1,0,none⟩=some (.int .i64 (a1j xs).k):=i1.cell 0
  have y1:W.cell? ⟨w.heap.size+1,1,none⟩=some (.slice (a1j xs).p1 (a1j xs).l1 (a1j xs).c1):=i1.cell 1
  have y2:W.cell? ⟨w.heap.size+1,2,none⟩=some (.slice (a1j xs).p2 (a1j xs).l2 (a1j xs).c2):=i1.cell 2
  have z0:W.cell? ⟨w.heap.size+1+1,0,none⟩=some (.int .i64 (a1j xs).at_):=i2.cell 0
  have t0:W.cell? ⟨w.heap.size,0,none⟩=some (.int .i64 0):=i3.cell 0
  have t1:W.cell? ⟨w.heap.size,1,none⟩=some (.slice none 0 0):=i3.cell 1
  have t2:W.cell? ⟨w.heap.size,2,none⟩=some (.slice none 0 0):=i3.cell 2
  have f0:=i3.frozen 0
  have f1:=i3.frozen 1
  have f2:=i3.frozen 2
  have mixed:Tryz.prog.follows .mixedOrders=true:=by kernel_rfl
  gi_wp2
  gi_region
  all_goals gi_wp2
  have hK3:=(((((KeepsOthers.setCell W ⟨w.heap.size,0,none⟩ (.int .i64 (a1j xs).k)).trans (KeepsOthers.setCell _ ⟨w.heap.size,1,none⟩ (.slice (a1j xs).p1 (a1j xs).l1 (a1j xs).c1))).trans (KeepsOthers.setCell _ ⟨w.heap.size,2,none⟩ (.slice (a1j xs).p2 (a1j xs).l2 (a1j xs).c2)))).trans (KeepsOthers.drew _)).same D _ hK rfl
  have cF:CB (((W.setCell ⟨w.heap.size,0,none⟩ (.int .i64 (a1j xs).k)).setCell ⟨w.heap.size,1,none⟩ (.slice (a1j xs).p1 (a1j xs).l1 (a1j xs).c1)).setCell ⟨w.heap.size,2,none⟩ (.slice (a1j xs).p2 (a1j xs).l2 (a1j xs).c2)).drew w.heap.size (a1j xs).cs 30:=(((i3.set 0 (.int .i64 (a1j xs).k)).set 1 (.slice (a1j xs).p1 (a1j xs).l1 (a1j xs).c1)).set 2 (.slice (a1j xs).p2 (a1j xs).l2 (a1j xs).c2))
  have bF:=(((i4.setCell (p:=⟨w.heap.size,0,none⟩) (Nat.le_refl _) (.int .i64 (a1j xs).k)).setCell (p:=⟨w.heap.size,1,none⟩) (Nat.le_refl _) (.slice (a1j xs).p1 (a1j xs).l1 (a1j xs).c1)).setCell (p:=⟨w.heap.size,2,none⟩) (Nat.le_refl _) (.slice (a1j xs).p2 (a1j xs).l2 (a1j xs).c2)).drew
  have kF:Keep LL W (((W.setCell ⟨w.heap.size,0,none⟩ (.int .i64 (a1j xs).k)).setCell ⟨w.heap.size,1,none⟩ (.slice (a1j xs).p1 (a1j xs).l1 (a1j xs).c1)).setCell ⟨w.heap.size,2,none⟩ (.slice (a1j xs).p2 (a1j xs).l2 (a1j xs).c2)).drew:=(((Keep.set _ _ _ hL0).trans (Keep.set _ _ _ hL0)).trans (Keep.set _ _ _ hL0)).trans (Keep.drew _)
  generalize (((W.setCell ⟨w.heap.size,0,none⟩ (.int .i64 (a1j xs).k)).setCell ⟨w.heap.size,1,none⟩ (.slice (a1j xs).p1 (a1j xs).l1 (a1j xs).c1)).setCell ⟨w.heap.size,2,none⟩ (.slice (a1j xs).p2 (a1j xs).l2 (a1j xs).c2)).drew=WF at hK3 cF bF kF ⊢
  refine ⟨by simp,.inl ⟨_,_,rfl,run_takeDeferred hK3,?_⟩⟩
  have cG:=cF.put (.deferred none) hK3 rfl
  have kG:Keep LL WF (WF.putObj D (.deferred none)) := .putObj _ hK3 rfl
  have bG:=bF.trans (belowK_b (w:=w) (Nat.le_refl _) WF D _ (.deferred none) (by omega) hK3 rfl rfl)
  refine ⟨.tuple #[(a1j xs).val,.int .i64 (a1j xs).at_],?_,xs,hS1,fun x hx=>back ((hS2 x hx).keep (kF.trans kG)),bG,rfl⟩
  rw [results_cell_tmp rfl]
  have hu:Tryz.prog.underlying 30=some (.struct (match Tryz.prog.underlying 30 with | some (.struct fs)=>fs | _ => #[])):=by kernel_rfl
  have hld:=run_loadVar_row (P:=Tryz.prog) (WF.putObj D (.deferred none)) w.heap.size 30 30 (a1j xs).cs (0,0) _ cG hu rfl (by kernel_rfl)
  simp [asAddr,Result.andThen,hld]
  rfl
set_option maxRecDepth 100000 in
set_option maxHeartbeats 4000000 in
theorem c2X (n len:Nat) (hn:3≤n) (L:Nat→Prop) (w:World) (a:Option Addr) (m c:Nat) (d:D) (recs:List (List D × Int)) (hl63:len≤10000000000) (hL:∀ b,L b→b<w.heap.size)
  (hrep:Rep (Gh.off L w) (.slice a m c) d) (hdk:b2m d=some len) (hgl:GlOK (Gh.off L w) X.gl) (hrec:a7r R 16 d len (len+1) 0=some recs) :
  CallsIn Fence.wide n Tryz.prog 23 #[.slice a m c] w fun e W'=>∃ v,e = .returned v∧W'.ownsRow (w.heap.size+2) 3 1 v recs.length (recs.map fun r => .int .i64 r.2)∧(recs=[]→v = .slice none 0 0)∧Below w.heap.size w W':=by
 have h1:1≤n:=by omega
 refine callsIn_of_wp_marks Tryz.func23 rfl trivial ?_ rfl
 simp only [Tryz.ntmps23,List.size_toArray,d7t,d7u,Nat.reduceAdd,Nat.reduceSub,Array.replicate_succ,Array.replicate_zero,List.push_toArray,List.append_toArray,List.nil_append,List.cons_append]
 gi_wp2
 refine ⟨trivial,?_⟩
 gi_at_call 48
 refine (b8I (n - 1) a m c _).mono ?_
 rintro e w' ⟨rfl,rfl⟩
 gi_wp2
 have cE:Boxed ((w.alloc (.cells #[.slice none 0 0] 59)).alloc (.cells #[.slice a m c] 22)) w.heap.size 59 (.slice none 0 0):=(Boxed.new w 59 (.slice none 0 0)).alloc (.cells #[.slice a m c] 22)
 have cB:=CB.new (w.alloc (.cells #[.slice none 0 0] 59)) #[.slice a m c] 22
 have hB0:Below w.heap.size w ((w.alloc (.cells #[.slice none 0 0] 59)).alloc (.cells #[.slice a m c] 22)):=((Below.refl _ w).alloc (Nat.le_refl _) _).alloc (by simp) _
 have hsz:((w.alloc (.cells #[.slice none 0 0] 59)).alloc (.cells #[.slice a m c] 22)).heap.size=w.heap.size+2:=by simp
 simp only [World.size_alloc] at cB
 obtain ⟨W0,hW0⟩:∃ W0,((w.alloc (.cells #[.slice none 0 0] 59)).alloc (.cells #[.slice a m c] 22))=W0:=⟨_,rfl⟩
 rw [hW0] at cE cB hB0 hsz ⊢
 clear hW0
 obtain ⟨LL,hLL⟩:∃ LL:Nat→Prop,LL=fun b=>L b∨b=w.heap.size∨w.heap.size+2≤b:=⟨_,rfl⟩
 have mv:∀ {v:Value} {d:D},Rep (Gh.off L w) v d→Rep (Gh.off LL W0) v d:=fun h=>Rep.move (g:=Gh.off L w) (g':=Gh.off LL W0) (fun _ _ h=>h) (fun b hb=>⟨Nat.lt_of_lt_of_le hb.1 hB0.size,by
  have hb1:b<w.heap.size:=hb.1
  have hb2:¬ L b:=hb.2
  show ¬ LL b
  rw [hLL];rintro (h | h)
  ·exact hb2 h
  ·omega⟩) (fun b i v hb hv=>by
  have hb1:b<w.heap.size:=hb.1
  show W0.cell? _=_
  rw [World.cell?_of_block (w:=w) (hB0.block b hb1)];exact hv) h
 have hLL0:∀ b,L b→b<W0.heap.size:=fun b hb=>by have:=hL b hb;omega
 have hL1:LL w.heap.size:=by rw [hLL];exact .inr (.inl rfl)
 have hL2:∀ r,w.heap.size+2≤r→LL r:=fun r hr=>by rw [hLL];exact .inr (.inr hr)
 have hL3:¬ LL (w.heap.size+1):=by
  rw [hLL];rintro (h | h | h)
  ·have:=hL _ h;omega
  ·omega
  ·omega
 have hsub:∀ b,L b→LL b:=fun b hb=>by rw [hLL];exact .inl hb
 clear hLL
 refine c1Y rfl h1 (gf:=61) (lb := #[.pointer (some ⟨w.heap.size+1,0,none⟩)]) rfl trivial (enters_of Tryz.func61 (by kernel_rfl) rfl) len RX.enc (fun _=>rfl) LL (fun x W=>True) (fun x W W' h k=>trivial)
  (fun xs W=>xs.map RX.dat=recs∧∀ x∈xs,True) (fun xs W W' h k=>h) ?seq
  (fun pre W=>(∃ v,Boxed W w.heap.size 59 v∧W.ownsRow (w.heap.size+2) 3 1 v pre.length (pre.map fun x => .int .i64 x.at_)∧(pre=[]→v = .slice none 0 0))∧Below w.heap.size w W∧w.heap.size+2≤W.heap.size)
  ?own ?bel ⟨⟨_,cE,World.ownsRow_nil _ _ _ _,fun _=>rfl⟩,hB0,by omega⟩
  (fun x a' W=>a'={ tmps := #[Value.slice a m c,undef,.slice none 0 0,.pointer (some ⟨w.heap.size,0,none⟩),undef,.int .i64 x.at_,Value.slice a m c,.func (.func 61) #[] #[.pointer (some ⟨w.heap.size+1,0,none⟩)],x.val,.int .i64 x.at_,undef,undef,undef,undef,undef],defers:=[] })
  ?ax ?assign ?body ?done
 case seq=>exact fun l J W1 hk hJ hY h0=>b8J (n - 1) l (w.heap.size+1) len LL L hsub (fun _ _=>True) (fun _ _ _=>trivial) (fun _ _ _ _ _=>trivial) W0 a m c d recs (by omega) hLL0 hL3 (mv hrep) hdk (fun i d hd=>mv (hgl i d hd)) hrec J hJ hY W1 hk (hk.cell _ _ _ hL3 (cB.cell 0)) h0
 case own =>
  rintro s A B row ⟨⟨v,hv,ho,he⟩,hb,hz⟩ hg hr
  refine ⟨⟨v,hv.kept hg (fun e'=>?_),ho.kept hg ?_,he⟩,hb.grown hg hb.size fun k e=>by have:=(hr k e).1;omega,Nat.le_trans hz hg.size⟩
  ·obtain ⟨_,o,ho',hc⟩:=hr _ e'.symm
   rw [show A.heap[_]?=_ from hv] at ho';cases ho';cases hc
  ·rcases ho.2 with ⟨rfl,_⟩ | ⟨g,cap,cur,rfl,_,hgb,_⟩
   ·exact .inl rfl
   ·refine .inr fun e'=>?_
    obtain ⟨_,o,ho',hc⟩:=hr g (by simpa [Value.ownBlock] using e'.symm)
    rw [hgb] at ho';cases ho';cases hc
 case bel =>
  rintro pre W W' ⟨⟨v,hv,ho,he⟩,hb,hz⟩ hbb
  exact ⟨⟨v,(hbb.block _ hv.lt).trans hv,b6d ho hbb,he⟩,hb.trans (hbb.mono hb.size),Nat.le_trans hz hbb.size⟩
 case ax=>exact fun x a' l o o' W h _ _ _=>h
 case assign =>
  rintro l pre x W K hi hx hK
  dsimp only [RX.enc]
  gi_wp2
  exact hK _ _ (KeepsFrom.refl _ _) (Keep.refl _ _) hi rfl
 case body =>
  rintro l pre x a' W ⟨⟨v,hv,hrow,he⟩,hB,hz⟩ hx hpn rfl
  have hcell:=hv.cell
  have hfro:=hv.frozen
  obtain ⟨i0,hi,hz0,hz1,hz2⟩:=info_parts (show (Tryz.prog.info? 3).map (fun i=>(i.zero,i.size,i.bytes))=some (some (.int .i64 0),1,8) by kernel_rfl)
  have hU:Tryz.prog.underlying 59=some (.slice 3):=by kernel_rfl
  gi_wp2_with (gi_at_builtin;refine wpListIn_append_own _ rfl _ _ 59 rfl (w.heap.size+2) 3 i0 (.int .i64 0) 1 8 hU hi hz0 hz1 hz2 rfl (by decide) _ _ _ rfl (hrow.alloc _) ⟨W.heap.size,0,none⟩ 1 1 [.int .i64 x.at_] rfl rfl (cell_one_new _ _ _) (by simp [Value.oneCell']) (by simp [maxLen];omega) (by omega) (by simp;omega) ?_;intro v' w1 hown' hgrow _;obtain ⟨g',cap',rfl⟩:=ownsRow_succ hown';obtain ⟨hv1,hv2,hr2,hk2,hb2⟩:=hv.appended (by decide) (b1K hrow (b':=w.heap.size) (by omega)) hB.size (Nat.le_refl _) (b1K hown' (b':=w.heap.size) (by omega)) hgrow;have hc1:=hv1.cell;have hf1:=hv1.frozen)
  have hne:w.heap.size+1≠w.heap.size:=by omega
  have hvs:=hown'.kept (grownBy_setCell' w1 w.heap.size (.slice (some ⟨g',0,none⟩) (pre.length+1) cap')) (.inr (hv1.not_row (by decide) hown').symm)
  refine ⟨hk2.from _,(((Keep.alloc W _).trans (Keep.grown hgrow fun r hr=>hL2 r (c0T hrow r hr))).trans (Keep.set _ _ _ hL1)),⟨_,hv2,hvs⟩,hB.trans hb2,?_⟩
  have:=hgrow.size
  simp at this
  omega
 case done =>
  rintro D xs W hD ⟨hS1,_⟩ ⟨⟨v,hv,hrow,he⟩,hB,hz⟩ hK
  have hc:=hv.cell
  have hxl:xs.length=recs.length:=by rw [← hS1];simp
  have hxm:(xs.map fun x=>Value.int .i64 x.at_)=recs.map fun r=>Value.int .i64 r.2:=by rw [← hS1];simp [RX.dat]
  obtain ⟨p,q,c2,rfl⟩:∃ p q c,v = .slice p q c:=by
   rcases hrow.2 with ⟨rfl,_⟩ | ⟨g,cap,cur,rfl,_⟩
   ·exact ⟨_,_,_,rfl⟩
   ·exact ⟨_,_,_,rfl⟩
  gi_wp2
  refine ⟨by simp,.inl ⟨_,_,rfl,run_takeDeferred hK,?_⟩⟩
  exact ⟨_,results_tmp rfl _ _ _,.slice p q c2,rfl,by have:=ownsRow_putObj hrow (.deferred none) hK rfl;rw [hxl,hxm] at this;exact this,fun h=>he (by rw [← hS1] at h;simpa using h),hB.trans (belowK_b (w:=w) (Nat.le_refl _) W D _ _ (by omega) hK rfl rfl)⟩
theorem d3V:RecWalk Tryz.prog X R 21 23 16 3 :=
 ⟨fun L len w a m c d recs hl hL hr hk hg he=>callsIn_wide.1 (c3E 3 len (by omega) L w a m c d recs (by omega) hL hr hk hg he),fun L len w a m c d recs hl hL hr hk hg he=>callsIn_wide.1 (c2X 3 len (by omega) L w a m c d recs hl hL hr hk hg he)⟩
end Go.Proofs.YtjmndhbabkjebaaGreatDoor
