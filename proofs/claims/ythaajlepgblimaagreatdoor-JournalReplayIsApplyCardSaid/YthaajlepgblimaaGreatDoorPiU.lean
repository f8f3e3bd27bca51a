/- Functions, whole: what they leave, their own objects put away. No program is named here. -/
import Derived.Test.YthaajlepgblimaaGreatDoorPiT
set_option linter.unusedSimpArgs false
set_option linter.unusedVariables false
set_option linter.unnecessarySimpa false
namespace Go.Pi
open Go.Eng
inductive Ok (n:Nat):D→Prop
 | any:Ok n .any
 | und:Ok n .und
 | bool (b):Ok n (.bool b)
 | int (k i):Ok n (.int k i)
 | str (s):Ok n (.str s)
 | nilp:Ok n .nilp
 | ptr (o i off) (h:o<n):Ok n (.ptr o i off)
 | fptr (cs) (h:∀ d∈cs,Ok n d):Ok n (.fptr cs)
 | nils:Ok n .nils
 | sl (sz full rows) (h:∀ row∈rows,∀ d∈row,Ok n d):Ok n (.sl sz full rows)
 | msl (sz o r k) (h:o<n):Ok n (.msl sz o r k)
 | nilf:Ok n .nilf
 | fn (f a b) (ha:∀ d∈a,Ok n d) (hb:∀ d∈b,Ok n d):Ok n (.fn f a b)
 | nili:Ok n .nili
 | iface (t d) (h:Ok n d):Ok n (.iface t d)
 | agg (cs) (h:∀ d∈cs,Ok n d):Ok n (.agg cs)
 | tup (ds) (h:∀ d∈ds,Ok n d):Ok n (.tup ds)
theorem a5A {α:Type} {l:List α} {x:α} (h:x∈l):∃ i:Nat,l[i]?=some x:=List.getElem?_of_mem h
theorem Rep.okd {g:Gh} {v:Value} {d:D} (h:Rep g v d):Ok g.ms.length d:=by
 induction h with
 | any v=>exact .any
 | und=>exact .und
 | bool b=>exact .bool b
 | int k n=>exact .int k n
 | str s=>exact .str s
 | nilp=>exact .nilp
 | ptr o i off m hm=>exact .ptr _ _ _ (e0y.1 hm).1
 | fptr b o cs vs hf hc h1 hr ih =>
  refine .fptr _ fun d hd=>?_
  obtain ⟨j,hj⟩:=a5A hd
  exact ih j d hj
 | nils=>exact .nils
 | sl ad n cap sz full rows hn hnc hcm hfull hsz hrow had vs hc h1 hr ih =>
  refine .sl _ _ _ fun row hrw d hd=>?_
  obtain ⟨i,hi⟩:=a5A hrw
  obtain ⟨j,hj⟩:=a5A hd
  exact ih i row hi j d hj
 | msl o r n cap m hm hn hlo hhi hcm=>exact .msl _ _ _ _ (e0y.1 hm).1
 | nilf=>exact .nilf
 | fn f first caps vf vc hf hc rf rc ihf ihc =>
  refine .fn _ _ _ (fun d hd=>?_) (fun d hd=>?_)
  ·obtain ⟨j,hj⟩:=a5A hd
   have hlt:=(e0y.1 hj).1
   exact ihf j _ d (e0x (show j<vf.length by omega)) hj
  ·obtain ⟨j,hj⟩:=a5A hd
   have hlt:=(e0y.1 hj).1
   exact ihc j _ d (e0x (show j<vc.length by omega)) hj
 | nili=>exact .nili
 | iface t v d h ih=>exact .iface _ _ ih
 | agg vs cs hl h1 hr ih =>
  refine .agg _ fun d hd=>?_
  obtain ⟨j,hj⟩:=a5A hd
  have hlt:=(e0y.1 hj).1
  exact ih j _ d (e0x (show j<vs.length by omega)) hj
 | tup vs ds hl hr ih =>
  refine .tup _ fun d hd=>?_
  obtain ⟨j,hj⟩:=a5A hd
  have hlt:=(e0y.1 hj).1
  exact ih j _ d (e0x (show j<vs.length by omega)) hj
theorem Rep.cut {g g':Gh} (hw:g'.w=g.w) {n:Nat} (hms:∀ (o:Nat) (m:Me),o<n→g.ms[o]?=some m→g'.ms[o]?=some m) (hL:∀ b,g'.L b→g.L b) {v:Value} {d:D} (h:Rep g v d) (hk:Ok n d):Rep g' v d:=by
 have hfz:∀ b,g.fz b→g'.fz b:=fun b hb=>⟨by rw [hw];exact hb.1,fun hh=>hb.2 (hL b hh)⟩
 induction h with
 | any v=>exact .any v
 | und=>exact .und
 | bool b=>exact .bool b
 | int k n=>exact .int k n
 | str s=>exact .str s
 | nilp=>exact .nilp
 | ptr o i off m hm =>
  cases hk with
  | ptr _ _ _ hlt=>exact .ptr o i off m (hms o m hlt hm)
 | fptr b o cs vs hf hc h1 hr ih =>
  cases hk with
  | fptr _ hk=>exact .fptr b o cs vs (fun hn=>hfz _ (hf hn)) (fun j d hj=>by rw [hw];exact hc j d hj) h1 (fun j d hj=>ih j d hj (hk d (e0w hj)))
 | nils=>exact .nils
 | sl ad n cap sz full rows hn hnc hcm hfull hsz hrow had vs hc h1 hr ih =>
  cases hk with
  | sl _ _ _ hk=>exact .sl ad n cap sz full rows hn hnc hcm hfull hsz hrow (fun hne=>⟨(had hne).1,hfz _ (had hne).2⟩) vs (fun i row hi j d hj=>by rw [hw];exact hc i row hi j d hj) h1 (fun i row hi j d hj=>ih i row hi j d hj (hk row (e0w hi) d (e0w hj)))
 | msl o r n cap m hm hn hlo hhi hcm =>
  cases hk with
  | msl _ _ _ _ hlt=>exact .msl o r n cap m (hms o m hlt hm) hn hlo hhi hcm
 | nilf=>exact .nilf
 | fn f first caps vf vc hf hc rf rc ihf ihc =>
  cases hk with
  | fn _ _ _ ha hb=>exact .fn f first caps vf vc hf hc (fun j v d h1 h2=>ihf j v d h1 h2 (ha d (e0w h2))) (fun j v d h1 h2=>ihc j v d h1 h2 (hb d (e0w h2)))
 | nili=>exact .nili
 | iface t v d h ih =>
  cases hk with
  | iface _ _ hk=>exact .iface t v d (ih hk)
 | agg vs cs hl h1 hr ih =>
  cases hk with
  | agg _ hk=>exact .agg vs cs hl h1 (fun j v d h1 h2=>ih j v d h1 h2 (hk d (e0w h2)))
 | tup vs ds hl hr ih =>
  cases hk with
  | tup _ hk=>exact .tup vs ds hl (fun j v d h1 h2=>ih j v d h1 h2 (hk d (e0w h2)))
section
variable {P:Program} {X:Cx}
def c3B (h0 h2:Hp) (d:D):Prop:=Ok h0.length d∧∀ (o T sz:Nat) (rows:List (List D)),o<h0.length→h2[o]?=some (.row T sz rows)→h0[o]?=some (.row T sz rows)∨∀ row∈rows,∀ d∈row,Ok h0.length d
noncomputable def scope (h0 h2:Hp) (d:D):Option (D × Hp):=chk (c3B h0 h2 (frz h0.length h2 4 d)) (some (frz h0.length h2 4 d,h2.take h0.length))
theorem c1B {g0 g2:Gh} {h0 h2 h':Hp} {v:Value} {d d':D} (hi0:Inv g0 h0) (he:Ext g0 g2) (hi2:Inv g2 h2) (hr:Rep g2 v d) (hs:scope h0 h2 d=some (d',h')):∃ g',g'.w=g2.w∧Ext g0 g'∧Inv g' h'∧Rep g' v d':=by
 unfold scope chk at hs
 split at hs
 case isFalse=>cases hs
 rename_i hc
 injection hs with hs
 injection hs with h1 h2'
 subst h1;subst h2'
 have hn0:g0.ms.length≤g2.ms.length:=by
  rcases Nat.eq_zero_or_pos g0.ms.length with hz | hp
  ·omega
  ·have hlt:g0.ms.length - 1<g0.ms.length:=by omega
   have:=he.ms _ _ (e0x hlt)
   have:=(e0y.1 this).1
   omega
 have hms0:∀ (o:Nat) (m:Me),o<h0.length→g2.ms[o]?=some m→g0.ms[o]?=some m:=fun o m ho hm=>by
  have hlt:o<g0.ms.length:=by rw [hi0.len];exact ho
  have hg:=e0x hlt
  have:=he.ms _ _ hg
  rw [hm] at this
  rw [hg,← this]
 let L':Nat→Prop:=fun b=>g2.L b∧((∃ (o:Nat) (m:Me),o<h0.length∧g2.ms[o]?=some m∧m.b=b∧∃ T sz rows,h2[o]?=some (.row T sz rows))∨∀ (o:Nat) (m:Me),g2.ms[o]?=some m→m.b≠b)
 let g1:Gh:=⟨g2.w,g2.ms,L'⟩
 let g':Gh:=⟨g2.w,g2.ms.take h0.length,L'⟩
 have hrep1:Rep g1 v (frz h0.length h2 4 d):=b7R (g:=g2) (g1:=g1) (n0:=h0.length) hi2 rfl rfl (fun b hb=>hb) 4 v d hr
 have hcutms:∀ (o:Nat) (m:Me),o<h0.length→g1.ms[o]?=some m→g'.ms[o]?=some m:=fun o m ho hm=>by
  show (g2.ms.take h0.length)[o]?=some m
  rw [List.getElem?_take,if_pos ho];exact hm
 have hcut2:∀ {v d},Rep g2 v d→Ok h0.length d→Rep g' v d:=fun {v d} hv hk=>Rep.cut (g:=g2) (g':=g') rfl (n:=h0.length) (fun o m ho hm=>hcutms o m ho hm) (fun b hb=>hb.1) hv hk
 have hmg:∀ {o:Nat} {m:Me},g'.ms[o]?=some m→g2.ms[o]?=some m:=fun {o m} hm=>by
  have:(g2.ms.take h0.length)[o]?=some m:=hm
  rw [List.getElem?_take] at this
  split at this
  ·exact this
  ·cases this
 have he':Ext g0 g':=⟨⟨he.os,he.tape,he.output,he.size,fun o m hm=>hcutms o m (by rw [← hi0.len];exact (e0y.1 hm).1) (he.ms o m hm),fun b hb=>⟨⟨(he.fz b hb).1.1,fun hh=>(he.fz b hb).1.2 hh.1⟩,(he.fz b hb).2⟩⟩,
  fun b hb=>⟨⟨(he.lim b hb).1.1,⟨(he.lim b hb).1.2.1,.inr (he.lim b hb).1.2.2⟩,fun o m hm=>(he.lim b hb).1.2.2 o m (hmg hm)⟩,(he.lim b hb).2⟩⟩
 have hget:∀ {o:Nat} {ob:Ob},(h2.take h0.length)[o]?=some ob→o<h0.length∧h2[o]?=some ob:=fun {o ob} ho=>by
  rw [List.getElem?_take] at ho
  split at ho
  ·rename_i hlt;exact ⟨hlt,ho⟩
  ·cases ho
 refine ⟨g',rfl,he',⟨?_,fun o T sz rows ho=>?_,fun o o' T sz T' sz' rows rows' m m' h1 h2' h3 h4 h5=>?_,fun b hb=>?_,fun o m hm=>hi2.msb o m (hmg hm)⟩,Rep.cut (g:=g1) (g':=g') rfl (n:=h0.length) (fun o m ho hm=>hcutms o m ho hm) (fun b hb=>hb) hrep1 hc.1⟩
 ·show (g2.ms.take h0.length).length=(h2.take h0.length).length
  simp [hi2.len]
 ·obtain ⟨hlt,ho⟩:=hget ho
  obtain ⟨m,cs,hm,hl⟩:=hi2.live o T sz rows ho
  refine ⟨m,cs,hcutms o m hlt hm,hl.blk,hl.hsz,hl.pos,⟨hl.hL,.inl ⟨o,m,hlt,hm,rfl,T,sz,rows,ho⟩⟩,hl.len,hl.le,hl.room,hl.row,fun i row hrow j d hd=>?_⟩
  obtain ⟨v,h4,h5,h6⟩:=hl.cell i row hrow j d hd
  refine ⟨v,h4,h5,hcut2 h6 ?_⟩
  rcases hc.2 o T sz rows hlt ho with hsame | hok
  ·obtain ⟨m0,cs0,hm0,hl0⟩:=hi0.live o T sz rows hsame
   obtain ⟨v0,_,_,k3⟩:=hl0.cell i row hrow j d hd
   have:=k3.okd
   rwa [hi0.len] at this
  ·exact hok row (e0w hrow) d (e0w hd)
 ·exact hi2.inj o o' T sz T' sz' rows rows' m m' (hget h1).2 (hget h2').2 (hmg h3) (hmg h4) h5
 ·exact hi2.L b hb.1
structure FnI where
 body:Code
 res:List ResultVar
 A:Ann
 sc:Bool
def b1H (X:Cx) (h:Hp) (e:DE):List ResultVar→Option (List D)
 | []=>some []
 | .tmp t::r=>(lkD e t).bind fun d=>(b1H X h e r).bind fun ds=>some (d::ds)
 | .cell t ty::r=>(lkD e t).bind fun p=>(a0c X.T h ty p).bind fun d=>(b1H X h e r).bind fun ds=>some (d::ds)
def a0f:List D→D
 | [d]=>d
 | ds => .tup ds
noncomputable def fnK (X:Cx) (call:a1y) (loop:a7A) (fi:FnI) (args:List D) (h:Hp):Option (D × Hp) :=
 (match Nat.ble args.length fi.A.nt with
 | true=>cK X call loop fi.A fi.body (b1Q (List.range args.length) args []) h (D × Hp) fun x e' h'=>a1c x ((b1H X h' e' fi.res).bind fun ds=>match fi.sc with
   | true=>scope h h' (a0f ds)
   | false=>some (a0f ds,h'))
 | false=>none)
structure FnOK (P:Program) (f:FuncId) (fi:FnI):Prop where
 body:∃ fn,P.funcs[f]?=some fn∧fn.body=some fi.body∧fn.ntmps=fi.A.nt∧fn.results.toList=fi.res
 enter:∀ (as:Array Value) (w:World),(callFunc f as).run P w = .ok (.enter f as) w
theorem b9h (hT:TabOK P X.T) {g:Gh} {h:Hp} (hi:Inv g h) {nt:Nat} {e:DE} {a:Act} (hs:SatD nt g e a):∀ (rs:List ResultVar) (ds:List D),b1H X h e rs=some ds→∃ vs,(rs.mapM (c1w a.tmps)).run P g.w = .ok vs g.w∧RepL g vs ds
 | [],ds,hd=>by
  simp only [b1H,Option.some.injEq] at hd
  subst hd
  exact ⟨[],by simp,.nil⟩
 | .tmp t::r,ds,hd=>by
  simp only [b1H] at hd
  obtain ⟨d,h1,hd⟩:=e0J.1 hd
  obtain ⟨ds',h2,hd⟩:=e0J.1 hd
  injection hd with hd
  subst hd
  obtain ⟨vs,hr,hrl⟩:=b9h hT hi hs r ds' h2
  have hg:=hs.get t d h1
  exact ⟨a.tmps.getD t undef::vs,by simp [c1w,hr],.cons hg hrl⟩
 | .cell t ty::r,ds,hd=>by
  simp only [b1H] at hd
  obtain ⟨p,h1,hd⟩:=e0J.1 hd
  obtain ⟨d,h3,hd⟩:=e0J.1 hd
  obtain ⟨ds',h2,hd⟩:=e0J.1 hd
  injection hd with hd
  subst hd
  obtain ⟨vs,hr,hrl⟩:=b9h hT hi hs r ds' h2
  have hg:=hs.get t p h1
  obtain ⟨u,hu,hru⟩:=b3N hT hi hg h3
  have hptr:∃ ad,a.tmps.getD t undef = .pointer (some ad):=by
   unfold a0c at h3
   split at h3
   ·split at h3
    ·obtain ⟨b,o,vs,hv,_⟩:=hg.fptr_inv;exact ⟨_,hv⟩
    ·generalize hv:a.tmps.getD t undef=v at hg
     cases hg;exact ⟨_,rfl⟩
    ·cases h3
   ·cases h3
  obtain ⟨ad,had⟩:=hptr
  rw [had] at hu
  have hu':(loadVar ty ad).run P g.w = .ok u g.w:=by simpa [Instr.loadAt,Instr.sureAddr] using hu
  have had':a.tmps[t]?.getD undef = .pointer (some ad):=by rw [← had,Array.getD_eq_getD_getElem?]
  exact ⟨u::vs,by simp [c1w,had',asAddr,hu',hr],.cons hru hrl⟩
theorem a8W (hT:TabOK P X.T) {g:Gh} {h:Hp} (hi:Inv g h) {nt:Nat} {e:DE} {a:Act} (hs:SatD nt g e a) {fn:Func} {ds:List D} (hd:b1H X h e fn.results.toList=some ds):∃ v,(results fn a.tmps).run P g.w = .ok v g.w∧Rep g v (a0f ds):=by
 obtain ⟨vs,hr,hrl⟩:=b9h hT hi hs _ _ hd
 obtain ⟨rs,hrs⟩:∃ rs,fn.results.toList=rs:=⟨_,rfl⟩
 have hA:fn.results=rs.toArray:=by rw [← hrs]
 rw [hrs] at hr
 refine ⟨if hh:vs.toArray.size=1 then vs.toArray[0] else .tuple vs.toArray,?_,?_⟩
 ·rw [b5P,hA,List.mapM_toArray]
  simp only [Sem.run_bind,Sem.run_map,hr,Result.andThen_ok,Sem.run_pure]
 ·have hl:=hrl.length
  cases hrl with
  | nil =>
   rw [dif_neg (by simp)]
   exact .mk_tup .nil
  | cons h1 r =>
   cases r with
   | nil=>simpa [a0f] using h1
   | cons h2 r =>
    rw [dif_neg (by simp)]
    exact .mk_tup (.cons h1 (.cons h2 r))
theorem c8f (hT:TabOK P X.T) (hm:P.follows .mixedOrders=true) {call:a1y} (hc:a2B P X call) {loop:a7A} (hlp:b6c loop) {f:FuncId} {fi:FnI} (hf:FnOK P f fi) {args:List D} {h h':Hp} {d:D} (hd:fnK X call loop fi args h=some (d,h'))
  {g:Gh} {vs:List Value} (hi:Inv g h) (hgl:GlOK g X.gl) (hr:RepL g vs args):CallsV P f vs.toArray g.w fun v w'=>∃ g',g'.w=w'∧Ext g g'∧Inv g' h'∧Rep g' v d:=by
 obtain ⟨fn,hfn,hb,hnt,hres⟩:=hf.body
 unfold fnK at hd
 split at hd
 case h_2=>cases hd
 rename_i hle
 have hle:=Nat.le_of_ble_eq_true hle
 have hvl:=hr.length
 refine calls_of_wp hfn hb (d0S hT hm hc hlp fi.body _ h _ _ (d,h') hd _ g _ hi hgl ⟨by simp [hnt];omega,rfl,fun t x hx=>?_⟩ fun x e' h2 g2 a2 hk hp he hi2 hs2=>?_)
 ·
  have key:∀ (ts:List Nat) (ds:List D),ts.length=ds.length→lkD (b1Q ts ds []) t=some x→∃ i:Nat,ts[i]?=some t∧ds[i]?=some x:=by
   intro ts
   induction ts with
   | nil=>intro ds _ h;cases h
   | cons u r ih =>
    intro ds hl h
    cases ds with
    | nil=>cases hl
    | cons d ds =>
     simp only [b1Q,hdD,tlD] at h
     rw [a2e] at h
     split at h
     ·rename_i hut
      injection h with h
      exact ⟨0,by simp [hut],by simp [h]⟩
     ·obtain ⟨i,h1,h2⟩:=ih ds (by simpa using hl) h
      exact ⟨i+1,by simpa using h1,by simpa using h2⟩
  obtain ⟨i,h1,h2⟩:=key _ _ (by simp) hx
  have hit:i=t:=by
   have:=(e0y.1 h1).2
   simpa using this
  subst hit
  have hlt:=(e0y.1 h2).1
  have hg:vs[i]?=some (vs[i]'(by omega)):=e0x (by omega)
  have:(vs.toArray++Array.replicate (fn.ntmps - vs.toArray.size) undef).getD i undef=vs[i]'(by omega):=by
   rw [Array.getD_eq_getD_getElem?,Array.getElem?_append_left (by simp;omega)]
   simp [hg]
  rw [this]
  exact hr.get i _ x hg h2
 ·have fin:(match fi.sc with | true=>(b1H X h2 e' fi.res).bind fun ds=>scope h h2 (a0f ds) | false=>(b1H X h2 e' fi.res).bind fun ds=>some (a0f ds,h2))=some (d,h')→a2.defers=[]∧∃ v,(results fn a2.tmps).run P g2.w = .ok v g2.w∧∃ u,Ending.returned v = .returned u∧∃ g',g'.w=g2.w∧Ext g g'∧Inv g' h'∧Rep g' u d:=fun hh=>by
    refine ⟨hs2.defers,?_⟩
    split at hh
    ·obtain ⟨ds,hds,hh⟩:=e0J.1 hh
     rw [← hres] at hds
     obtain ⟨v,hv,hrep⟩:=a8W hT hi2 hs2 hds
     obtain ⟨g',hw,he',hi',hrep'⟩:=c1B hi he hi2 hrep hh
     exact ⟨v,hv,v,rfl,g',hw,he',hi',hrep'⟩
    ·obtain ⟨ds,hds,hh⟩:=e0J.1 hh
     rw [← hres] at hds
     obtain ⟨v,hv,hrep⟩:=a8W hT hi2 hs2 hds
     injection hh with hh
     injection hh with q1 q2
     subst q1;subst q2
     exact ⟨v,hv,v,rfl,g2,rfl,he,hi2,hrep⟩
  have push:(match fi.sc with | true=>(b1H X h2 e' fi.res).bind fun ds=>scope h h2 (a0f ds) | false=>(b1H X h2 e' fi.res).bind fun ds=>some (a0f ds,h2))=(b1H X h2 e' fi.res).bind fun ds=>match fi.sc with | true=>scope h h2 (a0f ds) | false=>some (a0f ds,h2):=by
   cases fi.sc <;> rfl
  cases x with
  | ext i=>cases hk
  | nrm=>exact fin (by rw [push];exact hk)
  | ret=>exact fin (by rw [push];exact hk)
end
end Go.Pi
