/- Comparison, parts of slices, structs and slices written out, new memory that is never written a3H. No program is named here. -/
import Derived.Test.YtkpnnfhodlanjaaGreatDoorPiD
set_option linter.unusedSimpArgs false
set_option linter.unusedVariables false
set_option linter.unnecessarySimpa false
namespace Go.Pi
open Go.Eng
section ops
variable {P:Program} {T:Tab} {g:Gh} {ρ:Operand→Value} {dst:Option Tmp} {ty:TypeId} {pos:String} {af:Array Edge} {gd:Option (Nat × Bool)}
theorem b1r (hT:TabOK P T) {vx vy:List Value} {xs ys:List D} (hx:RepL g vx xs) (hy:RepL g vy ys):∀ (fs:List Field) (q:Bool),(∀ f∈fs,f.name ≠ "_" ∧ (P.info? f.type).isSome=true) →
  b9p T xs ys (fs.map fun f=>(f.type,f.offset,P.cellsOf f.type))=some q→∃ rs,c1x P vx vy fs rs∧rs.all id=q
 | [],q,_,h=>by
  simp [b9p] at h
  exact ⟨[],trivial,by simp [h]⟩
 | f::fs,q,hn,h=>by
  simp only [c8V,b9p] at h
  split at h
  ·rename_i q' i hq hi
   obtain ⟨rs,hrs,hall⟩:=b1r hT hx hy fs q' (fun f hf=>hn f (List.mem_cons_of_mem _ hf)) hq
   have hname:("_" == f.name)=false:=by
    have:=(hn f (List.mem_cons_self ..)).1
    simpa using fun hh=>this hh.symm
   have one:i.isAgg=false→One P f.type:=fun ha w=>by rw [hT.aggs hi w,ha]
   have getv:∀ {d:D},xs[f.offset]?=some d→∃ v,vx[f.offset]?=some v∧Rep g v d:=fun {d} hd=>by
    have hl:=hx.length
    have hlt:=(c9d.1 hd).1
    have hg:vx[f.offset]?=some vx[f.offset]:=c9c (by omega)
    exact ⟨_,hg,hx.get _ _ _ hg hd⟩
   have getu:∀ {d:D},ys[f.offset]?=some d→∃ v,vy[f.offset]?=some v∧Rep g v d:=fun {d} hd=>by
    have hl:=hy.length
    have hlt:=(c9d.1 hd).1
    have hg:vy[f.offset]?=some vy[f.offset]:=c9c (by omega)
    exact ⟨_,hg,hy.get _ _ _ hg hd⟩
   split at h
   ·rename_i a b htd hxa hyb
    obtain ⟨v,hv,hrv⟩:=getv hxa
    obtain ⟨u,hu,hru⟩:=getu hyb
    cases hrv;cases hru
    injection h with h
    exact ⟨(a==b)::rs,⟨hname,one (by simp [TI.isAgg,htd]),⟨_,_,hv,hu,EqT.bool (hT.bool hi htd)⟩,hrs⟩,by simp [hall,h]⟩
   ·rename_i kk k a k' b htd hxa hyb
    obtain ⟨v,hv,hrv⟩:=getv hxa
    obtain ⟨u,hu,hru⟩:=getu hyb
    cases hrv;cases hru
    split at h
    ·rename_i hk
     subst hk
     injection h with h
     exact ⟨(a==b)::rs,⟨hname,one (by simp [TI.isAgg,htd]),⟨_,_,hv,hu,EqT.int (hT.int hi htd)⟩,hrs⟩,by simp [hall,h]⟩
    ·cases h
   ·rename_i a b htd hxa hyb
    obtain ⟨v,hv,hrv⟩:=getv hxa
    obtain ⟨u,hu,hru⟩:=getu hyb
    cases hrv;cases hru
    injection h with h
    refine ⟨(a==b)::rs,⟨hname,one (by simp [TI.isAgg,htd]),⟨_,_,hv,hu,?_⟩,hrs⟩,by simp [hall,h]⟩
    have:=EqT.str (a:=⟨a.toArray⟩) (b:=⟨b.toArray⟩) (hT.str hi htd)
    simpa [a5Q] using this
   ·cases h
  ·cases h
theorem b7U {t:TypeId} {v u:Value} {w:World} {b:Bool} (h:∀ d,(Op.equalIn (d+1) t v u).run P w = .ok b w):(Op.equal t v u).run P w = .ok b w:=h 9999
theorem b1m (hT:TabOK P T) {op:BinOp} {tx ty':TypeId} {x y:Operand} {dx dy:D} {b:Bool} (hx:Rep g (ρ x) dx) (hy:Rep g (ρ y) dy) (h:b7S T tx dx dy=some b) (ho:op = .eql∨op = .neq) :
  DoesV P ρ ⟨dst,.binOp op tx x y ty',ty,pos,af,gd⟩ g (.bool (if op = .eql then b else !b)):=by
 have key:∀ v u,ρ x=v→ρ y=u→(eqGuard op tx x y v u).run P g.w = .ok () g.w→(Op.equal tx v u).run P g.w = .ok b g.w→(binOp .eql tx v u=(do let q ← Op.equal tx v u;pure (.bool q):Sem Value))→(binOp .neq tx v u=(do let q ← Op.equal tx v u;pure (.bool (!q)):Sem Value)) →
   DoesV P ρ ⟨dst,.binOp op tx x y ty',ty,pos,af,gd⟩ g (.bool (if op = .eql then b else !b)):=fun v u hv hu hg he h1 h2=>by
  rcases ho with rfl | rfl
  ·exact ⟨.bool b,by simp [execOp,hv,hu,hg,h1,he],by simpa using Rep.bool b⟩
  ·exact ⟨.bool (!b),by simp [execOp,hv,hu,hg,h2,he],by simpa using Rep.bool (!b)⟩
 unfold b7S at h
 split at h
 ·rename_i i hi
  split at h
  ·rename_i a c htd
   injection h with h;subst h
   generalize hv:ρ x=v at hx
   generalize hu:ρ y=u at hy
   cases hx;cases hy
   exact key _ _ hv hu (by rcases ho with rfl | rfl <;> simp [eqGuard]) (run_equal_bool g.w tx a c (hT.bool hi htd)) (by simp [binOp]) (by simp [binOp])
  ·rename_i fs xs ys htd
   obtain ⟨fields,hun,rfl,hnames,hst,heg⟩:=hT.st hi htd
   obtain ⟨vx,hvx,hrx,_⟩:=hx.agg_inv
   obtain ⟨vy,hvy,hry,_⟩:=hy.agg_inv
   obtain ⟨rs,hrs,hall⟩:=b1r hT hrx hry fields.toList b hnames h
   refine key _ _ hvx hvy (run_eqGuard_agg g.w op tx x y _ _ heg) ?_ (by simp [binOp]) (by simp [binOp])
   have:=a8b (w:=g.w) hun hst hrs
   rw [hall] at this
   exact this
  all_goals first
   | (rename_i htd
      injection h with h;subst h
      generalize hv:ρ x=v at hx
      generalize hu:ρ y=u at hy
      cases hx;cases hy
      refine key _ _ hv hu (by rcases ho with rfl | rfl <;> simp [eqGuard]) ?_ (by simp [binOp]) (by simp [binOp])
      first
       | (have hun:=hT.ptr hi htd;exact b7U fun d=>by simp [Op.equalIn,run_underlying hun])
       | (have hun:=hT.sl hi htd;exact b7U fun d=>by simp [Op.equalIn,run_underlying hun])
       | (obtain ⟨_,_,_,hun⟩:=hT.fn hi htd;exact b7U fun d=>by simp [Op.equalIn,run_underlying hun]))
   | (cases h;done)
   | (rename_i e htd
      injection h with h;subst h
      generalize hv:ρ x=v at hx
      generalize hu:ρ y=u at hy
      cases hx;cases hy
      refine key _ _ hv hu (by rcases ho with rfl | rfl <;> simp [eqGuard]) ?_ (by simp [binOp]) (by simp [binOp])
      first
       | (have hun:=hT.ptr hi htd;exact b7U fun d=>by simp [Op.equalIn,run_underlying hun])
       | (have hun:=hT.sl hi htd;exact b7U fun d=>by simp [Op.equalIn,run_underlying hun])
       | (obtain ⟨_,_,_,hun⟩:=hT.fn hi htd;exact b7U fun d=>by simp [Op.equalIn,run_underlying hun]))
 ·cases h
end ops
end Go.Pi
