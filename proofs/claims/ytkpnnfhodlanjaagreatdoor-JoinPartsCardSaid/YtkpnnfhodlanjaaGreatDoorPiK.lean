/- Operations that turn live objects: stores, new variables, slices. No program is named here. -/
import Derived.Test.YtkpnnfhodlanjaaGreatDoorPiJ
set_option linter.unusedSimpArgs false
set_option linter.unusedVariables false
set_option linter.unnecessarySimpa false
namespace Go.Pi
open Go.Eng
theorem a2T {sz:Nat}:∀ (rows:List (List D)) (n:Nat),(∀ r∈rows,r.length=sz)→(rows.take n).flatten=rows.flatten.take (n*sz)
 | [],n,_=>by simp
 | r::rows,0,_=>by simp
 | r::rows,n+1,h=>by
  have hr:=h r (List.mem_cons_self ..)
  have ih:=a2T rows n fun r hr=>h r (List.mem_cons_of_mem _ hr)
  have e:(n+1)*sz=sz+n*sz:=by rw [Nat.add_mul];omega
  rw [List.take_succ_cons,List.flatten_cons,List.flatten_cons,ih,e,List.take_append,List.take_of_length_le (l:=r) (by omega),hr]
  congr 2
  omega
theorem a3N {sz:Nat}:∀ (rows:List (List D)) (n:Nat),(∀ r∈rows,r.length=sz)→(rows.drop n).flatten=rows.flatten.drop (n*sz)
 | [],n,_=>by simp
 | r::rows,0,_=>by simp
 | r::rows,n+1,h=>by
  have hr:=h r (List.mem_cons_self ..)
  have ih:=a3N rows n fun r hr=>h r (List.mem_cons_of_mem _ hr)
  have e:(n+1)*sz=sz+n*sz:=by rw [Nat.add_mul];omega
  rw [List.drop_succ_cons,List.flatten_cons,ih,e,List.drop_append,List.drop_of_length_le (l:=r) (by omega),hr]
  simp
theorem b4j {sz:Nat} {rows:List (List D)} {k off:Nat} {row ds:List D} (hs:∀ r∈rows,r.length=sz) (hk:rows[k]?=some row) (hle:off+ds.length≤sz):(rows.set k (spl row off ds)).flatten=spl rows.flatten (k*sz+off) ds:=by
 have hlt:=(c9d.1 hk).1
 have hrow:=(c9d.1 hk).2
 have hrl:row.length=sz:=hs row (c9b hk)
 have hsplit:rows.flatten=(rows.take k).flatten++row++(rows.drop (k+1)).flatten:=by
  have:rows=rows.take k++row::rows.drop (k+1):=by
   rw [← hrow];simp
  conv=>lhs;rw [this]
  simp
 have htl:(rows.take k).flatten.length=k*sz:=by
  rw [a1H _ fun r hr=>hs r (List.mem_of_mem_take hr),c9h,Nat.min_eq_left (by omega)]
 rw [List.set_eq_take_append_cons_drop,if_pos hlt,List.flatten_append,List.flatten_cons,hsplit]
 unfold spl
 generalize (rows.take k).flatten=A at htl
 generalize (rows.drop (k+1)).flatten=B
 rw [List.append_assoc A row B,List.take_append,List.drop_append,htl]
 rw [List.take_of_length_le (l:=A) (by omega),List.drop_of_length_le (l:=A) (by omega)]
 rw [show k*sz+off - k*sz=off from by omega,show k*sz+off+ds.length - k*sz=off+ds.length from by omega]
 rw [List.take_append,List.drop_append]
 rw [show off - row.length=0 from by omega,show off+ds.length - row.length=0 from by omega]
 simp
section wr
variable {P:Program} {T:Tab} {g:Gh} {h:Hp}
theorem a1k {vs:List Value} {rows:List (List D)} {sz:Nat} {cs:Array Value} (hr:RepL g vs rows.flatten) (h1:∀ v∈vs,v.oneCell'=true) (hrow:∀ r∈rows,r.length=sz) (hpre:∀ (j:Nat) (v:Value),vs[j]?=some v→cs[j]?=some v) :
  ∀ (i:Nat) (row:List D),rows[i]?=some row→∀ (j:Nat) (d:D),row[j]?=some d→∃ v,cs[i*sz+j]?=some v∧v.oneCell'=true∧Rep g v d:=fun i row hi j d hd=>by
 have hf:=a6F rows i j row d hrow hi hd
 have hl:=hr.length
 have hlt:=(c9d.1 hf).1
 have hg:vs[i*sz+j]?=some (vs[i*sz+j]'(by omega)):=c9c (by omega)
 exact ⟨_,hpre _ _ hg,h1 _ (c9b hg),hr.get _ _ d hg hf⟩
theorem Live.flat {m:Me} {U sz:Nat} {rows:List (List D)} {cs:Array Value} (hl:Live g m U sz rows cs):∃ vs,RepL g vs rows.flatten∧(∀ v∈vs,v.oneCell'=true)∧(∀ (j:Nat) (v:Value),vs[j]?=some v→cs[j]?=some v):=by
 obtain ⟨fr,hb,_⟩:=hl.blk
 have hcell:∀ i,g.w.cell? ⟨m.b,i,none⟩=cs[i]?:=fun i=>by simp only [World.cell?,hb];simp
 obtain ⟨vs,hat⟩:=At.rows (g:=g) (b:=m.b) rows 0 hl.row (fun i row hi=>by
  obtain ⟨vs,h⟩:=hl.at hi
  exact ⟨vs,by rwa [Nat.zero_add]⟩)
 exact ⟨vs,hat.2.2,hat.2.1,fun j v hj=>by
  have:=hat.1 j v hj
  rwa [Nat.zero_add,hcell] at this⟩
theorem a3n (hi:Inv g h) {w':World} {o U sz:Nat} {rows rows':List (List D)} {m:Me} {cs:Array Value} {fr:Nat × Nat} (ho:h[o]?=some (.row U sz rows)) (hm:g.ms[o]?=some m) (hl:Live g m U sz rows cs) (hfr:Fr fr cs.size sz)
  {p:Nat} {vs:List Value} {ds:List D} (hr:RepL g vs ds) (h1:∀ v∈vs,v.oneCell'=true) (hp:p+ds.length≤rows.flatten.length) (hfl:rows'.flatten=spl rows.flatten p ds) (hlen:rows'.length=rows.length) (hrow:∀ r∈rows',r.length=sz)
  (hs:Set1 g.w w' m.b (.cells (cs.toList.take p++vs++cs.toList.drop (p+vs.length)).toArray U fr)) :
  ∃ g':Gh,g'.w=w'∧Ext g g'∧Inv g' (h.set o (.row U sz rows'))∧g'.ms=g.ms:=by
 obtain ⟨old,ho1,ho2,ho3⟩:=hl.flat
 have hol:=ho1.length
 have hvl:=hr.length
 have hcl:rows.flatten.length≤cs.size:=by
  have h1:=a1H rows hl.row
  have h2:=hl.room
  have h3:=hl.len
  have h4:=hl.le
  have h5:rows.length*sz≤m.cap*sz:=Nat.mul_le_mul_right _ (by omega)
  omega
 have hsz:(cs.toList.take p++vs++cs.toList.drop (p+vs.length)).toArray.size=cs.size:=by
  simp;omega
 refine a8c hi ho hm hl hs (by rw [hsz];exact hfr) hsz hlen hrow ?_
 have hnew:=b3e ho1 hr p
 rw [← hfl] at hnew
 refine a1k hnew (fun v hv=>?_) hrow fun j v hj=>?_
 ·simp only [c9j] at hv
  rcases hv with (hv | hv) | hv
  ·exact ho2 v (List.mem_of_mem_take hv)
  ·exact h1 v hv
  ·exact ho2 v (List.mem_of_mem_drop hv)
 ·simp only [List.append_assoc] at hj ⊢
  rw [List.getElem?_append] at hj
  rw [List.getElem?_toArray,List.getElem?_append]
  have e1:(old.take p).length=p:=by simp;omega
  have e2:(cs.toList.take p).length=p:=by simp;omega
  rw [e1] at hj
  rw [e2]
  split at hj
  ·rename_i hjp
   rw [if_pos hjp]
   rw [List.getElem?_take,if_pos hjp] at hj ⊢
   have:=ho3 j v hj
   simpa using this
  ·rename_i hjp
   rw [if_neg hjp]
   rw [List.getElem?_append] at hj ⊢
   split at hj
   ·rename_i hjv;rw [if_pos hjv];exact hj
   ·rename_i hjv
    rw [if_neg hjv]
    rw [List.getElem?_drop] at hj ⊢
    have:=ho3 _ v hj
    simpa using this
def a5o (P:Program) (ρ:Operand→Value) (o:Oper) (g:Gh) (h':Hp) (d:D):Prop:=∃ nx w' g',(execOp ρ o).run P g.w = .ok nx w'∧g'.w=w'∧Ext g g'∧Inv g' h'∧((∃ v,nx = .value v∧Rep g' v d)∨(nx = .skip∧d = .und))
variable {ρ:Operand→Value} {dst:Option Tmp} {ty:TypeId} {pos:String} {af:Array Edge} {gd:Option (Nat × Bool)}
theorem b0u (hT:TabOK P T) (hi:Inv g h) {t:TypeId} {x y:Operand} {dx dy:D} {h':Hp} (hx:Rep g (ρ x) dx) (hy:Rep g (ρ y) dy) (hd:a0p T h t dx dy=some h'):a5o P ρ ⟨dst,.store t x y,ty,pos,af,gd⟩ g h' .und:=by
 unfold a0p at hd
 split at hd
 ·rename_i i o k off ht
  split at hd
  ·rename_i U sz rows ho
   split at hd
   ·rename_i row hrow
    split at hd
    ·rename_i hc
     injection hd with hd
     subst hd
     simp only [Bool.and_eq_true] at hc
     obtain ⟨⟨hc1,hc2⟩,hc3⟩:=hc
     have hc1:=Nat.eq_of_beq_eq_true hc1
     have hc2:=Nat.le_of_ble_eq_true hc2
     obtain ⟨vs,hvs,hvr,hv1⟩:=hy.cells hc3
     have hvl:=hvr.length
     generalize hv:ρ x=v at hx
     cases hx with
     | ptr o k off m hm =>
      obtain ⟨m',cs,hm',hl⟩:=hi.live o U sz rows ho
      rw [hm] at hm'
      injection hm' with hm'
      subst hm'
      obtain ⟨fr,hb,hfr⟩:=hl.blk
      have hrl:=hl.row row (c9b hrow)
      have hfs:=b4j hl.row hrow (off:=off) (ds:=a0A dy) (by omega)
      have hkl:=(c9d.1 hrow).1
      have hflen:=a1H rows hl.row
      have hp:k*sz+off+(a0A dy).length≤rows.flatten.length:=by
       rw [hflen]
       have:(k+1)*sz≤rows.length*sz:=Nat.mul_le_mul_right _ (by omega)
       rw [Nat.add_mul] at this
       omega
      have hroom:rows.flatten.length≤cs.size:=by
       have h2:=hl.room
       have h3:=hl.len
       have h4:=hl.le
       have h5:rows.length*sz≤m.cap*sz:=Nat.mul_le_mul_right _ (by omega)
       omega
      obtain ⟨w',hrun,hs⟩:=a1p (P:=P) (i:=k*sz+off) vs g.w cs.toList 0 (T:=U) (fr:=fr) (b:=m.b) (by simpa using hb) (by simpa using hfr.weak) (by simp;omega) hv1
      simp only [Nat.add_zero] at hs
      obtain ⟨g',hw,he,hinv,hms⟩:=a3n hi ho hm hl hfr hvr hv1 hp hfs (by simp) (fun r hr=>by
       rcases List.mem_or_eq_of_mem_set hr with hr | rfl
       ·exact hl.row r hr
       ·simp [spl];omega) hs
      refine ⟨.skip,w',g',?_,hw,he,hinv,.inr ⟨rfl,rfl⟩⟩
      have hlen:vs.length=i.sz:=by omega
      have hms':=hl.hsz
      subst hms'
      simp [execOp,Instr.storeAt,Instr.sureAddr,storeVar,hv,hvs,hT.size ht,hlen,hrun]
    ·cases hd
   ·cases hd
  ·cases hd
 ·cases hd
theorem a4N (hT:TabOK P T) (hi:Inv g h) {e:TypeId} {i:TI} (ht:T e=some i) (hpos:0<i.sz):a5o P ρ ⟨dst,.alloc e,ty,pos,af,gd⟩ g (a1h h e i.sz [i.zero]) (.ptr h.length 0 0):=by
 obtain ⟨z,hz,hzz,hzs,h1⟩:=hT.zrun ht
 have hr:=a1x g z.cells.toList
 rw [← hzz] at hr
 have hzl:=hT.zlen ht
 obtain ⟨g',hw,he,hinv,hm⟩:=a2C hi (w':=g.w.alloc (.cells z.cells e)) (U:=e) (sz:=i.sz) (cap:=1) (rows:=[i.zero]) (cs:=z.cells) (fr:=(0,0)) rfl rfl rfl rfl (.inl rfl) hpos (by simp) (by omega) (by simpa using hzl)
  (a1k (vs:=z.cells.toList) (by simpa using hr) h1 (by simpa using hzl) (by simp))
 refine ⟨_,_,g',by simp only [execOp,Instr.alloc,Sem.run_bind,hz g.w,Result.andThen_ok,newVar,newRow,run_newObj,Sem.run_pure];rfl,hw,he,hinv,.inl ⟨_,rfl,?_⟩⟩
 have:=Rep.ptr (g:=g') h.length 0 0 _ hm
 simpa using this
theorem a6B (hT:TabOK P T) (hi:Inv g h) {e:TypeId} {x:Operand} {dx:D} {sz:Nat} (hx:Rep g (ρ x) dx) (hk:dx.okv=true) (hl:(a0A dx).length=sz) (hpos:0<sz):a5o P ρ ⟨dst,.box e x,ty,pos,af,gd⟩ g (a1h h e sz [a0A dx]) (.ptr h.length 0 0):=by
 obtain ⟨vs,hv,hr,h1⟩:=hx.cells hk
 have hvl:=hr.length
 obtain ⟨g',hw,he,hinv,hm⟩:=a2C hi (w':=g.w.alloc (.cells vs.toArray e)) (U:=e) (sz:=sz) (cap:=1) (rows:=[a0A dx]) (cs:=vs.toArray) (fr:=(0,0)) rfl rfl rfl rfl (.inl rfl) hpos (by simp) (by simp;omega) (by simpa using hl)
  (a1k (vs:=vs) (by simpa using hr) h1 (by simpa using hl) (by simp))
 refine ⟨_,_,g',by simp only [execOp,Instr.box,Sem.run_bind,newVar,newRow,run_newObj,Result.andThen_ok,Sem.run_pure,hv];rfl,hw,he,hinv,.inl ⟨_,rfl,?_⟩⟩
 have:=Rep.ptr (g:=g') h.length 0 0 _ hm
 simpa using this
theorem a6C (hT:TabOK P T) (hi:Inv g h) {t n:Nat} {ps:Array (Nat × Operand)} {ds:List D} {E sz:Nat} {rows:List (List D)} (hr:RepL g (ps.toList.map fun x=>ρ x.2) ds) (hd:a2d T t n (ps.toList.map (·.1)) ds=some (E,sz,rows)) :
  a5o P ρ ⟨dst,.buildSlice t n ps,ty,pos,af,gd⟩ g (a1h h E sz rows) (.msl sz h.length 0 rows.length):=by
 obtain ⟨vs,hrun,hrv,h1,hn,hrow,hpos,hsm⟩:=b2S (dst:=dst) (ty:=ty) (pos:=pos) (af:=af) (gd:=gd) hT hr hd
 have hvl:=hrv.length
 have hfl:=a1H rows hrow
 obtain ⟨g',hw,he,hinv,hm⟩:=a2C hi (w':=g.w.alloc (.cells vs.toArray E)) (U:=E) (sz:=sz) (cap:=rows.length) (rows:=rows) (cs:=vs.toArray) (fr:=(0,0)) rfl rfl rfl rfl (.inl rfl) hpos (Nat.le_refl _) (by simp;omega) hrow
  (a1k (vs:=vs) hrv h1 hrow (by simp))
 have hnn:n≤n*sz:=Nat.le_mul_of_pos_right n hpos
 refine ⟨_,_,g',hrun,hw,he,hinv,.inl ⟨_,rfl,?_⟩⟩
 have:=Rep.msl (g:=g') h.length 0 rows.length rows.length _ hm (by simp) (by simp) (by simp) (by omega)
 rw [hn] at this ⊢
 simpa using this
theorem a3b {z:List Value} {sz:Nat} (hz:z.length=sz) (n:Nat):((Array.range (n*sz)).map (z.toArray[· % z.toArray.size]!)).toList=(List.replicate n z).flatten:=by
 apply List.ext_getElem?
 intro p
 rcases Nat.lt_or_ge p (n*sz) with hp | hp
 ·have hsz:0<sz:=by
    rcases Nat.eq_zero_or_pos sz with h | h
    ·subst h;simp at hp
    ·exact h
  have hm:p % sz<sz:=Nat.mod_lt _ hsz
  have hdiv:p / sz<n:=Nat.div_lt_of_lt_mul (by rw [Nat.mul_comm];exact hp)
  have hpe:p=p / sz*sz+p % sz:=by rw [Nat.mul_comm];exact (Nat.div_add_mod p sz).symm
  have key:∀ (n k j:Nat),k<n→j<sz→((List.replicate n z).flatten)[k*sz+j]?=z[j]?:=by
   intro n
   induction n with
   | zero=>intro k j hk;omega
   | succ n ih =>
    intro k j hk hj
    rw [List.replicate_succ,List.flatten_cons]
    cases k with
    | zero=>rw [Nat.zero_mul,Nat.zero_add,c9l (by omega)]
    | succ k =>
     rw [List.getElem?_append_right (by rw [Nat.add_mul];omega),← ih k j (by omega) hj]
     congr 1
     rw [Nat.add_mul];omega
  have h1:=key n (p / sz) (p % sz) hdiv hm
  rw [← hpe] at h1
  rw [h1]
  simp [hp,hz,c9c (show p % sz<z.length by omega)]
 ·rw [List.getElem?_eq_none (by simp;omega),List.getElem?_eq_none]
  simp [hz];omega
theorem a3y {z:List Value} {sz:Nat} (hz:z.length=sz) (n:Nat):(Builtin.zeroCells z.toArray n).toList=(List.replicate n z).flatten:=by
 rw [← a3b hz n]
 simp [Builtin.zeroCells,hz]
theorem a1N {z:List Value} {ds:List D} (hr:RepL g z ds):∀ n,RepL g (List.replicate n z).flatten (List.replicate n ds).flatten
 | 0=>by simpa using RepL.nil
 | n+1=>by
  rw [List.replicate_succ,List.replicate_succ,List.flatten_cons,List.flatten_cons]
  exact hr.append (a1N hr n)
theorem b1n (hT:TabOK P T) (hi:Inv g h) {t:TypeId} {x y:Operand} {dx dy d:D} {h':Hp} (hx:Rep g (ρ x) dx) (hy:Rep g (ρ y) dy) (hd:b6q T h t dx dy=some (d,h')):a5o P ρ ⟨dst,.makeSlice t x y,ty,pos,af,gd⟩ g h' d:=by
 unfold b6q at hd
 split at hd
 ·rename_i i n c ht
  have hxv:ρ x = .int .i64 n:=by generalize hv:ρ x=v at hx;cases hx;rfl
  have hyv:ρ y = .int .i64 c:=by generalize hv:ρ y=v at hy;cases hy;rfl
  split at hd
  ·rename_i e htd
   split at hd
   ·rename_i j hj
    split at hd
    ·rename_i hc
     obtain ⟨h0,hnc,hlim,hpos⟩:=hc
     injection hd with hd
     injection hd with hd1 hd2
     subst hd1;subst hd2
     simp only [lim,Bool.and_eq_true] at hlim
     have hl1:=Nat.le_of_ble_eq_true hlim.1
     have hl2:=Nat.le_of_ble_eq_true hlim.2
     obtain ⟨inf,u,z,q1,q2,q3,rfl,q5,q6,_⟩:=hT.get hj
     obtain ⟨zl⟩:∃ zl,zl=z.cells.toList:=⟨_,rfl⟩
     have hr:=a1x g z.cells.toList
     have hzl:z.cells.toList.length=inf.size:=by simpa using q5
     have hw1:IntKind.i64.wrap n=n:=a5l (by omega) (by omega)
     have hw2:IntKind.i64.wrap c=c:=a5l (by omega) (by omega)
     have hcs:=a3b hzl c.toNat
     simp only at hpos hl1
     have hrr:=a1N hr c.toNat
     have hlen1:((Array.range (c.toNat*inf.size)).map (z.cells[· % z.cells.size]!)).size=c.toNat*inf.size:=by simp
     have hcs':(List.replicate n.toNat (z.cells.toList.map a1W)).flatten.length=n.toNat*inf.size:=by simp [hzl]
     obtain ⟨g',hw,he,hinv,hm⟩:=a2C hi (w':=g.w.alloc (.cells ((Array.range (c.toNat*inf.size)).map (z.cells[· % z.cells.size]!)) e)) (U:=e) (sz:=inf.size) (cap:=c.toNat) (rows:=List.replicate n.toNat (z.cells.toList.map a1W)) (cs:=(Array.range (c.toNat*inf.size)).map (z.cells[· % z.cells.size]!)) (fr:=(0,0)) rfl rfl rfl rfl (.inl rfl) hpos (by simp;omega) (by rw [hlen1];exact Nat.le_refl _) (by simp [hzl])
      (a1k (vs:=(List.replicate n.toNat z.cells.toList).flatten) (a1N hr n.toNat) (fun v hv=>by
       obtain ⟨l,hl,hv⟩:=List.mem_flatten.1 hv
       have:=(List.mem_replicate.1 hl).2
       subst this
       exact q6 v hv) (by simp [hzl]) (fun j v hj=>by
       have e1:((Array.range (c.toNat*inf.size)).map (z.cells[· % z.cells.size]!))[j]?=(((Array.range (c.toNat*inf.size)).map (z.cells[· % z.cells.size]!)).toList)[j]?:=(Array.getElem?_toList ..).symm
       rw [e1]
       have e2:((Array.range (c.toNat*inf.size)).map (z.cells[· % z.cells.size]!)).toList=(List.replicate c.toNat z.cells.toList).flatten:=by
        have:=hcs
        simpa using this
       rw [e2]
       have e3:List.replicate c.toNat z.cells.toList=List.replicate n.toNat z.cells.toList++List.replicate (c.toNat - n.toNat) z.cells.toList:=by
        rw [List.replicate_append_replicate]
        congr 1
        omega
       rw [e3,List.flatten_append,c9l (c9d.1 hj).1]
       exact hj))
     refine ⟨.value (.slice (some ⟨g.w.heap.size,0,none⟩) n.toNat c.toNat),_,g',?_,hw,he,hinv,.inl ⟨_,rfl,?_⟩⟩
     ·have hb2:(inf.bytes:Int)*c≤281474976710656:=by
        have:(inf.bytes:Int)*c=((c.toNat*inf.bytes:Nat):Int):=by
         rw [Nat.mul_comm]
         push_cast
         congr 1
         omega
        rw [this]
        omega
      have:=run_make (P:=P) g.w t e inf z (hT.sl ht htd) q1 q3 .i64 .i64 n c h0 hnc hb2 (by omega)
      simp only [execOp,hxv,hyv,Sem.run_bind,this,Result.andThen_ok,Sem.run_pure]
      rfl
     ·have:=Rep.msl (g:=g') h.length 0 n.toNat c.toNat _ hm (by simp) (by simp;omega) (by simp) (by omega)
      simpa using this
    ·cases hd
   ·cases hd
  ·cases hd
 ·cases hd
end wr
end Go.Pi
