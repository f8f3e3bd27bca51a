/- All operations that leave live objects alone. No program is named here. -/
import Derived.Test.YtkpnnfhodlanjaaGreatDoorPiG
set_option linter.unusedSimpArgs false
set_option linter.unusedVariables false
set_option linter.unnecessarySimpa false
namespace Go.Pi
open Go.Eng
section ops
variable {P:Program} {T:Tab} {g:Gh} {ρ:Operand→Value} {dst:Option Tmp} {ty:TypeId} {pos:String} {af:Array Edge} {gd:Option (Nat × Bool)}
theorem a5n (ρ:Operand→Value) (ps:Array (Nat × Operand)):(ps.map fun x=>(x.1,ρ x.2)).toList=(ps.toList.map (·.1)).zip (ps.toList.map fun x=>ρ x.2):=by
 simp only [Array.toList_map]
 induction ps.toList with
 | nil=>rfl
 | cons p r ih=>simp [ih]
theorem b0H (hT:TabOK P T) {fields:Array Field} (hn:∀ f∈fields.toList,f.name ≠ "_" ∧ (P.info? f.type).isSome=true) (w:World) :
  (fields.mapM fun f=>(do pure (f.offset,← sizeOf f.type):Sem (Nat × Nat))).run P w = .ok (fields.toList.map fun f=>(f.offset,P.cellsOf f.type)).toArray w:=by
 have key:∀ (l:List Field),(∀ f∈l,f.name ≠ "_" ∧ (P.info? f.type).isSome=true)→(l.mapM fun f=>(do pure (f.offset,← sizeOf f.type):Sem (Nat × Nat))).run P w = .ok (l.map fun f=>(f.offset,P.cellsOf f.type)) w:=by
  intro l
  induction l with
  | nil=>intro _;simp
  | cons f r ih =>
   intro h
   have hs:=(h f (List.mem_cons_self ..)).2
   obtain ⟨i,hi⟩:=Option.isSome_iff_exists.1 hs
   have hsz:(sizeOf f.type).run P w = .ok (P.cellsOf f.type) w:=by simp [sizeOf,typeInfo,hi,Program.cellsOf]
   have:=ih fun f hf=>h f (List.mem_cons_of_mem _ hf)
   simp only [List.mapM_cons,Sem.run_bind,hsz,Result.andThen_ok,Sem.run_pure,this,c8V]
 obtain ⟨l⟩:=fields
 have:=key l hn
 rw [List.mapM_toArray]
 simp only [Sem.run_map]
 rw [this]
 simp
theorem b0r (hT:TabOK P T) {t:TypeId} {ps:Array (Nat × Operand)} {ds:List D} {d:D} (hr:RepL g (ps.toList.map fun x=>ρ x.2) ds) (h:a0N T t (ps.toList.map (·.1)) ds=some d):DoesV P ρ ⟨dst,.build t ps,ty,pos,af,gd⟩ g d:=by
 unfold a0N at h
 split at h
 ·rename_i i hi
  obtain ⟨z,hz,hzz,hzs,h1⟩:=hT.zrun hi
  have hrz:=a1x g z.cells.toList
  rw [← hzz] at hrz
  split at h
  ·rename_i fs hfs
   obtain ⟨fields,hu,rfl,hn,_⟩:=hT.st hi hfs
   cases hf:a4t (b7V P fields) i.zero (ps.toList.map (·.1)) ds with
   | none=>rw [hf] at h;cases h
   | some cs =>
    rw [hf] at h
    injection h with h
    subst h
    obtain ⟨vcs,hfill,hrv,h1v⟩:=a8q (place:=((fields.toList.map fun f=>(f.offset,P.cellsOf f.type)).toArray[·]?)) (fs:=b7V P fields) (fun i u off sz hq=>by
     unfold b7V at hq
     rw [c9a] at hq
     cases hx:fields.toList[i]? with
     | none=>rw [hx] at hq;cases hq
     | some f =>
      rw [hx] at hq
      injection hq with hq
      injection hq with q1 q2
      injection q2 with q2 q3
      simp at hx
      simp [hx,q2,q3]) _ _ ds z.cells.toList i.zero cs hrz h1 hr (by simp) hf
    refine ⟨.agg vcs.toArray,?_,.mk_agg hrv h1v⟩
    simp only [Array.toArray_toList] at hfill
    simp only [execOp,Instr.build,Sem.run_bind,hz g.w,Result.andThen_ok,run_underlying hu,b0H hT hn g.w,a5n,hfill,Sem.run_pure]
  ·rename_i n e hfs
   have hu:=hT.arr hi hfs
   split at h
   ·rename_i j hj
    cases hf:a4t ((List.range n).map fun k=>(e,k*j.sz,j.sz)) i.zero (ps.toList.map (·.1)) ds with
    | none=>rw [hf] at h;cases h
    | some cs =>
     rw [hf] at h
     injection h with h
     subst h
     obtain ⟨vcs,hfill,hrv,h1v⟩:=a8q (place:=fun i=>some (i*j.sz,j.sz)) (fs:=(List.range n).map fun k=>(e,k*j.sz,j.sz)) (fun i u off sz hq=>by
      rw [c9a] at hq
      cases hx:(List.range n)[i]? with
      | none=>rw [hx] at hq;cases hq
      | some f =>
       rw [hx] at hq
       have:=(c9d.1 hx).2
       simp at this
       subst this
       injection hq with hq
       injection hq with q1 q2
       injection q2 with q2 q3
       subst q3
       simp [q2]) _ _ ds z.cells.toList i.zero cs hrz h1 hr (by simp) hf
     refine ⟨.agg vcs.toArray,?_,.mk_agg hrv h1v⟩
     simp only [Array.toArray_toList] at hfill
     simp only [execOp,Instr.build,Sem.run_bind,hz g.w,Result.andThen_ok,run_underlying hu,hT.size hj,a5n,hfill,Sem.run_pure]
   ·cases h
  ·cases h
 ·cases h
theorem a7Z {sz:Nat}:∀ (k:Nat) (is:List Nat) (vals:List Value) (ds:List D) (rows:List (List D)),RepL g vals ds→is.length=vals.length→a8m sz k is ds=some rows →
  is.zip vals=b0w k vals∧(∀ v∈vals,v.cells.size=sz)∧rows.length=vals.length∧(∀ r∈rows,r.length=sz)∧RepL g (vals.flatMap fun v=>v.cells.toList) rows.flatten∧(∀ v∈vals.flatMap fun v=>v.cells.toList,v.oneCell'=true)
 | k,[],vals,ds,rows,hr,hl,h=>by
  have:vals=[]:=List.eq_nil_of_length_eq_zero (by simpa using hl.symm)
  subst this
  cases hr
  simp [a8m] at h
  subst h
  exact ⟨rfl,by simp,rfl,by simp,by simpa using RepL.nil,by simp⟩
 | k,i::is,vals,ds,rows,hr,hl,h=>by
  cases hr with
  | nil=>simp at hl
  | cons hv hr =>
   rename_i v d vals ds
   simp only [a8m] at h
   split at h
   ·rename_i hc
    simp only [Bool.and_eq_true] at hc
    obtain ⟨⟨hc1,hc2⟩,hc3⟩:=hc
    have hc1:=Nat.eq_of_beq_eq_true hc1
    have hc2:=Nat.eq_of_beq_eq_true hc2
    subst hc1
    split at h
    ·rename_i rows' hrows
     injection h with h
     subst h
     obtain ⟨q1,q2,q3,q4,q5,q6⟩:=a7Z (i+1) is vals ds rows' hr (by simpa using hl) hrows
     obtain ⟨us,hus,hur,hu1⟩:=hv.cells hc3
     have hul:=hur.length
     refine ⟨by simp [b0w,q1],fun x hx=>?_,by simp [q3],fun r hrr=>?_,?_,fun x hx=>?_⟩
     ·rcases c9i.1 hx with rfl | hx
      ·rw [hus];simp;omega
      ·exact q2 x hx
     ·rcases c9i.1 hrr with rfl | hrr
      ·exact hc2
      ·exact q4 r hrr
     ·simp only [List.flatMap_cons,List.flatten_cons,hus]
      exact hur.append q5
     ·simp only [List.flatMap_cons,c9j,hus] at hx
      rcases hx with hx | hx
      ·exact hu1 x hx
      ·exact q6 x hx
    ·cases h
   ·cases h
theorem a6F {sz:Nat}:∀ (rows:List (List D)) (i j:Nat) (row:List D) (d:D),(∀ r∈rows,r.length=sz)→rows[i]?=some row→row[j]?=some d→rows.flatten[i*sz+j]?=some d
 | [],i,j,row,d,_,h,_=>by cases h
 | r::rows,0,j,row,d,hs,h,hd=>by
  simp at h
  subst h
  have hlt:=(c9d.1 hd).1
  simp only [List.flatten_cons,Nat.zero_mul,Nat.zero_add]
  rw [c9l hlt];exact hd
 | r::rows,i+1,j,row,d,hs,h,hd=>by
  have h':rows[i]?=some row:=by simpa using h
  have hr:=hs r (List.mem_cons_self ..)
  have:=a6F rows i j row d (fun r hr=>hs r (List.mem_cons_of_mem _ hr)) h' hd
  simp only [List.flatten_cons]
  rw [List.getElem?_append_right (by rw [hr,Nat.add_mul];omega)]
  rw [← this]
  congr 1
  rw [hr,Nat.add_mul];omega
theorem a1H {sz:Nat}:∀ (rows:List (List D)),(∀ r∈rows,r.length=sz)→rows.flatten.length=rows.length*sz
 | [],_=>by simp
 | r::rows,h=>by
  have:=a1H rows fun r hr=>h r (List.mem_cons_of_mem _ hr)
  rw [List.flatten_cons,c8S,this,h r (List.mem_cons_self ..),c9e,Nat.add_mul];omega
theorem b2S (hT:TabOK P T) {t n:Nat} {ps:Array (Nat × Operand)} {ds:List D} {E sz:Nat} {rows:List (List D)} (hr:RepL g (ps.toList.map fun x=>ρ x.2) ds) (h:a2d T t n (ps.toList.map (·.1)) ds=some (E,sz,rows)) :
  ∃ vs:List Value,(execOp ρ ⟨dst,.buildSlice t n ps,ty,pos,af,gd⟩).run P g.w = .ok (.value (.slice (some ⟨g.w.heap.size,0,none⟩) n n)) (g.w.alloc (.cells vs.toArray E))∧RepL g vs rows.flatten∧(∀ v∈vs,v.oneCell'=true)∧rows.length=n∧(∀ r∈rows,r.length=sz)∧0<sz∧n*sz≤16777216:=by
 unfold a2d at h
 split at h
 ·rename_i i hi
  split at h
  ·rename_i e htd
   split at h
   ·rename_i j hj
    split at h
    ·rename_i hc
     simp only [Bool.and_eq_true] at hc
     obtain ⟨⟨hc1,hc2⟩,hc3⟩:=hc
     have hc1:=Nat.le_of_ble_eq_true hc1
     have hc2:=Nat.le_of_ble_eq_true hc2
     have hc3:=Nat.eq_of_beq_eq_true hc3
     split at h
     ·rename_i rows' hrows
      injection h with h
      injection h with h1 h2
      injection h2 with h2 h3
      subst h1;subst h2;subst h3
      obtain ⟨q1,q2,q3,q4,q5,q6⟩:=a7Z 0 _ _ ds rows' hr (by simp) hrows
      have hn:rows'.length=n:=by rw [q3];simpa using hc3
      refine ⟨_,?_,q5,q6,hn,q4,hc1,hc2⟩
      obtain ⟨z,hz,_,hzs,_⟩:=hT.zrun hj
      have h3:¬ (n*j.sz>2 ^ 24):=by omega
      have hfill:=a9A (sz:=j.sz) (ps.toList.map fun x=>ρ x.2) [] ((Array.range (n*j.sz)).map ((if n*j.sz=0 then #[] else z.cells)[· % (if n*j.sz=0 then #[] else z.cells).size]!)).toList 0 (by simp) (by simp at hc3;simp [hc3]) q2
      simp only [List.nil_append,Array.toArray_toList] at hfill
      rw [← q1,← a5n] at hfill
      simp only [execOp,Instr.buildSlice,Sem.run_bind,run_underlying (hT.sl hi htd),Result.andThen_ok,hT.size hj,h3,if_false,Sem.run_pure,newRow,run_newObj]
      by_cases h0:n*j.sz=0
      ·simp only [h0,if_true,Sem.run_bind,Sem.run_pure,Result.andThen_ok] at hfill ⊢
       rw [hfill]
       rfl
      ·simp only [h0,if_false,Sem.run_bind,hz g.w,Sem.run_pure,Result.andThen_ok] at hfill ⊢
       rw [hfill]
       rfl
     ·cases h
    ·cases h
   ·cases h
  ·cases h
 ·cases h
theorem b4c (hT:TabOK P T) (hL:∀ b,g.L b→b<g.w.heap.size) {t n:Nat} {ps:Array (Nat × Operand)} {ds:List D} {E sz:Nat} {rows:List (List D)} (hr:RepL g (ps.toList.map fun x=>ρ x.2) ds) (h:a2d T t n (ps.toList.map (·.1)) ds=some (E,sz,rows)) :
  b0M P ρ ⟨dst,.buildSlice t n ps,ty,pos,af,gd⟩ g (.sl sz true rows):=by
 obtain ⟨vs,hrun,hrv,h1,hn,hrow,hpos,hsm⟩:=b2S (dst:=dst) (ty:=ty) (pos:=pos) (af:=af) (gd:=gd) hT hr h
 obtain ⟨hat,hf⟩:=a4f hL (E:=E) hrv h1
 have hnn:n≤n*sz:=Nat.le_mul_of_pos_right n hpos
 have hlen:=hrv.length
 have hfl:=a1H rows hrow
 have key:∀ (i:Nat) (row:List D),rows[i]?=some row→∀ (j:Nat) (d:D),row[j]?=some d→∃ v,vs[i*sz+j]?=some v∧rows.flatten[i*sz+j]?=some d∧vs.getD (i*sz+j) undef=v:=fun i row hi j d hd=>by
  have:=a6F rows i j row d hrow hi hd
  have hlt:=(c9d.1 this).1
  have hg:vs[i*sz+j]?=some (vs[i*sz+j]'(by omega)):=c9c (by omega)
  exact ⟨_,hg,this,by rw [List.getD_eq_getElem?_getD,hg];rfl⟩
 refine ⟨_,_,g.alloc (.cells vs.toArray E),hrun,rfl,g.alloc_ext _,rfl,rfl,fun b hb=>a2G _ _ hb,?_⟩
 refine .sl ⟨g.w.heap.size,0,none⟩ n n sz true rows hn (Nat.le_refl _) (by omega) (fun _=>rfl) hpos hrow (fun _=>⟨rfl,hf⟩) (fun i j=>vs.getD (i*sz+j) undef) (fun i row hi j d hd=>?_) (fun i row hi j d hd=>?_) (fun i row hi j d hd=>?_)
 ·obtain ⟨v,h2,h3,h4⟩:=key i row hi j d hd
  simp only [h4]
  have:=hat.1 _ v h2
  simpa [Nat.add_assoc] using this
 ·obtain ⟨v,h2,h3,h4⟩:=key i row hi j d hd
  simp only [h4]
  exact h1 v (c9b h2)
 ·obtain ⟨v,h2,h3,h4⟩:=key i row hi j d hd
  simp only [h4]
  exact hat.2.2.get _ v d h2 h3
theorem a6D {f:Fn} {a b:Array Operand} {ds:List D} (hr:RepL g ((a++b).toList.map ρ) ds):DoesV P ρ ⟨dst,.makeFunc f a b,ty,pos,af,gd⟩ g (.fn f (ds.take a.size) (ds.drop a.size)):=by
 have hl:=hr.length
 simp at hl
 refine ⟨.func f (a.map ρ) (b.map ρ),by simp [execOp,Instr.makeFunc],?_⟩
 have h1:=hr.take a.size
 have h2:=hr.drop a.size
 have e1:(((a++b).toList.map ρ).take a.size)=(a.map ρ).toList:=by
  simp [List.take_append]
 have e2:(((a++b).toList.map ρ).drop a.size)=(b.map ρ).toList:=by
  simp [List.drop_append]
 rw [e1] at h1
 rw [e2] at h2
 have:=Rep.fn (g:=g) f (ds.take a.size) (ds.drop a.size) (a.map ρ).toList (b.map ρ).toList h1.length h2.length h1.get h2.get
 simpa only [Array.toArray_toList] using this
theorem Rep.sl_len {v:Value} {sz:Nat} {full:Bool} {rows:List (List D)} (h:Rep g v (.sl sz full rows)):∃ ad cap,v = .slice (some ad) rows.length cap∧(full=true→cap=rows.length):=by
 cases h with
 | sl ad n cap sz full rows hn hnc hcm hfull hsz hrow had vs hc h1 hr=>exact ⟨ad,cap,by rw [hn],fun h=>by rw [hn];exact hfull h⟩
theorem Rep.msl_inv {v:Value} {sz o r n:Nat} (h:Rep g v (.msl sz o r n)):∃ m cap,v = .slice (some ⟨m.b,r*m.sz,none⟩) n cap∧m.sz=sz∧g.ms[o]?=some m∧r+n≤m.len∧m.len≤r+cap∧r+cap≤m.cap∧cap≤9223372036854775807:=by
 cases h with
 | msl o r n cap m hm hn hlo hhi hcm=>exact ⟨m,cap,rfl,rfl,hm,hn,hlo,hhi,hcm⟩
theorem a4z {x:Operand} {ts:Array TypeId} {dx d:D} (hx:Rep g (ρ x) dx) (h:b7T dx=some d) (ht:∃ t,ts[0]?=some t∧((∃ s,dx = .str s)→P.underlying t=some .string)∧((¬ ∃ s,dx = .str s)→∃ e,P.underlying t=some (.slice e))):DoesV P ρ ⟨dst,.call ⟨.builtin .len, #[x],ts⟩,ty,pos,af,gd⟩ g d:=by
 obtain ⟨t,ht0,hs1,hs2⟩:=ht
 unfold b7T at h
 split at h
 ·injection h with h;subst h
  have hu:=hs1 ⟨_,rfl⟩
  rename_i s
  have hv:ρ x = .string ⟨s.toArray⟩:=by generalize hv:ρ x=v at hx;cases hx;rfl
  exact ⟨.int .i64 s.length,by simp [execOp,resolve,invoke,builtin,Builtin.len_,run_underlying hu,hv,ht0,goInt,a2I],.int _ _⟩
 ·injection h with h;subst h
  obtain ⟨e,hu⟩:=hs2 (by simp)
  have hv:ρ x = .slice none 0 0:=by generalize hv:ρ x=v at hx;cases hx;rfl
  exact ⟨.int .i64 0,by simp [execOp,resolve,invoke,builtin,Builtin.len_,run_underlying hu,hv,ht0,goInt],.int _ _⟩
 ·injection h with h;subst h
  obtain ⟨e,hu⟩:=hs2 (by simp)
  rename_i rows
  obtain ⟨ad,cap,hv,_⟩:=hx.sl_len
  exact ⟨.int .i64 rows.length,by simp [execOp,resolve,invoke,builtin,Builtin.len_,run_underlying hu,hv,ht0,goInt],.int _ _⟩
 ·injection h with h;subst h
  obtain ⟨e,hu⟩:=hs2 (by simp)
  rename_i n
  obtain ⟨m,cap,hv,_⟩:=hx.msl_inv
  exact ⟨.int .i64 n,by simp [execOp,resolve,invoke,builtin,Builtin.len_,run_underlying hu,hv,ht0,goInt],.int _ _⟩
 ·cases h
theorem b4a {x:Operand} {ts:Array TypeId} {dx d:D} (hx:Rep g (ρ x) dx) (h:c2k dx=some d) (ht:∃ t e,ts[0]?=some t∧P.underlying t=some (.slice e)):DoesV P ρ ⟨dst,.call ⟨.builtin .cap, #[x],ts⟩,ty,pos,af,gd⟩ g d:=by
 obtain ⟨t,e,ht0,hu⟩:=ht
 unfold c2k at h
 split at h
 ·injection h with h;subst h
  have hv:ρ x = .slice none 0 0:=by generalize hv:ρ x=v at hx;cases hx;rfl
  exact ⟨.int .i64 0,by simp [execOp,resolve,invoke,builtin,Builtin.cap_,run_underlying hu,hv,ht0,goInt],.int _ _⟩
 ·injection h with h;subst h
  rename_i rows
  obtain ⟨ad,cap,hv,hc⟩:=hx.sl_len
  have hc:=hc rfl
  subst hc
  exact ⟨.int .i64 rows.length,by simp [execOp,resolve,invoke,builtin,Builtin.cap_,run_underlying hu,hv,ht0,goInt],.int _ _⟩
 ·cases h
theorem b4e {x y:Operand} {ts:Array TypeId} {dx dy d:D} (hx:Rep g (ρ x) dx) (hy:Rep g (ρ y) dy) (h:b5o dx dy=some d):DoesV P ρ ⟨dst,.call ⟨.builtin .min, #[x,y],ts⟩,ty,pos,af,gd⟩ g d:=by
 unfold b5o at h
 split at h
 ·rename_i k a k' b
  injection h with h;subst h
  have hxv:ρ x = .int k a:=by generalize hv:ρ x=v at hx;cases hx;rfl
  have hyv:ρ y = .int k' b:=by generalize hv:ρ y=v at hy;cases hy;rfl
  exact ⟨.int k (if b<a then b else a),by simp [execOp,resolve,invoke,builtin,Builtin.min_,Builtin.min2,hxv,hyv],.int _ _⟩
 ·cases h
theorem b4d {x y:Operand} {ts:Array TypeId} {dx dy d:D} (hx:Rep g (ρ x) dx) (hy:Rep g (ρ y) dy) (h:c2m dx dy=some d):DoesV P ρ ⟨dst,.call ⟨.builtin .max, #[x,y],ts⟩,ty,pos,af,gd⟩ g d:=by
 unfold c2m at h
 split at h
 ·rename_i k a k' b
  injection h with h;subst h
  have hxv:ρ x = .int k a:=by generalize hv:ρ x=v at hx;cases hx;rfl
  have hyv:ρ y = .int k' b:=by generalize hv:ρ y=v at hy;cases hy;rfl
  exact ⟨.int k (if b>a then b else a),by simp [execOp,resolve,invoke,builtin,Builtin.max_,Builtin.max2,hxv,hyv],.int _ _⟩
 ·cases h
theorem b0F {vs:List Value} {d:D} (h:RepL g vs [d]):∃ v,vs=[v]∧Rep g v d:=by
 cases h with
 | cons h r=>cases r;exact ⟨_,rfl,h⟩
theorem a7V (hT:TabOK P T) (hL:∀ b,g.L b→b<g.w.heap.size) (o:Oper) {ds:List D} {d:D} (hr:RepL g (o.op.operands.toList.map ρ) ds) (h:a2E T o.op ds=some d):b0M P ρ o g d:=by
 obtain ⟨dst,op,ty,pos,af,gd⟩:=o
 simp only at hr h
 have in1:∀ {x:Operand},RepL g [ρ x] ds→∃ dx,ds=[dx]∧Rep g (ρ x) dx:=fun hh=>by
  cases hh with
  | cons h1 r=>cases r;exact ⟨_,rfl,h1⟩
 have in2:∀ {x y:Operand},RepL g [ρ x,ρ y] ds→∃ dx dy,ds=[dx,dy]∧Rep g (ρ x) dx∧Rep g (ρ y) dy:=fun hh=>by
  cases hh with
  | cons h1 r=>cases r with
   | cons h2 r=>cases r;exact ⟨_,_,rfl,h1,h2⟩
 have in3:∀ {x y z:Operand},RepL g [ρ x,ρ y,ρ z] ds→∃ dx dy dz,ds=[dx,dy,dz]∧Rep g (ρ x) dx∧Rep g (ρ y) dy∧Rep g (ρ z) dz:=fun hh=>by
  cases hh with
  | cons h1 r=>cases r with
   | cons h2 r=>cases r with
    | cons h3 r=>cases r;exact ⟨_,_,_,rfl,h1,h2,h3⟩
 cases op <;> simp only [a2E] at h
 case move x =>
  obtain ⟨dx,rfl,hx⟩:=in1 hr
  injection h with h;subst h
  exact DoesV.g ⟨ρ x,by simp [execOp],hx⟩
 case assign x =>
  obtain ⟨dx,rfl,hx⟩:=in1 hr
  injection h with h;subst h
  exact DoesV.g ⟨ρ x,by simp [execOp],hx⟩
 case pick c a b =>
  obtain ⟨dc,da,db,rfl,hc,ha,hb⟩:=in3 hr
  exact (b1p hc ha hb h).g
 case nilCheck x =>
  obtain ⟨dx,rfl,hx⟩:=in1 hr
  exact (a6E hT hx h).g
 case binOp op tx x y t' =>
  obtain ⟨dx,dy,rfl,hx,hy⟩:=in2 hr
  exact (b3Y hT hx hy h).g
 case unOp op t x =>
  obtain ⟨dx,rfl,hx⟩:=in1 hr
  exact (b6t hx h).g
 case convert s t x =>
  obtain ⟨dx,rfl,hx⟩:=in1 hr
  exact (b1l hT hx h).g
 case makeFunc f a b =>
  injection h with h;subst h
  exact (a6D hr).g
 case fieldAddr t x f =>
  obtain ⟨dx,rfl,hx⟩:=in1 hr
  exact (a5p hT hx h).g
 case field t x f =>
  obtain ⟨dx,rfl,hx⟩:=in1 hr
  exact (b0s hT hx h).g
 case indexAddr t x y =>
  obtain ⟨dx,dy,rfl,hx,hy⟩:=in2 hr
  exact (a5q hT hx hy h).g
 case index t x y =>
  obtain ⟨dx,dy,rfl,hx,hy⟩:=in2 hr
  exact (b0t hT hx hy h).g
 case extract x i =>
  obtain ⟨dx,rfl,hx⟩:=in1 hr
  exact (a7t hx h).g
 case makeInterface t x =>
  obtain ⟨dx,rfl,hx⟩:=in1 hr
  split at h
  case h_2=>cases h
  rename_i x' i heq hi
  injection heq with heq
  subst heq
  split at h
  case h_2=>cases h
  rename_i e he
  injection h with h;subst h
  exact DoesV.g ⟨.iface t (ρ x),by simp [execOp,Instr.makeInterface,run_underlying (hT.ptr hi he)],.iface _ _ _ hx⟩
 case build t ps =>
  have:(Op.operands (.build t ps)).toList.map ρ=ps.toList.map fun x=>ρ x.2:=by simp [Op.operands]
  rw [this] at hr
  exact (b0r hT hr h).g
 case alloc e =>
  cases hi:T e with
  | none=>rw [hi] at h;cases h
  | some i =>
   rw [hi] at h
   injection h with h;subst h
   exact b0q hT hL hi
 case box e x =>
  obtain ⟨dx,rfl,hx⟩:=in1 hr
  simp only at h
  split at h
  ·rename_i hk
   injection h with h;subst h
   exact b3Z hL hx hk
  ·cases h
 case buildSlice t n ps =>
  have:(Op.operands (.buildSlice t n ps)).toList.map ρ=ps.toList.map fun x=>ρ x.2:=by simp [Op.operands]
  rw [this] at hr
  cases hl:a2d T t n (ps.toList.map (·.1)) ds with
  | none=>rw [hl] at h;cases h
  | some q =>
   rw [hl] at h
   obtain ⟨E,sz,rows⟩:=q
   injection h with h;subst h
   exact b4c hT hL hr hl
 case slice t x lo hi mx =>
  have int?:∀ {y:Operand} {dy:D} {i:Int},Rep g (ρ y) dy→a1S dy=some i→∃ k,ρ y = .int k i:=fun {y dy i} hy hd=>by
   unfold a1S at hd
   split at hd
   ·injection hd with hd;subst hd
    generalize hv:ρ y=v at hy
    cases hy
    exact ⟨_,rfl⟩
   ·cases hd
  cases lo <;> cases hi <;> cases mx <;> simp only [Option.isSome_none,Option.isSome_some] at h
  ·obtain ⟨dx,rfl,hx⟩:=in1 (x:=x) (by simpa [Op.operands] using hr)
   exact (a1P hT (lo:=none) (hi:=none) (mx:=none) (l:=none) (h:=none) (m:=none) hx trivial trivial trivial (by simp) h).g
  ·unfold a0E at h;simp at h
  ·rename_i b
   obtain ⟨dx,db,rfl,hx,hb⟩:=in2 (x:=x) (y:=b) (by simpa [Op.operands] using hr)
   simp only [a0E] at h
   cases hq:a1S db with
   | none=>rw [hq] at h;cases h
   | some i =>
    rw [hq] at h
    exact (a1P hT (lo:=none) (hi:=(some b)) (mx:=none) (l:=none) (h:=some i) (m:=none) hx trivial (int? hb hq) trivial (by simp) h).g
  ·rename_i b c
   obtain ⟨dx,db,dc,rfl,hx,hb,hc⟩:=in3 (x:=x) (y:=b) (z:=c) (by simpa [Op.operands] using hr)
   simp only [a0E] at h
   cases hq:a1S db with
   | none=>rw [hq] at h;cases h
   | some i =>
    rw [hq] at h
    simp only [Option.bind_some] at h
    cases hq2:a1S dc with
    | none=>rw [hq2] at h;cases h
    | some j =>
     rw [hq2] at h
     exact (a1P hT (lo:=none) (hi:=(some b)) (mx:=(some c)) (l:=none) (h:=some i) (m:=some j) hx trivial (int? hb hq) (int? hc hq2) (by simp) h).g
  ·rename_i a
   obtain ⟨dx,da,rfl,hx,ha⟩:=in2 (x:=x) (y:=a) (by simpa [Op.operands] using hr)
   simp only [a0E] at h
   cases hq:a1S da with
   | none=>rw [hq] at h;cases h
   | some i =>
    rw [hq] at h
    exact (a1P hT (lo:=(some a)) (hi:=none) (mx:=none) (l:=some i) (h:=none) (m:=none) hx (int? ha hq) trivial trivial (by simp) h).g
  ·unfold a0E at h;simp at h
  ·rename_i a b
   obtain ⟨dx,da,db,rfl,hx,ha,hb⟩:=in3 (x:=x) (y:=a) (z:=b) (by simpa [Op.operands] using hr)
   simp only [a0E] at h
   cases hq:a1S da with
   | none=>rw [hq] at h;cases h
   | some i =>
    rw [hq] at h
    simp only [Option.bind_some] at h
    cases hq2:a1S db with
    | none=>rw [hq2] at h;cases h
    | some j =>
     rw [hq2] at h
     exact (a1P hT (lo:=(some a)) (hi:=(some b)) (mx:=none) (l:=some i) (h:=some j) (m:=none) hx (int? ha hq) (int? hb hq2) trivial (by simp) h).g
  ·rename_i a b c
   obtain ⟨dx,da,db,dc,rfl,hx,ha,hb,hc⟩:∃ dx da db dc,ds=[dx,da,db,dc]∧Rep g (ρ x) dx∧Rep g (ρ a) da∧Rep g (ρ b) db∧Rep g (ρ c) dc:=by
    have hr':RepL g [ρ x,ρ a,ρ b,ρ c] ds:=by simpa [Op.operands] using hr
    cases hr' with
    | cons hx r=>cases r with
     | cons ha r=>cases r with
      | cons hb r=>cases r with
       | cons hc r=>cases r;exact ⟨_,_,_,_,rfl,hx,ha,hb,hc⟩
   simp only [a0E] at h
   cases hq:a1S da with
   | none=>rw [hq] at h;cases h
   | some i =>
    rw [hq] at h
    simp only [Option.bind_some] at h
    cases hq2:a1S db with
    | none=>rw [hq2] at h;cases h
    | some j =>
     rw [hq2] at h
     simp only [Option.bind_some] at h
     cases hq3:a1S dc with
     | none=>rw [hq3] at h;cases h
     | some k =>
      rw [hq3] at h
      exact (a1P hT (lo:=some a) (hi:=some b) (mx:=some c) (l:=some i) (h:=some j) (m:=some k) hx (int? ha hq) (int? hb hq2) (int? hc hq3) (by simp) h).g
 case call c =>
  obtain ⟨callee,args,ts⟩:=c
  simp only at h
  cases callee with
  | value f=>simp at h
  | invoke r m=>simp at h
  | builtin b =>
   have hr':RepL g (args.toList.map ρ) ds:=by simpa [Op.operands,Call.operands] using hr
   cases b <;> simp only at h
   case len =>
    split at h
    ·rename_i dx t ht
     obtain ⟨v,hv,hx⟩:=b0F hr'
     obtain ⟨x,hxa⟩:∃ x,args = #[x]:=by
      obtain ⟨l⟩:=args
      cases l with
      | nil=>simp at hv
      | cons x l=>cases l with
       | nil=>exact ⟨x,rfl⟩
       | cons y l=>simp at hv
     subst hxa
     simp at hv
     subst hv
     unfold a0B at h
     split at h
     ·rename_i i hi
      split at h
      ·rename_i s htd
       exact (a4z hx h ⟨t,ht,fun _=>hT.str hi htd,fun hh=>absurd ⟨s,rfl⟩ hh⟩).g
      ·rename_i e htd
       exact (a4z hx h ⟨t,ht,(fun hh=>by obtain ⟨_,hh⟩:=hh;cases hh),fun _=>⟨e,hT.sl hi htd⟩⟩).g
      ·rename_i e _ _ _ htd
       exact (a4z hx h ⟨t,ht,(fun hh=>by obtain ⟨_,hh⟩:=hh;cases hh),fun _=>⟨e,hT.sl hi htd⟩⟩).g
      ·rename_i e _ _ _ _ htd
       exact (a4z hx h ⟨t,ht,(fun hh=>by obtain ⟨_,hh⟩:=hh;cases hh),fun _=>⟨e,hT.sl hi htd⟩⟩).g
      ·cases h
     ·cases h
    ·cases h
   case cap =>
    split at h
    ·rename_i dx t ht
     obtain ⟨v,hv,hx⟩:=b0F hr'
     obtain ⟨x,hxa⟩:∃ x,args = #[x]:=by
      obtain ⟨l⟩:=args
      cases l with
      | nil=>simp at hv
      | cons x l=>cases l with
       | nil=>exact ⟨x,rfl⟩
       | cons y l=>simp at hv
     subst hxa
     simp at hv
     subst hv
     unfold b9o at h
     split at h
     ·rename_i i hi
      split at h
      ·rename_i e htd
       exact (b4a hx h ⟨t,e,ht,hT.sl hi htd⟩).g
      ·cases h
     ·cases h
    ·cases h
   case min =>
    split at h
    ·rename_i dx dy
     obtain ⟨x,y,hxa⟩:∃ x y,args = #[x,y]:=by
      have hl:=hr'.length
      obtain ⟨l⟩:=args
      cases l with
      | nil=>simp at hl
      | cons x l=>cases l with
       | nil=>simp at hl
       | cons y l=>cases l with
        | nil=>exact ⟨x,y,rfl⟩
        | cons z l=>simp at hl
     subst hxa
     cases hr' with
     | cons hx r=>cases r with
      | cons hy r=>exact (b4e hx hy h).g
    ·cases h
   case max =>
    split at h
    ·rename_i dx dy
     obtain ⟨x,y,hxa⟩:∃ x y,args = #[x,y]:=by
      have hl:=hr'.length
      obtain ⟨l⟩:=args
      cases l with
      | nil=>simp at hl
      | cons x l=>cases l with
       | nil=>simp at hl
       | cons y l=>cases l with
        | nil=>exact ⟨x,y,rfl⟩
        | cons z l=>simp at hl
     subst hxa
     cases hr' with
     | cons hx r=>cases r with
      | cons hy r=>exact (b4d hx hy h).g
    ·cases h
   all_goals cases h
 all_goals cases h
end ops
end Go.Pi
