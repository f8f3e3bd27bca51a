/- All operations that turn live objects. No program is named here. -/
import Derived.Test.YtkpnnfhodlanjaaGreatDoorPiM
import Derived.Laws.IdiomStrings
set_option linter.unusedSimpArgs false
set_option linter.unusedVariables false
set_option linter.unnecessarySimpa false
namespace Go.Pi
open Go.Eng
section wr
variable {P:Program} {T:Tab} {g:Gh} {h:Hp} {ty:TypeId}
theorem b6m (hT:TabOK P T) (hi:Inv g h) {t u:Nat} {vx vy:Value} {dx dy d:D} {h':Hp} (hx:Rep g vx dx) (hy:Rep g vy dy) (hd:b6p T h t u dx dy=some (d,h')) :
  ∃ v w' g',(Builtin.copy_ #[t,u] ty #[vx,vy]).run P g.w = .ok v w'∧g'.w=w'∧Ext g g'∧Inv g' h'∧Rep g' v d:=by
 unfold b6p at hd
 split at hd
 ·rename_i i iu ht hu
  split at hd
  ·rename_i e htd hni
   have hte:=hT.sl ht htd
   split at hd
   ·rename_i j hj
    split at hd
    ·rename_i ys hblt hsrc
     have hpos:0<j.sz:=Nat.le_of_ble_eq_true hblt
     obtain ⟨news,htk,hnr,hn1,hyl⟩:=b3f hT hi hu hj hy hsrc hpos
     obtain ⟨du,hud,hcase⟩:=htk.nz
     have hget:(∀ w1,(Builtin.lenOf vy).run P w1 = .ok ys.length w1)∧(∀ (k:Nat) (w1:World),k≤ys.length→w1.heap=g.w.heap→(Builtin.firstCells j.sz k vy).run P w1 = .ok (news.take (k*j.sz)).toArray w1):=by
      rcases hcase with ⟨_,h1,h2⟩ | ⟨⟨k,rfl⟩,_⟩
      ·exact ⟨h1,h2⟩
      ·exfalso
       obtain ⟨inf,ud,z,q1,q2,q3,rfl,_⟩:=hT.get hu
       rw [q2] at hud
       injection hud with hud
       subst hud
       simp [b5F,a8k] at hni
     obtain ⟨hlen,hfirst⟩:=hget
     have hnl:=htk.len
     split at hd
     ·injection hd with hd
      injection hd with hd1 hd2
      subst hd1;subst hd2
      have hv:vx = .slice none 0 0:=by cases hx;rfl
      subst hv
      have hf:=hfirst 0 g.w (Nat.zero_le _) rfl
      have hmin:Nat.min ys.length 0=0:=by simp
      exact ⟨.int .i64 0,g.w,g,by simp [Builtin.copy_,run_underlying hte,hT.size hj,hlen,hmin,hf,goInt],rfl,Ext.refl g,hi,.int _ _⟩
     ·rename_i sz o r n
      split at hd
      ·rename_i U z rows ho
       split at hd
       ·rename_i hc
        obtain ⟨rfl,rfl⟩:=hc
        injection hd with hd
        injection hd with hd1 hd2
        subst hd1;subst hd2
        obtain ⟨m,cap,hv,hms,hm,hn,hlo,hhi,hcm⟩:=hx.msl_inv
        obtain ⟨m',cs,hm',hl⟩:=hi.live o U j.sz rows ho
        rw [hm] at hm'
        injection hm' with hm'
        subst hm'
        subst hv
        obtain ⟨fr,hb,hfr⟩:=hl.blk
        have hfl:=a1H rows hl.row
        have hroom:=hl.room
        have hlenr:=hl.len
        have hK:min ys.length n≤ys.length:=Nat.min_le_left _ _
        have hf:=hfirst (min ys.length n) g.w hK rfl
        have htl:(news.take (min ys.length n*j.sz)).length=min ys.length n*j.sz:=by
         have:min ys.length n*j.sz≤ys.length*j.sz:=Nat.mul_le_mul_right _ hK
         simp;omega
        have hbound:r*j.sz+min ys.length n*j.sz≤rows.length*j.sz:=by
         rw [← Nat.add_mul]
         exact Nat.mul_le_mul_right _ (by omega)
        have hfit:rows.length*j.sz≤cs.size:=by
         have:rows.length*j.sz≤m.cap*j.sz:=Nat.mul_le_mul_right _ (by have:=hl.le;omega)
         omega
        obtain ⟨w',hst,hs⟩:=a1p (P:=P) (i:=r*j.sz) (news.take (min ys.length n*j.sz)) g.w cs.toList 0 (T:=U) (fr:=fr) (b:=m.b) (by simpa using hb) (by simpa using hfr.weak) (by rw [htl];simp;omega) (fun v hv=>hn1 v (List.mem_of_mem_take hv))
        simp only [Nat.add_zero] at hs
        have htake:ys.take n=ys.take (min ys.length n):=by
         rcases Nat.le_total ys.length n with h1 | h1
         ·rw [Nat.min_eq_left h1,List.take_of_length_le h1,List.take_of_length_le (Nat.le_refl _)]
         ·rw [Nat.min_eq_right h1]
        have hrt:RepL g (news.take (min ys.length n*j.sz)) (ys.take n).flatten:=by
         rw [htake,a2T ys _ hyl]
         exact hnr.take _
        have hytl:(ys.take n).flatten.length=min ys.length n*j.sz:=by
         rw [← hrt.length];exact htl
        have htn:(ys.take n).length=min ys.length n:=by simp;omega
        obtain ⟨g',hw,he,hinv,hmm⟩:=a3n (rows':=rows.take r++ys.take n++rows.drop (r+min ys.length n)) hi ho hm hl hfr hrt (fun v hv=>hn1 v (List.mem_of_mem_take hv)) (p:=r*j.sz) (by rw [hfl,hytl];exact hbound) (by
         unfold spl
         rw [List.flatten_append,List.flatten_append,a2T rows r hl.row,a3N rows _ hl.row,hytl,Nat.add_mul]) (by simp;omega) (fun q hq=>by
          simp only [c9j] at hq
          rcases hq with (hq | hq) | hq
          ·exact hl.row q (List.mem_of_mem_take hq)
          ·exact hyl q (List.mem_of_mem_take hq)
          ·exact hl.row q (List.mem_of_mem_drop hq)) hs
        refine ⟨.int .i64 ((min ys.length n:Nat):Int),w',g',?_,hw,he,hinv,.int _ _⟩
        have hmin:Nat.min ys.length n=min ys.length n:=rfl
        rw [hms]
        simp only [Builtin.copy_,Sem.run_bind]
        simp [run_underlying hte,hT.size hj,hlen,hmin,hf,hst,goInt]
       ·cases hd
      ·cases hd
     ·cases hd
    ·cases hd
   ·cases hd
  ·cases hd
 ·cases hd
theorem b3W (hT:TabOK P T) (hi:Inv g h) {t:Nat} {vx:Value} {dx d:D} {h':Hp} (hx:Rep g vx dx) (hd:b1h T h t dx=some (d,h')) :
  ∃ v w' g',(Builtin.clear_ #[t] ty #[vx]).run P g.w = .ok v w'∧g'.w=w'∧Ext g g'∧Inv g' h'∧Rep g' v d:=by
 unfold b1h at hd
 split at hd
 case h_2=>cases hd
 rename_i i ht
 split at hd
 case h_2=>cases hd
 rename_i e htd
 have hte:=hT.sl ht htd
 split at hd
 case h_2=>cases hd
 rename_i j hj
 have done:∀ (x:Value),(x = .slice none 0 0∨∃ a c,x = .slice (some a) 0 c)→∃ v w' g',(Builtin.clear_ #[t] ty #[x]).run P g.w = .ok v w'∧g'.w=w'∧Ext g g'∧Inv g' h∧Rep g' v (.tup []):=fun x hx=>by
  refine ⟨.tuple #[],g.w,g,?_,rfl,Ext.refl g,hi,Rep.tup [] [] rfl (by simp)⟩
  rcases hx with rfl | ⟨a,c,rfl⟩ <;> simp [Builtin.clear_,run_underlying hte]
 split at hd
 ·injection hd with hd
  injection hd with hd1 hd2
  subst hd1;subst hd2
  exact done _ (.inl (by cases hx;rfl))
 ·injection hd with hd
  injection hd with hd1 hd2
  subst hd1;subst hd2
  obtain ⟨ad,cap,hv,_⟩:=hx.sl_len
  exact done _ (.inr ⟨ad,cap,by simpa using hv⟩)
 ·injection hd with hd
  injection hd with hd1 hd2
  subst hd1;subst hd2
  obtain ⟨m,cap,hv,_⟩:=hx.msl_inv
  exact done _ (.inr ⟨_,cap,hv⟩)
 ·rename_i sz o r n hn0 hblt
  have hpos:0<j.sz:=Nat.le_of_ble_eq_true hblt
  split at hd
  case h_2=>cases hd
  rename_i U z rows ho
  split at hd
  case isFalse=>cases hd
  rename_i hc
  obtain ⟨rfl,rfl⟩:=hc
  injection hd with hd
  injection hd with hd1 hd2
  subst hd1;subst hd2
  obtain ⟨m,cap,hv,hms,hm,hn,hlo,hhi,hcm⟩:=hx.msl_inv
  obtain ⟨m',cs,hm',hl⟩:=hi.live o U j.sz rows ho
  rw [hm] at hm'
  injection hm' with hm'
  subst hm'
  subst hv
  obtain ⟨fr,hb,hfr⟩:=hl.blk
  have hfl:=a1H rows hl.row
  have hroom:=hl.room
  have hlenr:=hl.len
  obtain ⟨zv,hz,hzz,hzs,hz1⟩:=hT.zrun hj
  have hzl:zv.cells.toList.length=j.sz:=by simpa using hzs
  have hzr:RepL g (List.replicate n zv.cells.toList).flatten (List.replicate n j.zero).flatten:=by
   rw [hzz];exact a1N (a1x g _) n
  have hz1':∀ v∈(List.replicate n zv.cells.toList).flatten,v.oneCell'=true:=fun v hv=>by
   obtain ⟨l,h1,h2⟩:=List.mem_flatten.1 hv
   rw [List.eq_of_mem_replicate h1] at h2
   exact hz1 v h2
  have hzlen:(List.replicate n zv.cells.toList).flatten.length=n*j.sz:=by simp [hzl]
  have hzlen2:(List.replicate n j.zero).flatten.length=n*j.sz:=by rw [← hzr.length];exact hzlen
  have hbound:r*j.sz+n*j.sz≤rows.length*j.sz:=by
   rw [← Nat.add_mul]
   exact Nat.mul_le_mul_right _ (by omega)
  have hfit:rows.length*j.sz≤cs.size:=by
   have:rows.length*j.sz≤m.cap*j.sz:=Nat.mul_le_mul_right _ (by have:=hl.le;omega)
   omega
  obtain ⟨w',hst,hs⟩:=a1p (P:=P) (i:=r*j.sz) (List.replicate n zv.cells.toList).flatten g.w cs.toList 0 (T:=U) (fr:=fr) (b:=m.b) (by simpa using hb) (by simpa using hfr.weak) (by rw [hzlen];simp;omega) hz1'
  simp only [Nat.add_zero] at hs
  obtain ⟨g',hw,he,hinv,hmm⟩:=a3n (rows':=rows.take r++List.replicate n j.zero++rows.drop (r+n)) hi ho hm hl hfr hzr hz1' (p:=r*j.sz) (by rw [hfl,hzlen2];exact hbound) (by
   unfold spl
   rw [List.flatten_append,List.flatten_append,a2T rows r hl.row,a3N rows _ hl.row,hzlen2,Nat.add_mul]) (by simp;omega) (fun q hq=>by
    simp only [c9j] at hq
    rcases hq with (hq | hq) | hq
    ·exact hl.row q (List.mem_of_mem_take hq)
    ·rw [List.eq_of_mem_replicate hq,hzz,c8T];exact hzl
    ·exact hl.row q (List.mem_of_mem_drop hq)) hs
  refine ⟨.tuple #[],w',g',?_,hw,he,hinv,Rep.tup [] [] rfl (by simp)⟩
  have hn1:n≠0:=hn0
  obtain ⟨k,rfl⟩:∃ k,n=k+1:=⟨n - 1,by omega⟩
  have hzc:=a3y hzl (k+1)
  rw [show zv.cells.toList.toArray=zv.cells by simp] at hzc
  rw [hms]
  simp only [Builtin.clear_,Sem.run_bind]
  simp [run_underlying hte,hz,hzc,hst]
 ·cases hd
variable {ρ:Operand→Value} {dst:Option Tmp} {pos:String} {af:Array Edge} {gd:Option (Nat × Bool)}
theorem a7u (hT:TabOK P T) (hi:Inv g h) {s t e:Nat} {x:Operand} {l:List UInt8} (hx:Rep g (ρ x) (.str l)) {i j k:TI} (hs:T s=some i) (htd:i.td = .str) (ht:T t=some j) (htd2:j.td = .sl e) (hk:T e=some k) (hkd:k.td = .int .u8) (hlim:lim l.length 1=true) :
  a5o P ρ ⟨dst,.convert s t x,ty,pos,af,gd⟩ g (a1h h e 1 (a1E l)) (.msl 1 h.length 0 l.length):=by
 simp only [lim,Bool.and_eq_true] at hlim
 have hl1:=Nat.le_of_ble_eq_true hlim.1
 have hl2:=Nat.le_of_ble_eq_true hlim.2
 have hv:ρ x = .string ⟨l.toArray⟩:=by generalize hv:ρ x=v at hx;cases hx;rfl
 have hu1:=hT.str hs htd
 have hu2:=hT.sl ht htd2
 have hu3:=hT.int hk hkd
 have hrun:=run_bytes_of_string (P:=P) g.w s t e ⟨l.toArray⟩ hu1 hu2 hu3
 rw [a2I] at hrun
 obtain ⟨c,hc⟩:∃ c,c=grownCap g.w l.length 0 e:=⟨_,rfl⟩
 rw [← hc] at hrun
 have hcut:l.length≤c∧c≤9223372036854775807:=by
  subst hc
  show l.length≤l.length+g.w.tape g.w.drawn (.appendCap l.length 0 e) % (2 ^ 63 - l.length)∧l.length+g.w.tape g.w.drawn (.appendCap l.length 0 e) % (2 ^ 63 - l.length)≤9223372036854775807
  have hp:0<2 ^ 63 - l.length:=by omega
  have:=Nat.mod_lt (g.w.tape g.w.drawn (.appendCap l.length 0 e)) hp
  generalize g.w.tape g.w.drawn (.appendCap l.length 0 e) % (2 ^ 63 - l.length)=q at this
  omega
 have hbr:bytesRow ⟨l.toArray⟩ c=(l.map fun b=>Value.int .u8 b.toNat).toArray++Array.replicate (c - l.length) (.int .u8 0):=by
  simp [bytesRow,a2I]
 rw [hbr] at hrun
 have hlen:(a1E l).length=l.length:=by simp [a1E]
 have hrow:∀ r∈a1E l,r.length=1:=fun r hr=>by
  obtain ⟨b,_,rfl⟩:=c9k.1 hr
  rfl
 obtain ⟨C,hC⟩:∃ C:Array Value,C=(l.map fun b:UInt8=>Value.int .u8 b.toNat).toArray++Array.replicate (c - l.length) (Value.int .u8 0):=⟨_,rfl⟩
 rw [← hC] at hrun
 have hCs:C.size=c:=by rw [hC];simp;omega
 obtain ⟨g',hw,he,hinv,hm⟩:=a2C hi (w':=g.w.drew.alloc (.cells C e (C.size,C.size+1))) (U:=e) (sz:=1) (cap:=c) (rows:=a1E l) rfl rfl rfl rfl (.inr ⟨Nat.le_refl _,rfl⟩) (by decide) (by omega) (by omega) hrow
  (a1k (a3I l) (fun v hv=>by
   obtain ⟨b,_,rfl⟩:=c9k.1 hv
   rfl) hrow (fun q v hq=>by
   rw [hC,Array.getElem?_append_left (by simpa using (c9d.1 hq).1)]
   simpa using hq))
 rw [hlen] at hm
 refine ⟨.value (.slice (some ⟨g.w.heap.size,0,none⟩) l.length c),_,g',?_,hw,he,hinv,.inl ⟨_,rfl,?_⟩⟩
 ·simp only [execOp,Sem.run_bind,hv,hrun,Result.andThen_ok,Sem.run_pure]
 ·have:=Rep.msl (g:=g') h.length 0 l.length c _ hm (by simp) (by simp;omega) (by simp) hcut.2
  simpa using this
theorem b1o (hT:TabOK P T) (hi:Inv g h) {s t:Nat} {x:Operand} {dx:D} (hx:Rep g (ρ x) dx) {d:D} {h':Hp} (hd:b6r T h s t dx=some (d,h')) :
  a5o P ρ ⟨dst,.convert s t x,ty,pos,af,gd⟩ g h' d:=by
 unfold b6r at hd
 split at hd
 ·rename_i j ht
  split at hd
  ·rename_i e o r n htd
   split at hd
   ·rename_i k U rows hk ho
    split at hd
    ·rename_i hkd
     split at hd
     ·rename_i hst
      injection hd with hd
      injection hd with hd1 hd2
      subst hd1;subst hd2;subst hst
      obtain ⟨m,cap,hv,hms,hm,hn,hlo,hhi,hcm⟩:=hx.msl_inv
      obtain ⟨m',cs,hm',hl⟩:=hi.live o U 1 rows ho
      rw [hm] at hm'
      injection hm' with hm'
      subst hm'
      obtain ⟨fr,hb,hfr⟩:=hl.blk
      have hblt:=(Array.getElem?_eq_some_iff.1 hb).1
      have hu:=hT.sl ht htd
      have hu3:=hT.int hk hkd
      obtain ⟨fr',hfr',hset⟩:∃ fr',Fr fr' cs.size 1∧Set1 g.w (g.w.freeze ⟨m.b,cs.size,none⟩ 1) m.b (.cells cs U fr'):=by
       obtain ⟨lo,hi⟩:=fr
       refine ⟨if lo==hi then (cs.size,cs.size+1) else (min lo cs.size,max hi (cs.size+1)),?_,?_⟩
       ·split
        ·exact .inr ⟨Nat.le_refl _,rfl⟩
        ·rename_i hne
         rcases hfr with hh | ⟨hh,_⟩
         ·injection hh with h1 h2
          subst h1;subst h2
          simp at hne
         ·exact .inr ⟨by show cs.size≤min lo cs.size;simp at hh;omega,rfl⟩
       ·have hfz:g.w.freeze ⟨m.b,cs.size,none⟩ 1={ g.w with heap:=g.w.heap.modify m.b fun
            | .cells c elem (lo,hi) => .cells c elem (if lo==hi then (cs.size,cs.size+1) else (min lo cs.size,max hi (cs.size+1)))
            | o=>o }:=rfl
        rw [hfz]
        refine ⟨?_,fun k hk=>?_,by simp,rfl,rfl,rfl⟩
        ·show (g.w.heap.modify m.b _)[m.b]?=_
         rw [Array.getElem?_eq_getElem (by rw [Array.size_modify];exact hblt),Array.getElem_modify_self]
         rw [(Array.getElem?_eq_some_iff.1 hb).2]
        ·show (g.w.heap.modify m.b _)[k]?=_
         rw [Array.getElem?_modify,if_neg (Ne.symm hk)]
      obtain ⟨g',hw,he,hinv,hmm⟩:=a8c hi ho hm hl hset hfr' rfl rfl hl.row hl.cell
      have hsame:h.set o (.row U 1 rows)=h:=by
       apply List.ext_getElem?
       intro q
       by_cases hq:q=o
       ·subst hq
        rw [List.getElem?_set_self (c9d.1 ho).1,ho]
       ·rw [c9m (Ne.symm hq)]
      rw [hsame] at hinv
      have hsh:g.w.shape? m.b=some (U,cs.size):=by
       unfold World.shape?
       rw [hb]
      refine ⟨.value (ρ x),_,g',?_,hw,he,hinv,.inl ⟨_,rfl,hx.ext he⟩⟩
      rw [hv]
      simp [execOp,convert,hv,run_underlying hu,run_underlying hu3,markStringish,hsh]
     ·cases hd
    ·cases hd
   ·cases hd
  ·cases hd
 ·cases hd
theorem b4b (hT:TabOK P T) (hi:Inv g h) {ρ:Operand→Value} {dst:Option Tmp} {ty:TypeId} {pos:String} {af:Array Edge} {gd:Option (Nat × Bool)} {t:TypeId} {x:Operand} {lo hi':Option Operand} {c:Operand} {ds:List D} {d:D} {h':Hp}
  (hr:RepL g ((Op.operands (.slice t x lo hi' (some c))).toList.map ρ) ds) (hd:c2l T h t lo.isSome hi'.isSome ds=some (d,h')):a5o P ρ ⟨dst,.slice t x lo hi' (some c),ty,pos,af,gd⟩ g h' d:=by
 unfold c2l at hd
 split at hd
 ·rename_i d' hs
  injection hd with hd
  injection hd with hd1 hd2
  subst hd1;subst hd2
  obtain ⟨v,w',g',hrun,hw,he,hm,hL,hold,hrep⟩:=a7V hT (fun b hb=>hi.Llt hb) ⟨dst,.slice t x lo hi' (some c),ty,pos,af,gd⟩ hr (show a2E T _ ds=some d' from hs)
  exact ⟨_,w',g',hrun,hw,he,hi.same he hm hL hold,.inl ⟨v,rfl,hrep⟩⟩
 ·split at hd
  ·rename_i sz o n k1 a k2 b q1 q2 q3
   split at hd
   ·rename_i U z rows i ho ht
    split at hd
    ·rename_i e htd
     split at hd
     ·rename_i j hj
      split at hd
      ·rename_i hc
       obtain ⟨rfl,rfl,rfl,h0,han,hnr⟩:=hc
       injection hd with hd
       injection hd with hd1 hd2
       subst hd1;subst hd2
       have hlo0:lo=none:=by cases lo <;> simp_all
       obtain ⟨hq,rfl⟩:∃ q,hi'=some q:=by cases hi' <;> simp_all
       subst hlo0
       have hop:(Op.operands (.slice t x none (some hq) (some c))).toList.map ρ=[ρ x,ρ hq,ρ c]:=by simp [Op.operands]
       rw [hop] at hr
       cases hr with
       | cons hx hr=>cases hr with
        | cons hb hr=>cases hr with
         | cons hcc hr =>
          obtain ⟨m,cap,hv,hms,hm,hn,hlo,hhi,hcm⟩:=hx.msl_inv
          obtain ⟨m',cs,hm',hl⟩:=hi.live o U j.sz rows ho
          rw [hm] at hm'
          injection hm' with hm'
          subst hm'
          obtain ⟨g1,hw1,he1,hi1,_,hfz,_⟩:=a5M hi ho hm
          obtain ⟨fr,hbk,_⟩:=hl.blk
          have hcell:∀ i,g1.w.cell? ⟨m.b,i,none⟩=cs[i]?:=fun i=>by rw [hw1];simp only [World.cell?,hbk];simp
          have hlen:=hl.len
          have hget:∀ (i:Nat) (row:List D),(rows.take n)[i]?=some row→rows[i]?=some row:=fun i row hh=>by
           rw [List.getElem?_take] at hh
           split at hh
           ·exact hh
           ·cases hh
          have hx1:Rep g1 (ρ x) (.sl j.sz false (rows.take n)):=by
           rw [hv]
           refine Rep.sl _ n cap j.sz false (rows.take n) (by simp;omega) (by omega) hcm (fun hh=>by cases hh) hl.pos (fun row hh=>hl.row row (List.mem_of_mem_take hh)) (fun _=>⟨rfl,hfz⟩) (fun p q=>(cs[p*j.sz+q]?).getD undef) ?_ ?_ ?_
           ·intro p row hp q dd hdd
            obtain ⟨v,c1,_,_⟩:=hl.cell p row (hget p row hp) q dd hdd
            show g1.w.cell? ⟨m.b,0*m.sz+p*j.sz+q,none⟩=_
            rw [hcell,Nat.zero_mul,Nat.zero_add,c1];rfl
           ·intro p row hp q dd hdd
            obtain ⟨v,c1,c2,_⟩:=hl.cell p row (hget p row hp) q dd hdd
            rw [c1];exact c2
           ·intro p row hp q dd hdd
            obtain ⟨v,c1,_,c3⟩:=hl.cell p row (hget p row hp) q dd hdd
            rw [c1];exact c3.ext he1
          have e1:∃ k,ρ hq = .int k a:=by
           generalize ρ hq=u at hb
           cases hb
           exact ⟨_,rfl⟩
          have e2:∃ k,ρ c = .int k a:=by
           generalize ρ c=u at hcc
           cases hcc
           exact ⟨_,rfl⟩
          have hd':a1t T t (.sl j.sz false (rows.take n)) none (some a) (some a)=some (.sl j.sz true (rows.take a.toNat)):=by
           have ha:a≤((rows.take n).length:Int):=by simp;omega
           have htt:(rows.take n).take a.toNat=rows.take a.toNat:=by
            rw [List.take_take]
            congr 1
            omega
           simp only [a1t,ht,htd,hj,Option.getD_some,Option.getD_none,true_and,Int.le_refl,h0,ha,and_self,if_true,decide_true,Int.toNat_zero,List.drop_zero,htt]
          obtain ⟨v,hrun,hrep⟩:=a1P (g:=g1) (ρ:=ρ) (dst:=dst) (ty:=ty) (pos:=pos) (af:=af) (gd:=gd) hT (lo:=none) (hi:=some hq) (mx:=some c) (l:=none) (h:=some a) (m:=some a) hx1 trivial e1 e2 (by simp) hd'
          rw [hw1] at hrun
          exact ⟨_,g.w,g1,hrun,hw1,he1,hi1,.inl ⟨v,rfl,hrep⟩⟩
      ·cases hd
     ·cases hd
    ·cases hd
   ·cases hd
  ·cases hd
theorem a3p (hT:TabOK P T) (hi:Inv g h) (o:Oper) {ds:List D} {d:D} {h':Hp} (hr:RepL g (o.op.operands.toList.map ρ) ds) (hd:a3i T h o.op ds=some (d,h')):a5o P ρ o g h' d:=by
 obtain ⟨dst,op,ty,pos,af,gd⟩:=o
 simp only at hr hd
 have in2:∀ {x y:Operand} {d1 d2:D},RepL g [ρ x,ρ y] [d1,d2]→Rep g (ρ x) d1∧Rep g (ρ y) d2:=fun hh=>by
  cases hh with
  | cons h1 r=>cases r with
   | cons h2 r=>exact ⟨h1,h2⟩
 cases op <;> simp only [a3i] at hd
 case store t x y =>
  split at hd
  ·rename_i p v
   obtain ⟨hx,hy⟩:=in2 hr
   cases hs:a0p T h t p v with
   | none=>rw [hs] at hd;cases hd
   | some h1 =>
    rw [hs] at hd
    injection hd with hd
    injection hd with hd1 hd2
    subst hd1;subst hd2
    exact b0u hT hi hx hy hs
  ·cases hd
 case alloc e =>
  split at hd
  ·rename_i i ht
   split at hd
   ·rename_i hpos
    injection hd with hd
    injection hd with hd1 hd2
    subst hd1;subst hd2
    exact a4N hT hi ht hpos
   ·cases hd
  ·cases hd
 case box e x =>
  split at hd
  ·rename_i i dx ht
   obtain ⟨v,hv,hx⟩:=b0F hr
   simp [Op.operands] at hv
   subst hv
   split at hd
   ·rename_i hc
    obtain ⟨hc1,hc2,hc3⟩:=hc
    injection hd with hd
    injection hd with hd1 hd2
    subst hd1;subst hd2
    exact a6B hT hi hx hc1 hc2 hc3
   ·cases hd
  ·cases hd
 case buildSlice t n ps =>
  have:(Op.operands (.buildSlice t n ps)).toList.map ρ=ps.toList.map fun x=>ρ x.2:=by simp [Op.operands]
  rw [this] at hr
  cases hl:a2d T t n (ps.toList.map (·.1)) ds with
  | none=>rw [hl] at hd;cases hd
  | some q =>
   rw [hl] at hd
   obtain ⟨E,sz,rows⟩:=q
   injection hd with hd
   injection hd with hd1 hd2
   subst hd1;subst hd2
   exact a6C hT hi hr hl
 case slice t x lo hi' mx =>
  cases mx with
  | none=>cases hd
  | some c=>exact b4b hT hi hr hd
 case makeSlice t n c =>
  split at hd
  ·obtain ⟨hx,hy⟩:=in2 hr
   exact b1n hT hi hx hy hd
  ·cases hd
 case convert s t x =>
  split at hd
  ·rename_i i j l hs ht
   obtain ⟨v,hv,hx⟩:=b0F hr
   simp [Op.operands] at hv
   subst hv
   split at hd
   ·rename_i e htd htd2
    split at hd
    ·rename_i k hk
     split at hd
     ·rename_i hkd
      split at hd
      ·rename_i l
       split at hd
       ·rename_i hlim
        injection hd with hd
        injection hd with hd1 hd2
        subst hd1;subst hd2
        exact a7u hT hi hx hs htd ht htd2 hk hkd hlim
       ·cases hd
      ·cases hd
     ·cases hd
    ·cases hd
   ·exact b1o hT hi hx hd
   ·cases hd
  ·cases hd
 case call c =>
  obtain ⟨callee,args,ts⟩:=c
  simp only at hd
  cases callee with
  | value f=>simp at hd
  | invoke r m=>simp at hd
  | builtin b =>
   have hr':RepL g (args.toList.map ρ) ds:=by simpa [Op.operands,Call.operands] using hr
   have two:∀ {dx dy:D} {t u:Nat},ds=[dx,dy]→ts.toList=[t,u]→∃ x y,args = #[x,y]∧ts = #[t,u]∧Rep g (ρ x) dx∧Rep g (ρ y) dy:=fun {dx dy t u} h1 h2=>by
    subst h1
    have hl:=hr'.length
    obtain ⟨l⟩:=args
    obtain ⟨q⟩:=ts
    simp only at h2
    subst h2
    cases l with
    | nil=>simp at hl
    | cons x l=>cases l with
     | nil=>simp at hl
     | cons y l=>cases l with
      | nil =>
       cases hr' with
       | cons hx r=>cases r with
        | cons hy r=>exact ⟨x,y,rfl,rfl,hx,hy⟩
      | cons z l=>simp at hl
   cases b <;> simp only at hd
   case append =>
    split at hd
    ·rename_i dx dy t u hts
     obtain ⟨x,y,rfl,rfl,hx,hy⟩:=two rfl hts
     obtain ⟨v,w',g',hrun,hw,he,hinv,hrep⟩:=b0S (ty:=ty) hT hi hx hy hd
     exact ⟨.value v,w',g',by simp [execOp,resolve,invoke,builtin,hrun],hw,he,hinv,.inl ⟨v,rfl,hrep⟩⟩
    ·cases hd
   case copy =>
    split at hd
    ·rename_i dx dy t u hts
     obtain ⟨x,y,rfl,rfl,hx,hy⟩:=two rfl hts
     obtain ⟨v,w',g',hrun,hw,he,hinv,hrep⟩:=b6m (ty:=ty) hT hi hx hy hd
     exact ⟨.value v,w',g',by simp [execOp,resolve,invoke,builtin,hrun],hw,he,hinv,.inl ⟨v,rfl,hrep⟩⟩
    ·cases hd
   case clear =>
    split at hd
    ·rename_i dx t hts
     obtain ⟨x,rfl,rfl,hx⟩:∃ x,args = #[x]∧ts = #[t]∧Rep g (ρ x) dx:=by
      have hl:=hr'.length
      obtain ⟨l⟩:=args
      obtain ⟨q⟩:=ts
      simp only at hts
      subst hts
      cases l with
      | nil=>simp at hl
      | cons x l=>cases l with
       | nil =>
        cases hr' with
        | cons hx r=>exact ⟨x,rfl,rfl,hx⟩
       | cons y l=>simp at hl
     obtain ⟨v,w',g',hrun,hw,he,hinv,hrep⟩:=b3W (ty:=ty) hT hi hx hd
     exact ⟨.value v,w',g',by simp [execOp,resolve,invoke,builtin,hrun],hw,he,hinv,.inl ⟨v,rfl,hrep⟩⟩
    ·cases hd
   all_goals cases hd
 all_goals cases hd
end wr
end Go.Pi
