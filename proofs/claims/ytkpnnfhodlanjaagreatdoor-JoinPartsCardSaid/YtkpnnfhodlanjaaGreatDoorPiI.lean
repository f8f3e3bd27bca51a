/- Reading live objects. No program is named here. -/
import Derived.Test.YtkpnnfhodlanjaaGreatDoorPiH
set_option linter.unusedSimpArgs false
set_option linter.unusedVariables false
set_option linter.unnecessarySimpa false
namespace Go.Pi
open Go.Eng
section rd
variable {P:Program} {T:Tab} {g:Gh} {h:Hp}
theorem Live.at {m:Me} {U sz:Nat} {rows:List (List D)} {cs:Array Value} (hl:Live g m U sz rows cs) {k:Nat} {row:List D} (hk:rows[k]?=some row):∃ vs,At g m.b (k*sz) vs row:=by
 obtain ⟨fr,hb,_⟩:=hl.blk
 have hcell:∀ i,g.w.cell? ⟨m.b,i,none⟩=cs[i]?:=fun i=>by simp only [World.cell?,hb];simp
 refine ⟨_,At.of (fun j=>cs.getD (k*sz+j) undef) (fun j d hj=>?_) (fun j d hj=>?_) (fun j d hj=>?_)⟩
 all_goals
  obtain ⟨v,h1,h2,h3⟩:=hl.cell k row hk j d hj
  have hgd:cs.getD (k*sz+j) undef=v:=by rw [Array.getD_eq_getD_getElem?,h1];rfl
 ·rw [hcell,h1,hgd]
 ·rw [hgd];exact h2
 ·rw [hgd];exact h3
theorem At.append {b o:Nat} {vs us:List Value} {cs ds:List D} (h:At g b o vs cs) (k:At g b (o+vs.length) us ds):At g b o (vs++us) (cs++ds):=by
 refine ⟨fun j v hj=>?_,fun v hv=>?_,h.2.2.append k.2.2⟩
 ·rcases Nat.lt_or_ge j vs.length with hlt | hge
  ·rw [c9l hlt] at hj
   exact h.1 j v hj
  ·rw [List.getElem?_append_right hge] at hj
   have:=k.1 _ v hj
   rwa [Nat.add_assoc,show vs.length+(j - vs.length)=j from by omega] at this
 ·rcases c9j.1 hv with hv | hv
  ·exact h.2.1 v hv
  ·exact k.2.1 v hv
theorem At.rows {b sz:Nat}:∀ (rows:List (List D)) (o:Nat),(∀ r∈rows,r.length=sz)→(∀ (i:Nat) (row:List D),rows[i]?=some row→∃ vs,At g b (o+i*sz) vs row)→∃ vs,At g b o vs rows.flatten
 | [],o,_,_=>⟨[],by simp,by simp,by simpa using RepL.nil⟩
 | r::rows,o,hs,h=>by
  obtain ⟨vs,hv⟩:=h 0 r rfl
  have hr:=hs r (List.mem_cons_self ..)
  have hlen:=hv.2.2.length
  obtain ⟨us,hu⟩:=At.rows rows (o+vs.length) (fun r hr=>hs r (List.mem_cons_of_mem _ hr)) (fun i row hi=>by
   obtain ⟨ws,hw⟩:=h (i+1) row (by simpa using hi)
   refine ⟨ws,?_⟩
   rw [Nat.add_mul,Nat.one_mul] at hw
   rwa [hlen,hr,Nat.add_assoc,Nat.add_comm sz]
   )
  rw [Nat.zero_mul,Nat.add_zero] at hv
  exact ⟨vs++us,by rw [List.flatten_cons];exact hv.append hu⟩
theorem a5g (hi:Inv g h) {v:Value} {d:D} (hv:Rep g v d) {sz:Nat} {rows:List (List D)} (hd:a1b h sz d=some rows) (hpos:0<sz) :
  ∃ a cap news,v = .slice a rows.length cap∧(∀ r∈rows,r.length=sz)∧news.length=rows.length*sz∧RepL g news rows.flatten∧(∀ u∈news,u.oneCell'=true)∧(rows≠[]→∃ b o,a=some ⟨b,o,none⟩∧At g b o news rows.flatten):=by
 unfold a1b at hd
 split at hd
 ·injection hd with hd
  subst hd
  cases hv
  exact ⟨none,0,[],rfl,by simp,by simp,by simpa using RepL.nil,by simp,by simp⟩
 ·split at hd
  ·rename_i z full rows' hz
   subst hz
   injection hd with hd
   subst hd
   cases hrows:rows' with
   | nil =>
    subst hrows
    obtain ⟨ad,cap,hv',_⟩:=hv.sl_len
    exact ⟨some ad,cap,[],hv',by simp,by simp,by simpa using RepL.nil,by simp,by simp⟩
   | cons r0 rr =>
    rw [← hrows]
    have h0:rows'[0]?=some r0:=by rw [hrows];rfl
    obtain ⟨b,o,n,cap,vs0,hv',hn,_,_,_⟩:=hv.sl_row h0
    have hrl:∀ r∈rows',r.length=z:=fun r hr=>by
     obtain ⟨i,hi'⟩:=List.getElem?_of_mem hr
     obtain ⟨_,_,_,_,_,_,_,_,_,hl⟩:=hv.sl_row hi'
     exact hl
    obtain ⟨news,hat⟩:=At.rows (g:=g) (b:=b) rows' o hrl (fun i row hi'=>by
     obtain ⟨b',o',n',cap',vs',hv'',_,_,hat,_⟩:=hv.sl_row hi'
     rw [hv'] at hv''
     injection hv'' with e1 e2 e3
     injection e1 with e1
     injection e1 with e1 e4 e5
     subst e1;subst e4
     exact ⟨vs',hat⟩)
    have hl:=hat.2.2.length
    have hfl:=a1H rows' hrl
    exact ⟨some ⟨b,o,none⟩,cap,news,by rw [hv',hn],hrl,by omega,hat.2.2,hat.2.1,fun _=>⟨b,o,rfl,hat⟩⟩
  ·cases hd
 ·split at hd
  ·rename_i z o r n hz
   subst hz
   split at hd
   ·rename_i U z' rows' ho
    injection hd with hd
    subst hd
    obtain ⟨m,cap,hv',hms,hm,hn,hlo,hhi,hcm⟩:=hv.msl_inv
    obtain ⟨m',cs,hm',hl⟩:=hi.live o U z' rows' ho
    rw [hm] at hm'
    injection hm' with hm'
    subst hm'
    have hz':=hl.hsz
    rw [hms] at hz'
    subst hz'
    have hlen:((rows'.drop r).take n).length=n:=by have:=hl.len;simp;omega
    have hrl:∀ q∈(rows'.drop r).take n,q.length=z:=fun q hq=>hl.row q (List.mem_of_mem_drop (List.mem_of_mem_take hq))
    obtain ⟨news,hat⟩:=At.rows (g:=g) (b:=m.b) ((rows'.drop r).take n) (r*z) hrl (fun i row hi'=>by
     rw [List.getElem?_take] at hi'
     split at hi'
     ·rw [List.getElem?_drop] at hi'
      obtain ⟨vs,hat⟩:=hl.at hi'
      exact ⟨vs,by rwa [Nat.add_mul] at hat⟩
     ·cases hi')
    have hll:=hat.2.2.length
    have hfl:=a1H _ hrl
    refine ⟨some ⟨m.b,r*m.sz,none⟩,cap,news,by rw [hlen];exact hv',hrl,by omega,hat.2.2,hat.2.1,fun _=>⟨m.b,r*m.sz,rfl,by rw [hms];exact hat⟩⟩
   ·cases hd
  ·cases hd
 ·cases hd
theorem a5u:∀ (rows:List (List D)) (s:List UInt8) (news:List Value),a4k rows=some s→RepL g news rows.flatten→∃ ns:List Int,news=ns.map (fun n=>Value.int .u8 n)∧s=ns.map fun n=>UInt8.ofNat n.toNat
 | [],s,news,h,hr=>by
  simp [a4k] at h
  subst h
  cases hr
  exact ⟨[],rfl,rfl⟩
 | row::r,s,news,h,hr=>by
  unfold a4k at h
  split at h
  ·rename_i heq;cases heq
  ·rename_i n r' heq
   injection heq with e1 e2
   subst e1;subst e2
   split at h
   ·rename_i s' hs'
    injection h with h
    subst h
    simp only [List.flatten_cons,List.cons_append,List.nil_append] at hr
    cases hr with
    | cons hv hr =>
     cases hv
     obtain ⟨ns,h1,h2⟩:=a5u r s' _ hs' hr
     exact ⟨n::ns,by simp [h1],by simp [h2]⟩
   ·cases h
  ·cases h
theorem a8s (ns:List Int):∀ s:ByteArray,ns.foldl (fun r n=>r.push (UInt8.ofNat n.toNat)) s=⟨(s.data.toList++ns.map fun n=>UInt8.ofNat n.toNat).toArray⟩:=by
 induction ns with
 | nil=>intro s;simp
 | cons n r ih =>
  intro s
  rw [List.foldl_cons,ih]
  apply ByteArray.ext
  simp [ByteArray.push]
theorem a9w (hT:TabOK P T) (hi:Inv g h) {t:Nat} {v:Value} {dx d:D} (hx:Rep g v dx) (hd:a0c T h t dx=some d):∃ u,(Instr.loadAt t v).run P g.w = .ok u g.w∧Rep g u d:=by
 unfold a0c at hd
 split at hd
 ·rename_i i ht
  split at hd
  ·obtain ⟨b,o,vs,rfl,_,hat⟩:=hx.fptr_inv
   obtain ⟨u,hr,hu⟩:=b2u hT ht hat hd
   exact ⟨u,by simp [Instr.loadAt,Instr.sureAddr,hr],hu⟩
  ·rename_i o k off
   split at hd
   ·rename_i row hrow
    unfold Hp.row at hrow
    split at hrow
    ·rename_i U sz rows ho
     cases hx with
     | ptr o k off m hm =>
      obtain ⟨m',cs,hm',hl⟩:=hi.live o U sz rows ho
      rw [hm] at hm'
      injection hm' with hm'
      subst hm'
      obtain ⟨vs,hat⟩:=hl.at hrow
      obtain ⟨u,hr,hu⟩:=b2u hT ht (hat.drop off) hd
      refine ⟨u,?_,hu⟩
      rw [← hl.hsz] at hr
      simp [Instr.loadAt,Instr.sureAddr,hr]
    ·cases hrow
   ·cases hd
  ·cases hd
 ·cases hd
theorem b2P (hT:TabOK P T) (hi:Inv g h) {ρ:Operand→Value} (o:Oper) {ds:List D} {d:D} (hr:RepL g (o.op.operands.toList.map ρ) ds) (hd:a2Z T h o.op ds=some d):DoesV P ρ o g d:=by
 obtain ⟨dst,op,ty,pos,af,gd⟩:=o
 simp only at hr hd
 cases op <;> simp only [a2Z] at hd
 case load t x =>
  split at hd
  ·obtain ⟨v,hv,hx⟩:=b0F hr
   simp [Op.operands] at hv
   subst hv
   obtain ⟨u,hrun,hu⟩:=a9w hT hi hx hd
   exact ⟨u,by simp [execOp,hrun],hu⟩
  ·cases hd
 case convert s t x =>
  split at hd
  ·rename_i i j hs ht
   split at hd
   ·rename_i e htd htd2
    split at hd
    ·rename_i k hk
     split at hd
     ·rename_i hkd
      split at hd
      ·obtain ⟨v,hv,hx⟩:=b0F hr
       simp [Op.operands] at hv
       subst hv
       unfold a3u at hd
       split at hd
       ·rename_i rows hrows
        split at hd
        ·rename_i str hstr
         injection hd with hd
         subst hd
         obtain ⟨a,cap,news,hv,hrl,hnl,hrep,h1,hat⟩:=a5g hi hx hrows (by decide)
         obtain ⟨ns,hns,hs'⟩:=a5u rows str news hstr hrep
         subst hns;subst hs'
         have hlen:ns.length=rows.length:=by simpa using hnl
         refine ⟨.string ⟨(ns.map fun n=>UInt8.ofNat n.toNat).toArray⟩,?_,.str _⟩
         have hu1:=hT.sl hs htd
         have hu2:=hT.str ht htd2
         have hu3:=hT.int hk hkd
         have hb:(Conv.bytesToString (ρ x)).run P g.w = .ok (.string ⟨(ns.map fun n=>UInt8.ofNat n.toNat).toArray⟩) g.w:=by
          rw [hv,← hlen]
          cases a with
          | none =>
           have hne:rows=[]:=by
            rcases rows with _ | ⟨r0,rr⟩
            ·rfl
            ·obtain ⟨b,o,hh,_⟩:=hat (by simp)
             cases hh
           subst hne
           have:ns=[]:=List.eq_nil_of_length_eq_zero (by simpa using hlen)
           subst this
           simp [Conv.bytesToString]
           rfl
          | some ad =>
           have hload:(loadCells ad ns.length).run P g.w = .ok (ns.map (Value.int .u8)).toArray g.w:=by
            have:=run_loadCells_list (P:=P) (w:=g.w) ad (ns.map (Value.int .u8)) (fun j v hj=>by
             have hne:rows≠[]:=fun hh=>by
              subst hh
              have:ns=[]:=List.eq_nil_of_length_eq_zero (by simpa using hlen)
              subst this
              cases hj
             obtain ⟨b,o,hh,hat2⟩:=hat hne
             injection hh with hh
             rw [hh,Addr.add_lit]
             exact hat2.1 j v hj)
            rwa [c8T] at this
           rw [run_bytesToString g.w ad ns.length cap ns hload,a8s]
           rfl
         simp only [execOp,Sem.run_bind]
         rw [hv] at hb ⊢
         rw [run_convert_bytes_string g.w s t e a _ cap hu1 hu3 hu2,hb]
         rfl
        ·cases hd
       ·cases hd
      ·cases hd
     ·cases hd
    ·cases hd
   ·cases hd
  ·cases hd
 all_goals cases hd
end rd
end Go.Pi
