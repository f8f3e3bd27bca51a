/- Laws, on plain data, about functions that the statement reaches. -/
import Derived.Test.YtlpedofpnbggbaaDoorL10
set_option linter.unusedSimpArgs false
set_option linter.unusedVariables false
set_option linter.unnecessarySimpa false
set_option maxRecDepth 100000
namespace Go.Proofs.YtlpedofpnbggbaaDoor
open Go.Eng Go.Pi
open Option (bind_some)
theorem law1121 (rs : List Int) (dr : D) (zs : List Int) (d : D) (at_ by_ : Int) (hr : Given .u8 rs dr) (hrz : ∀ z ∈ rs, 0 ≤ z ∧ z < 256) (hrl : rs.length ≤ 1048576) (hd : Given .u8 zs d) (hz : ∀ z ∈ zs, 0 ≤ z ∧ z < 256) (hzl : zs.length ≤ 9223372036854775807) (ha0 : 0 ≤ at_) (ha1 : at_ < 256) :
    ∃ h', R fn1121 [dr, d, .int .u8 at_, .int .u8 by_] [] = some (.bool true, h') := by
  suffices Wp (R fn1121 [dr, d, .int .u8 at_, .int .u8 by_] []) (fun p => p.1 = .bool true) by
    obtain ⟨⟨x, h'⟩, h1, rfl⟩ := this
    exact ⟨h', h1⟩
  have hrs : SlOf 1 byr rs dr := hr.imp id fun h => ⟨false, h⟩
  rw [e1121]
  simp only [F1121, bs, s1036, dUn_not, Bool.not_true, dIf_bool, Bool.false_eq_true, if_false, Option.bind_assoc]
  obtain ⟨h1, e1, c1, _, _⟩ := m10 zs d 160 [] hd (by omega) (by omega) hz hzl
  refine Wp.step e1 ?_
  simp only [bs]
  obtain ⟨i, h2, e2, c2, s2, hi⟩ := m1038 c1
  refine Wp.step e2 ?_
  have hbx : ∀ j : It, boxN 11 (.agg (itr j)) = some (.fptr (itr j)) := fun j => boxN_agg 11 _ rfl
  simp only [bs, hbx, ldIt]
  have Bi := itk_rb hi
  obtain ⟨j, h3, e3, c3, s3, Bj⟩ := m1123 c2 (by omega) (by omega) i Bi
  refine Wp.step e3 ?_
  simp only [bs]
  obtain ⟨v1, h4, e4, c4, s4⟩ := m119 c3
  refine Wp.step e4 ?_
  simp only [bs]
  obtain ⟨v2, H, e5, c5, s5⟩ := m119 c4
  refine Wp.step e5 ?_
  clear e1 e2 e3 e4 e5 c1 c2 c3 c4 s2 s3 s4 s5 c5
  have q4 : dFieldAddr tab ty31 4 (.fptr (evr i.e)) = some (.fptr [i.e.ld, .int .i64 i.e.a5, .int .i64 i.e.a6, .str i.e.s7, .str i.e.s8, i.e.fd]) := id rfl
  obtain ⟨k, hk, hkr⟩ : ∃ k : It, itr k = [.str [], .int .i64 0, .int .i64 0, .int .i64 v1, .int .i64 v2, i.e.ld, .int .i64 0, .int .i64 0, .str [], .str [], .nils] ∧ riOf k = ⟨[], 0, 0, v1, v2, i.e.ls, 0, 0, [], [], []⟩ :=
    ⟨⟨[], ⟨0, 0, v1, v2, i.e.ls, i.e.ld, 0, 0, [], [], [], .nils, SlOf.nils _ _, by simp, i.e.hld, i.e.hll⟩⟩, rfl, rfl⟩
  have Bk : RB 4 3 (riOf k) := by
    rw [hkr]; exact ⟨by simp, by simp, by simp, by simp, Bi.ls, Bi.lt, fun p hp => by cases hp⟩
  have hlit : pLitF tab ty113 3 [0, 1, 2] [.agg (itr i), .agg (itr j), .agg (itr k)] = some (.sl 11 true [itr i, itr j, itr k]) := by rw [hk]; exact id rfl
  have hsl : SlOf 11 itr [i, j, k] (.sl 11 true [itr i, itr j, itr k]) := .inr ⟨true, rfl⟩
  simp only [bs, itF1, q4, ld28, bd31_2_3_4 v1 v2 i.e.ld (slof_one i.e.hld), bd74_1, ← hk, hlit, lens113 hsl, chk_true]
  have good : ∀ x ∈ [i, j, k], RB 5 41 (riOf x) := fun x hx => by
    simp only [List.mem_cons, List.not_mem_nil, or_false] at hx
    rcases hx with rfl | rfl | rfl
    · exact Bi.le (by omega) (by omega)
    · exact Bj.le (by omega) (by omega)
    · exact Bk.le (by omega) (by omega)
  have hl3 : ([i, j, k] : List It).length = 3 := rfl
  generalize (.sl 11 true [itr i, itr j, itr k] : D) = dl at hsl
  generalize ([i, j, k] : List It) = xs at hsl good hl3
  rw [hl3]
  refine Wp.loop (fun m ds g => g = H ∧ ∃ a b c e f u w x, ∃ n : Nat, ds = [a, b, c, e, f, u, .int .i64 n, w, x] ∧ m + n = 3) (fun r => r.1 = .ext 0 ∧ r.2.2 = H) 3 ⟨rfl, _, _, _, _, _, _, _, _, 0, rfl, rfl⟩ ?_ ?_
  · rintro m ds g ⟨rfl, a, b, c, e, f, u, w, x, n, rfl, hk⟩
    simp only [F1121_L0, nth_zero, nth_succ, bs, Option.bind_assoc, dBin_lss]
    refine Wp.dif ?_ ?_
    · intro h0
      have h0 : n < 3 := by have : (n : Int) < ((3 : Nat) : Int) := by simpa using h0
                            omega
      obtain ⟨y, hy⟩ : ∃ y, xs[n]? = some y := ⟨xs[n]'(by omega), List.getElem?_eq_getElem (by omega)⟩
      have hw : IntKind.wrap .i64 ((n : Int) + 1) = ((n + 1 : Nat) : Int) := by rw [wrap_i64 (by omega) (by omega)]; omega
      have hix : dIndexAddr tab ty113 dl (.int .i64 n) = some (.fptr (itr y)) := by rw [ixs113 hsl, if_pos (by omega), Int.toNat_natCast, hy]; rfl
      obtain ⟨d1, d2, s, e1, e2, t1, t2⟩ := enc_both (good y (List.mem_of_getElem? hy)) (by omega) (by omega) g
      simp only [hix, ldIt, hbx, e1, e2, bs, dExtract_tup, List.getElem?_cons_zero, List.getElem?_cons_succ, dBin_neq, ne_eq, not_true, decide_false, gd_bool, if_true, t1, t2, dBin_sneq, beq_self_eq_true, Bool.not_true, dPick_bool, Bool.false_eq_true, if_false, dIf_bool, dBin_add, hw]
      exact .some (.inl ⟨rfl, m - 1, by omega, rfl, _, _, _, _, _, _, _, _, n + 1, rfl, by omega⟩)
    · intro h0
      exact .some (.inr ⟨by simp, rfl, rfl⟩)
  rintro ⟨ex, ds, g⟩ ⟨rfl, h2⟩
  simp only at h2
  subst h2
  clear hlit hsl good hl3 dl xs hk hkr Bk k Bj j q4 v1 v2
  simp only [unblk_self, toEnd_nrm, bs, ldIt, Option.bind_assoc]
  -- the bytes of the item
  have hbi := rb_body Bi (by omega) (by omega)
  obtain ⟨hRi, hb2⟩ := itk_r hi
  obtain ⟨tb, eb, sb⟩ := s1114 i (itE i) g (fun g => s1004g i g (rb_nm Bi)) (by omega)
  rw [hi.good] at eb sb
  rw [if_pos rfl] at sb
  have hL8 : 8 < (encI i).length := by
    rw [encI_len]
    simp only [bodyI, bodyB, bodyA, List.length_append, pI_len, pS_len, pN_len]
    omega
  have hLl : (encI i).length ≤ 20008 := by rw [encI_len]; omega
  have hLu := encI_u8 i
  generalize hL : encI i = L at *
  simp only [eb, bs, dExtract_tup, List.getElem?_cons_zero, List.getElem?_cons_succ]
  clear eb hbi hRi hb2 Bi hi hbx hL
  refine wap22 (n0 := g.length) (rows := []) (Nat.le_refl _) (.nils _ _ _ _) (slof_rows _ sb) (by simp only [List.length_map, List.length_nil]; omega) fun x81 g81 o81 l81q k81 _ _ => ?_
  rw [List.nil_append] at o81
  obtain ⟨o, ho, rfl, p81⟩ := own_ix o81 (i := 0) (by simp only [List.length_map]; omega)
  simp only [List.length_map]
  have hgt : (L.length : Int) > 0 := by omega
  have hwa : IntKind.wrap .i64 at_ = at_ := wrap_i64 (by omega) (by omega)
  have hne : ¬ ((L.length : Int) = 0) := by omega
  have hp0 := Int.tmod_nonneg (L.length : Int) ha0
  have hp1 := Int.tmod_lt_of_pos at_ (show (0 : Int) < (L.length : Int) by omega)
  obtain ⟨p, hp⟩ := Int.eq_ofNat_of_zero_le hp0
  rw [hp] at hp1
  obtain ⟨z, hz1⟩ : ∃ z, L[p]? = some z := ⟨_, List.getElem?_eq_getElem (by omega)⟩
  have hixp : dIndexAddr tab ty22 (.msl 1 o 0 L.length) (.int .i64 (p : Int)) = some (.ptr o p 0) := by rw [ixm22, if_pos (by omega)]; simp [-bind_some]
  have hldp : dLoad tab g81 ty5 (.ptr o p 0) = some (.int .u8 z) := by rw [ldp5, row_of p81, List.getElem?_map, hz1]; rfl
  simp only [bs, lenm22, dBin_gtr, hgt, decide_true, dIf_bool, if_true, cv5_3, hwa, dBin_rem, hne, if_false, hp, hixp, hldp, dBin_xor]
  simp only [Option.bind_assoc]
  generalize hW : IntKind.wrap .u8 ((BitVec.ofInt IntKind.u8.bits z ^^^ BitVec.ofInt IntKind.u8.bits by_).toNat : Int) = W
  have hWu : U8 W := by
    rw [← hW, wrap_u8m]; unfold U8; omega
  refine wst5 (kk := p) (off := 0) (row := byr z) (v := .int .u8 W) p81 (by rw [List.getElem?_map, hz1]; rfl) (by rfl) (by simp [-bind_some, byr]) (by rfl) fun g91q p91 s91q => ?_
  have hset : (L.map byr).set p (spl (byr z) 0 (cells1 (.int .u8 W))) = (L.set p W).map byr := by
    rw [show spl (byr z) 0 (cells1 (.int .u8 W)) = byr W from rfl, List.map_set]
  rw [hset] at p91
  have hlen1 : (L.set p W).length = L.length := by simp
  have hu1 : ∀ x ∈ L.set p W, U8 x := fun x hx => by
    rcases List.mem_or_eq_of_mem_set hx with hx | rfl
    · exact hLu x hx
    · exact hWu
  generalize L.set p W = l1 at *
  clear hset hW hixp hldp hz1 hp1 hp hp0 hwa hne hgt
  -- the bytes with the checksum made right
  simp only [bs, toEnd_nrm]
  have r91 : dRowsOf g91q 1 (.msl 1 o 0 L.length) = some (l1.map byr) := by
    have := rdB_rows (h := g91q) (l := l1) (d := .msl 1 o 0 l1.length) (.inr ⟨o, rfl, p91⟩)
    rw [hlen1] at this; exact this
  refine wap22 (n0 := g91q.length) (rows := []) (Nat.le_refl _) (.nils _ _ _ _) r91 (by simp only [List.length_map, List.length_nil]; omega) fun x97 g97 o97 l97q k97 _ _ => ?_
  rw [List.nil_append] at o97
  obtain ⟨o2, ho2, rfl, p97⟩ := own_ix o97 (i := 0) (by simp only [List.length_map]; omega)
  simp only [List.length_map, hlen1]
  have hgt : (L.length : Int) > 8 := by omega
  have hw4 : IntKind.wrap .i64 ((L.length : Int) - 4) = ((L.length - 4 : Nat) : Int) := by rw [wrap_i64 (by omega) (by omega)]; omega
  have hsl : dSliceAt tab ty22 false true false [.msl 1 o2 0 L.length, .int .i64 ((L.length - 4 : Nat) : Int)] = some (.msl 1 o2 0 (L.length - 4)) := msl_hi (T := tab) (t := ty22) (i := ti22) (j := ti5) (id rfl) (id rfl) (id rfl) (id rfl) (by decide) (by omega)
  have htk : (l1.take (L.length - 4)).length = L.length - 4 := by simp; omega
  have hp97 : g97[o2]? = some (.row ty5 1 ((l1.take (L.length - 4)).map byr ++ (l1.drop (L.length - 4)).map byr)) := by rw [p97, ← List.map_append, List.take_append_drop]
  have hck := s1117p (l1.take (L.length - 4)) o2 _ g97 hp97 (by omega) fun x hx => hu1 x (List.mem_of_mem_take hx)
  obtain ⟨g12, e12, p12, s12⟩ := s1116r (chkS (l1.take (L.length - 4))) 4 (by omega) g97 (l1.take (L.length - 4)) _ o2 hp97 (by simp; omega) (by omega)
  rw [htk] at hck e12
  have hl2 : (l1.take (L.length - 4) ++ putb 4 (chkS (l1.take (L.length - 4)))).length = L.length := by
    rw [List.length_append, htk, putb_len]; omega
  have hu2 : ∀ x ∈ l1.take (L.length - 4) ++ putb 4 (chkS (l1.take (L.length - 4))), U8 x := fun x hx => by
    rcases List.mem_append.1 hx with hx | hx
    · exact hu1 x (List.mem_of_mem_take hx)
    · exact putb_u8 _ _ x hx
  have hdr : ((l1.drop (L.length - 4)).map byr).drop 4 = [] := List.drop_of_length_le (by simp; omega)
  rw [hl2] at e12
  rw [hdr, List.append_nil] at p12
  have e12 : R fn1116 [.msl 1 o2 0 (L.length - 4), .int .u64 (chkS (l1.take (L.length - 4))), .int .i64 4] g97 = some (.msl 1 o2 0 L.length, g12) := e12
  simp only [bs, lenm22, dBin_gtr, hgt, decide_true, dIf_bool, if_true, dBin_sub, hw4, hsl, hck, e12, toEnd_nrm, nth_zero, Option.bind_assoc]
  generalize l1.take (L.length - 4) ++ putb 4 (chkS (l1.take (L.length - 4))) = l2 at *
  clear hck e12 hp97 htk hsl hw4 hgt hdr
  -- the other parts
  have hwm : IntKind.wrap .i64 at_ = at_ := wrap_i64 (by omega) (by omega)
  have hm1 : at_ * (L.length : Int) ≤ 255 * (L.length : Int) := Int.mul_le_mul_of_nonneg_right (by omega) (by omega)
  have hm0 : 0 ≤ at_ * (L.length : Int) := Int.mul_nonneg ha0 (by omega)
  have hwn : IntKind.wrap .i64 (at_ * (L.length : Int)) = at_ * (L.length : Int) := wrap_i64 (by omega) (by omega)
  have hq : (at_ * (L.length : Int)).tdiv 256 = (at_ * (L.length : Int)) / 256 := Int.tdiv_eq_ediv_of_nonneg hm0
  have hwq : IntKind.wrap .i64 ((at_ * (L.length : Int)) / 256) = (at_ * (L.length : Int)) / 256 := wrap_i64 (by omega) (by omega)
  obtain ⟨d24, e24q, s24q⟩ := slh22 sb (k := .i64) (n := (at_ * (L.length : Int)) / 256) (by omega) (by omega)
  simp only [bs, cv5_3, hwm, lens22 sb, dBin_mul, hwn, dBin_quo, show ¬ ((256 : Int) = 0) by omega, if_false, hq, hwq, e24q]
  refine wap22 (n0 := g12.length) (rows := []) (Nat.le_refl _) (.nils _ _ _ _) (slof_rows _ sb) (by simp only [List.length_map, List.length_nil]; omega) fun x26 g26 o26 l26q k26q _ _ => ?_
  rw [List.nil_append] at o26
  try simp only [bs]
  refine wap22 (n0 := g12.length) l26q o26 (slof_rows _ hrs) (by simp only [List.length_map]; omega) fun x28 g28 o28 l28q k28q _ _ => ?_
  rw [← List.map_append] at o28
  try simp only [bs]
  have l12q := s12.1
  have m1 : g28[o]? = some (.row ty5 1 (l1.map byr)) := by
    have hlt := (List.getElem?_eq_some_iff.1 p91).1
    rw [k28q _ (by omega), k26q _ (by omega), s12.2 _ (by omega), k97 _ (by omega)]; exact p91
  have m2 : g28[o2]? = some (.row ty5 1 (l2.map byr)) := by
    have hlt := (List.getElem?_eq_some_iff.1 p12).1
    rw [k28q _ (by omega), k26q _ (by omega)]; exact p12
  have fz : ∀ (l : List Int), ∀ a ∈ l, ∀ d ∈ byr a, frz 0 g28 2 d = d := fun l a _ d hd => by
    simp only [byr, List.mem_singleton] at hd; subst hd; exact frz_int _ _ _ _ _
  have fs : ∀ {l : List Int} {d : D}, SlOf 1 byr l d → SlOf 1 byr l (frz 0 g28 3 d) := fun {l d} h => by rw [slof_frz h (fz l)]; exact h
  have f0 := fs hrs
  have f1 := fs sb
  have f2 : SlOf 1 byr l1 (frz 0 g28 3 (.msl 1 o 0 L.length)) := own_sl (n0 := 0) (n1 := 0) (.inr ⟨o, by omega, by rw [List.length_map, hlen1], m1⟩) (Nat.le_refl _) (fz l1)
  have f3 : SlOf 1 byr l2 (frz 0 g28 3 (.msl 1 o2 0 L.length)) := own_sl (n0 := 0) (n1 := 0) (.inr ⟨o2, by omega, by rw [List.length_map, hl2], m2⟩) (Nat.le_refl _) (fz l2)
  have f4 := fs s24q
  have f5 : SlOf 1 byr (L ++ rs) (frz 0 g28 3 x28) := own_sl (n0 := 0) o28 (by omega) (fz _)
  generalize frz 0 g28 3 dr = d0 at *
  generalize frz 0 g28 3 tb = d1 at *
  generalize frz 0 g28 3 (.msl 1 o 0 L.length) = d2 at *
  generalize frz 0 g28 3 (.msl 1 o2 0 L.length) = d3 at *
  generalize frz 0 g28 3 d24 = d4 at *
  generalize frz 0 g28 3 x28 = d5 at *
  rw [bsw1031_6 _ d0 d1 d2 d3 d4 d5 (slof_one f0) (slof_one f1) (slof_one f2) (slof_one f3) (slof_one f4) (slof_one f5)]
  have all : ∀ x ∈ [d0, d1, d2, d3, d4, d5], ∃ l, SlOf 1 byr l x ∧ l.length ≤ 1000000000 ∧ ∀ z ∈ l, U8 z := fun x hx => by
    simp only [List.mem_cons, List.not_mem_nil, or_false] at hx
    rcases hx with rfl | rfl | rfl | rfl | rfl | rfl
    · exact ⟨_, f0, by omega, hrz⟩
    · exact ⟨_, f1, by omega, hLu⟩
    · exact ⟨_, f2, by omega, hu1⟩
    · exact ⟨_, f3, by omega, hu2⟩
    · exact ⟨_, f4, by simp; omega, fun z hz => hLu z (List.mem_of_mem_take hz)⟩
    · exact ⟨_, f5, by simp; omega, fun z hz => by
        rcases List.mem_append.1 hz with hz | hz
        · exact hLu z hz
        · exact hrz z hz⟩
  have hrow : ([[d0], [d1], [d2], [d3], [d4], [d5]] : List (List D)) = [d0, d1, d2, d3, d4, d5].map fun x => [x] := rfl
  have hl6 : [d0, d1, d2, d3, d4, d5].length = 6 := rfl
  rw [hrow]
  generalize [d0, d1, d2, d3, d4, d5] = xs at *
  generalize g28.map (fun _ => Ob.dead) = gd at *
  have pG : (dNew gd ty22 1 (xs.map fun x => [x]))[gd.length]? = some (.row ty22 1 (xs.map fun x => [x])) := dNew_get _ _ _ _
  generalize dNew gd ty22 1 (xs.map fun x => [x]) = G at pG ⊢
  simp only [bs, lenm1031]
  refine Wp.loop (fun m ds g' => g' = G ∧ ∃ a b c e f u w x y t, ∃ n : Nat, ds = [a, b, c, e, f, u, w, x, .int .i64 n, y, t] ∧ m + n = 6) (fun r => r.1 = .ext 2 ∧ r.2.2 = G) 6 ⟨rfl, _, _, _, _, _, _, _, _, _, _, 0, rfl, rfl⟩ ?_ ?_
  · rintro m ds g' ⟨rfl, a, b, c, e, f, u, w, x, y, t, n, rfl, hk⟩
    simp only [F1121_L1, nth_zero, nth_succ, bs, Option.bind_assoc, dBin_lss]
    refine Wp.dif ?_ ?_
    · intro h0
      have h0 : n < 6 := by have : (n : Int) < ((6 : Nat) : Int) := by simpa using h0
                            omega
      obtain ⟨q, hq⟩ : ∃ q, xs[n]? = some q := ⟨xs[n]'(by omega), List.getElem?_eq_getElem (by omega)⟩
      have hw : IntKind.wrap .i64 ((n : Int) + 1) = ((n + 1 : Nat) : Int) := by rw [wrap_i64 (by omega) (by omega)]; omega
      have hix : dIndexAddr tab ty1031 (.msl 1 gd.length 0 6) (.int .i64 n) = some (.ptr gd.length n 0) := by rw [ixm1031, if_pos (by omega)]; simp [-bind_some]
      have hld : dLoad tab g' ty22 (.ptr gd.length n 0) = some q := by rw [ldp22, row_of pG, List.getElem?_map, hq]; rfl
      obtain ⟨l, hsl, hll, hlu⟩ := all q (List.mem_of_getElem? hq)
      obtain ⟨j, j', nn, ee, e1, e2, hj⟩ := dec_both l q g' hsl hll hlu
      have hbx : ∀ j : It, boxN 11 (.agg (itr j)) = some (.fptr (itr j)) := fun j => boxN_agg 11 _ rfl
      have h82 := s82 j j' g'
      rw [ri_same hj] at h82
      simp only [hix, hld, e1, e2, hbx, bs, dExtract_tup, List.getElem?_cons_zero, List.getElem?_cons_succ, dBin_neq, ne_eq, not_true, decide_false, gd_bool, gdW_bool, if_true, dPick_bool, Bool.false_eq_true, if_false, ldIt, h82, dUn_not, Bool.not_true, dIf_bool, dBin_add, hw]
      exact .some (.inl ⟨rfl, m - 1, by omega, rfl, _, _, _, _, _, _, _, _, _, _, n + 1, rfl, by omega⟩)
    · intro h0
      exact .some (.inr ⟨by simp, rfl, rfl⟩)
  rintro ⟨ex, ds, g'⟩ ⟨rfl, h2⟩
  have hsc : ∀ g' : Hp, scope [] g' (.bool true) = some (.bool true, []) := fun g' => scope_eq (by simp) (.bool _) (by simp) (fun q hq => by cases hq)
  simp only [unblk_self, toEnd_nrm, bs, mkRes_one, hsc]
  exact .some rfl
end Go.Proofs.YtlpedofpnbggbaaDoor
