import Derived.WalkKit
/- A part of the proof. -/
set_option linter.unusedVariables false
set_option linter.unusedSimpArgs false
namespace Go.Proofs.YtmcnpaelaieniaaGreatDoor
abbrev OA_:=Option Addr
abbrev LI_:=List Int
abbrev LU_:=List UInt8
abbrev LN_:=List Nat
abbrev LV_:=List Value
abbrev LB_:=List Bool
abbrev an:=@trivial
abbrev be:=@List.getElem?_eq_getElem
abbrev Na:=@congrArg
abbrev Nb:=@List.mem_of_getElem?
abbrev Nc:=@Option.some.injEq
abbrev Nf:=@List.getD_eq_getElem?_getD
abbrev Ng:=@List.getElem?_eq_some_iff
abbrev Nh:=@List.length_cons
abbrev Ni:=@List.mem_singleton
abbrev Nj:=@List.length_append
abbrev Nk:=@List.getElem?_map
abbrev Nl:=@Nat.zero_le
abbrev Nm:=@List.length_map
abbrev Nn:=@List.mem_cons
abbrev No:=@Classical.not_not
abbrev Np:=@List.mem_append
abbrev Nq:=@List.getElem?_set_self
abbrev Nr:=@Nat.le_refl
abbrev Ns:=@List.getElem?_set_ne
abbrev Nt:=@List.not_mem_nil
abbrev Nu:=@List.take_add_one
abbrev Nv:=@List.map_cons
abbrev Nw:=@List.getElem?_replicate
abbrev Ny:=@List.length_eq_zero_iff
abbrev Nz:=@List.nodup_append
abbrev NA:=@Int.toNat_natCast
abbrev NB:=@List.getElem?_append_right
abbrev NC:=@List.length_nil
abbrev ND:=@List.sum_cons
abbrev NE:=@List.length_take
abbrev NF:=@List.mem_map
abbrev NG:=@Classical.byContradiction
abbrev NH:=@List.take_length
abbrev NI:=@List.map_append
abbrev NJ:=@List.nodup_cons
abbrev NK:=@Option.some.inj
abbrev NL:=@Option.getD_some
abbrev NM:=@List.length_pos_iff
abbrev NN:=@List.append_nil
abbrev NO:=@List.length_set
abbrev NP:=@List.length_replicate
abbrev NQ:=@List.append_assoc
abbrev NR:=@Nat.zero_add
abbrev NT:=@Nat.mul_one
abbrev NU:=@List.length_singleton
abbrev NV:=@List.mem_iff_getElem
abbrev NW:=@List.sublist_cons_self
abbrev NX:=@decide_eq_true_eq
abbrev NY:=@Nat.add_sub_cancel_left
abbrev NZ:=@List.getElem?_append_left
abbrev N0:=@List.getElem?_zip_eq_some
abbrev N1:=@List.getLast?_append
abbrev N3:=@Prod.mk.injEq
abbrev N4:=@List.getElem?_eq_none
abbrev N5:=@List.drop_eq_getElem_cons
abbrev N6:=@Bool.and_eq_true
abbrev N7:=@Nat.add_assoc
abbrev N8:=@List.mem_range
abbrev N9:=@List.pairwise_iff_getElem
abbrev Oa:=@List.take_append_drop
abbrev Ob:=@List.eq_nil_or_concat
abbrev Oc:=@List.concat_eq_append
abbrev Od:=@List.cons_append
abbrev Oe:=@List.length_drop
abbrev Of:=@List.pairwise_append
abbrev Og:=@List.map_nil
abbrev Oh:=@List.take_of_length_le
abbrev Oi:=@List.mem_of_mem_take
abbrev Oj:=@List.getElem?_cons_succ
abbrev Ok:=@List.getElem?_cons_zero
abbrev Ol:=@List.getElem?_drop
abbrev Om:=@Nat.eq_of_beq_eq_true
abbrev On:=@List.mem_iff_getElem?
abbrev Oo:=@List.replicate_succ
abbrev Oq:=@List.nil_append
abbrev Ot:=@List.length_range
abbrev Ou:=@List.map_congr_left
abbrev Ov:=@Nat.le_trans
abbrev Ow:=@Nat.mul_le_mul_right
abbrev Ox:=@Int.le_refl
abbrev Oy:=@Nat.mul_add
abbrev Oz:=@List.getElem_mem
abbrev OA:=@List.flatten_cons
abbrev OB:=@decide_eq_false
abbrev OC:=@List.mem_of_getLast?
abbrev OD:=@List.length_filter_le
abbrev OE:=@Nat.sub_self
abbrev OF:=@List.set_append_right
abbrev OG:=@List.map_map
abbrev OH:=@List.foldl_cons
abbrev OI:=@List.map_replicate
abbrev OJ:=@List.filter_cons
abbrev OL:=@Array.getElem?_eq_some_iff
abbrev OM:=@List.mem_map_of_mem
abbrev ON:=@List.sum_append
abbrev OO:=@List.cons.injEq
abbrev OP:=@List.perm_append_comm
abbrev OQ:=@Nat.add_mul
abbrev OR:=@decide_eq_true
abbrev OS:=@Nat.mul_le_mul
abbrev OT:=@List.pairwise_singleton
abbrev OU:=@List.nodup_range
abbrev OW:=@List.set_cons_zero
abbrev OX:=@Nat.min_eq_left
abbrev OY:=@List.range_succ
abbrev OZ:=@Nat.add_zero
abbrev O0:=@List.length_zip
abbrev O1:=@List.map_set
abbrev O2:=@Nat.pow_lt_pow_iff_right
abbrev O3:=@List.foldl_append
abbrev O4:=@Int.eq_ofNat_of_zero_le
abbrev O5:=@List.filter_cons_of_pos
abbrev O6:=@Nat.mul_le_mul_left
abbrev O7:=@if_true
abbrev O8:=@Array.getD_eq_getD_getElem?
abbrev O9:=@Nat.lt_of_lt_of_le
abbrev Pa:=@Nat.eq_zero_or_pos
abbrev Pb:=@Nat.lt_or_eq_of_le
abbrev Pc:=@List.append_of_mem
abbrev Pd:=@List.mem_filter
abbrev Pe:=@Option.map_some
abbrev Pf:=@List.Perm.append_left
abbrev Pg:=@Classical.choose_spec
abbrev Ph:=@List.mem_append_right
abbrev Pi:=@List.all_cons
abbrev Pj:=@Nat.mod_two_eq_zero_or_one
abbrev Pk:=@List.cons.inj
abbrev Pl:=@List.ext_getElem?
abbrev Pm:=@List.mem_cons_of_mem
abbrev Pn:=@Nat.min_self
abbrev Po:=@List.length_erase_of_mem
abbrev Pp:=@Array.length_toList
abbrev Pq:=@List.getElem_of_mem
abbrev Pr:=@List.eraseIdx_eq_take_drop_succ
abbrev Ps:=@List.filter_append
abbrev Pt:=@List.zip_cons_cons
abbrev Pu:=@Int.natCast_add
abbrev Pv:=@List.mem_cons_self
abbrev Pw:=@Nat.lt_of_le_of_lt
abbrev Px:=@Option.map_eq_some_iff
abbrev Py:=@List.not_of_lt_findIdx
abbrev Pz:=@List.length_pos_of_mem
abbrev PA:=@List.findIdx_eq_length
abbrev PB:=@List.eq_nil_of_length_eq_zero
abbrev PC:=@List.nodup_range'
abbrev PD:=@List.getElem_take
abbrev PE:=@Function.comp_def
abbrev PG:=@Nat.le_of_ble_eq_true
abbrev PH:=@List.nodup_nil
abbrev PJ:=@if_false
abbrev PK:=@List.ext_getElem
abbrev PL:=@List.perm_middle
abbrev PM:=@List.all_eq_true
abbrev PN:=@List.mem_of_mem_drop
abbrev PO:=@Int.tdiv_eq_ediv_of_nonneg
abbrev PQ:=@Int.fdiv_eq_ediv_of_nonneg
abbrev PR:=@List.dropWhile_cons
abbrev PS:=@List.reverse_append
abbrev PT:=@List.getElem?_range
abbrev PU:=@Array.mapM_eq_mapM_toList
abbrev PV:=@List.head?_cons
abbrev PW:=@List.exists_mem_of_ne_nil
abbrev PX:=@of_decide_eq_false
abbrev PY:=@Int.le_trans
abbrev PZ:=@Array.foldl_toList
abbrev P0:=@Nat.add_comm
abbrev P1:=@Nat.lt_or_ge
abbrev P2:=@Option.toList_some
abbrev P3:=@List.getElem?_take
abbrev P4:=@Bool.false_eq_true
structure cQ (p:Prop):Prop where
 out:p
variable {G G' p:Prop}
theorem bH(h:p:=by first|assumption|omega):p:=h
theorem aa(h:p:=by omega):p:=h
theorem ab(h:p:=by decide):p:=h
theorem aX(h:p:=by kernel_rfl):p:=h
theorem ai(h:p:=by simp):p:=h
theorem aK(h:p:=by exact λ _=>rfl):p:=h
theorem bG(h:p:=by decide+kernel):p:=h
theorem eK(h:p:=by simp;omega):p:=h
theorem IS(h:p:=by simp[LibV.heap]):p:=h
theorem a7(h:p:=by repeat' (first|exact an|refine⟨rfl,?_⟩)):p:=h
theorem ji(h:p:=by repeat' (first|exact rfl|refine⟨rfl,?_⟩)):p:=h
theorem bu(h':G')(h:cQ G'->G:=by intro _k;(repeat' (first|refine am ?_|refine ag ?_|refine bF rfl ?_|refine bo rfl ?_));refine aE ?_;exact _k.1):G:=h ⟨h'⟩
theorem io(h':G')(h:cQ G'->G:=by intro _k;(repeat' (first|refine ah ?_|refine cE (gs:=[999]) rfl ?_|refine ae [999] (a8 0 rfl rfl rfl rfl) rfl ?_|refine ae [999] (wH rfl rfl rfl rfl rfl bH) rfl ?_|refine ae [999] (mz (m:=0) rfl rfl rfl rfl rfl ab) rfl ?_|refine ae [999] (mz (m:=1) rfl rfl rfl rfl rfl ab) rfl ?_|refine ae [999] (eB 1 rfl rfl rfl rfl bH bH) rfl ?_|refine ae [999] (dJ 1 rfl rfl rfl rfl rfl bH rfl rfl) rfl ?_));exact _k.1):G:=h ⟨h'⟩
theorem cq(h':G')(h:cQ G'->G:=by intro _k;(repeat' (first|refine am ?_|refine ag ?_|refine bF rfl ?_|refine bo rfl ?_));exact _k.1):G:=h ⟨h'⟩
theorem ao(h':G')(h:cQ G'->G:=by intro _k;refine bu ?_;refine cW [] ?_;exact _k.1):G:=h ⟨h'⟩
theorem aI(h':G')(h:cQ G'->G:=by intro _k;refine bu ?_;refine bp [] ?_;exact _k.1):G:=h ⟨h'⟩
theorem ng(h':G')(h:cQ G'->G:=by intro _k;(repeat' (first|refine cE (gs:=[999]) rfl ?_|refine ae [999] (a8 5 rfl rfl rfl rfl) rfl ?_));exact _k.1):G:=h ⟨h'⟩
theorem nc(h':G')(h:cQ G'->G:=by intro _k;(repeat' (first|refine cE (gs:=[999]) rfl ?_|refine ae [999] (a8 2 rfl rfl rfl rfl) rfl ?_));exact _k.1):G:=h ⟨h'⟩
theorem cR(h':G')(h:cQ G'->G:=by intro _k;refine cW [] ?_;refine ao ?_;exact _k.1):G:=h ⟨h'⟩
theorem lB(h':G')(h:cQ G'->G:=by intro _k;refine cE (gs:=[999]) rfl ?_;refine cE (gs:=[999]) rfl ?_;exact _k.1):G:=h ⟨h'⟩
theorem fy(h':G')(h:cQ G'->G:=by intro _k;show some (Value.int .i64 (IntKind.i64.wrap ((k:Int)+1)))=_;exact _k.1):G:=h ⟨h'⟩
theorem zt(h':G')(h:cQ G'->G:=by intro _k;(repeat' (first|refine js (gs:=[999]) rfl rfl ?_|refine cV [999] rfl rfl (a8 0 rfl rfl rfl rfl) rfl ?_|refine gS [999] rfl (wH rfl rfl rfl rfl rfl bH) rfl ?_|refine gS [999] rfl (mz (m:=0) rfl rfl rfl rfl rfl ab) rfl ?_|refine gS [999] rfl (mz (m:=1) rfl rfl rfl rfl rfl ab) rfl ?_|refine cV [999] rfl rfl (eB 1 rfl rfl rfl rfl bH bH) rfl ?_|refine cV [999] rfl rfl (dJ 1 rfl rfl rfl rfl rfl bH rfl rfl) rfl ?_));refine il rfl ?_;exact _k.1):G:=h ⟨h'⟩
theorem ie(h':G')(h:cQ G'->G:=by intro _k;refine cW [] ?_;refine bu ?_;refine bj (v:=bZ N A c) 0 ?_;refine bp [] ?_;exact _k.1):G:=h ⟨h'⟩
theorem Fo(h':G')(h:cQ G'->G:=by intro _k;refine bu ?_;(repeat' (first|refine cE (gs:=[999]) rfl ?_|refine ae [999] (a8 3 rfl rfl rfl rfl) rfl ?_|refine ae [999] (a8 0 rfl rfl rfl rfl) rfl ?_|refine ae [999] (wH rfl rfl rfl rfl rfl bH) rfl ?_|refine ae [999] (dJ 1 rfl rfl rfl rfl rfl bH rfl rfl) rfl ?_));refine ah ?_;exact _k.1):G:=h ⟨h'⟩
theorem a9(h':G')(h:cQ G'->G:=by intro _k;refine my [] rfl ?_;exact _k.1):G:=h ⟨h'⟩
theorem ec(h':G')(h:cQ G'->G:=by intro _k;refine⟨rfl,?_⟩;refine cW [] ?_;exact _k.1):G:=h ⟨h'⟩
theorem gK(h':G')(h:cQ G'->G:=by intro _k;refine cq ?_;refine aq ?_;exact _k.1):G:=h ⟨h'⟩
theorem iz(h':G')(h:cQ G'->G:=by intro _k;refine aI ?_;refine aF (vC rfl rfl rfl rfl rfl hlt) ?_;exact _k.1):G:=h ⟨h'⟩
theorem c9(h':G')(h:cQ G'->G:=by intro _k;refine ao ?_;refine aI ?_;exact _k.1):G:=h ⟨h'⟩
theorem iH(h':G')(h:cQ G'->G:=by intro _k;refine a9 ?_;refine bh rfl (a8 0 rfl rfl rfl rfl) ?_;exact _k.1):G:=h ⟨h'⟩
theorem CI(h':G')(h:cQ G'->G:=by intro _k;(repeat' (first|refine eJ (gs:=[999]) rfl rfl ?_|refine aG [999] rfl (a8 0 rfl rfl rfl rfl) rfl ?_|refine aG [999] rfl (wH rfl rfl rfl rfl rfl bH) rfl ?_|refine aG [999] rfl (mz (m:=0) rfl rfl rfl rfl rfl ab) rfl ?_|refine aG [999] rfl (mz (m:=1) rfl rfl rfl rfl rfl ab) rfl ?_|refine aG [999] rfl (eB 1 rfl rfl rfl rfl bH bH) rfl ?_));exact _k.1):G:=h ⟨h'⟩
theorem fL(h':G')(h:cQ G'->G:=by intro _k;refine bo rfl ?_;refine ao ?_;exact _k.1):G:=h ⟨h'⟩
theorem aN(h':G')(h:cQ G'->G:=by intro _k;refine cW [] ?_;exact _k.1):G:=h ⟨h'⟩
theorem fv(h':G')(h:cQ G'->G:=by intro _k;refine aF (eE rfl rfl rfl rfl rfl rfl) ?_;exact _k.1):G:=h ⟨h'⟩
theorem v7(h':G')(h:cQ G'->G:=by intro _k;refine c9 ?_;refine aF (f5 (i:=1) rfl rfl rfl rfl rfl ai) ?_;refine aA 16 (v':=.slice (fA (some ⟨bb,ob,none⟩) cb 1 1) T.length (cb-1)) rfl (by show Value.slice _ _ _=_;simp) ?_;exact _k.1):G:=h ⟨h'⟩
theorem az(h':G')(h:cQ G'->G:=by intro _k;refine bp [] ?_;exact _k.1):G:=h ⟨h'⟩
theorem dQ(h':G')(h:cQ G'->G:=by intro _k;refine aN ?_;refine aI ?_;exact _k.1):G:=h ⟨h'⟩
theorem dv(h':G')(h:cQ G'->G:=by intro _k;refine ah ?_;refine ao ?_;exact _k.1):G:=h ⟨h'⟩
theorem mcM28(h':G')(h:cQ G'->G:=by intro _k;refine a9 ?_;refine bh rfl (a8 (v:=.slice (some ⟨gl,0,none⟩) (n+1) (n+1)) 0 rfl rfl rfl rfl) ?_;refine a9 ?_;refine bh rfl (a8 (v:=.slice (some ⟨gl,0,none⟩) (n+1) (n+1)) 0 rfl rfl rfl rfl) ?_;refine a9 ?_;refine bh rfl (ic rfl rfl rfl rfl rfl aa) ?_;exact _k.1):G:=h ⟨h'⟩
theorem gN(h':G')(h:cQ G'->G:=by intro _k;refine bu ?_;refine cE (gs:=[999]) rfl ?_;exact _k.1):G:=h ⟨h'⟩
theorem kD(h':G')(h:cQ G'->G:=by intro _k;rintro v H' ⟨rfl,rfl⟩;refine⟨rfl,?_⟩;exact _k.1):G:=h ⟨h'⟩
theorem F8(h':G')(h:cQ G'->G:=by intro _k;refine ao ?_;refine gK ?_;refine ao ?_;refine lF 12 [108,111,97,100] ?_;refine fL ?_;refine lF 16 [99,104,101,99,107] ?_;refine fL ?_;refine lF 25 [118,97,108,117,101] ?_;refine fL ?_;exact _k.1):G:=h ⟨h'⟩
theorem q6(h':G')(h:cQ G'->G:=by intro _k;(repeat' (first|refine eJ (gs:=[999]) rfl rfl ?_|refine aG [999] rfl (a8 0 rfl rfl rfl rfl) rfl ?_));exact _k.1):G:=h ⟨h'⟩
theorem nU(h:p:=by exact aM [] ⟨_,rfl,rfl,rfl⟩):p:=h
theorem ip(h':G')(h:cQ G'->G:=by intro _k;refine aF (ic rfl rfl rfl rfl rfl aa) ?_;exact _k.1):G:=h ⟨h'⟩
theorem eu(h':G')(h:cQ G'->G:=by intro _k;refine bF rfl ?_;refine ao ?_;exact _k.1):G:=h ⟨h'⟩
theorem m8(h':G')(h:cQ G'->G:=by intro _k;(repeat' (refine eJ (gs:=[999]) rfl rfl ?_));exact _k.1):G:=h ⟨h'⟩
theorem fD(h':G')(h:cQ G'->G:=by intro _k;refine⟨rfl,?_⟩;refine cR ?_;exact _k.1):G:=h ⟨h'⟩
theorem fC(h':G')(h:cQ G'->G:=by intro _k;refine ah ?_;refine cq ?_;exact _k.1):G:=h ⟨h'⟩
theorem fP(h':G')(h:cQ G'->G:=by intro _k;refine aN ?_;refine bu ?_;exact _k.1):G:=h ⟨h'⟩
theorem zc(h':G')(h:cQ G'->G:=by intro _k;refine dG (jA V e he.inB (some ⟨g,0,none⟩) 1 1) rfl ⟨⟨6,by simp[dq],rfl⟩,⟨7,by simp[dq],rfl⟩,⟨8,by simp[dq],rfl⟩,an⟩ ?_;exact _k.1):G:=h ⟨h'⟩
theorem wg(h':G')(h:cQ G'->G:=by intro _k;refine ec ?_;refine aI ?_;refine aF (v:=.pointer (some ⟨bb,ob+0,none⟩)) (vC (m:=0) rfl rfl rfl rfl rfl ai) ?_;exact _k.1):G:=h ⟨h'⟩
theorem Fw(h':G')(h:cQ G'->G:=by intro _k;refine c9 ?_;refine iy (iC _ _ _ hx) rfl ay.refl an ?_;refine io ?_;refine cq ?_;refine aI ?_;exact _k.1):G:=h ⟨h'⟩
theorem m0(h':G')(h:cQ G'->G:=by intro _k;show some (Value.int .i64 (IntKind.i64.wrap ((i:Int)+1)))=_;exact _k.1):G:=h ⟨h'⟩
theorem gA(h':G')(h:cQ G'->G:=by intro _k;refine cM ?_;refine ah ?_;exact _k.1):G:=h ⟨h'⟩
theorem zO(h':G')(h:cQ G'->G:=by intro _k;refine fP ?_;refine bj (v:=bZ N A c) 0 ?_;refine cj (ox N hN A c b o hA) rfl ⟨bz 1 rfl,an⟩ ?_;rw[hR.check];refine cR ?_;exact _k.1):G:=h ⟨h'⟩
theorem Gv(h':G')(h:cQ G'->G:=by intro _k;refine aN ?_;refine gK ?_;refine ao ?_;refine lF 31 [124] ?_;refine fL ?_;refine lF 52 [102,108,111,119] ?_;refine fL ?_;refine lF 63 [99,117,116] ?_;refine fL ?_;exact _k.1):G:=h ⟨h'⟩
theorem ii(h':G')(h:cQ G'->G:=by intro _k;refine aN ?_;refine cq ?_;exact _k.1):G:=h ⟨h'⟩
theorem iA(h':G')(h:cQ G'->G:=by intro _k;refine dE 0 ?_;refine ah ?_;exact _k.1):G:=h ⟨h'⟩
theorem ja(h':G')(h:cQ G'->G:=by intro _k;refine ao ?_;refine ao ?_;exact _k.1):G:=h ⟨h'⟩
theorem iM(h':G')(h:cQ G'->G:=by intro _k;refine bu ?_;refine io ?_;exact _k.1):G:=h ⟨h'⟩
theorem m7(h':G')(h:cQ G'->G:=by intro _k;show o.upon _ a _ _ ((execOp a.eval o).run _ w);exact _k.1):G:=h ⟨h'⟩
theorem GW(h':G')(h:cQ G'->G:=by intro _k;refine aI ?_;refine aF (vC rfl rfl rfl rfl rfl hlt') ?_;refine aF (fJ 1 rfl rfl rfl rfl (eg hx)) ?_;refine aN ?_;refine gN ?_;refine cj (EY V x aa) rfl ⟨⟨2,ai,rfl⟩,⟨3,ai,rfl⟩,⟨4,ai,rfl⟩,an⟩ ?_;refine cR ?_;exact _k.1):G:=h ⟨h'⟩
theorem KG(h':G')(h:cQ G'->G:=by intro _k;refine bp [2,9,12,23] ?_;refine ae [2,9,12,23] (v:=.slice (some ⟨b,o,none⟩) N.arcs.length c) (a8 2 rfl rfl rfl rfl) rfl ?_;refine bp [2,9,12,23] ?_;refine ae [2,9,12,23] (Kh rfl rfl rfl rfl rfl hil) rfl ?_;refine bp [2,9,12,23] ?_;refine ae [2,9,12,23] (v:=.int .i64 a.fr) (fJ 3 rfl rfl rfl (N7 _ _ _) q0) rfl ?_;refine ae [2,9,12,23] (fW 0 Tryz.underlying205 Tryz.underlying3 rfl rfl rfl rfl rfl) rfl ?_;refine bp [2,9,12,23] ?_;exact _k.1):G:=h ⟨h'⟩
theorem B9(h':G')(h:cQ G'->G:=by intro _k;refine aI ?_;refine aF (v:=bZ nh none 0) (eE rfl rfl rfl rfl rfl rfl) ?_;refine az ?_;refine dE 2 ?_;refine az ?_;refine kp 37 3 ?_;refine fC ?_;exact _k.1):G:=h ⟨h'⟩
theorem oo(h':G')(h:cQ G'->G:=by intro _k;refine bh rfl (ic rfl rfl rfl rfl rfl aa) ?_;exact _k.1):G:=h ⟨h'⟩
theorem KX(h':G')(h:cQ G'->G:=by intro _k;refine cq ?_;refine bM 7 (dT [0,1,3,4]++[(2,false),(5,false)]++dT [6]) [0,1,2,3] aX ab rfl ?_;(repeat' (first|refine eJ (gs:=[999]) rfl rfl ?_|refine aG [999] rfl (a8 3 rfl rfl rfl rfl) rfl ?_));refine xG rfl ?_;refine iy (tH _ m hNm x p hx hup) rfl ay.refl an ?_;refine b6 [0,1,2,3] ?_;refine xG rfl ?_;refine iy (tH _ m hNm p g hpN hup2) rfl ay.refl an ?_;refine b6 [0,1,2,3] ?_;refine m8 ?_;exact _k.1):G:=h ⟨h'⟩
theorem B6(h':G')(h:cQ G'->G:=by intro _k;refine c9 ?_;refine iy (oK _ _ hv) rfl ay.refl an ?_;refine nc ?_;refine fC ?_;refine aI ?_;refine dI (v8 _ hs _ hv _ hA) rfl ay.refl an ?_;exact _k.1):G:=h ⟨h'⟩
theorem KL(h':G')(h:cQ G'->G:=by intro _k;refine a9 ?_;refine bh (v:=.pointer (some ⟨pw,0,none⟩)) rfl (a8 0 rfl rfl rfl rfl) ?_;refine a9 ?_;refine bh (v:=.slice (some ⟨go,0,none⟩) (n+1) (n+1)) rfl (a8 2 rfl rfl rfl rfl) ?_;refine a9 ?_;exact _k.1):G:=h ⟨h'⟩
theorem qQ(h':G')(h:cQ G'->G:=by intro _k;refine aI ?_;refine aF (ic rfl rfl rfl rfl rfl hlt) ?_;exact _k.1):G:=h ⟨h'⟩
theorem dw(h':G')(h:cQ G'->G:=by intro _k;refine⟨rfl,?_⟩;exact _k.1):G:=h ⟨h'⟩
theorem cz(h':G')(h:cQ G'->G:=by intro _k;refine xG rfl ?_;exact _k.1):G:=h ⟨h'⟩
theorem od(h':G')(h:cQ G'->G:=by intro _k;show J _ _ _ _ ([_,_,_,_,_,_,_]++rows.map (bd 3));exact _k.1):G:=h ⟨h'⟩
theorem yS(h':G')(h:cQ G'->G:=by intro _k;refine eJ (gs:=[999]) rfl rfl ?_;refine eJ (gs:=[999]) rfl rfl ?_;exact _k.1):G:=h ⟨h'⟩
theorem H0(h':G')(h:cQ G'->G:=by intro _k;refine ii ?_;refine bM 9 (dT [0,1,2,3,5]++[(4,false),(6,false)]++dT [7,8]) [1,2] aX ab rfl ?_;refine bh rfl (a8 (v:=bZ N A c) 0 rfl rfl rfl rfl) ?_;refine a9 ?_;exact _k.1):G:=h ⟨h'⟩
theorem nG(h':G')(h:cQ G'->G:=by intro _k;refine lB ?_;refine cE (gs:=[999]) rfl ?_;exact _k.1):G:=h ⟨h'⟩
theorem uh(h':G')(h:cQ G'->G:=by intro _k;refine aI ?_;refine aF (Kh rfl rfl rfl rfl rfl hlt) ?_;exact _k.1):G:=h ⟨h'⟩
theorem ig(h':G')(h:cQ G'->G:=by intro _k;refine bu ?_;refine ng ?_;exact _k.1):G:=h ⟨h'⟩
theorem KD(h':G')(h:cQ G'->G:=by intro _k;refine gS [999] rfl (ic rfl rfl rfl rfl rfl hvN) rfl ?_;refine cV [999] rfl rfl (aw 7 rfl rfl rfl hvv) rfl ?_;refine gS [999] rfl (f5 (i:=1) rfl rfl rfl rfl rfl aa) rfl ?_;refine gS [999] rfl (ic rfl rfl rfl rfl rfl hvN) rfl ?_;refine il rfl ?_;refine aW 7 rfl rfl rfl rfl (fz rfl rfl rfl hvl) [] rfl ?_;refine b6 [] ?_;refine gA ?_;exact _k.1):G:=h ⟨h'⟩
theorem lo(h':G')(h:cQ G'->G:=by intro _k;refine hZ [] rfl ?_;refine ah ?_;exact _k.1):G:=h ⟨h'⟩
theorem KZ(h':G')(h:cQ G'->G:=by intro _k;refine bu ?_;refine nG ?_;refine aA 15 (v':=.int .u64 ((1:Nat):Int)) rfl (Na (Value.int .u64) (MI (n:=1) ab)) ?_;refine lB ?_;refine aA 17 (v':=.int .u64 (n:Int)) rfl (Na (Value.int .u64) (MI aa)) ?_;refine cj (IY n aa) rfl an ?_;refine fP ?_;refine nG ?_;refine dc 23 rfl ab ?_;refine bp [2] ?_;exact _k.1):G:=h ⟨h'⟩
theorem im(h':G')(h:cQ G'->G:=by intro _k;refine aN ?_;refine gK ?_;exact _k.1):G:=h ⟨h'⟩
theorem y7(h':G')(h:cQ G'->G:=by intro _k;refine aI ?_;refine aF (vC rfl rfl rfl rfl rfl ai) ?_;exact _k.1):G:=h ⟨h'⟩
theorem KR(h':G')(h:cQ G'->G:=by intro _k;refine aF (ic rfl rfl rfl rfl rfl hkm) ?_;refine aW 7 rfl rfl rfl rfl (fz rfl rfl rfl (by rw[bY,fR];exact hkm)) [] rfl ?_;rw[show (aj (pk f t.f ls m k)).set (k/2) (.int .i64 (lO f t.f ls (k+1) (k/2)))=aj ((pk f t.f ls m k).set (k/2) (lO f t.f ls (k+1) (k/2))) from by simp[aj],Hb aa rfl];refine dv ?_;exact _k.1):G:=h ⟨h'⟩
theorem KO(h':G')(h:cQ G'->G:=by intro _k;refine aI ?_;refine bj (v:=.int .i64 p) 1 ?_;refine az ?_;refine aA 51 (v':=.int .i64 ((p+1:Nat):Int)) rfl (Na (Value.int .i64) (cp aa)) ?_;refine bj (v:=.int .i64 k) 1 ?_;refine az ?_;refine aA 55 (v':=.int .i64 ((k+ws.length:Nat):Int)) rfl (Na (Value.int .i64) ((cp aa).trans aa)) ?_;exact _k.1):G:=h ⟨h'⟩
theorem Kx(h':G')(h:cQ G'->G:=by intro _k;rw[hnv];refine cq ?_;refine bM 9 (dT [0,1,2,3,4,5,6,7,8]) [0,2] aX ab rfl ?_;refine a9 ?_;refine bh (v:=.int .i64 w.val) rfl (a8 1 rfl rfl rfl rfl) ?_;refine a9 ?_;refine bh (v:=.int .i64 m) rfl (a8 0 rfl rfl rfl rfl) ?_;refine a9 ?_;exact _k.1):G:=h ⟨h'⟩
theorem iL(h':G')(h:cQ G'->G:=by intro _k;refine ao ?_;refine cq ?_;exact _k.1):G:=h ⟨h'⟩
theorem GV(h':G')(h:cQ G'->G:=by intro _k;refine bu ?_;refine bj (v:=bZ N A c) 1 ?_;refine az ?_;refine dG (xn N hN hR A c b o hA f F cf bf of hF hf hfl) rfl ⟨bz 2 rfl,bz 3 rfl,an⟩ ?_;exact _k.1):G:=h ⟨h'⟩
theorem x5(h':G')(h:cQ G'->G:=by intro _k;refine a9 ?_;refine bh rfl (vC rfl rfl rfl rfl rfl ai) ?_;exact _k.1):G:=h ⟨h'⟩
theorem K0(h':G')(h:cQ G'->G:=by intro _k;rw[hmk];refine fP ?_;refine lB ?_;refine wT (i:=0) (vs:=List.replicate 1 (.int .i64 x)) 0 1 rfl rfl rfl rfl rfl (bq _ _ _) rfl rfl (by show 1=Nat.min 1 n;exact (OX h1).symm) rfl (by rw[nF (Nl _),NP];omega) [] rfl ?_;rw[Bu aa];refine im ?_;exact _k.1):G:=h ⟨h'⟩
theorem C4(h':G')(h:cQ G'->G:=by intro _k;(repeat' (first|refine js (gs:=[999]) rfl rfl ?_|refine cV [999] rfl rfl (a8 5 rfl rfl rfl rfl) rfl ?_));exact _k.1):G:=h ⟨h'⟩
theorem K2(h:p:=by refine bu ?_;(repeat' (first|refine cE (gs:=[999]) rfl ?_|refine ae [999] (a8 0 rfl rfl rfl rfl) rfl ?_));refine aA 6 (v':=.int .i64 (ei ((k+1:Nat):Int))) rfl (Na (Value.int .i64) (tF _ _)) ?_;(repeat' (refine cE (gs:=[999]) rfl ?_));refine dE 0 ?_;exact ah ⟨_,rfl,rfl⟩):p:=h
theorem jI(h':G')(h:cQ G'->G:=by intro _k;refine a9 ?_;refine cz ?_;exact _k.1):G:=h ⟨h'⟩
theorem na(h':G')(h:cQ G'->G:=by intro _k;unfold wpList;rw[if_pos (fB hA hg)];exact _k.1):G:=h ⟨h'⟩
theorem j0(h:p:=by exact bN ⟨_,rfl,rfl,rfl⟩):p:=h
theorem iZ(h':G')(h:cQ G'->G:=by intro _k;refine aN ?_;refine aq ?_;exact _k.1):G:=h ⟨h'⟩
theorem wu(h':G')(h:cQ G'->G:=by intro _k;refine aI ?_;refine aF (vC rfl rfl rfl rfl rfl hlt') ?_;exact _k.1):G:=h ⟨h'⟩
theorem pD(h':G')(h:cQ G'->G:=by intro _k;refine aI ?_;refine eW DM rfl an ?_;exact _k.1):G:=h ⟨h'⟩
theorem KE(h':G')(h:cQ G'->G:=by intro _k;rw[show row.l.length+1=(row.l++[(r:Int)]).length by simp,show aj row.l++aj [(r:Int)]=aj (row.l++[(r:Int)]) by simp[aj]];refine b6 [2,3] ?_;refine oo ?_;refine cM ?_;refine aW 3 rfl rfl rfl rfl (fz rfl rfl rfl (by rw[Nm];omega)) [] rfl ?_;refine dv ?_;exact _k.1):G:=h ⟨h'⟩
theorem j2(h':G')(h:cQ G'->G:=by intro _k;rintro v H' ⟨rfl,rfl⟩;exact _k.1):G:=h ⟨h'⟩
theorem KW(h':G')(h:cQ G'->G:=by intro _k;refine um [] rfl ?_;refine ou [] (a8 0 rfl rfl rfl rfl) rfl ?_;exact _k.1):G:=h ⟨h'⟩
theorem HU(h:p:=by refine ao ?_;exact⟨j+1,[0,1,2,3,4,5],⟨Na (λ z=>some (Value.int .i64 z)) (cp aa),rfl,rfl,rfl,rfl,an⟩,ab,rfl,aa,aa⟩):p:=h
theorem KY(h':G')(h:cQ G'->G:=by intro _k;refine a9 ?_;refine bh (v:=.slice (some ⟨bl,0,none⟩) w.left.length cl) rfl (a8 1 rfl rfl rfl rfl) ?_;refine a9 ?_;refine bh rfl (ic rfl rfl rfl rfl rfl hel) ?_;refine bh rfl (aw (v:=.int .i64 (w.left.getD e 0)) 2 rfl rfl rfl (bQ hxe)) ?_;refine a9 ?_;exact _k.1):G:=h ⟨h'⟩
theorem Ce(h':G')(h:cQ G'->G:=by intro _k;refine ou [] (ic rfl rfl rfl rfl rfl aa) rfl ?_;exact _k.1):G:=h ⟨h'⟩
theorem qN(h':G')(h:cQ G'->G:=by intro _k;refine dE 0 ?_;refine ii ?_;refine bN ?_;exact _k.1):G:=h ⟨h'⟩
theorem yr(h':G')(h:cQ G'->G:=by intro _k;refine bh rfl (eE rfl rfl rfl rfl rfl rfl) ?_;refine cz ?_;exact _k.1):G:=h ⟨h'⟩
theorem KF(h':G')(h:cQ G'->G:=by intro _k;refine aq ?_;refine bM 10 (dT [0,1,2,3,4,5,6]++[(7,false)]++dT [8,9]) [] aX ab rfl ?_;refine yS ?_;refine eJ (gs:=[999]) rfl rfl ?_;refine aG [999] rfl (f5 (i:=k) rfl rfl rfl rfl rfl hk2) rfl ?_;exact _k.1):G:=h ⟨h'⟩
theorem C2(h:p:=by rw[Nm];exact Ov (OD _ _) ai):p:=h
theorem rR(h':G')(h:cQ G'->G:=by intro _k;refine bu ?_;refine bj (v:=bZ N A c) 0 ?_;refine az ?_;exact _k.1):G:=h ⟨h'⟩
theorem Gs(h:p:=by refine bD 6 (v':=.int .i64 (d:Int)) rfl (Na (Value.int .i64) (gT hl)) ?_;refine aI ?_;refine dt 33 rfl aa ?_;refine io ?_;exact⟨[0,1],⟨Na some (Na Value.bool (aU (h1 d hl))),rfl,rfl,rfl,an⟩,ab,rfl⟩):p:=h
theorem Bm(h':G')(h:cQ G'->G:=by intro _k;refine F8 ?_;refine lF 41 [105,116,101,109,115] ?_;refine fL ?_;refine lF 45 [114,101,112,111,114,116] ?_;refine fL ?_;exact _k.1):G:=h ⟨h'⟩
theorem oh(h':G')(h:cQ G'->G:=by intro _k;refine b6 [] ?_;refine m8 ?_;refine cz ?_;exact _k.1):G:=h ⟨h'⟩
theorem B0(h':G')(h:cQ G'->G:=by intro _k;refine aq ?_;refine Fo ?_;refine bD 8 (v':=.int .i64 (p:Int)) rfl (Na (Value.int .i64) (gT hup)) ?_;refine Fo ?_;exact _k.1):G:=h ⟨h'⟩
theorem Bg(h':G')(h:cQ G'->G:=by intro _k;rw[show row.l.length+1=(row.l++[(k:Int)]).length by simp,show aj row.l++aj [(k:Int)]=aj (row.l++[(k:Int)]) by simp[aj]];exact _k.1):G:=h ⟨h'⟩
theorem AU(h':G')(h:cQ G'->G:=by intro _k;refine aW 0 rfl rfl rfl rfl (fh rfl (by rw[Nj,NE,NP];omega)) [] rfl ?_;exact _k.1):G:=h ⟨h'⟩
theorem F0(h':G')(h:cQ G'->G:=by intro _k;refine qQ ?_;refine aF (aw (v:=.int .i64 (e:Int)) 1 rfl rfl rfl (eH he)) ?_;refine ii ?_;refine bM 11 (dT [0,1,2,3,4,5,6,7,8,9,10]) [0,2,6] aX ab rfl ?_;exact _k.1):G:=h ⟨h'⟩
theorem jS(h:p:=by refine ao ?_;exact nU):p:=h
theorem ib(h':G')(h:cQ G'->G:=by intro _k;refine bu ?_;refine nc ?_;exact _k.1):G:=h ⟨h'⟩
theorem jh(h':G')(h:cQ G'->G:=by intro _k;refine aI ?_;refine bj 0 ?_;exact _k.1):G:=h ⟨h'⟩
theorem lI(h':G')(h:cQ G'->G:=by intro _k;refine az ?_;refine dE 2 ?_;exact _k.1):G:=h ⟨h'⟩
theorem GF(h':G')(h:cQ G'->G:=by intro _k;refine cq ?_;refine bM 16 (dT [0,1,2,3,4,5,6,7,8,9,10,11,12]++[(13,false),(14,false)]++dT [15]) [1,2] aX ab rfl ?_;refine mcM28 ?_;exact _k.1):G:=h ⟨h'⟩
theorem ir(h':G')(h:cQ G'->G:=by intro _k;refine a9 ?_;refine gA ?_;exact _k.1):G:=h ⟨h'⟩
theorem jN(h':G')(h:cQ G'->G:=by intro _k;refine ao ?_;refine gK ?_;exact _k.1):G:=h ⟨h'⟩
theorem HV(h':G')(h:cQ G'->G:=by intro _k;simp only[execOp,ho,hA.val hx,hA.val hy,Sem.run_bind,hg,hb,Result.andThen_ok];exact _k.1):G:=h ⟨h'⟩
theorem Gw(h':G')(h:cQ G'->G:=by intro _k;refine c9 ?_;refine cj (fst:=[]) (cap:=[]) (kt m p [] ab none 0 0 0 0 (λ h=>absurd rfl h) rfl) rfl ⟨⟨1,_,by simp[dq],rfl,aS _ _ _ (0,0),.inr rfl⟩,fX 0 rfl fE (.inl rfl),an⟩ ?_;refine cR ?_;exact _k.1):G:=h ⟨h'⟩
theorem FC(h':G')(h:cQ G'->G:=by intro _k;refine az ?_;refine aA 44 (v':=.bool false) rfl rfl ?_;refine bp [5] ?_;refine ae [5] (a8 1 rfl rfl rfl rfl) rfl ?_;refine ae [5] (fW 0 Tryz.underlying205 Tryz.underlying3 rfl rfl rfl rfl rfl) rfl ?_;exact _k.1):G:=h ⟨h'⟩
theorem Hx(h:p:=by refine dt 17 rfl aa ?_;refine bp [2] ?_;refine aA 21 (v':=.bool false) rfl (Na Value.bool (by have:m≠is:=λ e=>hgo ⟨h0,e⟩;simpa using this)) ?_;refine ah ?_;exact⟨[0,1],a7,ab,rfl⟩):p:=h
theorem jg(h':G')(h:cQ G'->G:=by intro _k;refine lx 1 1 (by rfl) ab ?_;exact _k.1):G:=h ⟨h'⟩
theorem Id(h':G')(h:cQ G'->G:=by intro _k;(repeat' (first|refine eJ (gs:=[999]) rfl rfl ?_|refine aG [999] rfl (a8 1 rfl rfl rfl rfl) rfl ?_|refine aG [999] rfl (a8 3 rfl rfl rfl rfl) rfl ?_|refine aG [999] rfl (a8 4 rfl rfl rfl rfl) rfl ?_));exact _k.1):G:=h ⟨h'⟩
theorem Gt(h:p:=by refine aI ?_;refine cj (tW (some ⟨g,0,none⟩) _ c g 0 (f::l.map itoa) rfl aK ho.2.1 (by show (gD f l).length<=_;omega) eK) rfl ⟨fX 0 rfl ca (.inr rfl),an⟩ ?_;refine aN ?_;exact nU):p:=h
theorem w6(h':G')(h:cQ G'->G:=by intro _k;simp only[NF,Pd,N8,NX];exact _k.1):G:=h ⟨h'⟩
theorem jn(h':G')(h:cQ G'->G:=by intro _k;refine ao ?_;refine aq ?_;exact _k.1):G:=h ⟨h'⟩
theorem pR(h':G')(h:cQ G'->G:=by intro _k;refine aI ?_;refine bj 1 ?_;refine az ?_;exact _k.1):G:=h ⟨h'⟩
theorem BQ(h':G')(h:cQ G'->G:=by intro _k;refine dQ ?_;refine cj (Ik V x hxB) rfl ⟨⟨2,ai,rfl⟩,⟨3,ai,rfl⟩,⟨4,ai,rfl⟩,an⟩ ?_;exact _k.1):G:=h ⟨h'⟩
theorem qa(h':G')(h:cQ G'->G:=by intro _k;refine bj (v:=bZ N A c) 3 ?_;refine az ?_;exact _k.1):G:=h ⟨h'⟩
theorem Gc(h':G')(h:cQ G'->G:=by intro _k;refine cq ?_;refine bM 14 (dT [0,1,2,3,4,5,6,7,8,9,10,11,12,13]) [2,3] aX ab rfl ?_;refine mcM28 ?_;exact _k.1):G:=h ⟨h'⟩
theorem Ht(h':G')(h:cQ G'->G:=by intro _k;refine cq ?_;refine bM 14 (dT [0,1,2,3,4,5,6,7,8,9,10]++[(11,false),(12,false)]++dT [13]) [5] aX ab rfl ?_;refine a9 ?_;exact _k.1):G:=h ⟨h'⟩
theorem Hp(h':G')(h:cQ G'->G:=by intro _k;refine a9 ?_;refine bh rfl (a8 (i:=3) (v:=.slice A r.arcs.length c) 0 rfl rfl rfl rfl) ?_;refine a9 ?_;refine bh rfl (a8 (i:=4) (v:=.int .i64 r.most) 0 rfl rfl rfl rfl) ?_;refine lo ?_;exact _k.1):G:=h ⟨h'⟩
theorem BY(h:p:=by exact ay.trans (ay.re (A:=[_,_,_,_,_,_,_,_,_,_]) [3,0,1,4,5,6,7,8,9] rfl ab) (ay.unfront (A:=[_,_,_,_,_,_,_,_]) hrow)):p:=h
theorem Br(h:p:=by refine ao ?_;exact aM [] ⟨_,rfl,rfl⟩):p:=h
theorem FM(h':G')(h:cQ G'->G:=by intro _k;refine a9 ?_;refine bh (v:=bZ m.N m.An m.cn) rfl (fJ (i:=0) 0 rfl rfl rfl rfl rfl) ?_;refine a9 ?_;refine bh (v:=.slice m.Af m.f.length m.cf) rfl (fJ (i:=4) 0 rfl rfl rfl rfl rfl) ?_;exact _k.1):G:=h ⟨h'⟩
theorem xo(h':G')(h:cQ G'->G:=by intro _k;rw[NH,OE,List.replicate_zero,NN];exact _k.1):G:=h ⟨h'⟩
theorem wO(h':G')(h:cQ G'->G:=by intro _k;rw[OY,Ps,NI];exact _k.1):G:=h ⟨h'⟩
theorem GI(h':G')(h:cQ G'->G:=by intro _k;refine um [] rfl ?_;refine ou [] (vC rfl rfl rfl rfl rfl hlt) rfl ?_;exact _k.1):G:=h ⟨h'⟩
theorem sf(h':G')(h:cQ G'->G:=by intro _k;refine aF (fJ (i:=0) 0 rfl rfl rfl rfl rfl) ?_;exact _k.1):G:=h ⟨h'⟩
theorem sy(h':G')(h:cQ G'->G:=by intro _k;show J _ _ _ _ ([_,_,_,_,_]++rows.map (bd 3));exact _k.1):G:=h ⟨h'⟩
theorem Gd(h':G')(h:cQ G'->G:=by intro _k;refine a9 ?_;refine bh (v:=.slice (some ⟨b,o,none⟩) N.arcs.length c) rfl (a8 5 rfl rfl rfl rfl) ?_;refine a9 ?_;refine bh rfl (Kh rfl rfl rfl rfl rfl hil) ?_;refine a9 ?_;exact _k.1):G:=h ⟨h'⟩
theorem Im(h':G')(h:cQ G'->G:=by intro _k;refine a9 ?_;refine bh rfl (a8 (v:=.slice (some ⟨go,0,none⟩) (n+1) (n+1)) 1 rfl rfl rfl rfl) ?_;refine a9 ?_;refine bh rfl (a8 (v:=.int .i64 (v:Int)) 0 rfl rfl rfl rfl) ?_;exact _k.1):G:=h ⟨h'⟩
theorem LG(h':G')(h:cQ G'->G:=by intro _k;refine iz ?_;refine aF (v:=dk x) (fJ 2 rfl rfl rfl rfl (eg hx)) ?_;exact _k.1):G:=h ⟨h'⟩
theorem Hj(h':G')(h:cQ G'->G:=by intro _k;refine aF (v:=dk w) (fJ (i:=0) 1 rfl rfl rfl rfl rfl) ?_;refine Gv ?_;refine lF 75 [115,111,108,118,101] ?_;refine fL ?_;refine lF 105 [112,97,105,114,115] ?_;refine fL ?_;exact _k.1):G:=h ⟨h'⟩
theorem Fu(h':G')(h:cQ G'->G:=by intro _k;refine fP ?_;refine bj (v:=bZ N A c) 1 ?_;refine az ?_;refine dG (tu N hN hR A c b o hA f F cf bf of hF (aD.inB hR hf.toRanged) aa least) rfl ⟨bz 2 rfl,bz 3 rfl,an⟩ ?_;exact _k.1):G:=h ⟨h'⟩
theorem dr(h':G')(h:cQ G'->G:=by intro _k;refine bF rfl ?_;exact _k.1):G:=h ⟨h'⟩
theorem Ij(h':G')(h:cQ G'->G:=by intro _k;refine bh rfl (f5 (i:=1) rfl rfl rfl rfl rfl aa) ?_;refine oo ?_;refine cM ?_;refine aW 3 rfl rfl rfl rfl (fz rfl rfl rfl (by rw[hV2.len];omega)) [] rfl ?_;refine ah ?_;exact _k.1):G:=h ⟨h'⟩
theorem Il(h':G')(h:cQ G'->G:=by intro _k;refine aI ?_;refine bj (v:=.slice (some ⟨b,o,none⟩) N.arcs.length c) 2 ?_;refine az ?_;exact _k.1):G:=h ⟨h'⟩
theorem Hr(h':G')(h:cQ G'->G:=by intro _k;refine cj (fst:=[]) (cap:=[]) (kt m p ([false]) ab (some ⟨g,0,none⟩) 1 1 g 0 aK rfl) rfl ⟨⟨1,_,by simp[eD],rfl,bq _ _ _,cC⟩,ew 0 rfl,an⟩ ?_;refine cR ?_;exact _k.1):G:=h ⟨h'⟩
theorem HM(h':G')(h:cQ G'->G:=by intro _k;refine dt 35 rfl h2 ?_;refine bp [4,10] ?_;refine ae [4,10] (ic rfl rfl rfl rfl rfl aa) rfl ?_;refine ae [4,10] (aw 0 rfl rfl rfl (bQ hx)) rfl ?_;refine cW [4,10] ?_;exact _k.1):G:=h ⟨h'⟩
theorem IA(h':G')(h:cQ G'->G:=by intro _k;refine aI ?_;refine cj (BE N hR A c b o hA pw _ cr least gl n W0 y3 aa _ _ gwx (λ h=>hAwx (mf h))) rfl ⟨ew 2 rfl,bz 0 rfl,ff 4 rfl hAwx,an⟩ ?_;refine aN ?_;exact _k.1):G:=h ⟨h'⟩
theorem wZ(h':G')(h:cQ G'->G:=by intro _k;refine aI ?_;refine bj (v:=.pointer (some ⟨p,0,none⟩)) 3 ?_;exact _k.1):G:=h ⟨h'⟩
theorem LB(h':G')(h:cQ G'->G:=by intro _k;refine c9 ?_;refine bj (v:=.slice Af f.length cf) 0 ?_;refine az ?_;refine bj (v:=.int .i64 g.left) 4 ?_;refine az ?_;refine bj (v:=.int .i64 g.left) 4 ?_;refine az ?_;refine bj (v:=.slice A g.edges.length c) 4 ?_;refine az ?_;refine aA 32 (v':=.int .i64 (nl:Int)) rfl (Na (Value.int .i64) hnl) ?_;refine aA 38 (v':=.int .i64 ((nl+g.edges.length:Nat):Int)) rfl (Na (Value.int .i64) ((cp aa).trans aa)) ?_;refine aF (F3 rfl rfl rfl rfl rfl rfl aa aa) ?_;refine aA 39 (v':=.slice (fA Af cf nl 1) g.edges.length (cf-nl)) rfl (by show Value.slice _ _ _=_;congr 1;omega) ?_;refine aN ?_;refine bD 40 (v':=.int .i64 g.edges.length) rfl (Na (Value.int .i64) aa) ?_;refine bX 3 1 ?_;refine aq ?_;exact _k.1):G:=h ⟨h'⟩
theorem Ii(h':G')(h:cQ G'->G:=by intro _k;refine wu ?_;refine aW 0 rfl rfl rfl rfl (fh rfl (by rw[Nj,Nm,NE,NP];omega)) [] rfl ?_;refine cR ?_;exact _k.1):G:=h ⟨h'⟩
theorem Hf(h':G')(h:cQ G'->G:=by intro _k;refine aI ?_;refine dt 17 rfl aa ?_;refine bp [2] ?_;refine aA 21 (v':=.bool true) rfl (Na Value.bool (by rw[hgo.2];simp)) ?_;refine ah ?_;refine dr ?_;exact _k.1):G:=h ⟨h'⟩
theorem xC(h':G')(h:cQ G'->G:=by intro _k;refine y7 ?_;refine aF (aw (i:=0) 0 rfl rfl rfl (bI rfl)) ?_;exact _k.1):G:=h ⟨h'⟩
theorem wW(h':G')(h:cQ G'->G:=by intro _k;refine aI ?_;refine aF (f5 (i:=1) rfl rfl rfl rfl rfl ai) ?_;exact _k.1):G:=h ⟨h'⟩
theorem Gu(h':G')(h:cQ G'->G:=by intro _k;refine bM 12 (dT [0,1,2,3,5,6,7,8,9]++[(4,false),(10,false)]++dT [11]) [0] aX ab rfl ?_;refine a9 ?_;exact _k.1):G:=h ⟨h'⟩
theorem oa(h':G')(h:cQ G'->G:=by intro _k;refine dE 0 ?_;refine cR ?_;exact _k.1):G:=h ⟨h'⟩
theorem nZ(h':G')(h:cQ G'->G:=by intro _k;refine dE 0 ?_;refine aN ?_;exact _k.1):G:=h ⟨h'⟩
theorem r6(h':G')(h:cQ G'->G:=by intro _k;refine ec ?_;refine gK ?_;refine ao ?_;exact _k.1):G:=h ⟨h'⟩
theorem rM(h':G')(h:cQ G'->G:=by intro _k;refine dw ?_;refine az ?_;exact _k.1):G:=h ⟨h'⟩
theorem F6(h':G')(h:cQ G'->G:=by intro _k;rw[OF _ _ aa,hl,OE,Nu,hx,show ws.length-k=(ws.length-(k+1))+1 by omega,Oo,OW];exact _k.1):G:=h ⟨h'⟩
theorem Ia(h':G')(h:cQ G'->G:=by intro _k;refine bj (v:=.pointer (some ⟨pw,0,none⟩)) 2 ?_;refine az ?_;refine bj (v:=.slice (some ⟨gr,0,none⟩) (2*N.arcs.length) cr) 3 ?_;refine az ?_;exact _k.1):G:=h ⟨h'⟩
theorem HY(h':G')(h:cQ G'->G:=by intro _k;refine b6 [2,3,4] ?_;refine oo ?_;refine cM ?_;refine aW 4 rfl rfl rfl rfl (fz rfl rfl rfl (by rw[Nm];omega)) [] rfl ?_;refine dv ?_;exact _k.1):G:=h ⟨h'⟩
theorem Hg(h':G')(h:cQ G'->G:=by intro _k;refine c9 ?_;refine cj (fst:=[]) (cap:=[]) (kt m p [] ab none 0 0 0 0 (λ h=>absurd rfl h) rfl) rfl ⟨bz 0 rfl,fX 0 rfl fE (.inl rfl),an⟩ ?_;exact _k.1):G:=h ⟨h'⟩
theorem FD(h':G')(h:cQ G'->G:=by intro _k;refine bp [4] ?_;refine ae [4] (a8 0 rfl rfl rfl rfl) rfl ?_;refine ae [4] (fW 2 Tryz.underlying205 Tryz.underlying3 rfl rfl rfl rfl rfl) rfl ?_;exact _k.1):G:=h ⟨h'⟩
theorem qm(h:p:=by exact⟨[0,1],a7,ab,rfl⟩):p:=h
theorem Iy(h':G')(h:cQ G'->G:=by intro _k;refine bu ?_;refine bj (v:=.pointer (some ⟨pw,0,none⟩)) 1 ?_;refine az ?_;refine bj (v:=.slice (some ⟨gw,0,none⟩) W.length cw) 2 ?_;exact _k.1):G:=h ⟨h'⟩
theorem BI(h':G')(h:cQ G'->G:=by intro _k;refine aI ?_;refine aF (wH rfl rfl rfl rfl rfl hlt) ?_;exact _k.1):G:=h ⟨h'⟩
theorem mM(h':G')(h:cQ G'->G:=by intro _k;refine ao ?_;refine bu ?_;exact _k.1):G:=h ⟨h'⟩
theorem lG(h:p:=by refine aN ?_;exact nU):p:=h
theorem Gx(h':G')(h:cQ G'->G:=by intro _k;refine bh rfl (ic rfl rfl rfl rfl rfl (show v<n+1 by omega)) ?_;refine bh rfl (aw (v:=.slice A' (row.l.length-q) c') 3 rfl rfl rfl hval) ?_;exact _k.1):G:=h ⟨h'⟩
theorem lz(h':G')(h:cQ G'->G:=by intro _k;refine aN ?_;refine bN ?_;exact _k.1):G:=h ⟨h'⟩
theorem Hk(h':G')(h:cQ G'->G:=by intro _k;refine my [10] rfl ?_;refine aG [10] rfl (ic rfl rfl rfl rfl rfl aa) rfl ?_;refine aG [10] rfl (aw 0 rfl rfl rfl (bI (qw aa))) rfl ?_;exact _k.1):G:=h ⟨h'⟩
theorem BV(h':G')(h:cQ G'->G:=by intro _k;refine bu ?_;refine bj 3 ?_;refine az ?_;exact _k.1):G:=h ⟨h'⟩
theorem HW(h':G')(h:cQ G'->G:=by intro _k;refine x5 ?_;refine bh rfl (aw (i:=0) 0 rfl rfl rfl (bI rfl)) ?_;refine x5 ?_;refine bh rfl (aw (i:=1) 0 rfl rfl rfl (bI rfl)) ?_;exact _k.1):G:=h ⟨h'⟩
theorem AX(h':G')(h:cQ G'->G:=by intro _k;simp only[Nj,NU];exact _k.1):G:=h ⟨h'⟩
theorem xN(h':G')(h:cQ G'->G:=by intro _k;rw[Nf,Nk,z3];exact _k.1):G:=h ⟨h'⟩
theorem Hd(h':G')(h:cQ G'->G:=by intro _k;refine c9 ?_;refine eW (EV V s hs) rfl ⟨⟨0,by simp[LibV.heap],rfl⟩,⟨1,by simp[LibV.heap],rfl⟩,⟨2,by simp[LibV.heap],rfl⟩,an⟩ ?_;exact _k.1):G:=h ⟨h'⟩
theorem Bn(h':G')(h:cQ G'->G:=by intro _k;refine iz ?_;refine aF (fJ 3 rfl rfl rfl rfl (bI hx)) ?_;refine dQ ?_;exact _k.1):G:=h ⟨h'⟩
theorem FN(h:p:=by refine jI ?_;refine dE 1 ?_;refine b6 [5] ?_;refine cz ?_;refine dE 0 ?_;refine b6 [5] ?_;refine lo ?_;exact⟨(),a7,ay.refl⟩):p:=h
theorem ek(h':G')(h:cQ G'->G:=by intro _k;refine bp [3] ?_;exact _k.1):G:=h ⟨h'⟩
theorem GG(h:p:=by rw[NR];refine aN ?_;exact aM [0] ⟨_,rfl,A2,c2,rfl,rfl⟩):p:=h
theorem K8(h':G')(h:cQ G'->G:=by intro _k;refine ie ?_;refine cj (Ba N hN hz A c b o hA f F cf bf of hF hf hfl least) rfl ⟨bz 1 rfl,bz 2 rfl,an⟩ ?_;refine cR ?_;exact _k.1):G:=h ⟨h'⟩
theorem II(h':G')(h:cQ G'->G:=by intro _k;refine cM ?_;refine mF 27 (v':=.int .i64 ((n+1:Nat):Int)) rfl (Na (Value.int .i64) ((cp (n:=N.nodes+1) aa).trans aa)) ?_;exact _k.1):G:=h ⟨h'⟩
theorem eq(h':G')(h:cQ G'->G:=by intro _k;refine bp [2] ?_;exact _k.1):G:=h ⟨h'⟩
theorem qg(h':G')(h:cQ G'->G:=by intro _k;refine cR ?_;refine gK ?_;exact _k.1):G:=h ⟨h'⟩
theorem mx(h':G')(h:cQ G'->G:=by intro _k;refine az ?_;refine iA ?_;exact _k.1):G:=h ⟨h'⟩
theorem nJ(h':G')(h:cQ G'->G:=by intro _k;refine dr ?_;refine aI ?_;exact _k.1):G:=h ⟨h'⟩
theorem mG(h':G')(h:cQ G'->G:=by intro _k;refine ja ?_;refine gK ?_;exact _k.1):G:=h ⟨h'⟩
theorem La(h':G')(h:cQ G'->G:=by intro _k;refine c9 ?_;refine cj (FJ V) rfl ⟨⟨1,by simp[LibV.heap],rfl⟩,⟨2,by simp[LibV.heap],rfl⟩,⟨3,by simp[LibV.heap],rfl⟩,an⟩ ?_;exact _k.1):G:=h ⟨h'⟩
theorem FA(h':G')(h:cQ G'->G:=by intro _k;refine (Any.Builder_copyCheck_used { Tryz.lays156 with } Tryz.Builder_Extra_156.toX72 b w (by simp[World.cell?,hb])).mono ?_;exact _k.1):G:=h ⟨h'⟩
theorem mA(h':G')(h:cQ G'->G:=by intro _k;refine am ?_;refine aI ?_;exact _k.1):G:=h ⟨h'⟩
theorem Iv(h':G')(h:cQ G'->G:=by intro _k;refine ie ?_;refine cj (EO N hN hR A c b o hA f F cf bf of hF hf hfl) rfl ⟨bz 1 rfl,bz 2 rfl,an⟩ ?_;refine cR ?_;exact _k.1):G:=h ⟨h'⟩
theorem FW(h':G')(h:cQ G'->G:=by intro _k;refine ie ?_;refine dG (Do N hN hR A c b o hA f F cf bf of hF hf hfl least n hn) rfl ⟨bz 1 rfl,bz 2 rfl,an⟩ ?_;exact _k.1):G:=h ⟨h'⟩
theorem GO(h':G')(h:cQ G'->G:=by intro _k;refine bS (K:=sv P s2) (by rw[hs2];exact ay.refl) ?_;exact _k.1):G:=h ⟨h'⟩
theorem tM(h':G')(h:cQ G'->G:=by intro _k;simp only[Nv,ND];exact _k.1):G:=h ⟨h'⟩
theorem HG(h':G')(h:cQ G'->G:=by intro _k;refine fP ?_;refine bj (v:=xQ g A c) 1 ?_;refine cj (wA g hg A c b o hA) rfl ⟨bz 2 rfl,an⟩ ?_;refine cR ?_;exact _k.1):G:=h ⟨h'⟩
theorem Ga(h':G')(h:cQ G'->G:=by intro _k;refine ig ?_;refine ae [999] (ic rfl rfl rfl rfl rfl hvN) rfl ?_;exact _k.1):G:=h ⟨h'⟩
end Go.Proofs.YtmcnpaelaieniaaGreatDoor
