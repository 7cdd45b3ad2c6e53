import Derived.WalkKit
/- A part of the proof. -/
set_option linter.unusedVariables false
set_option linter.unusedSimpArgs false
namespace Go.Proofs.YtmcnpaelaieniaaGreatDoor
abbrev OA_:=Option Addr
abbrev LI_:=List Int
abbrev LU_:=List UInt8
abbrev LN_:=List Nat
abbrev LV_:=List Value
abbrev LB_:=List Bool
abbrev an:=@List.getElem?_eq_getElem
abbrev be:=@trivial
abbrev M8:=@congrArg
abbrev M9:=@List.mem_of_getElem?
abbrev Na:=@Option.some.injEq
abbrev Nb:=@List.getElem?_eq_some_iff
abbrev Nc:=@List.getD_eq_getElem?_getD
abbrev Nf:=@List.length_cons
abbrev Ng:=@List.length_append
abbrev Nh:=@List.mem_singleton
abbrev Ni:=@List.getElem?_map
abbrev Nj:=@List.length_map
abbrev Nk:=@Nat.zero_le
abbrev Nl:=@List.mem_cons
abbrev Nm:=@List.mem_append
abbrev Nn:=@Classical.not_not
abbrev No:=@List.getElem?_set_self
abbrev Np:=@Nat.le_refl
abbrev Nq:=@List.getElem?_set_ne
abbrev Nr:=@List.not_mem_nil
abbrev Ns:=@List.map_cons
abbrev Nt:=@List.getElem?_replicate
abbrev Nu:=@List.getElem?_append_right
abbrev Nv:=@List.take_add_one
abbrev Nw:=@List.length_eq_zero_iff
abbrev Ny:=@List.nodup_append
abbrev Nz:=@Int.toNat_natCast
abbrev NA:=@List.length_nil
abbrev NB:=@List.mem_map
abbrev NC:=@List.sum_cons
abbrev ND:=@List.length_take
abbrev NE:=@Classical.byContradiction
abbrev NF:=@List.length_singleton
abbrev NG:=@List.nodup_cons
abbrev NH:=@List.take_length
abbrev NI:=@List.append_assoc
abbrev NJ:=@List.map_append
abbrev NK:=@Option.getD_some
abbrev NL:=@List.append_nil
abbrev NM:=@Option.some.inj
abbrev NN:=@List.length_replicate
abbrev NO:=@Nat.zero_add
abbrev NP:=@List.length_pos_iff
abbrev NQ:=@List.length_set
abbrev NR:=@Nat.mul_one
abbrev NT:=@List.mem_iff_getElem
abbrev NU:=@List.sublist_cons_self
abbrev NV:=@Nat.add_sub_cancel_left
abbrev NW:=@decide_eq_true_eq
abbrev NX:=@List.getElem?_eq_none
abbrev NY:=@List.getElem?_append_left
abbrev NZ:=@List.getElem?_zip_eq_some
abbrev N0:=@List.getLast?_append
abbrev N1:=@Prod.mk.injEq
abbrev N2:=@Bool.and_eq_true
abbrev N3:=@Nat.add_assoc
abbrev N4:=@List.mem_range
abbrev N5:=@List.length_drop
abbrev N6:=@List.pairwise_iff_getElem
abbrev N7:=@List.drop_eq_getElem_cons
abbrev N8:=@List.getElem?_cons_succ
abbrev N9:=@List.eq_nil_or_concat
abbrev Oa:=@List.concat_eq_append
abbrev Ob:=@List.cons_append
abbrev Oc:=@List.pairwise_append
abbrev Od:=@List.mem_of_mem_take
abbrev Oe:=@List.getElem?_cons_zero
abbrev Of:=@List.take_of_length_le
abbrev Og:=@List.getElem?_drop
abbrev Oh:=@List.take_append_drop
abbrev Oi:=@List.map_nil
abbrev Oj:=@List.nil_append
abbrev Ok:=@Nat.eq_of_beq_eq_true
abbrev Ol:=@List.replicate_succ
abbrev Om:=@List.length_range
abbrev On:=@List.mem_cons_of_mem
abbrev Oo:=@List.mem_iff_getElem?
abbrev Oq:=@List.map_congr_left
abbrev Ot:=@Nat.le_trans
abbrev Ou:=@Nat.mul_le_mul_right
abbrev Ov:=@Int.le_refl
abbrev Ow:=@Nat.mul_add
abbrev Ox:=@List.getElem_mem
abbrev Oy:=@List.flatten_cons
abbrev Oz:=@List.mem_of_getLast?
abbrev OA:=@List.length_filter_le
abbrev OB:=@Nat.sub_self
abbrev OC:=@List.set_append_right
abbrev OD:=@List.map_map
abbrev OE:=@decide_eq_false
abbrev OF:=@List.foldl_cons
abbrev OG:=@List.cons.injEq
abbrev OH:=@List.map_replicate
abbrev OI:=@List.mem_cons_self
abbrev OJ:=@List.filter_cons
abbrev OL:=@Array.getElem?_eq_some_iff
abbrev OM:=@Option.map_eq_some_iff
abbrev ON:=@Nat.add_mul
abbrev OO:=@List.perm_append_comm
abbrev OP:=@Nat.mul_le_mul
abbrev OQ:=@List.pairwise_singleton
abbrev OR:=@List.mem_map_of_mem
abbrev OS:=@List.nodup_range
abbrev OT:=@List.set_cons_zero
abbrev OU:=@decide_eq_true
abbrev OW:=@Nat.eq_zero_or_pos
abbrev OX:=@Nat.min_eq_left
abbrev OY:=@List.range_succ
abbrev OZ:=@Nat.add_zero
abbrev O0:=@List.length_zip
abbrev O1:=@List.map_set
abbrev O2:=@Nat.pow_lt_pow_iff_right
abbrev O3:=@List.ext_getElem?
abbrev O4:=@List.foldl_append
abbrev O5:=@Int.eq_ofNat_of_zero_le
abbrev O6:=@List.filter_cons_of_pos
abbrev O7:=@Nat.mul_le_mul_left
abbrev O8:=@if_true
abbrev O9:=@Array.getD_eq_getD_getElem?
abbrev Pa:=@Nat.lt_of_lt_of_le
abbrev Pb:=@List.append_of_mem
abbrev Pc:=@List.mem_filter
abbrev Pd:=@Option.map_some
abbrev Pe:=@List.Perm.append_left
abbrev Pf:=@Classical.choose_spec
abbrev Pg:=@List.sum_append
abbrev Ph:=@List.mem_append_right
abbrev Pi:=@List.all_cons
abbrev Pj:=@Nat.mod_two_eq_zero_or_one
abbrev Pk:=@List.cons.inj
abbrev Pl:=@List.ext_getElem
abbrev Pm:=@Nat.min_self
abbrev Pn:=@List.length_erase_of_mem
abbrev Po:=@Array.length_toList
abbrev Pp:=@List.getElem_of_mem
abbrev Pq:=@List.eraseIdx_eq_take_drop_succ
abbrev Pr:=@List.filter_append
abbrev Ps:=@List.pairwise_cons
abbrev Pt:=@List.zip_cons_cons
abbrev Pu:=@Int.natCast_add
abbrev Pv:=@Nat.lt_or_eq_of_le
abbrev Pw:=@List.getElem?_take
abbrev Px:=@Nat.lt_of_le_of_lt
abbrev Py:=@List.not_of_lt_findIdx
abbrev Pz:=@List.length_pos_of_mem
abbrev PA:=@List.findIdx_eq_length
abbrev PB:=@List.eq_nil_of_length_eq_zero
abbrev PC:=@List.nodup_range'
abbrev PD:=@List.getElem_take
abbrev PE:=@Function.comp_def
abbrev PF:=@Nat.le_of_ble_eq_true
abbrev PG:=@List.nodup_nil
abbrev PH:=@if_false
abbrev PJ:=@and_true
abbrev PK:=@List.perm_middle
abbrev PL:=@List.all_eq_true
abbrev PM:=@List.mem_of_mem_drop
abbrev PN:=@Int.tdiv_eq_ediv_of_nonneg
abbrev PO:=@Int.fdiv_eq_ediv_of_nonneg
abbrev PP:=@List.dropWhile_cons
abbrev PQ:=@List.reverse_append
abbrev PR:=@List.getElem?_range
abbrev PS:=@Array.mapM_eq_mapM_toList
abbrev PT:=@List.head?_cons
abbrev PU:=@List.exists_mem_of_ne_nil
abbrev PV:=@of_decide_eq_false
abbrev PW:=@Int.le_trans
abbrev PX:=@Array.foldl_toList
abbrev PY:=@Nat.add_comm
abbrev PZ:=@Nat.lt_or_ge
abbrev P0:=@Option.toList_some
abbrev P1:=@Nat.succ_pos
abbrev P2:=@Bool.false_eq_true
structure cQ (p:Prop):Prop where
 out:p
variable {G G' p:Prop}
theorem bF(h:p:=by first|assumption|omega):p:=h
theorem aa(h:p:=by omega):p:=h
theorem ab(h:p:=by decide):p:=h
theorem aW(h:p:=by kernel_rfl):p:=h
theorem ai(h:p:=by simp):p:=h
theorem aE(h:p:=by exact λ _=>rfl):p:=h
theorem bC(h:p:=by decide+kernel):p:=h
theorem eS(h:p:=by simp;omega):p:=h
theorem I4(h:p:=by simp[LibV.heap]):p:=h
theorem a8(h:p:=by repeat' (first|exact be|refine⟨rfl,?_⟩)):p:=h
theorem gY(h:p:=by repeat' (first|exact rfl|refine⟨rfl,?_⟩)):p:=h
theorem bA(h':G')(h:cQ G'->G:=by intro _k;(repeat' (first|refine am ?_|refine ag ?_|refine bD rfl ?_|refine bu rfl ?_));refine aC ?_;exact _k.1):G:=h ⟨h'⟩
theorem iu(h':G')(h:cQ G'->G:=by intro _k;(repeat' (first|refine ah ?_|refine cD (gs:=[999]) rfl ?_|refine ae [999] (bz 0 rfl rfl rfl rfl) rfl ?_|refine ae [999] (wQ rfl rfl rfl rfl rfl bF) rfl ?_|refine ae [999] (mN (m:=0) rfl rfl rfl rfl rfl ab) rfl ?_|refine ae [999] (mN (m:=1) rfl rfl rfl rfl rfl ab) rfl ?_|refine ae [999] (ez 1 rfl rfl rfl rfl bF bF) rfl ?_|refine ae [999] (dH 1 rfl rfl rfl rfl rfl bF rfl rfl) rfl ?_));exact _k.1):G:=h ⟨h'⟩
theorem cA(h':G')(h:cQ G'->G:=by intro _k;(repeat' (first|refine am ?_|refine ag ?_|refine bD rfl ?_|refine bu rfl ?_));exact _k.1):G:=h ⟨h'⟩
theorem ao(h':G')(h:cQ G'->G:=by intro _k;refine bA ?_;refine cX [] ?_;exact _k.1):G:=h ⟨h'⟩
theorem aI(h':G')(h:cQ G'->G:=by intro _k;refine bA ?_;refine bX [] ?_;exact _k.1):G:=h ⟨h'⟩
theorem ng(h':G')(h:cQ G'->G:=by intro _k;(repeat' (first|refine cD (gs:=[999]) rfl ?_|refine ae [999] (bz 5 rfl rfl rfl rfl) rfl ?_));exact _k.1):G:=h ⟨h'⟩
theorem nh(h':G')(h:cQ G'->G:=by intro _k;(repeat' (first|refine cD (gs:=[999]) rfl ?_|refine ae [999] (bz 2 rfl rfl rfl rfl) rfl ?_));exact _k.1):G:=h ⟨h'⟩
theorem cS(h':G')(h:cQ G'->G:=by intro _k;refine cX [] ?_;refine ao ?_;exact _k.1):G:=h ⟨h'⟩
theorem lK(h':G')(h:cQ G'->G:=by intro _k;refine cD (gs:=[999]) rfl ?_;refine cD (gs:=[999]) rfl ?_;exact _k.1):G:=h ⟨h'⟩
theorem fJ(h':G')(h:cQ G'->G:=by intro _k;show some (Value.int .i64 (IntKind.i64.wrap ((k:Int)+1)))=_;exact _k.1):G:=h ⟨h'⟩
theorem zU(h':G')(h:cQ G'->G:=by intro _k;(repeat' (first|refine jr (gs:=[999]) rfl rfl ?_|refine cV [999] rfl rfl (bz 0 rfl rfl rfl rfl) rfl ?_|refine gU [999] rfl (wQ rfl rfl rfl rfl rfl bF) rfl ?_|refine gU [999] rfl (mN (m:=0) rfl rfl rfl rfl rfl ab) rfl ?_|refine gU [999] rfl (mN (m:=1) rfl rfl rfl rfl rfl ab) rfl ?_|refine cV [999] rfl rfl (ez 1 rfl rfl rfl rfl bF bF) rfl ?_|refine cV [999] rfl rfl (dH 1 rfl rfl rfl rfl rfl bF rfl rfl) rfl ?_));refine im rfl ?_;exact _k.1):G:=h ⟨h'⟩
theorem ip(h':G')(h:cQ G'->G:=by intro _k;refine cX [] ?_;refine bA ?_;refine bh (v:=cd N A c) 0 ?_;refine bX [] ?_;exact _k.1):G:=h ⟨h'⟩
theorem Gj(h':G')(h:cQ G'->G:=by intro _k;refine bA ?_;(repeat' (first|refine cD (gs:=[999]) rfl ?_|refine ae [999] (bz 3 rfl rfl rfl rfl) rfl ?_|refine ae [999] (bz 0 rfl rfl rfl rfl) rfl ?_|refine ae [999] (wQ rfl rfl rfl rfl rfl bF) rfl ?_|refine ae [999] (dH 1 rfl rfl rfl rfl rfl bF rfl rfl) rfl ?_));refine ah ?_;exact _k.1):G:=h ⟨h'⟩
theorem a6(h':G')(h:cQ G'->G:=by intro _k;refine mu [] rfl ?_;exact _k.1):G:=h ⟨h'⟩
theorem ef(h':G')(h:cQ G'->G:=by intro _k;refine⟨rfl,?_⟩;refine cX [] ?_;exact _k.1):G:=h ⟨h'⟩
theorem gz(h':G')(h:cQ G'->G:=by intro _k;refine cA ?_;refine au ?_;exact _k.1):G:=h ⟨h'⟩
theorem jc(h':G')(h:cQ G'->G:=by intro _k;refine aI ?_;refine aG (tC rfl rfl rfl rfl rfl hlt) ?_;exact _k.1):G:=h ⟨h'⟩
theorem cW(h':G')(h:cQ G'->G:=by intro _k;refine ao ?_;refine aI ?_;exact _k.1):G:=h ⟨h'⟩
theorem i1(h':G')(h:cQ G'->G:=by intro _k;refine a6 ?_;refine bc rfl (bz 0 rfl rfl rfl rfl) ?_;exact _k.1):G:=h ⟨h'⟩
theorem Cn(h':G')(h:cQ G'->G:=by intro _k;(repeat' (first|refine eI (gs:=[999]) rfl rfl ?_|refine aF [999] rfl (bz 0 rfl rfl rfl rfl) rfl ?_|refine aF [999] rfl (wQ rfl rfl rfl rfl rfl bF) rfl ?_|refine aF [999] rfl (mN (m:=0) rfl rfl rfl rfl rfl ab) rfl ?_|refine aF [999] rfl (mN (m:=1) rfl rfl rfl rfl rfl ab) rfl ?_|refine aF [999] rfl (ez 1 rfl rfl rfl rfl bF bF) rfl ?_));exact _k.1):G:=h ⟨h'⟩
theorem fD(h':G')(h:cQ G'->G:=by intro _k;refine bu rfl ?_;refine ao ?_;exact _k.1):G:=h ⟨h'⟩
theorem aN(h':G')(h:cQ G'->G:=by intro _k;refine cX [] ?_;exact _k.1):G:=h ⟨h'⟩
theorem fv(h':G')(h:cQ G'->G:=by intro _k;refine aG (eF rfl rfl rfl rfl rfl rfl) ?_;exact _k.1):G:=h ⟨h'⟩
theorem we(h':G')(h:cQ G'->G:=by intro _k;refine cW ?_;refine aG (f0 (i:=1) rfl rfl rfl rfl rfl ai) ?_;refine aB 16 (v':=.slice (fT (some ⟨bb,ob,none⟩) cb 1 1) T.length (cb-1)) rfl (by show Value.slice _ _ _=_;simp) ?_;exact _k.1):G:=h ⟨h'⟩
theorem az(h':G')(h:cQ G'->G:=by intro _k;refine bX [] ?_;exact _k.1):G:=h ⟨h'⟩
theorem ew(h':G')(h:cQ G'->G:=by intro _k;refine aN ?_;refine aI ?_;exact _k.1):G:=h ⟨h'⟩
theorem dw(h':G')(h:cQ G'->G:=by intro _k;refine ah ?_;refine ao ?_;exact _k.1):G:=h ⟨h'⟩
theorem mcM28(h':G')(h:cQ G'->G:=by intro _k;refine a6 ?_;refine bc rfl (bz (v:=.slice (some ⟨gl,0,none⟩) (n+1) (n+1)) 0 rfl rfl rfl rfl) ?_;refine a6 ?_;refine bc rfl (bz (v:=.slice (some ⟨gl,0,none⟩) (n+1) (n+1)) 0 rfl rfl rfl rfl) ?_;refine a6 ?_;refine bc rfl (ij rfl rfl rfl rfl rfl aa) ?_;exact _k.1):G:=h ⟨h'⟩
theorem gD(h':G')(h:cQ G'->G:=by intro _k;refine bA ?_;refine cD (gs:=[999]) rfl ?_;exact _k.1):G:=h ⟨h'⟩
theorem jP(h':G')(h:cQ G'->G:=by intro _k;rintro v H' ⟨rfl,rfl⟩;refine⟨rfl,?_⟩;exact _k.1):G:=h ⟨h'⟩
theorem If(h':G')(h:cQ G'->G:=by intro _k;refine ao ?_;refine gz ?_;refine ao ?_;refine lF 12 [108,111,97,100] ?_;refine fD ?_;refine lF 16 [99,104,101,99,107] ?_;refine fD ?_;refine lF 25 [118,97,108,117,101] ?_;refine fD ?_;exact _k.1):G:=h ⟨h'⟩
theorem qZ(h':G')(h:cQ G'->G:=by intro _k;(repeat' (first|refine eI (gs:=[999]) rfl rfl ?_|refine aF [999] rfl (bz 0 rfl rfl rfl rfl) rfl ?_));exact _k.1):G:=h ⟨h'⟩
theorem nE(h:p:=by exact aL [] ⟨_,rfl,rfl,rfl⟩):p:=h
theorem io(h':G')(h:cQ G'->G:=by intro _k;refine aG (ij rfl rfl rfl rfl rfl aa) ?_;exact _k.1):G:=h ⟨h'⟩
theorem eP(h':G')(h:cQ G'->G:=by intro _k;refine bD rfl ?_;refine ao ?_;exact _k.1):G:=h ⟨h'⟩
theorem m8(h':G')(h:cQ G'->G:=by intro _k;(repeat' (refine eI (gs:=[999]) rfl rfl ?_));exact _k.1):G:=h ⟨h'⟩
theorem fO(h':G')(h:cQ G'->G:=by intro _k;refine⟨rfl,?_⟩;refine cS ?_;exact _k.1):G:=h ⟨h'⟩
theorem fw(h':G')(h:cQ G'->G:=by intro _k;refine ah ?_;refine cA ?_;exact _k.1):G:=h ⟨h'⟩
theorem fR(h':G')(h:cQ G'->G:=by intro _k;refine aN ?_;refine bA ?_;exact _k.1):G:=h ⟨h'⟩
theorem zl(h':G')(h:cQ G'->G:=by intro _k;refine dB (jy V e he.inB (some ⟨g,0,none⟩) 1 1) rfl ⟨⟨6,by simp[dq],rfl⟩,⟨7,by simp[dq],rfl⟩,⟨8,by simp[dq],rfl⟩,be⟩ ?_;exact _k.1):G:=h ⟨h'⟩
theorem wM(h':G')(h:cQ G'->G:=by intro _k;refine ef ?_;refine aI ?_;refine aG (v:=.pointer (some ⟨bb,ob+0,none⟩)) (tC (m:=0) rfl rfl rfl rfl rfl ai) ?_;exact _k.1):G:=h ⟨h'⟩
theorem F1(h':G')(h:cQ G'->G:=by intro _k;refine cW ?_;refine iy (iD _ _ _ hx) rfl aw.refl be ?_;refine iu ?_;refine cA ?_;refine aI ?_;exact _k.1):G:=h ⟨h'⟩
theorem nb(h':G')(h:cQ G'->G:=by intro _k;show some (Value.int .i64 (IntKind.i64.wrap ((i:Int)+1)))=_;exact _k.1):G:=h ⟨h'⟩
theorem gF(h':G')(h:cQ G'->G:=by intro _k;refine cP ?_;refine ah ?_;exact _k.1):G:=h ⟨h'⟩
theorem Dj(h':G')(h:cQ G'->G:=by intro _k;refine fR ?_;refine bh (v:=cd N A c) 0 ?_;refine cH (nX N hN A c b o hA) rfl ⟨bx 1 rfl,be⟩ ?_;rw[hR.check];refine cS ?_;exact _k.1):G:=h ⟨h'⟩
theorem Im(h':G')(h:cQ G'->G:=by intro _k;refine aN ?_;refine gz ?_;refine ao ?_;refine lF 31 [124] ?_;refine fD ?_;refine lF 52 [102,108,111,119] ?_;refine fD ?_;refine lF 63 [99,117,116] ?_;refine fD ?_;exact _k.1):G:=h ⟨h'⟩
theorem iH(h':G')(h:cQ G'->G:=by intro _k;refine aN ?_;refine cA ?_;exact _k.1):G:=h ⟨h'⟩
theorem iG(h':G')(h:cQ G'->G:=by intro _k;refine dz 0 ?_;refine ah ?_;exact _k.1):G:=h ⟨h'⟩
theorem i6(h':G')(h:cQ G'->G:=by intro _k;refine ao ?_;refine ao ?_;exact _k.1):G:=h ⟨h'⟩
theorem iP(h':G')(h:cQ G'->G:=by intro _k;refine bA ?_;refine iu ?_;exact _k.1):G:=h ⟨h'⟩
theorem nc(h':G')(h:cQ G'->G:=by intro _k;show o.upon _ a _ _ ((execOp a.eval o).run _ w);exact _k.1):G:=h ⟨h'⟩
theorem Kz(h':G')(h:cQ G'->G:=by intro _k;refine aI ?_;refine aG (tC rfl rfl rfl rfl rfl hlt') ?_;refine aG (fA 1 rfl rfl rfl rfl (eY hx)) ?_;refine aN ?_;refine gD ?_;refine cH (ET V x aa) rfl ⟨⟨2,ai,rfl⟩,⟨3,ai,rfl⟩,⟨4,ai,rfl⟩,be⟩ ?_;refine cS ?_;exact _k.1):G:=h ⟨h'⟩
theorem KP(h':G')(h:cQ G'->G:=by intro _k;refine bX [2,9,12,23] ?_;refine ae [2,9,12,23] (v:=.slice (some ⟨b,o,none⟩) N.arcs.length c) (bz 2 rfl rfl rfl rfl) rfl ?_;refine bX [2,9,12,23] ?_;refine ae [2,9,12,23] (Ku rfl rfl rfl rfl rfl hil) rfl ?_;refine bX [2,9,12,23] ?_;refine ae [2,9,12,23] (v:=.int .i64 a.fr) (fA 3 rfl rfl rfl (N3 _ _ _) q0) rfl ?_;refine ae [2,9,12,23] (fZ 0 Tryz.underlying205 Tryz.underlying3 rfl rfl rfl rfl rfl) rfl ?_;refine bX [2,9,12,23] ?_;exact _k.1):G:=h ⟨h'⟩
theorem CV(h':G')(h:cQ G'->G:=by intro _k;refine aI ?_;refine aG (v:=cd vB none 0) (eF rfl rfl rfl rfl rfl rfl) ?_;refine az ?_;refine dz 2 ?_;refine az ?_;refine l5 37 3 ?_;refine fw ?_;exact _k.1):G:=h ⟨h'⟩
theorem nJ(h':G')(h:cQ G'->G:=by intro _k;refine bc rfl (ij rfl rfl rfl rfl rfl aa) ?_;exact _k.1):G:=h ⟨h'⟩
theorem K1(h':G')(h:cQ G'->G:=by intro _k;refine cA ?_;refine bK 7 (dS [0,1,3,4]++[(2,false),(5,false)]++dS [6]) [0,1,2,3] aW ab rfl ?_;(repeat' (first|refine eI (gs:=[999]) rfl rfl ?_|refine aF [999] rfl (bz 3 rfl rfl rfl rfl) rfl ?_));refine xJ rfl ?_;refine iy (tl _ m hNm x p hx hup) rfl aw.refl be ?_;refine bZ [0,1,2,3] ?_;refine xJ rfl ?_;refine iy (tl _ m hNm p g hpN hup2) rfl aw.refl be ?_;refine bZ [0,1,2,3] ?_;refine m8 ?_;exact _k.1):G:=h ⟨h'⟩
theorem C9(h':G')(h:cQ G'->G:=by intro _k;refine cW ?_;refine iy (oW _ _ hv) rfl aw.refl be ?_;refine nh ?_;refine fw ?_;refine aI ?_;refine dC (wS _ hs _ hv _ hA) rfl aw.refl be ?_;exact _k.1):G:=h ⟨h'⟩
theorem KA(h':G')(h:cQ G'->G:=by intro _k;refine a6 ?_;refine bc (v:=.pointer (some ⟨pw,0,none⟩)) rfl (bz 0 rfl rfl rfl rfl) ?_;refine a6 ?_;refine bc (v:=.slice (some ⟨go,0,none⟩) (n+1) (n+1)) rfl (bz 2 rfl rfl rfl rfl) ?_;refine a6 ?_;exact _k.1):G:=h ⟨h'⟩
theorem vf(h':G')(h:cQ G'->G:=by intro _k;refine aI ?_;refine aG (ij rfl rfl rfl rfl rfl hlt) ?_;exact _k.1):G:=h ⟨h'⟩
theorem dE(h':G')(h:cQ G'->G:=by intro _k;refine⟨rfl,?_⟩;exact _k.1):G:=h ⟨h'⟩
theorem cz(h':G')(h:cQ G'->G:=by intro _k;refine xJ rfl ?_;exact _k.1):G:=h ⟨h'⟩
theorem ou(h':G')(h:cQ G'->G:=by intro _k;show J _ _ _ _ ([_,_,_,_,_,_,_]++rows.map (bg 3));exact _k.1):G:=h ⟨h'⟩
theorem zC(h':G')(h:cQ G'->G:=by intro _k;refine eI (gs:=[999]) rfl rfl ?_;refine eI (gs:=[999]) rfl rfl ?_;exact _k.1):G:=h ⟨h'⟩
theorem F3(h':G')(h:cQ G'->G:=by intro _k;refine iH ?_;refine bK 9 (dS [0,1,2,3,5]++[(4,false),(6,false)]++dS [7,8]) [1,2] aW ab rfl ?_;refine bc rfl (bz (v:=cd N A c) 0 rfl rfl rfl rfl) ?_;refine a6 ?_;exact _k.1):G:=h ⟨h'⟩
theorem oa(h':G')(h:cQ G'->G:=by intro _k;refine lK ?_;refine cD (gs:=[999]) rfl ?_;exact _k.1):G:=h ⟨h'⟩
theorem tY(h':G')(h:cQ G'->G:=by intro _k;refine aI ?_;refine aG (Ku rfl rfl rfl rfl rfl hlt) ?_;exact _k.1):G:=h ⟨h'⟩
theorem il(h':G')(h:cQ G'->G:=by intro _k;refine bA ?_;refine ng ?_;exact _k.1):G:=h ⟨h'⟩
theorem KL(h':G')(h:cQ G'->G:=by intro _k;refine gU [999] rfl (ij rfl rfl rfl rfl rfl hvN) rfl ?_;refine cV [999] rfl rfl (aA 7 rfl rfl rfl hvv) rfl ?_;refine gU [999] rfl (f0 (i:=1) rfl rfl rfl rfl rfl aa) rfl ?_;refine gU [999] rfl (ij rfl rfl rfl rfl rfl hvN) rfl ?_;refine im rfl ?_;refine aY 7 rfl rfl rfl rfl (fz rfl rfl rfl hvl) [] rfl ?_;refine bZ [] ?_;refine gF ?_;exact _k.1):G:=h ⟨h'⟩
theorem lh(h':G')(h:cQ G'->G:=by intro _k;refine ib [] rfl ?_;refine ah ?_;exact _k.1):G:=h ⟨h'⟩
theorem Kx(h':G')(h:cQ G'->G:=by intro _k;refine bA ?_;refine oa ?_;refine aB 15 (v':=.int .u64 ((1:Nat):Int)) rfl (M8 (Value.int .u64) (ME (n:=1) ab)) ?_;refine lK ?_;refine aB 17 (v':=.int .u64 (n:Int)) rfl (M8 (Value.int .u64) (ME aa)) ?_;refine cH (Jc n aa) rfl be ?_;refine fR ?_;refine oa ?_;refine dD 23 rfl ab ?_;refine bX [2] ?_;exact _k.1):G:=h ⟨h'⟩
theorem ik(h':G')(h:cQ G'->G:=by intro _k;refine aN ?_;refine gz ?_;exact _k.1):G:=h ⟨h'⟩
theorem zn(h':G')(h:cQ G'->G:=by intro _k;refine aI ?_;refine aG (tC rfl rfl rfl rfl rfl ai) ?_;exact _k.1):G:=h ⟨h'⟩
theorem KZ(h':G')(h:cQ G'->G:=by intro _k;refine aG (ij rfl rfl rfl rfl rfl hkm) ?_;refine aY 7 rfl rfl rfl rfl (fz rfl rfl rfl (by rw[bU,fN];exact hkm)) [] rfl ?_;rw[show (aj (pm f t.f ls m k)).set (k/2) (.int .i64 (mi f t.f ls (k+1) (k/2)))=aj ((pm f t.f ls m k).set (k/2) (mi f t.f ls (k+1) (k/2))) from by simp[aj],FF aa rfl];refine dw ?_;exact _k.1):G:=h ⟨h'⟩
theorem KD(h':G')(h:cQ G'->G:=by intro _k;refine aI ?_;refine bh (v:=.int .i64 p) 1 ?_;refine az ?_;refine aB 51 (v':=.int .i64 ((p+1:Nat):Int)) rfl (M8 (Value.int .i64) (cv aa)) ?_;refine bh (v:=.int .i64 k) 1 ?_;refine az ?_;refine aB 55 (v':=.int .i64 ((k+ws.length:Nat):Int)) rfl (M8 (Value.int .i64) ((cv aa).trans aa)) ?_;exact _k.1):G:=h ⟨h'⟩
theorem KQ(h':G')(h:cQ G'->G:=by intro _k;rw[hnv];refine cA ?_;refine bK 9 (dS [0,1,2,3,4,5,6,7,8]) [0,2] aW ab rfl ?_;refine a6 ?_;refine bc (v:=.int .i64 w.val) rfl (bz 1 rfl rfl rfl rfl) ?_;refine a6 ?_;refine bc (v:=.int .i64 m) rfl (bz 0 rfl rfl rfl rfl) ?_;refine a6 ?_;exact _k.1):G:=h ⟨h'⟩
theorem iN(h':G')(h:cQ G'->G:=by intro _k;refine ao ?_;refine cA ?_;exact _k.1):G:=h ⟨h'⟩
theorem Id(h':G')(h:cQ G'->G:=by intro _k;refine bA ?_;refine bh (v:=cd N A c) 1 ?_;refine az ?_;refine dB (w8 N hN hR A c b o hA f F cf bf of hF hf hfl) rfl ⟨bx 2 rfl,bx 3 rfl,be⟩ ?_;exact _k.1):G:=h ⟨h'⟩
theorem yW(h':G')(h:cQ G'->G:=by intro _k;refine a6 ?_;refine bc rfl (tC rfl rfl rfl rfl rfl ai) ?_;exact _k.1):G:=h ⟨h'⟩
theorem KY(h':G')(h:cQ G'->G:=by intro _k;rw[hmk];refine fR ?_;refine lK ?_;refine xE (i:=0) (vs:=List.replicate 1 (.int .i64 x)) 0 1 rfl rfl rfl rfl rfl (bn _ _ _) rfl rfl (by show 1=Nat.min 1 n;exact (OX h1).symm) rfl (by rw[nS (Nk _),NN];omega) [] rfl ?_;rw[Aj aa];refine ik ?_;exact _k.1):G:=h ⟨h'⟩
theorem CF(h':G')(h:cQ G'->G:=by intro _k;(repeat' (first|refine jr (gs:=[999]) rfl rfl ?_|refine cV [999] rfl rfl (bz 5 rfl rfl rfl rfl) rfl ?_));exact _k.1):G:=h ⟨h'⟩
theorem Kw(h:p:=by refine bA ?_;(repeat' (first|refine cD (gs:=[999]) rfl ?_|refine ae [999] (bz 0 rfl rfl rfl rfl) rfl ?_));refine aB 6 (v':=.int .i64 (ei ((k+1:Nat):Int))) rfl (M8 (Value.int .i64) (tk _ _)) ?_;(repeat' (refine cD (gs:=[999]) rfl ?_));refine dz 0 ?_;exact ah ⟨_,rfl,rfl⟩):p:=h
theorem jM(h':G')(h:cQ G'->G:=by intro _k;refine a6 ?_;refine cz ?_;exact _k.1):G:=h ⟨h'⟩
theorem nd(h':G')(h:cQ G'->G:=by intro _k;unfold wpList;rw[if_pos (fB hA hg)];exact _k.1):G:=h ⟨h'⟩
theorem j7(h:p:=by exact bM ⟨_,rfl,rfl,rfl⟩):p:=h
theorem jb(h':G')(h:cQ G'->G:=by intro _k;refine aN ?_;refine au ?_;exact _k.1):G:=h ⟨h'⟩
theorem wo(h':G')(h:cQ G'->G:=by intro _k;refine aI ?_;refine aG (tC rfl rfl rfl rfl rfl hlt') ?_;exact _k.1):G:=h ⟨h'⟩
theorem pA(h':G')(h:cQ G'->G:=by intro _k;refine aI ?_;refine fh EN rfl be ?_;exact _k.1):G:=h ⟨h'⟩
theorem KN(h':G')(h:cQ G'->G:=by intro _k;rw[show row.l.length+1=(row.l++[(r:Int)]).length by simp,show aj row.l++aj [(r:Int)]=aj (row.l++[(r:Int)]) by simp[aj]];refine bZ [2,3] ?_;refine nJ ?_;refine cP ?_;refine aY 3 rfl rfl rfl rfl (fz rfl rfl rfl (by rw[Nj];omega)) [] rfl ?_;refine dw ?_;exact _k.1):G:=h ⟨h'⟩
theorem jH(h':G')(h:cQ G'->G:=by intro _k;rintro v H' ⟨rfl,rfl⟩;exact _k.1):G:=h ⟨h'⟩
theorem KI(h':G')(h:cQ G'->G:=by intro _k;refine uO [] rfl ?_;refine nH [] (bz 0 rfl rfl rfl rfl) rfl ?_;exact _k.1):G:=h ⟨h'⟩
theorem KC(h':G')(h:cQ G'->G:=by intro _k;refine a6 ?_;refine bc (v:=.slice (some ⟨bl,0,none⟩) w.left.length cl) rfl (bz 1 rfl rfl rfl rfl) ?_;refine a6 ?_;refine bc rfl (ij rfl rfl rfl rfl rfl hel) ?_;refine bc rfl (aA (v:=.int .i64 (w.left.getD e 0)) 2 rfl rfl rfl (b7 hxe)) ?_;refine a6 ?_;exact _k.1):G:=h ⟨h'⟩
theorem Cm(h':G')(h:cQ G'->G:=by intro _k;refine nH [] (ij rfl rfl rfl rfl rfl aa) rfl ?_;exact _k.1):G:=h ⟨h'⟩
theorem qW(h':G')(h:cQ G'->G:=by intro _k;refine dz 0 ?_;refine iH ?_;refine bM ?_;exact _k.1):G:=h ⟨h'⟩
theorem za(h':G')(h:cQ G'->G:=by intro _k;refine bc rfl (eF rfl rfl rfl rfl rfl rfl) ?_;refine cz ?_;exact _k.1):G:=h ⟨h'⟩
theorem K2(h':G')(h:cQ G'->G:=by intro _k;refine au ?_;refine bK 10 (dS [0,1,2,3,4,5,6]++[(7,false)]++dS [8,9]) [] aW ab rfl ?_;refine zC ?_;refine eI (gs:=[999]) rfl rfl ?_;refine aF [999] rfl (f0 (i:=k) rfl rfl rfl rfl rfl hk2) rfl ?_;exact _k.1):G:=h ⟨h'⟩
theorem CE(h:p:=by rw[Nj];exact Ot (OA _ _) ai):p:=h
theorem rX(h':G')(h:cQ G'->G:=by intro _k;refine bA ?_;refine bh (v:=cd N A c) 0 ?_;refine az ?_;exact _k.1):G:=h ⟨h'⟩
theorem IC(h:p:=by refine bB 6 (v':=.int .i64 (d:Int)) rfl (M8 (Value.int .i64) (gX hl)) ?_;refine aI ?_;refine d7 33 rfl aa ?_;refine iu ?_;exact⟨[0,1],⟨M8 some (M8 Value.bool (aZ (h1 d hl))),rfl,rfl,rfl,be⟩,ab,rfl⟩):p:=h
theorem Az(h':G')(h:cQ G'->G:=by intro _k;refine If ?_;refine lF 41 [105,116,101,109,115] ?_;refine fD ?_;refine lF 45 [114,101,112,111,114,116] ?_;refine fD ?_;exact _k.1):G:=h ⟨h'⟩
theorem nx(h':G')(h:cQ G'->G:=by intro _k;refine bZ [] ?_;refine m8 ?_;refine cz ?_;exact _k.1):G:=h ⟨h'⟩
theorem Ah(h':G')(h:cQ G'->G:=by intro _k;refine au ?_;refine Gj ?_;refine bB 8 (v':=.int .i64 (p:Int)) rfl (M8 (Value.int .i64) (gX hup)) ?_;refine Gj ?_;exact _k.1):G:=h ⟨h'⟩
theorem BE(h':G')(h:cQ G'->G:=by intro _k;rw[show row.l.length+1=(row.l++[(k:Int)]).length by simp,show aj row.l++aj [(k:Int)]=aj (row.l++[(k:Int)]) by simp[aj]];exact _k.1):G:=h ⟨h'⟩
theorem BV(h':G')(h:cQ G'->G:=by intro _k;refine aY 0 rfl rfl rfl rfl (fF rfl (by rw[Ng,ND,NN];omega)) [] rfl ?_;exact _k.1):G:=h ⟨h'⟩
theorem IP(h':G')(h:cQ G'->G:=by intro _k;refine vf ?_;refine aG (aA (v:=.int .i64 (e:Int)) 1 rfl rfl rfl (eE he)) ?_;refine iH ?_;refine bK 11 (dS [0,1,2,3,4,5,6,7,8,9,10]) [0,2,6] aW ab rfl ?_;exact _k.1):G:=h ⟨h'⟩
theorem jV(h:p:=by refine ao ?_;exact nE):p:=h
theorem ig(h':G')(h:cQ G'->G:=by intro _k;refine bA ?_;refine nh ?_;exact _k.1):G:=h ⟨h'⟩
theorem jh(h':G')(h:cQ G'->G:=by intro _k;refine aI ?_;refine bh 0 ?_;exact _k.1):G:=h ⟨h'⟩
theorem lJ(h':G')(h:cQ G'->G:=by intro _k;refine az ?_;refine dz 2 ?_;exact _k.1):G:=h ⟨h'⟩
theorem HX(h':G')(h:cQ G'->G:=by intro _k;refine cA ?_;refine bK 16 (dS [0,1,2,3,4,5,6,7,8,9,10,11,12]++[(13,false),(14,false)]++dS [15]) [1,2] aW ab rfl ?_;refine mcM28 ?_;exact _k.1):G:=h ⟨h'⟩
theorem iA(h':G')(h:cQ G'->G:=by intro _k;refine a6 ?_;refine gF ?_;exact _k.1):G:=h ⟨h'⟩
theorem jZ(h':G')(h:cQ G'->G:=by intro _k;refine ao ?_;refine gz ?_;exact _k.1):G:=h ⟨h'⟩
theorem GL(h':G')(h:cQ G'->G:=by intro _k;simp only[execOp,ho,hA.val hx,hA.val hy,Sem.run_bind,hg,hb,Result.andThen_ok];exact _k.1):G:=h ⟨h'⟩
theorem FU(h':G')(h:cQ G'->G:=by intro _k;refine cW ?_;refine cH (fst:=[]) (cap:=[]) (kC m p [] ab none 0 0 0 0 (λ h=>absurd rfl h) rfl) rfl ⟨⟨1,_,by simp[dq],rfl,aQ _ _ _ (0,0),.inr rfl⟩,gC 0 rfl gW (.inl rfl),be⟩ ?_;refine cS ?_;exact _k.1):G:=h ⟨h'⟩
theorem Gf(h':G')(h:cQ G'->G:=by intro _k;refine az ?_;refine aB 44 (v':=.bool false) rfl rfl ?_;refine bX [5] ?_;refine ae [5] (bz 1 rfl rfl rfl rfl) rfl ?_;refine ae [5] (fZ 0 Tryz.underlying205 Tryz.underlying3 rfl rfl rfl rfl rfl) rfl ?_;exact _k.1):G:=h ⟨h'⟩
theorem Hy(h:p:=by refine d7 17 rfl aa ?_;refine bX [2] ?_;refine aB 21 (v':=.bool false) rfl (M8 Value.bool (by have:m≠is:=λ e=>hgo ⟨h0,e⟩;simpa using this)) ?_;refine ah ?_;exact⟨[0,1],a8,ab,rfl⟩):p:=h
theorem ji(h':G')(h:cQ G'->G:=by intro _k;refine lH 1 1 (by rfl) ab ?_;exact _k.1):G:=h ⟨h'⟩
theorem IA(h':G')(h:cQ G'->G:=by intro _k;(repeat' (first|refine eI (gs:=[999]) rfl rfl ?_|refine aF [999] rfl (bz 1 rfl rfl rfl rfl) rfl ?_|refine aF [999] rfl (bz 3 rfl rfl rfl rfl) rfl ?_|refine aF [999] rfl (bz 4 rfl rfl rfl rfl) rfl ?_));exact _k.1):G:=h ⟨h'⟩
theorem HQ(h:p:=by refine aI ?_;refine cH (tZ (some ⟨g,0,none⟩) _ c g 0 (f::l.map itoa) rfl aE ho.2.1 (by show (gG f l).length<=_;omega) eS) rfl ⟨gC 0 rfl b8 (.inr rfl),be⟩ ?_;refine aN ?_;exact nE):p:=h
theorem xY(h':G')(h:cQ G'->G:=by intro _k;simp only[NB,Pc,N4,NW];exact _k.1):G:=h ⟨h'⟩
theorem jX(h':G')(h:cQ G'->G:=by intro _k;refine ao ?_;refine au ?_;exact _k.1):G:=h ⟨h'⟩
theorem qn(h':G')(h:cQ G'->G:=by intro _k;refine aI ?_;refine bh 1 ?_;refine az ?_;exact _k.1):G:=h ⟨h'⟩
theorem Aq(h':G')(h:cQ G'->G:=by intro _k;refine ew ?_;refine cH (HI V x hxB) rfl ⟨⟨2,ai,rfl⟩,⟨3,ai,rfl⟩,⟨4,ai,rfl⟩,be⟩ ?_;exact _k.1):G:=h ⟨h'⟩
theorem sy(h':G')(h:cQ G'->G:=by intro _k;refine bh (v:=cd N A c) 3 ?_;refine az ?_;exact _k.1):G:=h ⟨h'⟩
theorem Ir(h':G')(h:cQ G'->G:=by intro _k;refine cA ?_;refine bK 14 (dS [0,1,2,3,4,5,6,7,8,9,10,11,12,13]) [2,3] aW ab rfl ?_;refine mcM28 ?_;exact _k.1):G:=h ⟨h'⟩
theorem Ie(h':G')(h:cQ G'->G:=by intro _k;refine cA ?_;refine bK 14 (dS [0,1,2,3,4,5,6,7,8,9,10]++[(11,false),(12,false)]++dS [13]) [5] aW ab rfl ?_;refine a6 ?_;exact _k.1):G:=h ⟨h'⟩
theorem Ht(h':G')(h:cQ G'->G:=by intro _k;refine a6 ?_;refine bc rfl (bz (i:=3) (v:=.slice A r.arcs.length c) 0 rfl rfl rfl rfl) ?_;refine a6 ?_;refine bc rfl (bz (i:=4) (v:=.int .i64 r.most) 0 rfl rfl rfl rfl) ?_;refine lh ?_;exact _k.1):G:=h ⟨h'⟩
theorem B4(h:p:=by exact aw.trans (aw.re (A:=[_,_,_,_,_,_,_,_,_,_]) [3,0,1,4,5,6,7,8,9] rfl ab) (aw.unfront (A:=[_,_,_,_,_,_,_,_]) hrow)):p:=h
theorem Ap(h:p:=by refine ao ?_;exact aL [] ⟨_,rfl,rfl⟩):p:=h
theorem Ig(h':G')(h:cQ G'->G:=by intro _k;refine a6 ?_;refine bc (v:=cd m.N m.An m.cn) rfl (fA (i:=0) 0 rfl rfl rfl rfl rfl) ?_;refine a6 ?_;refine bc (v:=.slice m.Af m.f.length m.cf) rfl (fA (i:=4) 0 rfl rfl rfl rfl rfl) ?_;exact _k.1):G:=h ⟨h'⟩
theorem xM(h':G')(h:cQ G'->G:=by intro _k;rw[NH,OB,List.replicate_zero,NL];exact _k.1):G:=h ⟨h'⟩
theorem wY(h':G')(h:cQ G'->G:=by intro _k;rw[OY,Pr,NJ];exact _k.1):G:=h ⟨h'⟩
theorem FQ(h':G')(h:cQ G'->G:=by intro _k;refine uO [] rfl ?_;refine nH [] (tC rfl rfl rfl rfl rfl hlt) rfl ?_;exact _k.1):G:=h ⟨h'⟩
theorem rT(h':G')(h:cQ G'->G:=by intro _k;refine aG (fA (i:=0) 0 rfl rfl rfl rfl rfl) ?_;exact _k.1):G:=h ⟨h'⟩
theorem rJ(h':G')(h:cQ G'->G:=by intro _k;show J _ _ _ _ ([_,_,_,_,_]++rows.map (bg 3));exact _k.1):G:=h ⟨h'⟩
theorem GM(h':G')(h:cQ G'->G:=by intro _k;refine a6 ?_;refine bc (v:=.slice (some ⟨b,o,none⟩) N.arcs.length c) rfl (bz 5 rfl rfl rfl rfl) ?_;refine a6 ?_;refine bc rfl (Ku rfl rfl rfl rfl rfl hil) ?_;refine a6 ?_;exact _k.1):G:=h ⟨h'⟩
theorem IR(h':G')(h:cQ G'->G:=by intro _k;refine a6 ?_;refine bc rfl (bz (v:=.slice (some ⟨go,0,none⟩) (n+1) (n+1)) 1 rfl rfl rfl rfl) ?_;refine a6 ?_;refine bc rfl (bz (v:=.int .i64 (v:Int)) 0 rfl rfl rfl rfl) ?_;exact _k.1):G:=h ⟨h'⟩
theorem BG(h':G')(h:cQ G'->G:=by intro _k;refine jc ?_;refine aG (v:=du x) (fA 2 rfl rfl rfl rfl (eY hx)) ?_;exact _k.1):G:=h ⟨h'⟩
theorem HL(h':G')(h:cQ G'->G:=by intro _k;refine aG (v:=du w) (fA (i:=0) 1 rfl rfl rfl rfl rfl) ?_;refine Im ?_;refine lF 75 [115,111,108,118,101] ?_;refine fD ?_;refine lF 105 [112,97,105,114,115] ?_;refine fD ?_;exact _k.1):G:=h ⟨h'⟩
theorem FX(h':G')(h:cQ G'->G:=by intro _k;refine fR ?_;refine bh (v:=cd N A c) 1 ?_;refine az ?_;refine dB (tn N hN hR A c b o hA f F cf bf of hF (aD.inB hR hf.toRanged) aa least) rfl ⟨bx 2 rfl,bx 3 rfl,be⟩ ?_;exact _k.1):G:=h ⟨h'⟩
theorem dy(h':G')(h:cQ G'->G:=by intro _k;refine bD rfl ?_;exact _k.1):G:=h ⟨h'⟩
theorem GK(h':G')(h:cQ G'->G:=by intro _k;refine bc rfl (f0 (i:=1) rfl rfl rfl rfl rfl aa) ?_;refine nJ ?_;refine cP ?_;refine aY 3 rfl rfl rfl rfl (fz rfl rfl rfl (by rw[hV2.len];omega)) [] rfl ?_;refine ah ?_;exact _k.1):G:=h ⟨h'⟩
theorem GQ(h':G')(h:cQ G'->G:=by intro _k;refine aI ?_;refine bh (v:=.slice (some ⟨b,o,none⟩) N.arcs.length c) 2 ?_;refine az ?_;exact _k.1):G:=h ⟨h'⟩
theorem Gz(h':G')(h:cQ G'->G:=by intro _k;refine cH (fst:=[]) (cap:=[]) (kC m p ([false]) ab (some ⟨g,0,none⟩) 1 1 g 0 aE rfl) rfl ⟨⟨1,_,by simp[eC],rfl,bn _ _ _,cC⟩,en 0 rfl,be⟩ ?_;refine cS ?_;exact _k.1):G:=h ⟨h'⟩
theorem Ic(h':G')(h:cQ G'->G:=by intro _k;refine d7 35 rfl h2 ?_;refine bX [4,10] ?_;refine ae [4,10] (ij rfl rfl rfl rfl rfl aa) rfl ?_;refine ae [4,10] (aA 0 rfl rfl rfl (b7 hx)) rfl ?_;refine cX [4,10] ?_;exact _k.1):G:=h ⟨h'⟩
theorem FE(h':G')(h:cQ G'->G:=by intro _k;refine aI ?_;refine cH (z9 N hR A c b o hA pw _ cr least gl n W0 y3 aa _ _ gwx (λ h=>hAwx (l6 h))) rfl ⟨en 2 rfl,bx 0 rfl,gy 4 rfl hAwx,be⟩ ?_;refine aN ?_;exact _k.1):G:=h ⟨h'⟩
theorem xd(h':G')(h:cQ G'->G:=by intro _k;refine aI ?_;refine bh (v:=.pointer (some ⟨p,0,none⟩)) 3 ?_;exact _k.1):G:=h ⟨h'⟩
theorem Ly(h':G')(h:cQ G'->G:=by intro _k;refine cW ?_;refine bh (v:=.slice Af f.length cf) 0 ?_;refine az ?_;refine bh (v:=.int .i64 g.left) 4 ?_;refine az ?_;refine bh (v:=.int .i64 g.left) 4 ?_;refine az ?_;refine bh (v:=.slice A g.edges.length c) 4 ?_;refine az ?_;refine aB 32 (v':=.int .i64 (nl:Int)) rfl (M8 (Value.int .i64) hnl) ?_;refine aB 38 (v':=.int .i64 ((nl+g.edges.length:Nat):Int)) rfl (M8 (Value.int .i64) ((cv aa).trans aa)) ?_;refine aG (Iv rfl rfl rfl rfl rfl rfl aa aa) ?_;refine aB 39 (v':=.slice (fT Af cf nl 1) g.edges.length (cf-nl)) rfl (by show Value.slice _ _ _=_;congr 1;omega) ?_;refine aN ?_;refine bB 40 (v':=.int .i64 g.edges.length) rfl (M8 (Value.int .i64) aa) ?_;refine b6 3 1 ?_;refine au ?_;exact _k.1):G:=h ⟨h'⟩
theorem Iy(h':G')(h:cQ G'->G:=by intro _k;refine wo ?_;refine aY 0 rfl rfl rfl rfl (fF rfl (by rw[Ng,Nj,ND,NN];omega)) [] rfl ?_;refine cS ?_;exact _k.1):G:=h ⟨h'⟩
theorem G8(h':G')(h:cQ G'->G:=by intro _k;refine aI ?_;refine d7 17 rfl aa ?_;refine bX [2] ?_;refine aB 21 (v':=.bool true) rfl (M8 Value.bool (by rw[hgo.2];simp)) ?_;refine ah ?_;refine dy ?_;exact _k.1):G:=h ⟨h'⟩
theorem w7(h':G')(h:cQ G'->G:=by intro _k;refine zn ?_;refine aG (aA (i:=0) 0 rfl rfl rfl (bq rfl)) ?_;exact _k.1):G:=h ⟨h'⟩
theorem B1(h':G')(h:cQ G'->G:=by intro _k;refine aI ?_;refine aG (f0 (i:=1) rfl rfl rfl rfl rfl ai) ?_;exact _k.1):G:=h ⟨h'⟩
theorem G6(h':G')(h:cQ G'->G:=by intro _k;refine bK 12 (dS [0,1,2,3,5,6,7,8,9]++[(4,false),(10,false)]++dS [11]) [0] aW ab rfl ?_;refine a6 ?_;exact _k.1):G:=h ⟨h'⟩
theorem nW(h':G')(h:cQ G'->G:=by intro _k;refine dz 0 ?_;refine cS ?_;exact _k.1):G:=h ⟨h'⟩
theorem tT(h':G')(h:cQ G'->G:=by intro _k;refine dz 0 ?_;refine aN ?_;exact _k.1):G:=h ⟨h'⟩
theorem se(h':G')(h:cQ G'->G:=by intro _k;refine ef ?_;refine gz ?_;refine ao ?_;exact _k.1):G:=h ⟨h'⟩
theorem rN(h':G')(h:cQ G'->G:=by intro _k;refine dE ?_;refine az ?_;exact _k.1):G:=h ⟨h'⟩
theorem GR(h':G')(h:cQ G'->G:=by intro _k;rw[OC _ _ aa,hl,OB,Nv,hx,show ws.length-k=(ws.length-(k+1))+1 by omega,Ol,OT];exact _k.1):G:=h ⟨h'⟩
theorem HA(h':G')(h:cQ G'->G:=by intro _k;refine a6 ?_;refine bc rfl (tC rfl rfl rfl rfl rfl hlt) ?_;exact _k.1):G:=h ⟨h'⟩
theorem GH(h':G')(h:cQ G'->G:=by intro _k;refine bh (v:=.pointer (some ⟨pw,0,none⟩)) 2 ?_;refine az ?_;refine bh (v:=.slice (some ⟨gr,0,none⟩) (2*N.arcs.length) cr) 3 ?_;refine az ?_;exact _k.1):G:=h ⟨h'⟩
theorem Ia(h':G')(h:cQ G'->G:=by intro _k;refine bZ [2,3,4] ?_;refine nJ ?_;refine cP ?_;refine aY 4 rfl rfl rfl rfl (fz rfl rfl rfl (by rw[Nj];omega)) [] rfl ?_;refine dw ?_;exact _k.1):G:=h ⟨h'⟩
theorem H4(h':G')(h:cQ G'->G:=by intro _k;refine cW ?_;refine cH (fst:=[]) (cap:=[]) (kC m p [] ab none 0 0 0 0 (λ h=>absurd rfl h) rfl) rfl ⟨bx 0 rfl,gC 0 rfl gW (.inl rfl),be⟩ ?_;exact _k.1):G:=h ⟨h'⟩
theorem FR(h':G')(h:cQ G'->G:=by intro _k;refine bX [4] ?_;refine ae [4] (bz 0 rfl rfl rfl rfl) rfl ?_;refine ae [4] (fZ 2 Tryz.underlying205 Tryz.underlying3 rfl rfl rfl rfl rfl) rfl ?_;exact _k.1):G:=h ⟨h'⟩
theorem pY(h:p:=by exact⟨[0,1],a8,ab,rfl⟩):p:=h
theorem HD(h':G')(h:cQ G'->G:=by intro _k;refine bA ?_;refine bh (v:=.pointer (some ⟨pw,0,none⟩)) 1 ?_;refine az ?_;refine bh (v:=.slice (some ⟨gw,0,none⟩) W.length cw) 2 ?_;exact _k.1):G:=h ⟨h'⟩
theorem Bw(h':G')(h:cQ G'->G:=by intro _k;refine aI ?_;refine aG (wQ rfl rfl rfl rfl rfl hlt) ?_;exact _k.1):G:=h ⟨h'⟩
theorem mz(h':G')(h:cQ G'->G:=by intro _k;refine ao ?_;refine bA ?_;exact _k.1):G:=h ⟨h'⟩
theorem mG(h:p:=by refine aN ?_;exact nE):p:=h
theorem Hm(h':G')(h:cQ G'->G:=by intro _k;refine bc rfl (ij rfl rfl rfl rfl rfl (show v<n+1 by omega)) ?_;refine bc rfl (aA (v:=.slice A' (row.l.length-q) c') 3 rfl rfl rfl hval) ?_;exact _k.1):G:=h ⟨h'⟩
theorem BK(h':G')(h:cQ G'->G:=by intro _k;refine aG (iv rfl rfl rfl aa) ?_;refine aG (iv (m:=[10]) rfl rfl rfl eS) ?_;exact _k.1):G:=h ⟨h'⟩
theorem lI(h':G')(h:cQ G'->G:=by intro _k;refine aN ?_;refine bM ?_;exact _k.1):G:=h ⟨h'⟩
theorem IQ(h':G')(h:cQ G'->G:=by intro _k;refine mu [10] rfl ?_;refine aF [10] rfl (ij rfl rfl rfl rfl rfl aa) rfl ?_;refine aF [10] rfl (aA 0 rfl rfl rfl (bq (qk aa))) rfl ?_;exact _k.1):G:=h ⟨h'⟩
theorem Bk(h':G')(h:cQ G'->G:=by intro _k;refine bA ?_;refine bh 3 ?_;refine az ?_;exact _k.1):G:=h ⟨h'⟩
theorem FI(h':G')(h:cQ G'->G:=by intro _k;refine yW ?_;refine bc rfl (aA (i:=0) 0 rfl rfl rfl (bq rfl)) ?_;refine yW ?_;refine bc rfl (aA (i:=1) 0 rfl rfl rfl (bq rfl)) ?_;exact _k.1):G:=h ⟨h'⟩
theorem z8(h':G')(h:cQ G'->G:=by intro _k;simp only[Ng,NF];exact _k.1):G:=h ⟨h'⟩
theorem xm(h':G')(h:cQ G'->G:=by intro _k;rw[Nc,Ni,z3];exact _k.1):G:=h ⟨h'⟩
theorem LM(h':G')(h:cQ G'->G:=by intro _k;refine cW ?_;refine fh (ER V s hs) rfl ⟨⟨0,by simp[LibV.heap],rfl⟩,⟨1,by simp[LibV.heap],rfl⟩,⟨2,by simp[LibV.heap],rfl⟩,be⟩ ?_;exact _k.1):G:=h ⟨h'⟩
theorem BT(h':G')(h:cQ G'->G:=by intro _k;refine jc ?_;refine aG (fA 3 rfl rfl rfl rfl (bq hx)) ?_;refine ew ?_;exact _k.1):G:=h ⟨h'⟩
theorem HE(h:p:=by refine jM ?_;refine dz 1 ?_;refine bZ [5] ?_;refine cz ?_;refine dz 0 ?_;refine bZ [5] ?_;refine lh ?_;exact⟨(),a8,aw.refl⟩):p:=h
theorem dY(h':G')(h:cQ G'->G:=by intro _k;refine bX [3] ?_;exact _k.1):G:=h ⟨h'⟩
theorem F5(h:p:=by rw[NO];refine aN ?_;exact aL [0] ⟨_,rfl,A2,c2,rfl,rfl⟩):p:=h
theorem Lr(h':G')(h:cQ G'->G:=by intro _k;refine ip ?_;refine cH (BC N hN hz A c b o hA f F cf bf of hF hf hfl least) rfl ⟨bx 1 rfl,bx 2 rfl,be⟩ ?_;refine cS ?_;exact _k.1):G:=h ⟨h'⟩
theorem G2(h':G')(h:cQ G'->G:=by intro _k;refine cP ?_;refine mw 27 (v':=.int .i64 ((n+1:Nat):Int)) rfl (M8 (Value.int .i64) ((cv (n:=N.nodes+1) aa).trans aa)) ?_;exact _k.1):G:=h ⟨h'⟩
theorem ic(h':G')(h:cQ G'->G:=by intro _k;refine bX [2] ?_;exact _k.1):G:=h ⟨h'⟩
theorem pJ(h':G')(h:cQ G'->G:=by intro _k;refine cS ?_;refine gz ?_;exact _k.1):G:=h ⟨h'⟩
theorem mU(h':G')(h:cQ G'->G:=by intro _k;refine az ?_;refine iG ?_;exact _k.1):G:=h ⟨h'⟩
theorem pZ(h':G')(h:cQ G'->G:=by intro _k;refine dy ?_;refine aI ?_;exact _k.1):G:=h ⟨h'⟩
theorem mI(h':G')(h:cQ G'->G:=by intro _k;refine i6 ?_;refine gz ?_;exact _k.1):G:=h ⟨h'⟩
theorem IL(h':G')(h:cQ G'->G:=by intro _k;refine (Any.Builder_copyCheck_used { Tryz.lays156 with } Tryz.Builder_Extra_156.toX72 b w (by simp[World.cell?,hb])).mono ?_;exact _k.1):G:=h ⟨h'⟩
theorem nB(h':G')(h:cQ G'->G:=by intro _k;refine am ?_;refine aI ?_;exact _k.1):G:=h ⟨h'⟩
theorem GS(h':G')(h:cQ G'->G:=by intro _k;refine ip ?_;refine cH (Dm N hN hR A c b o hA f F cf bf of hF hf hfl) rfl ⟨bx 1 rfl,bx 2 rfl,be⟩ ?_;refine cS ?_;exact _k.1):G:=h ⟨h'⟩
theorem G7(h':G')(h:cQ G'->G:=by intro _k;refine ip ?_;refine dB (Fb N hN hR A c b o hA f F cf bf of hF hf hfl least n hn) rfl ⟨bx 1 rfl,bx 2 rfl,be⟩ ?_;exact _k.1):G:=h ⟨h'⟩
theorem Hx(h':G')(h:cQ G'->G:=by intro _k;refine bQ (K:=rQ P s2) (by rw[hs2];exact aw.refl) ?_;exact _k.1):G:=h ⟨h'⟩
theorem tU(h':G')(h:cQ G'->G:=by intro _k;simp only[Ns,NC];exact _k.1):G:=h ⟨h'⟩
theorem Hi(h':G')(h:cQ G'->G:=by intro _k;refine fR ?_;refine bh (v:=xj g A c) 1 ?_;refine cH (wJ g hg A c b o hA) rfl ⟨bx 2 rfl,be⟩ ?_;refine cS ?_;exact _k.1):G:=h ⟨h'⟩
theorem HP(h':G')(h:cQ G'->G:=by intro _k;refine il ?_;refine ae [999] (ij rfl rfl rfl rfl rfl hvN) rfl ?_;exact _k.1):G:=h ⟨h'⟩
end Go.Proofs.YtmcnpaelaieniaaGreatDoor
