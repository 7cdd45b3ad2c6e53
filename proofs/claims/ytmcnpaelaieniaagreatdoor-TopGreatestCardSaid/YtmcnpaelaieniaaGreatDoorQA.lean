import Derived.Test.YtmcnpaelaieniaaGreatDoorProg
import Derived.Below
import Derived.Scope
import Derived.Deep.QuietTactic
import Derived.Deep.LoopGhost
import Derived.StillTailTactics
import Derived.Laws.MakeOwn
import Derived.Laws.OwnMore
import Derived.WalkKit
import Derived.Deep.AppendLies
/- A part of the proof; see NOTES.md. -/
set_option linter.unusedVariables false
set_option linter.unusedSimpArgs false
namespace Go.Proofs.YtmcnpaelaieniaaGreatDoor
open Go.RowKit
abbrev OA:=Option Addr
abbrev LI:=List Int
abbrev LU:=List UInt8
abbrev LN:=List Nat
abbrev LV_:=List Value
abbrev LB:=List Bool
abbrev an:=@trivial
abbrev Gq:=@List.getElem?_eq_getElem
abbrev Gs:=@Option.some.injEq
abbrev Gt:=@congrArg
abbrev Gu:=@List.mem_of_getElem?
abbrev Gv:=@List.getElem?_eq_some_iff
abbrev Gw:=@List.getD_eq_getElem?_getD
abbrev Gx:=@List.length_append
abbrev Gy:=@List.mem_singleton
abbrev Gz:=@List.length_cons
abbrev GA:=@List.length_map
abbrev GB:=@Nat.zero_le
abbrev GC:=@List.getElem?_map
abbrev GD:=@List.mem_cons
abbrev GE:=@List.mem_append
abbrev GF:=@Nat.le_refl
abbrev GG:=@List.map_cons
abbrev GH:=@List.getElem?_set_self
abbrev GI:=@List.nodup_append
abbrev GJ:=@List.getElem?_set_ne
abbrev GK:=@Classical.not_not
abbrev GL:=@List.getElem?_append_right
abbrev GM:=@List.length_eq_zero_iff
abbrev GN:=@List.getElem?_replicate
abbrev GO:=@List.take_add_one
abbrev GP:=@List.not_mem_nil
abbrev GQ:=@List.length_nil
abbrev GR:=@List.mem_map
abbrev GS:=@List.nodup_cons
abbrev GT:=@List.sum_cons
abbrev GU:=@List.length_replicate
abbrev GV:=@List.length_take
abbrev GW:=@Int.toNat_natCast
abbrev GX:=@List.map_append
abbrev GY:=@List.take_length
abbrev GZ:=@Nat.zero_add
abbrev G0:=@Option.some.inj
abbrev G1:=@Option.getD_some
abbrev G2:=@List.length_singleton
abbrev G3:=@decide_eq_true_eq
abbrev G4:=@List.append_assoc
abbrev G5:=@List.append_nil
abbrev G6:=@List.getElem?_eq_none
abbrev G7:=@List.getElem?_zip_eq_some
abbrev G8:=@Nat.mul_one
abbrev G9:=@List.sublist_cons_self
abbrev Ha:=@List.length_set
abbrev Hb:=@Nat.add_sub_cancel_left
abbrev Hc:=@List.length_pos_iff
abbrev Hd:=@List.getLast?_append
abbrev He:=@Nat.add_assoc
abbrev Hf:=@List.drop_eq_getElem_cons
abbrev Hg:=@Classical.byContradiction
abbrev Hh:=@Bool.and_eq_true
abbrev Hi:=@List.getElem?_append_left
abbrev Hj:=@List.mem_iff_getElem
abbrev Hl:=@List.mem_of_mem_take
abbrev Hm:=@List.mem_range
abbrev Hn:=@List.eq_nil_or_concat
abbrev Ho:=@List.concat_eq_append
abbrev Hp:=@List.cons_append
abbrev Hq:=@Prod.mk.injEq
abbrev Hr:=@List.take_of_length_le
abbrev Hs:=@List.take_append_drop
abbrev Ht:=@List.length_drop
abbrev Hu:=@List.getElem?_drop
abbrev Hv:=@Nat.eq_of_beq_eq_true
abbrev Hw:=@List.replicate_succ
abbrev Hy:=@List.map_nil
abbrev Hz:=@List.nil_append
abbrev HA:=@List.mem_iff_getElem?
abbrev HB:=@List.getElem?_cons_zero
abbrev HC:=@Nat.sub_self
abbrev HD:=@List.pairwise_iff_getElem
abbrev HE:=@Nat.mul_le_mul_right
abbrev HF:=@Nat.mul_add
abbrev HG:=@Nat.le_trans
abbrev HH:=@List.map_congr_left
abbrev HI:=@List.length_filter_le
abbrev HJ:=@List.set_append_right
abbrev HK:=@Int.le_refl
abbrev HL:=@List.mem_of_getLast?
abbrev HM:=@List.length_range
abbrev HN:=@decide_eq_false
abbrev HO:=@List.cons.injEq
abbrev HP:=@Array.getElem?_eq_some_iff
abbrev HQ:=@List.map_map
abbrev HR:=@List.flatten_cons
abbrev HS:=@List.length_zip
abbrev HT:=@List.map_replicate
abbrev HU:=@List.set_cons_zero
abbrev HV:=@List.pairwise_append
abbrev HW:=@List.mem_cons_of_mem
abbrev HX:=@Nat.mul_le_mul
abbrev HY:=@List.mem_map_of_mem
abbrev HZ:=@Nat.add_zero
abbrev H0:=@Nat.add_mul
abbrev H4:=@List.getElem_mem
abbrev H5:=@List.nodup_range
abbrev H6:=@List.filter_cons
abbrev H7:=@List.zip_cons_cons
abbrev H8:=@List.mem_cons_self
abbrev H9:=@Nat.min_eq_left
abbrev Ia:=@List.mem_filter
abbrev Ib:=@Nat.min_self
abbrev Ic:=@Nat.pow_lt_pow_iff_right
abbrev Id:=@List.ext_getElem?
abbrev Ie:=@Int.eq_ofNat_of_zero_le
abbrev If:=@List.pairwise_singleton
abbrev Ig:=@List.filter_cons_of_pos
abbrev Ih:=@Nat.mul_le_mul_left
abbrev Ii:=@decide_eq_true
abbrev Ij:=@if_true
abbrev Ik:=@Array.getD_eq_getD_getElem?
abbrev Il:=@Nat.lt_of_lt_of_le
abbrev Im:=@List.filter_append
abbrev In:=@List.map_set
abbrev Io:=@List.append_of_mem
abbrev Ip:=@List.Perm.append_left
abbrev Iq:=@List.perm_append_comm
abbrev Ir:=@List.range_succ
abbrev Is:=@Classical.choose_spec
abbrev Iu:=@List.sum_append
abbrev Iv:=@Nat.mod_two_eq_zero_or_one
abbrev Iw:=@List.all_cons
abbrev Ix:=@List.cons.inj
abbrev Iy:=@List.foldl_append
abbrev Iz:=@List.getElem_take
abbrev IA:=@Array.length_toList
abbrev IB:=@List.getElem_of_mem
abbrev IC:=@List.eraseIdx_eq_take_drop_succ
abbrev ID:=@List.getElem?_cons_succ
abbrev IE:=@List.foldl_cons
abbrev IF:=@Nat.eq_zero_or_pos
abbrev IG:=@Int.natCast_add
abbrev IH:=@Nat.lt_of_le_of_lt
abbrev II:=@List.not_of_lt_findIdx
abbrev IJ:=@List.findIdx_eq_length
abbrev IK:=@List.eq_nil_of_length_eq_zero
abbrev IL:=@List.nodup_range'
abbrev IM:=@Function.comp_def
abbrev IN:=@Nat.le_of_ble_eq_true
abbrev IP:=@List.nodup_nil
abbrev IQ:=@if_false
abbrev IR:=@and_true
abbrev IS:=@List.ext_getElem
abbrev IT:=@List.perm_middle
abbrev IU:=@List.mem_of_mem_drop
abbrev IV:=@Int.tdiv_eq_ediv_of_nonneg
abbrev IW:=@Int.fdiv_eq_ediv_of_nonneg
abbrev IX:=@List.replicate_zero
abbrev IY:=@List.dropWhile_cons
abbrev IZ:=@List.reverse_append
abbrev I0:=@Array.mapM_eq_mapM_toList
abbrev I1:=@List.head?_cons
abbrev I2:=@List.exists_mem_of_ne_nil
abbrev I3:=@Int.le_trans
abbrev I4:=@Array.foldl_toList
abbrev I5:=@Nat.add_comm
abbrev I6:=@Bool.false_eq_true
abbrev Env:=List (Nat×Value)
def fW:Env->Nat->Option Value
 |[],_=>none
 |(t,v)::E,u=>bif Nat.beq t u then some v else fW E u
def val(E:Env):Operand->Option Value
 |.tmp t=>fW E t
 |.const v=>some v
 |.func f=>some (.func (.func f) #[] #[])
 |.global g=>some (.pointer (some ⟨g,0,none⟩))
def vals(E:Env):List Operand->Option (LV_)
 |[]=>some []
 |x::xs=>match val E x with
  |some v=>match vals E xs with
   |some vs=>some (v::vs)
   |none=>none
  |none=>none
structure qf where
 len:Nat
 ds:List Deferred
structure eR (n:qf) (a:Act) (E:Env):Prop where
 size:a.tmps.size=n.len
 defers:a.defers=n.ds
 get:∀ t v,fW E t=some v->a.tmps[t]?=some v
theorem eR.val{n:qf}{a:Act}{E:Env}(h:eR n a E){x:Operand}{v:Value}(hv:val E x=some v):a.eval x=v:=by
 cases x with
 |tmp t=>
  have:=h.get t v hv;simp[Act.eval,Ik,this]
 |const u=>simpa [Act.eval,Proofs.YtmcnpaelaieniaaGreatDoor.val] using hv
 |global g=>simpa [Act.eval,Proofs.YtmcnpaelaieniaaGreatDoor.val] using hv
 |func f=>simpa [Act.eval,Proofs.YtmcnpaelaieniaaGreatDoor.val] using hv
theorem eR.vals{n:qf}{a:Act}{E:Env}(h:eR n a E):∀ (xs:List Operand) (vs:LV_),vals E xs=some vs->xs.map a.eval=vs
 |[],vs,hv=>by simp[Proofs.YtmcnpaelaieniaaGreatDoor.vals] at hv;simp[hv]
 |x::xs,vs,hv=>by
  unfold Proofs.YtmcnpaelaieniaaGreatDoor.vals at hv;split at hv
  ·rename_i v hx;split at hv
   ·rename_i us hxs;simp only[Gs] at hv;subst hv;simp[h.val hx,h.vals xs us hxs]
   ·cases hv
  ·cases hv
theorem eR.put{n:qf}{a:Act}{E:Env}(h:eR n a E){d:Nat}(hd:d<n.len)(v:Value):eR n (a.put (some d) v) ((d,v)::E):=by
 refine⟨by simp[Act.put,h.size],h.defers,λ t u hu=>?_⟩;unfold fW at hu;by_cases e:d=t
 ·subst e;simp only[Nat.beq_refl,cond_true] at hu;simp only[Gs] at hu;subst hu;simp[Act.put,h.size,hd]
 ·have:Nat.beq d t=false:=by
   cases hb:Nat.beq d t with
   |false=>rfl
   |true=>exact absurd (Hv hb) e
  rw[this] at hu;simp only[cond_false] at hu;have:=h.get t u hu;simp only[Act.put];rw[Array.getElem?_setIfInBounds_ne e];exact this
def lK(E:Env):Env->Prop
 |[]=>True
 |(t,v)::F=>fW E t=some v/\lK E F
theorem eR.ents{n:qf}{a:Act}{E:Env}(h:eR n a E):∀ F,lK E F->eR n a F
 |[],_=>⟨h.size,h.defers,λ t v hv=>by simp[fW] at hv⟩
 |(t,v)::F,hF=>by
  have ih:=h.ents F hF.2;refine⟨h.size,h.defers,λ u x hx=>?_⟩;unfold fW at hx
  cases hb:Nat.beq t u with
  |true=>
   rw[hb] at hx;simp only[cond_true,Gs] at hx;obtain rfl:=Hv hb;subst hx;exact h.get _ _ hF.1
  |false=>
   rw[hb] at hx;exact ih.get u x hx
inductive aV where
 |obj (b:Nat) (o:Obj)
 |seg (b off:Nat) (vs:LV_)
 |own (v:Value) (e sz n:Nat) (xs:LV_)
 |tab (b:Nat) (o:Obj)
abbrev Heap:=List aV
@[reducible] def blk (b e:Nat) (cs:LV_):aV:=.obj b (.cells cs.toArray e (0,0))
def aV.holds(w:World):aV->Prop
 |.obj b o=>w.heap[b]?=some o
 |.seg b off vs=>∀ i v,vs[i]?=some v->w.cell? ⟨b,off+i,none⟩=some v
 |.own v e sz n xs=>w.ownsRow 0 e sz v n xs
 |.tab b o=>w.heap[b]?=some o
def aV.mine:aV->Option Nat
 |.obj b _=>some b
 |.seg ..=>none
 |.own v ..=>v.ownBlock
 |.tab ..=>none
def aV.at_:aV->Option Nat
 |.obj b _=>some b
 |.seg b _ vs=>if vs=[] then none else some b
 |.own v ..=>v.ownBlock
 |.tab b _=>some b
def dO(c d:aV):Prop:=(∀ b,c.mine=some b->d.at_≠some b)/\(∀ b,d.mine=some b->c.at_≠some b)
structure cO (w0:World) (M:LN) (w:World) (H:Heap):Prop where
 os:w.os=w0.os
 tape:w.tape=w0.tape
 output:w.output=w0.output
 size:w0.heap.size<=w.heap.size
 keep:∀ k,k<w0.heap.size->k∉M->w.heap[k]?=w0.heap[k]?
 holds:∀ c∈H,c.holds w
 own:∀ c∈H,∀ b,c.mine=some b->w0.heap.size<=b\/b∈M
 dis:H.Pairwise dO
theorem mg{c d:aV}(h:dO c d):dO d c:=⟨h.2,h.1⟩
theorem cO.drew{w0:World}{M:LN}{w:World}{H:Heap}(h:cO w0 M w H):cO w0 M { w with drawn:=w.drawn+1 } H:=
 ⟨h.os,h.tape,h.output,h.size,h.keep,λ c hc=>by have:=h.holds c hc;cases c<;>exact this,h.own,h.dis⟩
theorem aV.at_lt{w:World}{c:aV}(h:c.holds w){b:Nat}(hb:c.at_=some b):b<w.heap.size:=by
 cases c with
 |obj b' o=>simp[aV.at_] at hb;subst hb;exact (HP.1 h).1
 |seg b' off vs=>
  simp only[aV.at_] at hb;split at hb
  ·cases hb
  ·rename_i hne;simp only[Gs] at hb;subst hb
   cases vs with
   |nil=>exact absurd rfl hne
   |cons v vs=>
    have:=h 0 v rfl;exact World.block_lt_of_cell? w _ this
 |own v e sz n xs=>exact (World.ownsRow.lt h b hb).2
 |tab b' o=>simp[aV.at_] at hb;subst hb;exact (HP.1 h).1
theorem aV.mine_at{c:aV}{b:Nat}(h:c.mine=some b):c.at_=some b:=by
 cases c with
 |obj=>exact h
 |seg=>simp[aV.mine] at h
 |own=>exact h
 |tab=>simp[aV.mine] at h
theorem aV.holds_of{w w':World}{c:aV}(h:c.holds w)(hb:∀ b,c.at_=some b->w'.heap[b]?=w.heap[b]?):c.holds w':=by
 cases c with
 |obj b o=>exact (hb b rfl).trans h
 |seg b off vs=>
  intro i v hv;have hne:vs≠[]:=by rintro rfl;simp at hv
  have:(aV.seg b off vs).at_=some b:=by simp[aV.at_,hne]
  rw[World.cell?_of_block (a:=⟨b,off+i,none⟩) (hb b this)];exact h i v hv
 |own v e sz n xs=>
  refine⟨h.1,?_⟩
  rcases h.2 with hn|⟨g,cap,cur,rfl,h1,h2,h3⟩
  ·exact .inl hn
  ·exact .inr ⟨g,cap,cur,rfl,h1,(hb g rfl).trans h2,h3⟩
 |tab b o=>exact (hb b rfl).trans h
theorem cO.mono{w0:World}{M:LN}{w:World}{H K:Heap}(h:cO w0 M w H)(hs:∀ c∈K,c∈H)(hd:K.Pairwise dO):cO w0 M w K:=
 ⟨h.os,h.tape,h.output,h.size,h.keep,λ c hc=>h.holds c (hs c hc),λ c hc=>h.own c (hs c hc),hd⟩
def bU(H:Heap):LN->Option Heap
 |[]=>some []
 |i::l=>match H[i]? with
  |some c=>match bU H l with
   |some K=>some (c::K)
   |none=>none
  |none=>none
theorem eX{H:Heap}:∀ {l:LN} {K:Heap},bU H l=some K->∀ c∈K,∃ i∈l,H[i]?=some c
 |[],K,h,c,hc=>by simp[bU] at h;subst h;cases hc
 |i::l,K,h,c,hc=>by
  unfold bU at h;split at h
  ·rename_i d hd;split at h
   ·rename_i K' hK';simp only[Gs] at h;subst h
    rcases GD.1 hc with rfl|hc
    ·exact⟨i,by simp,hd⟩
    ·obtain⟨j,hj,hjc⟩:=eX hK' c hc;exact⟨j,by simp[hj],hjc⟩
   ·cases h
  ·cases h
theorem er{H:Heap}(hd:H.Pairwise dO){i j:Nat}{c d:aV}(hi:H[i]?=some c)(hj:H[j]?=some d)(hij:i≠j):dO c d:=by
 rw[HD] at hd;obtain⟨h1,rfl⟩:=Gv.1 hi;obtain⟨h2,rfl⟩:=Gv.1 hj
 rcases Nat.lt_or_gt_of_ne hij with h|h
 ·exact hd i j h1 h2 h
 ·exact mg (hd j i h2 h1 h)
theorem fH{H:Heap}(hd:H.Pairwise dO):∀ {l:LN} {K:Heap},l.Nodup->bU H l=some K->K.Pairwise dO
 |[],K,_,h=>by simp[bU] at h;subst h;exact List.Pairwise.nil
 |i::l,K,hn,h=>by
  unfold bU at h;split at h
  ·rename_i c hc;split at h
   ·rename_i K' hK';simp only[Gs] at h;subst h;rw[GS] at hn;refine List.Pairwise.cons (λ d hdm=>?_) (fH hd hn.2 hK');obtain⟨j,hj,hjd⟩:=eX hK' d hdm;exact er hd hc hjd (λ e=>hn.1 (e▸hj))
   ·cases h
  ·cases h
theorem cO.picks{w0:World}{M:LN}{w:World}{H K:Heap}(h:cO w0 M w H)(l:LN)(hl:l.Nodup)(hp:bU H l=some K):cO w0 M w K:=
 h.mono (λ c hc=>by obtain⟨i,_,hi⟩:=eX hp c hc;exact Gu hi) (fH h.dis hl hp)
theorem cO.step{w0:World}{M:LN}{w w':World}{H:Heap}(h:cO w0 M w H)(i:Nat){c d:aV}(hi:H[i]?=some c)
 (hos:w'.os=w.os) (htape:w'.tape=w.tape) (hout:w'.output=w.output) (hsize:w.heap.size<=w'.heap.size)
 (hb:∀ k,k<w.heap.size->c.mine≠some k->w'.heap[k]?=w.heap[k]?) (hd:d.holds w') (hm:∀ b,d.at_=some b->c.mine=some b\/w.heap.size<=b):cO w0 M w' (H.set i d):=by
 have hci:c∈H:=Gu hi;have hil:i<H.length:=(Gv.1 hi).1;have hoth:∀ j e,H[j]?=some e->j≠i->dO e c:=λ j e hj hne=>er h.dis hj hi hne
 have hget:∀ e∈H.set i d,e=d\/∃ j,j≠i/\H[j]?=some e:=by
  intro e he;obtain⟨j,hj⟩:=HA.1 he;by_cases hij:i=j
  ·subst hij;rw[GH hil] at hj;exact .inl (G0 hj).symm
  ·rw[GJ hij] at hj;exact .inr ⟨j,λ x=>hij x.symm,hj⟩
 have hnew:∀ e,(∃ j,j≠i/\H[j]?=some e)->dO e d:=by
  rintro e ⟨j,hji,hj⟩;have hap:=hoth j e hj hji;have heh:=h.holds e (Gu hj)
  constructor
  ·intro b hb1 hb2
   rcases hm b hb2 with h1|h1
   ·exact hap.2 b h1 (aV.mine_at hb1)
   ·have:=aV.at_lt heh (aV.mine_at hb1);omega
  ·intro b hb1 hb2
   rcases hm b (aV.mine_at hb1) with h1|h1
   ·exact hap.2 b h1 hb2
   ·have:=aV.at_lt heh hb2;omega
 refine⟨hos.trans h.os,htape.trans h.tape,hout.trans h.output,HG h.size hsize,λ k hk hkM=>?_,λ e he=>?_,λ e he b hbm=>?_,?_⟩
 ·rw[hb k (Il hk h.size) (λ e=>by
   rcases h.own c hci k e with h1|h1
   ·omega
   ·exact hkM h1)]
  exact h.keep k hk hkM
 ·rcases hget e he with rfl|⟨j,hji,hj⟩
  ·exact hd
  ·have heh:=h.holds e (Gu hj);exact aV.holds_of heh λ b hbe=>hb b (aV.at_lt heh hbe) (λ x=>(hoth j e hj hji).2 b x hbe)
 ·rcases hget e he with rfl|⟨j,hji,hj⟩
  ·rcases hm b (aV.mine_at hbm) with h1|h1
   ·exact h.own c hci b h1
   ·exact .inl (HG h.size h1)
  ·exact h.own e (Gu hj) b hbm
 ·rw[HD];intro p q hp hq hpq;by_cases h1:p=i
  ·subst h1;have:q≠p:=by omega
   simp only[List.getElem_set_self];rw[List.getElem_set_ne (by omega)];exact mg (hnew _ ⟨q,this,Gq _⟩)
  ·rw[List.getElem_set_ne (by omega)];by_cases h2:q=i
   ·subst h2;simp only[List.getElem_set_self];exact hnew _ ⟨p,h1,Gq _⟩
   ·rw[List.getElem_set_ne (by omega)];exact er h.dis (Gq _) (Gq _) (by omega)
theorem cO.grow{w0:World}{M:LN}{w w':World}{H:Heap}(h:cO w0 M w H){d:aV}
 (hos:w'.os=w.os) (htape:w'.tape=w.tape) (hout:w'.output=w.output) (hsize:w.heap.size<=w'.heap.size)
 (hb:∀ k,k<w.heap.size->w'.heap[k]?=w.heap[k]?) (hd:d.holds w') (hm:∀ b,d.at_=some b->w.heap.size<=b):cO w0 M w' (d::H):=by
 refine⟨hos.trans h.os,htape.trans h.tape,hout.trans h.output,HG h.size hsize,λ k hk hkM=>?_,λ e he=>?_,λ e he b hbm=>?_,?_⟩
 ·rw[hb k (Il hk h.size)];exact h.keep k hk hkM
 ·rcases GD.1 he with rfl|he
  ·exact hd
  ·exact aV.holds_of (h.holds e he) λ b hbe=>hb b (aV.at_lt (h.holds e he) hbe)
 ·rcases GD.1 he with rfl|he
  ·exact .inl (HG h.size (hm b (aV.mine_at hbm)))
  ·exact h.own e he b hbm
 ·refine List.Pairwise.cons (λ e he=>?_) h.dis;have heh:=h.holds e he
  constructor
  ·intro b hb1 hb2;have h1:=hm b (aV.mine_at hb1);have h2:=aV.at_lt heh hb2;omega
  ·intro b hb1 hb2;have h1:=hm b hb2;have h2:=aV.at_lt heh (aV.mine_at hb1);omega
inductive UK where
 |int (k:IntKind)|bool|string|ptr (e:Nat)|slice (e:Nat)|arr (n e:Nat)|struct (fs:List (Nat×Nat×Nat))|map (k e:Nat)|func|iface|other
 deriving Repr,Inhabited
structure TI where
 uk:UK
 size:Nat
 bytes:Nat
 zero:Option Value
def mu(P:Program)(t:TypeId):Nat:=match P.underlying t with|some (.struct _)=>1|some (.array _ _)=>1|some _=>0|none=>2
def mt(P:Program):TypeDesc->UK
 |.int k=>.int k
 |.bool=>.bool
 |.string=>.string
 |.pointer e=>.ptr e
 |.slice e=>.slice e
 |.array n e=>.arr n e
 |.map k e=>.map k e
 |.struct fs=>.struct (fs.toList.map λ f=>(f.offset,P.cellsOf f.type,mu P f.type))
 |.func ..=>.func
 |.interface _=>.iface
 |_=>.other
def Ce(P:Program)(t:TypeId):Option TI:=match P.underlying t with
 |some d=>match P.info? t with
  |some i=>some ⟨mt P d,i.size,i.bytes,match d with|.tuple _=>none|_=>i.zero⟩
  |none=>none
 |none=>none
def FP:List (Option TI):=[
 some ⟨.other,1,0,none⟩,
 some ⟨.func,1,8,some (.nilFunc)⟩,
 some ⟨.int .i64,1,8,some (.int .i64 0)⟩,
 some ⟨.int .i64,1,8,some (.int .i64 0)⟩,
 some ⟨.bool,1,1,some (.bool false)⟩,
 some ⟨.int .u8,1,1,some (.int .u8 0)⟩,
 some ⟨.int .u8,1,1,some (.int .u8 0)⟩,
 some ⟨.struct [(0,1,0),(1,1,0),(2,1,0),(3,1,0)],4,24,some (.agg #[.int .i64 0,.int .i64 0,.bool false,.int .u8 0])⟩,
 some ⟨.struct [(0,1,0),(1,1,0),(2,1,0),(3,1,0)],4,24,some (.agg #[.int .i64 0,.int .i64 0,.bool false,.int .u8 0])⟩,
 some ⟨.string,1,16,some (.string ⟨#[]⟩)⟩,
 some ⟨.string,1,16,some (.string ⟨#[]⟩)⟩,
 some ⟨.string,1,16,some (.string ⟨#[]⟩)⟩,
 some ⟨.int .u64,1,8,some (.int .u64 0)⟩,
 some ⟨.struct [(0,1,0),(1,1,0)],2,24,some (.agg #[.string ⟨#[]⟩,.int .u64 0])⟩,
 some ⟨.struct [(0,1,0),(1,1,0)],2,24,some (.agg #[.string ⟨#[]⟩,.int .u64 0])⟩,
 some ⟨.ptr 282,1,8,some (.pointer none)⟩,
 some ⟨.ptr 285,1,8,some (.pointer none)⟩,
 some ⟨.ptr 293,1,8,some (.pointer none)⟩,
 some ⟨.struct [(0,1,0)],1,8,some (.agg #[.pointer none])⟩,
 some ⟨.struct [(0,1,0)],1,8,some (.agg #[.pointer none])⟩,
 some ⟨.iface,1,16,some (.nilIface)⟩,
 some ⟨.int .i32,1,4,some (.int .i32 0)⟩,
 some ⟨.slice 9,1,24,some (.slice none 0 0)⟩,
 some ⟨.slice 3,1,24,some (.slice none 0 0)⟩,
 some ⟨.func,1,8,some (.nilFunc)⟩,
 some ⟨.func,1,8,some (.nilFunc)⟩,
 some ⟨.slice 22,1,24,some (.slice none 0 0)⟩,
 some ⟨.func,1,8,some (.nilFunc)⟩,
 some ⟨.func,1,8,some (.nilFunc)⟩,
 some ⟨.func,1,8,some (.nilFunc)⟩,
 some ⟨.slice 83,1,24,some (.slice none 0 0)⟩,
 some ⟨.slice 37,1,24,some (.slice none 0 0)⟩,
 some ⟨.struct [(0,1,0),(1,1,0),(2,1,0),(3,1,0)],4,48,some (.agg #[.int .i64 0,.int .i64 0,.int .i64 0,.slice none 0 0])⟩,
 some ⟨.struct [(0,1,0),(1,1,0),(2,1,0),(3,1,0)],4,48,some (.agg #[.int .i64 0,.int .i64 0,.int .i64 0,.slice none 0 0])⟩,
 some ⟨.func,1,8,some (.nilFunc)⟩,
 some ⟨.func,1,8,some (.nilFunc)⟩,
 some ⟨.struct [(0,1,0),(1,1,0),(2,1,0)],3,24,some (.agg #[.int .i64 0,.int .i64 0,.int .i64 0])⟩,
 some ⟨.struct [(0,1,0),(1,1,0),(2,1,0)],3,24,some (.agg #[.int .i64 0,.int .i64 0,.int .i64 0])⟩,
 some ⟨.struct [(0,1,0),(1,1,0),(2,1,0),(3,1,0),(4,1,0)],5,40,some (.agg #[.int .i64 0,.int .i64 0,.int .i64 0,.int .i64 0,.int .i64 0])⟩,
 some ⟨.struct [(0,1,0),(1,1,0),(2,1,0),(3,1,0),(4,1,0)],5,40,some (.agg #[.int .i64 0,.int .i64 0,.int .i64 0,.int .i64 0,.int .i64 0])⟩,
 some ⟨.int .i64,1,8,some (.int .i64 0)⟩,
 some ⟨.other,1,0,none⟩,
 some ⟨.func,1,8,some (.nilFunc)⟩,
 some ⟨.other,1,0,none⟩,
 some ⟨.func,1,8,some (.nilFunc)⟩,
 some ⟨.slice 2,1,24,some (.slice none 0 0)⟩,
 some ⟨.struct [(0,1,0),(1,1,0),(2,1,0),(3,1,0)],4,48,some (.agg #[.slice none 0 0,.int .i64 0,.int .i64 0,.int .i64 0])⟩,
 some ⟨.struct [(0,1,0),(1,1,0),(2,1,0),(3,1,0)],4,48,some (.agg #[.slice none 0 0,.int .i64 0,.int .i64 0,.int .i64 0])⟩,
 some ⟨.other,1,0,none⟩,
 some ⟨.func,1,8,some (.nilFunc)⟩,
 some ⟨.func,1,8,some (.nilFunc)⟩,
 some ⟨.func,1,8,some (.nilFunc)⟩,
 some ⟨.func,1,8,some (.nilFunc)⟩,
 some ⟨.other,1,0,none⟩,
 some ⟨.func,1,8,some (.nilFunc)⟩,
 some ⟨.ptr 97,1,8,some (.pointer none)⟩,
 some ⟨.func,1,8,some (.nilFunc)⟩,
 some ⟨.other,1,0,none⟩,
 some ⟨.func,1,8,some (.nilFunc)⟩,
 some ⟨.func,1,8,some (.nilFunc)⟩,
 some ⟨.slice 103,1,24,some (.slice none 0 0)⟩,
 some ⟨.other,1,0,none⟩,
 some ⟨.func,1,8,some (.nilFunc)⟩,
 some ⟨.other,1,0,none⟩,
 some ⟨.func,1,8,some (.nilFunc)⟩,
 some ⟨.func,1,8,some (.nilFunc)⟩,
 some ⟨.func,1,8,some (.nilFunc)⟩,
 some ⟨.func,1,8,some (.nilFunc)⟩,
 some ⟨.other,1,0,none⟩,
 some ⟨.func,1,8,some (.nilFunc)⟩,
 some ⟨.func,1,8,some (.nilFunc)⟩,
 some ⟨.other,1,0,none⟩,
 some ⟨.func,1,8,some (.nilFunc)⟩,
 some ⟨.func,1,8,some (.nilFunc)⟩,
 some ⟨.func,1,8,some (.nilFunc)⟩,
 some ⟨.func,1,8,some (.nilFunc)⟩,
 some ⟨.other,1,0,none⟩,
 some ⟨.func,1,8,some (.nilFunc)⟩,
 some ⟨.ptr 80,1,8,some (.pointer none)⟩,
 some ⟨.struct [(0,1,0),(1,1,0)],2,24,some (.agg #[.pointer none,.string ⟨#[]⟩])⟩,
 some ⟨.struct [(0,1,0),(1,1,0)],2,24,some (.agg #[.pointer none,.string ⟨#[]⟩])⟩,
 some ⟨.func,1,8,some (.nilFunc)⟩,
 some ⟨.struct [(0,1,0),(1,1,0),(2,1,0)],3,24,some (.agg #[.int .i64 0,.int .i64 0,.int .i64 0])⟩,
 some ⟨.struct [(0,1,0),(1,1,0),(2,1,0)],3,24,some (.agg #[.int .i64 0,.int .i64 0,.int .i64 0])⟩,
 some ⟨.func,1,8,some (.nilFunc)⟩,
 some ⟨.func,1,8,some (.nilFunc)⟩,
 some ⟨.func,1,8,some (.nilFunc)⟩,
 some ⟨.func,1,8,some (.nilFunc)⟩,
 some ⟨.func,1,8,some (.nilFunc)⟩,
 some ⟨.ptr 91,1,8,some (.pointer none)⟩,
 some ⟨.struct [(0,4,1),(4,1,0),(5,1,0)],6,64,some (.agg #[.int .i64 0,.int .i64 0,.int .i64 0,.slice none 0 0,.int .i64 0,.int .i64 0])⟩,
 some ⟨.struct [(0,4,1),(4,1,0),(5,1,0)],6,64,some (.agg #[.int .i64 0,.int .i64 0,.int .i64 0,.slice none 0 0,.int .i64 0,.int .i64 0])⟩,
 some ⟨.func,1,8,some (.nilFunc)⟩,
 some ⟨.struct [(0,1,0),(1,1,0)],2,32,some (.agg #[.slice none 0 0,.nilFunc])⟩,
 some ⟨.struct [(0,1,0),(1,1,0)],2,32,some (.agg #[.slice none 0 0,.nilFunc])⟩,
 some ⟨.func,1,8,some (.nilFunc)⟩,
 some ⟨.struct [(0,4,1),(4,1,0),(5,1,0),(6,1,0),(7,1,0),(8,1,0)],9,104,some (.agg #[.int .i64 0,.int .i64 0,.int .i64 0,.slice none 0 0,.slice none 0 0,.slice none 0 0,.bool false,.bool false,.bool false])⟩,
 some ⟨.struct [(0,4,1),(4,1,0),(5,1,0),(6,1,0),(7,1,0),(8,1,0)],9,104,some (.agg #[.int .i64 0,.int .i64 0,.int .i64 0,.slice none 0 0,.slice none 0 0,.slice none 0 0,.bool false,.bool false,.bool false])⟩,
 some ⟨.func,1,8,some (.nilFunc)⟩,
 some ⟨.func,1,8,some (.nilFunc)⟩,
 some ⟨.func,1,8,some (.nilFunc)⟩,
 some ⟨.func,1,8,some (.nilFunc)⟩,
 some ⟨.struct [(0,1,0),(1,1,0),(2,1,0),(3,1,0)],4,32,some (.agg #[.int .i64 0,.int .i64 0,.int .i64 0,.int .i64 0])⟩,
 some ⟨.struct [(0,1,0),(1,1,0),(2,1,0),(3,1,0)],4,32,some (.agg #[.int .i64 0,.int .i64 0,.int .i64 0,.int .i64 0])⟩,
 some ⟨.slice 4,1,24,some (.slice none 0 0)⟩,
 some ⟨.other,1,0,none⟩,
 some ⟨.func,1,8,some (.nilFunc)⟩,
 some ⟨.func,1,8,some (.nilFunc)⟩,
 some ⟨.func,1,8,some (.nilFunc)⟩,
 some ⟨.func,1,8,some (.nilFunc)⟩,
 some ⟨.func,1,8,some (.nilFunc)⟩,
 some ⟨.func,1,8,some (.nilFunc)⟩,
 some ⟨.func,1,8,some (.nilFunc)⟩,
 some ⟨.ptr 116,1,8,some (.pointer none)⟩,
 some ⟨.slice 5,1,24,some (.slice none 0 0)⟩,
 some ⟨.struct [(0,1,0),(1,1,0)],2,32,some (.agg #[.pointer none,.slice none 0 0])⟩,
 some ⟨.struct [(0,1,0),(1,1,0)],2,32,some (.agg #[.pointer none,.slice none 0 0])⟩,
 some ⟨.iface,1,16,some (.nilIface)⟩,
 some ⟨.iface,1,16,some (.nilIface)⟩,
 some ⟨.other,1,0,none⟩,
 some ⟨.func,1,8,some (.nilFunc)⟩,
 some ⟨.func,1,8,some (.nilFunc)⟩,
 some ⟨.func,1,8,some (.nilFunc)⟩,
 some ⟨.func,1,8,some (.nilFunc)⟩,
 some ⟨.func,1,8,some (.nilFunc)⟩,
 some ⟨.other,1,0,none⟩,
 some ⟨.func,1,8,some (.nilFunc)⟩,
 some ⟨.func,1,8,some (.nilFunc)⟩,
 some ⟨.struct [(0,2,1)],2,32,some (.agg #[.pointer none,.slice none 0 0])⟩,
 some ⟨.struct [(0,2,1)],2,32,some (.agg #[.pointer none,.slice none 0 0])⟩,
 some ⟨.func,1,8,some (.nilFunc)⟩,
 some ⟨.func,1,8,some (.nilFunc)⟩,
 some ⟨.func,1,8,some (.nilFunc)⟩,
 some ⟨.other,1,0,none⟩,
 some ⟨.func,1,8,some (.nilFunc)⟩,
 some ⟨.func,1,8,some (.nilFunc)⟩,
 some ⟨.func,1,8,some (.nilFunc)⟩,
 some ⟨.func,1,8,some (.nilFunc)⟩,
 some ⟨.func,1,8,some (.nilFunc)⟩,
 some ⟨.func,1,8,some (.nilFunc)⟩,
 some ⟨.func,1,8,some (.nilFunc)⟩,
 some ⟨.struct [],0,0,some (.agg #[])⟩,
 some ⟨.struct [],0,0,some (.agg #[])⟩,
 some ⟨.func,1,8,some (.nilFunc)⟩,
 some ⟨.iface,1,16,some (.nilIface)⟩,
 some ⟨.iface,1,16,some (.nilIface)⟩,
 some ⟨.func,1,8,some (.nilFunc)⟩,
 some ⟨.func,1,8,some (.nilFunc)⟩,
 some ⟨.other,1,0,none⟩,
 some ⟨.func,1,8,some (.nilFunc)⟩,
 some ⟨.func,1,8,some (.nilFunc)⟩,
 some ⟨.int .u64,1,8,some (.int .u64 0)⟩,
 some ⟨.func,1,8,some (.nilFunc)⟩,
 some ⟨.slice 155,1,24,some (.slice none 0 0)⟩,
 some ⟨.func,1,8,some (.nilFunc)⟩,
 some ⟨.func,1,8,some (.nilFunc)⟩,
 some ⟨.func,1,8,some (.nilFunc)⟩,
 some ⟨.func,1,8,some (.nilFunc)⟩,
 some ⟨.int .u64,1,8,some (.int .u64 0)⟩,
 some ⟨.func,1,8,some (.nilFunc)⟩,
 some ⟨.other,1,0,none⟩,
 some ⟨.func,1,8,some (.nilFunc)⟩,
 some ⟨.slice 23,1,24,some (.slice none 0 0)⟩,
 some ⟨.other,1,0,none⟩,
 some ⟨.func,1,8,some (.nilFunc)⟩,
 some ⟨.func,1,8,some (.nilFunc)⟩,
 some ⟨.func,1,8,some (.nilFunc)⟩,
 some ⟨.func,1,8,some (.nilFunc)⟩,
 some ⟨.ptr 5,1,8,some (.pointer none)⟩,
 some ⟨.func,1,8,some (.nilFunc)⟩,
 some ⟨.func,1,8,some (.nilFunc)⟩,
 some ⟨.ptr 129,1,8,some (.pointer none)⟩,
 some ⟨.slice 174,1,24,some (.slice none 0 0)⟩,
 some ⟨.struct [(0,1,0),(1,1,0)],2,16,some (.agg #[.int .i64 0,.int .i64 0])⟩,
 some ⟨.struct [(0,1,0),(1,1,0)],2,16,some (.agg #[.int .i64 0,.int .i64 0])⟩,
 some ⟨.func,1,8,some (.nilFunc)⟩,
 some ⟨.slice 180,1,24,some (.slice none 0 0)⟩,
 some ⟨.struct [(0,1,0),(1,1,0),(2,1,0)],3,40,some (.agg #[.int .i64 0,.int .i64 0,.slice none 0 0])⟩,
 some ⟨.struct [(0,1,0),(1,1,0),(2,1,0)],3,40,some (.agg #[.int .i64 0,.int .i64 0,.slice none 0 0])⟩,
 some ⟨.struct [(0,1,0),(1,1,0)],2,16,some (.agg #[.int .i64 0,.int .i64 0])⟩,
 some ⟨.struct [(0,1,0),(1,1,0)],2,16,some (.agg #[.int .i64 0,.int .i64 0])⟩,
 some ⟨.struct [(0,1,0),(1,1,0)],2,48,some (.agg #[.slice none 0 0,.slice none 0 0])⟩,
 some ⟨.struct [(0,1,0),(1,1,0)],2,48,some (.agg #[.slice none 0 0,.slice none 0 0])⟩,
 some ⟨.other,1,0,none⟩,
 some ⟨.func,1,8,some (.nilFunc)⟩,
 some ⟨.func,1,8,some (.nilFunc)⟩,
 some ⟨.func,1,8,some (.nilFunc)⟩,
 some ⟨.func,1,8,some (.nilFunc)⟩,
 some ⟨.func,1,8,some (.nilFunc)⟩,
 some ⟨.func,1,8,some (.nilFunc)⟩,
 some ⟨.struct [],0,0,some (.agg #[])⟩,
 some ⟨.struct [],0,0,some (.agg #[])⟩,
 some ⟨.func,1,8,some (.nilFunc)⟩,
 some ⟨.ptr 3,1,8,some (.pointer none)⟩,
 some ⟨.func,1,8,some (.nilFunc)⟩,
 some ⟨.func,1,8,some (.nilFunc)⟩,
 some ⟨.func,1,8,some (.nilFunc)⟩,
 some ⟨.func,1,8,some (.nilFunc)⟩,
 some ⟨.func,1,8,some (.nilFunc)⟩,
 some ⟨.other,1,8,some (.pointer none)⟩,
 some ⟨.func,1,8,some (.nilFunc)⟩,
 some ⟨.func,1,8,some (.nilFunc)⟩,
 some ⟨.func,1,8,some (.nilFunc)⟩,
 some ⟨.other,1,0,none⟩,
 some ⟨.func,1,8,some (.nilFunc)⟩,
 some ⟨.map 3 4,1,8,some (.map none)⟩,
 some ⟨.func,1,8,some (.nilFunc)⟩,
 some ⟨.other,1,0,none⟩,
 some ⟨.func,1,8,some (.nilFunc)⟩,
 some ⟨.func,1,8,some (.nilFunc)⟩,
 some ⟨.slice 235,1,24,some (.slice none 0 0)⟩,
 some ⟨.other,1,0,none⟩,
 some ⟨.func,1,8,some (.nilFunc)⟩,
 some ⟨.func,1,8,some (.nilFunc)⟩,
 some ⟨.func,1,8,some (.nilFunc)⟩,
 some ⟨.other,1,0,none⟩,
 some ⟨.func,1,8,some (.nilFunc)⟩,
 some ⟨.func,1,8,some (.nilFunc)⟩,
 some ⟨.func,1,8,some (.nilFunc)⟩,
 some ⟨.func,1,8,some (.nilFunc)⟩,
 some ⟨.arr 256 4,256,256,some (.agg (Array.replicate 256 (.bool false)))⟩,
 some ⟨.arr 256 4,256,256,some (.agg (Array.replicate 256 (.bool false)))⟩,
 some ⟨.other,1,0,none⟩,
 some ⟨.func,1,8,some (.nilFunc)⟩,
 some ⟨.func,1,8,some (.nilFunc)⟩,
 some ⟨.ptr 221,1,8,some (.pointer none)⟩,
 some ⟨.func,1,8,some (.nilFunc)⟩,
 some ⟨.func,1,8,some (.nilFunc)⟩,
 some ⟨.other,1,0,none⟩,
 some ⟨.func,1,8,some (.nilFunc)⟩,
 some ⟨.func,1,8,some (.nilFunc)⟩,
 some ⟨.func,1,8,some (.nilFunc)⟩,
 some ⟨.func,1,8,some (.nilFunc)⟩,
 some ⟨.func,1,8,some (.nilFunc)⟩,
 some ⟨.struct [(0,1,0),(1,1,0),(2,1,0)],3,40,some (.agg #[.int .u8 0,.slice none 0 0,.int .i64 0])⟩,
 some ⟨.struct [(0,1,0),(1,1,0),(2,1,0)],3,40,some (.agg #[.int .u8 0,.slice none 0 0,.int .i64 0])⟩,
 some ⟨.func,1,8,some (.nilFunc)⟩,
 some ⟨.arr 24 5,24,24,some (.agg (Array.replicate 24 (.int .u8 0)))⟩,
 some ⟨.func,1,8,some (.nilFunc)⟩,
 some ⟨.other,1,0,none⟩,
 some ⟨.func,1,8,some (.nilFunc)⟩,
 some ⟨.func,1,8,some (.nilFunc)⟩,
 some ⟨.func,1,8,some (.nilFunc)⟩,
 some ⟨.int .i64,1,8,some (.int .i64 0)⟩,
 some ⟨.other,1,0,none⟩,
 some ⟨.func,1,8,some (.nilFunc)⟩,
 some ⟨.ptr 271,1,8,some (.pointer none)⟩,
 some ⟨.func,1,8,some (.nilFunc)⟩,
 some ⟨.func,1,8,some (.nilFunc)⟩,
 some ⟨.int .u32,1,4,some (.int .u32 0)⟩,
 some ⟨.other,1,0,none⟩,
 some ⟨.func,1,8,some (.nilFunc)⟩,
 some ⟨.func,1,8,some (.nilFunc)⟩,
 some ⟨.func,1,8,some (.nilFunc)⟩,
 some ⟨.ptr 256,1,8,some (.pointer none)⟩,
 some ⟨.struct [(0,4,1),(4,1,0),(5,1,0),(6,1,0),(7,1,0)],8,112,some (.agg #[.int .i64 0,.int .i64 0,.int .i64 0,.slice none 0 0,.slice none 0 0,.int .i64 0,.slice none 0 0,.int .i64 0])⟩,
 some ⟨.struct [(0,4,1),(4,1,0),(5,1,0),(6,1,0),(7,1,0)],8,112,some (.agg #[.int .i64 0,.int .i64 0,.int .i64 0,.slice none 0 0,.slice none 0 0,.int .i64 0,.slice none 0 0,.int .i64 0])⟩,
 some ⟨.func,1,8,some (.nilFunc)⟩,
 some ⟨.func,1,8,some (.nilFunc)⟩,
 some ⟨.arr 256 5,256,256,some (.agg (Array.replicate 256 (.int .u8 0)))⟩,
 some ⟨.struct [(0,1,0),(1,1,0)],2,2,some (.agg #[.int .u8 0,.int .u8 0])⟩,
 some ⟨.struct [(0,1,0),(1,1,0)],2,2,some (.agg #[.int .u8 0,.int .u8 0])⟩,
 some ⟨.arr 16 261,32,32,some (.agg (Array.replicate 32 (.int .u8 0)))⟩,
 some ⟨.func,1,8,some (.nilFunc)⟩,
 some ⟨.arr 20 151,20,160,some (.agg #[.int .u64 0,.int .u64 0,.int .u64 0,.int .u64 0,.int .u64 0,.int .u64 0,.int .u64 0,.int .u64 0,.int .u64 0,.int .u64 0,.int .u64 0,.int .u64 0,.int .u64 0,.int .u64 0,.int .u64 0,.int .u64 0,.int .u64 0,.int .u64 0,.int .u64 0,.int .u64 0])⟩,
 some ⟨.arr 65 5,65,65,some (.agg (Array.replicate 65 (.int .u8 0)))⟩,
 some ⟨.func,1,8,some (.nilFunc)⟩,
 some ⟨.func,1,8,some (.nilFunc)⟩,
 some ⟨.func,1,8,some (.nilFunc)⟩,
 some ⟨.func,1,8,some (.nilFunc)⟩,
 some ⟨.struct [(0,1,0),(1,1,0),(2,1,0)],3,48,some (.agg #[.string ⟨#[]⟩,.string ⟨#[]⟩,.nilIface])⟩,
 some ⟨.struct [(0,1,0),(1,1,0),(2,1,0)],3,48,some (.agg #[.string ⟨#[]⟩,.string ⟨#[]⟩,.nilIface])⟩,
 some ⟨.func,1,8,some (.nilFunc)⟩,
 some ⟨.func,1,8,some (.nilFunc)⟩,
 some ⟨.func,1,8,some (.nilFunc)⟩,
 some ⟨.ptr 277,1,8,some (.pointer none)⟩,
 some ⟨.struct [(0,1,0)],1,16,some (.agg #[.string ⟨#[]⟩])⟩,
 some ⟨.struct [(0,1,0)],1,16,some (.agg #[.string ⟨#[]⟩])⟩,
 some ⟨.func,1,8,some (.nilFunc)⟩,
 some ⟨.arr 32 5,32,32,some (.agg (Array.replicate 32 (.int .u8 0)))⟩,
 some ⟨.arr 64 5,64,64,some (.agg (Array.replicate 64 (.int .u8 0)))⟩,
 some ⟨.struct [(0,1,0),(1,1,0),(2,1,0),(3,1,0)],4,40,some (.agg #[.pointer none,.pointer none,.pointer none,.string ⟨#[]⟩])⟩,
 some ⟨.struct [(0,1,0),(1,1,0),(2,1,0),(3,1,0)],4,40,some (.agg #[.pointer none,.pointer none,.pointer none,.string ⟨#[]⟩])⟩,
 some ⟨.arr 0 16,0,0,some (.agg #[])⟩,
 some ⟨.struct [(0,0,1)],0,0,some (.agg #[])⟩,
 some ⟨.struct [(0,0,1)],0,0,some (.agg #[])⟩,
 some ⟨.func,1,8,some (.nilFunc)⟩,
 some ⟨.int .u8,1,1,some (.int .u8 0)⟩,
 some ⟨.int .u8,1,1,some (.int .u8 0)⟩,
 some ⟨.func,1,8,some (.nilFunc)⟩,
 some ⟨.int .i32,1,4,some (.int .i32 0)⟩,
 some ⟨.int .i32,1,4,some (.int .i32 0)⟩,
 some ⟨.struct [(0,1,0),(1,1,0),(2,1,0),(3,1,0),(4,1,0),(5,1,0),(6,1,0),(7,1,0),(8,1,0),(9,1,0),(10,1,0)],11,48,some (.agg #[.int .u64 0,.int .u64 0,.int .u32 0,.int .u8 0,.int .u8 0,.int .u8 0,.int .u8 0,.nilFunc,.pointer none,.int .i32 0,.int .i32 0])⟩,
 some ⟨.struct [(0,1,0),(1,1,0),(2,1,0),(3,1,0),(4,1,0),(5,1,0),(6,1,0),(7,1,0),(8,1,0),(9,1,0),(10,1,0)],11,48,some (.agg #[.int .u64 0,.int .u64 0,.int .u32 0,.int .u8 0,.int .u8 0,.int .u8 0,.int .u8 0,.nilFunc,.pointer none,.int .i32 0,.int .i32 0])⟩,
 some ⟨.slice 300,1,24,some (.slice none 0 0)⟩,
 some ⟨.other,1,0,none⟩,
 some ⟨.func,1,8,some (.nilFunc)⟩,
 some ⟨.ptr 303,1,8,some (.pointer none)⟩,
 some ⟨.func,1,8,some (.nilFunc)⟩,
 some ⟨.struct [(0,1,0),(1,1,0)],2,32,some (.agg #[.slice none 0 0,.int .i64 0])⟩,
 some ⟨.struct [(0,1,0),(1,1,0)],2,32,some (.agg #[.slice none 0 0,.int .i64 0])⟩,
 some ⟨.func,1,8,some (.nilFunc)⟩,
 some ⟨.struct [(0,4,1),(4,1,0),(5,1,0),(6,1,0),(7,1,0)],8,128,some (.agg #[.int .i64 0,.int .i64 0,.int .i64 0,.slice none 0 0,.slice none 0 0,.int .i64 0,.slice none 0 0,.slice none 0 0])⟩,
 some ⟨.struct [(0,4,1),(4,1,0),(5,1,0),(6,1,0),(7,1,0)],8,128,some (.agg #[.int .i64 0,.int .i64 0,.int .i64 0,.slice none 0 0,.slice none 0 0,.int .i64 0,.slice none 0 0,.slice none 0 0])⟩,
 some ⟨.other,1,0,none⟩,
 some ⟨.func,1,8,some (.nilFunc)⟩,
 some ⟨.ptr 310,1,8,some (.pointer none)⟩,
 some ⟨.func,1,8,some (.nilFunc)⟩,
 some ⟨.ptr 319,1,8,some (.pointer none)⟩,
 some ⟨.struct [(0,4,1),(4,1,0),(5,1,0),(6,1,0),(7,1,0),(8,1,0),(9,1,0),(10,1,0)],11,152,some (.agg #[.int .i64 0,.int .i64 0,.int .i64 0,.slice none 0 0,.slice none 0 0,.int .i64 0,.slice none 0 0,.slice none 0 0,.pointer none,.int .i64 0,.int .i64 0])⟩,
 some ⟨.struct [(0,4,1),(4,1,0),(5,1,0),(6,1,0),(7,1,0),(8,1,0),(9,1,0),(10,1,0)],11,152,some (.agg #[.int .i64 0,.int .i64 0,.int .i64 0,.slice none 0 0,.slice none 0 0,.int .i64 0,.slice none 0 0,.slice none 0 0,.pointer none,.int .i64 0,.int .i64 0])⟩,
 some ⟨.func,1,8,some (.nilFunc)⟩,
 some ⟨.other,1,0,none⟩,
 some ⟨.func,1,8,some (.nilFunc)⟩,
 some ⟨.func,1,8,some (.nilFunc)⟩,
 some ⟨.ptr 331,1,8,some (.pointer none)⟩,
 some ⟨.struct [(0,1,0),(1,1,0)],2,32,some (.agg #[.pointer none,.slice none 0 0])⟩,
 some ⟨.struct [(0,1,0),(1,1,0)],2,32,some (.agg #[.pointer none,.slice none 0 0])⟩,
 some ⟨.struct [(0,2,1),(2,1,0)],3,40,some (.agg #[.pointer none,.slice none 0 0,.int .i64 0])⟩,
 some ⟨.struct [(0,2,1),(2,1,0)],3,40,some (.agg #[.pointer none,.slice none 0 0,.int .i64 0])⟩,
 some ⟨.other,1,0,none⟩,
 some ⟨.func,1,8,some (.nilFunc)⟩,
 some ⟨.func,1,8,some (.nilFunc)⟩,
 some ⟨.other,1,0,none⟩,
 some ⟨.func,1,8,some (.nilFunc)⟩,
 some ⟨.func,1,8,some (.nilFunc)⟩,
 some ⟨.func,1,8,some (.nilFunc)⟩,
 some ⟨.func,1,8,some (.nilFunc)⟩,
 some ⟨.func,1,8,some (.nilFunc)⟩,
 some ⟨.slice 334,1,24,some (.slice none 0 0)⟩,
 some ⟨.struct [(0,1,0),(1,1,0)],2,32,some (.agg #[.slice none 0 0,.int .i64 0])⟩,
 some ⟨.struct [(0,1,0),(1,1,0)],2,32,some (.agg #[.slice none 0 0,.int .i64 0])⟩,
 some ⟨.arr 2 3,2,16,some (.agg #[.int .i64 0,.int .i64 0])⟩,
 some ⟨.struct [(0,1,0),(1,2,1),(3,1,0),(4,1,0),(5,1,0),(6,1,0),(7,1,0),(8,1,0)],9,72,some (.agg #[.int .i64 0,.int .i64 0,.int .i64 0,.int .i64 0,.int .i64 0,.int .i64 0,.int .i64 0,.int .i64 0,.bool false])⟩,
 some ⟨.struct [(0,1,0),(1,2,1),(3,1,0),(4,1,0),(5,1,0),(6,1,0),(7,1,0),(8,1,0)],9,72,some (.agg #[.int .i64 0,.int .i64 0,.int .i64 0,.int .i64 0,.int .i64 0,.int .i64 0,.int .i64 0,.int .i64 0,.bool false])⟩,
 some ⟨.func,1,8,some (.nilFunc)⟩,
 some ⟨.other,1,0,none⟩,
 some ⟨.func,1,8,some (.nilFunc)⟩,
 some ⟨.ptr 317,1,8,some (.pointer none)⟩,
 some ⟨.func,1,8,some (.nilFunc)⟩,
 some ⟨.func,1,8,some (.nilFunc)⟩,
 some ⟨.func,1,8,some (.nilFunc)⟩,
 some ⟨.func,1,8,some (.nilFunc)⟩,
 some ⟨.func,1,8,some (.nilFunc)⟩,
 some ⟨.func,1,8,some (.nilFunc)⟩,
 some ⟨.ptr 334,1,8,some (.pointer none)⟩]
def tab(t:Nat):Option TI:=match FP[t]? with
 |some i=>i
 |none=>none
theorem Dz:(List.range 346).map (λ t=>FP[t]?)=(List.range 346).map (λ t=>some (Ce Tryz.prog t)):=by kernel_rfl
set_option maxRecDepth 100000 in
theorem Ey{t:Nat}{i:TI}(h:tab t=some i):Ce Tryz.prog t=some i:=by
 unfold tab at h;split at h
 ·rename_i j hj;have hl:t<346:=(Gv.1 hj).1;have:=List.map_eq_map_iff.1 Dz t (Hm.2 hl);rw[hj] at this;rw[<- G0 this,h]
 ·cases h
theorem dJ{t:Nat}{i:TI}(h:tab t=some i):∃ d j,Tryz.prog.underlying t=some d/\Tryz.prog.info? t=some j/\mt Tryz.prog d=i.uk/\j.size=i.size/\j.bytes=i.bytes/\
 (∀ z,i.zero=some z->j.zero=some z):=by
 have:=Ey h;unfold Ce at this;split at this
 ·rename_i d hd;split at this
  ·rename_i j hj;simp only[Gs] at this;subst this;refine⟨d,j,hd,hj,rfl,rfl,rfl,λ z hz=>?_⟩;simp only at hz;split at hz
   ·cases hz
   ·exact hz
  ·cases this
 ·cases this
noncomputable def di(p:Prop):Bool:=@decide p (Classical.propDecidable p)
theorem A9(p:Prop)[h:Decidable p]:di p=decide p:=by unfold di;cases h<;>simp[*]
theorem aR{p:Prop}(h:p):di p=true:=by unfold di;exact @Ii p (Classical.propDecidable p) h
theorem a6{p:Prop}(h:¬ p):di p=false:=by unfold di;exact @HN p (Classical.propDecidable p) h
theorem DB{p:Prop}(h:di p=true):p:=by unfold di at h;exact @of_decide_eq_true p (Classical.propDecidable p) h
theorem wF{p:Prop}(h:di p=false):¬ p:=by unfold di at h;exact @of_decide_eq_false p (Classical.propDecidable p) h
theorem ey{p q:Prop}(h:p↔q):di p=di q:=by rw[propext h]
noncomputable def Ef(op:BinOp)(k:IntKind)(a b:Int):Option Value:=
 match op with
 |.add=>some (.int k (k.wrap (a+b)))
 |.sub=>some (.int k (k.wrap (a-b)))
 |.mul=>some (.int k (k.wrap (a*b)))
 |.eql=>some (.bool (di (a=b)))
 |.neq=>some (.bool (di (a≠b)))
 |.lss=>some (.bool (di (a<b)))
 |.leq=>some (.bool (di (a<=b)))
 |.gtr=>some (.bool (di (b<a)))
 |.geq=>some (.bool (di (b<=a)))
 |.and=>some (.int k (k.wrap (BitVec.ofInt k.bits a&&& BitVec.ofInt k.bits b).toNat))
 |.or=>some (.int k (k.wrap (BitVec.ofInt k.bits a|||BitVec.ofInt k.bits b).toNat))
 |.xor=>some (.int k (k.wrap (BitVec.ofInt k.bits a^^^BitVec.ofInt k.bits b).toNat))
 |_=>none
def vA(op:BinOp)(k:IntKind)(a:Int)(y:Operand):Option Value:=
 match y with
 |.const (.int _ c)=>match c with
  |.ofNat m=>match op with
   |.shl=>some (.int k (k.wrap (a*2^(min m k.bits))))
   |.shr=>some (.int k (a.fdiv (2^(min m k.bits))))
   |.quo=>match m with
    |0=>none
    |_+1=>some (.int k (k.wrap (a.tdiv c)))
   |.rem=>match m with
    |0=>none
    |_+1=>some (.int k (a.tmod c))
   |_=>none
  |.negSucc _=>none
 |_=>none
def Cb(op:BinOp)(p q:Bool):Option Value:=
 match op with
 |.eql=>some (.bool (p==q))
 |.neq=>some (.bool (p !=q))
 |_=>none
def EY(op:BinOp)(a b:ByteArray):Option Value:=
 match op with
 |.eql=>some (.bool (a.toList==b.toList))
 |.neq=>some (.bool (!(a.toList==b.toList)))
 |_=>none
def FU(t:Nat):Bool:=match tab t with|some ⟨.bool,_,_,_⟩=>true|_=>false
def Fb(t:Nat):Bool:=match tab t with|some ⟨.iface,_,_,_⟩=>true|_=>false
def yC(op:BinOp)(b:Bool):Option Value:=
 match op with
 |.eql=>some (.bool b)
 |.neq=>some (.bool (!b))
 |_=>none
noncomputable def oQ(E:Env):Op->Option Value
 |.move x=>val E x
 |.assign x=>val E x
 |.pick c a b=>match val E c with
  |some (.bool true)=>val E a
  |some (.bool false)=>val E b
  |_=>none
 |.binOp op t x y _=>match val E x,val E y with
  |some (.int k a),some (.int k' b)=>if k=k' then (match Ef op k a b with
   |some v=>some v
   |none=>vA op k a y) else none
  |some (.bool p),some (.bool q)=>match FU t with|true=>Cb op p q|false=>none
  |some (.string p),some (.string q)=>EY op p q
  |some (.iface _ _),some .nilIface=>match Fb t with|true=>yC op false|false=>none
  |some .nilIface,some .nilIface=>match y with
   |.const _=>match Fb t with|true=>yC op true|false=>none
   |_=>none
  |_,_=>none
 |.unOp op _ x=>match op,val E x with
  |.not,some (.bool b)=>some (.bool (!b))
  |.neg,some (.int k n)=>some (.int k (k.wrap (0-n)))
  |_,_=>none
 |.convert s d x=>match tab s,tab d,val E x with
  |some ⟨.int _,_,_,_⟩,some ⟨.int k,_,_,_⟩,some (.int _ n)=>some (.int k (k.wrap n))
  |_,_,_=>none
 |.fieldAddr t x f=>match tab t,val E x with
  |some ⟨.struct fs,_,_,_⟩,some (.pointer (some ⟨b,o,none⟩))=>match fs[f]? with
   |some (off,_+1,_)=>some (.pointer (some ⟨b,o+off,none⟩))
   |_=>none
  |_,_=>none
 |.field t x f=>match tab t,val E x with
  |some ⟨.struct fs,_,_,_⟩,some (.agg cs)=>match fs[f]? with
   |some (off,_+1,0)=>cs.toList[off]?
   |some (off,sz+1,1)=>some (.agg (cs.extract off (off+(sz+1))))
   |_=>none
  |_,_=>none
 |.extract x i=>match val E x with
  |some (.tuple vs)=>vs.toList[i]?
  |_=>none
 |.nilCheck x=>match val E x with
  |some (.pointer (some p))=>some (.pointer (some p))
  |_=>none
 |.makeFunc fn first cap=>match vals E first.toList,vals E cap.toList with
  |some f,some c=>some (.func fn f.toArray c.toArray)
  |_,_=>none
 |.makeInterface t x=>match tab t,val E x with
  |some ⟨.iface,_,_,_⟩,_=>none
  |some _,some v=>some (.iface t v)
  |_,_=>none
 |.typeAssert x _ t ok=>match tab t,val E x with
  |some ⟨.iface,_,_,_⟩,_=>none
  |some _,some (.iface u v)=>match Nat.beq u t with
   |true=>match ok with
    |true=>some (.tuple #[v,.bool true])
    |false=>some v
   |false=>none
  |_,_=>none
 |.call ⟨.builtin .len,xs,ts⟩=>match xs.toList,ts.toList with
  |[x],[t]=>match tab t,val E x with
   |some ⟨.slice _,_,_,_⟩,some (.slice _ n _)=>some (.int .i64 n)
   |some ⟨.string,_,_,_⟩,some (.string s)=>some (.int .i64 s.size)
   |_,_=>none
  |_,_=>none
 |.call ⟨.builtin .min,xs,_⟩=>match xs.toList with
  |[x,y]=>match val E x,val E y with
   |some (.int k a),some (.int _ b)=>some (.int k (if b<a then b else a))
   |_,_=>none
  |_=>none
 |.call ⟨.builtin .max,xs,_⟩=>match xs.toList with
  |[x,y]=>match val E x,val E y with
   |some (.int k a),some (.int _ b)=>some (.int k (if b>a then b else a))
   |_,_=>none
  |_=>none
 |_=>none
theorem iT(op:BinOp)(t:TypeId)(x y:Operand)(k l:IntKind)(a b:Int)(P:Program)(w:World):
 (eqGuard op t x y (.int k a) (.int l b)).run P w=.ok () w:=by
 cases op<;>simp[eqGuard]
theorem sS(op:BinOp)(t:TypeId)(x y:Operand)(a b:Bool)(P:Program)(w:World):
 (eqGuard op t x y (.bool a) (.bool b)).run P w=.ok () w:=by
 cases op<;>simp[eqGuard]
theorem oJ(op:BinOp)(t:TypeId)(x y:Operand)(a b:ByteArray)(P:Program)(w:World):
 (eqGuard op t x y (.string a) (.string b)).run P w=.ok () w:=by
 cases op<;>simp[eqGuard]
theorem Ej(a b:Int):(a==b)=decide (a=b):=by
 by_cases h:a=b<;>simp[h]
theorem E4(a b:Int):(a !=b)=decide (a≠b):=by
 by_cases h:a=b<;>simp[h]
theorem AT{op:BinOp}{k:IntKind}{a b:Int}{v:Value}(h:Ef op k a b=some v)(t:TypeId)(P:Program)(w:World):
 (binOp op t (.int k a) (.int k b)).run P w=.ok v w:=by
 cases op<;>simp only[Ef,Gs,reduceCtorEq] at h<;>subst h<;>simp[binOp,Op.intArith,Op.intCmp,Op.intBits,Ej,E4,A9]
theorem vP{op:BinOp}{k:IntKind}{a b:Int}{y:Operand}{v:Value}{E:Env}(h:vA op k a y=some v)(hy:val E y=some (.int k b))(t:TypeId)(P:Program)(w:World):
 (binOp op t (.int k a) (.int k b)).run P w=.ok v w:=by
 unfold vA at h;split at h
 ·rename_i k2 c;simp only[val,Gs,Value.int.injEq] at hy;obtain⟨rfl,rfl⟩:=hy;split at h
  ·rename_i m;have hm:¬ (Int.ofNat m)<0:=Int.not_lt.2 (Int.natCast_nonneg m);split at h
   ·simp only[Gs] at h;subst h;simp only[binOp,Op.shift];rw[if_neg hm];rfl
   ·simp only[Gs] at h;subst h;simp only[binOp,Op.shift];rw[if_neg hm];rfl
   ·split at h
    ·cases h
    ·rename_i q;simp only[Option.some.injEq] at h;subst h;have h0:¬ (Int.ofNat (q+1))=0:=by simp;omega
     simp only[binOp,Op.intDiv,ne_eq,not_true,IQ];rw[if_neg h0];rfl
   ·split at h
    ·cases h
    ·rename_i q;simp only[Option.some.injEq] at h;subst h;have h0:¬ (Int.ofNat (q+1))=0:=by simp;omega
     simp only[binOp,Op.intDiv,ne_eq,not_true,IQ];rw[if_neg h0];rfl
   ·cases h
  ·cases h
 ·cases h
theorem DP{t:Nat}(h:FU t=true):Tryz.prog.underlying t=some .bool:=by
 unfold FU at h;split at h
 ·rename_i z s b hz hh;obtain⟨d,j,hd,_,hu,_⟩:=dJ hh;rw[hd]
  cases d<;>simp[mt] at hu ⊢
 ·cases h
theorem vJ{t:Nat}(hu:Tryz.prog.underlying t=some .bool)(a b:Bool)(w:World):(Op.equal t (.bool a) (.bool b)).run Tryz.prog w=.ok (a==b) w:=by
 have h:∀ d:Nat,(Op.equalIn (d+1) t (.bool a) (.bool b)).run Tryz.prog w=.ok (a==b) w:=λ d=>by
  simp[Op.equalIn,run_underlying hu]
 exact h 9999
theorem yl{op:BinOp}{a b:Bool}{v:Value}(h:Cb op a b=some v){t:TypeId}(ht:FU t=true)(w:World):
 (binOp op t (.bool a) (.bool b)).run Tryz.prog w=.ok v w:=by
 have hu:=vJ (DP ht) a b w
 cases op<;>simp only[Cb,Gs,reduceCtorEq] at h<;>subst h
 ·have:binOp .eql t (.bool a) (.bool b)=(do pure (.bool (<- Op.equal t (.bool a) (.bool b)))):=rfl;rw[this];simp[hu]
 ·have:binOp .neq t (.bool a) (.bool b)=(do pure (.bool (!(<- Op.equal t (.bool a) (.bool b))))):=rfl;rw[this];simp[hu,bne]
theorem zZ{op:BinOp}{a b:ByteArray}{v:Value}(h:EY op a b=some v)(t:TypeId)(P:Program)(w:World):
 (binOp op t (.string a) (.string b)).run P w=.ok v w:=by
 cases op<;>simp only[EY,Gs,reduceCtorEq] at h<;>subst h<;>simp[binOp,Op.stringOp]
theorem wQ{t:Nat}(h:Fb t=true):∃ ms,Tryz.prog.underlying t=some (.interface ms):=by
 unfold Fb at h;split at h
 ·rename_i z s b hz hh;obtain⟨d,j,hd,_,hu,_⟩:=dJ hh;rw[hd]
  cases d<;>simp[mt] at hu
  exact⟨_,rfl⟩
 ·cases h
theorem yD{op:BinOp}{v u:Value}{d t:Nat}(h:yC op false=some v)(ht:Fb t=true)(w:World):(binOp op t (.iface d u) .nilIface).run Tryz.prog w=.ok v w:=by
 obtain⟨ms,hu⟩:=wQ ht
 have he:(Op.equal t (.iface d u) .nilIface).run Tryz.prog w=.ok false w:=by
  have h:∀ k:Nat,(Op.equalIn (k+1) t (.iface d u) .nilIface).run Tryz.prog w=.ok false w:=λ k=>by
   simp[Op.equalIn,run_underlying hu]
  exact h 9999
 cases op<;>simp only[yC,Gs,reduceCtorEq] at h<;>subst h
 ·have:binOp .eql t (.iface d u) .nilIface=(do pure (.bool (<- Op.equal t (.iface d u) .nilIface))):=rfl;rw[this];simp[he]
 ·have:binOp .neq t (.iface d u) .nilIface=(do pure (.bool (!(<- Op.equal t (.iface d u) .nilIface)))):=rfl;rw[this];simp[he]
theorem yg{op:BinOp}{v:Value}{t:Nat}(h:yC op true=some v)(ht:Fb t=true)(w:World):(binOp op t .nilIface .nilIface).run Tryz.prog w=.ok v w:=by
 obtain⟨ms,hu⟩:=wQ ht
 have he:(Op.equal t .nilIface .nilIface).run Tryz.prog w=.ok true w:=by
  have h:∀ k:Nat,(Op.equalIn (k+1) t .nilIface .nilIface).run Tryz.prog w=.ok true w:=λ k=>by
   simp[Op.equalIn,run_underlying hu]
  exact h 9999
 cases op<;>simp only[yC,Gs,reduceCtorEq] at h<;>subst h
 ·have:binOp .eql t .nilIface .nilIface=(do pure (.bool (<- Op.equal t .nilIface .nilIface))):=rfl;rw[this];simp[he]
 ·have:binOp .neq t .nilIface .nilIface=(do pure (.bool (!(<- Op.equal t .nilIface .nilIface)))):=rfl;rw[this];simp[he]
theorem v5(op:BinOp)(t:TypeId)(x y:Operand)(d:TypeId)(u:Value)(P:Program)(w:World):(eqGuard op t x y (.iface d u) .nilIface).run P w=.ok () w:=by
 cases op<;>simp[eqGuard]
theorem vm(op:BinOp)(t:TypeId)(x:Operand)(c:Value)(P:Program)(w:World):(eqGuard op t x (.const c) .nilIface .nilIface).run P w=.ok () w:=by
 cases op<;>cases x<;>simp[eqGuard]
theorem dN{t e s b:Nat}{z:Option Value}(h:tab t=some ⟨.slice e,s,b,z⟩):Tryz.prog.underlying t=some (.slice e):=by
 obtain⟨d,j,hd,_,hu,_⟩:=dJ h;rw[hd];cases d<;>simp[mt] at hu ⊢;exact hu
theorem wU{t s b:Nat}{k:IntKind}{z:Option Value}(h:tab t=some ⟨.int k,s,b,z⟩):Tryz.prog.underlying t=some (.int k):=by
 obtain⟨d,j,hd,_,hu,_⟩:=dJ h;rw[hd];cases d<;>simp[mt] at hu ⊢;exact hu
theorem iA{t s b:Nat}{z:Option Value}(h:tab t=some ⟨.string,s,b,z⟩):Tryz.prog.underlying t=some .string:=by
 obtain⟨d,j,hd,_,hu,_⟩:=dJ h;rw[hd];cases d<;>simp[mt] at hu ⊢
theorem jP{t s b:Nat}{fs:List (Nat×Nat×Nat)}{z:Option Value}(h:tab t=some ⟨.struct fs,s,b,z⟩):
 ∃ F:Array Field,Tryz.prog.underlying t=some (.struct F)/\fs=F.toList.map λ f=>(f.offset,Tryz.prog.cellsOf f.type,mu Tryz.prog f.type):=by
 obtain⟨d,j,hd,_,hu,_⟩:=dJ h
 cases d<;>simp[mt] at hu
 rename_i F;exact⟨F,hd,hu.symm⟩
theorem nP{t s b f off sz:Nat}{ag:Nat}{fs:List (Nat×Nat×Nat)}{z:Option Value}(h:tab t=some ⟨.struct fs,s,b,z⟩)(hf:fs[f]?=some (off,sz,ag)):
 ∃ (F:Array Field) (g:Field),Tryz.prog.underlying t=some (.struct F)/\F[f]?=some g/\g.offset=off/\Tryz.prog.cellsOf g.type=sz/\mu Tryz.prog g.type=ag:=by
 obtain⟨F,hF,rfl⟩:=jP h;simp only[GC,Option.map_eq_some_iff,Array.getElem?_toList,Hq] at hf;obtain⟨g,hg,h1,h2,h3⟩:=hf;exact⟨F,g,hF,hg,h1,h2,h3⟩
theorem pD{t:TypeId}(h:mu Tryz.prog t=0)(w:World):(isAgg t).run Tryz.prog w=.ok false w:=by
 unfold mu at h;split at h
 ·cases h
 ·cases h
 ·rename_i d h1 h2 hd;unfold isAgg;rw[Sem.run_bind,run_underlying hd]
  cases d<;>first|rfl|exact absurd rfl (h1 _)|exact absurd rfl (h2 _ _)
 ·cases h
theorem nJ{t:TypeId}(h:mu Tryz.prog t=1)(w:World):(isAgg t).run Tryz.prog w=.ok true w:=by
 unfold mu at h;split at h
 ·rename_i hd;unfold isAgg;rw[Sem.run_bind,run_underlying hd];rfl
 ·rename_i hd;unfold isAgg;rw[Sem.run_bind,run_underlying hd];rfl
 ·cases h
 ·cases h
theorem wj{t sz:Nat}(h:Tryz.prog.cellsOf t=sz+1)(w:World):(sizeOf t).run Tryz.prog w=.ok (sz+1) w:=by
 unfold Program.cellsOf at h
 cases hi:Tryz.prog.info? t with
 |none=>simp[hi] at h
 |some i=>simp[hi] at h;simp[sizeOf,typeInfo,hi,h]
theorem CV{op:Op}{v:Value}{E:Env}(h:oQ E op=some v){a:Act}{n:qf}(hA:eR n a E)(dst:Option Tmp)(ty:TypeId)(pos:String)(after:Array Edge)
 (guard:Option (Nat×Bool)) (w:World):(execOp a.eval { dst,op,type:=ty,pos,after,guard }).run Tryz.prog w=.ok (.value v) w:=by
 cases op with
 |move x=>simp only[oQ] at h;simp[execOp,hA.val h]
 |assign x=>simp only[oQ] at h;simp[execOp,hA.val h]
 |pick c x y=>
  simp only[oQ] at h;split at h
  ·rename_i hc;simp[execOp,hA.val h,hA.val hc,asBool]
  ·rename_i hc;simp[execOp,hA.val h,hA.val hc,asBool]
  ·cases h
 |binOp op t x y yt=>
  simp only[oQ] at h;split at h
  ·rename_i k p k' q hx hy;split at h
   ·rename_i hk;subst hk;split at h
    ·rename_i u hu;simp only[Gs] at h;subst h;simp[execOp,hA.val hx,hA.val hy,iT,AT hu]
    ·simp[execOp,hA.val hx,hA.val hy,iT,vP h hy]
   ·cases h
  ·rename_i p q hx hy;split at h
   ·rename_i hb;simp[execOp,hA.val hx,hA.val hy,sS,yl h hb]
   ·cases h
  ·rename_i p q hx hy;simp[execOp,hA.val hx,hA.val hy,oJ,zZ h]
  ·rename_i d u hx hy;split at h
   ·rename_i ht;simp[execOp,hA.val hx,hA.val hy,v5,yD h ht]
   ·cases h
  ·rename_i hx hy;split at h
   ·rename_i c;split at h
    ·rename_i ht;have hy':=hA.val hy;simp[execOp,hA.val hx,hy',vm,yg h ht]
    ·cases h
   ·cases h
  ·cases h
 |unOp op t x=>
  simp only[oQ] at h;split at h
  ·rename_i b hx;simp only[Gs] at h;subst h;simp[execOp,hA.val hx,Op.unary]
  ·rename_i k m hx;simp only[Gs] at h;subst h;simp[execOp,hA.val hx,Op.unary,Op.intArith]
  ·cases h
 |convert s d x=>
  simp only[oQ] at h;split at h
  ·rename_i k1 _ _ _ k2 _ _ _ k3 m hs hd hx;simp only[Gs] at h;subst h;simp[execOp,hA.val hx,convert,run_underlying (wU hs),run_underlying (wU hd),Conv.intToInt]
  ·cases h
 |fieldAddr t x f=>
  simp only[oQ] at h;split at h
  ·rename_i fs _ _ _ b o ht hx;split at h
   ·rename_i off sz _ hf;simp only[Gs] at h;subst h;obtain⟨F,g,hF,hg,h1,h2,_⟩:=nP ht hf
    have hi:∃ i,Tryz.prog.info? g.type=some i/\i.size=sz+1:=by
     unfold Program.cellsOf at h2
     cases hi:Tryz.prog.info? g.type with
     |none=>simp[hi] at h2
     |some i=>exact⟨i,rfl,by simpa [hi] using h2⟩
    obtain⟨i,hi,hs⟩:=hi;subst h1
    have:Addr.add ⟨b,o,none⟩ g.offset=⟨b,o+g.offset,none⟩:=by
     unfold Addr.add;split<;>simp_all
    simp[execOp,hA.val hx,Instr.fieldAt,run_underlying hF,hg,Instr.sureAddr,fieldPlace,sizeOf,typeInfo,hi,hs,this]
   ·cases h
  ·cases h
 |field t x f=>
  simp only[oQ] at h;split at h
  ·rename_i fs _ _ _ cs ht hx;split at h
   ·rename_i off sz _ hf;obtain⟨F,g,hF,hg,h1,h2,h3⟩:=nP ht hf;subst h1;simp[execOp,hA.val hx,Instr.field,run_underlying hF,hg,asAgg,part,pD h3,Array.getElem?_toList▸h]
   ·rename_i off sz hf;obtain⟨F,g,hF,hg,h1,h2,h3⟩:=nP ht hf;subst h1;simp only[Gs] at h;subst h;simp[execOp,hA.val hx,Instr.field,run_underlying hF,hg,asAgg,part,nJ h3,wj h2]
   ·cases h
  ·cases h
 |extract x i=>
  simp only[oQ] at h;split at h
  ·rename_i vs hx;simp[execOp,hA.val hx,Instr.extract,Array.getElem?_toList▸h]
  ·cases h
 |makeFunc fn first cap=>
  simp only[oQ] at h;split at h
  ·rename_i f c hf hc;simp only[Option.some.injEq] at h;subst h;have e1:=hA.vals _ _ hf;have e2:=hA.vals _ _ hc;have e3:first.map a.eval=f.toArray:=by rw[← e1];exact Array.ext' (by simp)
   have e4:cap.map a.eval=c.toArray:=by rw[<- e2];exact Array.ext' (by simp)
   simp[execOp,Instr.makeFunc,e3,e4]
  ·cases h
 |nilCheck x=>
  simp only[oQ] at h;split at h
  ·rename_i p hx;simp only[Gs] at h;subst h;simp[execOp,hA.val hx]
  ·cases h
 |makeInterface t x=>
  simp only[oQ] at h;split at h
  ·cases h
  ·rename_i i u hn ht hx;simp only[Gs] at h;subst h;obtain⟨d,j,hd,_,hu,_⟩:=dJ ht
   have:∀ ms,d≠.interface ms:=by
    rintro ms rfl;obtain⟨uk,s1,s2,z⟩:=i;simp[mt] at hu;subst hu;exact hn _ _ _ rfl
   have hr:(Instr.makeInterface t u).run Tryz.prog w=.ok (.iface t u) w:=by
    unfold Instr.makeInterface;rw[Sem.run_bind,run_underlying hd]
    cases d<;>first|rfl|exact absurd rfl (this _)
   simp[execOp,hA.val hx,hr]
  ·cases h
 |typeAssert x xt t ok=>
  simp only[oQ] at h;split at h
  ·cases h
  ·rename_i i u v hn ht hx;split at h
   ·rename_i hb;obtain rfl:=Hv hb;obtain⟨d,j,hd,_,hu,_⟩:=dJ ht
    have hni:∀ ms,d≠.interface ms:=by
     rintro ms rfl;obtain⟨uk,s1,s2,z⟩:=i;simp[mt] at hu;subst hu;exact hn _ _ _ rfl
    have hr:∀ ok:Bool,(Instr.typeAssert (.iface u v) xt u ok).run Tryz.prog w=.ok (if ok then .tuple #[v,.bool true] else v) w:=by
     intro ok;unfold Instr.typeAssert;simp only[Sem.run_bind,run_underlying hd,Result.andThen_ok]
     cases d<;>first|exact absurd rfl (hni _)|(simp)
    split at h
    ·simp only[Gs] at h;subst h;simp[execOp,hA.val hx,hr]
    ·simp only[Gs] at h;subst h;simp[execOp,hA.val hx,hr]
   ·cases h
  ·cases h
 |call c=>
  obtain⟨callee,xs,ts⟩:=c
  cases callee with
  |value f=>simp[oQ] at h
  |invoke r m=>simp[oQ] at h
  |builtin b=>
   cases b with
   |len=>
    simp only[oQ] at h;split at h
    ·rename_i x t hxs hts;have e1:xs=#[x]:=by cases xs;simp at hxs;simp[hxs]
     have e2:ts=#[t]:=by cases ts;simp at hts;simp[hts]
     subst e1;subst e2;split at h
     ·rename_i ht hx;simp only[Gs] at h;subst h;simp[execOp,resolve,invoke,builtin,Builtin.len_,hA.val hx,run_underlying (dN ht),goInt]
     ·rename_i ht hx;simp only[Gs] at h;subst h;simp[execOp,resolve,invoke,builtin,Builtin.len_,hA.val hx,run_underlying (iA ht),goInt]
     ·cases h
    ·cases h
   |min=>
    simp only[oQ] at h;split at h
    ·rename_i x y hxs;have e1:xs=#[x,y]:=by cases xs;simp at hxs;simp[hxs]
     subst e1;split at h
     ·rename_i k p k' q hx hy;simp only[Gs] at h;subst h;simp[execOp,resolve,invoke,builtin,Builtin.min_,Builtin.min2,hA.val hx,hA.val hy]
     ·cases h
    ·cases h
   |max=>
    simp only[oQ] at h;split at h
    ·rename_i x y hxs;have e1:xs=#[x,y]:=by cases xs;simp at hxs;simp[hxs]
     subst e1;split at h
     ·rename_i k p k' q hx hy;simp only[Gs] at h;subst h;simp[execOp,resolve,invoke,builtin,Builtin.max_,Builtin.max2,hA.val hx,hA.val hy]
     ·cases h
    ·cases h
   |_=>simp[oQ] at h
 |_=>simp[oQ] at h
structure Cx where
 w0:World
 M:LN
 n:qf
abbrev dQ:=Exit->Env->Heap->Prop
def l6(X:Cx)(Q:dQ):Exit->Act->World->Prop:=λ e a w=>∃ E H,eR X.n a E/\cO X.w0 X.M w H/\Q e E H
def J(X:Cx)(c:Code)(Q:dQ)(E:Env)(H:Heap):Prop:=
 ∀ a w,eR X.n a E->cO X.w0 X.M w H->c.wp Tryz.prog (l6 X Q) a w
def JL(X:Cx)(ops:List Oper)(l:List Oper)(Q:dQ)(E:Env)(H:Heap):Prop:=
 ∀ a w,eR X.n a E->cO X.w0 X.M w H->wpList Tryz.prog ops.toArray (l6 X Q) l a w
def t6(K:Env->Heap->Prop)(Q:dQ):dQ
 |.normal,E,H=>K E H
 |e,E,H=>Q e E H
def AA(id:Nat)(Q:dQ):dQ
 |.exit i,E,H=>if i=id then Q .normal E H else Q (.exit i) E H
 |e,E,H=>Q e E H
variable {X:Cx} {Q:dQ} {E E':Env} {H:Heap}
theorem ad{x y:Code}(h:J X x (t6 (λ E H=>J X y Q E H) Q) E H):J X (.seq x y) Q E H:=by
 intro a w hA hH;refine wp_seq (wp_mono (h a w hA hH) ?_);rintro e a' w' ⟨E',H',hA',hH',hq⟩
 cases e with
 |normal=>exact hq a' w' hA' hH'
 |_=>exact⟨E',H',hA',hH',hq⟩
theorem aq(h:Q .normal E H):J X .skip Q E H:=λ _ _ hA hH=>wp_skip ⟨E,H,hA,hH,h⟩
theorem ay(h:Q .ret E H):J X .ret Q E H:=λ _ _ hA hH=>wp_ret ⟨E,H,hA,hH,h⟩
theorem bc{i:Nat}(h:Q (.exit i) E H):J X (.exit i) Q E H:=λ _ _ hA hH=>wp_exit ⟨E,H,hA,hH,h⟩
theorem au{i:Nat}{c:Code}(h:J X c (AA i Q) E H):J X (.block i c) Q E H:=by
 intro a w hA hH;refine wp_block (wp_mono (h a w hA hH) ?_);rintro e a' w' ⟨E',H',hA',hH',hq⟩
 cases e with
 |exit j=>
  simp only[Exit.inBlock];simp only[AA] at hq;split
  ·rename_i e;rw[if_pos e] at hq;exact⟨E',H',hA',hH',hq⟩
  ·rename_i e;rw[if_neg e] at hq;exact⟨E',H',hA',hH',hq⟩
 |_=>exact⟨E',H',hA',hH',hq⟩
def known(c:Operand)(b:Bool)(E:Env):Env:=match c with
 |.tmp t=>(t,.bool b)::E
 |_=>E
theorem eR.known{n:qf}{a:Act}{c:Operand}{b:Bool}(hA:eR n a E)(hv:Proofs.YtmcnpaelaieniaaGreatDoor.val E c=some (.bool b)):eR n a (Proofs.YtmcnpaelaieniaaGreatDoor.known c b E):=by
 cases c with
 |tmp t=>
  refine⟨hA.size,hA.defers,λ u v hu=>?_⟩;simp only[Proofs.YtmcnpaelaieniaaGreatDoor.known,fW] at hu
  cases hb:Nat.beq t u with
  |true=>
   obtain rfl:=Hv hb;rw[hb] at hu;simp only[cond_true,Gs] at hu;subst hu;exact hA.get _ _ hv
  |false=>rw[hb] at hu;exact hA.get u v hu
 |_=>exact hA
theorem mi{c:Operand}{x y:Code}{b:Bool}(hv:val E c=some (.bool b))(ht:b=true->J X x Q (known c true E) H)(hf:b=false->J X y Q (known c false E) H):
 J X (.cond c x y) Q E H:=by
 intro a w hA hH;refine wp_cond (hA.val hv) ?_
 cases b with
 |true=>exact ht rfl a w (hA.known hv) hH
 |false=>exact hf rfl a w (hA.known hv) hH
theorem aC{c:Operand}{x y:Code}{p:Prop}(hv:val E c=some (.bool (di p)))(ht:p->J X x Q (known c true E) H)(hf:¬ p->J X y Q (known c false E) H):
 J X (.cond c x y) Q E H:=mi hv (λ h=>ht (DB h)) (λ h=>hf (wF h))
theorem bi{c:Operand}{x y:Code}(hv:val E c=some (.bool true))(h:J X x Q E H):J X (.cond c x y) Q E H:=
 λ a w hA hH=>wp_cond_true (hA.val hv) (h a w hA hH)
theorem bG{c:Operand}{x y:Code}(hv:val E c=some (.bool false))(h:J X y Q E H):J X (.cond c x y) Q E H:=
 λ a w hA hH=>wp_cond_false (hA.val hv) (h a w hA hH)
theorem Ev{c:Code}(F:Env)(K:Heap)(l:LN)(hF:lK E F)(hl:l.Nodup)(hK:bU H l=some K)(h:J X c Q F K):J X c Q E H:=
 λ a w hA hH=>h a w (hA.ents F hF) (hH.picks l hl hK)
theorem bO{σ:Type}{c:Code}(F:σ->Env)(K:σ->Heap)(I:σ->Prop)(μ:σ->Nat)(s:σ)(l:LN)(hF:lK E (F s))(hl:l.Nodup)(hK:bU H l=some (K s))(hI:I s)
 (round:∀ s,I s->J X c (t6 (λ E' H'=>∃ s' l',lK E' (F s')/\l'.Nodup/\bU H' l'=some (K s')/\I s'/\μ s'<μ s) Q) (F s) (K s)):J X (.loop c) Q E H:=by
 intro a w hA hH;refine wp_loop_ghost (λ k a w=>∃ s,k=μ s/\I s/\eR X.n a (F s)/\cO X.w0 X.M w (K s)) (μ s) ⟨s,rfl,hI,hA.ents _ hF,hH.picks l hl hK⟩ ?_;rintro k a w ⟨s,rfl,hI,hA,hH⟩;refine wp_mono (round s hI a w hA hH) ?_;rintro e a' w' ⟨E',H',hA',hH',hq⟩
 cases e with
 |normal=>
  obtain⟨s',l',h1,h2,h3,h4,h5⟩:=hq;exact⟨μ s',h5,s',rfl,h4,hA'.ents _ h1,hH'.picks l' h2 h3⟩
 |_=>exact⟨E',H',hA',hH',hq⟩
theorem aa{id:Nat}{l:List Oper}(h:JL X l l Q E H):J X (.region id l.toArray false) Q E H:=
 λ a w hA hH=>wp_region_lit (h a w hA hH)
theorem ai{ops:List Oper}(h:Q .normal E H):JL X ops [] Q E H:=λ _ _ hA hH=>⟨E,H,hA,hH,h⟩
theorem wB{c:Code}{Q':dQ}(h:J X c Q E H)(hq:∀ e E H,Q e E H->Q' e E H):J X c Q' E H:=
 λ a w hA hH=>wp_mono (h a w hA hH) λ _ _ _ ⟨E,H,h1,h2,h3⟩=>⟨E,H,h1,h2,hq _ _ _ h3⟩
def Gj(gs:LN)(j:Nat):Bool:=match gs with
 |[]=>false
 |i::l=>bif Nat.beq i 999 then true else bif Nat.beq i j then true else Gj l j
def gd(ops:List Oper)(gs:LN)(E:Env):Option (Nat×Bool)->Option Bool
 |none=>some true
 |some (j,want)=>match Gj gs j with
  |true=>match ops[j]? with
   |some oj=>match oj.dst with
    |some t=>match fW E t with
     |some (.bool b)=>some (b==want)
     |some (.tuple _)=>some false
     |_=>none
    |none=>none
   |none=>none
  |false=>none
def ss(n:qf)(d:Option Nat)(v:Value)(E:Env):Option Env:=match d with
 |none=>some E
 |some d=>match Nat.blt d n.len with
  |true=>some ((d,v)::E)
  |false=>none
theorem eR.putE{n:qf}{a:Act}{d:Option Nat}{v:Value}(hA:eR n a E)(h:ss n d v E=some E'):eR n (a.put d v) E':=by
 cases d with
 |none=>simp only[Proofs.YtmcnpaelaieniaaGreatDoor.ss,Gs] at h;subst h;exact hA
 |some d=>
  simp only[Proofs.YtmcnpaelaieniaaGreatDoor.ss] at h;split at h
  ·rename_i hb;simp only[Gs] at h;subst h;exact hA.put (by simpa using hb) v
  ·cases h
theorem ce{n:qf}{a:Act}{ops:List Oper}{gs:LN}{o:Oper}{b:Bool}(hA:eR n a E)(h:gd ops gs E o.guard=some b):
 Region.wanted o (yielded ops.toArray a.tmps)=b:=by
 unfold Region.wanted;unfold gd at h;split at h
 ·rename_i hg;simp only[Gs] at h;subst h;simp[hg]
 ·rename_i j want hg;simp only[hg];split at h
  ·split at h
   ·rename_i oj hoj;split at h
    ·rename_i t ht;split at h
     ·rename_i b' hb';simp only[Option.some.injEq] at h;subst h;have:=hA.get _ _ hb';have hy:yielded ops.toArray a.tmps j=some b':=by simp[yielded,hoj,ht,this]
      rw[hy]
      cases b'<;>cases want<;>rfl
     ·rename_i vs hb';simp only[Option.some.injEq] at h;subst h;have:=hA.get _ _ hb';have hy:yielded ops.toArray a.tmps j=none:=by simp[yielded,hoj,ht,this]
      rw[hy];rfl
     ·cases h
    ·cases h
   ·cases h
  ·cases h
def gz(X:Cx)(o:Oper)(E:Env)(H:Heap)(v:Value):Prop:=
 ∀ a w,eR X.n a E->cO X.w0 X.M w H->(execOp a.eval o).run Tryz.prog w=.ok (.value v) w
theorem jE{o:Oper}{v:Value}(h:oQ E o.op=some v):gz X o E H v:=λ _ w hA _=>CV h hA o.dst o.type o.pos o.after o.guard w
def jH(n:qf)(ops:List Oper)(gs:LN)(E:Env)(o:Oper)(v:Value):Option Env:=match gd ops gs E o.guard with
 |some true=>ss n o.dst v E
 |_=>none
theorem db{n:qf}{ops:List Oper}{gs:LN}{o:Oper}{v:Value}(h:jH n ops gs E o v=some E'):gd ops gs E o.guard=some true/\ss n o.dst v E=some E':=by
 unfold jH at h;split at h
 ·rename_i hg;exact⟨hg,h⟩
 ·cases h
theorem ab{ops l:List Oper}{o:Oper}{v:Value}(gs:LN)(hv:gz X o E H v)(hb:jH X.n ops gs E o v=some E')(h:JL X ops l Q E' H):JL X ops (o::l) Q E H:=by
 intro a w hA hH;obtain⟨hg,hp⟩:=db hb;unfold wpList;rw[if_pos (ce hA hg)]
 left
 show o.upon _ a _ _ ((execOp a.eval o).run _ w);rw[hv a w hA hH];exact h _ _ (hA.putE hp) hH
theorem C0{ops l:List Oper}{o:Oper}(gs:LN)(hg:gd ops gs E o.guard=some false)(hp:ss X.n o.dst undef E=some E')(h:JL X ops l Q E' H):JL X ops (o::l) Q E H:=by
 intro a w hA hH;unfold wpList;rw[if_neg (by rw[ce hA hg];decide)];exact h _ _ (hA.putE hp) hH
noncomputable def Cu(n:qf)(ops:List Oper)(gs:LN)(E:Env)(o:Oper):Option Env:=match gd ops gs E o.guard with
 |some true=>match oQ E o.op with
  |some v=>ss n o.dst v E
  |none=>none
 |some false=>ss n o.dst undef E
 |none=>none
noncomputable def D3(n:qf)(ops:List Oper)(gs:LN)(E:Env):List Oper->Env×List Oper
 |[]=>(E,[])
 |o::l=>match Cu n ops gs E o with
  |some E'=>D3 n ops gs E' l
  |none=>(E,o::l)
theorem am{ops l:List Oper}{o:Oper}{gs:LN}(he:Cu X.n ops gs E o=some E')(h:JL X ops l Q E' H):JL X ops (o::l) Q E H:=by
 unfold Cu at he;split at he
 ·rename_i hg;split at he
  ·rename_i v hv;exact ab gs (jE hv) (by unfold jH;rw[hg];exact he) h
  ·cases he
 ·rename_i hg;exact C0 gs hg he h
 ·cases he
theorem ah{ops l':List Oper}(gs:LN):∀ {l:List Oper} {E:Env},D3 X.n ops gs E l=(E',l')->JL X ops l' Q E' H->JL X ops l Q E H
 |[],E,h,k=>by
  simp only[D3,Hq] at h;obtain⟨rfl,rfl⟩:=h;exact k
 |o::l,E,h,k=>by
  unfold D3 at h;split at h
  ·rename_i E1 h1;exact am h1 (ah gs h k)
  ·simp only[Hq] at h;obtain⟨rfl,rfl⟩:=h;exact k
theorem ae{ops:List Oper}(gs:LN){l:List Oper}(h:D3 X.n ops gs E l=(E',[]))(k:Q .normal E' H):JL X ops l Q E H:=ah gs h (ai k)
theorem eR.set{n:qf}{a:Act}{t:Nat}{v v':Value}(hA:eR n a E)(hv:fW E t=some v)(e:v=v'):eR n a ((t,v')::E):=by
 subst e;refine⟨hA.size,hA.defers,λ u x hu=>?_⟩;simp only[fW] at hu
 cases hb:Nat.beq t u with
 |true=>
  obtain rfl:=Hv hb;rw[hb] at hu;simp only[cond_true,Gs] at hu;subst hu;exact hA.get _ _ hv
 |false=>rw[hb] at hu;exact hA.get u x hu
theorem aI{ops l:List Oper}(t:Nat){v v':Value}(hv:fW E t=some v)(e:v=v')(h:JL X ops l Q ((t,v')::E) H):JL X ops l Q E H:=λ a w hA hH=>h a w (hA.set hv e) hH
theorem bd{ops l:List Oper}(t:Nat){p:Prop}(hv:fW E t=some (.bool (di p)))(hp:p)(h:JL X ops l Q ((t,.bool true)::E) H):JL X ops l Q E H:=aI t hv (Gt Value.bool (aR hp)) h
theorem aX{ops l:List Oper}(t:Nat){p:Prop}(hv:fW E t=some (.bool (di p)))(hp:¬ p)(h:JL X ops l Q ((t,.bool false)::E) H):JL X ops l Q E H:=aI t hv (Gt Value.bool (a6 hp)) h
theorem a7{c:Code}(t:Nat){v v':Value}(hv:fW E t=some v)(e:v=v')(h:J X c Q ((t,v')::E) H):J X c Q E H:=λ a w hA hH=>h a w (hA.set hv e) hH
theorem fd{c:Code}(t:Nat){p:Prop}(hv:fW E t=some (.bool (di p)))(hp:p)(h:J X c Q ((t,.bool true)::E) H):J X c Q E H:=a7 t hv (Gt Value.bool (aR hp)) h
theorem eE{c:Code}(t:Nat){p:Prop}(hv:fW E t=some (.bool (di p)))(hp:¬ p)(h:J X c Q ((t,.bool false)::E) H):J X c Q E H:=a7 t hv (Gt Value.bool (a6 hp)) h
theorem fj{x y:Code}(F:Env)(K:Heap)(h1:J X x (t6 (λ E' H'=>∃ ix:LN,lK E' F/\ix.Nodup/\bU H' ix=some K) Q) E H)(h2:J X y Q F K):J X (.seq x y) Q E H:=by
 refine ad (wB h1 ?_);intro e E' H' hq
 cases e with
 |normal=>obtain⟨ix,h3,h4,h5⟩:=hq;exact Ev F K ix h3 h4 h5 h2
 |_=>exact hq
theorem zo:Tryz.prog.follows .mixedOrders=true:=by kernel_rfl
def JS(X:Cx)(ops:List Oper)(l:List Oper)(H:Heap)(K:Env->Prop)(E:Env):Prop:=
 ∀ a w,eR X.n a E->cO X.w0 X.M w H->wpStill Tryz.prog ops.toArray w (λ a'=>∃ E',eR X.n a' E'/\K E') l a
theorem pk{id:Nat}{l:List Oper}(k:Nat)(hB:Region.lexTailB .any l.toArray k=true)(h:JS X l (l.take k) H (λ E=>JL X l (l.drop k) Q E H) E):J X (.region id l.toArray true) Q E H:=by
 intro a w hA hH;refine wp_region_still_tail k zo hB ?_;have:=h a _ hA hH.drew;refine (?_:∀ (Q1 Q2:Act->Prop),(∀ a,Q1 a->Q2 a)->∀ l a,wpStill Tryz.prog _ _ Q1 l a->wpStill Tryz.prog _ _ Q2 l a) _ _ ?_ _ a this
 ·intro Q1 Q2 hq l
  induction l with
  |nil=>exact λ a h=>hq a h
  |cons o l ih=>
   intro a h;unfold wpStill at h ⊢;split
   ·rename_i hw;rw[if_pos hw] at h;exact Oper.still_mono ih h
   ·rename_i hw;rw[if_neg hw] at h;exact ih _ h
 ·rintro a ⟨E',hA',hq⟩;exact hq a _ hA' hH.drew
theorem sF{ops:List Oper}{K:Env->Prop}(h:K E):JS X ops [] H K E:=λ _ _ hA _=>⟨E,hA,h⟩
theorem dk{ops l:List Oper}{o:Oper}{v:Value}{K:Env->Prop}(gs:LN)(hv:gz X o E H v)(hb:jH X.n ops gs E o v=some E')(h:JS X ops l H K E'):JS X ops (o::l) H K E:=by
 intro a w hA hH;obtain⟨hg,hp⟩:=db hb;unfold wpStill;rw[if_pos (ce hA hg)];unfold Oper.still;rw[hv a w hA hH];exact⟨rfl,h _ w (hA.putE hp) hH⟩
theorem EC{ops l:List Oper}{o:Oper}{gs:LN}{K:Env->Prop}(he:Cu X.n ops gs E o=some E')(h:JS X ops l H K E'):JS X ops (o::l) H K E:=by
 unfold Cu at he;split at he
 ·rename_i hg;split at he
  ·rename_i v hv;exact dk gs (jE hv) (by unfold jH;rw[hg];exact he) h
  ·cases he
 ·rename_i hg;intro a w hA hH;unfold wpStill;rw[if_neg (by rw[ce hA hg];decide)];exact h _ w (hA.putE he) hH
 ·cases he
theorem fu{ops l':List Oper}{K:Env->Prop}(gs:LN):∀ {l:List Oper} {E:Env},D3 X.n ops gs E l=(E',l')->JS X ops l' H K E'->JS X ops l H K E
 |[],E,h,k=>by
  simp only[D3,Hq] at h;obtain⟨rfl,rfl⟩:=h;exact k
 |o::l,E,h,k=>by
  unfold D3 at h;split at h
  ·rename_i E1 h1;exact EC h1 (fu gs h k)
  ·simp only[Hq] at h;obtain⟨rfl,rfl⟩:=h;exact k
def nc:Nat->LV_->Env
 |_,[]=>[]
 |i,v::l=>(i,v)::nc (i+1) l
def pr(E:Env):List ResultVar->Option (LV_)
 |[]=>some []
 |.tmp t::l=>match fW E t with
  |some v=>match pr E l with
   |some vs=>some (v::vs)
   |none=>none
  |none=>none
 |_=>none
def jR:LV_->Value
 |[v]=>v
 |vs=>.tuple vs.toArray
def Fn(f:FuncId)(args:LV_)(M:LN)(H:Heap)(R:Value->Heap->Prop):Prop:=
 ∀ w,cO w M w H->Calls Tryz.prog f args.toArray w λ e w'=>∃ v H',e=.returned v/\cO w M w' H'/\R v H'
def F5(rs:List ResultVar)(R:Value->Heap->Prop):dQ:=λ e E H=>match e with
 |.normal=>∃ vs,pr E rs=some vs/\R (jR vs) H
 |.ret=>∃ vs,pr E rs=some vs/\R (jR vs) H
 |_=>False
theorem qe:∀ (args:LV_) (i t:Nat) (v:Value),fW (nc i args) t=some v->i<=t/\args[t-i]?=some v
 |[],i,t,v,h=>by simp[nc,fW] at h
 |u::args,i,t,v,h=>by
  unfold nc fW at h
  cases hb:Nat.beq i t with
  |true=>
   obtain rfl:=Hv hb;rw[hb] at h;simp only[cond_true,Gs] at h;subst h;simp
  |false=>
   rw[hb] at h;have ih:=qe args (i+1) t v h;refine⟨by omega,?_⟩;have:t-i=(t-(i+1))+1:=by omega
   rw[this,ID];exact ih.2
def mm(tmps:Array Value):ResultVar->Sem Value
 |.tmp t=>pure (tmps.getD t undef)
 |.cell addr t=>do loadVar t (<- asAddr (tmps.getD addr undef))
theorem tW{a:Act}{n:qf}(hA:eR n a E):∀ (rs:List ResultVar) (vs:LV_),pr E rs=some vs->∀ w,
 (rs.mapM (m:=Sem) (mm a.tmps)).run Tryz.prog w=.ok vs w
 |[],vs,h,w=>by simp[pr] at h;simp[h]
 |.tmp t::l,vs,h,w=>by
  unfold pr at h;split at h
  ·rename_i v hv;split at h
   ·rename_i us hus;simp only[Gs] at h;subst h;have h1:=hA.get _ _ hv;have h2:=tW hA l us hus w;rw[List.mapM_cons];simp[mm,h2,Ik,h1]
   ·cases h
  ·cases h
 |.cell a t::l,vs,h,w=>by simp[pr] at h
theorem gH{a:Act}{n:qf}(hA:eR n a E){fn:Func}{vs:LV_}(h:pr E fn.results.toList=some vs)(w:World):
 (results fn a.tmps).run Tryz.prog w=.ok (jR vs) w:=by
 have e:results fn a.tmps=(do let vs <- fn.results.mapM (mm a.tmps);pure (if h:vs.size=1 then vs[0] else .tuple vs)):=rfl;rw[e,I0];simp only[map_eq_pure_bind,bind_assoc,pure_bind,Sem.run_bind,tW hA _ _ h w];show Result.ok (if h:vs.toArray.size=1 then vs.toArray[0] else Value.tuple vs.toArray) w=_
 congr 1
 match vs with
 |[]=>rfl
 |[v]=>rfl
 |u::v::l=>
  have:¬ (u::v::l).toArray.size=1:=by simp
  rw[dif_neg this];rfl
theorem kB{n:Nat}{args:LV_}(hn:Nat.ble args.length n=true):eR ⟨n,[]⟩ { tmps:=args.toArray++Array.replicate (n-args.toArray.size) undef,defers:=[] } (nc 0 args):=by
 have hn:=IN hn;refine⟨by simp;omega,rfl,λ t v hv=>?_⟩;have:=(qe args 0 t v hv).2;simp only[Nat.sub_zero] at this;have hl:=(Gv.1 this).1;rw[Array.getElem?_append_left (by simpa using hl)]
 simpa using this
theorem aJ{f:FuncId}{fn:Func}{c:Code}{args:LV_}{M:LN}{R:Value->Heap->Prop}(hf:Tryz.prog.funcs[f]?=some fn)(hb:fn.body=some c)(hn:Nat.ble args.length fn.ntmps=true)
 (h:∀ w0,J ⟨w0,M,⟨fn.ntmps,[]⟩⟩ c (F5 fn.results.toList R) (nc 0 args) H):Fn f args M H R:=by
 intro w hH;refine calls_of_wp hf hb ?_;have hA:=kB (args:=args) hn;refine wp_mono (h w _ w hA hH) ?_;rintro e a w' ⟨E',H',hA',hH',hq⟩
 cases e with
 |normal=>
  obtain⟨vs,h1,h2⟩:=hq;exact⟨hA'.defers,jR vs,gH hA' h1 w',jR vs,H',rfl,hH',h2⟩
 |ret=>
  obtain⟨vs,h1,h2⟩:=hq;exact⟨hA'.defers,jR vs,gH hA' h1 w',jR vs,H',rfl,hH',h2⟩
 |_=>exact hq.elim
theorem Fn.mono{f:FuncId}{args:LV_}{M:LN}{R R':Value->Heap->Prop}(h:Fn f args M H R)(hr:∀ v H',R v H'->R' v H'):Fn f args M H R':=
 λ w hw=>(h w hw).mono λ _ _ ⟨v,H',h1,h2,h3⟩=>⟨v,H',h1,h2,hr _ _ h3⟩
variable {X:Cx} {Q:dQ} {E E':Env} {H:Heap}
def dT(cs:LV_):Nat->Nat->Option (LV_)
 |_,0=>some []
 |i,n+1=>match cs[i]? with
  |some v=>match dT cs (i+1) n with
   |some l=>some (v::l)
   |none=>none
  |none=>none
def eH(t:Nat)(cs:LV_)(i:Nat):Option Value:=match tab t with
 |some ⟨.struct _,sz,_,_⟩=>match dT cs i sz with
  |some l=>some (.agg l.toArray)
  |none=>none
 |some ⟨.arr _ _,sz,_,_⟩=>match dT cs i sz with
  |some l=>some (.agg l.toArray)
  |none=>none
 |some ⟨_,1,_,_⟩=>cs[i]?
 |_=>none
theorem Addr.add_at(b o j:Nat):Addr.add ⟨b,o,none⟩ j=⟨b,o+j,none⟩:=by
 unfold Addr.add;split
 ·rename_i h;subst h;rfl
 ·rfl
theorem jh{w:World}{b o:Nat}{cs:LV_}(hc:∀ i v,cs[i]?=some v->w.cell? ⟨b,o+i,none⟩=some v):∀ (n i:Nat) (acc:Array Value) (l:LV_),dT cs i n=some l->
 (loadCellsFrom ⟨b,o,none⟩ i n acc).run Tryz.prog w=.ok (acc++l.toArray) w
 |0,i,acc,l,h=>by simp[dT] at h;subst h;simp[loadCellsFrom]
 |n+1,i,acc,l,h=>by
  unfold dT at h;split at h
  ·rename_i v hv;split at h
   ·rename_i l' hl';simp only[Gs] at h;subst h;have:=hc i v hv;have ih:=jh hc n (i+1) (acc.push v) l' hl';simp[loadCellsFrom,load,Sem.run,Addr.add_at,this,ih]
   ·cases h
  ·cases h
theorem ks{cs:LV_}{k:Nat}:∀ (n i:Nat) (l:LV_),dT cs (k+i) n=some l->dT (cs.drop k) i n=some l
 |0,i,l,h=>by simpa [dT] using h
 |n+1,i,l,h=>by
  unfold dT at h ⊢;split at h
  ·rename_i v hv;split at h
   ·rename_i l' hl';have:=ks (cs:=cs) (k:=k) n (i+1) l' (by rw[<- He];exact hl');rw[Hu,hv];simp only[this];exact h
   ·cases h
  ·cases h
theorem pP{t:Nat}{i:TI}(h:tab t=some i)(h1:∀ fs,i.uk≠.struct fs)(h2:∀ n e,i.uk≠.arr n e):mu Tryz.prog t=0:=by
 obtain⟨d,j,hd,_,hu,_⟩:=dJ h;unfold mu;rw[hd]
 cases d<;>simp only[mt] at hu<;>first|rfl|exact absurd hu.symm (h1 _)|exact absurd hu.symm (h2 _ _)
theorem qL{t s b:Nat}{z:Option Value}{fs:List (Nat×Nat×Nat)}(h:tab t=some ⟨.struct fs,s,b,z⟩):mu Tryz.prog t=1:=by
 obtain⟨F,hF,_⟩:=jP h;unfold mu;rw[hF]
theorem vM{t s b n e:Nat}{z:Option Value}(h:tab t=some ⟨.arr n e,s,b,z⟩):mu Tryz.prog t=1:=by
 obtain⟨d,j,hd,_,hu,_⟩:=dJ h;unfold mu;rw[hd]
 cases d<;>simp[mt] at hu ⊢
theorem da{t:Nat}{i:TI}(h:tab t=some i)(w:World):(sizeOf t).run Tryz.prog w=.ok i.size w:=by
 obtain⟨d,j,hd,hi,hu,hs,_⟩:=dJ h;simp[sizeOf,typeInfo,hi,hs]
theorem ou{w:World}{b o t:Nat}{cs:LV_}{v:Value}(hc:∀ i v,cs[i]?=some v->w.cell? ⟨b,o+i,none⟩=some v)(h:eH t cs 0=some v):
 (loadVar t ⟨b,o,none⟩).run Tryz.prog w=.ok v w:=by
 unfold eH at h;unfold loadVar;split at h
 ·rename_i sz _ _ ht;split at h
  ·rename_i l hl;simp only[Gs] at h;subst h;simp[nJ (qL ht),da ht,loadCells,jh hc _ _ _ _ hl]
  ·cases h
 ·rename_i sz _ _ ht;split at h
  ·rename_i l hl;simp only[Gs] at h;subst h;simp[nJ (vM ht),da ht,loadCells,jh hc _ _ _ _ hl]
  ·cases h
 ·rename_i h1 h2 ht;have:=hc 0 v h;simp only[HZ] at this;have hn:=pP ht (λ fs e=>h1 fs e) (λ n e k=>h2 n e k);simp[pD hn,load,Sem.run,this]
 ·cases h
theorem v3{t:Nat}{cs:LV_}{i:Nat}{v:Value}(h:eH t cs i=some v):eH t (cs.drop i) 0=some v:=by
 unfold eH at h ⊢;split at h
 ·split at h
  ·rename_i l hl;rw[ks (k:=i) _ 0 l hl];exact h
  ·cases h
 ·split at h
  ·rename_i l hl;rw[ks (k:=i) _ 0 l hl];exact h
  ·cases h
 ·rw[Hu];simpa using h
 ·cases h
def aV.shows(c:aV)(b off:Nat)(cs:LV_):Prop:=∀ w,c.holds w->∀ i v,cs[i]?=some v->w.cell? ⟨b,off+i,none⟩=some v
theorem aF(b e:Nat)(cs:LV_)(fz:Nat×Nat):(aV.obj b (.cells cs.toArray e fz)).shows b 0 cs:=by
 intro w h i v hv;have h':w.heap[b]?=some (.cells cs.toArray e fz):=h;simp[World.cell?,h',hv]
theorem ak(b off:Nat)(vs:LV_):(aV.seg b off vs).shows b off vs:=λ _ h=>h
theorem cp{g e sz n cap:Nat}{xs:LV_}:(aV.own (.slice (some ⟨g,0,none⟩) n cap) e sz n xs).shows g 0 xs:=by
 intro w h i v hv;have:=World.ownsRow.cells h (g:=g) rfl i v hv;rw[Addr.add_at] at this;exact this
theorem dr{o:Oper}{t b off i:Nat}{x:Operand}{c:aV}{cs:LV_}{v:Value}(k:Nat)(ho:o.op=.load t x)(hx:val E x=some (.pointer (some ⟨b,off+i,none⟩)))
 (hk:H[k]?=some c) (hc:c.shows b off cs) (hv:eH t cs i=some v):gz X o E H v:=by
 intro a w hA hH;have h1:=hc w (hH.holds c (Gu hk))
 have h2:(loadVar t ⟨b,off+i,none⟩).run Tryz.prog w=.ok v w:=ou (cs:=cs.drop i) (λ j u hu=>by
  rw[Hu] at hu;rw[He];exact h1 (i+j) u hu) (v3 hv)
 simp[execOp,ho,hA.val hx,Instr.loadAt,Instr.sureAddr,h2]
theorem cB{o:Oper}{t b i e:Nat}{x:Operand}{cs:LV_}{v:Value}(k:Nat)(ho:o.op=.load t x)(hx:val E x=some (.pointer (some ⟨b,i,none⟩)))
 (hk:H[k]?=some (blk b e cs)) (hv:eH t cs i=some v):gz X o E H v:=
 dr k ho (by rw[GZ];exact hx) hk (aF b e cs (0,0)) hv
theorem af{o:Oper}{t b i e:Nat}{x:Operand}{cs:LV_}{v:Value}(k:Nat)(h:(o.op,val E x,H[k]?,eH t cs i)=(.load t x,some (.pointer (some ⟨b,i,none⟩)),some (blk b e cs),some v)):gz X o E H v:=by
 simp only[Hq] at h;exact cB k h.1 h.2.1 h.2.2.1 h.2.2.2
theorem Cv{o:Oper}{t b off i:Nat}{x:Operand}{vs:LV_}{v:Value}(k:Nat)(ho:o.op=.load t x)(hx:val E x=some (.pointer (some ⟨b,off+i,none⟩)))
 (hk:H[k]?=some (.seg b off vs)) (hv:eH t vs i=some v):gz X o E H v:=dr k ho hx hk (ak b off vs) hv
theorem aD{o:Oper}{t g i e sz n cap:Nat}{x:Operand}{xs:LV_}{v:Value}(k:Nat)(ho:o.op=.load t x)(hx:val E x=some (.pointer (some ⟨g,i,none⟩)))
 (hk:H[k]?=some (.own (.slice (some ⟨g,0,none⟩) n cap) e sz n xs)) (hv:eH t xs i=some v):gz X o E H v:=
 dr k ho (by rw[GZ];exact hx) hk cp hv
theorem lC{o:Oper}{t b off n c e sz by_ m:Nat}{x ix:Operand}{k:IntKind}{z:Option Value}{et:TI}(ho:o.op=.indexAddr t x ix)(hx:val E x=some (.slice (some ⟨b,off,none⟩) n c))
 (hi:val E ix=some (.int k (m:Int))) (ht:tab t=some ⟨.slice e,sz,by_,z⟩) (he:tab e=some et) (hm:m<n):gz X o E H (.pointer (some ⟨b,off+m*et.size,none⟩)):=by
 intro a w hA hH;have h1:(0:Int)<=(m:Int)/\(m:Int)<(n:Int):=by omega
 simp[execOp,ho,hA.val hx,hA.val hi,Instr.indexAt,asIntOf,run_underlying (dN ht),da he,Addr.add_at,hm]
theorem rJ(w:World)(o:Obj)(k:Nat)(hk:k<w.heap.size):(w.alloc o).heap[k]?=w.heap[k]?:=Below.heap_alloc w o k hk
theorem cO.alloc{w0 w:World}{M:LN}(hH:cO w0 M w H)(o:Obj):cO w0 M (w.alloc o) (.obj w.heap.size o::H):=
 hH.grow rfl rfl rfl (by simp) (λ k hk=>rJ w o k hk) (heap_alloc_new w o) (λ b hb=>by simp only[aV.at_,Gs] at hb;omega)
theorem sf{F:Nat->Env}{f:Nat->Value}{ops l:List Oper}{o:Oper}{ob:Obj}(gs:LN)
 (hr:∀ a w,eR X.n a E->cO X.w0 X.M w H->(execOp a.eval o).run Tryz.prog w=.ok (.value (f w.heap.size)) (w.alloc ob))
 (hb:∀ b,jH X.n ops gs E o (f b)=some (F b)) (h:∀ b,JL X ops l Q (F b) (.obj b ob::H)):JL X ops (o::l) Q E H:=by
 intro a w hA hH;obtain⟨hg,hp⟩:=db (hb w.heap.size);unfold wpList;rw[if_pos (ce hA hg)]
 left
 show o.upon _ a _ _ ((execOp a.eval o).run _ w);rw[hr a w hA hH];exact h w.heap.size _ _ (hA.putE hp) (hH.alloc ob)
theorem bx{F:Nat->Env}{ops l:List Oper}{o:Oper}{e:Nat}{x:Operand}{v:Value}{cs:LV_}(ho:o.op=.box e x)(hx:val E x=some v)(hc:v.cells=cs.toArray)
 (hb:∀ b,jH X.n ops [] E o (.pointer (some ⟨b,0,none⟩))=some (F b)) (h:∀ b,JL X ops l Q (F b) (blk b e cs::H)):JL X ops (o::l) Q E H:=
 sf (f:=λ b=>.pointer (some ⟨b,0,none⟩)) [] (λ a w hA _=>by
  simp[execOp,ho,hA.val hx,Instr.box,newVar,newRow,newObj,hc,Sem.run,World.alloc_eq]) hb h
theorem bo{F:Nat->Env}{ops l:List Oper}{o:Oper}{e sz by_:Nat}{uk:UK}{v:Value}{cs:LV_}(ho:o.op=.alloc e)(ht:tab e=some ⟨uk,sz,by_,some v⟩)(hc:v.cells=cs.toArray)
 (hb:∀ b,jH X.n ops [] E o (.pointer (some ⟨b,0,none⟩))=some (F b)) (h:∀ b,JL X ops l Q (F b) (blk b e cs::H)):JL X ops (o::l) Q E H:=
 sf (f:=λ b=>.pointer (some ⟨b,0,none⟩)) [] (λ a w hA _=>by
  obtain⟨d,j,_,hi,_,_,_,hz⟩:=dJ ht;simp[execOp,ho,Instr.alloc,zeroValue,typeInfo,hi,hz v rfl,newVar,newRow,newObj,hc,Sem.run,World.alloc_eq]) hb h
def one:LV_->Bool
 |[]=>true
 |v::l=>match v.oneCell' with
  |true=>one l
  |false=>false
def wr:LV_->Nat->LV_->LV_
 |cs,_,[]=>cs
 |cs,i,v::l=>wr (cs.set i v) (i+1) l
theorem oq:∀ (l cs:LV_) (i:Nat),(wr cs i l).length=cs.length
 |[],cs,i=>rfl
 |v::l,cs,i=>by unfold wr;rw[oq l];simp
theorem xW{w:World}{b e i:Nat}{cs:LV_}{v:Value}(hb:w.heap[b]?=some (.cells cs.toArray e (0,0)))(hi:i<cs.length)(hv:v.oneCell'=true):
 (store ⟨b,i,none⟩ v .plain).run Tryz.prog w=.ok () (w.setCell ⟨b,i,none⟩ v):=by
 have h1:w.cell? ⟨b,i,none⟩=some cs[i]:=by simp[World.cell?,hb,hi]
 have h2:w.frozen? ⟨b,i,none⟩=false:=by simp[World.frozen?,hb]
 rw[run_store _ _ _ _ _ hv,h1];simp[h2]
theorem we{w:World}{b e i:Nat}{cs:LV_}(v:Value)(hb:w.heap[b]?=some (.cells cs.toArray e (0,0))):
 (w.setCell ⟨b,i,none⟩ v).heap[b]?=some (.cells (cs.set i v).toArray e (0,0)):=by
 simp only[World.setCell,Array.getElem?_modify,Ij,hb,Option.map_some];simp
theorem eU{b e o:Nat}:∀ (vs:LV_) (i:Nat) (w:World) (cs:LV_),w.heap[b]?=some (.cells cs.toArray e (0,0))->o+i+vs.length<=cs.length->one vs=true->
 ∃ w',(storeCells ⟨b,o,none⟩ vs i).run Tryz.prog w=.ok () w'/\w'.heap[b]?=some (.cells (wr cs (o+i) vs).toArray e (0,0))/\w'.os=w.os/\w'.tape=w.tape/\w'.output=w.output/\w'.heap.size=w.heap.size/\
   ∀ k,k≠b->w'.heap[k]?=w.heap[k]?
 |[],i,w,cs,hb,_,_=>⟨w,by simp[storeCells],by simpa [wr] using hb,rfl,rfl,rfl,rfl,λ _ _=>rfl⟩
 |v::vs,i,w,cs,hb,hl,h1=>by
  unfold one at h1;split at h1
  ·rename_i hv;simp only[List.length_cons] at hl;have hs:=xW (v:=v) (i:=o+i) hb (by omega) hv;obtain⟨w',h2,h3,h4,h5,h6,h7,h8⟩:=eU (o:=o) vs (i+1) _ _ (we (i:=o+i) v hb) (by simp;omega) h1;refine⟨w',?_,?_,h4,h5,h6,by rw[h7];simp[World.setCell],fun k hk=>(h8 k hk).trans (Below.heap_setCell w _ v k hk)⟩
   ·rw[storeCells,Addr.add_at,Sem.run_bind,hs];exact h2
   ·rw[wr,<- He] at*;exact h3
  ·cases h1
def nD(t:Nat)(cs:LV_)(i:Nat)(vs:LV_):Option (LV_):=match tab t with
 |some ⟨_,sz,_,_⟩=>match Nat.beq vs.length sz with
  |true=>match Nat.ble (i+vs.length) cs.length with
   |true=>match one vs with
    |true=>some (wr cs i vs)
    |false=>none
   |false=>none
  |false=>none
 |none=>none
theorem rD{t i:Nat}{cs vs cs':LV_}(h:nD t cs i vs=some cs'):∃ j,tab t=some j/\j.size=vs.length/\i+vs.length<=cs.length/\one vs=true/\cs'=wr cs i vs:=by
 unfold nD at h;split at h
 ·rename_i ht;split at h
  ·rename_i h1;split at h
   ·rename_i h2;split at h
    ·rename_i h3;simp only[Gs] at h;exact⟨_,ht,(Hv h1).symm,IN h2,h3,h.symm⟩
    ·cases h
   ·cases h
  ·cases h
 ·cases h
theorem sQ{w:World}{b e o t:Nat}{cs cs':LV_}{v:Value}(hb:w.heap[b]?=some (.cells cs.toArray e (0,0)))(h:nD t cs o v.cells.toList=some cs'):
 ∃ w',(storeVar t ⟨b,o,none⟩ v).run Tryz.prog w=.ok () w'/\w'.heap[b]?=some (.cells cs'.toArray e (0,0))/\w'.os=w.os/\w'.tape=w.tape/\w'.output=w.output/\w'.heap.size=w.heap.size/\
   ∀ k,k≠b->w'.heap[k]?=w.heap[k]?:=by
 obtain⟨j,ht,hs,hl,h1,rfl⟩:=rD h;obtain⟨w',h2,h3⟩:=eU (o:=o) v.cells.toList 0 w cs hb (by simpa using hl) h1;refine⟨w',?_,h3⟩;have:v.cells.size=j.size:=by rw[hs];simp
 simp[storeVar,da ht,this,h2]
theorem vf{ops l:List Oper}{o:Oper}{t b i e:Nat}{x y:Operand}{v:Value}{cs cs':LV_}(k:Nat)(ho:o.op=.store t x y)(hx:val E x=some (.pointer (some ⟨b,i,none⟩)))(hy:val E y=some v)
 (hk:H[k]?=some (blk b e cs)) (hw:nD t cs i v.cells.toList=some cs') (gs:LN) (hb:jH X.n ops gs E o undef=some E') (h:JL X ops l Q E' (H.set k (blk b e cs'))):JL X ops (o::l) Q E H:=by
 intro a w hA hH;obtain⟨hg,hp⟩:=db hb;unfold wpList;rw[if_pos (ce hA hg)]
 left
 obtain⟨w',h1,h2,h3,h4,h5,h6,h7⟩:=sQ (hH.holds _ (Gu hk)) hw;show o.upon _ a _ _ ((execOp a.eval o).run _ w)
 have:(execOp a.eval o).run Tryz.prog w=.ok .skip w':=by
  simp[execOp,ho,hA.val hx,hA.val hy,Instr.storeAt,Instr.sureAddr,h1]
 rw[this];refine h _ _ (hA.putE hp) (hH.step k hk h3 h4 h5 (by omega) (λ j _ hj=>h7 j (λ x=>hj (by rw[x];rfl))) h2 (λ b' hb'=>.inl hb'))
theorem aA{ops l:List Oper}{o:Oper}{t b i e:Nat}{x y:Operand}{v:Value}{cs cs':LV_}(k:Nat)(h1:(o.op,val E x,val E y,H[k]?,nD t cs i v.cells.toList)=(.store t x y,some (.pointer (some ⟨b,i,none⟩)),some v,some (blk b e cs),some cs'))(gs:LN)(hb:jH X.n ops gs E o undef=some E')(h:JL X ops l Q E' (H.set k (blk b e cs'))):JL X ops (o::l) Q E H:=by
 simp only[Hq] at h1;exact vf k h1.1 h1.2.1 h1.2.2.1 h1.2.2.2.1 h1.2.2.2.2 gs hb h
theorem nZ{w w':World}{e sz n g cap i:Nat}{xs vs:LV_}(h:w.ownsRow 0 e sz (.slice (some ⟨g,0,none⟩) n cap) n xs)(hl:i+vs.length<=xs.length)
 (hw:∀ cs,w.heap[g]?=some (.cells cs e (0,0))->w'.heap[g]?=some (.cells (wr cs.toList i vs).toArray e (0,0))):
 w'.ownsRow 0 e sz (.slice (some ⟨g,0,none⟩) n cap) n (wr xs i vs):=by
 refine⟨by rw[oq];exact h.1,?_⟩
 rcases h.2 with ⟨h',_⟩|⟨g',cap',cur,h',h0,hg,h1,h2,h3,h4⟩
 ·simp at h'
 ·simp only[Value.slice.injEq,Option.some.injEq,Addr.mk.injEq,and_true,true_and] at h';obtain⟨rfl,rfl⟩:=h';refine .inr ⟨g,cap,_,rfl,h0,hw cur hg,h1,h2,by simp[oq,h3],?_⟩
  have key:∀ (vs cs:LV_) (i m:Nat),i+vs.length<=m->(wr cs i vs).take m=wr (cs.take m) i vs:=by
   intro vs
   induction vs with
   |nil=>intro cs i m _;rfl
   |cons v vs ih=>
    intro cs i m hm;simp only[Gz] at hm;rw[wr,wr,ih _ _ _ (by omega),List.take_set]
  show (wr cur.toList i vs).take (n*sz)=_;rw[key _ _ _ _ (by rw[<- h.1];exact hl),h4]
theorem aO{ops l:List Oper}{o:Oper}{t g i e sz n cap:Nat}{x y:Operand}{v:Value}{xs xs':LV_}(k:Nat)(ho:o.op=.store t x y)(hx:val E x=some (.pointer (some ⟨g,i,none⟩)))(hy:val E y=some v)
 (hk:H[k]?=some (.own (.slice (some ⟨g,0,none⟩) n cap) e sz n xs)) (hw:nD t xs i v.cells.toList=some xs') (gs:LN) (hb:jH X.n ops gs E o undef=some E')
 (h:JL X ops l Q E' (H.set k (.own (.slice (some ⟨g,0,none⟩) n cap) e sz n xs'))):JL X ops (o::l) Q E H:=by
 intro a w hA hH;obtain⟨hg,hp⟩:=db hb;unfold wpList;rw[if_pos (ce hA hg)]
 left
 have hown:w.ownsRow 0 e sz (.slice (some ⟨g,0,none⟩) n cap) n xs:=hH.holds _ (Gu hk)
 obtain⟨cur,hcur,hlen,htk⟩:∃ cur:Array Value,w.heap[g]?=some (.cells cur e (0,0))/\n*sz<=cur.size/\cur.toList.take (n*sz)=xs:=by
  rcases hown.2 with ⟨h',_⟩|⟨g',cap',cur,h',h0,hg,h1,h2,h3,h4⟩
  ·simp at h'
  ·simp only[Value.slice.injEq,Gs,Addr.mk.injEq,IR,true_and] at h';obtain⟨rfl,rfl⟩:=h';exact⟨cur,hg,by rw[h3];exact HE _ h1,h4⟩
 obtain⟨j,ht,hs,hl,h1,rfl⟩:=rD hw;have hcur':w.heap[g]?=some (.cells cur.toList.toArray e (0,0)):=hcur;obtain⟨w',h2,h3,h4,h5,h6,h7,h8⟩:=eU (o:=i) v.cells.toList 0 w cur.toList hcur' (by have:=hown.1;simp only[IA] at*;omega) h1;show o.upon _ a _ _ ((execOp a.eval o).run _ w);have hsz:v.cells.size=j.size:=by rw[hs];simp
 have:(execOp a.eval o).run Tryz.prog w=.ok .skip w':=by
  simp[execOp,ho,hA.val hx,hA.val hy,Instr.storeAt,Instr.sureAddr,storeVar,da ht,hsz,h2]
 rw[this];refine h _ _ (hA.putE hp) (hH.step k hk h4 h5 h6 (by omega) (λ j _ hj=>h8 j (λ x=>hj (by rw[x];rfl))) ?_ (λ b' hb'=>.inl hb'));refine nZ hown hl λ cs hcs=>?_;rw[hcur] at hcs;simp only[Gs,Obj.cells.injEq,IR] at hcs;subst hcs;exact h3
variable {X:Cx} {Q:dQ} {E E':Env} {H:Heap}
theorem CR{ops l:List Oper}{o:Oper}{v:Value}{E':Env}{H':Heap}(gs:LN)(hb:jH X.n ops gs E o v=some E')
 (hr:∀ a w,eR X.n a E->cO X.w0 X.M w H->∃ w',(execOp a.eval o).run Tryz.prog w=.ok (.value v) w'/\cO X.w0 X.M w' H') (h:JL X ops l Q E' H'):JL X ops (o::l) Q E H:=by
 intro a w hA hH;obtain⟨hg,hp⟩:=db hb;unfold wpList;rw[if_pos (ce hA hg)]
 left
 obtain⟨w',h1,h2⟩:=hr a w hA hH;show o.upon _ a _ _ ((execOp a.eval o).run _ w);rw[h1];exact h _ _ (hA.putE hp) h2
theorem sO{α:Type}{F:α->Env}{G:α->Heap}{f:α->Value}{ops l:List Oper}{o:Oper}(gs:LN)(hb:∀ x,jH X.n ops gs E o (f x)=some (F x))
 (hr:∀ a w,eR X.n a E->cO X.w0 X.M w H->∃ x w',(execOp a.eval o).run Tryz.prog w=.ok (.value (f x)) w'/\cO X.w0 X.M w' (G x)) (h:∀ x,JL X ops l Q (F x) (G x)):JL X ops (o::l) Q E H:=by
 intro a w hA hH;obtain⟨x,w',h1,h2⟩:=hr a w hA hH;obtain⟨hg,hp⟩:=db (hb x);unfold wpList;rw[if_pos (ce hA hg)]
 left
 show o.upon _ a _ _ ((execOp a.eval o).run _ w);rw[h1];exact h x _ _ (hA.putE hp) h2
theorem cO.addnil{w0 w:World}{M:LN}(hH:cO w0 M w H)(e sz:Nat):cO w0 M w (.own (.slice none 0 0) e sz 0 []::H):=
 hH.grow rfl rfl rfl (GF _) (λ _ _=>rfl) (World.ownsRow_nil w 0 e sz) (λ b hb=>by simp[aV.at_,Value.ownBlock] at hb)
theorem cd{c:Code}(e sz:Nat)(h:J X c Q E (.own (.slice none 0 0) e sz 0 []::H)):J X c Q E H:=λ a w hA hH=>h a w hA (hH.addnil e sz)
theorem em{ops l:List Oper}(e sz:Nat)(h:JL X ops l Q E (.own (.slice none 0 0) e sz 0 []::H)):JL X ops l Q E H:=λ a w hA hH=>h a w hA (hH.addnil e sz)
def made(z:LV_)(n:Nat):LV_:=(madeCells z.toArray n).toList
theorem i7(z:LV_)(n:Nat):(made z n).length=n:=by simp[made,size_madeCells]
theorem dh(v:Value)(n:Nat):made [v] n=List.replicate n v:=by
 apply IS
 ·simp[i7]
 ·intro i h1 h2;simp[made,madeCells,Nat.mod_one]
theorem ir{t:Nat}{uk:UK}{sz by_:Nat}{v:Value}(h:tab t=some ⟨uk,sz,by_,some v⟩):∃ j,Tryz.prog.info? t=some j/\j.zero=some v/\j.size=sz/\j.bytes=by_:=by
 obtain⟨d,j,_,hi,_,h1,h2,hz⟩:=dJ h;exact⟨j,hi,hz v rfl,h1,h2⟩
theorem cX{F:Nat->Env}{ops l:List Oper}{o:Oper}{t e sz by_ sz' by' n c:Nat}{x y:Operand}{k1 k2:IntKind}{uk:UK}{v:Value}{z:Option Value}{zs:LV_}(ho:o.op=.makeSlice t x y)
 (hx:val E x=some (.int k1 (n:Int))) (hy:val E y=some (.int k2 (c:Int))) (ht:tab t=some ⟨.slice e,sz',by',z⟩) (he:tab e=some ⟨uk,sz,by_,some v⟩) (hz:v.cells=zs.toArray)
 (hnc:n<=c) (hc:c*by_<=140737488355328) (hc2:c<=2147483648) (hb:∀ b,jH X.n ops [] E o (.slice (some ⟨b,0,none⟩) n c)=some (F b))
 (h:∀ b,JL X ops l Q (F b) (.own (.slice (some ⟨b,0,none⟩) n c) e sz n (made zs (n*sz))::H)):JL X ops (o::l) Q E H:=by
 obtain⟨j,hi,hjz,hjs,hjb⟩:=ir he;refine sO (f:=λ b=>.slice (some ⟨b,0,none⟩) n c) (G:=λ b=>.own (.slice (some ⟨b,0,none⟩) n c) e sz n (made zs (n*sz))::H) [] hb (λ a w hA hH=>?_) h
 have hbb:(j.bytes:Int)*(c:Int)<=281474976710656:=by
  have h2:((by_*c:Nat):Int)<=((140737488355328:Nat):Int):=Int.ofNat_le.2 (by rw[Nat.mul_comm];exact hc);rw[Int.natCast_mul] at h2;rw[hjb];exact I3 h2 (by decide)
 have hr:=run_make (P:=Tryz.prog) w t e j v (dN ht) hi hjz k1 k2 (n:Int) (c:Int) (by omega) (by omega) hbb (by omega);simp only[GW] at hr;refine⟨w.heap.size,w.alloc (.cells (madeCells v.cells (c*j.size)) e),by simp[execOp,ho,hA.val hx,hA.val hy,hr],?_⟩;refine hH.grow rfl rfl rfl (by simp) (λ k hk=>rJ w _ k hk) ?_ (λ b hb=>by simp only[aV.at_,Value.ownBlock,Gs] at hb;omega);refine⟨i7 _ _,.inr ⟨w.heap.size,c,_,rfl,GB _,heap_alloc_new w _,hnc,by unfold maxLen;omega,by rw[size_madeCells,hjs],?_⟩⟩
 apply IS
 ·simp only[GV,IA,size_madeCells,i7,hjs];exact H9 (HE _ hnc)
 ·intro i h1 h2;simp[made,madeCells,hz]
theorem yE{F:Nat->Nat->Env}{ops l:List Oper}{o:Oper}{t e sz by_ sz' by' n m cx b off:Nat}{s x:Operand}{uk:UK}{zv v:Value}{z:Option Value}{xs news:LV_}{c2:aV}(k k2:Nat)
 (ho:o.op=.call ⟨.builtin .append,#[s,x],#[t,t]⟩) (hs:val E s=some v) (hx:val E x=some (.slice (some ⟨b,off,none⟩) m cx)) (ht:tab t=some ⟨.slice e,sz',by',z⟩)
 (he:tab e=some ⟨uk,sz,by_,some zv⟩) (hzs:zv.cells.size=sz) (hsz:0<sz) (hk:H[k]?=some (.own v e sz n xs)) (hk2:H[k2]?=some c2) (hc2:c2.shows b off news) (hl:news.length=m*sz) (h1:one news=true)
 (hm:0<m) (hmax:(n+m)*by_<=140737488355328) (hmax2:n+m<=2147483648) (hb:∀ g c,jH X.n ops [] E o (.slice (some ⟨g,0,none⟩) (n+m) c)=some (F g c))
 (h:∀ g c,JL X ops l Q (F g c) (H.set k (.own (.slice (some ⟨g,0,none⟩) (n+m) c) e sz (n+m) (xs++news)))):JL X ops (o::l) Q E H:=by
 obtain⟨j,hi,hjz,hjs,hjb⟩:=ir he
 refine sO (α:=Nat×Nat) (f:=λ p=>.slice (some ⟨p.1,0,none⟩) (n+m) p.2) (F:=λ p=>F p.1 p.2)
  (G:=λ p=>H.set k (.own (.slice (some ⟨p.1,0,none⟩) (n+m) p.2) e sz (n+m) (xs++news))) [] (λ p=>hb p.1 p.2) (λ a w hA hH=>?_) (λ p=>h p.1 p.2)
 have hown:w.ownsRow 0 e sz v n xs:=hH.holds _ (Gu hk);have hshow:=hc2 w (hH.holds _ (Gu hk2))
 have hone:∀ l:LV_,one l=true->∀ u∈l,u.oneCell'=true:=by
  intro l
  induction l with
  |nil=>intro _ u hu;cases hu
  |cons y l ih=>
   intro hl u hu;unfold one at hl;split at hl
   ·rename_i hy
    rcases GD.1 hu with rfl|hu
    ·exact hy
    ·exact ih hl u hu
   ·cases hl
 obtain⟨g,cap,w',hr,h2,h3,h4,h5⟩:=run_append_lies (P:=Tryz.prog) w t o.type 0 e j zv sz by_ (dN ht) hi hjz hjs hjb hzs hsz v n xs hown ⟨b,off,none⟩ m cx news hl
  (λ i u hu=>by rw[Addr.add_at];exact hshow i u hu) (hone news h1) hm (by unfold maxLen;omega) hmax (GB _) w.heap.size rfl
 refine⟨(g,cap),w',?_,?_⟩
 ·have hr':(Builtin.append_ #[t,t] o.type #[v,.slice (some ⟨b,off,none⟩) m cx]).run Tryz.prog w=.ok (.slice (some ⟨g,0,none⟩) (n+m) cap) w':=hr;simp[execOp,ho,resolve,invoke,builtin,hA.val hs,hA.val hx,hr']
 ·refine hH.step k hk h3.os h3.tape h3.output h3.size (fun q hq hne=>h3.block q hq (fun x=>hne (by rw[x];rfl))) h2 (fun b' hb'=>?_);simp only[aV.at_,Value.ownBlock,Option.some.injEq] at hb';subst hb'
  rcases h4 with h4|h4
  ·exact .inl h4
  ·exact .inr (by omega)
theorem pG(sz:Nat):∀ (vs:LV_) (k:Nat) (pre:LV_) (junk:LV_),pre.length=k*sz->(∀ v∈vs,v.cells.size=sz)->junk.length=vs.length*sz->
 Instr.fill (λ i=>some (i*sz,sz)) (pre++junk).toArray (vs.zipIdx k|>.map λ (v,i)=>(i,v))=some (pre++vs.flatMap λ v=>v.cells.toList).toArray
 |[],k,pre,junk,h0,_,hj=>by
  have:junk=[]:=GM.1 (by simpa using hj);subst this;simp[Instr.fill]
 |v::vs,k,pre,junk,h0,hs,hj=>by
  have hv:=hs v (by simp);simp only[Gz,H0,Nat.one_mul] at hj
  have hfold:∀ (cells:LV_) (base:Nat) (st:Nat) (A B:LV_),A.length=base+st->cells.length<=B.length->
   (cells.zipIdx st).foldl (λ (cs:Array Value) (p:Value×Nat)=>cs.setIfInBounds (base+p.2) p.1) (A++B).toArray=(A++cells++B.drop cells.length).toArray:=by
   intro cells
   induction cells with
   |nil=>intro base st A B _ _;simp
   |cons c cells ih=>
    intro base st A B hA hB
    cases B with
    |nil=>simp at hB
    |cons b B=>
     simp only[List.zipIdx_cons,IE]
     have e1:(A++b::B).toArray.setIfInBounds (base+st) c=((A++[c])++B).toArray:=by
      simp[hA]
     rw[e1,ih base (st+1) (A++[c]) B (by simp[hA];omega) (by simpa using hB)];simp
  simp only[List.zipIdx_cons,GG];unfold Instr.fill;simp only[];have hlen:k*sz+v.cells.size<=(pre++junk).toArray.size:=by simp[h0,hv];omega
  rw[if_neg (by simp[hv];simp[h0] at hlen;omega)];have e2:=hfold v.cells.toList (k*sz) 0 pre junk (by simp[h0]) (by simp[hv];omega)
  have e3:v.cells.zipIdx.foldl (λ (cs:Array Value) (p:Value×Nat)=>cs.setIfInBounds (k*sz+p.2) p.1) (pre++junk).toArray=(pre++v.cells.toList++junk.drop v.cells.toList.length).toArray:=by
   rw[<- e2,<- I4];simp
  have e4:(v.cells.zipIdx.foldl (λ cs (x:Value×Nat)=>match x with|(c,j)=>cs.setIfInBounds (k*sz+j) c) (pre++junk).toArray)=(pre++v.cells.toList++junk.drop v.cells.toList.length).toArray:=e3;rw[e4];rw[pG sz vs (k+1) (pre++v.cells.toList) (junk.drop v.cells.toList.length) (by simp[h0,hv,H0]) (λ u hu=>hs u (by simp[hu])) (by simp[hv];omega)];simp
def rO(ps:List (Nat×Value))(k sz:Nat):Option (LV_):=match ps with
 |[]=>some []
 |(i,v)::l=>match Nat.beq i k with
  |true=>match Nat.beq v.cells.toList.length sz with
   |true=>match rO l (k+1) sz with
    |some cs=>some (v.cells.toList++cs)
    |none=>none
   |false=>none
  |false=>none
theorem pC{sz:Nat}:∀ {ps:List (Nat×Value)} {k:Nat} {cs:LV_},rO ps k sz=some cs->
 ps=((ps.map (·.2)).zipIdx k|>.map λ (v,i)=>(i,v))/\(∀ v∈ps.map (·.2),v.cells.size=sz)/\cs=(ps.map (·.2)).flatMap λ v=>v.cells.toList
 |[],k,cs,h=>by simp[rO] at h;simp[h]
 |(i,v)::l,k,cs,h=>by
  unfold rO at h;split at h
  ·rename_i hi;split at h
   ·rename_i hs;split at h
    ·rename_i cs' hcs;simp only[Option.some.injEq] at h;obtain⟨h1,h2,h3⟩:=pC hcs;obtain rfl:=Nat.eq_of_beq_eq_true hi;have hs':v.cells.size=sz:=by have:=Nat.eq_of_beq_eq_true hs;simpa using this
     refine⟨?_,?_,?_⟩
     ·simp only[GG,List.zipIdx_cons];rw[<- h1]
     ·intro u hu;simp only[GG,GD] at hu
      rcases hu with rfl|hu
      ·exact hs'
      ·exact h2 u hu
     ·rw[<- h,h3];simp
    ·cases h
   ·cases h
  ·cases h
def oz(E:Env):List (Nat×Operand)->Option (List (Nat×Value))
 |[]=>some []
 |(i,x)::l=>match val E x with
  |some v=>match oz E l with
   |some vs=>some ((i,v)::vs)
   |none=>none
  |none=>none
theorem eR.valsP{n:qf}{a:Act}(hA:eR n a E):∀ (ps:List (Nat×Operand)) (vs:List (Nat×Value)),Proofs.YtmcnpaelaieniaaGreatDoor.oz E ps=some vs->ps.map (λ (i,x)=>(i,a.eval x))=vs
 |[],vs,h=>by simp[Proofs.YtmcnpaelaieniaaGreatDoor.oz] at h;simp[h]
 |(i,x)::l,vs,h=>by
  unfold Proofs.YtmcnpaelaieniaaGreatDoor.oz at h;split at h
  ·rename_i v hv;split at h
   ·rename_i us hus;simp only[Gs] at h;subst h;simp[hA.val hv,hA.valsP l us hus]
   ·cases h
  ·cases h
theorem CL(gs:LN){F:Nat->Env}{ops l:List Oper}{o:Oper}{t e n sz by_ sz' by':Nat}{ps:Array (Nat×Operand)}{vs:List (Nat×Value)}{uk:UK}{zv:Value}{z:Option Value}{cs:LV_}(ho:o.op=.buildSlice t n ps)
 (hp:oz E ps.toList=some vs) (ht:tab t=some ⟨.slice e,sz',by',z⟩) (he:tab e=some ⟨uk,sz,by_,some zv⟩) (hd:rO vs 0 sz=some cs) (hn:vs.length=n) (hz:Nat.ble (n*sz) 65536=true)
 (hb:∀ b,jH X.n ops gs E o (.slice (some ⟨b,0,none⟩) n n)=some (F b)) (h:∀ b,JL X ops l Q (F b) (blk b e cs::H)):JL X ops (o::l) Q E H:=by
 obtain⟨j,hi,hjz,hjs,hjb⟩:=ir he;refine sf (f:=λ b=>.slice (some ⟨b,0,none⟩) n n) gs (λ a w hA _=>?_) hb h;have hz':=IN hz;obtain⟨h1,h2,h3⟩:=pC hd;have e1:=hA.valsP _ _ hp;have e2:(ps.map λ (i,x)=>(i,a.eval x)).toList=vs:=by rw[<- e1];simp
 have hf:∀ junk:LV_,junk.length=n*sz->Instr.fill (λ i=>some (i*sz,sz)) junk.toArray vs=some cs.toArray:=by
  intro junk hj;have:=pG sz (vs.map (·.2)) 0 [] junk (by simp) h2 (by rw[hj];simp[hn]);rw[<- h1,<- h3] at this
  simpa using this
 have hrun:(Instr.buildSlice t n (ps.map λ (i,x)=>(i,a.eval x))).run Tryz.prog w=.ok (.slice (some ⟨w.heap.size,0,none⟩) n n) (w.alloc (.cells cs.toArray e)):=by
  unfold Instr.buildSlice;rw[e2];by_cases h0:n*sz=0
  ·have hf0:=hf [] (by simp[h0]);have:(Array.map (fun x=>(#[]:Array Value)[x%(#[]:Array Value).size]!) (Array.range (n*sz)))=[].toArray:=by rw[h0];simp
   simp only[run_underlying (dN ht),Sem.run_bind,Result.andThen_ok,da he,if_neg (show ¬ n*sz>2^24 by omega),if_pos h0,Sem.run_pure];rw[this,hf0];simp[newRow,newObj,Sem.run,World.alloc_eq]
  ·have hf0:=hf ((Array.range (n*sz)).map (zv.cells[·%zv.cells.size]!)).toList (by simp);simp only[run_underlying (dN ht),Sem.run_bind,Result.andThen_ok,da he,if_neg (show ¬ n*sz>2^24 by omega),if_neg h0,Sem.run_pure,zeroValue,typeInfo];simp only[Array.toArray_toList] at hf0;simp[hi,hjz,hf0,newRow,newObj,Sem.run,World.alloc_eq]
 have hrun':(Instr.buildSlice t n (ps.map λ x=>match x with|(i,x)=>(i,a.eval x))).run Tryz.prog w=.ok (.slice (some ⟨w.heap.size,0,none⟩) n n) (w.alloc (.cells cs.toArray e)):=hrun;simp[execOp,ho,hrun']
theorem bF{F:Nat->Env}{ops l:List Oper}{o:Oper}{t e n sz by_ sz' by':Nat}{ps:Array (Nat×Operand)}{vs:List (Nat×Value)}{uk:UK}{zv:Value}{z:Option Value}{cs:LV_}(ho:o.op=.buildSlice t n ps)
 (hp:oz E ps.toList=some vs) (ht:tab t=some ⟨.slice e,sz',by',z⟩) (he:tab e=some ⟨uk,sz,by_,some zv⟩) (hd:rO vs 0 sz=some cs) (hn:vs.length=n) (hz:Nat.ble (n*sz) 65536=true)
 (hb:∀ b,jH X.n ops [] E o (.slice (some ⟨b,0,none⟩) n n)=some (F b)) (h:∀ b,JL X ops l Q (F b) (blk b e cs::H)):JL X ops (o::l) Q E H:=
 CL [] ho hp ht he hd hn hz hb h
variable {X:Cx} {Q:dQ} {E E':Env} {H:Heap}
noncomputable def ew(f:FuncId):Bool:=match Tryz.prog.funcs[f]? with
 |some fn=>!(fn.name== "runtime.NumGoroutine")&&fn.body.isSome
 |none=>false
theorem fI{f:FuncId}(h:ew f=true)(args:Array Value)(w:World):(callFunc f args).run Tryz.prog w=.ok (.enter f args) w:=by
 unfold ew at h;split at h
 ·rename_i fn hf;simp only[Bool.and_eq_true,Bool.not_eq_true'] at h;have hb:fn.body≠none:=by intro hx;rw[hx] at h;simp at h
  have h2:¬ fn.name= "runtime.NumGoroutine" :=by have:=h.1;simpa using this
  simp[callFunc,program,Sem.run,hf,h2,hb]
 ·cases h
def je(H:Heap)(ix:LN):Heap->Prop
 |[]=>True
 |.seg b off vs::S=>(∃ k c,k∉ix/\H[k]?=some c/\c.shows b off vs/\(vs=[]\/c.at_=some b))/\je H ix S
 |.tab b o::S=>(∃ k,k∉ix/\H[k]?=some (.tab b o))/\je H ix S
 |_=>False
theorem je.holds{ix:LN}{w:World}:∀ {S:Heap},je H ix S->(∀ c∈H,c.holds w)->∀ s∈S,s.holds w
 |[],_,_,s,hs=>by cases hs
 |.seg b off vs::S,h,hH,s,hs=>by
  obtain⟨⟨k,c,_,hk,hc,_⟩,hS⟩:=h
  rcases GD.1 hs with rfl|hs
  ·exact hc w (hH c (Gu hk))
  ·exact je.holds hS hH s hs
 |.tab b o::S,h,hH,s,hs=>by
  obtain⟨⟨k,_,hk⟩,hS⟩:=h
  rcases GD.1 hs with rfl|hs
  ·exact hH _ (Gu hk)
  ·exact je.holds hS hH s hs
 |.obj ..::_,h,_,_,_=>h.elim
 |.own ..::_,h,_,_,_=>h.elim
theorem je.apart{ix:LN}(hd:H.Pairwise dO):∀ {S:Heap},je H ix S->∀ s∈S,s.mine=none/\∀ i∈ix,∀ c,H[i]?=some c->Proofs.YtmcnpaelaieniaaGreatDoor.dO s c
 |[],_,s,hs=>by cases hs
 |.seg b off vs::S,h,s,hs=>by
  obtain⟨⟨k,c,hki,hk,_,hat⟩,hS⟩:=h
  rcases GD.1 hs with rfl|hs
  ·refine⟨rfl,fun i hi d hd'=>⟨fun b' hb'=>by simp[aV.mine] at hb',fun b' hb' h2=>?_⟩⟩;have hap:=er hd hk hd' (fun e=>hki (e▸hi));simp only[aV.at_] at h2;split at h2
   ·cases h2
   ·rename_i hne;simp only[Gs] at h2;subst h2
    rcases hat with hat|hat
    ·exact hne hat
    ·exact hap.2 _ hb' hat
  ·exact je.apart hd hS s hs
 |.tab b o::S,h,s,hs=>by
  obtain⟨⟨k,hki,hk⟩,hS⟩:=h
  rcases GD.1 hs with rfl|hs
  ·exact⟨rfl,λ i hi d hd'=>er hd hk hd' (λ e=>hki (e▸hi))⟩
  ·exact je.apart hd hS s hs
 |.obj ..::_,h,_,_=>h.elim
 |.own ..::_,h,_,_=>h.elim
def fX:Heap->Bool
 |[]=>true
 |.seg ..::_=>false
 |.tab ..::_=>false
 |_::l=>fX l
theorem l9:∀ {H:Heap},fX H=true->∀ c∈H,c.mine=c.at_
 |[],_,c,hc=>by cases hc
 |.seg ..::_,h,_,_=>by simp[fX] at h
 |.tab ..::_,h,_,_=>by simp[fX] at h
 |.obj b o::l,h,c,hc=>by
  rcases GD.1 hc with rfl|hc
  ·rfl
  ·exact l9 (H:=l) h c hc
 |.own ..::l,h,c,hc=>by
  rcases GD.1 hc with rfl|hc
  ·rfl
  ·exact l9 (H:=l) h c hc
theorem cO.hand{w0 w:World}{M:LN}(hH:cO w0 M w H){ix:LN}{S C:Heap}{Mc:LN}(hS:je H ix S)(hix:ix.Nodup)(hC:Proofs.YtmcnpaelaieniaaGreatDoor.bU H ix=some C)(hM:∀ c∈C,∀ b,c.mine=some b->b∈Mc):cO w Mc w (S++C):=by
 refine⟨rfl,rfl,rfl,GF _,λ _ _ _=>rfl,λ c hc=>?_,λ c hc b hb=>?_,?_⟩
 ·rcases GE.1 hc with hc|hc
  ·exact hS.holds hH.holds c hc
  ·obtain⟨i,_,hi⟩:=eX hC c hc;exact hH.holds c (Gu hi)
 ·rcases GE.1 hc with hc|hc
  ·have:=(hS.apart hH.dis c hc).1;rw[this] at hb;cases hb
  ·exact .inr (hM c hc b hb)
 ·refine HV.2 ⟨?_,fH hH.dis hix hC,λ s hs c hc=>?_⟩
  ·rw[HD];intro i j hi hj _;have h1:=(hS.apart hH.dis _ (H4 hi)).1;have h2:=(hS.apart hH.dis _ (H4 hj)).1;refine⟨λ b hb=>?_,λ b hb=>?_⟩
   ·rw[h1] at hb;simp at hb
   ·rw[h2] at hb;simp at hb
  ·obtain⟨i,hi,hic⟩:=eX hC c hc;exact (hS.apart hH.dis s hs).2 i hi c hic
theorem cO.back{w0 w w':World}{M:LN}(hH:cO w0 M w H){ix rest:LN}{C K H':Heap}{Mc:LN}(hC:Proofs.YtmcnpaelaieniaaGreatDoor.bU H ix=some C)(hM2:∀ b∈Mc,∃ c∈C,c.mine=some b)
 (hr:Proofs.YtmcnpaelaieniaaGreatDoor.bU H rest=some K) (hrn:rest.Nodup) (hdis:∀ i∈rest,i∉ix) (h':cO w Mc w' H') (hn:fX H'=true):cO w0 M w' (H'++K):=by
 have hback:∀ b∈Mc,∃ i∈ix,∃ c,H[i]?=some c/\c.mine=some b:=by
  intro b hb;obtain⟨c,hc,hcb⟩:=hM2 b hb;obtain⟨i,hi,hic⟩:=eX hC c hc;exact⟨i,hi,c,hic,hcb⟩
 have hrest:∀ d∈K,∀ b,d.at_=some b->b<w.heap.size/\b∉Mc:=by
  intro d hd b hb;obtain⟨j,hj,hjd⟩:=eX hr d hd;refine⟨aV.at_lt (hH.holds d (Gu hjd)) hb,λ hbM=>?_⟩;obtain⟨i,hi,c,hic,hcb⟩:=hback b hbM;exact (er hH.dis hic hjd (λ e=>hdis j hj (e▸hi))).1 b hcb hb
 refine⟨h'.os.trans hH.os,h'.tape.trans hH.tape,h'.output.trans hH.output,HG hH.size h'.size,λ k hk hkM=>?_,λ c hc=>?_,λ c hc b hb=>?_,?_⟩
 ·have hkw:=Il hk hH.size
  have:k∉Mc:=by
   intro hkc;obtain⟨i,_,c,hic,hcb⟩:=hback k hkc
   rcases hH.own c (Gu hic) k hcb with h1|h1
   ·omega
   ·exact hkM h1
  exact (h'.keep k hkw this).trans (hH.keep k hk hkM)
 ·rcases GE.1 hc with hc|hc
  ·exact h'.holds c hc
  ·obtain⟨j,_,hjd⟩:=eX hr c hc;exact aV.holds_of (hH.holds c (Gu hjd)) λ b hb=>h'.keep b (hrest c hc b hb).1 (hrest c hc b hb).2
 ·rcases GE.1 hc with hc|hc
  ·rcases h'.own c hc b hb with h1|h1
   ·exact .inl (HG hH.size h1)
   ·obtain⟨i,_,d,hid,hdb⟩:=hback b h1;exact hH.own d (Gu hid) b hdb
  ·obtain⟨j,_,hjd⟩:=eX hr c hc;exact hH.own c (Gu hjd) b hb
 ·refine HV.2 ⟨h'.dis,fH hH.dis hrn hr,λ c hc d hd=>?_⟩;have hcm:=l9 hn c hc
  have key:∀ b,c.at_=some b->d.at_≠some b:=by
   intro b hb hdb;rw[<- hcm] at hb;obtain⟨h1,h2⟩:=hrest d hd b hdb
   rcases h'.own c hc b hb with h3|h3
   ·omega
   ·exact h2 h3
  exact⟨λ b hb=>key b (aV.mine_at hb),λ b hb h2=>key b h2 (aV.mine_at hb)⟩
theorem uv{o:Oper}{f:Operand}{args:Array Operand}{ts:Array TypeId}{g:FuncId}{fst cap vs:LV_}{n:qf}{a:Act}(hA:eR n a E)(ho:o.op=.call ⟨.value f,args,ts⟩)
 (hf:val E f=some (.func (.func g) fst.toArray cap.toArray)) (ha:vals E args.toList=some vs) (hc:ew g=true) (w:World):
 (execOp a.eval o).run Tryz.prog w=.ok (.enter g (fst++vs++cap).toArray) w:=by
 have e1:args.map a.eval=vs.toArray:=by rw[<- hA.vals _ _ ha];exact Array.ext' (by simp)
 simp[execOp,ho,resolve,Deferred.ofValue,invoke,hA.val hf,e1,fI hc]
theorem xI{F:Value->Env}{ops l:List Oper}{o:Oper}{f:Operand}{args:Array Operand}{ts:Array TypeId}{g:FuncId}{fst cap vs args':LV_}{R:Value->Heap->Prop}{S C K:Heap}{Mc:LN}(ix rest:LN)(gs:LN)
 (T:Fn g args' Mc (S++C) R) (ho:o.op=.call ⟨.value f,args,ts⟩) (hf:val E f=some (.func (.func g) fst.toArray cap.toArray)) (ha:vals E args.toList=some vs) (has:fst++vs++cap=args') (hc:ew g=true)
 (hS:je H ix S) (hix:ix.Nodup) (hC:bU H ix=some C) (hM:∀ c∈C,∀ b,c.mine=some b->b∈Mc) (hM2:∀ b∈Mc,∃ c∈C,c.mine=some b)
 (hr:bU H rest=some K) (hrn:rest.Nodup) (hdis:∀ i∈rest,i∉ix) (hb:∀ v,jH X.n ops gs E o v=some (F v)) (h:∀ v H',R v H'->fX H'=true/\JL X ops l Q (F v) (H'++K)):JL X ops (o::l) Q E H:=by
 intro a w hA hH;have hg:=(db (hb undef)).1;unfold wpList;rw[if_pos (ce hA hg)]
 left
 show o.upon _ a _ _ ((execOp a.eval o).run _ w);rw[uv hA ho hf ha hc w,has];refine (T w (hH.hand hS hix hC hM)).mono ?_;rintro e w' ⟨v,H',rfl,h1,h2⟩;obtain⟨h3,h4⟩:=h v H' h2;exact h4 _ _ (hA.putE (db (hb v)).2) (hH.back hC hM2 hr hrn hdis h1 h3)
theorem oB(H:Heap):bU H (List.range H.length)=some H:=by
 have key:∀ (K:Heap) (i:Nat),(∀ j,H[i+j]?=K[j]?)->bU H (List.range' i K.length)=some K:=by
  intro K
  induction K with
  |nil=>intro i _;rfl
  |cons c K ih=>
   intro i hi;have h0:H[i]?=some c:=by simpa using hi 0
   rw[Gz,List.range'_succ];unfold bU;rw[h0,ih (i+1) (λ j=>by have:=hi (j+1);simpa [He,I5 1] using this)]
 rw[List.range_eq_range'];exact key H 0 (λ j=>by simp)
theorem b9{F:Value->Env}{ops l:List Oper}{o:Oper}{f:Operand}{args:Array Operand}{ts:Array TypeId}{g:FuncId}{fst cap vs args':LV_}{R:Value->Heap->Prop}{S:Heap}(gs:LN)
 (T:Fn g args' [] S R) (ho:o.op=.call ⟨.value f,args,ts⟩) (hf:val E f=some (.func (.func g) fst.toArray cap.toArray)) (ha:vals E args.toList=some vs) (has:fst++vs++cap=args') (hc:ew g=true)
 (hS:je H [] S) (hb:∀ v,jH X.n ops gs E o v=some (F v)) (h:∀ v H',R v H'->fX H'=true/\JL X ops l Q (F v) (H'++H)):JL X ops (o::l) Q E H:=
 xI (C:=[]) (K:=H) [] (List.range H.length) gs (by simpa using T) ho hf ha has hc hS IP rfl (λ c hc=>by cases hc) (λ b hb=>by cases hb) (oB H) H5 (λ _ _ h=>by cases h) hb h
theorem ap{F:Value->Env}{ops l:List Oper}{o:Oper}{f:Operand}{args:Array Operand}{ts:Array TypeId}{g:FuncId}{fst cap vs args':LV_}{R:Value->Heap->Prop}{S:Heap}(gs:LN)
 (T:Fn g args' [] S R) (h1:(o.op,val E f,vals E args.toList,fst++vs++cap)=(.call ⟨.value f,args,ts⟩,some (.func (.func g) fst.toArray cap.toArray),some vs,args')) (hc:ew g=true)
 (hS:je H [] S) (hb:∀ v,jH X.n ops gs E o v=some (F v)) (h:∀ v H',R v H'->fX H'=true/\JL X ops l Q (F v) (H'++H)):JL X ops (o::l) Q E H:=by
 simp only[Hq] at h1;exact b9 gs T h1.1 h1.2.1 h1.2.2.1 h1.2.2.2 hc hS hb h
variable {X:Cx} {Q:dQ} {E E':Env} {H:Heap}
structure dI where
 fr:Int
 to:Int
 cap:Int
def ax(l:LI):LV_:=l.map (.int .i64)
def eb(l:LB):LV_:=l.map .bool
def arcs(l:List dI):LV_:=l.flatMap λ a=>[.int .i64 a.fr,.int .i64 a.to,.int .i64 a.cap]
theorem bK(l:LI):(ax l).length=l.length:=by simp[ax]
theorem dx{l:LI}{i:Nat}{x:Int}(h:l[i]?=some x):(ax l)[i]?=some (.int .i64 x):=by simp[ax,h]
theorem fA{l:LB}{i:Nat}{x:Bool}(h:l[i]?=some x):(eb l)[i]?=some (.bool x):=by simp[eb,h]
theorem eO:∀ {l:List dI} {i:Nat} {x:dI},l[i]?=some x->(arcs l)[i*3]?=some (.int .i64 x.fr)/\(arcs l)[i*3+1]?=some (.int .i64 x.to)/\(arcs l)[i*3+2]?=some (.int .i64 x.cap)
 |[],i,x,h=>by simp at h
 |a::l,0,x,h=>by simp at h;subst h;simp[arcs]
 |a::l,i+1,x,h=>by
  have ih:=eO (l:=l) (i:=i) (x:=x) (by simpa using h);have e:arcs (a::l)=[.int .i64 a.fr,.int .i64 a.to,.int .i64 a.cap]++arcs l:=by simp[arcs]
  have e1:(i+1)*3=i*3+3:=by omega
  rw[e,e1];refine⟨?_,?_,?_⟩
  ·rw[GL (by simp)];simpa using ih.1
  ·rw[GL (by simp)];simpa using ih.2.1
  ·rw[GL (by simp)];simpa using ih.2.2
theorem nO(n:Nat):made [.int .i64 0] (n*1)=ax (List.replicate n 0):=by simp[dh,ax]
theorem qr(n:Nat):made [.bool false] (n*1)=eb (List.replicate n false):=by simp[dh,eb]
theorem Bg(l:LI)(i:Nat)(x:Int):(ax l).set i (.int .i64 x)=ax (l.set i x):=by simp[ax]
theorem y4(l:LB)(i:Nat)(x:Bool):(eb l).set i (.bool x)=eb (l.set i x):=by simp[eb]
theorem dU{t by_ i:Nat}{uk:UK}{z:Option Value}{l:LI}{x:Int}(ht:tab t=some ⟨uk,1,by_,z⟩)(hi:i<l.length):nD t (ax l) i (Value.int .i64 x).cells.toList=some (ax (l.set i x)):=by
 unfold nD;rw[ht];have h2:Nat.ble (i+1) (ax l).length=true:=Nat.ble_eq_true_of_le (by rw[bK];omega);simp only[Value.cells,Gz,GQ,GZ,Nat.beq_refl,h2,one,Value.oneCell',wr,Bg]
theorem nK{t by_ i:Nat}{uk:UK}{z:Option Value}{l:LB}{x:Bool}(ht:tab t=some ⟨uk,1,by_,z⟩)(hi:i<l.length):nD t (eb l) i (Value.bool x).cells.toList=some (eb (l.set i x)):=by
 unfold nD;rw[ht];have h2:Nat.ble (i+1) (eb l).length=true:=Nat.ble_eq_true_of_le (by simp[eb];omega);simp only[Value.cells,Gz,GQ,GZ,Nat.beq_refl,h2,one,Value.oneCell',wr,y4]
theorem eY{l:List dI}{m:Nat}{a:dI}(h:l[m]?=some a):eH 37 (arcs l) (m*3)=some (.agg #[.int .i64 a.fr,.int .i64 a.to,.int .i64 a.cap]):=by
 obtain⟨h1,h2,h3⟩:=eO h;show (match dT (arcs l) (m*3) 3 with|some l=>some (Value.agg l.toArray)|none=>none)=_
 have:dT (arcs l) (m*3) 3=some [.int .i64 a.fr,.int .i64 a.to,.int .i64 a.cap]:=by
  unfold dT;rw[h1];unfold dT;rw[h2];unfold dT;rw[h3];unfold dT;rfl
 rw[this]
theorem bD{l:LI}{m:Nat}{x:Int}(h:l[m]?=some x):eH 2 (ax l) m=some (.int .i64 x):=dx h
theorem be{l:LI}{m:Nat}{x:Int}(h:l[m]?=some x):eH 3 (ax l) m=some (.int .i64 x):=dx h
theorem Db{o:Oper}{t t':Nat}{x y:Operand}{k k':IntKind}{a:Int}{b:Nat}(ho:o.op=.binOp .shl t x y t')(hx:val E x=some (.int k a))(hy:val E y=some (.int k' (b:Int))):
 gz X o E H (.int k (k.wrap (a*2^(min b k.bits)))):=by
 intro ac w hA hH;have hb:¬ ((b:Int)<0):=by omega
 simp[execOp,ho,hA.val hx,hA.val hy,iT,binOp,Op.shift,hb]
theorem C6{o:Oper}{t t':Nat}{x y:Operand}{k k':IntKind}{a:Int}{b:Nat}(ho:o.op=.binOp .shr t x y t')(hx:val E x=some (.int k a))(hy:val E y=some (.int k' (b:Int))):
 gz X o E H (.int k (a.fdiv (2^(min b k.bits)))):=by
 intro ac w hA hH;have hb:¬ ((b:Int)<0):=by omega
 simp[execOp,ho,hA.val hx,hA.val hy,iT,binOp,Op.shift,hb]
theorem Fm{o:Oper}{t b off n c e sz by_ by' m:Nat}{x ix:Operand}{k:IntKind}{z z':Option Value}{uk:UK}(ho:o.op=.indexAddr t x ix)(hx:val E x=some (.slice (some ⟨b,off,none⟩) n c))
 (hi:val E ix=some (.int k (m:Int))) (ht:tab t=some ⟨.slice e,sz,by_,z⟩) (he:tab e=some ⟨uk,1,by',z'⟩) (hm:m<n):gz X o E H (.pointer (some ⟨b,off+m,none⟩)):=by
 have:=lC (X:=X) (H:=H) ho hx hi ht he hm
 simpa using this
theorem bR{o:Oper}{t b off n c e sz by_ by' m:Nat}{x ix:Operand}{k:IntKind}{z z':Option Value}{uk:UK}(h:(o.op,val E x,val E ix,tab t,tab e)=(.indexAddr t x ix,some (.slice (some ⟨b,off,none⟩) n c),some (.int k (m:Int)),some ⟨.slice e,sz,by_,z⟩,some ⟨uk,1,by',z'⟩))(hm:m<n):gz X o E H (.pointer (some ⟨b,off+m,none⟩)):=by
 simp only[Hq] at h;exact Fm h.1 h.2.1 h.2.2.1 h.2.2.2.1 h.2.2.2.2 hm
theorem oy{o:Oper}{t b n c e sz by_ by' m:Nat}{x ix:Operand}{k:IntKind}{z z':Option Value}{uk:UK}(ho:o.op=.indexAddr t x ix)(hx:val E x=some (.slice (some ⟨b,0,none⟩) n c))
 (hi:val E ix=some (.int k (m:Int))) (ht:tab t=some ⟨.slice e,sz,by_,z⟩) (he:tab e=some ⟨uk,1,by',z'⟩) (hm:m<n):gz X o E H (.pointer (some ⟨b,m,none⟩)):=by
 have:=lC (X:=X) (H:=H) ho hx hi ht he hm
 simpa using this
theorem aG{o:Oper}{t b n c e sz by_ by' m:Nat}{x ix:Operand}{k:IntKind}{z z':Option Value}{uk:UK}(h:(o.op,val E x,val E ix,tab t,tab e)=(.indexAddr t x ix,some (.slice (some ⟨b,0,none⟩) n c),some (.int k (m:Int)),some ⟨.slice e,sz,by_,z⟩,some ⟨uk,1,by',z'⟩))(hm:m<n):gz X o E H (.pointer (some ⟨b,m,none⟩)):=by
 simp only[Hq] at h;exact oy h.1 h.2.1 h.2.2.1 h.2.2.2.1 h.2.2.2.2 hm
theorem F3{o:Oper}{t b off n c e sz by_ by' s m:Nat}{x ix:Operand}{k:IntKind}{z z':Option Value}{uk:UK}(ho:o.op=.indexAddr t x ix)(hx:val E x=some (.slice (some ⟨b,off,none⟩) n c))
 (hi:val E ix=some (.int k (m:Int))) (ht:tab t=some ⟨.slice e,sz,by_,z⟩) (he:tab e=some ⟨uk,s,by',z'⟩) (hm:m<n):gz X o E H (.pointer (some ⟨b,off+m*s,none⟩)):=
 lC (X:=X) (H:=H) ho hx hi ht he hm
theorem e6{o:Oper}{t b off n c e sz by_ by' s m:Nat}{x ix:Operand}{k:IntKind}{z z':Option Value}{uk:UK}(h:(o.op,val E x,val E ix,tab t,tab e)=(.indexAddr t x ix,some (.slice (some ⟨b,off,none⟩) n c),some (.int k (m:Int)),some ⟨.slice e,sz,by_,z⟩,some ⟨uk,s,by',z'⟩))(hm:m<n):gz X o E H (.pointer (some ⟨b,off+m*s,none⟩)):=by
 simp only[Hq] at h;exact F3 h.1 h.2.1 h.2.2.1 h.2.2.2.1 h.2.2.2.2 hm
theorem FD{o:Oper}{t b n c e sz by_ by' s m:Nat}{x ix:Operand}{k:IntKind}{z z':Option Value}{uk:UK}(ho:o.op=.indexAddr t x ix)(hx:val E x=some (.slice (some ⟨b,0,none⟩) n c))
 (hi:val E ix=some (.int k (m:Int))) (ht:tab t=some ⟨.slice e,sz,by_,z⟩) (he:tab e=some ⟨uk,s,by',z'⟩) (hm:m<n):gz X o E H (.pointer (some ⟨b,m*s,none⟩)):=by
 have:=lC (X:=X) (H:=H) ho hx hi ht he hm
 simpa using this
theorem aN{o:Oper}{t b n c e sz by_ by' s m:Nat}{x ix:Operand}{k:IntKind}{z z':Option Value}{uk:UK}(h:(o.op,val E x,val E ix,tab t,tab e)=(.indexAddr t x ix,some (.slice (some ⟨b,0,none⟩) n c),some (.int k (m:Int)),some ⟨.slice e,sz,by_,z⟩,some ⟨uk,s,by',z'⟩))(hm:m<n):gz X o E H (.pointer (some ⟨b,m*s,none⟩)):=by
 simp only[Hq] at h;exact FD h.1 h.2.1 h.2.2.1 h.2.2.2.1 h.2.2.2.2 hm
theorem fm{o:Oper}{t b off p i:Nat}{x:Operand}{vs:LV_}{v:Value}(k:Nat)(ho:o.op=.load t x)(hx:val E x=some (.pointer (some ⟨b,p,none⟩)))
 (hk:H[k]?=some (.seg b off vs)) (hp:p=off+i) (hv:eH t vs i=some v):gz X o E H v:=Cv k ho (by rw[hx,hp]) hk hv
theorem a8{o:Oper}{t b off p i:Nat}{x:Operand}{vs:LV_}{v:Value}(k:Nat)(h:(o.op,val E x,H[k]?)=(.load t x,some (.pointer (some ⟨b,p,none⟩)),some (.seg b off vs)))(hp:p=off+i)(hv:eH t vs i=some v):gz X o E H v:=by
 simp only[Hq] at h;exact fm k h.1 h.2.1 h.2.2 hp hv
theorem az{c:Code}{K:Heap}(l:LN)(hl:l.Nodup)(hK:bU H l=some K)(h:J X c Q E K):J X c Q E H:=λ a w hA hH=>h a w hA (hH.picks l hl hK)
theorem cv{n:Int}(h:-9223372036854775808<=n/\n<=9223372036854775807):IntKind.i64.wrap n=n:=by rw[IntKind.wrap_i64];omega
end Go.Proofs.YtmcnpaelaieniaaGreatDoor
