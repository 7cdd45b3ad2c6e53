import Derived.Test.YtmcnpaelaieniaaGreatDoorQX94
import Derived.Test.YtmcnpaelaieniaaGreatDoorQX103
import Derived.Test.YtmcnpaelaieniaaGreatDoorQB
/- A part of the proof; see NOTES.md. -/
set_option linter.unusedVariables false
set_option linter.unusedSimpArgs false
namespace Go.Proofs.YtmcnpaelaieniaaGreatDoor
open Go.RowKit
def rF(N:aO)(v:Int)(i:Nat):Bool:=match N.arcs[i]? with|some a=>decide (a.fr=v)|none=>false
def fv(N:aO)(v:Int):LN:=(List.range N.arcs.length).filter (rF N v)
theorem CJ(N:aO)(l:LI)(v:Int):Ct N l v=(fv N v).find? λ e=>fS (l.getD e 0):=by
 unfold Ct fv;rw[List.find?_filter]
 congr 1
 funext i
 unfold rV rF fS
 cases N.arcs[i]? with
 |none=>rfl
 |some a=>by_cases h1:a.fr=v<;>by_cases h2:0<l.getD i 0<;>simp[h1]
theorem z3{N:aO}{v:Int}{e:Nat}(h:e∈fv N v):e<N.arcs.length:=Hs.1 (Ig.1 h).1
theorem xS(N:aO)(v:Int):(fv N v).length<=N.arcs.length:=by
 have:=HN (rF N v) (List.range N.arcs.length);rw[HH] at this;exact this
theorem ud{α:Type}{p:α->Bool}{e:α}:∀ {D:List α},D.find? p=some e->D[D.findIdx p]?=some e/\D.findIdx p<D.length
 |[],h=>by simp at h
 |x::D,h=>by
  by_cases hp:p x=true
  ·rw[List.find?_cons_of_pos hp] at h;rw[List.findIdx_cons,hp];exact⟨h,by simp⟩
  ·have hp':p x=false:=by simpa using hp
   rw[List.find?_cons_of_neg hp] at h;rw[List.findIdx_cons,hp'];obtain⟨h1,h2⟩:=ud h;exact⟨by simpa using h1,by simpa using h2⟩
structure ux (N:aO) (left:LI) (n:Nat) (pos:LN):Prop where
 len:pos.length=n+1
 used:∀ (v q:Nat),pos[v]?=some q->q<=(fv N (v:Int)).length/\∀ j e,j<q->(fv N (v:Int))[j]?=some e->fS (left.getD e 0)=false
theorem ux.next{N:aO}{left:LI}{n:Nat}{pos:LN}(h:ux N left n pos){v q e:Nat}(hq:pos[v]?=some q)(he:Ct N left (v:Int)=some e):∃ k,k=((fv N (v:Int)).drop q).findIdx (λ e=>fS (left.getD e 0))/\q+k<(fv N (v:Int)).length/\(fv N (v:Int))[q+k]?=some e/\ux N left n (pos.set v (q+k)):=by
 obtain⟨hql,hus⟩:=h.used v q hq;rw[CJ] at he
 have hd:((fv N (v:Int)).drop q).find? (λ e=>fS (left.getD e 0))=some e:=by
  have e1:fv N (v:Int)=(fv N (v:Int)).take q++(fv N (v:Int)).drop q:=(HD q _).symm;rw[e1,List.find?_append] at he
  have h0:((fv N (v:Int)).take q).find? (λ e=>fS (left.getD e 0))=none:=List.find?_eq_none.2 λ x hx=>by
   obtain⟨j,hj⟩:=HJ.1 hx;have hjq:j<q:=by have:=(GC.1 hj).1;rw[G2] at this;omega
   rw[List.getElem?_take,if_pos hjq] at hj;rw[hus j x hjq hj];simp
  rw[h0] at he
  simpa using he
 obtain⟨h1,h2⟩:=ud hd;rw[HI] at h1;rw[HG] at h2;refine⟨_,rfl,by omega,h1,by rw[Hp];exact h.len,λ u p hp=>?_⟩;by_cases hu:v=u
 ·subst hu;rw[List.getElem?_set_self (List.getElem?_eq_some_iff.1 hq).1] at hp;obtain rfl:=Option.some.inj hp;refine⟨by omega,fun j x hj hx=>?_⟩;by_cases hjq:j<q
  ·exact hus j x hjq hx
  ·have h3:j-q<((fv N (v:Int)).drop q).findIdx (fun e=>fS (left.getD e 0)):=by omega
   have:=IP h3;have hlt:=(GC.1 hx).1;simp only[List.getElem_drop] at this;have e2:q+(j-q)=j:=by omega
   simp only[e2] at this;rw[(GC.1 hx).2] at this
   simpa using this
 ·rw[GR hu] at hp;exact h.used u p hp
theorem oY.adv{rows:List ec}{gv:Nat->Nat}{pos:LN}{vals:LV_}(h:oY rows gv pos vals){v q c':Nat}{row:ec}{A':OA}(hr:rows[v]?=some row)(hp:pos[v]?=some q)(hc:row.l.length-q<=c')(hA:q<row.l.length->A'=some ⟨gv v,q,none⟩)(k:Nat)(hk:q+k<row.l.length):
 oY rows gv (pos.set v (q+k)) (vals.set v (.slice (gb A' c' k 1) (row.l.length-q-k) (c'-k))):=by
 have hvl:v<vals.length:=by rw[h.len];exact (GC.1 hr).1
 refine⟨by rw[Hp];exact h.len,λ u ro p hu hpu=>?_⟩;by_cases e:v=u
 ·subst e;rw[hr] at hu;obtain rfl:=G4 hu;rw[GO (GC.1 hp).1] at hpu;obtain rfl:=G4 hpu;refine⟨_,c'-k,by rw[GO hvl,Nat.sub_sub],by omega,λ hlt=>?_⟩;have:=fO (A:=A') (c:=c') (l:=k) (n:=row.l.length-q) (sz:=1) (b:=gv v) (o:=q) (λ _=>hA (by omega)) hc (by omega);rw[this,Hf]
 ·rw[GR e] at hpu ⊢;exact h.at_ u ro p hu hpu
theorem z8(D:LN)(left:LI):(D.map λ (i:Nat)=>(i:Int)).findIdx (yU left)=D.findIdx λ e=>fS (left.getD e 0):=by
 rw[List.findIdx_map];rfl
set_option maxHeartbeats 2000000 in
theorem B9(N:aO)(hR:N.Right)(A:OA)(c:Nat)(left:LI)(hll:left.length=N.arcs.length)(cl bl:Nat)(val:Int)(go n:Nat)(at_:Int)(pw:Nat)(rows:List ec)(hrows:rows.length=n+1)(hL:∀ (v:Nat) (row:ec),rows[v]?=some row->row.l=(fv N (v:Int)).map λ (i:Nat)=>(i:Int))
 (gv:Nat->Nat) (hgv:∀ (v:Nat) (row:ec),rows[v]?=some row->ay row.l≠[]->row.A=some ⟨gv v,0,none⟩) (pos:LN) (vals:LV_) (hV:oY rows gv pos vals) (hD:ux N left n pos) (v e:Nat) (hv:v<=n) (he:Ct N left (v:Int)=some e):
 Fn 201 [.pointer (some ⟨pw,0,none⟩),.int .i64 (v:Int)] (aJ ([blk pw 256 (lH N A c (some ⟨bl,0,none⟩) left.length cl val (some ⟨go,0,none⟩) (n+1) (n+1) at_),.own (.slice (some ⟨go,0,none⟩) (n+1) (n+1)) 23 1 (n+1) vals]++rows.map (aV 3)))
  ([.seg bl 0 (ay left)]++([blk pw 256 (lH N A c (some ⟨bl,0,none⟩) left.length cl val (some ⟨go,0,none⟩) (n+1) (n+1) at_),.own (.slice (some ⟨go,0,none⟩) (n+1) (n+1)) 23 1 (n+1) vals]++rows.map (aV 3)))
  λ u H'=>∃ (pos':LN) (vals':LV_),oY rows gv pos' vals'/\ux N left n pos'/\u=.int .i64 (e:Int)/\H'=[blk pw 256 (lH N A c (some ⟨bl,0,none⟩) left.length cl val (some ⟨go,0,none⟩) (n+1) (n+1) at_),.own (.slice (some ⟨go,0,none⟩) (n+1) (n+1)) 23 1 (n+1) vals']++rows.map (aV 3):=by
 have hl2:=hR.len;obtain⟨row,hrow⟩:∃ row,rows[v]?=some row:=⟨rows[v]'(by omega),Gy (by omega)⟩;obtain⟨q,hq⟩:∃ q,pos[v]?=some q:=⟨pos[v]'(by have:=hD.len;omega),Gy (by have:=hD.len;omega)⟩;obtain⟨A',c',hval,hcc,hAv⟩:=hV.at_ v row q hrow hq;have hrl:=hL v row hrow;have hrll:row.l.length=(fv N (v:Int)).length:=by rw[hrl,GH]
 have hol:=xS N (v:Int);obtain⟨k,hk,hklt,hke,hD2⟩:=hD.next hq he;have hqlt:q<row.l.length:=by omega
 have hA1:=hAv hqlt
 have hrowne:ay row.l≠[]:=by
  intro h0;have:row.l.length=0:=by rw[<- bI,h0];rfl
  omega
 have hrA:=hgv v row hrow hrowne;have hV2:=hV.adv hrow hq hcc hAv k (by omega);have hidx:(row.l.drop q).findIdx (yU left)=k:=by rw[hrl,<- List.map_drop,z8,<- hk]
 generalize hM:aJ _=M
 refine aH Tryz.func201 rfl rfl λ w0=>?_;refine ad (aa ?_);refine bz (cs:=[.pointer (some ⟨pw,0,none⟩)]) rfl rfl rfl (λ _=>rfl) λ qb=>?_;refine ae [] rfl ?_;show J _ _ _ _ ([_,_,_,_]++rows.map (aV 3));refine ad ?_;refine bq 23 (cY [0,1,2,3,4,5,6,7,8,9,10,11,12,13,14,15,16,17,18,19]++[(20,false)]++cY [21,22]) [0,1,2,3] (by kernel_rfl) (by decide) rfl ?_
 have TP:=xW A' c' (gv v) q (row.l.drop q) (λ _=>hA1) (by rw[HG];omega) N A c cl val (some ⟨go,0,none⟩) (n+1) (n+1) at_ left bl qb pw (λ x hx=>by
  have:=List.mem_of_mem_drop hx;rw[hrl] at this;obtain⟨i,hi,rfl⟩:=G0.1 this;have:=z3 hi;omega)
 rw[hidx,HG,lf] at TP;refine az [] rfl ?_;refine aj [] (v:=.pointer (some ⟨pw,0,none⟩)) rfl (af 0 rfl) rfl ?_;refine az [] rfl ?_;refine aj [] (v:=.slice (some ⟨go,0,none⟩) (n+1) (n+1)) rfl (af 2 rfl) rfl ?_;refine az [] rfl ?_;refine aj [] (v:=.pointer (some ⟨pw,0,none⟩)) rfl (af 0 rfl) rfl ?_;refine az [] rfl ?_;refine aj [] (v:=.slice (some ⟨go,0,none⟩) (n+1) (n+1)) rfl (af 2 rfl) rfl ?_;refine az [] rfl ?_;refine aj [] rfl (aG rfl (show v<n+1 by omega)) rfl ?_;refine aj [] rfl (aE (v:=.slice A' (row.l.length-q) c') 3 rfl rfl rfl hval) rfl ?_;refine az [] rfl ?_;refine aj [] (v:=.pointer (some ⟨pw,0,none⟩)) rfl (af 0 rfl) rfl ?_;refine az [] rfl ?_;refine aj [] (v:=.slice (some ⟨go,0,none⟩) (n+1) (n+1)) rfl (af 2 rfl) rfl ?_;refine az [] rfl ?_;refine aj [] rfl (aG rfl (show v<n+1 by omega)) rfl ?_;refine aj [] rfl (aE (v:=.slice A' (row.l.length-q) c') 3 rfl rfl rfl hval) rfl ?_;refine az [] rfl ?_;refine aY rfl ?_
 refine cL (fst:=[]) (cap:=[]) [] TP rfl rfl rfl rfl (by kernel_rfl) ⟨⟨0,_,by simp,rfl,aD _ _ _ (0,0),.inr rfl⟩,⟨2,_,by simp,rfl,aD _ _ _ (0,0),.inr rfl⟩,⟨1,_,by simp,rfl,ak _ _ _,au⟩,⟨v+4,aV 3 row,by simp,(show (rows.map (aV 3))[v]?=_ by rw[List.getElem?_map,hrow];rfl),
  (by have:=ex (aL (e:=3) (sz:=1) (n:=row.l.length) (cap:=row.c) (λ _=>hrA:ay row.l≠[]->row.A=some ⟨gv v,0,none⟩)) q;rw[G6] at this;exact this),.inr (by unfold aV cA;rw[hrA];rfl)⟩,an⟩ (λ _=>rfl) ?_
 rintro u H' ⟨rfl,rfl⟩;refine⟨rfl,?_⟩;refine ai ⟨⟨[0,1,2,3],by decide,rfl⟩,?_⟩;refine aj [] rfl (dJ (i:=k) rfl rfl rfl rfl rfl (by omega)) rfl ?_;refine aj [] rfl (aG rfl (show v<n+1 by omega)) rfl ?_;refine bp ?_;refine aS 3 rfl rfl rfl rfl (dC rfl rfl rfl (by rw[hV.len];omega)) [] rfl ?_;refine ai ?_;show J _ _ _ _ ([_,_,_,_]++rows.map (aV 3))
 have hcut:gb A' c' k 1=some ⟨gv v,q+k,none⟩:=by
  have:=fO (A:=A') (c:=c') (l:=k) (n:=row.l.length-q) (sz:=1) (b:=gv v) (o:=q) (λ _=>hA1) hcc (by omega);rw[this,Hf]
 have hval2:(vals.set v (.slice (gb A' c' k 1) (row.l.length-q-k) (c'-k)))[v]?=some (.slice (some ⟨gv v,q+k,none⟩) (row.l.length-q-k) (c'-k)):=by rw[GO (by rw[hV.len];omega),hcut]
 have hey:row.l[q+k]?=some (e:Int):=by rw[hrl,GJ,hke];rfl
 refine ad (aa (ah [] rfl ?_));refine ab [] (v:=.pointer (some ⟨pw,0,none⟩)) (af 0 rfl) rfl ?_;refine ah [] rfl ?_;refine ab [] (v:=.slice (some ⟨go,0,none⟩) (n+1) (n+1)) (af 2 rfl) rfl ?_;refine ah [] rfl ?_;refine ab [] (aG rfl (show v<n+1 by omega)) rfl ?_;refine ab [] (aE (v:=.slice (some ⟨gv v,q+k,none⟩) (row.l.length-q-k) (c'-k)) 3 rfl rfl rfl hval2) rfl ?_;refine ab [] (bZ (m:=0) rfl (by omega)) rfl ?_
 refine ab [] (dz (b:=gv v) (off:=q+k) (i:=0) (cs:=(ay row.l).drop (q+k)) (v:=.int .i64 (e:Int)) (c:=aV 3 row) (v+4) rfl rfl (show (rows.map (aV 3))[v]?=_ by rw[List.getElem?_map,hrow];rfl)
  (by have:=ex (aL (e:=3) (sz:=1) (n:=row.l.length) (cap:=row.c) (λ _=>hrA:ay row.l≠[]->row.A=some ⟨gv v,0,none⟩)) (q+k);rw[G6] at this;exact this)
  (by show ((ay row.l).drop (q+k))[0]?=_;rw[HI];exact dw hey)) rfl ?_
 refine ae [] rfl ?_;show J _ _ _ _ ([_,_,_,_]++rows.map (aV 3));refine bH (aF.re [2,3] rfl (by decide)) ?_;exact ax ⟨_,rfl,_,_,hV2,hD2,rfl,rfl⟩
structure si (N:aO) (l:LI) (to_ s0:Int) (n:Nat) (seen:LI) (arcs:LN) (at_:Int):Prop where
 fuel:N.nodes.toNat+1<=n+seen.length
 shape:seen=arcs.map (lB N)++[at_]
 nodup:seen.Nodup
 rng:∀ v∈seen,1<=v/\v<=N.nodes
 walk:iu N s0 arcs at_
 room:∀ i∈arcs,∃ r:dM,N.arcs[i]?=some r/\0<l.getD i 0
 goes:∃ i,kC N l at_ i
theorem si.few{N:aO}{l:LI}{to_ s0:Int}{n:Nat}{seen:LI}{arcs:LN}{at_:Int}(hR:N.Right)(h:si N l to_ s0 n seen arcs at_):seen.length<=N.nodes.toNat/\arcs.length+1=seen.length/\0<n:=by
 have hnn:=hR.nodes
 have:=iF seen ((List.range N.nodes.toNat).map λ (i:Nat)=>(i:Int)+1) h.nodup λ x hx=>by
  have:=h.rng x hx;exact G0.2 ⟨(x-1).toNat,Hs.2 (by omega),by omega⟩
 simp only[GH,HH] at this;have h2:=Gz List.length h.shape;simp only[GE,GH,GG,GX] at h2;have:=h.fuel;omega
theorem si.step{N:aO}(hR:N.Right){l:LI}(hr:Ranged N l){to_ s0:Int}(hx:∀ v:Int,1<=v/\v<=N.nodes->v≠to_->da (N.arcs.zip l) v<=0){n:Nat}{seen:LI}{arcs:LN}{at_:Int}(h:si N l to_ s0 (n+1) seen arcs at_):
 ∃ (e:Nat) (a:dM),Ct N l at_=some e/\N.arcs[e]?=some a/\gU N e=a.to/\(a.to≠to_->a.to∉seen->si N l to_ s0 n (seen++[a.to]) (arcs++[e]) a.to):=by
 obtain⟨i,hi⟩:=h.goes;obtain⟨e,he⟩:=Cq hi;obtain⟨a,ha,hfr,hp⟩:=tN he;have hto:=qp ha;have har:=hR.arc a (GB ha);refine⟨e,a,he,ha,hto,λ h1 h2=>⟨?_,?_,?_,?_,lR ha (by rw[hfr];exact h.walk),?_,Ef hr (hx _ har.2.1 h1) ha rfl hp⟩⟩
 ·have:=h.fuel;rw[GE];simp only[GG,GX];omega
 ·rw[h.shape,G5];simp[iJ ha,hfr]
 ·rw[GP];refine⟨h.nodup,by simp,λ x hx y hy=>?_⟩;rw[GF.1 hy];rintro rfl;exact h2 hx
 ·intro v hv
  rcases GK.1 hv with h|h'
  ·exact si.rng ‹_› v h
  ·rw[GF.1 h'];exact har.2.1
 ·intro i hi
  rcases GK.1 hi with h'|h'
  ·exact h.room i h'
  ·rw[GF.1 h'];exact⟨a,ha,hp⟩
theorem zn{N:aO}{l:LI}{kd to_:Int}{n:Nat}{seen:LI}{arcs:LN}{at_:Int}{e:Nat}(he:Ct N l at_=some e):oJ N l kd to_ (n+1) seen arcs at_=if gU N e=to_ then (kd,arcs++[e]) else if gU N e∈seen then (99,(arcs++[e]).drop (seen.idxOf (gU N e))) else oJ N l kd to_ n (seen++[gU N e]) (arcs++[e]) (gU N e):=by
 rw[oJ,he]
def Ga(w:Wk):Int:=if 0<w.val then 112 else if w.val<0 then 98 else 99
def D3(N:aO)(w:Wk):Int:=if 0<w.val then N.src else if w.val<0 then N.snk else lB N (bF w.left)
def Ff(N:aO)(w:Wk):Int:=if 0<w.val then N.snk else if w.val<0 then N.src else 0
theorem Eg(N:aO)(w:Wk):sS N w=oJ N w.left (Ga w) (Ff N w) (N.nodes.toNat+1) [D3 N w] [] (D3 N w):=by
 unfold sS Ga Ff D3;by_cases h1:0<w.val
 ·simp only[if_pos h1]
 ·by_cases h2:w.val<0
  ·simp only[if_neg h1,if_pos h2]
  ·simp only[if_neg h1,if_neg h2]
theorem Aj{N:aO}(hR:N.Right){w:Wk}(h:w.OK N)(hp:bF w.left<w.left.length):si N w.left (Ff N w) (D3 N w) (N.nodes.toNat+1) [D3 N w] [] (D3 N w)/\(∀ v:Int,1<=v/\v<=N.nodes->v≠Ff N w->da (N.arcs.zip w.left) v<=0):=by
 have hr:=h.flow.toRanged;have hsrc:=xA hR h.flow;rw[h.worth] at hsrc;have h1:=hR.src;have h2:=hR.snk;have hfl:=h.flow.len;have ex0:∀ v:Int,1<=v/\v<=N.nodes->v≠N.src->v≠N.snk->da (N.arcs.zip w.left) v=0:=h.flow.kept;have exS:=h.worth;have mk:∀ s:Int,1<=s/\s<=N.nodes->(∃ i,kC N w.left s i)->∀ t,si N w.left t s (N.nodes.toNat+1) [s] [] s:=λ s hs hb t=>⟨by simp only[GG,GX];omega,rfl,by simp,λ v hv=>by rw[GF.1 hv];exact hs,rfl,λ i hi=>absurd hi GV,hb⟩;unfold Ff D3;by_cases c1:0<w.val
 ·simp only[if_pos c1]
  exact⟨mk _ h1 (xD hr (by rw[hsrc];omega)) _,λ v hv hne=>by
   by_cases e:v=N.src
   ·rw[e,hsrc];omega
   ·rw[ex0 v hv e hne];omega⟩
 ·by_cases c2:w.val<0
  ·simp only[if_neg c1,if_pos c2]
   exact⟨mk _ h2 (xD hr (by rw[exS];omega)) _,λ v hv hne=>by
    by_cases e:v=N.snk
    ·rw[e,exS];omega
    ·rw[ex0 v hv hne e];omega⟩
  ·simp only[if_neg c1,if_neg c2];have hpg:=pL hp;obtain⟨a,ha⟩:∃ a,N.arcs[bF w.left]?=some a:=⟨_,List.getElem?_eq_getElem (by omega)⟩;have har:=hR.arc a (List.mem_of_getElem? ha);have hfa:=iJ ha;refine⟨mk _ (by rw[hfa];exact har.1) ⟨bF w.left,a,ha,hfa.symm,hpg⟩ _,fun v hv _=>?_⟩;by_cases e1:v=N.src
   ·rw[e1,hsrc];omega
   ·by_cases e2:v=N.snk
    ·rw[e2,exS];omega
    ·rw[ex0 v hv e1 e2];omega
theorem qT(l:LI):one (ay l)=true:=by
 induction l with
 |nil=>rfl
 |cons x l ih=>exact ih
theorem nR(A:OA)(c b o:Nat)(l:LI)(hA:l≠[]->A=some ⟨b,o,none⟩)(hl:l.length<=100000):
 Fn 99 [.slice A l.length c] [] [.seg b o (ay l)] λ v H'=>∃ (A':OA) (c':Nat),v=.slice A' l.length c'/\H'=[.own (.slice A' l.length c') 3 1 l.length (ay l)]:=by
 refine aH Tryz.func99 rfl rfl λ w0=>?_;refine ad (aa (ae [] rfl ?_));refine ad (ad (aa (ah [] rfl ?_)));refine ab [] (qY rfl rfl rfl rfl) rfl ?_;refine ai ?_
 cases A with
 |none=>
  have h0:l=[]:=Hn λ h=>by have:=hA h;simp at this
  subst h0;refine bh rfl ?_;refine ad (aa (ae [] rfl ?_));refine cd 3 1 ?_;exact aA [0] (by decide) rfl (ax ⟨_,rfl,none,0,rfl,rfl⟩)
 |some a=>
  refine bG rfl (aq ?_);refine ad (aa ?_);refine bC rfl rfl rfl rfl rfl rfl rfl (λ _=>rfl) λ g=>?_;refine fk 1 0 rfl (by decide) ?_;refine ah [] rfl ?_;refine bn (n:=0) (m:=l.length) (off:=o) (b:=b) (news:=ay l) 0 1 rfl rfl rfl rfl rfl rfl (by decide) rfl rfl (ak _ _ _) (λ h=>hA (λ e=>h (by rw[e];rfl))) (by rw[bI];omega) (qT l) (by omega) (by omega) (λ _ _=>rfl) λ A2 c2=>?_;rw[G6];refine ae [] rfl ?_;exact aA [0] (by decide) rfl (ax ⟨_,rfl,A2,c2,rfl,rfl⟩)
theorem fm(A:OA)(c b o:Nat)(l:LI)(hA:l≠[]->A=some ⟨b,o,none⟩)(hl:l.length<=100000):
 Fn 76 [.slice A l.length c] [] [.seg b o (ay l)] λ v H'=>∃ (A':OA) (c':Nat),v=.slice A' l.length c'/\H'=[.own (.slice A' l.length c') 2 1 l.length (ay l)]:=by
 refine aH Tryz.func76 rfl rfl λ w0=>?_;refine ad (aa (ae [] rfl ?_));refine ad (ad (aa (ah [] rfl ?_)));refine ab [] (qY rfl rfl rfl rfl) rfl ?_;refine ai ?_
 cases A with
 |none=>
  have h0:l=[]:=Hn λ h=>by have:=hA h;simp at this
  subst h0;refine bh rfl ?_;refine ad (aa (ae [] rfl ?_));refine cd 2 1 ?_;exact aA [0] (by decide) rfl (ax ⟨_,rfl,none,0,rfl,rfl⟩)
 |some a=>
  refine bG rfl (aq ?_);refine ad (aa ?_);refine bC rfl rfl rfl rfl rfl rfl rfl (λ _=>rfl) λ g=>?_;refine fk 1 0 rfl (by decide) ?_;refine ah [] rfl ?_;refine bn (n:=0) (m:=l.length) (off:=o) (b:=b) (news:=ay l) 0 1 rfl rfl rfl rfl rfl rfl (by decide) rfl rfl (ak _ _ _) (λ h=>hA (λ e=>h (by rw[e];rfl))) (by rw[bI];omega) (qT l) (by omega) (by omega) (λ _ _=>rfl) λ A2 c2=>?_;rw[G6];refine ae [] rfl ?_;exact aA [0] (by decide) rfl (ax ⟨_,rfl,A2,c2,rfl,rfl⟩)
end Go.Proofs.YtmcnpaelaieniaaGreatDoor
