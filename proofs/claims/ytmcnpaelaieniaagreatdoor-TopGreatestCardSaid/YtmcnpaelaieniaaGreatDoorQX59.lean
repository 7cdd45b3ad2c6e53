import Derived.Test.YtmcnpaelaieniaaGreatDoorQX92
import Derived.Test.YtmcnpaelaieniaaGreatDoorQX101
import Derived.Test.YtmcnpaelaieniaaGreatDoorQB
/- A part of the proof; see NOTES.md. -/
set_option linter.unusedVariables false
set_option linter.unusedSimpArgs false
namespace Go.Proofs.YtmcnpaelaieniaaGreatDoor
open Go.RowKit
def rk(N:aU)(v:Int)(i:Nat):Bool:=match N.arcs[i]? with|some a=>decide (a.fr=v)|none=>false
def fx(N:aU)(v:Int):LN:=(List.range N.arcs.length).filter (rk N v)
theorem CI(N:aU)(l:LI)(v:Int):Cr N l v=(fx N v).find? λ e=>fL (l.getD e 0):=by
 unfold Cr fx;rw[List.find?_filter]
 congr 1
 funext i
 unfold sY rk fL
 cases N.arcs[i]? with
 |none=>rfl
 |some a=>by_cases h1:a.fr=v<;>by_cases h2:0<l.getD i 0<;>simp[h1]
theorem zV{N:aU}{v:Int}{e:Nat}(h:e∈fx N v):e<N.arcs.length:=Hm.1 (Ia.1 h).1
theorem yr(N:aU)(v:Int):(fx N v).length<=N.arcs.length:=by
 have:=HI (rk N v) (List.range N.arcs.length);rw[HM] at this;exact this
theorem uy{α:Type}{p:α->Bool}{e:α}:∀ {D:List α},D.find? p=some e->D[D.findIdx p]?=some e/\D.findIdx p<D.length
 |[],h=>by simp at h
 |x::D,h=>by
  by_cases hp:p x=true
  ·rw[List.find?_cons_of_pos hp] at h;rw[List.findIdx_cons,hp];exact⟨h,by simp⟩
  ·have hp':p x=false:=by simpa using hp
   rw[List.find?_cons_of_neg hp] at h;rw[List.findIdx_cons,hp'];obtain⟨h1,h2⟩:=uy h;exact⟨by simpa using h1,by simpa using h2⟩
structure tJ (N:aU) (left:LI) (n:Nat) (pos:LN):Prop where
 len:pos.length=n+1
 used:∀ (v q:Nat),pos[v]?=some q->q<=(fx N (v:Int)).length/\∀ j e,j<q->(fx N (v:Int))[j]?=some e->fL (left.getD e 0)=false
theorem tJ.next{N:aU}{left:LI}{n:Nat}{pos:LN}(h:tJ N left n pos){v q e:Nat}(hq:pos[v]?=some q)(he:Cr N left (v:Int)=some e):∃ k,k=((fx N (v:Int)).drop q).findIdx (λ e=>fL (left.getD e 0))/\q+k<(fx N (v:Int)).length/\(fx N (v:Int))[q+k]?=some e/\tJ N left n (pos.set v (q+k)):=by
 obtain⟨hql,hus⟩:=h.used v q hq;rw[CI] at he
 have hd:((fx N (v:Int)).drop q).find? (λ e=>fL (left.getD e 0))=some e:=by
  have e1:fx N (v:Int)=(fx N (v:Int)).take q++(fx N (v:Int)).drop q:=(Hs q _).symm;rw[e1,List.find?_append] at he
  have h0:((fx N (v:Int)).take q).find? (λ e=>fL (left.getD e 0))=none:=List.find?_eq_none.2 λ x hx=>by
   obtain⟨j,hj⟩:=HA.1 hx;have hjq:j<q:=by have:=(Gv.1 hj).1;rw[GV] at this;omega
   rw[List.getElem?_take,if_pos hjq] at hj;rw[hus j x hjq hj];simp
  rw[h0] at he
  simpa using he
 obtain⟨h1,h2⟩:=uy hd;rw[Hu] at h1;rw[Ht] at h2;refine⟨_,rfl,by omega,h1,by rw[Ha];exact h.len,λ u p hp=>?_⟩;by_cases hu:v=u
 ·subst hu;rw[List.getElem?_set_self (List.getElem?_eq_some_iff.1 hq).1] at hp;obtain rfl:=Option.some.inj hp;refine⟨by omega,fun j x hj hx=>?_⟩;by_cases hjq:j<q
  ·exact hus j x hjq hx
  ·have h3:j-q<((fx N (v:Int)).drop q).findIdx (fun e=>fL (left.getD e 0)):=by omega
   have:=II h3;have hlt:=(Gv.1 hx).1;simp only[List.getElem_drop] at this;have e2:q+(j-q)=j:=by omega
   simp only[e2] at this;rw[(Gv.1 hx).2] at this
   simpa using this
 ·rw[GJ hu] at hp;exact h.used u p hp
theorem oY.adv{rows:List d9}{gv:Nat->Nat}{pos:LN}{vals:LV_}(h:oY rows gv pos vals){v q c':Nat}{row:d9}{A':OA}(hr:rows[v]?=some row)(hp:pos[v]?=some q)(hc:row.l.length-q<=c')(hA:q<row.l.length->A'=some ⟨gv v,q,none⟩)(k:Nat)(hk:q+k<row.l.length):
 oY rows gv (pos.set v (q+k)) (vals.set v (.slice (gj A' c' k 1) (row.l.length-q-k) (c'-k))):=by
 have hvl:v<vals.length:=by rw[h.len];exact (Gv.1 hr).1
 refine⟨by rw[Ha];exact h.len,λ u ro p hu hpu=>?_⟩;by_cases e:v=u
 ·subst e;rw[hr] at hu;obtain rfl:=G0 hu;rw[GH (Gv.1 hp).1] at hpu;obtain rfl:=G0 hpu;refine⟨_,c'-k,by rw[GH hvl,Nat.sub_sub],by omega,λ hlt=>?_⟩;have:=fT (A:=A') (c:=c') (l:=k) (n:=row.l.length-q) (sz:=1) (b:=gv v) (o:=q) (λ _=>hA (by omega)) hc (by omega);rw[this,G8]
 ·rw[GJ e] at hpu ⊢;exact h.at_ u ro p hu hpu
theorem Ci(D:LN)(left:LI):(D.map λ (i:Nat)=>(i:Int)).findIdx (zb left)=D.findIdx λ e=>fL (left.getD e 0):=by
 rw[List.findIdx_map];rfl
set_option maxHeartbeats 2000000 in
theorem AK(N:aU)(hR:N.Right)(A:OA)(c:Nat)(left:LI)(hll:left.length=N.arcs.length)(cl bl:Nat)(val:Int)(go n:Nat)(at_:Int)(pw:Nat)(rows:List d9)(hrows:rows.length=n+1)(hL:∀ (v:Nat) (row:d9),rows[v]?=some row->row.l=(fx N (v:Int)).map λ (i:Nat)=>(i:Int))
 (gv:Nat->Nat) (hgv:∀ (v:Nat) (row:d9),rows[v]?=some row->ax row.l≠[]->row.A=some ⟨gv v,0,none⟩) (pos:LN) (vals:LV_) (hV:oY rows gv pos vals) (hD:tJ N left n pos) (v e:Nat) (hv:v<=n) (he:Cr N left (v:Int)=some e):
 Fn 201 [.pointer (some ⟨pw,0,none⟩),.int .i64 (v:Int)] (aL ([blk pw 256 (lU N A c (some ⟨bl,0,none⟩) left.length cl val (some ⟨go,0,none⟩) (n+1) (n+1) at_),.own (.slice (some ⟨go,0,none⟩) (n+1) (n+1)) 23 1 (n+1) vals]++rows.map (aZ 3)))
  ([.seg bl 0 (ax left)]++([blk pw 256 (lU N A c (some ⟨bl,0,none⟩) left.length cl val (some ⟨go,0,none⟩) (n+1) (n+1) at_),.own (.slice (some ⟨go,0,none⟩) (n+1) (n+1)) 23 1 (n+1) vals]++rows.map (aZ 3)))
  λ u H'=>∃ (pos':LN) (vals':LV_),oY rows gv pos' vals'/\tJ N left n pos'/\u=.int .i64 (e:Int)/\H'=[blk pw 256 (lU N A c (some ⟨bl,0,none⟩) left.length cl val (some ⟨go,0,none⟩) (n+1) (n+1) at_),.own (.slice (some ⟨go,0,none⟩) (n+1) (n+1)) 23 1 (n+1) vals']++rows.map (aZ 3):=by
 have hl2:=hR.len;obtain⟨row,hrow⟩:∃ row,rows[v]?=some row:=⟨rows[v]'(by omega),Gq (by omega)⟩;obtain⟨q,hq⟩:∃ q,pos[v]?=some q:=⟨pos[v]'(by have:=hD.len;omega),Gq (by have:=hD.len;omega)⟩;obtain⟨A',c',hval,hcc,hAv⟩:=hV.at_ v row q hrow hq;have hrl:=hL v row hrow;have hrll:row.l.length=(fx N (v:Int)).length:=by rw[hrl,GA]
 have hol:=yr N (v:Int);obtain⟨k,hk,hklt,hke,hD2⟩:=hD.next hq he;have hqlt:q<row.l.length:=by omega
 have hA1:=hAv hqlt
 have hrowne:ax row.l≠[]:=by
  intro h0;have:row.l.length=0:=by rw[<- bK,h0];rfl
  omega
 have hrA:=hgv v row hrow hrowne;have hV2:=hV.adv hrow hq hcc hAv k (by omega);have hidx:(row.l.drop q).findIdx (zb left)=k:=by rw[hrl,<- List.map_drop,Ci,<- hk]
 generalize hM:aL _=M
 refine aJ Tryz.func201 rfl rfl λ w0=>?_;refine ad (aa ?_);refine bx (cs:=[.pointer (some ⟨pw,0,none⟩)]) rfl rfl rfl (λ _=>rfl) λ qb=>?_;refine ae [] rfl ?_;show J _ _ _ _ ([_,_,_,_]++rows.map (aZ 3));refine ad ?_;refine bu 23 (cZ [0,1,2,3,4,5,6,7,8,9,10,11,12,13,14,15,16,17,18,19]++[(20,false)]++cZ [21,22]) [0,1,2,3] (by kernel_rfl) (by decide) rfl ?_
 have TP:=yL A' c' (gv v) q (row.l.drop q) (λ _=>hA1) (by rw[Ht];omega) N A c cl val (some ⟨go,0,none⟩) (n+1) (n+1) at_ left bl qb pw (λ x hx=>by
  have:=IU hx;rw[hrl] at this;obtain⟨i,hi,rfl⟩:=GR.1 this;have:=zV hi;omega)
 rw[hidx,Ht,lB] at TP;refine aB [] rfl ?_;refine aj [] (v:=.pointer (some ⟨pw,0,none⟩)) rfl (af 0 rfl) rfl ?_;refine aB [] rfl ?_;refine aj [] (v:=.slice (some ⟨go,0,none⟩) (n+1) (n+1)) rfl (af 2 rfl) rfl ?_;refine aB [] rfl ?_;refine aj [] (v:=.pointer (some ⟨pw,0,none⟩)) rfl (af 0 rfl) rfl ?_;refine aB [] rfl ?_;refine aj [] (v:=.slice (some ⟨go,0,none⟩) (n+1) (n+1)) rfl (af 2 rfl) rfl ?_;refine aB [] rfl ?_;refine aj [] rfl (aG rfl (show v<n+1 by omega)) rfl ?_;refine aj [] rfl (aD (v:=.slice A' (row.l.length-q) c') 3 rfl rfl rfl hval) rfl ?_;refine aB [] rfl ?_;refine aj [] (v:=.pointer (some ⟨pw,0,none⟩)) rfl (af 0 rfl) rfl ?_;refine aB [] rfl ?_;refine aj [] (v:=.slice (some ⟨go,0,none⟩) (n+1) (n+1)) rfl (af 2 rfl) rfl ?_;refine aB [] rfl ?_;refine aj [] rfl (aG rfl (show v<n+1 by omega)) rfl ?_;refine aj [] rfl (aD (v:=.slice A' (row.l.length-q) c') 3 rfl rfl rfl hval) rfl ?_;refine aB [] rfl ?_;refine bg rfl ?_
 refine b9 (fst:=[]) (cap:=[]) [] TP rfl rfl rfl rfl (by kernel_rfl) ⟨⟨0,_,by simp,rfl,aF _ _ _ (0,0),.inr rfl⟩,⟨2,_,by simp,rfl,aF _ _ _ (0,0),.inr rfl⟩,⟨1,_,by simp,rfl,ak _ _ _,av⟩,⟨v+4,aZ 3 row,by simp,(show (rows.map (aZ 3))[v]?=_ by rw[List.getElem?_map,hrow];rfl),
  (by have:=ep (aE (e:=3) (sz:=1) (n:=row.l.length) (cap:=row.c) (λ _=>hrA:ax row.l≠[]->row.A=some ⟨gv v,0,none⟩)) q;rw[GZ] at this;exact this),.inr (by unfold aZ cz;rw[hrA];rfl)⟩,an⟩ (λ _=>rfl) ?_
 rintro u H' ⟨rfl,rfl⟩;refine⟨rfl,?_⟩;refine ai ⟨⟨[0,1,2,3],by decide,rfl⟩,?_⟩;refine aj [] rfl (dE (i:=k) rfl rfl rfl rfl rfl (by omega)) rfl ?_;refine aj [] rfl (aG rfl (show v<n+1 by omega)) rfl ?_;refine bq ?_;refine aO 3 rfl rfl rfl rfl (df rfl rfl rfl (by rw[hV.len];omega)) [] rfl ?_;refine ai ?_;show J _ _ _ _ ([_,_,_,_]++rows.map (aZ 3))
 have hcut:gj A' c' k 1=some ⟨gv v,q+k,none⟩:=by
  have:=fT (A:=A') (c:=c') (l:=k) (n:=row.l.length-q) (sz:=1) (b:=gv v) (o:=q) (λ _=>hA1) hcc (by omega);rw[this,G8]
 have hval2:(vals.set v (.slice (gj A' c' k 1) (row.l.length-q-k) (c'-k)))[v]?=some (.slice (some ⟨gv v,q+k,none⟩) (row.l.length-q-k) (c'-k)):=by rw[GH (by rw[hV.len];omega),hcut]
 have hey:row.l[q+k]?=some (e:Int):=by rw[hrl,GC,hke];rfl
 refine ad (aa (ah [] rfl ?_));refine ab [] (v:=.pointer (some ⟨pw,0,none⟩)) (af 0 rfl) rfl ?_;refine ah [] rfl ?_;refine ab [] (v:=.slice (some ⟨go,0,none⟩) (n+1) (n+1)) (af 2 rfl) rfl ?_;refine ah [] rfl ?_;refine ab [] (aG rfl (show v<n+1 by omega)) rfl ?_;refine ab [] (aD (v:=.slice (some ⟨gv v,q+k,none⟩) (row.l.length-q-k) (c'-k)) 3 rfl rfl rfl hval2) rfl ?_;refine ab [] (bR (m:=0) rfl (by omega)) rfl ?_
 refine ab [] (dr (b:=gv v) (off:=q+k) (i:=0) (cs:=(ax row.l).drop (q+k)) (v:=.int .i64 (e:Int)) (c:=aZ 3 row) (v+4) rfl rfl (show (rows.map (aZ 3))[v]?=_ by rw[List.getElem?_map,hrow];rfl)
  (by have:=ep (aE (e:=3) (sz:=1) (n:=row.l.length) (cap:=row.c) (λ _=>hrA:ax row.l≠[]->row.A=some ⟨gv v,0,none⟩)) (q+k);rw[GZ] at this;exact this)
  (by show ((ax row.l).drop (q+k))[0]?=_;rw[Hu];exact dx hey)) rfl ?_
 refine ae [] rfl ?_;show J _ _ _ _ ([_,_,_,_]++rows.map (aZ 3));refine bJ (aH.re [2,3] rfl (by decide)) ?_;exact ay ⟨_,rfl,_,_,hV2,hD2,rfl,rfl⟩
structure sJ (N:aU) (l:LI) (to_ s0:Int) (n:Nat) (seen:LI) (arcs:LN) (at_:Int):Prop where
 fuel:N.nodes.toNat+1<=n+seen.length
 shape:seen=arcs.map (lJ N)++[at_]
 nodup:seen.Nodup
 rng:∀ v∈seen,1<=v/\v<=N.nodes
 walk:iz N s0 arcs at_
 room:∀ i∈arcs,∃ r:dI,N.arcs[i]?=some r/\0<l.getD i 0
 goes:∃ i,kE N l at_ i
theorem sJ.few{N:aU}{l:LI}{to_ s0:Int}{n:Nat}{seen:LI}{arcs:LN}{at_:Int}(hR:N.Right)(h:sJ N l to_ s0 n seen arcs at_):seen.length<=N.nodes.toNat/\arcs.length+1=seen.length/\0<n:=by
 have hnn:=hR.nodes
 have:=iK seen ((List.range N.nodes.toNat).map λ (i:Nat)=>(i:Int)+1) h.nodup λ x hx=>by
  have:=h.rng x hx;exact GR.2 ⟨(x-1).toNat,Hm.2 (by omega),by omega⟩
 simp only[GA,HM] at this;have h2:=Gt List.length h.shape;simp only[Gx,GA,Gz,GQ] at h2;have:=h.fuel;omega
theorem sJ.step{N:aU}(hR:N.Right){l:LI}(hr:Ranged N l){to_ s0:Int}(hx:∀ v:Int,1<=v/\v<=N.nodes->v≠to_->cS (N.arcs.zip l) v<=0){n:Nat}{seen:LI}{arcs:LN}{at_:Int}(h:sJ N l to_ s0 (n+1) seen arcs at_):
 ∃ (e:Nat) (a:dI),Cr N l at_=some e/\N.arcs[e]?=some a/\gT N e=a.to/\(a.to≠to_->a.to∉seen->sJ N l to_ s0 n (seen++[a.to]) (arcs++[e]) a.to):=by
 obtain⟨i,hi⟩:=h.goes;obtain⟨e,he⟩:=Cf hi;obtain⟨a,ha,hfr,hp⟩:=uh he;have hto:=qJ ha;have har:=hR.arc a (Gu ha);refine⟨e,a,he,ha,hto,λ h1 h2=>⟨?_,?_,?_,?_,mv ha (by rw[hfr];exact h.walk),?_,D6 hr (hx _ har.2.1 h1) ha rfl hp⟩⟩
 ·have:=h.fuel;rw[Gx];simp only[Gz,GQ];omega
 ·rw[h.shape,GX];simp[iB ha,hfr]
 ·rw[GI];refine⟨h.nodup,by simp,λ x hx y hy=>?_⟩;rw[Gy.1 hy];rintro rfl;exact h2 hx
 ·intro v hv
  rcases GE.1 hv with h|h'
  ·exact sJ.rng ‹_› v h
  ·rw[Gy.1 h'];exact har.2.1
 ·intro i hi
  rcases GE.1 hi with h'|h'
  ·exact h.room i h'
  ·rw[Gy.1 h'];exact⟨a,ha,hp⟩
theorem x8{N:aU}{l:LI}{kd to_:Int}{n:Nat}{seen:LI}{arcs:LN}{at_:Int}{e:Nat}(he:Cr N l at_=some e):oS N l kd to_ (n+1) seen arcs at_=if gT N e=to_ then (kd,arcs++[e]) else if gT N e∈seen then (99,(arcs++[e]).drop (seen.idxOf (gT N e))) else oS N l kd to_ n (seen++[gT N e]) (arcs++[e]) (gT N e):=by
 rw[oS,he]
def FY(w:Wk):Int:=if 0<w.val then 112 else if w.val<0 then 98 else 99
def DZ(N:aU)(w:Wk):Int:=if 0<w.val then N.src else if w.val<0 then N.snk else lJ N (bH w.left)
def Fa(N:aU)(w:Wk):Int:=if 0<w.val then N.snk else if w.val<0 then N.src else 0
theorem EQ(N:aU)(w:Wk):tg N w=oS N w.left (FY w) (Fa N w) (N.nodes.toNat+1) [DZ N w] [] (DZ N w):=by
 unfold tg FY Fa DZ;by_cases h1:0<w.val
 ·simp only[if_pos h1]
 ·by_cases h2:w.val<0
  ·simp only[if_neg h1,if_pos h2]
  ·simp only[if_neg h1,if_neg h2]
theorem z5{N:aU}(hR:N.Right){w:Wk}(h:w.OK N)(hp:bH w.left<w.left.length):sJ N w.left (Fa N w) (DZ N w) (N.nodes.toNat+1) [DZ N w] [] (DZ N w)/\(∀ v:Int,1<=v/\v<=N.nodes->v≠Fa N w->cS (N.arcs.zip w.left) v<=0):=by
 have hr:=h.flow.toRanged;have hsrc:=xd hR h.flow;rw[h.worth] at hsrc;have h1:=hR.src;have h2:=hR.snk;have hfl:=h.flow.len;have ex0:∀ v:Int,1<=v/\v<=N.nodes->v≠N.src->v≠N.snk->cS (N.arcs.zip w.left) v=0:=h.flow.kept;have exS:=h.worth;have mk:∀ s:Int,1<=s/\s<=N.nodes->(∃ i,kE N w.left s i)->∀ t,sJ N w.left t s (N.nodes.toNat+1) [s] [] s:=λ s hs hb t=>⟨by simp only[Gz,GQ];omega,rfl,by simp,λ v hv=>by rw[Gy.1 hv];exact hs,rfl,λ i hi=>absurd hi GP,hb⟩;unfold Fa DZ;by_cases c1:0<w.val
 ·simp only[if_pos c1]
  exact⟨mk _ h1 (xl hr (by rw[hsrc];omega)) _,λ v hv hne=>by
   by_cases e:v=N.src
   ·rw[e,hsrc];omega
   ·rw[ex0 v hv e hne];omega⟩
 ·by_cases c2:w.val<0
  ·simp only[if_neg c1,if_pos c2]
   exact⟨mk _ h2 (xl hr (by rw[exS];omega)) _,λ v hv hne=>by
    by_cases e:v=N.snk
    ·rw[e,exS];omega
    ·rw[ex0 v hv hne e];omega⟩
  ·simp only[if_neg c1,if_neg c2];have hpg:=qD hp;obtain⟨a,ha⟩:∃ a,N.arcs[bH w.left]?=some a:=⟨_,List.getElem?_eq_getElem (by omega)⟩;have har:=hR.arc a (List.mem_of_getElem? ha);have hfa:=iB ha;refine⟨mk _ (by rw[hfa];exact har.1) ⟨bH w.left,a,ha,hfa.symm,hpg⟩ _,fun v hv _=>?_⟩;by_cases e1:v=N.src
   ·rw[e1,hsrc];omega
   ·by_cases e2:v=N.snk
    ·rw[e2,exS];omega
    ·rw[ex0 v hv e1 e2];omega
theorem rt(l:LI):one (ax l)=true:=by
 induction l with
 |nil=>rfl
 |cons x l ih=>exact ih
theorem om(A:OA)(c b o:Nat)(l:LI)(hA:l≠[]->A=some ⟨b,o,none⟩)(hl:l.length<=100000):
 Fn 99 [.slice A l.length c] [] [.seg b o (ax l)] λ v H'=>∃ (A':OA) (c':Nat),v=.slice A' l.length c'/\H'=[.own (.slice A' l.length c') 3 1 l.length (ax l)]:=by
 refine aJ Tryz.func99 rfl rfl λ w0=>?_;refine ad (aa (ae [] rfl ?_));refine ad (ad (aa (ah [] rfl ?_)));refine ab [] (og rfl rfl rfl rfl) rfl ?_;refine ai ?_
 cases A with
 |none=>
  have h0:l=[]:=Hg λ h=>by have:=hA h;simp at this
  subst h0;refine bi rfl ?_;refine ad (aa (ae [] rfl ?_));refine cd 3 1 ?_;exact az [0] (by decide) rfl (ay ⟨_,rfl,none,0,rfl,rfl⟩)
 |some a=>
  refine bG rfl (aq ?_);refine ad (aa ?_);refine bF rfl rfl rfl rfl rfl rfl rfl (λ _=>rfl) λ g=>?_;refine fb 1 0 rfl (by decide) ?_;refine ah [] rfl ?_;refine bv (n:=0) (m:=l.length) (off:=o) (b:=b) (news:=ax l) 0 1 rfl rfl rfl rfl rfl rfl (by decide) rfl rfl (ak _ _ _) (λ h=>hA (λ e=>h (by rw[e];rfl))) (by rw[bK];omega) (rt l) (by omega) (by omega) (λ _ _=>rfl) λ A2 c2=>?_;rw[GZ];refine ae [] rfl ?_;exact az [0] (by decide) rfl (ay ⟨_,rfl,A2,c2,rfl,rfl⟩)
theorem fB(A:OA)(c b o:Nat)(l:LI)(hA:l≠[]->A=some ⟨b,o,none⟩)(hl:l.length<=100000):
 Fn 76 [.slice A l.length c] [] [.seg b o (ax l)] λ v H'=>∃ (A':OA) (c':Nat),v=.slice A' l.length c'/\H'=[.own (.slice A' l.length c') 2 1 l.length (ax l)]:=by
 refine aJ Tryz.func76 rfl rfl λ w0=>?_;refine ad (aa (ae [] rfl ?_));refine ad (ad (aa (ah [] rfl ?_)));refine ab [] (og rfl rfl rfl rfl) rfl ?_;refine ai ?_
 cases A with
 |none=>
  have h0:l=[]:=Hg λ h=>by have:=hA h;simp at this
  subst h0;refine bi rfl ?_;refine ad (aa (ae [] rfl ?_));refine cd 2 1 ?_;exact az [0] (by decide) rfl (ay ⟨_,rfl,none,0,rfl,rfl⟩)
 |some a=>
  refine bG rfl (aq ?_);refine ad (aa ?_);refine bF rfl rfl rfl rfl rfl rfl rfl (λ _=>rfl) λ g=>?_;refine fb 1 0 rfl (by decide) ?_;refine ah [] rfl ?_;refine bv (n:=0) (m:=l.length) (off:=o) (b:=b) (news:=ax l) 0 1 rfl rfl rfl rfl rfl rfl (by decide) rfl rfl (ak _ _ _) (λ h=>hA (λ e=>h (by rw[e];rfl))) (by rw[bK];omega) (rt l) (by omega) (by omega) (λ _ _=>rfl) λ A2 c2=>?_;rw[GZ];refine ae [] rfl ?_;exact az [0] (by decide) rfl (ay ⟨_,rfl,A2,c2,rfl,rfl⟩)
end Go.Proofs.YtmcnpaelaieniaaGreatDoor
