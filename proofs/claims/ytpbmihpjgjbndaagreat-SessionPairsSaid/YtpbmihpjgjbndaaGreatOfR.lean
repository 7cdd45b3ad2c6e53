/- cover.Of: the nodes that meet all edges, of a matching. -/
import Derived.Test.YtpbmihpjgjbndaaGreatQX25
set_option linter.unusedVariables false
set_option linter.unusedSimpArgs false
namespace Go.Proofs.YtpbmihpjgjbndaaGreat
open Go.RowKit
inductive gI (g:Gr) (l:List Int):Nat→Prop
 |free (v:Nat):1≤v→(v:Int)≤g.left→¬ j6 g (·.l) l v→gI g l v
 |step (e a:fJ) (x:Int):gI g l e.l.toNat→e∈g.edges→x∈l→g.edges[x.toNat]?=some a→a.r=e.r→gI g l a.l.toNat
def gP (g:Gr) (l:List Int) (w:Nat):Prop:=∃ e∈g.edges,gI g l e.l.toNat∧e.r=w
def yg (g:Gr) (l:List Int) (v:Value) (H':Heap):Prop:=
 (bC g l∧(∀ w,gP g l w→j6 g (·.r) l w)∧∃ (sl sr:List Int) (Al Ar:Option Addr) (cl cr:Nat),cF g.left sl∧cF g.right sr∧(∀ v:Nat,1≤v→(v:Int)≤g.left→((v:Int)∈sl↔¬ gI g l v))∧(∀ w:Nat,1≤w→(w:Int)≤g.right→((w:Int)∈sr↔gP g l w))∧
  v=.tuple #[lE sl sr Al Ar cl cr,.int .i64 0]∧H'=[.own (.slice Ar sr.length cr) 3 1 sr.length (aw sr),.own (.slice Al sl.length cl) 3 1 sl.length (aw sl)])∨
 (bC g l∧(∃ w,gP g l w∧¬ j6 g (·.r) l w)∧v=.tuple #[lE [] [] none none 0 0,.int .i64 9]∧H'=[])∨
 (¬ bC g l∧v=.tuple #[lE [] [] none none 0 0,.int .i64 1]∧H'=[])
set_option maxHeartbeats 2000000 in
theorem xh (g:Gr) (hg:g.Right) (A:Option Addr) (c b o:Nat) (hA:g.edges≠[]→A=some ⟨b,o,none⟩) (l:List Int) (hl:l.length≤100000) (hin:∀ x∈l,dw x) (L:Option Addr) (cm bm om:Nat) (hL:l≠[]→L=some ⟨bm,om,none⟩):
 Fn 15 [j7 g A c,.slice L l.length cm] [] [.seg b o (cd g.edges),.seg bm om (aw l)] (yg g l):=by
 have h1:=hg.left
 have h2:=hg.right
 have h3:=hg.len
 obtain⟨nl,hnl⟩:∃ n:Nat,g.left=n:=⟨g.left.toNat,by omega⟩
 obtain⟨nr,hnr⟩:∃ n:Nat,g.right=n:=⟨g.right.toNat,by omega⟩
 refine em Tryz.func15 rfl rfl fun w0=>?_
 refine ae (aa ?_)
 refine a6 (cs:=eE g A c) rfl rfl rfl (fun _=>rfl) fun p2=>?_
 refine aQ rfl rfl rfl (fun _=>rfl) fun p4=>?_
 refine af [] rfl ?_
 refine ae (ae (aa ?_))
 refine ab [] (v:=j7 g A c) (ad 1 rfl rfl rfl rfl) rfl ?_
 refine ax [] (gR g hg A c b o hA) rfl rfl rfl rfl (by kernel_rfl) ⟨⟨2,_,by simp,rfl,ak _ _ _,ap⟩,trivial⟩ (fun _=>rfl) ?_
 rintro v H' ⟨rfl,rfl⟩
 refine⟨rfl,?_⟩
 refine af [] rfl ?_
 refine ae (aa (af [] rfl ?_))
 refine aC rfl (fun h=>absurd rfl h) (fun _=>aq ?_)
 refine ae (ae (aa ?_))
 refine ab [] (v:=j7 g A c) (ad 1 rfl rfl rfl rfl) rfl ?_
 refine ah [] rfl ?_
 refine ax [] (nc g hg A c b o hA l hl hin L cm bm om hL) rfl rfl rfl rfl (by kernel_rfl) ⟨⟨2,_,by simp,rfl,ak _ _ _,ap⟩,⟨3,_,by simp,rfl,ak _ _ _,ap⟩,trivial⟩ (fun _=>rfl) ?_
 rintro v H' ⟨rfl,rfl⟩
 refine⟨rfl,?_⟩
 refine ah [] rfl ?_
 by_cases hM:bC g l
 rotate_left
 ·refine av 29 (v':=.bool true) rfl (congrArg Value.bool (by rw[aA hM];rfl)) ?_
  refine aj ?_
  refine bz rfl ?_
  refine ae (aa ?_)
  refine ab [] (bg rfl rfl rfl rfl rfl rfl) rfl ?_
  refine aD 0 rfl rfl rfl rfl rfl [] rfl ?_
  refine af [] rfl ?_
  refine aB ?_
  exact⟨[_,_],[],_,⟨⟨p4,0,_,_,rfl,rfl,rfl⟩,rfl,trivial⟩,by decide,rfl,.inr (.inr ⟨hM,rfl,rfl⟩)⟩
 refine av 29 (v':=.bool false) rfl (congrArg Value.bool (by rw[az hM];rfl)) ?_
 refine aj ?_
 refine bP rfl (aq ?_)
 refine ae (aa (ah [] rfl ?_))
 refine ab [] (ad 1 rfl rfl rfl rfl) rfl ?_
 refine ah [] rfl ?_
 refine av 33 (v':=.int .i64 ((nl+1:Nat):Int)) rfl (congrArg (Value.int .i64) ((bK (n:=g.left+1) (by omega)).trans (by omega))) ?_
 refine cv (n:=nl+1) (c:=nl+1) rfl rfl rfl rfl rfl rfl (by omega) (by omega) (by omega) (fun _=>rfl) fun ge=>?_
 refine aQ rfl rfl rfl (fun _=>rfl) fun p7=>?_
 refine aD 0 rfl rfl rfl rfl rfl [] rfl ?_
 refine af [] rfl ?_
 rw[show made [Value.slice none 0 0] ((nl+1)*1)=(List.replicate (nl+1) dy).map cN by rw[ce,Nat.mul_one,List.map_replicate];rfl]
 refine ae (ae (aa (ah [] rfl ?_)))
 refine ab [] (ad 3 rfl rfl rfl rfl) rfl ?_
 refine af [] rfl ?_
 refine au ?_
 refine bN (aH.nils 3 (nl+1)) ?_
 refine bM (σ:=Nat×List fb) (fun s=>[(38,.int .i64 s.1),(37,.int .i64 g.edges.length),(36,.slice A g.edges.length c),(7,.pointer (some ⟨p7,0,none⟩)),(4,.pointer (some ⟨p4,0,none⟩)),(2,.pointer (some ⟨p2,0,none⟩)),(1,.slice L l.length cm)])
  (fun s=>[blk p7 81 [.slice (some ⟨ge,0,none⟩) (nl+1) (nl+1)],.own (.slice (some ⟨ge,0,none⟩) (nl+1) (nl+1)) 34 1 (nl+1) (s.2.map cN),blk p4 36 [.slice none 0 0,.slice none 0 0],blk p2 24 (eE g A c),.seg b o (cd g.edges),.seg bm om (aw l)]++s.2.map (bY 3))
  (fun s=>s.1≤g.edges.length∧s.2.length=nl+1∧∀ (v:Nat) (r:fb),s.2[v]?=some r→r.l=ou g v s.1) (fun s=>g.edges.length-s.1)
  (0,List.replicate (nl+1) dy) ⟨rfl,rfl,rfl,rfl,rfl,rfl,rfl,trivial⟩ aH.refl ⟨Nat.zero_le _,by simp,fun v r h=>?_⟩ ?_
 ·rw[List.getElem?_replicate] at h
  split at h
  ·simp only[Option.some.injEq] at h;subst h;rfl
  ·cases h
 rintro⟨k,rows⟩ ⟨hk,hrows,htr⟩
 simp only at hk hrows htr ⊢
 refine ae (aa (af [] rfl ?_))
 refine ae (aC rfl (fun hlt=>aq ?_) (fun hge=>aO ?_))
 ·have hlt:k<g.edges.length:=by omega
  obtain rfl:=hA (by intro h0;rw[h0] at hlt;simp at hlt)
  obtain⟨e,he⟩:∃ e,g.edges[k]?=some e:=⟨g.edges[k],List.getElem?_eq_getElem hlt⟩
  have her:=hg.edge e (List.mem_of_getElem? he)
  obtain⟨v,hv⟩:∃ v:Nat,e.l=v:=⟨e.l.toNat,by omega⟩
  have hvn:v<rows.length:=by omega
  obtain⟨row,hrow⟩:∃ r,rows[v]?=some r:=⟨rows[v],List.getElem?_eq_getElem hvn⟩
  have hrl':=htr v row hrow
  have hlen:=lh g v k
  rw[← hrl'] at hlen
  refine ae (au ?_)
  refine ae (aa (ah [] rfl ?_))
  refine ab [] (eH rfl rfl rfl rfl rfl hlt) rfl ?_
  refine ab [] (aU 4 rfl rfl rfl rfl (eF he)) rfl ?_
  refine aQ rfl rfl rfl (fun _=>rfl) fun p9=>?_
  refine aD 0 rfl rfl rfl rfl rfl [] rfl ?_
  refine aj ?_
  show J _ _ _ _ ([_,_,_,_,_,_,_]++rows.map (bY 3))
  refine bN (aH.front (i:=v) (c:=bY 3 row) (by rw[List.getElem?_map,hrow];rfl)) ?_
  refine bq 13 [(0,true),(1,true),(2,true),(3,true),(4,true),(5,true),(6,true),(7,true),(8,true),(9,true),(10,false),(11,false),(12,true)] [1,2,3] (by kernel_rfl) (by decide) rfl ?_
  refine ai [] rfl (ad (v:=.slice (some ⟨ge,0,none⟩) (nl+1) (nl+1)) 1 rfl rfl rfl rfl) rfl ?_
  refine aJ [] rfl ?_
  refine ai [] rfl (ad 0 rfl rfl rfl rfl) rfl ?_
  refine ai [] rfl (ad (v:=.slice (some ⟨ge,0,none⟩) (nl+1) (nl+1)) 1 rfl rfl rfl rfl) rfl ?_
  refine aJ [] rfl ?_
  refine ai [] rfl (ad 0 rfl rfl rfl rfl) rfl ?_
  refine bH 44 (v':=.int .i64 (v:Int)) rfl (congrArg (Value.int .i64) hv) ?_
  refine bH 47 (v':=.int .i64 (v:Int)) rfl (congrArg (Value.int .i64) hv) ?_
  refine ai [] rfl (aI rfl rfl rfl rfl rfl (by omega)) rfl ?_
  refine ai [] rfl (aF (v:=cN row) 2 rfl rfl rfl (show (rows.map cN)[v]?=some (cN row) by rw[List.getElem?_map,hrow];rfl)) rfl ?_
  refine aJ [] rfl ?_
  refine ai [] rfl (ad 0 rfl rfl rfl rfl) rfl ?_
  refine bc rfl ?_
  refine b8 rfl rfl rfl rfl rfl rfl rfl (fun _=>rfl) fun g2=>?_
  refine aj ⟨⟨[2,3,4],by decide,rfl⟩,?_⟩
  refine bc rfl ?_
  refine a9 (n:=row.l.length) (m:=1) (off:=0) (news:=aw [e.r]) 1 0 rfl rfl rfl rfl rfl rfl (by decide) rfl rfl (aR g2 _ _ (0,0)) (fun _=>rfl) rfl rfl (by omega) (by omega) (fun _ _=>rfl) fun A2 c2=>?_
  rw[show row.l.length+1=(row.l++[e.r]).length by simp,show aw row.l++aw [e.r]=aw (row.l++[e.r]) by simp[aw]]
  refine aj ⟨⟨[2,3,4],by decide,rfl⟩,?_⟩
  refine ai [] rfl (aI rfl rfl rfl rfl rfl (by omega)) rfl ?_
  refine bB ?_
  refine aG 4 rfl rfl rfl rfl (dO rfl rfl rfl (by rw[List.length_map];omega)) [] rfl ?_
  refine aj ?_
  refine aa (af [] rfl ?_)
  refine⟨(k+1,rows.set v ⟨A2,c2,row.l++[e.r]⟩),⟨?_,rfl,rfl,rfl,rfl,rfl,rfl,trivial⟩,?_,⟨by simp only;omega,by simp only[List.length_set];omega,fun u q hu=>?_⟩,by simp only;omega⟩
  ·show some (Value.int .i64 (IntKind.i64.wrap ((k:Int)+1)))=_
   rw[bK (by omega)];rfl
  ·simp only[List.map_set]
   refine aH.trans (aH.sub (List.sublist_cons_self _ _)) (aH.trans (aH.back (A:=[_,_,_,_,_,_,_]) (by rw[List.length_map];exact hvn)) (aH.sub (List.sublist_cons_self _ _)))
  ·simp only at hu ⊢
   rw[sR he]
   by_cases huv:v=u
   ·subst huv
    rw[List.getElem?_set_self hvn] at hu
    simp only[Option.some.injEq] at hu
    rw[← hu,if_pos hv,hrl']
   ·rw[List.getElem?_set_ne huv] at hu
    rw[if_neg (by omega),List.append_nil]
    exact htr u q hu
 ·have hk':k=g.edges.length:=by omega
  subst hk'
  refine mB (σ:=Nat×Nat×Nat) (fun s=>[(10,.slice (some ⟨s.1,0,none⟩) (nl+1) (nl+1)),(11,.pointer (some ⟨s.2.2,0,none⟩)),(63,.slice (some ⟨s.2.1,0,none⟩) (nr+1) (nr+1)),(7,.pointer (some ⟨p7,0,none⟩)),(4,.pointer (some ⟨p4,0,none⟩)),(2,.pointer (some ⟨p2,0,none⟩)),(1,.slice L l.length cm)])
   (fun s=>[.own (.slice (some ⟨s.1,0,none⟩) (nl+1) (nl+1)) 3 1 (nl+1) (aw (List.replicate (nl+1) 0)),.own (.slice (some ⟨s.2.1,0,none⟩) (nr+1) (nr+1)) 3 1 (nr+1) (aw (List.replicate (nr+1) 0)),blk s.2.2 34 [.slice (some ⟨s.2.1,0,none⟩) (nr+1) (nr+1)],
    blk p7 81 [.slice (some ⟨ge,0,none⟩) (nl+1) (nl+1)],.own (.slice (some ⟨ge,0,none⟩) (nl+1) (nl+1)) 34 1 (nl+1) (rows.map cN),blk p4 36 [.slice none 0 0,.slice none 0 0],blk p2 24 (eE g A c),.seg b o (cd g.edges),.seg bm om (aw l)]++rows.map (bY 3)) ?_ ?_
  ·refine n7 (Sf:=[blk p2 24 (eE g A c)]) ?_
   refine nK [0,1,2,4,5,6] (by decide+kernel) [3] (by decide) rfl ?_
   refine aJ [] rfl ?_
   refine ai [] rfl (ad 0 rfl rfl rfl rfl) rfl ?_
   refine aJ [] rfl ?_
   refine ai [] rfl (ad 0 rfl rfl rfl rfl) rfl ?_
   refine aJ [] rfl ?_
   refine bB ?_
   refine iM 58 (v':=.int .i64 ((nl+1:Nat):Int)) rfl (congrArg (Value.int .i64) ((bK (n:=g.left+1) (by omega)).trans (by omega))) ?_
   refine iM 62 (v':=.int .i64 ((nr+1:Nat):Int)) rfl (congrArg (Value.int .i64) ((bK (n:=g.right+1) (by omega)).trans (by omega))) ?_
   (repeat' (first
    |exact trivial
    |refine bx 3 [7,8] (by decide+kernel) (by decide) ?_
    |refine bx 7 [8] (by decide+kernel) (by decide) ?_
    |refine bx 7 [9] (by decide+kernel) (by decide) ?_
    |refine bx 3 [8] (by decide+kernel) (by decide) ?_
    |refine bx 3 [7] (by decide+kernel) (by decide) ?_
    |refine bx 3 [] (by decide+kernel) (by decide) ?_
    |refine bx 7 [] (by decide+kernel) (by decide) ?_
    |refine bx 8 [] (by decide+kernel) (by decide) ?_
    |refine bx 9 [] (by decide+kernel) (by decide) ?_
    |refine bx 10 [] (by decide+kernel) (by decide) ?_
    |refine⟨⟨_,rfl,?_⟩,?_⟩
    |refine cv (n:=nl+1) (c:=nl+1) rfl rfl rfl rfl rfl rfl (by omega) (by omega) (by omega) (fun _=>rfl) fun go=>?_
    |refine cv (n:=nr+1) (c:=nr+1) rfl rfl rfl rfl rfl rfl (by omega) (by omega) (by omega) (fun _=>rfl) fun go=>?_
    |refine aQ rfl rfl rfl (fun _=>rfl) fun p11=>?_
    |refine aD 0 rfl rfl rfl rfl rfl [] rfl ?_
    |refine aD 1 rfl rfl rfl rfl rfl [] rfl ?_
    |refine aD 2 rfl rfl rfl rfl rfl [] rfl ?_
    |refine aj ⟨⟨[4],by decide,rfl⟩,?_⟩
    |refine aj ⟨⟨[5],by decide,rfl⟩,?_⟩
    |refine aj ⟨⟨[6],by decide,rfl⟩,?_⟩
    |refine af [] rfl ⟨⟨[4],by decide,rfl⟩,?_⟩
    |refine af [] rfl ⟨⟨[5],by decide,rfl⟩,?_⟩
    |refine af [] rfl ⟨⟨[6],by decide,rfl⟩,?_⟩
    |refine lL (by decide+kernel) ⟨(_,_,_),⟨rfl,rfl,rfl,rfl,rfl,rfl,rfl,trivial⟩,?_⟩))
   all_goals rw[show made [Value.int .i64 0] ((nl+1)*1)=aw (List.replicate (nl+1) 0) by rw[ce,Nat.mul_one];simp[aw],show made [Value.int .i64 0] ((nr+1)*1)=aw (List.replicate (nr+1) 0) by rw[ce,Nat.mul_one];simp[aw]]
   all_goals (first|exact aH.re (A:=[_,_,_,_,_,_,_,_,_]) [0,1,2,3,4,5,6,7,8] rfl (by decide)|exact aH.re (A:=[_,_,_,_,_,_,_,_,_]) [0,2,1,3,4,5,6,7,8] rfl (by decide)|exact aH.re (A:=[_,_,_,_,_,_,_,_,_]) [1,0,2,3,4,5,6,7,8] rfl (by decide)|exact aH.re (A:=[_,_,_,_,_,_,_,_,_]) [1,2,0,3,4,5,6,7,8] rfl (by decide)|exact aH.re (A:=[_,_,_,_,_,_,_,_,_]) [2,0,1,3,4,5,6,7,8] rfl (by decide)|exact aH.re (A:=[_,_,_,_,_,_,_,_,_]) [2,1,0,3,4,5,6,7,8] rfl (by decide))
  ·rintro⟨q10,gb,p11⟩
   simp only
   have hrg:=hM.rng
   refine ae (ae (aa (ah [] rfl ?_)))
   refine af [] rfl ?_
   refine au ?_
   refine bM (σ:=Nat) (fun k=>[(66,.int .i64 k),(65,.int .i64 l.length),(64,.slice L l.length cm),(10,.slice (some ⟨q10,0,none⟩) (nl+1) (nl+1)),(11,.pointer (some ⟨p11,0,none⟩)),(7,.pointer (some ⟨p7,0,none⟩)),(4,.pointer (some ⟨p4,0,none⟩)),(2,.pointer (some ⟨p2,0,none⟩))])
    (fun k=>[.own (.slice (some ⟨q10,0,none⟩) (nl+1) (nl+1)) 3 1 (nl+1) (aw (f8 g (·.l) (·.r) (nl+1) (l.take k))),.own (.slice (some ⟨gb,0,none⟩) (nr+1) (nr+1)) 3 1 (nr+1) (aw (f8 g (·.r) (·.l) (nr+1) (l.take k))),blk p11 34 [.slice (some ⟨gb,0,none⟩) (nr+1) (nr+1)],
     blk p7 81 [.slice (some ⟨ge,0,none⟩) (nl+1) (nl+1)],.own (.slice (some ⟨ge,0,none⟩) (nl+1) (nl+1)) 34 1 (nl+1) (rows.map cN),blk p4 36 [.slice none 0 0,.slice none 0 0],blk p2 24 (eE g A c),.seg b o (cd g.edges),.seg bm om (aw l)]++rows.map (bY 3))
    (fun k=>k≤l.length) (fun k=>l.length-k) 0 ⟨rfl,rfl,rfl,rfl,rfl,rfl,rfl,rfl,trivial⟩ aH.refl (Nat.zero_le _) ?_
   intro k hk
   refine ae (aa (af [] rfl ?_))
   refine ae (aC rfl (fun hlt=>aq ?_) (fun hge=>aO ?_))
   ·have hlt:k<l.length:=by omega
    obtain rfl:=hL (by intro h0;rw[h0] at hlt;simp at hlt)
    obtain⟨x,hx⟩:∃ x,l[k]?=some x:=⟨l[k],List.getElem?_eq_getElem hlt⟩
    have hxr:=hrg x (List.mem_of_getElem? hx)
    have htk:l.take (k+1)=l.take k++[x]:=by rw[List.take_add_one,hx];rfl
    obtain⟨m,rfl⟩:∃ m:Nat,x=m:=⟨x.toNat,by omega⟩
    have hme:m<g.edges.length:=by omega
    obtain rfl:=hA (by intro h0;rw[h0] at hme;simp at hme)
    obtain⟨e,he⟩:∃ e,g.edges[m]?=some e:=⟨g.edges[m],List.getElem?_eq_getElem hme⟩
    have her:=hg.edge e (List.mem_of_getElem? he)
    have he':g.edges[((m:Nat):Int).toNat]?=some e:=by rw[Int.toNat_natCast];exact he
    obtain⟨el,hel⟩:∃ n:Nat,e.l=n:=⟨e.l.toNat,by omega⟩
    obtain⟨er,her2⟩:∃ n:Nat,e.r=n:=⟨e.r.toNat,by omega⟩
    refine ae (au ?_)
    refine ae (aa (ah [] rfl ?_))
    refine ab [] (cW rfl rfl rfl rfl rfl hlt) rfl ?_
    refine ab [] (aU 8 rfl rfl rfl rfl (aN hx)) rfl ?_
    refine af [] rfl ?_
    refine ae (aa (ah [] rfl ?_))
    refine ab [] (ad 6 rfl rfl rfl rfl) rfl ?_
    refine ah [] rfl ?_
    refine ab [] (eH rfl rfl rfl rfl rfl hme) rfl ?_
    refine ab [] (aU 7 rfl rfl rfl rfl (eF he)) rfl ?_
    refine aQ rfl rfl rfl (fun _=>rfl) fun p14=>?_
    refine aD 0 rfl rfl rfl rfl rfl [] rfl ?_
    refine aj ?_
    refine bq 13 [(0,true),(1,true),(2,true),(3,true),(4,true),(5,true),(6,true),(7,true),(8,true),(9,true),(10,true),(11,false),(12,true)] [0,3] (by kernel_rfl) (by decide) rfl ?_
    refine aJ [] rfl ?_
    refine ai [] rfl (ad 0 rfl rfl rfl rfl) rfl ?_
    refine ai [] rfl (ad 1 rfl rfl rfl rfl) rfl ?_
    refine aJ [] rfl ?_
    refine ai [] rfl (ad 0 rfl rfl rfl rfl) rfl ?_
    refine aJ [] rfl ?_
    refine ai [] rfl (ad 0 rfl rfl rfl rfl) rfl ?_
    refine aJ [] rfl ?_
    refine ai [] rfl (ad 0 rfl rfl rfl rfl) rfl ?_
    refine bH 77 (v':=.int .i64 (el:Int)) rfl (congrArg (Value.int .i64) hel) ?_
    refine bH 80 (v':=.int .i64 (er:Int)) rfl (congrArg (Value.int .i64) her2) ?_
    refine ai [] rfl (aI rfl rfl rfl rfl rfl (by omega)) rfl ?_
    refine bc rfl ?_
    refine aG 1 rfl rfl rfl rfl (du rfl (by rw[fE];omega)) [] rfl ?_
    refine aj ⟨⟨[0,3],by decide,rfl⟩,?_⟩
    refine ai [] rfl (aI rfl rfl rfl rfl rfl (by omega)) rfl ?_
    refine bB ?_
    refine aG 2 rfl rfl rfl rfl (du rfl (by rw[fE];omega)) [] rfl ?_
    refine aj ?_
    refine aa (af [] rfl ?_)
    refine⟨k+1,⟨?_,rfl,rfl,rfl,rfl,rfl,rfl,rfl,trivial⟩,?_,by omega,by omega⟩
    ·show some (Value.int .i64 (IntKind.i64.wrap ((k:Int)+1)))=_
     rw[bK (by omega)];rfl
    ·rw[htk,nb g (·.l) (·.r) _ _ _ he',nb g (·.r) (·.l) _ _ _ he',show e.l.toNat=el by omega,show e.r.toNat=er by omega]
     exact aH.sub (List.sublist_cons_self _ _)
   ·obtain rfl:k=l.length:=by omega
    rw[List.take_length]
    refine mB (σ:=Nat×Nat×Nat×Nat) (fun s=>[(15,.pointer (some ⟨s.1,0,none⟩)),(16,.pointer (some ⟨s.2.1,0,none⟩)),(91,.slice (some ⟨s.2.2.1,0,none⟩) (nl+1) (nl+1)),(95,.slice (some ⟨s.2.2.2,0,none⟩) (nr+1) (nr+1)),(10,.slice (some ⟨q10,0,none⟩) (nl+1) (nl+1)),(11,.pointer (some ⟨p11,0,none⟩)),(7,.pointer (some ⟨p7,0,none⟩)),(4,.pointer (some ⟨p4,0,none⟩)),(2,.pointer (some ⟨p2,0,none⟩))])
     (fun s=>[blk s.1 82 [.slice (some ⟨s.2.2.1,0,none⟩) (nl+1) (nl+1)],blk s.2.1 82 [.slice (some ⟨s.2.2.2,0,none⟩) (nr+1) (nr+1)],.own (.slice (some ⟨s.2.2.1,0,none⟩) (nl+1) (nl+1)) 4 1 (nl+1) (aY (List.replicate (nl+1) false)),.own (.slice (some ⟨s.2.2.2,0,none⟩) (nr+1) (nr+1)) 4 1 (nr+1) (aY (List.replicate (nr+1) false)),
      .own (.slice (some ⟨q10,0,none⟩) (nl+1) (nl+1)) 3 1 (nl+1) (aw (f8 g (·.l) (·.r) (nl+1) l)),.own (.slice (some ⟨gb,0,none⟩) (nr+1) (nr+1)) 3 1 (nr+1) (aw (f8 g (·.r) (·.l) (nr+1) l)),blk p11 34 [.slice (some ⟨gb,0,none⟩) (nr+1) (nr+1)],
      blk p7 81 [.slice (some ⟨ge,0,none⟩) (nl+1) (nl+1)],.own (.slice (some ⟨ge,0,none⟩) (nl+1) (nl+1)) 34 1 (nl+1) (rows.map cN),blk p4 36 [.slice none 0 0,.slice none 0 0],blk p2 24 (eE g A c),.seg b o (cd g.edges),.seg bm om (aw l)]++rows.map (bY 3)) ?_ ?_
    ·refine n7 (Sf:=[blk p2 24 (eE g A c)]) ?_
     refine nK [0,1,2,4,5,6] (by decide+kernel) [6] (by decide) rfl ?_
     refine aJ [] rfl ?_
     refine ai [] rfl (ad 0 rfl rfl rfl rfl) rfl ?_
     refine aJ [] rfl ?_
     refine ai [] rfl (ad 0 rfl rfl rfl rfl) rfl ?_
     refine aJ [] rfl ?_
     refine bB ?_
     refine iM 90 (v':=.int .i64 ((nl+1:Nat):Int)) rfl (congrArg (Value.int .i64) ((bK (n:=g.left+1) (by omega)).trans (by omega))) ?_
     refine iM 94 (v':=.int .i64 ((nr+1:Nat):Int)) rfl (congrArg (Value.int .i64) ((bK (n:=g.right+1) (by omega)).trans (by omega))) ?_
     (repeat' (first
      |exact trivial
      |refine⟨⟨_,rfl,?_⟩,?_⟩
      |refine cv (n:=nl+1) (c:=nl+1) rfl rfl rfl rfl rfl rfl (by omega) (by omega) (by omega) (fun _=>rfl) fun go=>?_
      |refine cv (n:=nr+1) (c:=nr+1) rfl rfl rfl rfl rfl rfl (by omega) (by omega) (by omega) (fun _=>rfl) fun go=>?_
      |refine aQ rfl rfl rfl (fun _=>rfl) fun pa=>?_
      |refine aD 0 rfl rfl rfl rfl rfl [] rfl ?_
      |refine aD 1 rfl rfl rfl rfl rfl [] rfl ?_
      |refine aD 2 rfl rfl rfl rfl rfl [] rfl ?_
      |refine aD 3 rfl rfl rfl rfl rfl [] rfl ?_
      |refine aj ⟨⟨[7],by decide,rfl⟩,?_⟩
      |refine aj ⟨⟨[8],by decide,rfl⟩,?_⟩
      |refine aj ⟨⟨[9],by decide,rfl⟩,?_⟩
      |refine aj ⟨⟨[10],by decide,rfl⟩,?_⟩
      |refine bx 3 [7,8,9] (by decide+kernel) (by decide) ?_
      |refine bx 7 [8,9] (by decide+kernel) (by decide) ?_
      |refine bx 8 [9] (by decide+kernel) (by decide) ?_
      |refine bx 9 [] (by decide+kernel) (by decide) ?_
      |refine bx 10 [] (by decide+kernel) (by decide) ?_
      |refine bx 11 [] (by decide+kernel) (by decide) ?_
      |refine bx 8 [] (by decide+kernel) (by decide) ?_
      |refine bx 7 [9] (by decide+kernel) (by decide) ?_
      |refine bx 7 [10] (by decide+kernel) (by decide) ?_
      |refine bx 7 [] (by decide+kernel) (by decide) ?_
      |refine bx 7 [8] (by decide+kernel) (by decide) ?_
      |refine bx 3 [8,9] (by decide+kernel) (by decide) ?_
      |refine bx 3 [9] (by decide+kernel) (by decide) ?_
      |refine bx 3 [] (by decide+kernel) (by decide) ?_
      |refine bx 3 [8] (by decide+kernel) (by decide) ?_
      |refine bx 3 [7,9] (by decide+kernel) (by decide) ?_
      |refine bx 3 [7] (by decide+kernel) (by decide) ?_
      |refine bx 3 [7,8] (by decide+kernel) (by decide) ?_
      |refine lL (by decide+kernel) ⟨(_,_,_,_),⟨rfl,rfl,rfl,rfl,rfl,rfl,rfl,rfl,rfl,trivial⟩,?_⟩))
     all_goals rw[show made [Value.bool false] ((nl+1)*1)=aY (List.replicate (nl+1) false) by rw[ce,Nat.mul_one];simp[aY],show made [Value.bool false] ((nr+1)*1)=aY (List.replicate (nr+1) false) by rw[ce,Nat.mul_one];simp[aY]]
     all_goals (first|exact aH.re (A:=[_,_,_,_,_,_,_,_,_,_,_,_,_]) [0,1,2,3,4,5,6,7,8,9,10,11,12] rfl (by decide)|exact aH.re (A:=[_,_,_,_,_,_,_,_,_,_,_,_,_]) [0,1,3,2,4,5,6,7,8,9,10,11,12] rfl (by decide)|exact aH.re (A:=[_,_,_,_,_,_,_,_,_,_,_,_,_]) [0,2,1,3,4,5,6,7,8,9,10,11,12] rfl (by decide)|exact aH.re (A:=[_,_,_,_,_,_,_,_,_,_,_,_,_]) [0,2,3,1,4,5,6,7,8,9,10,11,12] rfl (by decide)|exact aH.re (A:=[_,_,_,_,_,_,_,_,_,_,_,_,_]) [0,3,1,2,4,5,6,7,8,9,10,11,12] rfl (by decide)|exact aH.re (A:=[_,_,_,_,_,_,_,_,_,_,_,_,_]) [0,3,2,1,4,5,6,7,8,9,10,11,12] rfl (by decide)|exact aH.re (A:=[_,_,_,_,_,_,_,_,_,_,_,_,_]) [1,0,2,3,4,5,6,7,8,9,10,11,12] rfl (by decide)|exact aH.re (A:=[_,_,_,_,_,_,_,_,_,_,_,_,_]) [1,0,3,2,4,5,6,7,8,9,10,11,12] rfl (by decide)|exact aH.re (A:=[_,_,_,_,_,_,_,_,_,_,_,_,_]) [1,2,0,3,4,5,6,7,8,9,10,11,12] rfl (by decide)|exact aH.re (A:=[_,_,_,_,_,_,_,_,_,_,_,_,_]) [1,2,3,0,4,5,6,7,8,9,10,11,12] rfl (by decide)|exact aH.re (A:=[_,_,_,_,_,_,_,_,_,_,_,_,_]) [1,3,0,2,4,5,6,7,8,9,10,11,12] rfl (by decide)|exact aH.re (A:=[_,_,_,_,_,_,_,_,_,_,_,_,_]) [1,3,2,0,4,5,6,7,8,9,10,11,12] rfl (by decide)|exact aH.re (A:=[_,_,_,_,_,_,_,_,_,_,_,_,_]) [2,0,1,3,4,5,6,7,8,9,10,11,12] rfl (by decide)|exact aH.re (A:=[_,_,_,_,_,_,_,_,_,_,_,_,_]) [2,0,3,1,4,5,6,7,8,9,10,11,12] rfl (by decide)|exact aH.re (A:=[_,_,_,_,_,_,_,_,_,_,_,_,_]) [2,1,0,3,4,5,6,7,8,9,10,11,12] rfl (by decide)|exact aH.re (A:=[_,_,_,_,_,_,_,_,_,_,_,_,_]) [2,1,3,0,4,5,6,7,8,9,10,11,12] rfl (by decide)|exact aH.re (A:=[_,_,_,_,_,_,_,_,_,_,_,_,_]) [2,3,0,1,4,5,6,7,8,9,10,11,12] rfl (by decide)|exact aH.re (A:=[_,_,_,_,_,_,_,_,_,_,_,_,_]) [2,3,1,0,4,5,6,7,8,9,10,11,12] rfl (by decide)|exact aH.re (A:=[_,_,_,_,_,_,_,_,_,_,_,_,_]) [3,0,1,2,4,5,6,7,8,9,10,11,12] rfl (by decide)|exact aH.re (A:=[_,_,_,_,_,_,_,_,_,_,_,_,_]) [3,0,2,1,4,5,6,7,8,9,10,11,12] rfl (by decide)|exact aH.re (A:=[_,_,_,_,_,_,_,_,_,_,_,_,_]) [3,1,0,2,4,5,6,7,8,9,10,11,12] rfl (by decide)|exact aH.re (A:=[_,_,_,_,_,_,_,_,_,_,_,_,_]) [3,1,2,0,4,5,6,7,8,9,10,11,12] rfl (by decide)|exact aH.re (A:=[_,_,_,_,_,_,_,_,_,_,_,_,_]) [3,2,0,1,4,5,6,7,8,9,10,11,12] rfl (by decide)|exact aH.re (A:=[_,_,_,_,_,_,_,_,_,_,_,_,_]) [3,2,1,0,4,5,6,7,8,9,10,11,12] rfl (by decide))
    rintro⟨p15,p16,gl,gr⟩
    simp only
    obtain⟨bk,hbk⟩:∃ bk,bk=f8 g (·.r) (·.l) (nr+1) l:=⟨_,rfl⟩
    obtain⟨pr,hpr⟩:∃ pr,pr=f8 g (·.l) (·.r) (nl+1) l:=⟨_,rfl⟩
    rw[← hbk,← hpr]
    refine ae (aa ?_)
    refine aQ rfl rfl rfl (fun _=>rfl) fun p17=>?_
    refine aD 0 rfl rfl rfl rfl rfl [] rfl ?_
    refine aj ?_
    refine ae (aa ?_)
    refine aQ rfl rfl rfl (fun _=>rfl) fun p18=>?_
    refine aj ?_
    refine ae (aa (ah [] rfl ?_))
    refine aD 0 rfl rfl rfl rfl rfl [] rfl ?_
    refine aj ?_
    obtain⟨K,hKd⟩:∃ K:WK,K=⟨p15,p7,p16,p11,p17,p18,gl,gr,gb,ge,nl,nr,rows,bk⟩:=⟨_,rfl⟩
    obtain⟨ends,hen⟩:∃ ends:Nat→List Int,ends=fun v=>if v≤nl then ou g v g.edges.length else []:=⟨_,rfl⟩
    have hen1:∀ (v:Nat) (w:Int),w∈ends v→v≤nl∧∃ e∈g.edges,e.l=v∧e.r=w:=by
     intro v w hw
     rw[hen] at hw
     simp only at hw
     split at hw
     ·exact⟨by assumption,o3.1 hw⟩
     ·cases hw
    have hen2:∀ e∈g.edges,e.r∈ends e.l.toNat:=by
     intro e he
     have:=hg.edge e he
     rw[hen]
     simp only
     rw[if_pos (by omega),o3]
     exact⟨e,he,by omega,rfl⟩
    have hmet:∀ w:Nat,w≤nr→bk.getD w 0=0→¬ j6 g (·.r) l w:=by
     rintro w hw h0 ⟨x,hx,e,he,her⟩
     have h5:=jn hg hM (key:=(·.r)) (val:=(·.l)) (.inr rfl) (n:=nr+1) (v:=w) (by omega) hx he her
     rw[List.getD_eq_getElem?_getD,hbk,h5] at h0
     have h6:=hg.edge e (List.mem_of_getElem? he)
     simp only[Option.getD_some] at h0
     omega
    have hfree:∀ w:Nat,w≤nr→¬ j6 g (·.r) l w→bk.getD w 0=0:=by
     intro w hw hno
     rw[List.getD_eq_getElem?_getD,hbk,mM hg (.inr rfl) (by omega) hno];rfl
    have hmate:∀ w:Nat,w≤nr→bk.getD w 0≠0→∃ x∈l,∃ a,g.edges[x.toNat]?=some a∧a.r=w∧bk.getD w 0=a.l:=by
     intro w hw h0
     have hm:j6 g (·.r) l w:=Classical.byContradiction fun h=>h0 (hfree w hw h)
     obtain⟨x,hx,e,he,her⟩:=hm
     have h5:=jn hg hM (key:=(·.r)) (val:=(·.l)) (.inr rfl) (n:=nr+1) (v:=w) (by omega) hx he her
     exact⟨x,hx,e,he,her,by rw[List.getD_eq_getElem?_getD,hbk,h5];rfl⟩
    have hK:K.OK ends:=by
     rw[hKd]
     refine⟨by show nl≤200;omega,by show nr≤200;omega,hrows,fun v row hr=>?_,fun v=>?_,fun v w hw=>?_,fun w hw=>?_⟩
     ·have hv:v<nl+1:=by rw[← hrows];exact (List.getElem?_eq_some_iff.1 hr).1
      rw[hen]
      simp only
      rw[if_pos (by omega)]
      exact htr v row hr
     ·rw[hen]
      simp only
      split
      ·exact Nat.le_trans (lh _ _ _) h3
      ·exact Nat.zero_le _
     ·obtain⟨_,e,he,_,rfl⟩:=hen1 v w hw
      have:=hg.edge e he
      show 1≤e.r∧e.r≤(nr:Int)
      omega
     ·show ∃ y:Nat,bk[w]?=some (y:Int)∧y≤nl
      have hw':w≤nr:=hw
      have hbl:bk.length=nr+1:=by rw[hbk,fE]
      have hgd:bk[w]?=some (bk.getD w 0):=by rw[List.getD_eq_getElem?_getD,List.getElem?_eq_getElem (by omega)];rfl
      by_cases h0:bk.getD w 0=0
      ·exact⟨0,by rw[hgd,h0];rfl,by omega⟩
      ·obtain⟨x,_,a,ha,_,hal⟩:=hmate w hw' h0
       have:=hg.edge a (List.mem_of_getElem? ha)
       exact⟨a.l.toNat,by rw[hgd,hal];congr 1;omega,by omega⟩
    have hAR:∀ k (v:Nat) (w:Int),(gI g l v∧(¬ j6 g (·.l) l v→v<k))→w∈ends v→gP g l w.toNat:=by
     rintro k v w ⟨hv,_⟩ hw
     obtain⟨_,e,he,hel,her⟩:=hen1 v w hw
     have:=hg.edge e he
     exact⟨e,he,by rw[show e.l.toNat=v by omega];exact hv,by omega⟩
    have hAL:∀ k (w:Nat),gP g l w→bk.getD w 0≠0→gI g l (bk.getD w 0).toNat∧(¬ j6 g (·.l) l (bk.getD w 0).toNat→(bk.getD w 0).toNat<k):=by
     rintro k w ⟨e,he,hal,her⟩ h0
     have hb:=hg.edge e he
     obtain⟨x,hx,a,ha,har,hbl⟩:=hmate w (by omega) h0
     have hab:=hg.edge a (List.mem_of_getElem? ha)
     rw[hbl]
     exact⟨.step e a x hal he hx ha (by omega),fun hno=>absurd ⟨x,hx,a,ha,by show a.l=_;omega⟩ hno⟩
    refine bN (K:=[.own (.slice (some ⟨q10,0,none⟩) (nl+1) (nl+1)) 3 1 (nl+1) (aw pr),blk p4 36 [.slice none 0 0,.slice none 0 0],blk p2 24 (eE g A c)]++wH K (List.replicate (nl+1) false) (List.replicate (nr+1) false) false) ?_ ?_
    ·rw[hKd]
     exact aH.re (A:=[_,_,_,_,_,_,_,_,_,_,_,_,_,_,_]) (R:=rows.map (bY 3)) [6,11,12,2,9,3,8,1,0,4,5,7,10] rfl (by decide)
    have hKb:K.back=bk:=by rw[hKd]
    have hKl:K.nl=nl:=by rw[hKd]
    have hKr:K.nr=nr:=by rw[hKd]
    have e15:p15=K.p15:=by rw[hKd]
    have e16:p16=K.p16:=by rw[hKd]
    have e17:p17=K.p17:=by rw[hKd]
    have e18:p18=K.p18:=by rw[hKd]
    clear hKd
    subst e15 e16 e17 e18
    have hprl:pr.length=nl+1:=by rw[hpr,fE]
    have hpf:∀ v:Nat,v≤nl→(pr.getD v 0=0↔¬ j6 g (·.l) l v):=by
     intro v hv
     rw[List.getD_eq_getElem?_getD,hpr]
     constructor
     ·rintro h0 ⟨x,hx,e,he,hel⟩
      rw[jn hg hM (key:=(·.l)) (val:=(·.r)) (.inl rfl) (n:=nl+1) (v:=v) (by omega) hx he hel] at h0
      have h6:=hg.edge e (List.mem_of_getElem? he)
      simp only[Option.getD_some] at h0
      omega
     ·intro hno
      rw[mM hg (.inl rfl) (by omega) hno];rfl
    refine ae (ae (aa (af [] rfl ?_)))
    refine au ?_
    refine bM (σ:=Nat×List Bool×List Bool×Bool) (fun s=>[(19,.int .i64 (s.1:Int)),(18,.pointer (some ⟨K.p18,0,none⟩)),(17,.pointer (some ⟨K.p17,0,none⟩)),(15,.pointer (some ⟨K.p15,0,none⟩)),(16,.pointer (some ⟨K.p16,0,none⟩)),(10,.slice (some ⟨q10,0,none⟩) (nl+1) (nl+1)),(4,.pointer (some ⟨p4,0,none⟩)),(2,.pointer (some ⟨p2,0,none⟩))])
     (fun s=>[.own (.slice (some ⟨q10,0,none⟩) (nl+1) (nl+1)) 3 1 (nl+1) (aw pr),blk p4 36 [.slice none 0 0,.slice none 0 0],blk p2 24 (eE g A c)]++wH K s.2.1 s.2.2.1 s.2.2.2)
     (fun s=>1≤s.1∧s.1≤nl+1∧dv ends bk (List.replicate (nl+1) false) (List.replicate (nr+1) false) false s.2.1 s.2.2.1 s.2.2.2∧w6 (fun v=>gI g l v∧(¬ j6 g (·.l) l v→v<s.1)) (gP g l) bk s.2.1 s.2.2.1 s.2.2.2∧∀ v:Nat,1≤v→v<s.1→¬ j6 g (·.l) l v→s.2.1[v]?=some true) (fun s=>nl+1-s.1)
     (1,List.replicate (nl+1) false,List.replicate (nr+1) false,false) ⟨rfl,rfl,rfl,rfl,rfl,rfl,rfl,rfl,trivial⟩ aH.refl ⟨Nat.le_refl _,by simp only;omega,dv.refl,⟨fun v hv=>?_,fun w hw=>?_,fun h=>by cases h⟩,fun v h1 h2=>absurd h2 (by simp only;omega)⟩ ?_
    ·simp only[List.getElem?_replicate] at hv;split at hv<;>simp at hv
    ·simp only[List.getElem?_replicate] at hw;split at hw<;>simp at hw
    rintro⟨v,l1,r1,m1⟩ ⟨hv1,hvn,hW,hS,hall⟩
    simp only at hv1 hvn hW hS hall ⊢
    have hl1:l1.length=nl+1:=by rw[hW.ll];simp
    have hr1:r1.length=nr+1:=by rw[hW.rl];simp
    refine ae (ae (aa (ah [] rfl ?_)))
    refine ab [] (ad 2 rfl rfl rfl rfl) rfl ?_
    refine af [] rfl ?_
    refine aC rfl (fun hle=>aq ?_) (fun hgt=>aO ?_)
    ·have hle':v≤nl:=by omega
     obtain⟨y,hy⟩:∃ y,pr[v]?=some y:=⟨_,List.getElem?_eq_getElem (by omega)⟩
     have hyd:pr.getD v 0=y:=by rw[List.getD_eq_getElem?_getD,hy];rfl
     refine ae (au ?_)
     refine ae (aa (ah [] rfl ?_))
     refine ab [] (aI rfl rfl rfl rfl rfl (by omega)) rfl ?_
     refine ab [] (aF 0 rfl rfl rfl (aN hy)) rfl ?_
     refine af [] rfl ?_
     refine aC rfl (fun h0=>?_) (fun h0=>aq ?_)
     ·have hno:¬ j6 g (·.l) l v:=(hpf v hle').1 (by rw[hyd];exact h0)
      have hfalse:l1[v]?=some false:=by
       obtain⟨bv,hbv⟩:∃ bv,l1[v]?=some bv:=⟨_,List.getElem?_eq_getElem (by omega)⟩
       cases bv with
       |false=>exact hbv
       |true=>have:=(hS.left v hbv).2 hno;omega
      have hS':w6 (fun u=>gI g l u∧(¬ j6 g (·.l) l u→u<v+1)) (gP g l) K.back l1 r1 m1:=by
       rw[hKb]
       exact⟨fun u hu=>⟨(hS.left u hu).1,fun hn=>by have:=(hS.left u hu).2 hn;omega⟩,hS.right,hS.more⟩
      refine aa (ah [] rfl ?_)
      refine ab [] (ad (v:=K.fn) 8 rfl rfl rfl rfl) rfl ?_
      refine ah [] rfl ?_
      refine ay (K:=[.own (.slice (some ⟨q10,0,none⟩) (nl+1) (nl+1)) 3 1 (nl+1) (aw pr),blk p4 36 [.slice none 0 0,.slice none 0 0],blk p2 24 (eE g A c)]) (fst:=[]) (cap:=[.pointer (some ⟨K.p15,0,none⟩),.pointer (some ⟨K.p7,0,none⟩),.pointer (some ⟨K.p16,0,none⟩),.pointer (some ⟨K.p11,0,none⟩),.pointer (some ⟨K.p17,0,none⟩),.pointer (some ⟨K.p18,0,none⟩)]) []
       (vL K ends hK _ (gP g l) (hAR (v+1)) (by rw[hKb];exact hAL (v+1)) (l1.count false) l1 r1 m1 v (Nat.le_refl _) (by rw[hKl];exact hl1) (by rw[hKr];exact hr1) hfalse ⟨.free v hv1 (by omega) hno,fun _=>by omega⟩ hS') rfl rfl rfl rfl (by kernel_rfl) (aH.perm List.perm_append_comm) trivial (fun _=>rfl) ?_
      rintro vv H' ⟨l2,r2,m2,rfl,hW2,hS2,hl2⟩
      rw[hKb] at hW2 hS2
      refine⟨cT rfl (cJ _ _),?_⟩
      refine b6 (aH.perm List.perm_append_comm) ?_
      refine aj ?_
      refine aa (af [] rfl ?_)
      refine⟨(v+1,l2,r2,m2),⟨?_,rfl,rfl,rfl,rfl,rfl,rfl,rfl,trivial⟩,aH.refl,⟨by simp only;omega,by simp only;omega,hW.trans hW2,hS2,fun u h1 h2 hn=>?_⟩,by simp only;omega⟩
      ·show some (Value.int .i64 (IntKind.i64.wrap ((v:Int)+1)))=_
       rw[bK (by omega)];rfl
      ·by_cases e:u=v
       ·subst e;exact hl2
       ·exact hW2.lm u (hall u h1 (by simp only at h2;omega) hn)
     ·skip
      refine aa (af [] rfl ?_)
      have hmt:j6 g (·.l) l v:=Classical.byContradiction fun h=>h0 (by have:=(hpf v hle').2 h;rw[hyd] at this;exact this)
      refine⟨(v+1,l1,r1,m1),⟨?_,rfl,rfl,rfl,rfl,rfl,rfl,rfl,trivial⟩,aH.refl,⟨by simp only;omega,by simp only;omega,hW,⟨fun u hu=>⟨(hS.left u hu).1,fun hn=>by have:=(hS.left u hu).2 hn;simp only;omega⟩,hS.right,hS.more⟩,fun u h1 h2 hn=>?_⟩,by simp only;omega⟩
      ·show some (Value.int .i64 (IntKind.i64.wrap ((v:Int)+1)))=_
       rw[bK (by omega)];rfl
      ·by_cases e:u=v
       ·subst e;exact absurd hmt hn
       ·exact hall u h1 (by simp only at h2;omega) hn
    ·obtain rfl:v=nl+1:=by omega
     refine ae (ae (aa (ah [] rfl ?_)))
     refine ab [] (ad 7 rfl rfl rfl rfl) rfl ?_
     refine af [] rfl ?_
     have hl1':l1.length=K.nl+1:=by omega
     have hr1':r1.length=K.nr+1:=by omega
     have hL1:∀ u:Nat,u≤nl→(l1[u]?=some true↔gI g l u):=by
      intro u hu
      refine⟨fun h=>(hS.left u h).1,fun h=>?_⟩
      clear hu
      induction h with
      |free u h1 h2 h3=>exact hall u h1 (by omega) h3
      |step e a x _ he hx ha har ih=>
       have hb:=hg.edge e he
       have hab:=hg.edge a (List.mem_of_getElem? ha)
       have q1:=hW.newL _ ih (by rw[List.getElem?_replicate];split<;>simp) e.r (hen2 e he)
       have q2:=hW.newR _ q1 (by rw[List.getElem?_replicate];split<;>simp)
       have q3:bk.getD e.r.toNat 0=a.l:=by
        rw[List.getD_eq_getElem?_getD,hbk,jn hg hM (key:=(·.r)) (val:=(·.l)) (.inr rfl) (n:=nr+1) (v:=e.r.toNat) (by omega) hx ha (by show a.r=_;omega)];rfl
       have:=q2.2 (by rw[q3];omega)
       rwa [q3] at this
     have hR1:∀ w:Nat,(r1[w]?=some true↔gP g l w):=by
      intro w
      refine⟨fun h=>hS.right w h,fun ⟨e,he,hal,her⟩=>?_⟩
      have hb:=hg.edge e he
      have q1:=hW.newL _ ((hL1 e.l.toNat (by omega)).2 hal) (by rw[List.getElem?_replicate];split<;>simp) e.r (hen2 e he)
      rwa [show e.r.toNat=w by omega] at q1
     cases m1 with
     |true=>
      refine bz rfl ?_
      refine ae (aa ?_)
      refine ab [] (bg rfl rfl rfl rfl rfl rfl) rfl ?_
      refine aD 1 rfl rfl rfl rfl rfl [] rfl ?_
      refine af [] rfl ?_
      refine aB ?_
      obtain⟨w,hw,hw0⟩:=hS.more rfl
      obtain⟨e,he,_,her⟩:=id hw
      have:=hg.edge e he
      exact⟨[_,_],[],_,⟨⟨p4,1,_,_,rfl,rfl,rfl⟩,rfl,trivial⟩,by decide,rfl,.inr (.inl ⟨hM,⟨w,hw,hmet w (by omega) hw0⟩,rfl,rfl⟩)⟩
     |false=>
      refine bP rfl (aq ?_)
      have T1:=nm (some ⟨K.gl,0,none⟩) (K.nl+1) K.gl 0 l1 (fun _=>rfl) (by omega) false
      have T2:=nm (some ⟨K.gr,0,none⟩) (K.nr+1) K.gr 0 r1 (fun _=>rfl) (by omega) true
      rw[hl1'] at T1
      rw[hr1'] at T2
      refine ae ?_
      refine bq 7 [(0,true),(2,true),(1,false),(3,false),(4,true),(5,false),(6,true)] [3,5] (by kernel_rfl) (by decide) rfl ?_
      refine ai [] rfl (ad 0 rfl rfl rfl rfl) rfl ?_
      refine ai [] rfl (ad 1 rfl rfl rfl rfl) rfl ?_
      refine bc rfl ?_
      refine ax [] T1 rfl rfl rfl rfl (by kernel_rfl) ⟨⟨9,_,by simp,rfl,cp,.inr rfl⟩,trivial⟩ (fun _=>rfl) ?_
      rintro v H' ⟨Al,cl,rfl,rfl⟩
      refine⟨rfl,aj ⟨⟨[4,6],by decide,rfl⟩,?_⟩⟩
      refine bc rfl ?_
      refine ax [] T2 rfl rfl rfl rfl (by kernel_rfl) ⟨⟨11,_,by simp,rfl,cp,.inr rfl⟩,trivial⟩ (fun _=>rfl) ?_
      rintro v H' ⟨Ar,cr,rfl,rfl⟩
      refine⟨rfl,aj ⟨⟨[5,7],by decide,rfl⟩,?_⟩⟩
      refine ai [] rfl (bg rfl rfl rfl rfl rfl rfl) rfl ?_
      refine bc rfl ?_
      refine aD 3 rfl rfl rfl rfl rfl [] rfl ?_
      refine aj ⟨⟨[5,7],by decide,rfl⟩,?_⟩
      refine cA [] rfl ?_
      refine aj ?_
      refine aB ?_
      refine⟨[_,_],[0,1],_,⟨⟨p4,3,_,_,rfl,rfl,rfl⟩,rfl,trivial⟩,by decide,rfl,.inl ⟨hM,fun w hw=>?_,be l1 false (K.nl+1),be r1 true (K.nr+1),Al,Ar,cl,cr,⟨eC _ _ _,fun x hx=>?_⟩,⟨eC _ _ _,fun x hx=>?_⟩,fun v h1 h2=>?_,fun w h1 h2=>?_,rfl,rfl⟩⟩
      ·refine Classical.byContradiction fun hno=>?_
       obtain⟨e,he,_,her⟩:=id hw
       have:=hg.edge e he
       have q2:=hW.newR w ((hR1 w).2 hw) (by rw[List.getElem?_replicate];split<;>simp)
       exact absurd (q2.1 (hfree w (by omega) hno)) (by decide)
      ·obtain⟨v,h1,h2,_,rfl⟩:=dK.1 hx;omega
      ·obtain⟨v,h1,h2,_,rfl⟩:=dK.1 hx;omega
      ·rw[dK,← hL1 v (by omega)]
       constructor
       ·rintro⟨u,_,_,h3,h4⟩
        obtain rfl:v=u:=by omega
        rw[h3];decide
       ·intro h
        obtain⟨bv,hbv⟩:∃ bv,l1[v]?=some bv:=⟨_,List.getElem?_eq_getElem (by omega)⟩
        refine⟨v,by omega,by omega,?_,rfl⟩
        cases bv with
        |false=>exact hbv
        |true=>exact absurd hbv h
      ·rw[dK,← hR1 w]
       constructor
       ·rintro⟨u,_,_,h3,h4⟩
        obtain rfl:w=u:=by omega
        exact h3
       ·intro h
        exact⟨w,by omega,by omega,h,rfl⟩
end Go.Proofs.YtpbmihpjgjbndaaGreat
