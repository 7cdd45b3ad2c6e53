/- Whether edges are a matching. -/
import Derived.Test.YtpbmihpjgjbndaaGreatQX30
set_option linter.unusedVariables false
set_option linter.unusedSimpArgs false
namespace Go.Proofs.YtpbmihpjgjbndaaGreat
open Go.RowKit
structure bC (g:Gr) (l:List Int):Prop where
 rise:l.Pairwise (·<·)
 rng:∀ x∈l,0≤x∧x<g.edges.length
 apart:l.Pairwise fun x y=>∀ a b,g.edges[x.toNat]?=some a→g.edges[y.toNat]?=some b→a.l≠b.l∧a.r≠b.r
theorem bC.snoc {g:Gr} {l:List Int} {x:Int} {e:fJ} (he:g.edges[x.toNat]?=some e):bC g (l++[x])↔bC g l∧(∀ y∈l,y<x)∧0≤x∧x<g.edges.length∧∀ y∈l,∀ a,g.edges[y.toNat]?=some a→a.l≠e.l∧a.r≠e.r:=by
 constructor
 ·intro h
  obtain⟨h1,_,h3⟩:=List.pairwise_append.1 h.rise
  obtain⟨k1,_,k3⟩:=List.pairwise_append.1 h.apart
  have hx:=h.rng x (by simp)
  exact⟨⟨h1,fun y hy=>h.rng y (by simp[hy]),k1⟩,fun y hy=>h3 y hy x (by simp),hx.1,hx.2,fun y hy a ha=>k3 y hy x (by simp) a e ha he⟩
 ·rintro⟨h,h1,h2,h3,h4⟩
  refine⟨kj h.rise h1,fun y hy=>?_,?_⟩
  ·rcases List.mem_append.1 hy with hy|hy
   ·exact h.rng y hy
   ·rw[List.mem_singleton.1 hy];exact⟨h2,h3⟩
  ·rw[List.pairwise_append]
   refine⟨h.apart,List.pairwise_singleton _ _,fun y hy z hz a b ha hb=>?_⟩
   rw[List.mem_singleton.1 hz,he] at hb
   simp only[Option.some.injEq] at hb
   rw[← hb]
   exact h4 y hy a ha
theorem bC.pre {g:Gr} {l m:List Int} (h:bC g (l++m)):bC g l:=
 ⟨(List.pairwise_append.1 h.rise).1,fun y hy=>h.rng y (by simp[hy]),(List.pairwise_append.1 h.apart).1⟩
def fY (g:Gr) (side:fJ→Int) (n:Nat) (l:List Int):List Bool:=l.foldl (fun m x=>match g.edges[x.toNat]? with|some e=>m.set (side e).toNat true|none=>m) (List.replicate n false)
theorem ma (g:Gr) (side:fJ→Int) (n:Nat) (l:List Int) (x:Int) {e:fJ} (he:g.edges[x.toNat]?=some e):fY g side n (l++[x])=(fY g side n l).set (side e).toNat true:=by
 unfold fY
 rw[List.foldl_append,List.foldl_cons,List.foldl_nil,he]
theorem fi (g:Gr) (side:fJ→Int) (n:Nat) (l:List Int):(fY g side n l).length=n:=by
 unfold fY
 have key:∀ (l:List Int) (m:List Bool),m.length=n→(l.foldl (fun m x=>match g.edges[x.toNat]? with|some e=>m.set (side e).toNat true|none=>m) m).length=n:=by
  intro l
  induction l with
  |nil=>exact fun m h=>h
  |cons x l ih=>
   intro m h
   rw[List.foldl_cons]
   refine ih _ ?_
   split
   ·rw[List.length_set];exact h
   ·exact h
 exact key l _ (by simp)
theorem i9 (g:Gr) (side:fJ→Int) (n v:Nat) (hv:v<n):∀ (l:List Int) (m:List Bool),m.length=n→(∀ x∈l,∀ e,g.edges[x.toNat]?=some e→0≤side e)→
 ((l.foldl (fun m x=>match g.edges[x.toNat]? with|some e=>m.set (side e).toNat true|none=>m) m)[v]?=some true↔m[v]?=some true∨∃ x∈l,∃ e,g.edges[x.toNat]?=some e∧side e=v)
 |[],m,_,_=>by simp
 |x::l,m,hm,h0=>by
  rw[List.foldl_cons]
  cases he:g.edges[x.toNat]? with
  |none=>
   simp only
   rw[i9 g side n v hv l m hm fun y hy=>h0 y (by simp[hy])]
   refine or_congr Iff.rfl ⟨fun ⟨y,hy,e,h1,h2⟩=>⟨y,by simp[hy],e,h1,h2⟩,fun ⟨y,hy,e,h1,h2⟩=>?_⟩
   rcases List.mem_cons.1 hy with rfl|hy
   ·rw[he] at h1;cases h1
   ·exact⟨y,hy,e,h1,h2⟩
  |some e=>
   simp only
   have hs:=h0 x (by simp) e he
   rw[i9 g side n v hv l _ (by rw[List.length_set];exact hm) fun y hy=>h0 y (by simp[hy])]
   by_cases hev:side e=v
   ·have e2:(side e).toNat=v:=by omega
    rw[e2,List.getElem?_set_self (by omega)]
    exact⟨fun _=>.inr ⟨x,by simp,e,he,hev⟩,fun _=>.inl rfl⟩
   ·have e2:(side e).toNat≠v:=by omega
    rw[List.getElem?_set_ne e2]
    refine or_congr Iff.rfl ⟨fun ⟨y,hy,a,h1,h2⟩=>⟨y,by simp[hy],a,h1,h2⟩,fun ⟨y,hy,a,h1,h2⟩=>?_⟩
    rcases List.mem_cons.1 hy with rfl|hy
    ·rw[he] at h1
     simp only[Option.some.injEq] at h1
     rw[← h1] at h2
     exact absurd h2 hev
    ·exact⟨y,hy,a,h1,h2⟩
theorem l5 (g:Gr) (side:fJ→Int) (n:Nat) (l:List Int) (v:Nat) (hv:v<n) (h0:∀ x∈l,∀ e,g.edges[x.toNat]?=some e→0≤side e):(fY g side n l)[v]?=some true↔∃ x∈l,∃ e,g.edges[x.toNat]?=some e∧side e=v:=by
 unfold fY
 rw[i9 g side n v hv l _ (by simp) h0,List.getElem?_replicate,if_pos hv]
 simp
def lC (l:List Int) (k:Nat):Int:=((-1:Int)::l)[k]?.getD (-1)
theorem iz {l:List Int} {k:Nat} {x:Int} (hx:l[k]?=some x):lC l (k+1)=x:=by
 unfold lC
 rw[List.getElem?_cons_succ,hx];rfl
theorem tJ {l:List Int} {k:Nat} (_h:(l.take k).Pairwise (·<·)) (hk:k≤l.length) (h0:0≤lC l k):lC l k∈l.take k:=by
 cases k with
 |zero=>exact absurd (show 0≤(-1:Int) from h0) (by decide)
 |succ k=>
  have hx:l[k]?=some l[k]:=List.getElem?_eq_getElem hk
  rw[iz hx,List.take_add_one,hx]
  exact List.mem_append_right _ (List.mem_singleton.2 rfl)
theorem uI {g:Gr} {l:List Int} {k:Nat} (h:∀ x∈l.take k,0≤x∧x<g.edges.length) (hk:k≤l.length):-1≤lC l k:=by
 cases k with
 |zero=>exact Int.le_refl _
 |succ k=>
  have hx:l[k]?=some l[k]:=List.getElem?_eq_getElem hk
  rw[iz hx]
  have:=h l[k] (by rw[List.take_add_one,hx];exact List.mem_append_right _ (List.mem_singleton.2 rfl))
  omega
theorem qf {l:List Int} {k:Nat} (h:(l.take k).Pairwise (·<·)) (hk:k≤l.length):∀ y∈l.take k,y≤lC l k:=by
 intro y hy
 cases k with
 |zero=>simp at hy
 |succ k=>
  have hx:l[k]?=some l[k]:=List.getElem?_eq_getElem hk
  rw[iz hx]
  rw[List.take_add_one,hx] at hy h
  rcases List.mem_append.1 hy with hy|hy
  ·have:=(List.pairwise_append.1 h).2.2 y hy l[k] (by simp);omega
  ·have:y=l[k]:=by simpa using hy
   omega
set_option maxHeartbeats 1000000 in
theorem nc (g:Gr) (hg:g.Right) (A:Option Addr) (c b o:Nat) (hA:g.edges≠[]→A=some ⟨b,o,none⟩) (l:List Int) (hl:l.length≤100000) (hin:∀ x∈l,dw x) (L:Option Addr) (cl bl ol:Nat) (hL:l≠[]→L=some ⟨bl,ol,none⟩):
 Fn 19 [j7 g A c,.slice L l.length cl] [] [.seg b o (cd g.edges),.seg bl ol (aw l)] fun v H'=>v=.bool (cU (bC g l))∧H'=[]:=by
 have h1:=hg.left
 have h2:=hg.right
 have h3:=hg.len
 obtain⟨nl,hnl⟩:∃ n:Nat,g.left=n:=⟨g.left.toNat,by omega⟩
 obtain⟨nr,hnr⟩:∃ n:Nat,g.right=n:=⟨g.right.toNat,by omega⟩
 have hside:∀ (s:fJ→Int),(∀ e∈g.edges,0≤s e)→∀ (k:Nat) x,x∈l.take k→∀ e,g.edges[x.toNat]?=some e→0≤s e:=fun s hs k x _ e he=>hs e (List.mem_of_getElem? he)
 refine aM Tryz.func19 rfl rfl fun w0=>?_
 refine ae (aa ?_)
 refine a6 (cs:=eE g A c) rfl rfl rfl (fun _=>rfl) fun p=>?_
 refine af [] rfl ?_
 refine ae (ae (aa ?_))
 refine ab [] (v:=j7 g A c) (ad 0 rfl rfl rfl rfl) rfl ?_
 refine ax [] (gR g hg A c b o hA) rfl rfl rfl rfl (by kernel_rfl) ⟨⟨1,_,by simp,rfl,ak _ _ _,ap⟩,trivial⟩ (fun _=>rfl) ?_
 rintro v H' ⟨rfl,rfl⟩
 refine⟨rfl,?_⟩
 refine af [] rfl ?_
 refine aC rfl (fun h=>absurd rfl h) (fun _=>aq ?_)
 refine mB (σ:=Nat×Nat) (fun s=>[(5,.slice (some ⟨s.1,0,none⟩) (nl+1) (nl+1)),(6,.slice (some ⟨s.2,0,none⟩) (nr+1) (nr+1)),(2,.pointer (some ⟨p,0,none⟩)),(1,.slice L l.length cl)])
  (fun s=>[.own (.slice (some ⟨s.1,0,none⟩) (nl+1) (nl+1)) 4 1 (nl+1) (aY (List.replicate (nl+1) false)),.own (.slice (some ⟨s.2,0,none⟩) (nr+1) (nr+1)) 4 1 (nr+1) (aY (List.replicate (nr+1) false)),blk p 24 (eE g A c),.seg b o (cd g.edges),.seg bl ol (aw l)]) ?_ ?_
 ·refine n7 (Sf:=[blk p 24 (eE g A c),.seg b o (cd g.edges),.seg bl ol (aw l)]) ?_
  refine nK [0,1,2,4,5,6] (by decide+kernel) [0,1,2] (by decide) rfl ?_
  refine aJ [] rfl ?_
  refine ai [] rfl (ad 0 rfl rfl rfl rfl) rfl ?_
  refine aJ [] rfl ?_
  refine ai [] rfl (ad 0 rfl rfl rfl rfl) rfl ?_
  refine aJ [] rfl ?_
  refine bB ?_
  refine iM 16 (v':=.int .i64 ((nl+1:Nat):Int)) rfl (congrArg (Value.int .i64) ((bK (n:=g.left+1) (by omega)).trans (by omega))) ?_
  refine iM 20 (v':=.int .i64 ((nr+1:Nat):Int)) rfl (congrArg (Value.int .i64) ((bK (n:=g.right+1) (by omega)).trans (by omega))) ?_
  (repeat' (first
   |exact trivial
   |refine bx 3 [7] (by decide+kernel) (by decide) ?_
   |refine bx 7 [8] (by decide+kernel) (by decide) ?_
   |refine bx 3 [9] (by decide+kernel) (by decide) ?_
   |refine bx 8 [9] (by decide+kernel) (by decide) ?_
   |refine bx 3 [] (by decide+kernel) (by decide) ?_
   |refine bx 7 [] (by decide+kernel) (by decide) ?_
   |refine bx 8 [] (by decide+kernel) (by decide) ?_
   |refine bx 9 [] (by decide+kernel) (by decide) ?_
   |refine⟨⟨_,rfl,?_⟩,?_⟩
   |refine cv (n:=nl+1) (c:=nl+1) rfl rfl rfl rfl rfl rfl (by omega) (by omega) (by omega) (fun _=>rfl) fun go=>?_
   |refine cv (n:=nr+1) (c:=nr+1) rfl rfl rfl rfl rfl rfl (by omega) (by omega) (by omega) (fun _=>rfl) fun go=>?_
   |refine aj ⟨⟨[1,2,3],by decide,rfl⟩,?_⟩
   |refine aj ⟨⟨[2,3,4],by decide,rfl⟩,?_⟩
   |refine af [] rfl ⟨⟨[1,2,3],by decide,rfl⟩,?_⟩
   |refine af [] rfl ⟨⟨[2,3,4],by decide,rfl⟩,?_⟩
   |refine lL (by decide+kernel) ⟨(_,_),⟨rfl,rfl,rfl,rfl,trivial⟩,?_⟩))
  all_goals rw[show made [Value.bool false] ((nl+1)*1)=aY (List.replicate (nl+1) false) by rw[ce,Nat.mul_one];simp[aY],show made [Value.bool false] ((nr+1)*1)=aY (List.replicate (nr+1) false) by rw[ce,Nat.mul_one];simp[aY]]
  all_goals (first|exact aH.picks [0,1,2,3,4] (by decide) rfl|exact aH.picks [1,0,2,3,4] (by decide) rfl)
 ·rintro⟨p5,p6⟩
  have hlN:∀ k,∀ x∈l.take k,∀ e,g.edges[x.toNat]?=some e→0≤e.l:=hside (·.l) fun e he=>by have:=(hg.edge e he).1;omega
  have hrN:∀ k,∀ x∈l.take k,∀ e,g.edges[x.toNat]?=some e→0≤e.r:=hside (·.r) fun e he=>by have:=(hg.edge e he).2;omega
  refine ae (aa (af [] rfl ?_))
  refine ae (ae (aa (ah [] rfl ?_)))
  refine af [] rfl ?_
  refine au ?_
  refine bu (σ:=Nat) (fun k=>[(24,.int .i64 k),(23,.int .i64 l.length),(22,.slice L l.length cl),(7,.int .i64 (lC l k)),(5,.slice (some ⟨p5,0,none⟩) (nl+1) (nl+1)),(6,.slice (some ⟨p6,0,none⟩) (nr+1) (nr+1)),(2,.pointer (some ⟨p,0,none⟩))])
   (fun k=>[.own (.slice (some ⟨p5,0,none⟩) (nl+1) (nl+1)) 4 1 (nl+1) (aY (fY g (·.l) (nl+1) (l.take k))),.own (.slice (some ⟨p6,0,none⟩) (nr+1) (nr+1)) 4 1 (nr+1) (aY (fY g (·.r) (nr+1) (l.take k))),blk p 24 (eE g A c),.seg b o (cd g.edges),.seg bl ol (aw l)])
   (fun k=>k≤l.length∧bC g (l.take k)) (fun k=>l.length-k) 0 [0,1,2,3,4] ⟨rfl,rfl,rfl,rfl,rfl,rfl,rfl,trivial⟩ (by decide) rfl ⟨Nat.zero_le _,⟨by simp,by simp,by simp⟩⟩ ?_
  rintro k ⟨hk,hM⟩
  refine ae (aa (af [] rfl ?_))
  refine ae (aC rfl (fun hlt=>aq ?_) (fun hge=>aO ?_))
  ·have hlt:k<l.length:=by omega
   obtain rfl:=hL (by intro h0;rw[h0] at hlt;simp at hlt)
   obtain⟨x,hx⟩:∃ x,l[k]?=some x:=⟨l[k],List.getElem?_eq_getElem hlt⟩
   have hxb:=hin x (List.mem_of_getElem? hx)
   have htk:l.take (k+1)=l.take k++[x]:=by rw[List.take_add_one,hx];rfl
   have hpre:bC g l→bC g (l.take k++[x]):=fun h=>by rw[← htk];exact bC.pre (m:=l.drop (k+1)) (by rw[List.take_append_drop];exact h)
   refine ae (au ?_)
   refine ae (aa (ah [] rfl ?_))
   refine ab [] (cW rfl rfl rfl rfl rfl hlt) rfl ?_
   refine ab [] (aU 4 rfl rfl rfl rfl (aN hx)) rfl ?_
   refine af [] rfl ?_
   refine ae (ae (aa (ah [] rfl ?_)))
   by_cases hle:x≤lC l k
   ·refine av 31 (v':=.bool true) rfl (congrArg Value.bool (az hle)) ?_
    refine af [3] rfl ?_
    refine bz rfl ?_
    refine ae (aa (af [] rfl ?_))
    refine aE [] (by decide) rfl (aB ⟨_,rfl,?_,rfl⟩)
    refine (congrArg Value.bool (aA fun h=>?_)).symm
    have h5:=hpre h
    have h6:=(h5.rng x (by simp)).1
    have h7:=tJ hM.rise hk (by omega)
    have:=(List.pairwise_append.1 h5.rise).2.2 _ h7 x (by simp)
    omega
   refine av 31 (v':=.bool false) rfl (congrArg Value.bool (aA hle)) ?_
   refine ah [3] rfl ?_
   (first|refine ab [3] (ad 0 rfl rfl rfl rfl) rfl ?_|refine ab [3] (ad 1 rfl rfl rfl rfl) rfl ?_|refine ab [3] (ad 2 rfl rfl rfl rfl) rfl ?_|refine ab [3] (ad 3 rfl rfl rfl rfl) rfl ?_|refine ab [3] (ad 4 rfl rfl rfl rfl) rfl ?_|refine ab [3] (ad 5 rfl rfl rfl rfl) rfl ?_|refine ab [3] (ad 6 rfl rfl rfl rfl) rfl ?_|refine ab [3] (ad 7 rfl rfl rfl rfl) rfl ?_)
   refine ah [3] rfl ?_
   refine aj ?_
   refine aC rfl (fun hbig=>?_) (fun hsm=>aq ?_)
   ·refine ae (aa (af [] rfl ?_))
    refine aE [] (by decide) rfl (aB ⟨_,rfl,?_,rfl⟩)
    refine (congrArg Value.bool (aA fun h=>?_)).symm
    have:=((hpre h).rng x (by simp)).2
    omega
   have hx0:0≤x:=by have:=uI hM.rng hk;omega
   obtain⟨m,hm⟩:∃ m:Nat,x=m:=⟨x.toNat,by omega⟩
   subst hm
   have hme:m<g.edges.length:=by omega
   obtain⟨e,he⟩:∃ e,g.edges[m]?=some e:=⟨g.edges[m],List.getElem?_eq_getElem hme⟩
   have her:=hg.edge e (List.mem_of_getElem? he)
   have he':g.edges[((m:Nat):Int).toNat]?=some e:=by rw[Int.toNat_natCast];exact he
   obtain⟨el,hel⟩:∃ n:Nat,e.l=n:=⟨e.l.toNat,by omega⟩
   obtain⟨er,her2⟩:∃ n:Nat,e.r=n:=⟨e.r.toNat,by omega⟩
   have hln:el<nl+1:=by omega
   have hrn:er<nr+1:=by omega
   have hsnoc:=bC.snoc (l:=l.take k) he'
   have hbl:∃ bl,(fY g (·.l) (nl+1) (l.take k))[el]?=some bl:=⟨_,List.getElem?_eq_getElem (by rw[fi];exact hln)⟩
   have hbr:∃ br,(fY g (·.r) (nr+1) (l.take k))[er]?=some br:=⟨_,List.getElem?_eq_getElem (by rw[fi];exact hrn)⟩
   obtain⟨bL,hbL⟩:=hbl
   obtain⟨bR,hbR⟩:=hbr
   have hLg:=l5 g (·.l) (nl+1) (l.take k) el hln (hlN k)
   have hRg:=l5 g (·.r) (nr+1) (l.take k) er hrn (hrN k)
   obtain rfl:=hA (by intro h0;rw[h0] at hme;simp at hme)
   refine ae (aa (ah [] rfl ?_))
   (first|refine ab [] (ad 0 rfl rfl rfl rfl) rfl ?_|refine ab [] (ad 1 rfl rfl rfl rfl) rfl ?_|refine ab [] (ad 2 rfl rfl rfl rfl) rfl ?_|refine ab [] (ad 3 rfl rfl rfl rfl) rfl ?_|refine ab [] (ad 4 rfl rfl rfl rfl) rfl ?_|refine ab [] (ad 5 rfl rfl rfl rfl) rfl ?_|refine ab [] (ad 6 rfl rfl rfl rfl) rfl ?_|refine ab [] (ad 7 rfl rfl rfl rfl) rfl ?_)
   refine ah [] rfl ?_
   refine ab [] (eH rfl rfl rfl rfl rfl hme) rfl ?_
   refine ab [] (aU 3 rfl rfl rfl rfl (eF he)) rfl ?_
   refine aQ rfl rfl rfl (fun _=>rfl) fun p4=>?_
   refine ah [] rfl ?_
   refine aD 0 rfl rfl rfl rfl rfl [] rfl ?_
   refine aj ?_
   refine ae (ae (aa (ah [] rfl ?_)))
   (first|refine ab [] (ad 0 rfl rfl rfl rfl) rfl ?_|refine ab [] (ad 1 rfl rfl rfl rfl) rfl ?_|refine ab [] (ad 2 rfl rfl rfl rfl) rfl ?_|refine ab [] (ad 3 rfl rfl rfl rfl) rfl ?_|refine ab [] (ad 4 rfl rfl rfl rfl) rfl ?_|refine ab [] (ad 5 rfl rfl rfl rfl) rfl ?_|refine ab [] (ad 6 rfl rfl rfl rfl) rfl ?_|refine ab [] (ad 7 rfl rfl rfl rfl) rfl ?_)
   refine av 45 (v':=.int .i64 (el:Int)) rfl (congrArg (Value.int .i64) hel) ?_
   refine ab [] (aI rfl rfl rfl rfl rfl hln) rfl ?_
   refine ab [] (aF 1 rfl rfl rfl (show (aY _)[el]?=some (.bool bL) from cD hbL)) rfl ?_
   refine ah [] rfl ?_
   cases bL with
   |true=>
    refine af [5] rfl ?_
    refine bz rfl ?_
    refine ae (aa (af [] rfl ?_))
    refine aE [] (by decide) rfl (aB ⟨_,rfl,?_,rfl⟩)
    refine (congrArg Value.bool (aA fun h=>?_)).symm
    obtain⟨y,hy,a,h1,h2⟩:=hLg.1 hbL
    exact ((hsnoc.1 (hpre h)).2.2.2.2 y hy a h1).1 (by omega)
   |false=>
   refine ah [5] rfl ?_
   (first|refine ab [5] (ad 0 rfl rfl rfl rfl) rfl ?_|refine ab [5] (ad 1 rfl rfl rfl rfl) rfl ?_|refine ab [5] (ad 2 rfl rfl rfl rfl) rfl ?_|refine ab [5] (ad 3 rfl rfl rfl rfl) rfl ?_|refine ab [5] (ad 4 rfl rfl rfl rfl) rfl ?_|refine ab [5] (ad 5 rfl rfl rfl rfl) rfl ?_|refine ab [5] (ad 6 rfl rfl rfl rfl) rfl ?_|refine ab [5] (ad 7 rfl rfl rfl rfl) rfl ?_)
   refine av 51 (v':=.int .i64 (er:Int)) rfl (congrArg (Value.int .i64) her2) ?_
   refine ab [5] (aI rfl rfl rfl rfl rfl hrn) rfl ?_
   refine ab [5] (aF 2 rfl rfl rfl (show (aY _)[er]?=some (.bool bR) from cD hbR)) rfl ?_
   refine af [5] rfl ?_
   cases bR with
   |true=>
    refine bz rfl ?_
    refine ae (aa (af [] rfl ?_))
    refine aE [] (by decide) rfl (aB ⟨_,rfl,?_,rfl⟩)
    refine (congrArg Value.bool (aA fun h=>?_)).symm
    obtain⟨y,hy,a,h1,h2⟩:=hRg.1 hbR
    exact ((hsnoc.1 (hpre h)).2.2.2.2 y hy a h1).2 (by omega)
   |false=>
   refine bP rfl (aq ?_)
   have hM':bC g (l.take (k+1)):=by
    rw[htk,hsnoc]
    refine⟨hM,fun y hy=>?_,by omega,by omega,fun y hy a ha=>⟨fun h=>?_,fun h=>?_⟩⟩
    ·have:=qf hM.rise hk y hy;omega
    ·have:=hLg.2 ⟨y,hy,a,ha,by show a.l=_;omega⟩
     rw[hbL] at this;cases this
    ·have:=hRg.2 ⟨y,hy,a,ha,by show a.r=_;omega⟩
     rw[hbR] at this;cases this
   refine bq 12 [(0,true),(1,true),(2,true),(3,true),(4,true),(5,true),(6,true),(7,true),(8,false),(9,true),(10,false),(11,true)] [0,3,4,5] (by kernel_rfl) (by decide) rfl ?_
   refine aJ [] rfl ?_
   refine ai [] rfl (ad 0 rfl rfl rfl rfl) rfl ?_
   refine aJ [] rfl ?_
   refine ai [] rfl (ad 0 rfl rfl rfl rfl) rfl ?_
   refine bH 57 (v':=.int .i64 (el:Int)) rfl (congrArg (Value.int .i64) hel) ?_
   refine bH 60 (v':=.int .i64 (er:Int)) rfl (congrArg (Value.int .i64) her2) ?_
   refine aJ [] rfl ?_
   refine ai [] rfl (aI rfl rfl rfl rfl rfl hln) rfl ?_
   refine bc rfl ?_
   refine aG 1 rfl rfl rfl rfl (dn rfl (by rw[fi];omega)) [] rfl ?_
   refine aj ⟨⟨[0,3,4,5],by decide,rfl⟩,?_⟩
   refine ai [] rfl (aI rfl rfl rfl rfl rfl hrn) rfl ?_
   refine bc rfl ?_
   refine aG 2 rfl rfl rfl rfl (dn rfl (by rw[fi];omega)) [] rfl ?_
   refine aj ⟨⟨[0,3,4,5],by decide,rfl⟩,?_⟩
   refine aJ [] rfl ?_
   refine bB ?_
   refine af [] rfl ?_
   refine aa (af [] rfl ?_)
   refine⟨k+1,[1,2,3,4,5],⟨?_,rfl,rfl,?_,rfl,rfl,rfl,trivial⟩,by decide,?_,⟨by omega,hM'⟩,by omega⟩
   ·show some (Value.int .i64 (IntKind.i64.wrap ((k:Int)+1)))=_
    rw[bK (by omega)];rfl
   ·show some (Value.int .i64 _)=_
    rw[iz hx]
   ·rw[htk,ma g (·.l) _ _ _ he',ma g (·.r) _ _ _ he',show e.l.toNat=el by omega,show e.r.toNat=er by omega]
    rfl
  ·refine ae (aa (af [] rfl ?_))
   obtain rfl:k=l.length:=by omega
   rw[List.take_length] at hM
   refine aE [] (by decide) rfl (aB ⟨_,rfl,?_,rfl⟩)
   exact (congrArg Value.bool (az hM)).symm
end Go.Proofs.YtpbmihpjgjbndaaGreat
