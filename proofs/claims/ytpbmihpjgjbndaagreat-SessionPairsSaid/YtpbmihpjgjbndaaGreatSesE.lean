/- The reference's cover of a matching from which no more is come to. -/
import Derived.Test.YtpbmihpjgjbndaaGreatSesD
import Derived.Test.YtpbmihpjgjbndaaGreatQF
import Derived.Test.YtpbmihpjgjbndaaGreatQX27
import Derived.Test.YtpbmihpjgjbndaaGreatQX30
set_option linter.unusedVariables false
set_option linter.unusedSimpArgs false
namespace Go.Proofs.YtpbmihpjgjbndaaGreat
open Go.RowKit
theorem oC {L:List Bool} {i:Nat} (hi:i<L.length) (v:Nat):(L.set i true)[v]?=some true↔v=i∨L[v]?=some true:=by
 rw[List.getElem?_set]
 by_cases h:i=v
 ·subst h;simp[hi]
 ·rw[if_neg h];exact⟨.inr,fun k=>k.resolve_left (fun e=>h e.symm)⟩
theorem xJ {L:List Bool} {i:Nat} (hi:i<L.length) (v:Nat):(L.set i false)[v]?=some true↔v≠i∧L[v]?=some true:=by
 rw[List.getElem?_set]
 by_cases h:i=v
 ·subst h;simp[hi]
 ·rw[if_neg h];exact⟨fun k=>⟨fun e=>h e.symm,k⟩,fun k=>k.2⟩
theorem fS {L:List Bool} {i:Nat} (hi:i<L.length):∃ b,L[i]?=some b:=⟨_,List.getElem?_eq_getElem hi⟩
structure Mk (g:Gr) (l:List Int) (nl nr:Nat) (L R:List Bool):Prop where
 ll:L.length=nl+1
 lr:R.length=nr+1
 left:∀ v:Nat,L[v]?=some true→gI g l v
 right:∀ w:Nat,R[w]?=some true→gP g l w
 free:∀ v:Nat,1≤v→(v:Int)≤g.left→¬ j6 g (·.l) l v→L[v]?=some true
theorem Mk.setR {g:Gr} {l:List Int} {nl nr:Nat} {L R:List Bool} (h:Mk g l nl nr L R) {w:Nat} (hw:w<nr+1) (hA:gP g l w):Mk g l nl nr L (R.set w true):=
 ⟨h.ll,by rw[List.length_set];exact h.lr,h.left,fun v hv=>by
  rcases (oC (by rw[h.lr];exact hw) v).1 hv with rfl|hv
  ·exact hA
  ·exact h.right v hv,h.free⟩
theorem Mk.setL {g:Gr} {l:List Int} {nl nr:Nat} {L R:List Bool} (h:Mk g l nl nr L R) {w:Nat} (hw:w<nl+1) (hA:gI g l w):Mk g l nl nr (L.set w true) R:=
 ⟨by rw[List.length_set];exact h.ll,h.lr,fun v hv=>by
  rcases (oC (by rw[h.ll];exact hw) v).1 hv with rfl|hv
  ·exact hA
  ·exact h.left v hv,h.right,fun v h1 h2 h3=>(oC (by rw[h.ll];exact hw) v).2 (.inr (h.free v h1 h2 h3))⟩
def vq (l:List Int) (L R:List Bool) (i:Nat) (e:fJ):Prop:=(L[e.l.toNat]?=some true→R[e.r.toNat]?=some true)∧((i:Int)∈l→R[e.r.toNat]?=some true→L[e.l.toNat]?=some true)
theorem Mk.all {g:Gr} {l:List Int} {nl nr:Nat} {L R:List Bool} (hg:g.Right) (hM:bC g l) (h:Mk g l nl nr L R) (hc:∀ i e,g.edges[i]?=some e→vq l L R i e):(∀ v:Nat,L[v]?=some true↔gI g l v)∧∀ w:Nat,R[w]?=some true↔gP g l w:=by
 have h1:∀ v,gI g l v→L[v]?=some true:=by
  intro v hv
  induction hv with
  |free v a b d=>exact h.free v a b d
  |step e a x _ he hx ha hr ih=>
   obtain⟨i,hi⟩:=List.mem_iff_getElem?.1 he
   have hR:=(hc i e hi).1 ih
   rw[← hr] at hR
   exact (hc x.toNat a ha).2 (by have:=(hM.rng x hx).1;rw[show ((x.toNat:Nat):Int)=x by omega];exact hx) hR
 refine⟨fun v=>⟨h.left v,h1 v⟩,fun w=>⟨h.right w,?_⟩⟩
 rintro⟨e,he,hl,hw⟩
 obtain⟨i,hi⟩:=List.mem_iff_getElem?.1 he
 have:=(hc i e hi).1 (h1 _ hl)
 rw[hw] at this
 simpa using this
def xY (g:Gr) (l:List Int) (v:Value) (H':Heap):Prop:=∃ (sl sr:List Int) (Al Ar:Option Addr) (cl cr:Nat),cF g.left sl∧cF g.right sr∧(∀ v:Nat,1≤v→(v:Int)≤g.left→((v:Int)∈sl↔¬ gI g l v))∧(∀ w:Nat,1≤w→(w:Int)≤g.right→((w:Int)∈sr↔gP g l w))∧
 v=.tuple #[lE sl sr Al Ar cl cr,.int .i64 0]∧H'=[.own (.slice Al sl.length cl) 3 1 sl.length (aw sl),.own (.slice Ar sr.length cr) 3 1 sr.length (aw sr)]
set_option maxHeartbeats 4000000 in
theorem xa (g:Gr) (hg:g.Right) (hF:g.Fits) (A:Option Addr) (c b o:Nat) (hA:g.edges≠[]→A=some ⟨b,o,none⟩) (l:List Int) (hl:l.length≤100000) (hM:bC g l) (hno:∀ w,gP g l w→j6 g (·.r) l w) (L:Option Addr) (cm bm om:Nat) (hL:l≠[]→L=some ⟨bm,om,none⟩):
 Fn 17 [jG g A c,.slice L l.length cm] [] [.seg b o (cd g.edges),.seg bm om (aw l)] (xY g l):=by
 have h1:=hg.left
 have h2:=hg.right
 have h3:=hg.len
 obtain⟨nl,hnl⟩:∃ n:Nat,g.left=n:=⟨g.left.toNat,by omega⟩
 obtain⟨nr,hnr⟩:∃ n:Nat,g.right=n:=⟨g.right.toNat,by omega⟩
 refine em Tryz.func17 rfl rfl fun w0=>?_
 refine ae (aa ?_)
 refine a6 (cs:=eE g A c) rfl rfl rfl (fun _=>rfl) fun p2=>?_
 refine aQ rfl rfl rfl (fun _=>rfl) fun p4=>?_
 refine af [] rfl ?_
 refine ae (aa ?_)
 refine ab [] (v:=jG g A c) (ad 1 rfl rfl rfl rfl) rfl ?_
 refine ax [] (iv g hF A c b o hA) rfl rfl rfl rfl (by kernel_rfl) ⟨⟨2,_,by simp,rfl,ak _ _ _,ap⟩,trivial⟩ (fun _=>rfl) ?_
 rintro v H' ⟨rfl,rfl⟩
 refine⟨rfl,?_⟩
 rw[(da hF).2 hg]
 refine af [] rfl ?_
 refine ae (ae (aa (ah [] rfl ?_)))
 refine av 22 (v':=.bool true) rfl (congrArg Value.bool (az rfl)) ?_
 refine ah [2] rfl ?_
 refine ab [2] (v:=jG g A c) (ad 1 rfl rfl rfl rfl) rfl ?_
 refine ah [2] rfl ?_
 refine ax [2] (qi g hg hF A c b o hA l hl hM L cm bm om hL) rfl rfl rfl rfl (by kernel_rfl) ⟨⟨2,_,by simp,rfl,ak _ _ _,ap⟩,⟨3,_,by simp,rfl,ak _ _ _,ap⟩,trivial⟩ (fun _=>rfl) ?_
 rintro v H' ⟨rfl,rfl⟩
 refine⟨rfl,?_⟩
 refine ah [2] rfl ?_
 refine aj ?_
 refine bP rfl ?_
 refine aq (ae (ae (aa (af [] rfl ?_))))
 refine aC rfl (fun h=>absurd rfl h) (fun _=>aq ?_)
 refine ae (aa (ah [] rfl ?_))
 (first|refine ab [] (ad 0 rfl rfl rfl rfl) rfl ?_|refine ab [] (ad 1 rfl rfl rfl rfl) rfl ?_|refine ab [] (ad 2 rfl rfl rfl rfl) rfl ?_|refine ab [] (ad 3 rfl rfl rfl rfl) rfl ?_|refine ab [] (ad 4 rfl rfl rfl rfl) rfl ?_|refine ab [] (ad 5 rfl rfl rfl rfl) rfl ?_|refine ab [] (ad 6 rfl rfl rfl rfl) rfl ?_|refine ab [] (ad 7 rfl rfl rfl rfl) rfl ?_)
 refine ah [] rfl ?_
 refine av 34 (v':=.int .i64 ((nl+1:Nat):Int)) rfl (congrArg (Value.int .i64) ((bK (n:=g.left+1) (by omega)).trans (by omega))) ?_
 refine cv (n:=nl+1) (c:=nl+1) rfl rfl rfl rfl rfl rfl (by omega) (by omega) (by omega) (fun _=>rfl) fun p7=>?_
 refine af [] rfl ?_
 refine ae (aa (ah [] rfl ?_))
 (first|refine ab [] (ad 0 rfl rfl rfl rfl) rfl ?_|refine ab [] (ad 1 rfl rfl rfl rfl) rfl ?_|refine ab [] (ad 2 rfl rfl rfl rfl) rfl ?_|refine ab [] (ad 3 rfl rfl rfl rfl) rfl ?_|refine ab [] (ad 4 rfl rfl rfl rfl) rfl ?_|refine ab [] (ad 5 rfl rfl rfl rfl) rfl ?_|refine ab [] (ad 6 rfl rfl rfl rfl) rfl ?_|refine ab [] (ad 7 rfl rfl rfl rfl) rfl ?_)
 refine ah [] rfl ?_
 refine av 38 (v':=.int .i64 ((nr+1:Nat):Int)) rfl (congrArg (Value.int .i64) ((bK (n:=g.right+1) (by omega)).trans (by omega))) ?_
 refine cv (n:=nr+1) (c:=nr+1) rfl rfl rfl rfl rfl rfl (by omega) (by omega) (by omega) (fun _=>rfl) fun p8=>?_
 refine af [] rfl ?_
 refine ae (aa (ah [] rfl ?_))
 (first|refine ab [] (ad 0 rfl rfl rfl rfl) rfl ?_|refine ab [] (ad 1 rfl rfl rfl rfl) rfl ?_|refine ab [] (ad 2 rfl rfl rfl rfl) rfl ?_|refine ab [] (ad 3 rfl rfl rfl rfl) rfl ?_|refine ab [] (ad 4 rfl rfl rfl rfl) rfl ?_|refine ab [] (ad 5 rfl rfl rfl rfl) rfl ?_|refine ab [] (ad 6 rfl rfl rfl rfl) rfl ?_|refine ab [] (ad 7 rfl rfl rfl rfl) rfl ?_)
 refine ah [] rfl ?_
 refine av 42 (v':=.int .i64 ((nr+1:Nat):Int)) rfl (congrArg (Value.int .i64) ((bK (n:=g.right+1) (by omega)).trans (by omega))) ?_
 refine cv (n:=nr+1) (c:=nr+1) rfl rfl rfl rfl rfl rfl (by omega) (by omega) (by omega) (fun _=>rfl) fun p9=>?_
 refine af [] rfl ?_
 rw[show made [Value.bool false] ((nl+1)*1)=aY (List.replicate (nl+1) false) by rw[ce,Nat.mul_one];simp[aY],show made [Value.bool false] ((nr+1)*1)=aY (List.replicate (nr+1) false) by rw[ce,Nat.mul_one];simp[aY]]
 refine ae (ae (aa (af [] rfl ?_)))
 refine au ?_
 refine bu (σ:=Nat×List Bool) (fun s=>[(10,.int .i64 (s.1+1)),(7,.slice (some ⟨p7,0,none⟩) (nl+1) (nl+1)),(8,.slice (some ⟨p8,0,none⟩) (nr+1) (nr+1)),(9,.slice (some ⟨p9,0,none⟩) (nr+1) (nr+1)),(4,.pointer (some ⟨p4,0,none⟩)),(2,.pointer (some ⟨p2,0,none⟩)),(1,.slice L l.length cm)])
  (fun s=>[.own (.slice (some ⟨p7,0,none⟩) (nl+1) (nl+1)) 4 1 (nl+1) (aY s.2),.own (.slice (some ⟨p8,0,none⟩) (nr+1) (nr+1)) 4 1 (nr+1) (aY (List.replicate (nr+1) false)),.own (.slice (some ⟨p9,0,none⟩) (nr+1) (nr+1)) 4 1 (nr+1) (aY (List.replicate (nr+1) false)),blk p4 39 (lF [] [] none none 0 0),blk p2 32 (eE g A c),.seg b o (cd g.edges),.seg bm om (aw l)])
  (fun s=>s.1≤nl∧s.2.length=nl+1∧∀ v:Nat,s.2[v]?=some true↔1≤v∧v≤s.1) (fun s=>nl-s.1) (0,List.replicate (nl+1) false) [2,1,0,3,4,5,6] ⟨rfl,rfl,rfl,rfl,rfl,rfl,rfl,trivial⟩ (by decide) rfl
  ⟨Nat.zero_le _,by simp,fun v=>⟨fun h=>by simp[List.getElem?_replicate] at h,fun h=>by omega⟩⟩ ?_
 rintro⟨k,F⟩ ⟨hk,hFl,hFv⟩
 simp only at hk hFl hFv ⊢
 refine ae (ae (aa (ah [] rfl ?_)))
 (first|refine ab [] (ad 0 rfl rfl rfl rfl) rfl ?_|refine ab [] (ad 1 rfl rfl rfl rfl) rfl ?_|refine ab [] (ad 2 rfl rfl rfl rfl) rfl ?_|refine ab [] (ad 3 rfl rfl rfl rfl) rfl ?_|refine ab [] (ad 4 rfl rfl rfl rfl) rfl ?_|refine ab [] (ad 5 rfl rfl rfl rfl) rfl ?_|refine ab [] (ad 6 rfl rfl rfl rfl) rfl ?_|refine ab [] (ad 7 rfl rfl rfl rfl) rfl ?_)
 refine af [] rfl ?_
 refine aC rfl (fun hlt=>aq ?_) (fun hge=>aO ?_)
 ·refine ae (au ?_)
  refine aa (ah [] rfl ?_)
  refine av 51 (v':=.int .i64 ((k+1:Nat):Int)) rfl rfl ?_
  refine ab [] (aI rfl rfl rfl rfl rfl (show k+1<nl+1 by omega)) rfl ?_
  refine aG 0 rfl rfl rfl rfl (dn rfl (by omega)) [] rfl ?_
  refine aj ?_
  refine aa (af [] rfl ?_)
  refine⟨(k+1,F.set (k+1) true),[0,1,2,3,4,5,6],⟨?_,rfl,rfl,rfl,rfl,rfl,rfl,trivial⟩,by decide,rfl,⟨by simp only;omega,by simp only[List.length_set];exact hFl,fun v=>?_⟩,by simp only;omega⟩
  ·exact congrArg (fun z=>some (Value.int .i64 z)) (bK (by omega))
  ·simp only
   rw[oC (by omega) v,hFv v]
   omega
 obtain rfl:k=nl:=by omega
 refine ae (ae (aa (af [] rfl ?_)))
 refine au ?_
 refine bu (σ:=Nat×List Bool×List Bool) (fun s=>[(11,.int .i64 s.1),(7,.slice (some ⟨p7,0,none⟩) (k+1) (k+1)),(8,.slice (some ⟨p8,0,none⟩) (nr+1) (nr+1)),(9,.slice (some ⟨p9,0,none⟩) (nr+1) (nr+1)),(4,.pointer (some ⟨p4,0,none⟩)),(2,.pointer (some ⟨p2,0,none⟩)),(1,.slice L l.length cm)])
  (fun s=>[.own (.slice (some ⟨p7,0,none⟩) (k+1) (k+1)) 4 1 (k+1) (aY s.2.1),.own (.slice (some ⟨p8,0,none⟩) (nr+1) (nr+1)) 4 1 (nr+1) (aY (List.replicate (nr+1) false)),.own (.slice (some ⟨p9,0,none⟩) (nr+1) (nr+1)) 4 1 (nr+1) (aY s.2.2),blk p4 39 (lF [] [] none none 0 0),blk p2 32 (eE g A c),.seg b o (cd g.edges),.seg bm om (aw l)])
  (fun s=>s.1≤l.length∧s.2.1.length=k+1∧s.2.2.length=nr+1∧(∀ v:Nat,s.2.1[v]?=some true↔(1≤v∧v≤k)∧¬ j6 g (·.l) (l.take s.1) v)∧(∀ v:Nat,s.2.2[v]?=some true↔j6 g (·.r) (l.take s.1) v)) (fun s=>l.length-s.1) (0,F,List.replicate (nr+1) false) [0,1,2,3,4,5,6] ⟨rfl,rfl,rfl,rfl,rfl,rfl,rfl,trivial⟩ (by decide) rfl
  ⟨Nat.zero_le _,hFl,by simp,fun v=>by rw[hFv];exact⟨fun h=>⟨h,fun ⟨x,hx,_⟩=>absurd hx (by simp)⟩,fun h=>h.1⟩,fun v=>⟨fun h=>by simp[List.getElem?_replicate] at h,fun ⟨x,hx,_⟩=>absurd hx (by simp)⟩⟩ ?_
 clear hFl hFv
 rintro⟨j,F,P⟩ ⟨hj,hFl,hPl,hFv,hPv⟩
 simp only at hj hFl hPl hFv hPv ⊢
 refine ae (ae (aa (af [] rfl ?_)))
 refine aC rfl (fun hlt=>aq ?_) (fun hge=>aO ?_)
 ·have hlt:j<l.length:=by omega
  obtain rfl:=hL (by intro h0;rw[h0] at hlt;simp at hlt)
  obtain⟨x,hx⟩:∃ x,l[j]?=some x:=⟨l[j],List.getElem?_eq_getElem hlt⟩
  have hxr:=hM.rng x (List.mem_of_getElem? hx)
  obtain rfl:=hA (by intro h0;rw[h0] at hxr;simp at hxr;omega)
  obtain⟨e,he⟩:∃ e,g.edges[x.toNat]?=some e:=⟨g.edges[x.toNat]'(by omega),List.getElem?_eq_getElem (by omega)⟩
  obtain⟨eg1,eg2⟩:=fw he
  have her:=hg.edge e (List.mem_of_getElem? he)
  have hmet:∀ (key:fJ→Int) (v:Nat),j6 g key (l.take (j+1)) v↔j6 g key (l.take j) v∨key e=v:=by
   intro key v
   rw[show l.take (j+1)=l.take j++[x] by rw[List.take_add_one,hx];rfl]
   constructor
   ·rintro⟨y,hy,a,ha,hk⟩
    rcases List.mem_append.1 hy with hy|hy
    ·exact .inl ⟨y,hy,a,ha,hk⟩
    ·rw[List.mem_singleton.1 hy,he] at ha
     exact .inr (by rw[Option.some.inj ha];exact hk)
   ·rintro (⟨y,hy,a,ha,hk⟩|hk)
    ·exact⟨y,by simp[hy],a,ha,hk⟩
    ·exact⟨x,by simp,e,he,hk⟩
  refine ae (au ?_)
  refine ae ?_
  refine bq 11 [(0,true),(1,true),(2,true),(3,true),(4,true),(5,true),(6,true),(7,true),(8,true),(9,true),(10,true)] [4,5,6] (by kernel_rfl) (by decide) rfl ?_
  (repeat' (first
   |refine aL (gs:=[999]) rfl rfl ?_
   |refine ai [999] rfl (ad (v:=.slice (some ⟨b,o,none⟩) g.edges.length c) 0 rfl rfl rfl rfl) rfl ?_
   |refine ai [999] rfl (cW rfl rfl rfl rfl rfl hlt) rfl ?_
   |refine ai [999] rfl (aU (v:=.int .i64 x) 2 rfl rfl rfl rfl (aN hx)) rfl ?_))
  refine bH 65 (v':=.int .i64 ((x.toNat:Nat):Int)) rfl (congrArg (Value.int .i64) (by omega)) ?_
  refine ai [] rfl (eH rfl rfl rfl rfl rfl (by omega)) rfl ?_
  (repeat' (first
   |refine aL (gs:=[999]) rfl rfl ?_
   |refine ai [999] rfl (ad (v:=.slice (some ⟨b,o,none⟩) g.edges.length c) 0 rfl rfl rfl rfl) rfl ?_
   |refine ai [999] rfl (cW rfl rfl rfl rfl rfl hlt) rfl ?_
   |refine ai [999] rfl (aU (v:=.int .i64 x) 2 rfl rfl rfl rfl (aN hx)) rfl ?_))
  refine ai [] rfl (aU (v:=.int .i64 e.l) 1 rfl rfl rfl rfl eg1) rfl ?_
  refine bH 68 (v':=.int .i64 ((e.l.toNat:Nat):Int)) rfl (congrArg (Value.int .i64) (by omega)) ?_
  refine ai [] rfl (aI rfl rfl rfl rfl rfl (show e.l.toNat<k+1 by omega)) rfl ?_
  refine bB ?_
  refine aG 0 rfl rfl rfl rfl (dn rfl (by omega)) [] rfl ?_
  refine aj ?_
  refine bq 11 [(0,true),(1,true),(2,true),(3,true),(4,true),(5,true),(6,true),(7,true),(8,true),(9,true),(10,true)] [4,5,6] (by kernel_rfl) (by decide) rfl ?_
  (repeat' (first
   |refine aL (gs:=[999]) rfl rfl ?_
   |refine ai [999] rfl (ad (v:=.slice (some ⟨b,o,none⟩) g.edges.length c) 0 rfl rfl rfl rfl) rfl ?_
   |refine ai [999] rfl (cW rfl rfl rfl rfl rfl hlt) rfl ?_
   |refine ai [999] rfl (aU (v:=.int .i64 x) 2 rfl rfl rfl rfl (aN hx)) rfl ?_))
  refine bH 76 (v':=.int .i64 ((x.toNat:Nat):Int)) rfl (congrArg (Value.int .i64) (by omega)) ?_
  refine ai [] rfl (eH rfl rfl rfl rfl rfl (by omega)) rfl ?_
  (repeat' (first
   |refine aL (gs:=[999]) rfl rfl ?_
   |refine ai [999] rfl (ad (v:=.slice (some ⟨b,o,none⟩) g.edges.length c) 0 rfl rfl rfl rfl) rfl ?_
   |refine ai [999] rfl (cW rfl rfl rfl rfl rfl hlt) rfl ?_
   |refine ai [999] rfl (aU (v:=.int .i64 x) 2 rfl rfl rfl rfl (aN hx)) rfl ?_))
  refine ai [] rfl (aU (v:=.int .i64 e.r) 1 rfl rfl rfl rfl eg2) rfl ?_
  refine bH 79 (v':=.int .i64 ((e.r.toNat:Nat):Int)) rfl (congrArg (Value.int .i64) (by omega)) ?_
  refine ai [] rfl (aI rfl rfl rfl rfl rfl (show e.r.toNat<nr+1 by omega)) rfl ?_
  refine bB ?_
  refine aG 2 rfl rfl rfl rfl (dn rfl (by omega)) [] rfl ?_
  refine aj ?_
  refine aa (af [] rfl ?_)
  refine⟨(j+1,F.set e.l.toNat false,P.set e.r.toNat true),[0,1,2,3,4,5,6],⟨?_,rfl,rfl,rfl,rfl,rfl,rfl,trivial⟩,by decide,rfl,⟨by simp only;omega,by simp only[List.length_set];exact hFl,by simp only[List.length_set];exact hPl,fun v=>?_,fun v=>?_⟩,by simp only;omega⟩
  ·exact congrArg (fun z=>some (Value.int .i64 z)) (bK (by omega))
  ·simp only
   rw[xJ (by omega) v,hFv v,hmet (·.l) v]
   constructor
   ·rintro⟨a1,a2,a3⟩
    exact⟨a2,fun h=>h.elim a3 fun h=>by omega⟩
   ·rintro⟨a1,a2⟩
    exact⟨fun h=>a2 (.inr (by omega)),a1,fun h=>a2 (.inl h)⟩
  ·simp only
   rw[oC (by omega) v,hPv v,hmet (·.r) v]
   constructor
   ·rintro (h|h)
    ·exact .inr (by omega)
    ·exact .inl h
   ·rintro (h|h)
    ·exact .inr h
    ·exact .inl (by omega)
 obtain rfl:j=l.length:=by omega
 rw[List.take_length] at hFv hPv
 refine ae (aa (af [] rfl ?_))
 refine ae (au ?_)
 refine bu (σ:=Bool×List Bool×List Bool) (fun s=>[(12,.bool s.1),(7,.slice (some ⟨p7,0,none⟩) (k+1) (k+1)),(8,.slice (some ⟨p8,0,none⟩) (nr+1) (nr+1)),(9,.slice (some ⟨p9,0,none⟩) (nr+1) (nr+1)),(4,.pointer (some ⟨p4,0,none⟩)),(2,.pointer (some ⟨p2,0,none⟩)),(1,.slice L l.length cm)])
  (fun s=>[.own (.slice (some ⟨p7,0,none⟩) (k+1) (k+1)) 4 1 (k+1) (aY s.2.1),.own (.slice (some ⟨p8,0,none⟩) (nr+1) (nr+1)) 4 1 (nr+1) (aY s.2.2),.own (.slice (some ⟨p9,0,none⟩) (nr+1) (nr+1)) 4 1 (nr+1) (aY P),blk p4 39 (lF [] [] none none 0 0),blk p2 32 (eE g A c),.seg b o (cd g.edges),.seg bm om (aw l)])
  (fun s=>Mk g l k nr s.2.1 s.2.2∧(s.1=false→∀ i e,g.edges[i]?=some e→vq l s.2.1 s.2.2 i e)) (fun s=>2*(s.2.1.count false+s.2.2.count false)+(if s.1=true then 1 else 0)) (true,F,List.replicate (nr+1) false) [0,1,2,3,4,5,6] ⟨rfl,rfl,rfl,rfl,rfl,rfl,rfl,trivial⟩ (by decide) rfl
  ⟨⟨hFl,by simp,fun v hv=>by
    have:=(hFv v).1 hv
    exact .free v this.1.1 (by omega) this.2,fun w hw=>by simp[List.getElem?_replicate] at hw,fun v a b d=>(hFv v).2 ⟨⟨a,by omega⟩,d⟩⟩,fun h=>Bool.noConfusion h⟩ ?_
 clear hFl hFv
 rintro⟨mo,F,G⟩ ⟨hMk,hSh⟩
 simp only at hMk hSh ⊢
 refine ae (ae (aa (af [] rfl ?_)))
 cases mo with
 |true=>
  refine bz rfl (aq ?_)
  refine au (ae (aa (af [] rfl ?_)))
  refine ae (aa (af [] rfl ?_))
  refine au ?_
  refine bu (σ:=Nat×Bool×List Bool×List Bool) (fun s=>[(13,.int .i64 s.1),(12,.bool s.2.1),(7,.slice (some ⟨p7,0,none⟩) (k+1) (k+1)),(8,.slice (some ⟨p8,0,none⟩) (nr+1) (nr+1)),(9,.slice (some ⟨p9,0,none⟩) (nr+1) (nr+1)),(4,.pointer (some ⟨p4,0,none⟩)),(2,.pointer (some ⟨p2,0,none⟩)),(1,.slice L l.length cm)])
   (fun s=>[.own (.slice (some ⟨p7,0,none⟩) (k+1) (k+1)) 4 1 (k+1) (aY s.2.2.1),.own (.slice (some ⟨p8,0,none⟩) (nr+1) (nr+1)) 4 1 (nr+1) (aY s.2.2.2),.own (.slice (some ⟨p9,0,none⟩) (nr+1) (nr+1)) 4 1 (nr+1) (aY P),blk p4 39 (lF [] [] none none 0 0),blk p2 32 (eE g A c),.seg b o (cd g.edges),.seg bm om (aw l)])
   (fun s=>s.1≤g.edges.length∧Mk g l k nr s.2.2.1 s.2.2.2∧(s.2.1=false→s.2.2.1=F∧s.2.2.2=G∧∀ i e,i<s.1→g.edges[i]?=some e→vq l F G i e)∧(s.2.1=true→s.2.2.1.count false+s.2.2.2.count false<F.count false+G.count false)) (fun s=>g.edges.length-s.1) (0,false,F,G) [0,1,2,3,4,5,6] ⟨rfl,rfl,rfl,rfl,rfl,rfl,rfl,rfl,trivial⟩ (by decide) rfl
   ⟨Nat.zero_le _,hMk,fun _=>⟨rfl,rfl,fun i e h=>absurd h (by omega)⟩,fun h=>Bool.noConfusion h⟩ ?_
  rintro⟨j,m1,F1,G1⟩ ⟨hj,hM1,hn1,hy1⟩
  simp only at hj hM1 hn1 hy1 ⊢
  refine ae (ae (aa (ah [] rfl ?_)))
  (first|refine ab [] (ad 0 rfl rfl rfl rfl) rfl ?_|refine ab [] (ad 1 rfl rfl rfl rfl) rfl ?_|refine ab [] (ad 2 rfl rfl rfl rfl) rfl ?_|refine ab [] (ad 3 rfl rfl rfl rfl) rfl ?_|refine ab [] (ad 4 rfl rfl rfl rfl) rfl ?_|refine ab [] (ad 5 rfl rfl rfl rfl) rfl ?_|refine ab [] (ad 6 rfl rfl rfl rfl) rfl ?_|refine ab [] (ad 7 rfl rfl rfl rfl) rfl ?_)
  refine af [] rfl ?_
  refine aC rfl (fun hlt=>aq ?_) (fun hge=>aO ?_)
  ·have hlt:j<g.edges.length:=by omega
   obtain rfl:=hA (by intro h0;rw[h0] at hlt;simp at hlt)
   obtain⟨e,he⟩:∃ e,g.edges[j]?=some e:=⟨g.edges[j],List.getElem?_eq_getElem hlt⟩
   have heM:=List.mem_of_getElem? he
   have her:=hg.edge e heM
   have hlF:=hM1.ll
   have hlG:=hM1.lr
   refine ae (au ?_)
   refine ae (aa (ah [] rfl ?_))
   (first|refine ab [] (ad 0 rfl rfl rfl rfl) rfl ?_|refine ab [] (ad 1 rfl rfl rfl rfl) rfl ?_|refine ab [] (ad 2 rfl rfl rfl rfl) rfl ?_|refine ab [] (ad 3 rfl rfl rfl rfl) rfl ?_|refine ab [] (ad 4 rfl rfl rfl rfl) rfl ?_|refine ab [] (ad 5 rfl rfl rfl rfl) rfl ?_|refine ab [] (ad 6 rfl rfl rfl rfl) rfl ?_|refine ab [] (ad 7 rfl rfl rfl rfl) rfl ?_)
   refine ah [] rfl ?_
   refine ab [] (eH rfl rfl rfl rfl rfl hlt) rfl ?_
   refine ab [] (aU 5 rfl rfl rfl rfl (lZ he)) rfl ?_
   refine aQ rfl rfl rfl (fun _=>rfl) fun p14=>?_
   refine ah [] rfl ?_
   refine aD 0 rfl rfl rfl rfl rfl [] rfl ?_
   refine aj ?_
   obtain⟨bl,hbl⟩:=fS (L:=F1) (i:=e.l.toNat) (by omega)
   obtain⟨br,hbr⟩:=fS (L:=G1) (i:=e.r.toNat) (by omega)
   obtain⟨q1,hq1⟩:∃ q1,q1=(bl&&!br):=⟨_,rfl⟩
   obtain⟨G2,hG2⟩:∃ G2,G2=if q1=true then G1.set e.r.toNat true else G1:=⟨_,rfl⟩
   obtain⟨m2,hm2⟩:∃ m2,m2=if q1=true then true else m1:=⟨_,rfl⟩
   have hM2:Mk g l k nr F1 G2:=by
    rw[hG2]
    cases q1 with
    |false=>exact hM1
    |true=>
     refine hM1.setR (by omega) ⟨e,heM,hM1.left _ ?_,by omega⟩
     rw[hbl]
     cases bl with
     |true=>rfl
     |false=>exact Bool.noConfusion hq1
   have hlG2:=hM2.lr
   have hk2:(q1=false∧G2=G1∧m2=m1∧(F1[e.l.toNat]?=some true→G2[e.r.toNat]?=some true))∨(q1=true∧m2=true∧F1.count false+G2.count false<F1.count false+G1.count false):=by
    cases q1 with
    |false=>
     refine .inl ⟨rfl,by rw[hG2];rfl,by rw[hm2];rfl,fun h=>?_⟩
     rw[show G2=G1 by rw[hG2];rfl,hbr]
     rw[hbl] at h
     simp only[Option.some.injEq] at h
     subst h
     cases br with
     |true=>rfl
     |false=>exact Bool.noConfusion hq1
    |true=>
     have hb2:br=false:=by
      cases br with
      |false=>rfl
      |true=>cases bl<;>exact Bool.noConfusion hq1
     subst hb2
     have:=iD G1 _ hbr
     have e2:G2=G1.set e.r.toNat true:=by rw[hG2];rfl
     exact .inr ⟨rfl,by rw[hm2];rfl,by rw[e2];omega⟩
   refine dg [(14,.pointer (some ⟨p14,0,none⟩)),(13,.int .i64 j),(12,.bool m2),(7,.slice (some ⟨p7,0,none⟩) (k+1) (k+1)),(8,.slice (some ⟨p8,0,none⟩) (nr+1) (nr+1)),(9,.slice (some ⟨p9,0,none⟩) (nr+1) (nr+1)),(4,.pointer (some ⟨p4,0,none⟩)),(2,.pointer (some ⟨p2,0,none⟩)),(1,.slice L l.length cm)] (blk p14 55 [.int .i64 e.l,.int .i64 e.r]::[.own (.slice (some ⟨p7,0,none⟩) (k+1) (k+1)) 4 1 (k+1) (aY F1),.own (.slice (some ⟨p8,0,none⟩) (nr+1) (nr+1)) 4 1 (nr+1) (aY G2),.own (.slice (some ⟨p9,0,none⟩) (nr+1) (nr+1)) 4 1 (nr+1) (aY P),blk p4 39 (lF [] [] none none 0 0),blk p2 32 (eE g (some ⟨b,o,none⟩) c),.seg b o (cd g.edges),.seg bm om (aw l)]) ?_ ?_
   ·refine (mB (σ:=Unit) (fun _=>[(106,.bool (bl&&!br)),(14,.pointer (some ⟨p14,0,none⟩)),(13,.int .i64 j),(12,.bool m1),(7,.slice (some ⟨p7,0,none⟩) (k+1) (k+1)),(8,.slice (some ⟨p8,0,none⟩) (nr+1) (nr+1)),(9,.slice (some ⟨p9,0,none⟩) (nr+1) (nr+1)),(4,.pointer (some ⟨p4,0,none⟩)),(2,.pointer (some ⟨p2,0,none⟩)),(1,.slice L l.length cm)])
     (fun _=>blk p14 55 [.int .i64 e.l,.int .i64 e.r]::[.own (.slice (some ⟨p7,0,none⟩) (k+1) (k+1)) 4 1 (k+1) (aY F1),.own (.slice (some ⟨p8,0,none⟩) (nr+1) (nr+1)) 4 1 (nr+1) (aY G1),.own (.slice (some ⟨p9,0,none⟩) (nr+1) (nr+1)) 4 1 (nr+1) (aY P),blk p4 39 (lF [] [] none none 0 0),blk p2 32 (eE g (some ⟨b,o,none⟩) c),.seg b o (cd g.edges),.seg bm om (aw l)]) ?_ ?_)
    ·skip
     refine aa (ah [] rfl ?_)
     (first|refine ab [] (ad 0 rfl rfl rfl rfl) rfl ?_|refine ab [] (ad 1 rfl rfl rfl rfl) rfl ?_|refine ab [] (ad 2 rfl rfl rfl rfl) rfl ?_|refine ab [] (ad 3 rfl rfl rfl rfl) rfl ?_|refine ab [] (ad 4 rfl rfl rfl rfl) rfl ?_|refine ab [] (ad 5 rfl rfl rfl rfl) rfl ?_|refine ab [] (ad 6 rfl rfl rfl rfl) rfl ?_|refine ab [] (ad 7 rfl rfl rfl rfl) rfl ?_)
     refine av 96 (v':=.int .i64 ((e.l.toNat:Nat):Int)) rfl (congrArg (Value.int .i64) (by omega)) ?_
     refine ab [] (aI rfl rfl rfl rfl rfl (show e.l.toNat<k+1 by omega)) rfl ?_
     refine ab [] (aF 1 rfl rfl rfl (show (aY _)[e.l.toNat]?=some (.bool bl) from cD hbl)) rfl ?_
     cases bl with
     |false=>
      refine ah [5] rfl ?_
      exact aj ⟨(),⟨rfl,rfl,rfl,rfl,rfl,rfl,rfl,rfl,rfl,rfl,trivial⟩,aH.refl⟩
     |true=>
      refine ah [5] rfl ?_
      (first|refine ab [5] (ad 0 rfl rfl rfl rfl) rfl ?_|refine ab [5] (ad 1 rfl rfl rfl rfl) rfl ?_|refine ab [5] (ad 2 rfl rfl rfl rfl) rfl ?_|refine ab [5] (ad 3 rfl rfl rfl rfl) rfl ?_|refine ab [5] (ad 4 rfl rfl rfl rfl) rfl ?_|refine ab [5] (ad 5 rfl rfl rfl rfl) rfl ?_|refine ab [5] (ad 6 rfl rfl rfl rfl) rfl ?_|refine ab [5] (ad 7 rfl rfl rfl rfl) rfl ?_)
      refine av 102 (v':=.int .i64 ((e.r.toNat:Nat):Int)) rfl (congrArg (Value.int .i64) (by omega)) ?_
      refine ab [5] (aI rfl rfl rfl rfl rfl (show e.r.toNat<nr+1 by omega)) rfl ?_
      refine ab [5] (aF 2 rfl rfl rfl (show (aY _)[e.r.toNat]?=some (.bool br) from cD hbr)) rfl ?_
      refine ah [5] rfl ?_
      refine aj ⟨(),⟨?_,rfl,rfl,rfl,rfl,rfl,rfl,rfl,rfl,rfl,trivial⟩,aH.refl⟩
      cases br<;>rfl
    rintro-
    rw[← hq1]
    cases q1 with
    |false=>
     refine bP rfl (aq ?_)
     rw[show G2=G1 by rw[hG2];rfl,show m2=m1 by rw[hm2];rfl]
     exact⟨[0,1,2,3,4,5,6,7],⟨rfl,rfl,rfl,rfl,rfl,rfl,rfl,rfl,rfl,trivial⟩,by decide,rfl⟩
    |true=>
     refine bz rfl ?_
     rw[show G2=G1.set e.r.toNat true by rw[hG2];rfl,show m2=true by rw[hm2];rfl]
     refine ae (aa (ah [] rfl ?_))
     (first|refine ab [] (ad 0 rfl rfl rfl rfl) rfl ?_|refine ab [] (ad 1 rfl rfl rfl rfl) rfl ?_|refine ab [] (ad 2 rfl rfl rfl rfl) rfl ?_|refine ab [] (ad 3 rfl rfl rfl rfl) rfl ?_|refine ab [] (ad 4 rfl rfl rfl rfl) rfl ?_|refine ab [] (ad 5 rfl rfl rfl rfl) rfl ?_|refine ab [] (ad 6 rfl rfl rfl rfl) rfl ?_|refine ab [] (ad 7 rfl rfl rfl rfl) rfl ?_)
     refine av 109 (v':=.int .i64 ((e.r.toNat:Nat):Int)) rfl (congrArg (Value.int .i64) (by omega)) ?_
     refine ab [] (aI rfl rfl rfl rfl rfl (show e.r.toNat<nr+1 by omega)) rfl ?_
     refine aG 2 rfl rfl rfl rfl (dn rfl (by omega)) [] rfl ?_
     refine aj ?_
     refine aa (af [] rfl ?_)
     exact⟨[0,1,2,3,4,5,6,7],⟨rfl,rfl,rfl,rfl,rfl,rfl,rfl,rfl,rfl,trivial⟩,by decide,rfl⟩
   obtain⟨br2,hbr2⟩:=fS (L:=G2) (i:=e.r.toNat) (by omega)
   obtain⟨q2,hq2⟩:∃ q2,q2=(cU ((j:Int)∈l)&&(br2&&!bl)):=⟨_,rfl⟩
   obtain⟨F2,hF2⟩:∃ F2,F2=if q2=true then F1.set e.l.toNat true else F1:=⟨_,rfl⟩
   obtain⟨m3,hm3⟩:∃ m3,m3=if q2=true then true else m2:=⟨_,rfl⟩
   have hq2t:q2=true→(j:Int)∈l∧br2=true∧bl=false:=by
    intro h
    rw[h] at hq2
    have:=hq2.symm
    simp only[Bool.and_eq_true,Bool.not_eq_true'] at this
    exact⟨nP this.1,this.2.1,this.2.2⟩
   have hM3:Mk g l k nr F2 G2:=by
    rw[hF2]
    cases q2 with
    |false=>exact hM2
    |true=>
     obtain⟨t1,t2,t3⟩:=hq2t rfl
     refine hM2.setL (by omega) ?_
     obtain⟨e0,he0,hl0,hr0⟩:=hM2.right e.r.toNat (by rw[hbr2,t2])
     exact .step e0 e j hl0 he0 t1 (by rw[Int.toNat_natCast];exact he) (by omega)
   have hk3:(q2=false∧F2=F1∧m3=m2∧((j:Int)∈l→G2[e.r.toNat]?=some true→F2[e.l.toNat]?=some true))∨(q2=true∧m3=true∧F2.count false+G2.count false<F1.count false+G2.count false):=by
    cases hq:q2 with
    |false=>
     subst hq
     have e2:F2=F1:=by rw[hF2];rfl
     refine .inl ⟨rfl,e2,by rw[hm3];rfl,fun h h'=>?_⟩
     rw[e2,hbl]
     rw[hbr2] at h'
     simp only[Option.some.injEq] at h'
     subst h'
     rw[az h] at hq2
     cases bl with
     |true=>rfl
     |false=>exact Bool.noConfusion hq2
    |true=>
     obtain⟨t1,t2,t3⟩:=hq2t hq
     subst hq t3
     have:=iD F1 _ hbl
     have e2:F2=F1.set e.l.toNat true:=by rw[hF2];rfl
     exact .inr ⟨rfl,by rw[hm3];rfl,by rw[e2];omega⟩
   have hI1:m3=false→F2=F∧G2=G∧∀ i x,i<j+1→g.edges[i]?=some x→vq l F G i x:=by
    intro h
    rcases hk3 with ⟨_,e3,e4,h5⟩|⟨_,h6,_⟩
    ·rcases hk2 with ⟨_,e5,e6,h7⟩|⟨_,h8,_⟩
     ·obtain⟨e7,e8,h9⟩:=hn1 (by rw[← e6,← e4];exact h)
      refine⟨e3.trans e7,e5.trans e8,fun i x hi hx=>?_⟩
      rcases Nat.lt_or_eq_of_le (Nat.le_of_lt_succ hi) with hi|rfl
      ·exact h9 i x hi hx
      ·rw[he] at hx
       obtain rfl:=Option.some.inj hx
       rw[← e7,← e8]
       rw[e5] at h7 h5
       rw[e3] at h5
       exact⟨h7,h5⟩
     ·rw[e4,h8] at h;exact Bool.noConfusion h
    ·rw[h6] at h;exact Bool.noConfusion h
   have hI2:m3=true→F2.count false+G2.count false<F.count false+G.count false:=by
    intro h
    have hle2:F1.count false+G2.count false≤F1.count false+G1.count false:=by
     rcases hk2 with ⟨_,e5,_,_⟩|⟨_,_,h8⟩
     ·rw[e5];omega
     ·omega
    have hle1:F1.count false+G1.count false≤F.count false+G.count false:=by
     cases hmm:m1 with
     |true=>have:=hy1 hmm;omega
     |false=>obtain⟨e7,e8,_⟩:=hn1 hmm;rw[e7,e8];omega
    rcases hk3 with ⟨_,e3,e4,_⟩|⟨_,_,h6⟩
    ·rcases hk2 with ⟨_,e5,e6,_⟩|⟨_,_,h8⟩
     ·have:=hy1 (by rw[← e6,← e4];exact h)
      rw[e3,e5];omega
     ·rw[e3];omega
    ·omega
   refine dg [(128,.bool (cU ((j:Int)∈l)&&(br2&&!bl))),(14,.pointer (some ⟨p14,0,none⟩)),(13,.int .i64 j),(12,.bool m2),(7,.slice (some ⟨p7,0,none⟩) (k+1) (k+1)),(8,.slice (some ⟨p8,0,none⟩) (nr+1) (nr+1)),(9,.slice (some ⟨p9,0,none⟩) (nr+1) (nr+1)),(4,.pointer (some ⟨p4,0,none⟩)),(2,.pointer (some ⟨p2,0,none⟩)),(1,.slice L l.length cm)] (blk p14 55 [.int .i64 e.l,.int .i64 e.r]::[.own (.slice (some ⟨p7,0,none⟩) (k+1) (k+1)) 4 1 (k+1) (aY F1),.own (.slice (some ⟨p8,0,none⟩) (nr+1) (nr+1)) 4 1 (nr+1) (aY G2),.own (.slice (some ⟨p9,0,none⟩) (nr+1) (nr+1)) 4 1 (nr+1) (aY P),blk p4 39 (lF [] [] none none 0 0),blk p2 32 (eE g (some ⟨b,o,none⟩) c),.seg b o (cd g.edges),.seg bm om (aw l)]) ?_ ?_
   ·skip
    refine aa (ah [] rfl ?_)
    refine ax [] (xk L cm bm om l hL hl (j:Int)) rfl rfl rfl rfl (by kernel_rfl) ⟨⟨7,_,by simp,rfl,ak _ _ _,ap⟩,trivial⟩ (fun _=>rfl) ?_
    rintro v H' ⟨rfl,rfl⟩
    refine⟨rfl,?_⟩
    by_cases hin:(j:Int)∈l
    case neg=>
     refine ah [] rfl ?_
     refine av 114 (v':=.bool false) rfl (congrArg Value.bool (aA hin)) ?_
     refine ah [3,10] rfl ?_
     refine aj ⟨[0,1,2,3,4,5,6,7],⟨?_,rfl,rfl,rfl,rfl,rfl,rfl,rfl,rfl,rfl,trivial⟩,by decide,rfl⟩
     rw[aA hin];rfl
    refine ah [] rfl ?_
    refine av 114 (v':=.bool true) rfl (congrArg Value.bool (az hin)) ?_
    refine ah [3] rfl ?_
    (first|refine ab [3] (ad 0 rfl rfl rfl rfl) rfl ?_|refine ab [3] (ad 1 rfl rfl rfl rfl) rfl ?_|refine ab [3] (ad 2 rfl rfl rfl rfl) rfl ?_|refine ab [3] (ad 3 rfl rfl rfl rfl) rfl ?_|refine ab [3] (ad 4 rfl rfl rfl rfl) rfl ?_|refine ab [3] (ad 5 rfl rfl rfl rfl) rfl ?_|refine ab [3] (ad 6 rfl rfl rfl rfl) rfl ?_|refine ab [3] (ad 7 rfl rfl rfl rfl) rfl ?_)
    refine av 117 (v':=.int .i64 ((e.r.toNat:Nat):Int)) rfl (congrArg (Value.int .i64) (by omega)) ?_
    refine ab [3] (aI rfl rfl rfl rfl rfl (show e.r.toNat<nr+1 by omega)) rfl ?_
    refine ab [3] (aF 2 rfl rfl rfl (show (aY _)[e.r.toNat]?=some (.bool br2) from cD hbr2)) rfl ?_
    cases br2 with
    |false=>
     refine ah [3,10] rfl ?_
     refine aj ⟨[0,1,2,3,4,5,6,7],⟨?_,rfl,rfl,rfl,rfl,rfl,rfl,rfl,rfl,rfl,trivial⟩,by decide,rfl⟩
     rw[az hin];rfl
    |true=>
     refine ah [3,10] rfl ?_
     (first|refine ab [3,10] (ad 0 rfl rfl rfl rfl) rfl ?_|refine ab [3,10] (ad 1 rfl rfl rfl rfl) rfl ?_|refine ab [3,10] (ad 2 rfl rfl rfl rfl) rfl ?_|refine ab [3,10] (ad 3 rfl rfl rfl rfl) rfl ?_|refine ab [3,10] (ad 4 rfl rfl rfl rfl) rfl ?_|refine ab [3,10] (ad 5 rfl rfl rfl rfl) rfl ?_|refine ab [3,10] (ad 6 rfl rfl rfl rfl) rfl ?_|refine ab [3,10] (ad 7 rfl rfl rfl rfl) rfl ?_)
     refine av 124 (v':=.int .i64 ((e.l.toNat:Nat):Int)) rfl (congrArg (Value.int .i64) (by omega)) ?_
     refine ab [3,10] (aI rfl rfl rfl rfl rfl (show e.l.toNat<k+1 by omega)) rfl ?_
     refine ab [3,10] (aF 1 rfl rfl rfl (show (aY _)[e.l.toNat]?=some (.bool bl) from cD hbl)) rfl ?_
     refine ah [3,10] rfl ?_
     refine aj ⟨[0,1,2,3,4,5,6,7],⟨?_,rfl,rfl,rfl,rfl,rfl,rfl,rfl,rfl,rfl,trivial⟩,by decide,rfl⟩
     rw[az hin]
     cases bl<;>rfl
   rw[← hq2]
   cases q2 with
   |false=>
    refine bP rfl (aq ?_)
    refine aa (af [] rfl ?_)
    refine⟨(j+1,m3,F2,G2),[1,2,3,4,5,6,7],⟨congrArg (fun z=>some (Value.int .i64 z)) (bK (by omega)),?_,rfl,rfl,rfl,rfl,rfl,rfl,trivial⟩,by decide,?_,⟨by simp only;omega,hM3,hI1,hI2⟩,by simp only;omega⟩
    ·simp only;rw[show m3=m2 by rw[hm3];rfl];rfl
    ·simp only;rw[show F2=F1 by rw[hF2];rfl];rfl
   |true=>
    refine bz rfl ?_
    refine ae (aa (ah [] rfl ?_))
    (first|refine ab [] (ad 0 rfl rfl rfl rfl) rfl ?_|refine ab [] (ad 1 rfl rfl rfl rfl) rfl ?_|refine ab [] (ad 2 rfl rfl rfl rfl) rfl ?_|refine ab [] (ad 3 rfl rfl rfl rfl) rfl ?_|refine ab [] (ad 4 rfl rfl rfl rfl) rfl ?_|refine ab [] (ad 5 rfl rfl rfl rfl) rfl ?_|refine ab [] (ad 6 rfl rfl rfl rfl) rfl ?_|refine ab [] (ad 7 rfl rfl rfl rfl) rfl ?_)
    refine av 131 (v':=.int .i64 ((e.l.toNat:Nat):Int)) rfl (congrArg (Value.int .i64) (by omega)) ?_
    refine ab [] (aI rfl rfl rfl rfl rfl (show e.l.toNat<k+1 by omega)) rfl ?_
    refine aG 1 rfl rfl rfl rfl (dn rfl (by omega)) [] rfl ?_
    refine aj ?_
    refine aa (af [] rfl ?_)
    refine aa (af [] rfl ?_)
    refine⟨(j+1,m3,F2,G2),[1,2,3,4,5,6,7],⟨congrArg (fun z=>some (Value.int .i64 z)) (bK (by omega)),?_,rfl,rfl,rfl,rfl,rfl,rfl,trivial⟩,by decide,?_,⟨by simp only;omega,hM3,hI1,hI2⟩,by simp only;omega⟩
    ·simp only;rw[show m3=true by rw[hm3];rfl];rfl
    ·simp only;rw[show F2=F1.set e.l.toNat true by rw[hF2];rfl];rfl
  ·obtain rfl:j=g.edges.length:=by omega
   refine⟨(m1,F1,G1),[0,1,2,3,4,5,6],⟨rfl,rfl,rfl,rfl,rfl,rfl,rfl,trivial⟩,by decide,rfl,⟨hM1,fun h=>?_⟩,?_⟩
   ·obtain⟨e1,e2,h3⟩:=hn1 h
    simp only
    rw[e1,e2]
    exact fun i e he=>h3 i e (List.getElem?_eq_some_iff.1 he).1 he
   ·simp only
    cases m1 with
    |true=>have:=hy1 rfl;simp only[if_true];omega
    |false=>obtain⟨e1,e2,_⟩:=hn1 rfl;rw[e1,e2];simp
 |false=>
  refine bP rfl (aO ?_)
  obtain⟨hLA,hRA⟩:=hMk.all hg hM (hSh rfl)
  have hlF:=hMk.ll
  have hlG:=hMk.lr
  refine ae (aa ?_)
  refine aQ rfl rfl rfl (fun _=>rfl) fun p15=>?_
  refine af [] rfl ?_
  refine ae (ae (aa (af [] rfl ?_)))
  refine bO 3 1 ?_
  refine bO 3 1 ?_
  refine au ?_
  refine bu (σ:=Nat×Option Addr×Nat) (fun s=>[(16,.int .i64 (s.1+1)),(15,.pointer (some ⟨p15,0,none⟩)),(7,.slice (some ⟨p7,0,none⟩) (k+1) (k+1)),(8,.slice (some ⟨p8,0,none⟩) (nr+1) (nr+1)),(9,.slice (some ⟨p9,0,none⟩) (nr+1) (nr+1)),(4,.pointer (some ⟨p4,0,none⟩)),(2,.pointer (some ⟨p2,0,none⟩))])
   (fun s=>[blk p15 39 [.slice s.2.1 (be F false (s.1+1)).length s.2.2,.slice none 0 0],.own (.slice s.2.1 (be F false (s.1+1)).length s.2.2) 3 1 (be F false (s.1+1)).length (aw (be F false (s.1+1))),.own (.slice none 0 0) 3 1 0 [],.own (.slice (some ⟨p7,0,none⟩) (k+1) (k+1)) 4 1 (k+1) (aY F),.own (.slice (some ⟨p8,0,none⟩) (nr+1) (nr+1)) 4 1 (nr+1) (aY G),.own (.slice (some ⟨p9,0,none⟩) (nr+1) (nr+1)) 4 1 (nr+1) (aY P),blk p4 39 (lF [] [] none none 0 0),blk p2 32 (eE g A c)])
   (fun s=>s.1≤k) (fun s=>k-s.1) (0,none,0) [2,0,1,3,4,5,6,7] ⟨rfl,rfl,rfl,rfl,rfl,rfl,rfl,trivial⟩ (by decide) rfl (Nat.zero_le _) ?_
  rintro⟨j,A1,c1⟩ hj
  simp only at hj ⊢
  have hws:=gE F false (j+1)
  have hwl:=gN F false (j+1)
  refine ae (ae (aa (ah [] rfl ?_)))
  (first|refine ab [] (ad 0 rfl rfl rfl rfl) rfl ?_|refine ab [] (ad 1 rfl rfl rfl rfl) rfl ?_|refine ab [] (ad 2 rfl rfl rfl rfl) rfl ?_|refine ab [] (ad 3 rfl rfl rfl rfl) rfl ?_|refine ab [] (ad 4 rfl rfl rfl rfl) rfl ?_|refine ab [] (ad 5 rfl rfl rfl rfl) rfl ?_|refine ab [] (ad 6 rfl rfl rfl rfl) rfl ?_|refine ab [] (ad 7 rfl rfl rfl rfl) rfl ?_)
  refine af [] rfl ?_
  refine aC rfl (fun hlt=>aq ?_) (fun hge=>aO ?_)
  ·have hlt:j<k:=by omega
   obtain⟨x,hx⟩:=fS (L:=F) (i:=j+1) (by omega)
   refine ae (au ?_)
   refine ae (aa (ah [] rfl ?_))
   refine av 140 (v':=.int .i64 ((j+1:Nat):Int)) rfl rfl ?_
   refine ab [] (aI rfl rfl rfl rfl rfl (show j+1<k+1 by omega)) rfl ?_
   refine ab [] (aF 3 rfl rfl rfl (show (aY _)[j+1]?=some (.bool x) from cD hx)) rfl ?_
   refine af [] rfl ?_
   cases x with
   |true=>
    refine bP rfl (aq ?_)
    rw[if_neg (fun h=>by rw[hx] at h;exact Bool.noConfusion (Option.some.inj h.2)),List.append_nil] at hws
    refine aa (af [] rfl ?_)
    refine⟨(j+1,A1,c1),[0,1,2,3,4,5,6,7],⟨congrArg (fun z=>some (Value.int .i64 z)) (bK (by omega)),rfl,rfl,rfl,rfl,rfl,rfl,trivial⟩,by decide,by simp only[hws];rfl,by simp only;omega,by simp only;omega⟩
   |false=>
    refine bz rfl ?_
    rw[if_pos ⟨by omega,hx⟩] at hws
    refine aa (ah [] rfl ?_)
    refine ab [] (v:=.slice A1 (be F false (j+1)).length c1) (ad 0 rfl rfl rfl rfl) rfl ?_
    refine ah [] rfl ?_
    refine av 146 (v':=.int .i64 ((j+1:Nat):Int)) rfl rfl ?_
    refine b8 rfl rfl rfl rfl rfl rfl rfl (fun _=>rfl) fun g2=>?_
    refine a9 (n:=(be F false (j+1)).length) (m:=1) (off:=0) (news:=aw [((j+1:Nat):Int)]) 2 0 rfl rfl rfl rfl rfl rfl (by decide) rfl rfl (aR g2 _ _ (0,0)) (fun _=>rfl) rfl rfl (by omega) (by omega) (fun _ _=>rfl) fun A3 c3=>?_
    rw[show (be F false (j+1)).length+1=(be F false (j+1+1)).length by rw[hws];simp,show aw (be F false (j+1))++aw [((j+1:Nat):Int)]=aw (be F false (j+1+1)) by rw[hws];simp[aw]]
    refine ah [] rfl ?_
    refine aD 1 rfl rfl rfl rfl rfl [] rfl ?_
    refine aj ?_
    refine aa (af [] rfl ?_)
    refine⟨(j+1,A3,c3),[1,2,3,4,5,6,7,8],⟨congrArg (fun z=>some (Value.int .i64 z)) (bK (by omega)),rfl,rfl,rfl,rfl,rfl,rfl,trivial⟩,by decide,rfl,by simp only;omega,by simp only;omega⟩
  obtain rfl:j=k:=by omega
  refine ae (ae (aa (af [] rfl ?_)))
  refine au ?_
  refine bu (σ:=Nat×Option Addr×Nat) (fun s=>[(17,.int .i64 (s.1+1)),(15,.pointer (some ⟨p15,0,none⟩)),(7,.slice (some ⟨p7,0,none⟩) (j+1) (j+1)),(8,.slice (some ⟨p8,0,none⟩) (nr+1) (nr+1)),(9,.slice (some ⟨p9,0,none⟩) (nr+1) (nr+1)),(4,.pointer (some ⟨p4,0,none⟩)),(2,.pointer (some ⟨p2,0,none⟩))])
   (fun s=>[blk p15 39 [.slice A1 (be F false (j+1)).length c1,.slice s.2.1 (be G true (s.1+1)).length s.2.2],.own (.slice A1 (be F false (j+1)).length c1) 3 1 (be F false (j+1)).length (aw (be F false (j+1))),.own (.slice s.2.1 (be G true (s.1+1)).length s.2.2) 3 1 (be G true (s.1+1)).length (aw (be G true (s.1+1))),.own (.slice (some ⟨p7,0,none⟩) (j+1) (j+1)) 4 1 (j+1) (aY F),.own (.slice (some ⟨p8,0,none⟩) (nr+1) (nr+1)) 4 1 (nr+1) (aY G),.own (.slice (some ⟨p9,0,none⟩) (nr+1) (nr+1)) 4 1 (nr+1) (aY P),blk p4 39 (lF [] [] none none 0 0),blk p2 32 (eE g A c)])
   (fun s=>s.1≤nr) (fun s=>nr-s.1) (0,none,0) [0,1,2,3,4,5,6,7] ⟨rfl,rfl,rfl,rfl,rfl,rfl,rfl,trivial⟩ (by decide) rfl (Nat.zero_le _) ?_
  clear hws hwl
  rintro⟨i,A2,c2⟩ hi
  simp only at hi ⊢
  have hws:=gE G true (i+1)
  have hwl:=gN G true (i+1)
  refine ae (ae (aa (ah [] rfl ?_)))
  (first|refine ab [] (ad 0 rfl rfl rfl rfl) rfl ?_|refine ab [] (ad 1 rfl rfl rfl rfl) rfl ?_|refine ab [] (ad 2 rfl rfl rfl rfl) rfl ?_|refine ab [] (ad 3 rfl rfl rfl rfl) rfl ?_|refine ab [] (ad 4 rfl rfl rfl rfl) rfl ?_|refine ab [] (ad 5 rfl rfl rfl rfl) rfl ?_|refine ab [] (ad 6 rfl rfl rfl rfl) rfl ?_|refine ab [] (ad 7 rfl rfl rfl rfl) rfl ?_)
  refine af [] rfl ?_
  refine aC rfl (fun hlt=>aq ?_) (fun hge=>aO ?_)
  ·have hlt:i<nr:=by omega
   obtain⟨x,hx⟩:=fS (L:=G) (i:=i+1) (by omega)
   obtain⟨y,hy⟩:=fS (L:=P) (i:=i+1) (by omega)
   have hxy:x=true→y=true:=by
    rintro rfl
    have h1:=hno _ ((hRA (i+1)).1 hx)
    have:=(hPv (i+1)).2 (by exact_mod_cast h1)
    rw[hy] at this
    exact Option.some.inj this
   refine ae (au ?_)
   refine ae (dg [(166,.bool false),(17,.int .i64 ((i:Int)+1)),(15,.pointer (some ⟨p15,0,none⟩)),(7,.slice (some ⟨p7,0,none⟩) (j+1) (j+1)),(8,.slice (some ⟨p8,0,none⟩) (nr+1) (nr+1)),(9,.slice (some ⟨p9,0,none⟩) (nr+1) (nr+1)),(4,.pointer (some ⟨p4,0,none⟩)),(2,.pointer (some ⟨p2,0,none⟩))] [blk p15 39 [.slice A1 (be F false (j+1)).length c1,.slice A2 (be G true (i+1)).length c2],.own (.slice A1 (be F false (j+1)).length c1) 3 1 (be F false (j+1)).length (aw (be F false (j+1))),.own (.slice A2 (be G true (i+1)).length c2) 3 1 (be G true (i+1)).length (aw (be G true (i+1))),.own (.slice (some ⟨p7,0,none⟩) (j+1) (j+1)) 4 1 (j+1) (aY F),.own (.slice (some ⟨p8,0,none⟩) (nr+1) (nr+1)) 4 1 (nr+1) (aY G),.own (.slice (some ⟨p9,0,none⟩) (nr+1) (nr+1)) 4 1 (nr+1) (aY P),blk p4 39 (lF [] [] none none 0 0),blk p2 32 (eE g A c)] ?_ ?_)
   ·skip
    refine aa (ah [] rfl ?_)
    refine av 157 (v':=.int .i64 ((i+1:Nat):Int)) rfl rfl ?_
    refine ab [] (aI rfl rfl rfl rfl rfl (show i+1<nr+1 by omega)) rfl ?_
    refine ab [] (aF 4 rfl rfl rfl (show (aY _)[i+1]?=some (.bool x) from cD hx)) rfl ?_
    cases x with
    |false=>
     refine ah [4] rfl ?_
     exact aj ⟨[0,1,2,3,4,5,6,7],⟨rfl,rfl,rfl,rfl,rfl,rfl,rfl,rfl,trivial⟩,by decide,rfl⟩
    |true=>
     obtain rfl:=hxy rfl
     refine ah [4] rfl ?_
     refine av 162 (v':=.int .i64 ((i+1:Nat):Int)) rfl rfl ?_
     refine ab [4] (aI rfl rfl rfl rfl rfl (show i+1<nr+1 by omega)) rfl ?_
     refine ab [4] (aF 5 rfl rfl rfl (show (aY _)[i+1]?=some (.bool true) from cD hy)) rfl ?_
     refine ah [4] rfl ?_
     exact aj ⟨[0,1,2,3,4,5,6,7],⟨rfl,rfl,rfl,rfl,rfl,rfl,rfl,rfl,trivial⟩,by decide,rfl⟩
   refine bP rfl (aq ?_)
   refine ae (aa (ah [] rfl ?_))
   refine av 169 (v':=.int .i64 ((i+1:Nat):Int)) rfl rfl ?_
   refine ab [] (aI rfl rfl rfl rfl rfl (show i+1<nr+1 by omega)) rfl ?_
   refine ab [] (aF 4 rfl rfl rfl (show (aY _)[i+1]?=some (.bool x) from cD hx)) rfl ?_
   refine af [] rfl ?_
   cases x with
   |false=>
    refine bP rfl (aq ?_)
    rw[if_neg (fun h=>by rw[hx] at h;exact Bool.noConfusion (Option.some.inj h.2)),List.append_nil] at hws
    refine aa (af [] rfl ?_)
    refine⟨(i+1,A2,c2),[0,1,2,3,4,5,6,7],⟨congrArg (fun z=>some (Value.int .i64 z)) (bK (by omega)),rfl,rfl,rfl,rfl,rfl,rfl,trivial⟩,by decide,by simp only[hws];rfl,by simp only;omega,by simp only;omega⟩
   |true=>
    refine bz rfl ?_
    rw[if_pos ⟨by omega,hx⟩] at hws
    refine aa (ah [] rfl ?_)
    refine ab [] (v:=.slice A2 (be G true (i+1)).length c2) (ad 0 rfl rfl rfl rfl) rfl ?_
    refine ah [] rfl ?_
    refine av 174 (v':=.int .i64 ((i+1:Nat):Int)) rfl rfl ?_
    refine b8 rfl rfl rfl rfl rfl rfl rfl (fun _=>rfl) fun g2=>?_
    refine a9 (n:=(be G true (i+1)).length) (m:=1) (off:=0) (news:=aw [((i+1:Nat):Int)]) 3 0 rfl rfl rfl rfl rfl rfl (by decide) rfl rfl (aR g2 _ _ (0,0)) (fun _=>rfl) rfl rfl (by omega) (by omega) (fun _ _=>rfl) fun A3 c3=>?_
    rw[show (be G true (i+1)).length+1=(be G true (i+1+1)).length by rw[hws];simp,show aw (be G true (i+1))++aw [((i+1:Nat):Int)]=aw (be G true (i+1+1)) by rw[hws];simp[aw]]
    refine ah [] rfl ?_
    refine aD 1 rfl rfl rfl rfl rfl [] rfl ?_
    refine aj ?_
    refine aa (af [] rfl ?_)
    refine⟨(i+1,A3,c3),[1,2,3,4,5,6,7,8],⟨congrArg (fun z=>some (Value.int .i64 z)) (bK (by omega)),rfl,rfl,rfl,rfl,rfl,rfl,trivial⟩,by decide,rfl,by simp only;omega,by simp only;omega⟩
  obtain rfl:i=nr:=by omega
  refine ae (aa ?_)
  refine ab [] (v:=lE (be F false (j+1)) (be G true (i+1)) A1 A2 c1 c2) (ad 0 rfl rfl rfl rfl) rfl ?_
  refine aD 6 rfl rfl rfl rfl rfl [] rfl ?_
  refine af [] rfl ?_
  refine aB ?_
  refine⟨[_,_],[1,2],_,⟨⟨p4,6,_,_,rfl,rfl,rfl⟩,rfl,trivial⟩,by decide,rfl,_,_,A1,A2,c1,c2,⟨eC F false _,fun x hx=>?_⟩,⟨eC G true _,fun x hx=>?_⟩,fun v a b'=>?_,fun v a b'=>?_,rfl,rfl⟩
  ·obtain⟨v,h1,h2,_,rfl⟩:=dK.1 hx
   omega
  ·obtain⟨v,h1,h2,_,rfl⟩:=dK.1 hx
   omega
  ·rw[dK,← hLA v]
   constructor
   ·rintro⟨w,h1,h2,h3,h4⟩
    obtain rfl:w=v:=by omega
    rw[h3]
    exact fun h=>Bool.noConfusion (Option.some.inj h)
   ·intro h
    obtain⟨x,hx⟩:=fS (L:=F) (i:=v) (by omega)
    refine⟨v,by omega,a,?_,rfl⟩
    cases x with
    |false=>exact hx
    |true=>exact absurd hx h
  ·rw[dK,← hRA v]
   constructor
   ·rintro⟨w,h1,h2,h3,h4⟩
    obtain rfl:w=v:=by omega
    exact h3
   ·intro h
    exact⟨v,by omega,a,h,rfl⟩
end Go.Proofs.YtpbmihpjgjbndaaGreat
