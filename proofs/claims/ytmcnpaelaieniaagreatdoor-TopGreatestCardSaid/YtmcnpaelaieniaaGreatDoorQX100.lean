import Derived.Test.YtmcnpaelaieniaaGreatDoorQX94
import Derived.Test.YtmcnpaelaieniaaGreatDoorQX97
import Derived.Test.YtmcnpaelaieniaaGreatDoorQX109
import Derived.Test.YtmcnpaelaieniaaGreatDoorQX107
import Derived.Test.YtmcnpaelaieniaaGreatDoorQD
/- A part of the proof; see NOTES.md. -/
set_option linter.unusedVariables false
set_option linter.unusedSimpArgs false
namespace Go.Proofs.YtmcnpaelaieniaaGreatDoor
open Go.RowKit
open Lib
abbrev It:=Int×LI×Int
def F1(y:Int×LN×Int):It:=(y.1,y.2.1.map (λ (i:Nat)=>(i:Int)),y.2.2)
structure jp (N:aU) (x:It):Prop where
 kind:x.1=112\/x.1=98\/x.1=99
 amt:0<x.2.2/\x.2.2<=4611686018427387903
 ne:x.2.1≠[]
 len:x.2.1.length<=2000
 rng:∀ e∈x.2.1,0<=e/\e<N.arcs.length
theorem EU{N:aU}(hR:N.Right){w:Wk}(h:w.OK N)(hp:bH w.left<w.left.length):jp N (F1 (e7 N w)):=by
 obtain⟨_,_,hmp,hP,hme⟩:=mx hR h hp;have hl2:=hR.len
 obtain⟨hk,hW⟩:((e7 N w).1=112\/(e7 N w).1=98\/(e7 N w).1=99)/\∃ a z,jM N w.left (e7 N w).2.1 a z:=by
  rcases hP with ⟨k,_,h⟩|⟨k,_,h⟩|⟨k,v,h⟩
  ·exact⟨.inl k,_,_,h⟩
  ·exact⟨.inr (.inl k),_,_,h⟩
  ·exact⟨.inr (.inr k),_,_,h⟩
 obtain⟨a,z,hW⟩:=hW;have hlt:∀ i∈(e7 N w).2.1,i<N.arcs.length:=λ i hi=>by obtain⟨r,hr,_⟩:=hW.room i hi;exact (Gv.1 hr).1
 have hmem:∀ e∈(e7 N w).2.1.map (λ (i:Nat)=>(i:Int)),0<=e/\e<N.arcs.length:=λ e he=>by
  obtain⟨i,hi,rfl⟩:=GR.1 he;have:=hlt i hi;omega
 have hnd:((e7 N w).2.1.map (λ (i:Nat)=>(i:Int))).Nodup:=List.Pairwise.map _ (λ a b hab h=>hab (Int.ofNat.inj h)) hW.nodup;refine⟨hk,⟨hmp,?_⟩,λ h0=>hW.ne (List.map_eq_nil_iff.1 h0),?_,hmem⟩
 ·obtain⟨e,he⟩:=I2 _ hW.ne;have h1:=hme e he;have h2:=(ux hR h.flow e).2;show (e7 N w).2.2<=_;omega
 ·have:=iK _ ((List.range N.arcs.length).map λ (i:Nat)=>(i:Int)) hnd λ x hx=>by
   have:=hmem x hx;exact GR.2 ⟨x.toNat,Hm.2 (by omega),by omega⟩
  simp only[GA,HM] at this;show (List.map _ _).length<=_;rw[GA];omega
theorem tu{N:aU}(hR:N.Right):∀ (n:Nat) (w:Wk),w.OK N->(iZ N n w).length<=n/\∀ x∈(iZ N n w).map F1,jp N x
 |0,w,_=>⟨GF _,λ x hx=>absurd hx GP⟩
 |n+1,w,hw=>by
  unfold iZ;by_cases hp:bH w.left<w.left.length
  ·rw[if_pos hp];have ih:=tu hR n (vh N w) (mx hR hw hp).1;refine⟨by rw[List.length_cons];omega,fun x hx=>?_⟩;rw[List.map_cons] at hx
   rcases GD.1 hx with rfl|hx
   ·exact EU hR hw hp
   ·exact ih.2 x hx
  ·rw[if_neg hp];exact⟨GB _,λ x hx=>absurd hx GP⟩
def mz(N:aU)(f:LI):List It:=(jd N ⟨f,cS (N.arcs.zip f) N.snk⟩).map F1
theorem Cp{N:aU}(hR:N.Right){f:LI}(hf:aK N f):(mz N f).length<=2001/\∀ x∈mz N f,jp N x:=by
 have h:=tu hR (Wk.size ⟨f,cS (N.arcs.zip f) N.snk⟩) ⟨f,cS (N.arcs.zip f) N.snk⟩ ⟨hf,rfl⟩;have hl2:=hR.len;have hfl:=hf.len;have h1:l8 f<=f.length:=List.countP_le_length;have h2:Wk.size ⟨f,cS (N.arcs.zip f) N.snk⟩<=l8 f+1:=by unfold Wk.size;split<;>simp only<;>omega
 refine⟨?_,h.2⟩;unfold mz jd;rw[GA];omega
def ie(N:aU)(e:Int):Int:=lJ N e.toNat
def ys(N:aU)(e:Int):Int:=gT N e.toNat
def Dp(N:aU)(e:Int):Int:=match N.arcs[e.toNat]? with|some a=>a.cap|none=>0
def lY(N:aU):LI->LI->Int->Bool
 |[],_,_=>true
 |e::W,met,last=>if (met≠[]/\ie N e≠last)\/ie N e∈met then false else lY N W (met++[ie N e]) (ys N e)
def ka(N:aU)(x:It):Bool:=
 if x.2.2<1\/x.2.1=[] then false else if lY N x.2.1 [] 0=false then false else
 if x.1=112 then decide ((ie N (x.2.1.headD 0)=N.src/\ys N (x.2.1.getLastD 0)=N.snk)/\ys N (x.2.1.getLastD 0)∉x.2.1.map (ie N))
 else if x.1=98 then decide ((ie N (x.2.1.headD 0)=N.snk/\ys N (x.2.1.getLastD 0)=N.src)/\ys N (x.2.1.getLastD 0)∉x.2.1.map (ie N))
 else if x.1=99 then decide (ie N (x.2.1.headD 0)=ys N (x.2.1.getLastD 0)) else false
def sU(N:aU):LI->Int->LI->Option (LI)
 |[],_,o=>some o
 |e::W,m,o=>if Dp N e-o.getD e.toNat 0<m then none else sU N W m (o.set e.toNat (o.getD e.toNat 0+m))
def me(N:aU):List It->LI->Option (LI)
 |[],o=>some o
 |x::r,o=>match sU N x.2.1 x.2.2 o with
  |some o'=>me N r o'
  |none=>none
def l5(N:aU)(its:List It):Int:=if its.all (ka N)=false then 1 else if me N its (List.replicate N.arcs.length 0)=none then 3 else 0
def dR(N:aU)(x:It):LI:=x.2.2::x.2.1.map (ie N)++(if x.1=112\/x.1=98 then [ys N (x.2.1.getLastD 0)] else [])
def kz(k:Int):LU:=if k=112 then [112,97,116,104] else if k=98 then [98,97,99,107] else [99,121,99,108,101]
def jy(N:aU)(x:It):LU:=ic (kz x.1) (dR N x)
def cY(N:aU)(its:List It):LU:=(its.map (jy N)).flatten
def pE(N:aU)(its:List It):Value:=.tuple #[dF (if l5 N its=0 then cY N its else []),.int .i64 (l5 N its)]
theorem Fs{N:aU}(hR:N.Right)(e:Int):dn (ie N e):=by
 have:=hR.nodes;unfold ie lJ
 cases h:N.arcs[e.toNat]? with
 |none=>unfold dn;simp only;omega
 |some a=>have:=hR.arc a (Gu h);unfold dn;simp only;omega
theorem Fh{N:aU}(hR:N.Right)(e:Int):dn (ys N e):=by
 have:=hR.nodes;unfold ys gT
 cases h:N.arcs[e.toNat]? with
 |none=>unfold dn;simp only;omega
 |some a=>have:=hR.arc a (Gu h);unfold dn;simp only;omega
theorem xE{N:aU}(hR:N.Right){x:It}(hx:jp N x):(∀ n∈dR N x,dn n)/\(dR N x).length<=2002:=by
 have:=hx.len;refine⟨λ n hn=>?_,?_⟩
 ·unfold dR at hn
  rcases GE.1 hn with hn|hn
  ·rcases GD.1 hn with rfl|hn
   ·have:=hx.amt;unfold dn;omega
   ·obtain⟨e,_,rfl⟩:=GR.1 hn;exact Fs hR e
  ·split at hn
   ·rw[Gy.1 hn];exact Fh hR _
   ·exact absurd hn GP
 ·unfold dR;rw[Gx,Gz,GA];split<;>simp only[Gz,GQ]<;>omega
theorem zP{N:aU}(hR:N.Right){x:It}(hx:jp N x):(jy N x).length<=42060:=by
 obtain⟨h1,h2⟩:=xE hR hx;have h3:=yO (kz x.1) _ h1
 have h4:(kz x.1).length≤5:=by unfold kz;split;· decide
                               split<;>decide
 unfold jy;omega
theorem nM{N:aU}(hR:N.Right):∀ {its:List It},(∀ x∈its,jp N x)->(cY N its).length<=its.length*42060
 |[],_=>by simp[cY]
 |x::r,h=>by
  have h1:=zP hR (h x (by simp));have h2:=nM hR (its:=r) λ y hy=>h y (by simp[hy]);unfold cY at h2 ⊢;rw[GG,HR,Gx,Gz];omega
theorem tL(N:aU)(its:List It)(x:It):cY N (its++[x])=cY N its++jy N x:=by unfold cY;simp
section
variable {X:Cx} {E:Env} {H:Heap}
end
def Eh(f:LI)(nl k:Nat):LI:=((List.range k).filter λ (i:Nat)=>decide (0<f.getD (nl+i) 0)).map λ (i:Nat)=>(i:Int)
def gD(N:aU)(f:LI):Prop:=aK N f/\¬ kL N (aP (N.arcs.zip f)) 1 N.snk
def Ad(gf:FuncId)(lb:LV_)(p ty:Nat)(n0:Int)(nr:Nat)(x:Nat->LV_):Prop:=
 ∀ (l:Nat) (J:Nat->Int->World->Prop) (W:World),(∀ k a W,J k a W->(blk p ty [.int .i64 a]).holds W)->
   (∀ k a b W W',J k a W->cO W [p] W' [blk p ty [.int .i64 b]]->J k b W')->
   (∀ k a W,k<nr->J k a W->YieldAt Fence.wide 0 Tryz.prog l (x k).toArray W λ e W'=>e=.returned (.bool true)/\J (k+1) a W')->
   J 0 n0 W->Calls Tryz.prog gf (#[.func (.yield l) #[] #[]]++lb.toArray) W λ e W'=>(∃ v,e=.returned v)/\∃ a,J nr a W'
section
variable {w0:World} {M:LN} {n:Nat} {E:Env} {R:Exit->Act->World->Prop}
theorem zY{σ:Type}{g:Operand}{ps:LN}{assign body:Code}{gf:FuncId}{lb:LV_}{p ty:Nat}{n0:Int}{nr:Nat}{x:Nat->LV_}(Hk:σ->Heap)(Inv:Nat->σ->Prop)(s0:σ)(hg:val E g=some (.func (.func gf) #[] lb.toArray))(hc:ew gf=true)
 (hit:Ad gf lb p ty n0 nr x) (hps:∀ k,k<nr->(x k).length=ps.length) (hpn:(ps.all λ p=>Nat.blt p n)=true) (h0:Inv 0 s0)
 (hbody:∀ r D k (s:σ) (y:Int) (rdy bsy:Obj),k<nr->Inv k s->JR ⟨w0,M,⟨n,[]⟩⟩ r assign (λ E1 H1=>H1=(.obj r rdy::.obj D pu::blk p ty [.int .i64 y]::Hk s)/\
  JR ⟨w0,M,⟨n,[]⟩⟩ r body (λ _ H2=>∃ (s':σ),Inv (k+1) s'/\aH ⟨w0,M,⟨n,[]⟩⟩ H2 (.obj r bsy::.obj D pu::blk p ty [.int .i64 y]::Hk s')) E1 (.obj r bsy::.obj D pu::blk p ty [.int .i64 y]::Hk s)) (rW ps (x k) E) (.obj r rdy::.obj D pu::blk p ty [.int .i64 y]::Hk s))
 (hrest:∀ D a w (s:σ) (y:Int),Inv nr s->eR ⟨n,[ox D]⟩ a E->cO w0 M w (.obj D pu::blk p ty [.int .i64 y]::Hk s)->R .normal a w):W ⟨w0,M,⟨n,[]⟩⟩ (.rangeFunc g ps.toArray assign body) R E (blk p ty [.int .i64 n0]::Hk s0):=by
 intro a w hA hH;refine (wpIn_wide (n:=0)).1 (wpIn_rangeFunc ?_);intro fn _;obtain⟨rec,hrec⟩:∃ rec:LoopState->Option Code->Loop,rec=λ st pe=>{ state:=st,pending:=pe,fn,tmps:=a.tmps,params:=ps.toArray,assign,body,defers:=w.heap.size }:=⟨_,rfl⟩;obtain⟨W1,hW1⟩:∃ W1,(w.alloc (.deferred (some []))).alloc (.loop (rec .ready none))=W1:=⟨_,rfl⟩
 have hH1:cO w0 M W1 (.obj (w.heap.size+1) (.loop (rec .ready none))::.obj w.heap.size pu::blk p ty [.int .i64 n0]::Hk s0):=by
  have:=(hH.alloc pu).alloc (.loop (rec .ready none));rw[World.size_alloc] at this;rw[<- hW1];exact this
 have hev:a.eval g=.func (.func gf) #[] lb.toArray:=hA.val hg;refine⟨w.heap.size+1,[ox w.heap.size],W1,{ target:=.fn (.func gf) lb.toArray,args:=#[.func (.yield (w.heap.size+1)) #[] #[]] },W1,gf,#[.func (.yield (w.heap.size+1)) #[] #[]]++lb.toArray,W1,?_,?_,λ _ _=>trivial,?_,λ hd=>(by simp[Fence.wide] at hd),?_⟩
 ·rw[<- hW1,hrec];exact run_enterLoop_outer _ _ _ _ _
 ·simp only[resolve,hev];simp[go_sem]
 ·simp[invoke,fI hc]
 ·refine (callsIn_wide.2 (hit (w.heap.size+1) (fun k y W=>∃ s,Inv k s∧cO w0 M W (.obj (w.heap.size+1) (.loop (rec .ready none))::.obj w.heap.size pu::blk p ty [.int .i64 y]::Hk s)) W1 (fun k y W h=>h.elim fun s h=>h.2.holds (blk p ty [.int .i64 y]) (by simp)) ?_ ?_ ⟨s0,h0,hH1⟩)).mono ?_
  ·rintro k y z W W' ⟨s,hs,h⟩ h';refine⟨s,hs,?_⟩;exact h.step (d:=blk p ty [.int .i64 z]) 2 rfl h'.os h'.tape h'.output h'.size (λ q hq hm=>h'.keep q hq (λ e=>hm (by rw[Gy.1 e];rfl))) (h'.holds _ (by simp)) (λ b hb=>.inl hb)
  ·rintro k y W hk ⟨s,hs,h⟩;have hl:W.heap[w.heap.size+1]?=some (.loop (rec .ready none)):=h.holds (.obj _ _) (by simp);have hy:=run_yield (P:=Tryz.prog) (args:=(x k).toArray) hl (by rw[hrec];simp[hps k hk]);rw[hrec] at hy;refine⟨fn,_,assign,body,hy,roundIn_of_wpIn trivial ?_⟩
   have hA1:eR ⟨n,[]⟩ { tmps:=((ps.toArray.zip (x k).toArray).foldl (λ t (p,v)=>t.setIfInBounds p v) a.tmps),defers:=[] } (rW ps (x k) E):=by
    have:=eR.bind ps (x k) a.tmps E hpn ⟨hA.size,rfl,hA.get⟩
    have e:(ps.toArray.zip (x k).toArray).foldl (λ t (p,v)=>t.setIfInBounds p v) a.tmps=(ps.zip (x k)).foldl (λ t (p,v)=>t.setIfInBounds p v) a.tmps:=by
     rw[<- I4];simp
    rw[e];exact this
   refine wpIn_mono (hbody (w.heap.size+1) w.heap.size k s y (.loop (rec .ready none)) (.loop { rec .ready none with state:=.busy }) hk hs _ W hA1 h) ?_;rintro e a1 W2 ⟨E1,H1,hA2,hH2,hq⟩
   cases e with
   |normal=>
    obtain⟨rfl,hb⟩:=hq;have hl2:W2.heap[w.heap.size+1]?=some (.loop (rec .ready none)):=hH2.holds (.obj _ _) (by simp);refine⟨_,run_beginRound hl2 (by rw[hrec]),?_⟩;refine wpIn_mono (hb a1 _ hA2 hH2.turn) ?_;rintro e a3 W3 ⟨E3,H3,hA3,hH3,hq3⟩
    cases e with
    |normal=>
     obtain⟨s',hs',hfit⟩:=hq3;have h3:=hfit W3 hH3;have hl3:W3.heap[w.heap.size+1]?=some (.loop { rec .ready none with state:=.busy }):=h3.holds (.obj _ _) (by simp);refine⟨_,_,run_endRound none hl3,rfl,?_⟩;have:=h3.turn (o':=.loop (rec .ready none));rw[hrec] at this ⊢;exact⟨s',hs',this⟩
    |_=>exact hq3.elim
   |_=>exact hq.elim
  ·rintro e W2 ⟨⟨v,rfl⟩,y,s,hs,h⟩;have hl:W2.heap[w.heap.size+1]?=some (.loop (rec .ready none)):=h.holds (.obj _ _) (by simp);refine⟨none,_,by have:=run_endLoop (P:=Tryz.prog) hl (by rw[hrec];simp);rw[hrec] at this;exact this,?_⟩;have h3:=h.turn (o':=.loop (rec .exhausted none));rw[hrec] at h3;exact hrest w.heap.size _ _ s y hs ⟨hA.size,by show [_]++a.defers=_;rw[hA.defers];rfl,hA.get⟩ h3.tail
end
section
variable {G:Nat->World->Prop} {n:Nat} {S:Heap} {E:Env} {k:Nat} {M:LN} {R:Exit->Act->World->Prop}
theorem yI{c:Code}{Q:dQ}(hS:∀ W,G k W->cO W M W S)(h:∀ w,J ⟨w,M,⟨n,[]⟩⟩ c Q E S)
 (hq:∀ e E' a w',eR ⟨n,[]⟩ a E'->(∃ w H',G k w/\cO w M w' H'/\Q e E' H')->R e a w'):WG G n c R E k:=by
 intro a w hA hJ;refine wp_mono (h w a w hA (hS w hJ)) ?_;rintro e a' w' ⟨E',H',hA',hH',hq'⟩;exact hq e E' a' w' hA' ⟨w,H',hJ,hH',hq'⟩
theorem BK{w:World}{p ty:Nat}{vs:LV_}(h:(blk p ty vs).holds w):cO w [p] w [blk p ty vs]:=
 ⟨rfl,rfl,rfl,GF _,λ _ _ _=>rfl,λ c hc=>(Gy.1 hc)▸h,λ c hc b hb=>.inr (by rw[Gy.1 hc] at hb;simp[aV.mine] at hb;simp[hb]),If _ _⟩
end
end Go.Proofs.YtmcnpaelaieniaaGreatDoor
