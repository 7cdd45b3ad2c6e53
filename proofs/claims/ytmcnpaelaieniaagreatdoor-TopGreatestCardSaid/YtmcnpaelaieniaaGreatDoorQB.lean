import Derived.Test.YtmcnpaelaieniaaGreatDoorQA
import Derived.Scope
import Derived.Test.YtmcnpaelaieniaaGreatDoorProg
import Derived.WalkKit
import Derived.WalkSpells
import Derived.WalkLawsBesides
import Derived.Recover
/- A part of the proof; see NOTES.md. -/
set_option linter.unusedVariables false
set_option linter.unusedSimpArgs false
namespace Go.Proofs.YtmcnpaelaieniaaGreatDoor
open Go.RowKit
variable {X:Cx} {Q:dQ} {E E':Env} {H:Heap}
theorem eu{ops l:List Oper}{p:Prop}(h0:∀ w,cO X.w0 X.M w H->p)(h:p->JL X ops l Q E H):JL X ops l Q E H:=λ a w hA hH=>h (h0 w hH) a w hA hH
theorem bh{c:Code}{p:Prop}(h0:∀ w,cO X.w0 X.M w H->p)(h:p->J X c Q E H):J X c Q E H:=λ a w hA hH=>h (h0 w hH) a w hA hH
theorem aW(k:Nat){A:OA}{n m c e sz:Nat}{xs:LV_}(hk:H[k]?=some (.own (.slice A m c) e sz n xs)):∀ w,cO X.w0 X.M w H->n=m/\n<=c/\(0<n->∃ g,A=some ⟨g,0,none⟩)/\xs.length=n*sz:=by
 intro w hH;have h:w.ownsRow 0 e sz (.slice A m c) n xs:=hH.holds _ (Gu hk);obtain⟨h1,h2|⟨g,cap,cur,hv,_,_,hn,_⟩⟩:=h
 ·obtain⟨hv,rfl⟩:=h2;simp only[Value.slice.injEq] at hv;exact⟨hv.2.1.symm,GB _,λ h=>absurd h (by omega),h1⟩
 ·simp only[Value.slice.injEq] at hv;obtain⟨rfl,rfl,rfl⟩:=hv;exact⟨rfl,hn,λ _=>⟨g,rfl⟩,h1⟩
theorem ep{c:aV}{b off:Nat}{xs:LV_}(h:c.shows b off xs)(k:Nat):c.shows b (off+k) (xs.drop k):=by
 intro w hw i v hv;rw[Hu] at hv;rw[He];exact h w hw _ v hv
theorem ge{c:aV}{b off:Nat}:c.shows b off []:=λ _ _ _ _ hv=>by simp at hv
theorem aE{g e sz n cap:Nat}{A:OA}{xs:LV_}(hA:xs≠[]->A=some ⟨g,0,none⟩):(aV.own (.slice A n cap) e sz n xs).shows g 0 xs:=by
 by_cases h:xs=[]
 ·subst h;exact ge
 ·rw[hA h];exact cp
theorem aM{g e sz n cap:Nat}{A:OA}{xs:LV_}(hA:xs≠[]->A=some ⟨g,0,none⟩):xs=[]\/(aV.own (.slice A n cap) e sz n xs).at_=some g:=by
 by_cases h:xs=[]
 ·exact .inl h
 ·rw[hA h];exact .inr rfl
theorem av{b off:Nat}{vs:LV_}:vs=[]\/(aV.seg b off vs).at_=some b:=by
 by_cases h:vs=[]
 ·exact .inl h
 ·exact .inr (by simp only[aV.at_];rw[if_neg h])
theorem bL{A:OA}{n sz:Nat}{xs:LV_}(h:0<n->∃ g,A=some ⟨g,0,none⟩)(hl:xs.length=n*sz):∃ g,xs≠[]->A=some ⟨g,0,none⟩:=by
 by_cases h0:0<n
 ·obtain⟨g,hg⟩:=h h0;exact⟨g,λ _=>hg⟩
 ·refine⟨0,λ hx=>absurd (GM.1 ?_) hx⟩;rw[hl,show n=0 by omega,Nat.zero_mul]
theorem vQ{w:World}{b e sz n:Nat}{cs:LV_}(h:(blk b e cs).holds w)(hl:cs.length=n*sz)(hn:n<=maxLen):(aV.own (.slice (some ⟨b,0,none⟩) n n) e sz n cs).holds w:=by
 refine⟨hl,.inr ⟨b,n,cs.toArray,rfl,GB _,h,GF _,hn,by simp[hl],?_⟩⟩;simp only[<- hl];exact GY
theorem cO.blkOwn{w0 w:World}{M:LN}{b e sz n:Nat}{cs:LV_}(hH:cO w0 M w (blk b e cs::H))(hl:cs.length=n*sz)(hn:n<=maxLen):cO w0 M w (.own (.slice (some ⟨b,0,none⟩) n n) e sz n cs::H):=by
 refine⟨hH.os,hH.tape,hH.output,hH.size,hH.keep,λ c hc=>?_,λ c hc b' hb'=>?_,?_⟩
 ·rcases GD.1 hc with rfl|hc
  ·exact vQ (hH.holds _ (by simp)) hl hn
  ·exact hH.holds c (by simp[hc])
 ·rcases GD.1 hc with rfl|hc
  ·exact hH.own (blk b e cs) (by simp) b' hb'
  ·exact hH.own c (by simp[hc]) b' hb'
 ·obtain⟨h1,h2⟩:=List.pairwise_cons.1 hH.dis;exact List.pairwise_cons.2 ⟨λ c hc=>h1 c hc,h2⟩
theorem fb{ops l:List Oper}{b e:Nat}{cs:LV_}(sz n:Nat)(hl:cs.length=n*sz)(hn:n<=maxLen)(h:JL X ops l Q E (.own (.slice (some ⟨b,0,none⟩) n n) e sz n cs::H)):JL X ops l Q E (blk b e cs::H):=
 λ a w hA hH=>h a w hA (hH.blkOwn hl hn)
theorem uR{t ty e sz by_ n c cx:Nat}{A Ax:OA}{z:Option Value}{et:TI}(w:World)(ht:tab t=some ⟨.slice e,sz,by_,z⟩)(he:tab e=some et)(hn:n<=c):
 (Builtin.append_ #[t,t] ty #[.slice A n c,.slice Ax 0 cx]).run Tryz.prog w=.ok (.slice A n c) w:=by
 have h1:=dN ht
 cases A<;>cases Ax<;>simp[Builtin.append_,run_underlying h1,da he,Builtin.lenOf,Builtin.firstCells,loadCells,loadCellsFrom,storeCells,hn]
theorem bv{F:OA->Nat->Env}{ops l:List Oper}{o:Oper}{t e sz by_ sz' by' n m c0 cx b off:Nat}{s x:Operand}{uk:UK}{zv:Value}{A0 Ax:OA}{z:Option Value}{xs news:LV_}{c2:aV}(k k2:Nat)
 (ho:o.op=.call ⟨.builtin .append,#[s,x],#[t,t]⟩) (hs:val E s=some (.slice A0 n c0)) (hx:val E x=some (.slice Ax m cx)) (ht:tab t=some ⟨.slice e,sz',by',z⟩)
 (he:tab e=some ⟨uk,sz,by_,some zv⟩) (hzs:zv.cells.size=sz) (hsz:0<sz) (hk:H[k]?=some (.own (.slice A0 n c0) e sz n xs)) (hk2:H[k2]?=some c2) (hc2:c2.shows b off news) (hAx:news≠[]->Ax=some ⟨b,off,none⟩)
 (hl:news.length=m*sz) (h1:one news=true)
 (hmax:(n+m)*by_<=140737488355328) (hmax2:n+m<=2147483648) (hb:∀ A c,jH X.n ops [] E o (.slice A (n+m) c)=some (F A c))
 (h:∀ A c,JL X ops l Q (F A c) (H.set k (.own (.slice A (n+m) c) e sz (n+m) (xs++news)))):JL X ops (o::l) Q E H:=by
 rcases IF m with h0|hm
 ·subst h0;have hnew:news=[]:=List.length_eq_zero_iff.1 (by simpa using hl);subst hnew;refine eu (aW k hk) fun ⟨_,hle,_,_⟩=>?_;refine ab [] (v:=.slice A0 (n+0) c0) (fun a w hA hH=>?_) (hb A0 c0) ?_
  ·simp[execOp,ho,resolve,invoke,builtin,hA.val hs,hA.val hx,uR w ht he hle]
  ·have:=h A0 c0;rw[G5] at this
   have e1:H.set k (.own (.slice A0 (n+0) c0) e sz (n+0) xs)=H:=by
    refine Id λ i=>?_;rw[List.getElem?_set];split
    ·rename_i hi;subst hi;split
     ·exact hk.symm
     ·rename_i hge;rw[G6 (by omega)] at hk;cases hk
    ·rfl
   rw[e1] at this;exact this
 ·have hne:news≠[]:=by
   intro h0;rw[h0,GQ] at hl;have:=Nat.mul_pos hm hsz;omega
  rw[hAx hne] at hx;exact yE k k2 ho hs hx ht he hzs hsz hk hk2 hc2 hl h1 hm hmax hmax2 (λ g c=>hb _ c) (λ g c=>h _ c)
def gj(A:OA)(c l sz:Nat):OA:=if c=l then A else A.map (·.add (l*sz))
theorem fT{A:OA}{c l sz n b o:Nat}(hA:l<n->A=some ⟨b,o,none⟩)(hc:n<=c)(hl:l<n):gj A c l sz=some ⟨b,o+l*sz,none⟩:=by
 unfold gj;rw[if_neg (by omega),hA hl];simp[Addr.add_at]
theorem xQ{A:OA}{c sz:Nat}:gj A c 0 sz=A:=by
 unfold gj;split
 ·rfl
 ·cases A<;>simp[Addr.add]
theorem tt{t e sz by_:Nat}{z:Option Value}(ht:tab t=some ⟨.slice e,sz,by_,z⟩):Tryz.prog.underlying t=some (.slice (Tryz.prog.elem t)):=by
 have h:=dN ht;rw[h];simp[Program.elem,h]
theorem qT{t e sz by_:Nat}{z:Option Value}(ht:tab t=some ⟨.slice e,sz,by_,z⟩):Tryz.prog.elem t=e:=by
 have h:=dN ht;simp[Program.elem,h]
theorem dE{o:Oper}{t e n c i sz' by':Nat}{x lo:Operand}{A:OA}{z:Option Value}{et:TI}{k:IntKind}(ho:o.op=.slice t x (some lo) none none)(hx:val E x=some (.slice A n c))(hlo:val E lo=some (.int k (i:Int)))
 (ht:tab t=some ⟨.slice e,sz',by',z⟩) (he:tab e=some et) (hi:i<=n):gz X o E H (.slice (gj A c i et.size) (n-i) (c-i)):=by
 intro a w hA hH;have h1:=tt ht;have h2:=run_slice_l (P:=Tryz.prog) (w:=w) t A n c h1 k (i:Int) (by omega) (by omega);rw[qT ht] at h2;simp[execOp,ho,hA.val hx,hA.val hlo,run_sliceAt_slice w t _ _ _ _ h1,h2,da he,sliced,gj]
theorem gF{o:Oper}{t e n c i sz' by':Nat}{x hi:Operand}{A:OA}{z:Option Value}{et:TI}{k:IntKind}(ho:o.op=.slice t x none (some hi) none)(hx:val E x=some (.slice A n c))(hlo:val E hi=some (.int k (i:Int)))
 (ht:tab t=some ⟨.slice e,sz',by',z⟩) (he:tab e=some et) (hi':i<=c):gz X o E H (.slice A i c):=by
 intro a w hA hH;have h1:=tt ht;have h2:=run_slice_h (P:=Tryz.prog) (w:=w) t A n c h1 k (i:Int) (by omega) (by omega);rw[qT ht] at h2;have h3:=xQ (A:=A) (c:=c) (sz:=et.size);unfold gj at h3;simp only[Nat.zero_mul] at h3;simp[execOp,ho,hA.val hx,hA.val hlo,run_sliceAt_slice w t _ _ _ _ h1,h2,da he,sliced,h3]
section
variable {P:Program} {ops:Array Oper} {md:Region.Mode} {S:World->Prop} {F:Exit->Act->World->Prop}
def YS(P:Program)(ops:Array Oper)(S:World->Prop)(o:Oper)(v:Value)(a:Act):Prop:=
 (Region.wanted o (yielded ops a.tmps)=true/\∀ w,S w->(execOp a.eval o).run P w=.ok (.value v) w)\/(Region.wanted o (yielded ops a.tmps)=false/\v=undef)
theorem YS.of_same{o:Oper}{v:Value}{a a':Act}(hy:YS P ops S o v a)(he:execOp a'.eval o=execOp a.eval o)(hw:Region.wanted o (yielded ops a'.tmps)=Region.wanted o (yielded ops a.tmps)):YS P ops S o v a':=by
 unfold YS at*;rw[he,hw];exact hy
theorem YS.wpOp{i:Nat}{o:Oper}{v:Value}{a:Act}{w:World}{K:Act->World->Prop}(hi:ops[i]?=some o)(hy:YS P ops S o v a)(hw:S w)(h:K (a.put o.dst v) w):wpOp P ops F i K a w:=by
 unfold Go.wpOp;simp only[hi]
 rcases hy with ⟨h1,h2⟩|⟨h1,rfl⟩
 ·rw[if_pos h1];left;unfold Oper.wp;rw[h2 w hw];exact h
 ·rw[if_neg (by rw[h1];decide)];exact h
def mc:Exit->Act->World->Prop:=λ _ _ _=>False
theorem ut{j:Nat}{oi oj:Oper}{v:Value}(hj:ops[j]?=some oj)(hap:oi.apart ops oj=true)(hsi:∀ cs b,oi.op≠.select cs b)(hsj:∀ cs b,oj.op≠.select cs b){K:Act->World->Prop}{a:Act}{w:World}
 (hy:YS P ops S oi v a) (h:wpOp P ops mc j K (a.put oi.dst v) w):wpOp P ops mc j (λ a' w'=>YS P ops S oi v a'/\K (a'.put oi.dst v) w') a w:=by
 obtain⟨h1,h2,h3⟩:=Oper.apart_spec hap;have keep:∀ (a:Act),YS P ops S oi v a->∀ u,YS P ops S oi v (a.put oj.dst u):=λ a hy u=>hy.of_same (execOp_put oi hsi a oj.dst u h3) (wanted_put oi a oj.dst u h3);have keepd:∀ (a:Act) (d:Deferred),YS P ops S oi v a->YS P ops S oi v { a with defers:=d::a.defers }:=λ a d hy=>hy;unfold wpOp at*;simp only[hj] at*;rw[wanted_put oj a oi.dst v h1] at h;split
 ·rename_i hw;rw[if_pos hw] at h
  rcases h with h|⟨_,_,_,h⟩
  ·left
   unfold Oper.wp at*;rw[execOp_put oj hsj a oi.dst v h1] at h
   generalize (execOp a.eval oj).run P w=r at*
   cases r with
   |ok n w'=>
    cases n<;>simp only[Oper.upon] at h ⊢
    case value u=>exact⟨keep a hy u,by rw[<- Act.put_comm a v u h2];exact h⟩
    case skip=>exact⟨keep a hy _,by rw[<- Act.put_comm a v undef h2];exact h⟩
    case defer d=>
     have e:({ a.put oi.dst v with defers:=d::(a.put oi.dst v).defers }:Act)=({ a with defers:=d::a.defers }:Act).put oi.dst v:=by cases oi.dst<;>rfl
     exact⟨keep _ (keepd a d hy) _,by rw[<- Act.put_comm _ v undef h2,<- e];exact h⟩
    case enter f args=>
     refine h.mono λ e w'' he=>?_
     cases e with
     |returned u=>exact⟨keep a hy u,by rw[<- Act.put_comm a v u h2];exact he⟩
     |panicked ch=>exact he
     |outgrown=>exact he
    case row r args=>exact h.mono λ u w'' hu=>⟨keep a hy u,by rw[<- Act.put_comm a v u h2];exact hu⟩
   |halt x w'=>cases x<;>simp only[Oper.upon] at h ⊢<;>exact h
  ·exact h.elim
 ·rename_i hw;rw[if_neg hw] at h;exact⟨keep a hy _,by rw[<- Act.put_comm a v undef h2];exact h⟩
def j9(P:Program)(md:Region.Mode)(ops:Array Oper)(S:World->Prop)(n:Nat)(L:Array Bool->Act->World->Prop):Nat->Array Bool->Act->World->Prop
 |0,listed,a,w=>L listed a w
 |f+1,listed,a,w=>Region.ready md ops listed≠[]/\∀ i∈Region.ready md ops listed,i<n/\wpOp P ops mc i (λ a' w'=>S w'/\j9 P md ops S n L f (listed.setIfInBounds i true) a' w') a w
theorem jK{i:Nat}{K:Act->World->Prop}{Q1 Q':Exit->Act->World->Prop}{a:Act}{w:World}(hno:∀ e a w,e≠.normal->¬ Q1 e a w)(h:wpOp P ops Q1 i K a w):wpOp P ops Q' i K a w:=by
 unfold wpOp at*;split
 ·rename_i ho;simp only[ho] at h;exact h
 ·rename_i o ho;simp only[ho] at h;split
  ·rename_i hw;rw[if_pos hw] at h
   rcases h with h|⟨_,a1,w1,h⟩
   ·left
    unfold Oper.wp at*
    generalize (execOp a.eval o).run P w=r at*
    cases r with
    |ok n w'=>
     cases n<;>simp only[Oper.upon] at h ⊢
     case enter f args=>
      refine h.mono λ e w'' he=>?_
      cases e with
      |returned u=>exact he
      |panicked ch=>exact (hno _ _ _ (by simp) he).elim
      |outgrown=>obtain⟨_,_,h⟩:=he;exact (hno _ _ _ (by simp) h).elim
     all_goals exact h
    |halt x w'=>cases x<;>simp only[Oper.upon] at h ⊢<;>exact (hno _ _ _ (by simp) h).elim
   ·exact (hno _ _ _ (by simp) h).elim
  ·rename_i hw;rw[if_neg hw] at h;exact h
theorem iw{n g:Nat}{L:Array Bool->Act->World->Prop}{Q':Exit->Act->World->Prop}(hL:∀ listed a w,L listed a w->wpAny P md ops Q' g listed a w):
 ∀ (f:Nat) (listed:Array Bool) (a:Act) (w:World),j9 P md ops S n L f listed a w->wpAny P md ops Q' (f+g) listed a w
 |0,listed,a,w,h=>by rw[GZ];exact hL _ _ _ h
 |f+1,listed,a,w,h=>by
  rw[show f+1+g=(f+g)+1 by omega];exact⟨λ h0=>absurd h0 h.1,λ i hi=>jK (λ _ _ _ _ h=>h) (wpOp_mono (λ a' w' h'=>iw hL f _ a' w' h'.2) (h.2 i hi).2)⟩
def mC(md:Region.Mode)(ops:Array Oper)(n:Nat):Bool:=decide (n=ops.size)||(decide (n<ops.size)&&Region.sinkB md ops n&&Region.chainB md ops n)
theorem iU{n:Nat}{listed:Array Bool}(ht:mC md ops n=true)(inv:HeadInv md ops n listed){i:Nat}(hin:i<n)(hun:listed.getD i true=false):∀ j∈Region.ready md ops listed,j<n:=by
 intro j hj;simp only[mC,Bool.or_eq_true,Hh,G3] at ht
 rcases ht with ht|⟨⟨hn,hs⟩,hc⟩
 ·obtain⟨_,o,ho,_⟩:=mem_ready.1 hj;have:=(HP.1 ho).1;omega
 ·rcases Nat.lt_or_ge j n with h|h
  ·exact h
  ·exact absurd hj (tail_waits hs hc hn inv _ i rfl hin hun j h)
theorem m8{n i:Nat}{oi:Oper}{v:Value}{L:Array Bool->Act->World->Prop}(hi:ops[i]?=some oi)(hsel:∀ (j:Nat) (o:Oper) cs b,ops[j]?=some o->o.op≠.select cs b)
 (ht:mC md ops n=true) (hin:i<n) (hdone:∀ listed a w,L listed a w->∀ j∈Region.ready md ops listed,n<=j):
 ∀ (f:Nat) (listed:Array Bool) (a:Act) (w:World),HeadInv md ops n listed->
   (∀ j oj,ops[j]?=some oj->j≠i->listed.getD j true=false->(∀ e∈oj.after,Region.binds md e=true->e.on≠i)->oi.apart ops oj=true)->
   i∈Region.ready md ops listed->YS P ops S oi v a->S w->
   j9 P md ops S n L f (listed.setIfInBounds i true) (a.put oi.dst v) w->j9 P md ops S n L (f+1) listed a w:=by
 intro f
 induction f with
 |zero=>
  intro listed a w inv _ hr hy hS H;have hun:=(mem_ready.1 hr).1;refine⟨λ h=>(by rw[h] at hr;cases hr),λ j hj=>?_⟩;have hjn:=iU ht inv hin hun j hj;refine⟨hjn,?_⟩;by_cases hji:j=i
  ·subst hji;exact hy.wpOp hi hS ⟨hS,H⟩
  ·have:=hdone _ _ _ H j (ready_mono hj hji);omega
 |succ f ih=>
  intro listed a w inv hfree hr hy hS H;have hun:=(mem_ready.1 hr).1;refine⟨λ h=>(by rw[h] at hr;cases hr),λ j hj=>?_⟩;have hjn:=iU ht inv hin hun j hj;refine⟨hjn,?_⟩;by_cases hji:j=i
  ·subst hji;exact hy.wpOp hi hS ⟨hS,H⟩
  ·have h1:=(H.2 j (ready_mono hj hji)).2;obtain⟨hjun,oj,hoj,hall⟩:=mem_ready.1 hj
   have hnot:∀ e∈oj.after,Region.binds md e=true->e.on≠i:=λ e he hb heq=>by
    have h1:=hall e he hb;rw[heq,getD_both hun] at h1
    cases h1
   have h2:=ut hoj (hfree j oj hoj hji hjun hnot) (λ cs b=>hsel i oi cs b hi) (λ cs b=>hsel j oj cs b hoj) hy h1
   have hfree':∀ k ok,ops[k]?=some ok->k≠i->(listed.setIfInBounds j true).getD k true=false->
    (∀ e∈ok.after,Region.binds md e=true->e.on≠i)->oi.apart ops ok=true:=λ k ok hk hki hun hno=>by
    refine hfree k ok hk hki ?_ hno;by_cases hjk:j=k
    ·subst hjk;exact hjun
    ·rw[getD_set_ne true hjk] at hun;exact hun
   refine wpOp_mono (λ a' w' h3=>⟨h3.2.1,ih (listed.setIfInBounds j true) a' w' (inv.set hj hjn) hfree' (ready_mono hr (Ne.symm hji)) h3.1 h3.2.1 ?_⟩) h2;rw[Array.setIfInBounds_comm _ _ hji];exact h3.2.2
def th(P:Program)(ops:Array Oper)(S:World->Prop)(Q:Act->World->Prop):List (Nat×Bool)->Act->World->Prop
 |[],a,w=>Q a w
 |(k,true)::rest,a,w=>∃ o v,ops[k]?=some o/\YS P ops S o v a/\th P ops S Q rest (a.put o.dst v) w
 |(k,false)::rest,a,w=>wpOp P ops mc k (λ a' w'=>S w'/\th P ops S Q rest a' w') a w
def ky(md:Region.Mode)(ops:Array Oper)(n g:Nat):List (Nat×Bool)->Array Bool->Bool
 |[],listed=>Region.seqB md ops g n listed
 |(k,st)::rest,listed=>decide (k<n)&&(match st with
    |true=>(Region.ready md ops listed).contains k&&Region.free md ops listed k
    |false=>decide (Region.ready md ops listed=[k]))&&ky md ops n g rest (listed.setIfInBounds k true)
theorem kQ{n g:Nat}{Lq:Act->World->Prop}(hsel:Region.noSelect ops=true)(ht:mC md ops n=true):∀ (l:List (Nat×Bool)) (listed:Array Bool) (a:Act) (w:World),HeadInv md ops n listed->S w->
 ky md ops n g l listed=true->th P ops S Lq l a w->j9 P md ops S n (λ listed' a' w'=>Region.seqB md ops g n listed'=true/\Lq a' w') l.length listed a w
 |[],listed,a,w,_,_,hB,h=>⟨hB,h⟩
 |(k,true)::l,listed,a,w,inv,hS,hB,h=>by
  simp only[ky,Hh,G3] at hB;obtain⟨⟨hkn,hr,hf⟩,hB'⟩:=hB;obtain⟨o,v,h0,hy,hK⟩:=h;have hr':k∈Region.ready md ops listed:=by simpa using hr
  exact m8 h0 (Region.noSelect_spec hsel) ht hkn (λ listed' a' w' hL=>seqB_ready hL.1) l.length listed a w inv (Region.free_spec h0 hf) hr' hy hS (kQ hsel ht l _ _ w (inv.set hr' hkn) hS hB' hK)
 |(k,false)::l,listed,a,w,inv,hS,hB,h=>by
  simp only[ky,Hh,G3] at hB;obtain⟨⟨hkn,hr⟩,hB'⟩:=hB;refine⟨by rw[hr];simp,λ i hi=>?_⟩;have hr':k∈Region.ready md ops listed:=by rw[hr];simp
  rw[hr] at hi;obtain rfl:i=k:=by simpa using hi
  exact⟨hkn,wpOp_mono (λ a' w' h'=>⟨h'.1,kQ hsel ht l _ _ _ (inv.set hr' hkn) h'.1 hB' h'.2⟩) h⟩
def cZ(l:LN):List (Nat×Bool):=l.map λ k=>(k,true)
def qh(ops:Array Oper)(n:Nat)(l:List (Nat×Bool)):Bool:=Region.noSelect ops&&mC .any ops n&&decide (l.length=n)&&decide (n<=ops.size)&&ky .any ops n (ops.size-n) l (Array.replicate ops.size false)
theorem kM{id:Nat}{Q:Exit->Act->World->Prop}{a:Act}{w:World}{l:List Oper}(n:Nat)(order:List (Nat×Bool))(hm:P.follows .mixedOrders=true)(hB:qh l.toArray n order=true)(hS:S { w with drawn:=w.drawn+1 })
 (h:th P l.toArray S (λ a' w'=>wpList P l.toArray Q (l.drop n) a' w') order a { w with drawn:=w.drawn+1 }):(Code.region id l.toArray true).wp P Q a w:=by
 simp only[qh,Hh,G3] at hB;obtain⟨⟨⟨⟨hsel,ht⟩,hlen⟩,hn⟩,hwk⟩:=hB
 have inv0:HeadInv .any l.toArray n (Array.replicate l.toArray.size false):=
  ⟨by simp,λ j oj _ hl=>(by rw[getD_replicate_false] at hl;cases hl),λ t _ ht=>getD_in (by simpa using ht) (getD_replicate_false _ _)⟩
 have hdl:(l.drop n).length=l.toArray.size-n:=by simp
 have H:=kQ (md:=.any) (g:=l.toArray.size-n) hsel ht order _ a _ inv0 hS hwk h;refine wp_region_any hm ?_
 have:=iw (Q':=Q) (g:=l.toArray.size-n) (λ listed a' w' hL=>by
  have:=wpAny_of_seq (md:=.any) (Q':=Q) (l.drop n) n listed a' w' (λ j=>by simp[Hu]) (by rw[hdl];exact hL.1) hL.2
  rwa [hdl] at this) _ _ _ _ H
 rw[hlen,show n+(l.toArray.size-n)=l.toArray.size by omega] at this;exact this
end
section
variable {X:Cx} {Q:dQ} {E E':Env} {H Sf:Heap} {K:Env->Heap->Prop}
def JW(X:Cx)(ops:List Oper)(order:List (Nat×Bool))(Sf:Heap)(K:Env->Heap->Prop)(E:Env)(H:Heap):Prop:=
 ∀ a w,eR X.n a E->cO X.w0 X.M w H->th Tryz.prog ops.toArray (λ w=>cO X.w0 X.M w Sf) (λ a' w'=>∃ E' H',eR X.n a' E'/\cO X.w0 X.M w' H'/\K E' H') order a w
theorem bu{id:Nat}{l:List Oper}(n:Nat)(order:List (Nat×Bool))(ix:LN)(hB:qh l.toArray n order=true)(hi:ix.Nodup)(hS:bU H ix=some Sf)(h:JW X l order Sf (λ E' H'=>JL X l (l.drop n) Q E' H') E H):
 J X (.region id l.toArray true) Q E H:=by
 intro a w hA hH;refine kM (S:=λ w=>cO X.w0 X.M w Sf) n order zo hB (hH.drew.picks ix hi hS) ?_;have:=h a _ hA hH.drew;refine (?_:∀ (Q1 Q2:Act->World->Prop),(∀ a w,Q1 a w->Q2 a w)->∀ l a w,th Tryz.prog _ _ Q1 l a w->th Tryz.prog _ _ Q2 l a w) _ _ ?_ _ a _ this
 ·intro Q1 Q2 hq l
  induction l with
  |nil=>exact λ a w h=>hq a w h
  |cons o l ih=>
   intro a w h;obtain⟨k,st⟩:=o
   cases st with
   |true=>obtain⟨o,v,h1,h2,h3⟩:=h;exact⟨o,v,h1,h2,ih _ _ h3⟩
   |false=>exact wpOp_mono (λ a' w' h'=>⟨h'.1,ih _ _ h'.2⟩) h
 ·rintro a w ⟨E',H',hA',hH',hq⟩;exact hq a w hA' hH'
theorem bq{ops:List Oper}(h:K E H):JW X ops [] Sf K E H:=λ _ _ hA hH=>⟨E,H,hA,hH,h⟩
theorem aj{ops:List Oper}{rest:List (Nat×Bool)}{k:Nat}{o:Oper}{v:Value}(gs:LN)(ho:ops[k]?=some o)(hv:gz X o E Sf v)(hb:jH X.n ops gs E o v=some E')(h:JW X ops rest Sf K E' H):JW X ops ((k,true)::rest) Sf K E H:=by
 intro a w hA hH;obtain⟨hg,hp⟩:=db hb;exact⟨o,v,by simpa using ho,.inl ⟨ce hA hg,λ w' hw'=>hv a w' hA hw'⟩,h _ w (hA.putE hp) hH⟩
theorem bB{ops:List Oper}{rest:List (Nat×Bool)}{k:Nat}{o:Oper}{gs:LN}(ho:ops[k]?=some o)(he:Cu X.n ops gs E o=some E')(h:JW X ops rest Sf K E' H):JW X ops ((k,true)::rest) Sf K E H:=by
 unfold Cu at he;split at he
 ·rename_i hg;split at he
  ·rename_i v hv;exact aj gs ho (jE hv) (by unfold jH;rw[hg];exact he) h
  ·cases he
 ·rename_i hg;intro a w hA hH;exact⟨o,undef,by simpa using ho,.inr ⟨ce hA hg,rfl⟩,h _ w (hA.putE he) hH⟩
 ·cases he
noncomputable def E7(n:qf)(ops:List Oper)(gs:LN)(E:Env):List (Nat×Bool)->Env×List (Nat×Bool)
 |[]=>(E,[])
 |(k,false)::l=>(E,(k,false)::l)
 |(k,true)::l=>match ops[k]? with
  |some o=>match Cu n ops gs E o with
   |some E'=>E7 n ops gs E' l
   |none=>(E,(k,true)::l)
  |none=>(E,(k,true)::l)
theorem aB{ops:List Oper}{l':List (Nat×Bool)}(gs:LN):∀ {l:List (Nat×Bool)} {E:Env},E7 X.n ops gs E l=(E',l')->JW X ops l' Sf K E' H->JW X ops l Sf K E H
 |[],E,h,k=>by
  simp only[E7,Hq] at h;obtain⟨rfl,rfl⟩:=h;exact k
 |(_,false)::l,E,h,k=>by
  simp only[E7,Hq] at h;obtain⟨rfl,rfl⟩:=h;exact k
 |(i,true)::l,E,h,k=>by
  unfold E7 at h;split at h
  ·rename_i o ho;split at h
   ·rename_i E1 h1;exact bB ho h1 (aB gs h k)
   ·simp only[Hq] at h;obtain⟨rfl,rfl⟩:=h;exact k
  ·simp only[Hq] at h;obtain⟨rfl,rfl⟩:=h;exact k
theorem dw{ops:List Oper}(gs:LN){l:List (Nat×Bool)}{E:Env}(h:E7 X.n ops gs E l=(E',[]))(k:K E' H):JW X ops l Sf K E H:=aB gs h (bq k)
theorem eg{ops:List Oper}{l:List (Nat×Bool)}(t:Nat){v v':Value}(hv:fW E t=some v)(e:v=v')(h:JW X ops l Sf K ((t,v')::E) H):JW X ops l Sf K E H:=λ a w hA hH=>h a w (hA.set hv e) hH
theorem sn{ops:List Oper}{l:List (Nat×Bool)}(t:Nat){p:Prop}(hv:fW E t=some (.bool (di p)))(hp:p)(h:JW X ops l Sf K ((t,.bool true)::E) H):JW X ops l Sf K E H:=eg t hv (Gt Value.bool (aR hp)) h
theorem j8{ops:List Oper}{l:List (Nat×Bool)}(t:Nat){p:Prop}(hv:fW E t=some (.bool (di p)))(hp:¬ p)(h:JW X ops l Sf K ((t,.bool false)::E) H):JW X ops l Sf K E H:=eg t hv (Gt Value.bool (a6 hp)) h
def Dg(X:Cx)(ops:List Oper)(rest:List (Nat×Bool))(Sf:Heap)(K:Env->Heap->Prop):dQ:=λ e E' H'=>match e with
 |.normal=>(∃ ix:LN,ix.Nodup/\bU H' ix=some Sf)/\JW X ops rest Sf K E' H'
 |_=>False
theorem bg{ops:List Oper}{rest:List (Nat×Bool)}{k:Nat}{o:Oper}(ho:ops[k]?=some o)(h:JL X ops [o] (Dg X ops rest Sf K) E H):JW X ops ((k,false)::rest) Sf K E H:=by
 intro a w hA hH;have h1:=h a w hA hH;show wpOp _ _ _ _ _ _ _;refine jK (Q1:=l6 X (Dg X ops rest Sf K)) (λ e a w hne hq=>?_) ?_
 ·obtain⟨E1,H1,_,_,hq⟩:=hq
  cases e with
  |normal=>exact hne rfl
  |_=>exact hq
 ·unfold wpOp;have ho':ops.toArray[k]?=some o:=by simpa using ho
  simp only[ho'];unfold wpList at h1
  have hfin:∀ a' w',wpList Tryz.prog ops.toArray (l6 X (Dg X ops rest Sf K)) [] a' w'->cO X.w0 X.M w' Sf/\th Tryz.prog ops.toArray (λ w=>cO X.w0 X.M w Sf) (λ a' w'=>∃ E' H',eR X.n a' E'/\cO X.w0 X.M w' H'/\K E' H') rest a' w':=by
   rintro a' w' ⟨E1,H1,hA1,hH1,⟨ix,hix,hp⟩,hj⟩;exact⟨hH1.picks ix hix hp,hj a' w' hA1 hH1⟩
  split
  ·rename_i hw;rw[if_pos hw] at h1;exact h1.imp (Oper.wp_mono hfin) id
  ·rename_i hw;rw[if_neg hw] at h1;exact hfin _ _ h1
end
def y7(E:Env)(H:Heap):List ResultVar->LV_->Prop
 |[],[]=>True
 |.tmp t::rs,v::vs=>fW E t=some v/\y7 E H rs vs
 |.cell t e::rs,v::vs=>(∃ (b k e':Nat) (cs:LV_),fW E t=some (.pointer (some ⟨b,0,none⟩))/\H[k]?=some (blk b e' cs)/\eH e cs 0=some v)/\y7 E H rs vs
 |_,_=>False
def Gg(rs:List ResultVar)(R:Value->Heap->Prop):dQ:=λ e E H=>match e with
 |.normal=>∃ vs ix H',y7 E H rs vs/\ix.Nodup/\bU H ix=some H'/\R (jR vs) H'
 |.ret=>∃ vs ix H',y7 E H rs vs/\ix.Nodup/\bU H ix=some H'/\R (jR vs) H'
 |_=>False
theorem pS{w0 w:World}{M:LN}{H:Heap}{E:Env}{a:Act}{n:qf}(hA:eR n a E)(hH:cO w0 M w H):∀ (rs:List ResultVar) (vs:LV_),y7 E H rs vs->(rs.toArray.toList.mapM (m:=Sem) (mm a.tmps)).run Tryz.prog w=.ok vs w
 |[],[],_=>by simp
 |.tmp t::rs,v::vs,h=>by
  have h1:=hA.get _ _ h.1;have h2:=pS hA hH rs vs h.2;simp only[List.mapM_cons] at h2 ⊢;simp[mm,h2,Ik,h1]
 |.cell t e::rs,v::vs,h=>by
  obtain⟨⟨b,k,e',cs,g1,g2,g3⟩,h'⟩:=h;have h1:=hA.get _ _ g1;have h2:=pS hA hH rs vs h';have h3:=ou (w:=w) (b:=b) (o:=0) (t:=e) (cs:=cs) (v:=v) (aF b e' cs (0,0) w (hH.holds _ (Gu g2))) g3;simp only[List.mapM_cons] at h2 ⊢;simp[mm,h2,Ik,h1,asAddr,h3]
 |[],_::_,h=>h.elim
 |.tmp _::_,[],h=>h.elim
 |.cell _ _::_,[],h=>h.elim
theorem mL{w0 w:World}{M:LN}{H:Heap}{E:Env}{a:Act}{n:qf}(hA:eR n a E)(hH:cO w0 M w H){fn:Func}{vs:LV_}(h:y7 E H fn.results.toList vs):(results fn a.tmps).run Tryz.prog w=.ok (jR vs) w:=by
 have e:results fn a.tmps=(do let vs <- fn.results.mapM (mm a.tmps);pure (if h:vs.size=1 then vs[0] else .tuple vs)):=rfl;have hr:=pS hA hH _ _ h;rw[List.toList_toArray] at hr;rw[e,I0];simp only[map_eq_pure_bind,bind_assoc,pure_bind,Sem.run_bind,hr];show Result.ok (if h:vs.toArray.size=1 then vs.toArray[0] else Value.tuple vs.toArray) w=_
 congr 1
 match vs with
 |[]=>rfl
 |[v]=>rfl
 |u::v::l=>
  have:¬ (u::v::l).toArray.size=1:=by simp
  rw[dif_neg this];rfl
theorem iN{f:FuncId}{fn:Func}{c:Code}{args:LV_}{M:LN}{H:Heap}{R:Value->Heap->Prop}(hf:Tryz.prog.funcs[f]?=some fn)(hb:fn.body=some c)(hn:Nat.ble args.length fn.ntmps=true)
 (h:∀ w0,J ⟨w0,M,⟨fn.ntmps,[]⟩⟩ c (Gg fn.results.toList R) (nc 0 args) H):Fn f args M H R:=by
 intro w hH;refine calls_of_wp hf hb ?_;have hA:=kB (args:=args) hn;refine wp_mono (h w _ w hA hH) ?_;rintro e a w' ⟨E',H',hA',hH',hq⟩
 cases e with
 |normal=>
  obtain⟨vs,ix,H2,h1,h2,h3,h4⟩:=hq;exact⟨hA'.defers,jR vs,mL hA' hH' h1,jR vs,H2,rfl,hH'.picks ix h2 h3,h4⟩
 |ret=>
  obtain⟨vs,ix,H2,h1,h2,h3,h4⟩:=hq;exact⟨hA'.defers,jR vs,mL hA' hH' h1,jR vs,H2,rfl,hH'.picks ix h2 h3,h4⟩
 |_=>exact hq.elim
variable {X:Cx} {Q:dQ} {E E':Env} {H:Heap}
def eS(i:Nat):List (Int×Value)->List MapEntry
 |[]=>[]
 |(k,v)::l=>⟨.int .i64 k,v,i⟩::eS (i+1) l
def gX(l:List (Int×Value)):Obj:=.map (eS 0 l).toArray l.length
def ki:List (Int×Value)->Int->Option Value
 |[],_=>none
 |(k,v)::l,n=>if k=n then some v else ki l n
theorem wm{l:List (Int×Value)}{n:Int}(h:∀ p∈l,p.1≠n):ki l n=none:=by
 induction l with
 |nil=>rfl
 |cons p l ih=>obtain⟨k,v⟩:=p;unfold ki;rw[if_neg (h (k,v) (by simp))];exact ih λ q hq=>h q (by simp[hq])
theorem mR{u:IntKind}(n:Int):∀ (l:List (Int×Value)) (i j:Nat),∃ r,Instr.findNow (.int u) (.int .i64 n) (eS i l) j=some r/\(r.map (·.2))=ki l n
 |[],i,j=>⟨none,rfl,rfl⟩
 |(k,v)::l,i,j=>by
  by_cases h:n=k
  ·subst h;exact⟨some (j,v),by simp[eS,Instr.findNow,Instr.sameNow],by simp[ki]⟩
  ·obtain⟨r,h1,h2⟩:=mR (u:=u) n l (i+1) (j+1);have hf:(n==k)=false:=by simpa using h
   exact⟨r,by simp[eS,Instr.findNow,Instr.sameNow,hf,h1],by unfold ki;rw[if_neg (λ e=>h e.symm)];exact h2⟩
theorem mO{w:World}{kt:TypeId}{u:IntKind}(hk:Tryz.prog.underlying kt=some (.int u))(n:Int)(l:List (Int×Value))(i:Nat):∃ r,(Instr.findKey kt (.int .i64 n) (eS i l)).run Tryz.prog w=.ok r w/\(r.map (·.2))=ki l n:=by
 obtain⟨r,h1,h2⟩:=mR (u:=u) n l i 0;exact⟨r,by simp[Instr.findKey,run_underlying hk,h1],h2⟩
theorem jQ{w:World}{kt:TypeId}{u:IntKind}(hk:Tryz.prog.underlying kt=some (.int u))(e:Bool)(n:Int):(Instr.checkKey e 10000 kt (.int .i64 n)).run Tryz.prog w=.ok () w:=by
 show (Instr.checkKey e (9999+1) kt (.int .i64 n)).run Tryz.prog w=.ok () w;unfold Instr.checkKey;simp[run_underlying hk]
theorem mw{F:Nat->Env}{ops l:List Oper}{o:Oper}{t:TypeId}(ho:o.op=.makeMap t none)(hb:∀ b,jH X.n ops [] E o (.map (some b))=some (F b))(h:∀ b,JL X ops l Q (F b) (.obj b (gX [])::H)):JL X ops (o::l) Q E H:=
 sf (f:=λ b=>.map (some b)) [] (λ a w hA _=>by simp[execOp,ho,Instr.makeMap,newObj,Sem.run,gX,eS,World.alloc_eq]) hb h
theorem dB{o:Oper}{t kt et b sz by_:Nat}{x ix:Operand}{n:Int}{u:IntKind}{uk:UK}{z:Value}{l:List (Int×Value)}(k:Nat)(ht:Tryz.prog.underlying t=some (.map kt et))(hk:Tryz.prog.underlying kt=some (.int u))(ho:o.op=.lookup t x ix false)
 (hx:val E x=some (.map (some b))) (hi:val E ix=some (.int .i64 n)) (hH:H[k]?=some (.obj b (gX l))) (hz:tab et=some ⟨uk,sz,by_,some z⟩):gz X o E H ((ki l n).getD z):=by
 intro a w hA hHas;have hb:w.heap[b]?=some (gX l):=hHas.holds _ (Gu hH);obtain⟨d,j,_,hji,_,_,_,hzz⟩:=dJ hz;obtain⟨r,h1,h2⟩:=mO (w:=w) hk n l 0;have hg:(getObj b).run Tryz.prog w=.ok (gX l) w:=by unfold gX at hb ⊢;simp[getObj,Sem.run,hb]
 unfold gX at hg
 have hr:(Instr.lookup t (.map (some b)) (.int .i64 n) false).run Tryz.prog w=.ok ((ki l n).getD z) w:=by
  rw[<- h2]
  cases r with
  |none=>simp[Instr.lookup,run_underlying ht,hg,jQ hk,h1,zeroValue,typeInfo,hji,hzz z rfl]
  |some p=>obtain⟨i,v⟩:=p;simp[Instr.lookup,run_underlying ht,hg,jQ hk,h1]
 simp[execOp,ho,hA.val hx,hA.val hi,hr]
theorem qW(n:Int)(v:Value):∀ (l:List (Int×Value)) (i:Nat),eS i l++[⟨.int .i64 n,v,i+l.length⟩]=eS i (l++[(n,v)])
 |[],i=>by simp[eS]
 |(k,u)::l,i=>by
  have:=qW n v l (i+1);simp only[eS,Hp,Gz];rw[<- this,show i+(l.length+1)=i+1+l.length by omega]
theorem mb{ops l:List Oper}{o:Oper}{t kt et b:Nat}{x ix y:Operand}{n:Int}{v:Value}{u:IntKind}{es:List (Int×Value)}(k:Nat)(ht:Tryz.prog.underlying t=some (.map kt et))(hk:Tryz.prog.underlying kt=some (.int u))(ho:o.op=.mapUpdate t x ix y)
 (hx:val E x=some (.map (some b))) (hi:val E ix=some (.int .i64 n)) (hy:val E y=some v) (hH:H[k]?=some (.obj b (gX es))) (hnew:∀ p∈es,p.1≠n) (gs:LN) (hb:jH X.n ops gs E o undef=some E')
 (h:JL X ops l Q E' (H.set k (.obj b (gX (es++[(n,v)]))))):JL X ops (o::l) Q E H:=by
 intro a w hA hHas;obtain⟨hg,hp⟩:=db hb;unfold wpList;rw[if_pos (ce hA hg)]
 left
 have hbl:w.heap[b]?=some (gX es):=hHas.holds _ (Gu hH);have hlt:b<w.heap.size:=(HP.1 hbl).1;obtain⟨r,h1,h2⟩:=mO (w:=w) hk n es 0;rw[wm hnew] at h2
 have hr0:r=none:=by cases r with
  |none=>rfl
  |some p=>simp at h2
 subst hr0;have hgo:(getObj b).run Tryz.prog w=.ok (gX es) w:=by unfold gX at hbl ⊢;simp[getObj,Sem.run,hbl]
 unfold gX at hgo
 have hso:(setObj b (gX (es++[(n,v)]))).run Tryz.prog w=.ok () { w with heap:=w.heap.setIfInBounds b (gX (es++[(n,v)])) }:=by
  unfold gX at hbl;simp[setObj,Sem.run,hbl]
 have hr:(Instr.mapUpdate t (.map (some b)) (.int .i64 n) v).run Tryz.prog w=.ok () { w with heap:=w.heap.setIfInBounds b (gX (es++[(n,v)])) }:=by
  rw[<- hso];simp[Instr.mapUpdate,run_underlying ht,hgo,jQ hk,h1,gX,<- qW]
 show o.upon _ a _ _ ((execOp a.eval o).run _ w)
 have hx':(execOp a.eval o).run Tryz.prog w=.ok .skip { w with heap:=w.heap.setIfInBounds b (gX (es++[(n,v)])) }:=by
  simp[execOp,ho,hA.val hx,hA.val hi,hA.val hy,hr]
 rw[hx'];refine h _ _ (hA.putE hp) (hHas.step k hH rfl rfl rfl (by simp) (λ q hq hne=>?_) ?_ (λ b' hb'=>.inl hb'))
 ·have:b≠q:=λ e=>hne (by rw[<- e];rfl);simp[Array.getElem?_setIfInBounds_ne this]
 ·show (w.heap.setIfInBounds b _)[b]?=_;simp[hlt]
variable {X:Cx} {Q:dQ} {E E':Env} {H H' K:Heap}
def aH(X:Cx)(H K:Heap):Prop:=∀ w,cO X.w0 X.M w H->cO X.w0 X.M w K
theorem aH.refl:aH X H H:=λ _ h=>h
theorem aH.trans(h1:aH X H H')(h2:aH X H' K):aH X H K:=λ w h=>h2 w (h1 w h)
theorem aH.picks(ix:LN)(hi:ix.Nodup)(h:Proofs.YtmcnpaelaieniaaGreatDoor.bU H ix=some K):aH X H K:=λ _ hw=>hw.picks ix hi h
theorem cO.perm{w0 w:World}{M:LN}(h:cO w0 M w H)(hp:H.Perm K):cO w0 M w K:=
 ⟨h.os,h.tape,h.output,h.size,h.keep,λ c hc=>h.holds c (hp.mem_iff.2 hc),λ c hc=>h.own c (hp.mem_iff.2 hc),h.dis.perm hp λ h=>mg h⟩
theorem aH.perm(h:H.Perm K):aH X H K:=λ _ hw=>hw.perm h
theorem cO.sub{w0 w:World}{M:LN}(h:cO w0 M w H)(hp:K.Sublist H):cO w0 M w K:=
 ⟨h.os,h.tape,h.output,h.size,h.keep,λ c hc=>h.holds c (hp.mem hc),λ c hc=>h.own c (hp.mem hc),h.dis.sublist hp⟩
theorem aH.sub(h:K.Sublist H):aH X H K:=λ _ hw=>hw.sub h
theorem bY{ops l:List Oper}(hf:aH X H K)(h:JL X ops l Q E K):JL X ops l Q E H:=λ a w hA hH=>h a w hA (hf w hH)
theorem bJ{c:Code}(hf:aH X H K)(h:J X c Q E K):J X c Q E H:=λ a w hA hH=>h a w hA (hf w hH)
theorem b6{σ:Type}{c:Code}(F:σ->Env)(K:σ->Heap)(I:σ->Prop)(μ:σ->Nat)(s:σ)(hF:lK E (F s))(hK:aH X H (K s))(hI:I s)
 (round:∀ s,I s->J X c (t6 (λ E' H'=>∃ s',lK E' (F s')/\aH X H' (K s')/\I s'/\μ s'<μ s) Q) (F s) (K s)):J X (.loop c) Q E H:=by
 intro a w hA hH;refine wp_loop_ghost (λ k a w=>∃ s,k=μ s/\I s/\eR X.n a (F s)/\cO X.w0 X.M w (K s)) (μ s) ⟨s,rfl,hI,hA.ents _ hF,hK w hH⟩ ?_;rintro k a w ⟨s,rfl,hI,hA,hH⟩;refine wp_mono (round s hI a w hA hH) ?_;rintro e a' w' ⟨E',H',hA',hH',hq⟩
 cases e with
 |normal=>
  obtain⟨s',h1,h2,h3,h4⟩:=hq;exact⟨μ s',h4,s',rfl,h3,hA'.ents _ h1,h2 w' hH'⟩
 |_=>exact⟨E',H',hA',hH',hq⟩
theorem qg{A R:Heap}{c:aV}{i:Nat}(h:R[i]?=some c):(A++R).Perm (c::(A++R.eraseIdx i)):=by
 obtain⟨hi,rfl⟩:=Gv.1 h
 have h1:R.Perm (R[i]::R.eraseIdx i):=by
  rw[IC];have e:R=R.take i++R[i]::R.drop (i+1):=by rw[<- Hf hi,Hs]
  exact (List.Perm.of_eq e).trans IT
 exact (Ip A h1).trans IT
theorem xZ{A R:Heap}{c:aV}{i:Nat}(h:i<R.length):(c::(A++R.eraseIdx i)).Perm (A++R.set i c):=by
 have h1:(R.set i c)[i]?=some c:=by simp[h]
 have h2:(R.set i c).eraseIdx i=R.eraseIdx i:=by
  rw[IC,IC,List.take_set_of_le (GF _),List.drop_set_of_lt (by omega)]
 have:=(qg (A:=A) h1).symm
 rwa [h2] at this
def CG(Q:dQ):dQ
 |.goto _,_,_=>False
 |e,E,H=>Q e E H
theorem xe{c:Code}(h:J X c (CG Q) E H):J X (.scope c) Q E H:=by
 intro a w hA hH;refine wp_scope_straight (wp_mono (h a w hA hH) ?_);rintro e a' w' ⟨E',H',hA',hH',hq⟩
 cases e with
 |goto l=>exact hq.elim
 |_=>exact⟨E',H',hA',hH',hq⟩
theorem w9{l:Nat}(h:Q .normal E H):J X (.label l) Q E H:=λ _ _ hA hH=>wp_label ⟨E,H,hA,hH,h⟩
theorem pZ{w:World}{e sz n m c:Nat}{A:OA}{xs:LV_}(h:w.ownsRow 0 e sz (.slice A n c) n xs)(hm:m<=n):w.ownsRow 0 e sz (.slice A m c) m (xs.take (m*sz)):=by
 obtain⟨h1,h2|⟨g,cap,cur,hv,h0,hg,hn,hc,hs,hx⟩⟩:=h
 ·obtain⟨hv,rfl⟩:=h2;obtain rfl:m=0:=by omega
  simp only[Value.slice.injEq] at hv;obtain⟨rfl,_,rfl⟩:=hv;exact⟨by simp,.inl ⟨rfl,rfl⟩⟩
 ·simp only[Value.slice.injEq] at hv;obtain⟨rfl,_,rfl⟩:=hv;have hle:m*sz<=n*sz:=HE sz hm;refine⟨by rw[GV,h1];omega,.inr ⟨g,c,cur,rfl,h0,hg,by omega,hc,hs,?_⟩⟩;rw[<- hx,List.take_take,H9 hle]
theorem cO.chunk{w0 w:World}{M:LN}{c d:aV}(k:Nat)(hH:cO w0 M w H)(hk:H[k]?=some c)(hd:d.holds w)(hm:∀ b,d.mine=some b->c.mine=some b)(ha:∀ b,d.at_=some b->c.at_=some b ):cO w0 M w (H.set k d):=by
 have hkl:k<H.length:=(Gv.1 hk).1
 have hmem:∀ e∈H.set k d,e=d\/e∈H:=λ e he=>by
  rcases List.mem_or_eq_of_mem_set he with h|h
  ·exact .inr h
  ·exact .inl h
 refine⟨hH.os,hH.tape,hH.output,hH.size,hH.keep,λ e he=>?_,λ e he b hb=>?_,?_⟩
 ·rcases hmem e he with rfl|h
  ·exact hd
  ·exact hH.holds e h
 ·rcases hmem e he with rfl|h
  ·exact hH.own c (Gu hk) b (hm b hb)
  ·exact hH.own e h b hb
 ·rw[List.pairwise_iff_getElem];intro i j hi hj hij;simp only[List.length_set] at hi hj;have hp:∀ i j (hi:i<H.length) (hj:j<H.length),i≠j→dO H[i] H[j]:=fun i j hi hj hne=>er hH.dis (List.getElem?_eq_getElem hi) (List.getElem?_eq_getElem hj) hne;have hck:c=H[k]:=by rw[List.getElem?_eq_getElem hkl] at hk;exact (Option.some.inj hk).symm
  simp only[List.getElem_set];split
  ·rename_i e1;subst e1;rw[if_neg (by omega)];have:=hp k j hi hj (by omega);rw[<- hck] at this;exact⟨λ b hb=>this.1 b (hm b hb),λ b hb hb2=>this.2 b hb (ha b hb2)⟩
  ·split
   ·rename_i e1;subst e1;have:=hp i k hi hj (by omega);rw[<- hck] at this;exact⟨λ b hb hb2=>this.1 b hb (ha b hb2),λ b hb=>this.2 b (hm b hb)⟩
   ·exact hp i j hi hj (by omega)
theorem zn{ops l:List Oper}{e sz n m c:Nat}{A:OA}{xs:LV_}(k:Nat)(hk:H[k]?=some (.own (.slice A n c) e sz n xs))(hm:m<=n)(h:JL X ops l Q E (H.set k (.own (.slice A m c) e sz m (xs.take (m*sz))))):JL X ops l Q E H:=
 λ a w hA hH=>h a w hA (hH.chunk k hk (pZ (hH.holds _ (Gu hk)) hm) (λ _ h=>by cases A<;>exact h) (λ _ h=>by cases A<;>exact h))
theorem aH.shrink{e sz n m c:Nat}{A:OA}{xs:LV_}(k:Nat)(hk:H[k]?=some (.own (.slice A n c) e sz n xs))(hm:m<=n):aH X H (H.set k (.own (.slice A m c) e sz m (xs.take (m*sz)))):=
 λ _ hH=>hH.chunk k hk (pZ (hH.holds _ (Gu hk)) hm) (λ _ h=>by cases A<;>exact h) (λ _ h=>by cases A<;>exact h)
structure d9 where
 A:OA
 c:Nat
 l:LI
def cz(r:d9):Value:=.slice r.A r.l.length r.c
def aZ(e:Nat)(r:d9):aV:=.own (cz r) e 1 r.l.length (ax r.l)
def dv:d9:=⟨none,0,[]⟩
theorem cO.nils{w0 w:World}{M:LN}(e:Nat)(h:cO w0 M w H):∀ n:Nat,cO w0 M w (H++List.replicate n (aZ e dv))
 |0=>by simpa using h
 |n+1=>by
  have h1:=(h.nils e n).addnil e 1;refine h1.perm ?_;rw[Hw];exact List.perm_middle.symm
theorem aH.nils(e n:Nat):aH X H (H++(List.replicate n dv).map (aZ e)):=λ w h=>by rw[HT];exact h.nils e n
theorem df{t by_ i:Nat}{uk:UK}{z:Option Value}{cs:LV_}{v:Value}(ht:tab t=some ⟨uk,1,by_,z⟩)(hv:v.cells.toList=[v])(h1:v.oneCell'=true)(hi:i<cs.length):nD t cs i v.cells.toList=some (cs.set i v):=by
 unfold nD;rw[ht,hv];have h2:Nat.ble (i+1) cs.length=true:=Nat.ble_eq_true_of_le (by omega);simp only[Gz,GQ,GZ,Nat.beq_refl,h2,one,h1,wr]
theorem aH.front{A R:Heap}{c:aV}{i:Nat}(h:R[i]?=some c):aH X (A++R) (c::(A++R.eraseIdx i)):=aH.perm (qg h)
theorem aH.back{A R:Heap}{c:aV}{i:Nat}(h:i<R.length):aH X (c::(A++R.eraseIdx i)) (A++R.set i c):=aH.perm (xZ h)
variable {X:Cx} {Q:dQ} {E E':Env} {H H' K:Heap}
def aL(C:Heap):LN:=C.filterMap aV.mine
theorem ry{C:Heap}{b:Nat}:b∈aL C↔∃ c∈C,c.mine=some b:=List.mem_filterMap
theorem m9(H:Heap):∀ (K:Heap) (i:Nat),(∀ j,j<K.length->H[i+j]?=K[j]?)->bU H (List.range' i K.length)=some K
 |[],_,_=>rfl
 |c::K,i,hi=>by
  have h0:H[i]?=some c:=by simpa using hi 0 (by simp)
  rw[Gz,List.range'_succ];unfold bU;rw[h0,m9 H K (i+1) (λ j hj=>by have:=hi (j+1) (by simp;omega);simpa [He,I5 1] using this)]
theorem iD{i:Nat}{l:LN}{A1:Heap}:bU H (i::l)=some A1↔∃ c K,H[i]?=some c/\bU H l=some K/\A1=c::K:=by
 constructor
 ·intro h;unfold bU at h;split at h
  ·rename_i c hc;split at h
   ·rename_i K hK;simp only[Gs] at h;exact⟨c,K,hc,hK,h.symm⟩
   ·cases h
  ·cases h
 ·rintro⟨c,K,h1,h2,rfl⟩;unfold bU;rw[h1,h2]
theorem lg{B:Heap}{l':LN}(hB:bU H l'=some B):∀ {l:LN} {A:Heap},bU H l=some A->bU H (l++l')=some (A++B)
 |[],A,h=>by
  simp only[bU,Gs] at h;subst h;exact hB
 |i::l,A,h=>by
  obtain⟨c,K,h1,h2,rfl⟩:=iD.1 h;exact iD.2 ⟨c,K++B,h1,lg hB h2,rfl⟩
theorem jv{A R:Heap}:∀ {l:LN} {A1:Heap},bU A l=some A1->bU (A++R) l=some A1/\∀ i∈l,i<A.length
 |[],A1,h=>⟨h,λ _ h=>by cases h⟩
 |i::l,A1,h=>by
  obtain⟨c,K,h1,h2,rfl⟩:=iD.1 h;have hlt:=(Gv.1 h1).1;obtain⟨k1,k2⟩:=jv (R:=R) h2;refine⟨iD.2 ⟨c,K,by rw[Hi hlt];exact h1,k1,rfl⟩,λ j hj=>?_⟩
  rcases GD.1 hj with rfl|hj
  ·exact hlt
  ·exact k2 j hj
theorem aH.mid{A A1 A2 R:Heap}(ix jx:LN)(h1:Proofs.YtmcnpaelaieniaaGreatDoor.bU A ix=some A1)(h2:Proofs.YtmcnpaelaieniaaGreatDoor.bU A jx=some A2)(hn:(ix++jx).Nodup):aH X (A++R) ((A1++R)++A2):=by
 obtain⟨k1,l1⟩:=jv (R:=R) h1;obtain⟨k2,l2⟩:=jv (R:=R) h2;have kR:Proofs.YtmcnpaelaieniaaGreatDoor.bU (A++R) (List.range' A.length R.length)=some R:=m9 _ R A.length λ j _=>by rw[GL (by omega),Hb]
 refine aH.picks ((ix++List.range' A.length R.length)++jx) ?_ (lg k2 (lg kR k1));obtain⟨n1,n2,n3⟩:=GI.1 hn;rw[GI,GI];refine⟨⟨n1,IL,λ a ha b hb=>?_⟩,n2,λ a ha b hb=>?_⟩
 ·have:=l1 a ha;have:=(List.mem_range'_1.1 hb).1;omega
 ·rcases GE.1 ha with ha|ha
  ·exact n3 a ha b hb
  ·have:=l2 b hb;have:=(List.mem_range'_1.1 ha).1;omega
theorem aH.re{A A1 R:Heap}(ix:LN)(h1:Proofs.YtmcnpaelaieniaaGreatDoor.bU A ix=some A1)(hn:ix.Nodup):aH X (A++R) (A1++R):=by
 have:=aH.mid (X:=X) (R:=R) ix [] h1 rfl (by simpa using hn)
 simpa using this
theorem aH.swap{A R B:Heap}:aH X ((A++R)++B) ((A++B)++R):=aH.perm (by rw[G4,G4];exact Ip A Iq)
theorem je.tail{C:Heap}:∀ {S:Heap},je K [] S->je (C++K) (List.range C.length) S
 |[],_=>trivial
 |.seg b off vs::S,⟨⟨k,c,_,hk,h1,h2⟩,hS⟩=>⟨⟨C.length+k,c,by rw[Hm];omega,by rw[GL (by omega),Hb];exact hk,h1,h2⟩,je.tail hS⟩
 |.tab b o::S,⟨⟨k,_,hk⟩,hS⟩=>⟨⟨C.length+k,by rw[Hm];omega,by rw[GL (by omega),Hb];exact hk⟩,je.tail hS⟩
 |.obj ..::_,h=>h.elim
 |.own ..::_,h=>h.elim
theorem cP:∀ {A B:Heap},fX A=true->fX B=true->fX (A++B)=true
 |[],_,_,h=>h
 |.seg ..::_,_,h,_=>by simp[fX] at h
 |.tab ..::_,_,h,_=>by simp[fX] at h
 |.obj ..::A,B,h,h2=>cP (A:=A) h h2
 |.own ..::A,B,h,h2=>cP (A:=A) h h2
theorem cF(e:Nat):∀ rows:List d9,fX (rows.map (aZ e))=true
 |[]=>rfl
 |_::rows=>cF e rows
theorem og{o:Oper}{t t' n c e sz by_:Nat}{x y:Operand}{A:OA}{z:Option Value}(ho:o.op=.binOp .eql t x y t')(hx:val E x=some (.slice A n c))(hy:val E y=some (.slice none 0 0))(ht:tab t=some ⟨.slice e,sz,by_,z⟩):
 gz X o E H (.bool A.isNone):=by
 intro a w hA hH;have h1:=dN ht
 have he:(Op.equal t (.slice A n c) (.slice none 0 0)).run Tryz.prog w=.ok A.isNone w:=by
  show (Op.equalIn (9999+1) t (.slice A n c) (.slice none 0 0)).run Tryz.prog w=.ok A.isNone w;rw[Op.equalIn];simp only[Sem.run_bind,run_underlying h1,Result.andThen_ok]
  cases A<;>rfl
 have hg:(eqGuard .eql t x y (.slice A n c) (.slice none 0 0)).run Tryz.prog w=.ok () w:=by simp[eqGuard]
 have hb:(binOp .eql t (.slice A n c) (.slice none 0 0)).run Tryz.prog w=.ok (.bool A.isNone) w:=by
  unfold binOp;simp only[Sem.run_bind,he,Result.andThen_ok];rfl
 simp only[execOp,ho,hA.val hx,hA.val hy,Sem.run_bind,hg,hb,Result.andThen_ok];rfl
theorem aw{F:Value->Env}{ops l:List Oper}{o:Oper}{f:Operand}{args:Array Operand}{ts:Array TypeId}{g:FuncId}{fst cap vs args':LV_}{R:Value->Heap->Prop}{S C:Heap}(gs:LN)
 (T:Fn g args' (aL C) (S++C) R) (ho:o.op=.call ⟨.value f,args,ts⟩) (hf:val E f=some (.func (.func g) fst.toArray cap.toArray)) (ha:vals E args.toList=some vs) (has:fst++vs++cap=args') (hc:ew g=true)
 (hfit:aH X H (C++K)) (hS:je K [] S) (hb:∀ v,jH X.n ops gs E o v=some (F v)) (h:∀ v H',R v H'->fX H'=true/\JL X ops l Q (F v) (H'++K)):JL X ops (o::l) Q E H:=by
 refine bY hfit ?_
 have hC:bU (C++K) (List.range C.length)=some C:=by
  rw[List.range_eq_range'];exact m9 _ C 0 λ j hj=>by rw[GZ,Hi hj]
 have hK:bU (C++K) (List.range' C.length K.length)=some K:=m9 _ K C.length λ j _=>by rw[GL (by omega),Hb]
 exact xI (List.range C.length) (List.range' C.length K.length) gs T ho hf ha has hc hS.tail H5 hC (λ c hc b hb=>ry.2 ⟨c,hc,hb⟩) (λ b hb=>ry.1 hb) hK IL
  (λ i hi=>by rw[Hm];have:=(List.mem_range'_1.1 hi).1;omega) hb h
noncomputable def sC(t:Nat)(name:String):Option FuncId:=match Tryz.prog.info? t with
 |some i=>match i.methods.find? (·.name==name) with
  |some m=>match m.path.isEmpty,m.func with
   |true,some (f,false)=>some f
   |_,_=>none
  |none=>none
 |none=>none
theorem vp{t s by_:Nat}{fs:List (Nat×Nat×Nat)}{z:Option Value}{name:String}{g:FuncId}(h:sC t name=some g)(ht:tab t=some ⟨.struct fs,s,by_,z⟩)(v:Value)(w:World):
 (method (Tryz.prog.types.size+Made.depth) t v name).run Tryz.prog w=.ok (g,v) w:=by
 obtain⟨F,hF,_⟩:=jP ht;have hdp:0<Made.depth:=by decide
 have hd:∃ k,Tryz.prog.types.size+Made.depth=k+1:=⟨Tryz.prog.types.size+Made.depth-1,by omega⟩;obtain⟨k,hk⟩:=hd;rw[hk];unfold sC at h;split at h
 ·rename_i i hi;split at h
  ·rename_i m hm;split at h
   ·rename_i f hp hf;simp only[Option.some.injEq] at h;subst h;have hpl:m.path.toList=[]:=by simpa using hp
    unfold method;simp[typeInfo,hi,hm,hpl,follow,hf,receiverAt,run_underlying hF,Place.get]
   ·cases h
  ·cases h
 ·cases h
theorem rz{F:Value->Env}{ops l:List Oper}{o:Oper}{x:Operand}{name:String}{args:Array Operand}{ts:Array TypeId}{g t s by_:Nat}{u:Value}{vs args':LV_}{fs:List (Nat×Nat×Nat)}{z:Option Value}{R:Value->Heap->Prop}{S:Heap}(gs:LN)
 (T:Fn g args' [] S R) (ho:o.op=.call ⟨.invoke x name,args,ts⟩) (hx:val E x=some (.iface t u)) (ha:vals E args.toList=some vs) (has:u::vs=args') (hm:sC t name=some g) (ht:tab t=some ⟨.struct fs,s,by_,z⟩) (hc:ew g=true)
 (hS:je H [] S) (hb:∀ v,jH X.n ops gs E o v=some (F v)) (h:∀ v H',R v H'->fX H'=true/\JL X ops l Q (F v) (H'++H)):JL X ops (o::l) Q E H:=by
 intro a w hA hH;have hg:=(db (hb undef)).1;unfold wpList;rw[if_pos (ce hA hg)]
 left
 show o.upon _ a _ _ ((execOp a.eval o).run _ w);have e1:args.map a.eval=vs.toArray:=by rw[<- hA.vals _ _ ha];exact Array.ext' (by simp)
 have hr:(execOp a.eval o).run Tryz.prog w=.ok (.enter g (u::vs).toArray) w:=by
  have h1:=vp hm ht u w;simp only[execOp,ho,resolve,e1,hA.val hx,Sem.run_bind,Sem.run_pure,Result.andThen_ok,invoke];have e2:(#[Value.iface t u]++vs.toArray)[0]?=some (.iface t u):=by simp
  have e3:(#[Value.iface t u]++vs.toArray).extract 1 (#[Value.iface t u]++vs.toArray).size=vs.toArray:=by simp
  simp only[e2,e3,callMethod,Sem.run_bind,run_program,Result.andThen_ok,h1,fI hc];simp
 rw[hr,has];have hwH:cO w [] w (S++[]):=hH.hand (ix:=[]) (C:=[]) hS IP rfl (λ c hc=>by cases hc);rw[G5] at hwH;refine (T w hwH).mono ?_;rintro e w' ⟨v,H',rfl,h1,h2⟩;obtain⟨h3,h4⟩:=h v H' h2;exact h4 _ _ (hA.putE (db (hb v)).2) (hH.back (ix:=[]) (C:=[]) (K:=H) (Mc:=[]) rfl (λ b hb=>by cases hb) (oB H) H5 (λ _ _ h=>by cases h) h1 h3)
theorem mN{P:Program}{ops:Array Oper}{o:Oper}{j:Nat}{Q1 Q2:Exit->Act->World->Prop}{K:Act->World->Prop}{a:Act}{w:World}(ho:ops.toList[j]?=some o)(h:wpList P ops Q1 [o] a w)
 (hn:∀ a w,Q1 .normal a w->K a w) (he:∀ e a w,e≠.normal->Q1 e a w->Q2 e a w):wpOp P ops Q2 j K a w:=by
 have ho':ops[j]?=some o:=by simpa using ho
 unfold wpOp;simp only[ho'];unfold wpList at h;have hfin:∀ a' w',wpList P ops Q1 [] a' w'->K a' w':=λ a' w' h'=>hn a' w' h';split
 ·rename_i hw;rw[if_pos hw] at h
  rcases h with h|h
  ·left
   unfold Oper.wp at*
   generalize (execOp a.eval o).run P w=r at*
   cases r with
   |ok n w'=>
    cases n<;>simp only[Oper.upon] at h ⊢
    case value u=>exact hfin _ _ h
    case skip=>exact hfin _ _ h
    case defer d=>exact hfin _ _ h
    case enter f args=>
     refine h.mono λ e w'' hx=>?_
     cases e with
     |returned u=>exact hfin _ _ hx
     |panicked ch=>exact he _ _ _ (by simp) hx
     |outgrown=>obtain⟨x,y,hx⟩:=hx;exact⟨x,y,he _ _ _ (by simp) hx⟩
    case row r args=>exact h.mono λ u w'' hu=>hfin _ _ hu
   |halt x w'=>cases x<;>simp only[Oper.upon] at h ⊢<;>exact he _ _ _ (by simp) h
  ·obtain⟨h1,x,y,hx⟩:=h;exact .inr ⟨h1,x,y,he _ _ _ (by simp) hx⟩
 ·rename_i hw;rw[if_neg hw] at h;exact hfin _ _ h
def Fy(X:Cx)(ops:List Oper)(Q:dQ)(fuel:Nat)(listed:Array Bool):dQ:=λ e E H=>match e with
 |.normal=>∀ a w,eR X.n a E->cO X.w0 X.M w H->wpAny Tryz.prog .any ops.toArray (l6 X Q) fuel listed a w
 |e=>Q e E H
def JO(X:Cx)(ops:List Oper)(Q:dQ)(fuel:Nat)(listed:Array Bool)(E:Env)(H:Heap):Prop:=Fy X ops Q fuel listed .normal E H
def Gb(X:Cx)(ops:List Oper)(Q:dQ)(fuel:Nat)(listed:Array Bool)(E:Env)(H:Heap):LN->Prop
 |[]=>True
 |i::is=>(∃ o,ops[i]?=some o/\JL X ops [o] (Fy X ops Q fuel (listed.setIfInBounds i true)) E H)/\Gb X ops Q fuel listed E H is
theorem FL{id:Nat}{l:List Oper}(h:JO X l Q l.length (Array.replicate l.length false) E H):J X (.region id l.toArray true) Q E H:=by
 intro a w hA hH;refine wp_region_any zo ?_;have:=h a _ hA hH.drew
 simpa using this
theorem CP{ops:List Oper}{listed:Array Bool}(hr:Region.ready .any ops.toArray listed=[])(h:Q .normal E H):JO X ops Q 0 listed E H:=λ _ _ hA hH=>⟨hr,E,H,hA,hH,h⟩
theorem i8{ops:List Oper}{listed:Array Bool}{fuel:Nat}(i:Nat)(is:LN)(hr:Region.ready .any ops.toArray listed=i::is)(h:Gb X ops Q fuel listed E H (i::is)):JO X ops Q (fuel+1) listed E H:=by
 intro a w hA hH;refine⟨λ h0=>(by rw[hr] at h0;cases h0),?_⟩;rw[hr]
 have key:∀ l:LN,Gb X ops Q fuel listed E H l->∀ j∈l,wpOp Tryz.prog ops.toArray (l6 X Q) j (wpAny Tryz.prog .any ops.toArray (l6 X Q) fuel (listed.setIfInBounds j true)) a w:=by
  intro l
  induction l with
  |nil=>intro _ j hj;cases hj
  |cons k l ih=>
   rintro⟨⟨o,ho,hk⟩,hl⟩ j hj
   rcases GD.1 hj with rfl|hj
   ·have h1:=hk a w hA hH;refine mN ho h1 ?_ ?_
    ·rintro a' w' ⟨E',H',hA',hH',hq⟩;exact hq a' w' hA' hH'
    ·rintro e a' w' hne ⟨E',H',hA',hH',hq⟩
     cases e with
     |normal=>exact absurd rfl hne
     |_=>exact⟨E',H',hA',hH',hq⟩
   ·exact ih hl j hj
 exact key _ h
def xa(Q:Exit->Act->World->Prop)(ops:Array Oper)(listed:Array Bool)(a:Act)(w:World):Prop:=Region.ready .any ops listed=[]/\Q .normal a w
def nG(ops:Array Oper):LN->Array Bool->Bool
 |[],_=>true
 |k::l,listed=>decide (k<ops.size)&&(Region.ready .any ops listed).contains k&&Region.free .any ops listed k&&nG ops l (listed.setIfInBounds k true)
def sP:LN->Array Bool->Array Bool
 |[],listed=>listed
 |k::l,listed=>sP l (listed.setIfInBounds k true)
theorem pX{P:Program}{ops:Array Oper}{S:World->Prop}{Q:Exit->Act->World->Prop}(hsel:Region.noSelect ops=true){f:Nat}:∀ (l:LN) (listed:Array Bool) (a:Act) (w:World),HeadInv .any ops ops.size listed->S w->nG ops l listed=true->
 th P ops S (λ a' w'=>j9 P .any ops S ops.size (xa Q ops) f (sP l listed) a' w') (l.map λ k=>(k,true)) a w->j9 P .any ops S ops.size (xa Q ops) (f+l.length) listed a w
 |[],_,_,_,_,_,_,h=>h
 |k::l,listed,a,w,inv,hS,hB,h=>by
  simp only[nG,Hh,G3] at hB;obtain⟨⟨⟨hkn,hr⟩,hf⟩,hB'⟩:=hB;obtain⟨o,v,h0,hy,hK⟩:=h;have hr':k∈Region.ready .any ops listed:=by simpa using hr
  have ih:=pX hsel l (listed.setIfInBounds k true) (a.put o.dst v) w (inv.set hr' hkn) hS hB' hK;exact m8 h0 (Region.noSelect_spec hsel) (by simp[mC]) hkn (λ listed' a' w' hL=>by rw[hL.1];exact λ j hj=>by cases hj) (f+l.length) listed a w inv (Region.free_spec h0 hf) hr' hy hS ih
def JA(X:Cx)(ops:List Oper)(Q:dQ)(Sf:Heap)(fuel:Nat)(listed:Array Bool)(E:Env)(H:Heap):Prop:=∀ a w,HeadInv .any ops.toArray ops.toArray.size listed->eR X.n a E->cO X.w0 X.M w H->
 j9 Tryz.prog .any ops.toArray (λ w=>cO X.w0 X.M w Sf) ops.toArray.size (xa (l6 X Q) ops.toArray) fuel listed a w
def Gl(X:Cx)(ops:List Oper)(Q:dQ)(Sf:Heap)(fuel:Nat)(listed:Array Bool):dQ:=λ e E H=>match e with
 |.normal=>(∃ ix:LN,ix.Nodup/\bU H ix=some Sf)/\JA X ops Q Sf fuel listed E H
 |_=>False
def F6(X:Cx)(ops:List Oper)(Q:dQ)(Sf:Heap)(fuel:Nat)(listed:Array Bool)(E:Env)(H:Heap):LN->Prop
 |[]=>True
 |i::is=>(∃ o,ops[i]?=some o/\JL X ops [o] (Gl X ops Q Sf fuel (listed.setIfInBounds i true)) E H)/\F6 X ops Q Sf fuel listed E H is
theorem sA{id:Nat}{l:List Oper}{Sf:Heap}(h:JA X l Q Sf l.length (Array.replicate l.length false) E H):J X (.region id l.toArray true) Q E H:=by
 intro a w hA hH;refine wp_region_any zo ?_
 have inv0:HeadInv .any l.toArray l.toArray.size (Array.replicate l.length false):=
  ⟨by simp,λ j oj _ hl=>(by rw[getD_replicate_false] at hl;cases hl),λ t _ ht=>getD_in (by simpa using ht) (getD_replicate_false _ _)⟩
 have h1:=h a _ inv0 hA hH.drew;have:=iw (Q':=l6 X Q) (g:=0) (λ listed a w hL=>⟨hL.1,hL.2⟩) _ _ _ _ h1
 simpa using this
theorem kY{ops:List Oper}{Sf:Heap}{listed:Array Bool}(hr:Region.ready .any ops.toArray listed=[])(h:Q .normal E H):JA X ops Q Sf 0 listed E H:=λ _ _ _ hA hH=>⟨hr,E,H,hA,hH,h⟩
theorem bT{ops:List Oper}{Sf:Heap}{listed:Array Bool}{fuel:Nat}(i:Nat)(is:LN)(hr:Region.ready .any ops.toArray listed=i::is)(hlt:(i::is).all (λ k=>decide (k<ops.length))=true)(h:F6 X ops Q Sf fuel listed E H (i::is)):JA X ops Q Sf (fuel+1) listed E H:=by
 intro a w inv hA hH;refine⟨λ h0=>(by rw[hr] at h0;cases h0),?_⟩
 have key:∀ l:LN,(∀ j∈l,j∈Region.ready .any ops.toArray listed/\j<ops.toArray.size)->F6 X ops Q Sf fuel listed E H l->∀ j∈l,j<ops.toArray.size/\wpOp Tryz.prog ops.toArray mc j (λ a' w'=>cO X.w0 X.M w' Sf/\j9 Tryz.prog .any ops.toArray (λ w=>cO X.w0 X.M w Sf) ops.toArray.size (xa (l6 X Q) ops.toArray) fuel (listed.setIfInBounds j true) a' w') a w:=by
  intro l
  induction l with
  |nil=>intro _ _ j hj;cases hj
  |cons k l ih=>
   rintro hl ⟨⟨o,ho,hk⟩,hrest⟩ j hj
   rcases GD.1 hj with rfl|hj
   ·obtain⟨hjr,hjn⟩:=hl j (by simp);refine⟨hjn,?_⟩;have h1:=hk a w hA hH;refine mN ho h1 ?_ ?_
    ·rintro a' w' ⟨E',H',hA',hH',⟨ix,hix,hp⟩,hq⟩;exact⟨hH'.picks ix hix hp,hq a' w' (inv.set hjr hjn) hA' hH'⟩
    ·rintro e a' w' hne ⟨E',H',hA',hH',hq⟩
     cases e with
     |normal=>exact absurd rfl hne
     |_=>exact hq
   ·exact ih (λ i hi=>hl i (by simp[hi])) hrest j hj
 rw[hr] at key ⊢;refine key (i::is) (λ j hj=>⟨hj,?_⟩) h;have:=(List.all_eq_true.1 hlt) j hj
 simpa using this
theorem sw{ops:List Oper}{Sf:Heap}{listed:Array Bool}{fuel:Nat}(order:LN)(hB:(Region.noSelect ops.toArray&&nG ops.toArray order listed)=true)(ix:LN)(hi:ix.Nodup)(hS:bU H ix=some Sf)
 (h:JW X ops (order.map λ k=>(k,true)) Sf (λ E' H'=>JA X ops Q Sf fuel (sP order listed) E' H') E H):JA X ops Q Sf (fuel+order.length) listed E H:=by
 intro a w inv hA hH;simp only[Hh] at hB;refine pX hB.1 order listed a w inv (hH.picks ix hi hS) hB.2 ?_;have h1:=h a w hA hH
 have hinv:∀ (l:LN) (listed:Array Bool),HeadInv .any ops.toArray ops.toArray.size listed->nG ops.toArray l listed=true->HeadInv .any ops.toArray ops.toArray.size (sP l listed):=by
  intro l
  induction l with
  |nil=>exact λ _ h _=>h
  |cons k l ih=>
   intro listed hv hb;simp only[nG,Hh,G3] at hb;obtain⟨⟨⟨hkn,hr⟩,_⟩,hb'⟩:=hb;exact ih _ (hv.set (by simpa using hr) hkn) hb'
 have hv:=hinv order listed inv hB.2
 have mono:∀ (Q1 Q2:Act->World->Prop),(∀ a w,Q1 a w->Q2 a w)->∀ (l:LN) a w,th Tryz.prog ops.toArray (λ w=>cO X.w0 X.M w Sf) Q1 (l.map λ k=>(k,true)) a w->th Tryz.prog ops.toArray (λ w=>cO X.w0 X.M w Sf) Q2 (l.map λ k=>(k,true)) a w:=by
  intro Q1 Q2 hq l
  induction l with
  |nil=>exact λ a w h=>hq a w h
  |cons k l ih=>rintro a w ⟨o,v,g1,g2,g3⟩;exact⟨o,v,g1,g2,ih _ _ g3⟩
 refine mono _ _ ?_ order a w h1;rintro a' w' ⟨E',H',hA',hH',hq⟩;exact hq a' w' hv hA' hH'
theorem r9{ops:List Oper}{Sf:Heap}{listed:Array Bool}{fuel:Nat}(t:Nat){v v':Value}(hv:fW E t=some v)(e:v=v')(h:JA X ops Q Sf fuel listed ((t,v')::E) H):JA X ops Q Sf fuel listed E H:=λ a w inv hA hH=>h a w inv (hA.set hv e) hH
theorem jg{σ:Type}{x y:Code}(F:σ->Env)(K:σ->Heap)(h1:J X x (t6 (λ E' H'=>∃ s,lK E' (F s)/\aH X H' (K s)) Q) E H)(h2:∀ s,J X y Q (F s) (K s)):J X (.seq x y) Q E H:=by
 refine ad (wB h1 ?_);intro e E' H' hq
 cases e with
 |normal=>obtain⟨s,h3,h4⟩:=hq;exact λ a w hA hH=>h2 s a w (hA.ents _ h3) (h4 w hH)
 |_=>exact hq
def dn(n:Int):Prop:=-9223372036854775808<=n/\n<=9223372036854775807
instance (n:Int):Decidable (dn n):=inferInstanceAs (Decidable (_/\_))
def iO(n:Int):Int×Int:=if dn n then (n,0) else (0,3)
def tj(r:Int×Int):Value:=.tuple #[.int .i64 r.1,.int .i64 r.2]
theorem EF{a b:Int}{r:Int×Int}(h:(a,b)=r):Ending.returned (.tuple #[.int .i64 a,.int .i64 b])=.returned (tj r):=by
 subst h;rfl
theorem yb{n m:Int}(h:dn n)(e:m=n):(m,0)=iO n:=by
 unfold iO;rw[if_pos h,e]
theorem By{n:Int}(h:¬ dn n):((0:Int),(3:Int))=iO n:=by
 unfold iO;rw[if_neg h]
set_option maxHeartbeats 400000 in
theorem Dl(a b:Int)(w:World)(ha:dn a)(hb:dn b):
 Calls Tryz.prog 50 #[.int .i64 a,.int .i64 b] w λ e w'=>e=.returned (tj (iO (a+b)))/\w'=w:=by
 cases h1:decide (a<wrap64 (a+b))<;>cases h2:decide (0<b)<;>cases h3:(b !=0)<;>
  (go_enter Tryz.func50,Tryz.ntmps50
   go_wp2
   go_ret2
   refine⟨EF ?_,rfl⟩;simp only[G3,decide_eq_false_iff_not,bne_iff_ne,bne_eq_false_iff_eq,ne_eq] at h1 h2 h3;unfold wrap64 at*;unfold dn at ha hb
   first
    |exact yb (by unfold dn;omega) (by omega)
    |exact By (by unfold dn;omega))
theorem z7{f:FuncId}{args:LV_}{v:Value}(h:∀ w,Calls Tryz.prog f args.toArray w λ e w'=>e=.returned v/\w'=w):Fn f args [] [] λ u H'=>u=v/\H'=[]:=
 λ w hw=>(h w).mono λ e w' ⟨he,hw'⟩=>⟨v,[],he,by rw[hw'];exact hw,rfl,rfl⟩
theorem BE{a b:Int}(ha:dn a)(hb:dn b):Fn 50 [.int .i64 a,.int .i64 b] [] [] λ v H'=>v=tj (iO (a+b))/\H'=[]:=z7 λ w=>Dl a b w ha hb
theorem AW{n:Int}(h:dn n):iO n=(n,0):=by unfold iO;rw[if_pos h]
theorem zB{n:Int}(h:¬ dn n):iO n=(0,3):=by unfold iO;rw[if_neg h]
variable {X:Cx} {Q:dQ} {E E':Env} {H:Heap}
def nH(fs:List (Nat×Nat×Nat))(cs:LV_):List (Nat×Value)->Option (LV_)
 |[]=>some cs
 |(i,v)::l=>match fs[i]? with
  |some (off,sz,_)=>match Nat.beq v.cells.toList.length sz with
   |true=>match Nat.ble (off+v.cells.toList.length) cs.length with
    |true=>nH fs (wr cs off v.cells.toList) l
    |false=>none
   |false=>none
  |none=>none
theorem xj(off:Nat):∀ (l:LV_) (k:Nat) (cs:LV_),(l.zipIdx k).foldl (λ (cs:Array Value) (p:Value×Nat)=>cs.setIfInBounds (off+p.2) p.1) cs.toArray=(wr cs (off+k) l).toArray
 |[],k,cs=>rfl
 |v::l,k,cs=>by
  simp only[List.zipIdx_cons,IE];have:cs.toArray.setIfInBounds (off+k) v=(cs.set (off+k) v).toArray:=by simp
  rw[this,xj off l (k+1)];rfl
theorem lZ{fs:List (Nat×Nat×Nat)}{pl:Nat->Option (Nat×Nat)}(hpl:∀ i off sz ag,fs[i]?=some (off,sz,ag)->pl i=some (off,sz)):∀ (ps:List (Nat×Value)) (cs cs':LV_),nH fs cs ps=some cs'->
 Instr.fill pl cs.toArray ps=some cs'.toArray
 |[],cs,cs',h=>by simp only[nH,Gs] at h;subst h;rfl
 |(i,v)::l,cs,cs',h=>by
  unfold nH at h;split at h
  ·rename_i off sz ag hi;split at h
   ·rename_i h1;split at h
    ·rename_i h2;unfold Instr.fill;rw[hpl i off sz ag hi];have h1':=Nat.eq_of_beq_eq_true h1;have h2':=Nat.le_of_ble_eq_true h2;simp only[];rw[if_neg (by simp only[Array.length_toList] at h1' h2';simp[h1'];omega)]
     have e:v.cells.zipIdx.foldl (λ (cs:Array Value) (p:Value×Nat)=>cs.setIfInBounds (off+p.2) p.1) cs.toArray=(wr cs off v.cells.toList).toArray:=by
      have:=xj off v.cells.toList 0 cs;rw[<- I4]
      simpa using this
     have e2:(v.cells.zipIdx.foldl (λ cs (x:Value×Nat)=>match x with|(c,j)=>cs.setIfInBounds (off+j) c) cs.toArray)=(wr cs off v.cells.toList).toArray:=e;rw[e2];exact lZ hpl l _ _ h
    ·cases h
   ·cases h
  ·cases h
def CB(f:Field):Sem (Nat×Nat):=do pure (f.offset,<- sizeOf f.type)
theorem AY{f:Field}{i:TypeInfo}(h:Tryz.prog.info? f.type=some i)(w:World):(CB f).run Tryz.prog w=.ok (f.offset,Tryz.prog.cellsOf f.type) w:=by
 simp[CB,sizeOf,typeInfo,h,Program.cellsOf]
theorem qo(w:World):∀ (F:List Field),(∀ f∈F,∃ i,Tryz.prog.info? f.type=some i)->
 (F.mapM (m:=Sem) CB).run Tryz.prog w=.ok (F.map λ f=>(f.offset,Tryz.prog.cellsOf f.type)) w
 |[],_=>by simp
 |f::F,h=>by
  obtain⟨i,hi⟩:=h f (by simp);have ih:=qo w F (λ g hg=>h g (by simp[hg]));rw[List.mapM_cons];simp only[Sem.run_bind,AY hi,Result.andThen_ok,ih];rfl
theorem bz{o:Oper}{t s by_:Nat}{fs:List (Nat×Nat×Nat)}{z:Value}{zs cs:LV_}{ps:Array (Nat×Operand)}{vs:List (Nat×Value)}(ho:o.op=.build t ps)(ht:tab t=some ⟨.struct fs,s,by_,some z⟩)(hz:z.cells=zs.toArray)
 (hfs:(fs.all λ f=>!(Nat.beq f.2.2 2))=true) (hp:oz E ps.toList=some vs) (hb:nH fs zs vs=some cs):gz X o E H (.agg cs.toArray):=by
 intro a w hA hH;obtain⟨j,hi,hjz,_,_⟩:=ir ht;obtain⟨F,hF,rfl⟩:=jP ht;have e1:=hA.valsP _ _ hp;have e2:(ps.map λ (i,x)=>(i,a.eval x)).toList=vs:=by rw[<- e1];simp
 have hinfo:∀ f∈F.toList,∃ i,Tryz.prog.info? f.type=some i:=by
  intro f hf;have h1:=List.all_eq_true.1 hfs (f.offset,Tryz.prog.cellsOf f.type,mu Tryz.prog f.type) (GR.2 ⟨f,hf,rfl⟩);simp only[Bool.not_eq_true'] at h1;unfold mu at h1
  cases hu:Tryz.prog.info? f.type with
  |some i=>exact⟨i,rfl⟩
  |none=>simp[Program.underlying,hu] at h1
 have hm:(F.mapM (m:=Sem) CB).run Tryz.prog w=.ok (F.toList.map λ f=>(f.offset,Tryz.prog.cellsOf f.type)).toArray w:=by
  rw[I0];simp only[map_eq_pure_bind,Sem.run_bind,qo w F.toList hinfo,Result.andThen_ok];rfl
 have hfill:=lZ (pl:=λ i=>((F.toList.map λ f=>(f.offset,Tryz.prog.cellsOf f.type)).toArray)[i]?) (λ i off sz ag h=>by
  simp only[GC,Option.map_eq_some_iff,Hq] at h;obtain⟨f,hf,h1,h2,_⟩:=h;simp[hf,h1,h2]) vs zs cs hb
 have hrun:(Instr.build t (ps.map λ (i,x)=>(i,a.eval x))).run Tryz.prog w=.ok (.agg cs.toArray) w:=by
  unfold Instr.build;rw[e2];have hz1:(zeroValue t).run Tryz.prog w=.ok z w:=by simp[zeroValue,typeInfo,hi,hjz]
  simp only[Sem.run_bind,hz1,run_underlying hF,Result.andThen_ok];have hm':(F.mapM (m:=Sem) λ f=>do pure (f.offset,<- sizeOf f.type)).run Tryz.prog w=.ok (F.toList.map λ f=>(f.offset,Tryz.prog.cellsOf f.type)).toArray w:=hm;simp only[hm',Result.andThen_ok,hz];rw[hfill];rfl
 have hrun':(Instr.build t (ps.map λ x=>match x with|(i,x)=>(i,a.eval x))).run Tryz.prog w=.ok (.agg cs.toArray) w:=hrun;simp[execOp,ho,hrun']
def W(X:Cx)(c:Code)(R:Exit->Act->World->Prop)(E:Env)(H:Heap):Prop:=∀ a w,eR X.n a E->cO X.w0 X.M w H->c.wp Tryz.prog R a w
def Cs(K:Env->Heap->Prop):dQ:=λ e E H=>match e with
 |.normal=>K E H
 |_=>False
theorem lL{x y:Code}{R:Exit->Act->World->Prop}(h:J X x (Cs λ E H=>W X y R E H) E H):W X (.seq x y) R E H:=by
 intro a w hA hH;refine wp_seq (wp_mono (h a w hA hH) ?_);rintro e a' w' ⟨E',H',hA',hH',hq⟩
 cases e with
 |normal=>exact hq a' w' hA' hH'
 |_=>exact hq.elim
theorem gQ(l:List dI):(arcs l).length=l.length*3:=by
 induction l with
 |nil=>rfl
 |cons a l ih=>
  have e:arcs (a::l)=[.int .i64 a.fr,.int .i64 a.to,.int .i64 a.cap]++arcs l:=by simp[arcs]
  rw[e,Gx,ih];simp;omega
theorem B6(l:List dI):one (arcs l)=true:=by
 induction l with
 |nil=>rfl
 |cons x l ih=>exact ih
theorem AH(l r:List dI):arcs (l++r)=arcs l++arcs r:=by simp[arcs]
structure aU where
 nodes:Int
 src:Int
 snk:Int
 arcs:List dI
structure aU.Right (N:aU):Prop where
 nodes:2<=N.nodes/\N.nodes<=500
 src:1<=N.src/\N.src<=N.nodes
 snk:1<=N.snk/\N.snk<=N.nodes
 diff:N.src≠N.snk
 len:N.arcs.length<=2000
 arc:∀ a∈N.arcs,(1<=a.fr/\a.fr<=N.nodes)/\(1<=a.to/\a.to<=N.nodes)/\0<=a.cap
 sum:(N.arcs.map (·.cap)).sum<=4611686018427387903
def bp(N:aU)(A:OA)(c:Nat):Value:=.agg #[.int .i64 N.nodes,.int .i64 N.src,.int .i64 N.snk,.slice A N.arcs.length c]
def ia(N:aU)(v:Int):Prop:=1<=v/\v<=N.nodes
open Classical in
noncomputable def iI(N:aU):Int->List dI->Int
 |_,[]=>0
 |s,a::l=>if ¬ (ia N a.fr/\ia N a.to) then 4 else if a.cap<0 then 3 else if ¬ dn (s+a.cap)\/4611686018427387903<s+a.cap then 7 else iI N (s+a.cap) l
open Classical in
noncomputable def ff(N:aU):Int:=if N.nodes<2\/500<N.nodes then 3 else if ¬ (ia N N.src/\ia N N.snk) then 4 else if N.src=N.snk then 5 else if 2000<N.arcs.length then 6 else iI N 0 N.arcs
theorem ni(N:aU):∀ (l:List dI) (s:Int),0<=s->(∀ a∈l,(1<=a.fr/\a.fr<=N.nodes)/\(1<=a.to/\a.to<=N.nodes)/\0<=a.cap)->s+(l.map (·.cap)).sum<=4611686018427387903->iI N s l=0
 |[],_,_,_,_=>rfl
 |a::l,s,h0,h,hs=>by
  have h1:=h a (by simp)
  have hp:0<=(l.map (·.cap)).sum:=by
   have:∀ (l:List dI),(∀ a∈l,0<=a.cap)->0<=(l.map (·.cap)).sum:=by
    intro l
    induction l with
    |nil=>intro _;simp
    |cons x l ih=>intro h;have:=ih λ a ha=>h a (by simp[ha]);have:=h x (by simp);simp only[GG,GT];omega
   exact this l λ a ha=>(h a (by simp[ha])).2.2
  simp only[GG,GT] at hs;unfold iI;rw[if_neg (by unfold ia;intro hc;exact hc ⟨h1.1,h1.2.1⟩),if_neg (by omega),if_neg (by unfold dn;omega)];exact ni N l (s+a.cap) (by omega) (λ a ha=>h a (by simp[ha])) (by omega)
theorem aU.Right.check{N:aU}(h:N.Right):ff N=0:=by
 unfold ff;have h1:=h.nodes;rw[if_neg (by omega),if_neg (by intro hc;exact hc ⟨h.src,h.snk⟩),if_neg h.diff,if_neg (by have:=h.len;omega)];exact ni N N.arcs 0 (by omega) h.arc (by have:=h.sum;omega)
def bI(N:aU)(A:OA)(c:Nat):LV_:=[.int .i64 N.nodes,.int .i64 N.src,.int .i64 N.snk,.slice A N.arcs.length c]
theorem np(N:aU)(A:OA)(c p:Nat)(v:Int):Fn 49 [.int .i64 v,.pointer (some ⟨p,0,none⟩)] [] [.seg p 0 (bI N A c)] λ u H'=>u=.bool (di (ia N v))/\H'=[]:=by
 refine aJ Tryz.func49 rfl rfl λ w0=>?_;refine ad (aa (ae [] rfl ?_));refine ad (aa (ah [] rfl ?_));by_cases h:1<=v
 ·refine bd 6 rfl h ?_;refine ah [2] rfl ?_;refine ab [2] (fm 0 (i:=0) rfl rfl rfl rfl rfl) rfl ?_;refine ae [2] rfl ?_;refine az [] (by decide) rfl ?_;exact ay ⟨_,rfl,Gt Value.bool (ey (by unfold ia;omega)),rfl⟩
 ·refine aX 6 rfl h ?_;refine ae [2] rfl ?_;refine az [] (by decide) rfl ?_;exact ay ⟨_,rfl,Gt Value.bool (a6 (by unfold ia;omega)).symm,rfl⟩
end Go.Proofs.YtmcnpaelaieniaaGreatDoor
