/- The engine and the words that all chapters share: several texts in one. -/
import Derived.Test.YtpbmihpjgjbndaaGreatDoorQA
import Derived.Scope
import Derived.Test.YtpbmihpjgjbndaaGreatDoorProg
import Derived.WalkKit
import Derived.WalkSpells
import Derived.WalkLawsBesides
import Derived.Recover
/- The engine, its ninth part: rows that may hold nothing, and parts of rows. -/
set_option linter.unusedVariables false
set_option linter.unusedSimpArgs false
namespace Go.Proofs.YtpbmihpjgjbndaaGreatDoor
open Go.RowKit
variable {X:Cx} {Q:dl} {E E':Env} {H:Heap}
theorem eN {ops l:List Oper} {p:Prop} (h0:∀ w,cm X.w0 X.M w H→p) (h:p→JL X ops l Q E H):JL X ops l Q E H:=fun a w hA hH=>h (h0 w hH) a w hA hH
theorem bO {c:Code} {p:Prop} (h0:∀ w,cm X.w0 X.M w H→p) (h:p→J X c Q E H):J X c Q E H:=fun a w hA hH=>h (h0 w hH) a w hA hH
theorem bh (k:Nat) {A:Option Addr} {n m c e sz:Nat} {xs:List Value} (hk:H[k]?=some (.own (.slice A m c) e sz n xs)):∀ w,cm X.w0 X.M w H→n=m∧n≤c∧(0<n→∃ g,A=some ⟨g,0,none⟩)∧xs.length=n*sz:=by
 intro w hH
 have h:w.ownsRow 0 e sz (.slice A m c) n xs:=hH.holds _ (List.mem_of_getElem? hk)
 obtain⟨h1,h2|⟨g,cap,cur,hv,_,_,hn,_⟩⟩:=h
 ·obtain⟨hv,rfl⟩:=h2
  simp only[Value.slice.injEq] at hv
  exact⟨hv.2.1.symm,Nat.zero_le _,fun h=>absurd h (by omega),h1⟩
 ·simp only[Value.slice.injEq] at hv
  obtain⟨rfl,rfl,rfl⟩:=hv
  exact⟨rfl,hn,fun _=>⟨g,rfl⟩,h1⟩
theorem ik {c:aO} {b off:Nat} {xs:List Value} (h:c.shows b off xs) (k:Nat):c.shows b (off+k) (xs.drop k):=by
 intro w hw i v hv
 rw[List.getElem?_drop] at hv
 rw[Nat.add_assoc]
 exact h w hw _ v hv
theorem lI {c:aO} {b off:Nat}:c.shows b off []:=fun _ _ _ _ hv=>by simp at hv
theorem aY {g e sz n cap:Nat} {A:Option Addr} {xs:List Value} (hA:xs≠[]→A=some ⟨g,0,none⟩):(aO.own (.slice A n cap) e sz n xs).shows g 0 xs:=by
 by_cases h:xs=[]
 ·subst h;exact lI
 ·rw[hA h];exact bX
theorem a7 {g e sz n cap:Nat} {A:Option Addr} {xs:List Value} (hA:xs≠[]→A=some ⟨g,0,none⟩):xs=[]∨(aO.own (.slice A n cap) e sz n xs).at_=some g:=by
 by_cases h:xs=[]
 ·exact .inl h
 ·rw[hA h];exact .inr rfl
theorem ay {b off:Nat} {vs:List Value}:vs=[]∨(aO.seg b off vs).at_=some b:=by
 by_cases h:vs=[]
 ·exact .inl h
 ·exact .inr (by simp only[aO.at_];rw[if_neg h])
theorem cB {A:Option Addr} {n sz:Nat} {xs:List Value} (h:0<n→∃ g,A=some ⟨g,0,none⟩) (hl:xs.length=n*sz):∃ g,xs≠[]→A=some ⟨g,0,none⟩:=by
 by_cases h0:0<n
 ·obtain⟨g,hg⟩:=h h0;exact⟨g,fun _=>hg⟩
 ·refine⟨0,fun hx=>absurd (List.length_eq_zero_iff.1 ?_) hx⟩
  rw[hl,show n=0 by omega,Nat.zero_mul]
theorem rG {w:World} {b e sz n:Nat} {cs:List Value} (h:(blk b e cs).holds w) (hl:cs.length=n*sz) (hn:n≤maxLen):(aO.own (.slice (some ⟨b,0,none⟩) n n) e sz n cs).holds w:=by
 refine⟨hl,.inr ⟨b,n,cs.toArray,rfl,Nat.zero_le _,h,Nat.le_refl _,hn,by simp[hl],?_⟩⟩
 simp only[← hl]
 exact List.take_length
theorem cm.blkOwn {w0 w:World} {M:List Nat} {b e sz n:Nat} {cs:List Value} (hH:cm w0 M w (blk b e cs::H)) (hl:cs.length=n*sz) (hn:n≤maxLen):cm w0 M w (.own (.slice (some ⟨b,0,none⟩) n n) e sz n cs::H):=by
 refine⟨hH.os,hH.tape,hH.output,hH.size,hH.keep,fun c hc=>?_,fun c hc b' hb'=>?_,?_⟩
 ·rcases List.mem_cons.1 hc with rfl|hc
  ·exact rG (hH.holds _ (by simp)) hl hn
  ·exact hH.holds c (by simp[hc])
 ·rcases List.mem_cons.1 hc with rfl|hc
  ·exact hH.own (blk b e cs) (by simp) b' hb'
  ·exact hH.own c (by simp[hc]) b' hb'
 ·obtain⟨h1,h2⟩:=List.pairwise_cons.1 hH.dis
  exact List.pairwise_cons.2 ⟨fun c hc=>h1 c hc,h2⟩
theorem mn {ops l:List Oper} {b e:Nat} {cs:List Value} (sz n:Nat) (hl:cs.length=n*sz) (hn:n≤maxLen) (h:JL X ops l Q E (.own (.slice (some ⟨b,0,none⟩) n n) e sz n cs::H)):JL X ops l Q E (blk b e cs::H):=
 fun a w hA hH=>h a w hA (hH.blkOwn hl hn)
theorem pM {t ty e sz by_ n c cx:Nat} {A Ax:Option Addr} {z:Option Value} {et:TI} (w:World) (ht:tab t=some ⟨.slice e,sz,by_,z⟩) (he:tab e=some et) (hn:n≤c):
 (Builtin.append_ #[t,t] ty #[.slice A n c,.slice Ax 0 cx]).run Tryz.prog w=.ok (.slice A n c) w:=by
 have h1:=db ht
 cases A<;>cases Ax<;>simp[Builtin.append_,run_underlying h1,cA he,Builtin.lenOf,Builtin.firstCells,loadCells,loadCellsFrom,storeCells,hn]
theorem be {F:Option Addr→Nat→Env} {ops l:List Oper} {o:Oper} {t e sz by_ sz' by' n m c0 cx b off:Nat} {s x:Operand} {uk:UK} {zv:Value} {A0 Ax:Option Addr} {z:Option Value} {xs news:List Value} {c2:aO} (k k2:Nat)
 (ho:o.op=.call ⟨.builtin .append,#[s,x],#[t,t]⟩) (hs:val E s=some (.slice A0 n c0)) (hx:val E x=some (.slice Ax m cx)) (ht:tab t=some ⟨.slice e,sz',by',z⟩)
 (he:tab e=some ⟨uk,sz,by_,some zv⟩) (hzs:zv.cells.size=sz) (hsz:0<sz) (hk:H[k]?=some (.own (.slice A0 n c0) e sz n xs)) (hk2:H[k2]?=some c2) (hc2:c2.shows b off news) (hAx:news≠[]→Ax=some ⟨b,off,none⟩)
 (hl:news.length=m*sz) (h1:one news=true)
 (hmax:(n+m)*by_≤140737488355328) (hmax2:n+m≤2147483648) (hb:∀ A c,iJ X.n ops [] E o (.slice A (n+m) c)=some (F A c))
 (h:∀ A c,JL X ops l Q (F A c) (H.set k (.own (.slice A (n+m) c) e sz (n+m) (xs++news)))):JL X ops (o::l) Q E H:=by
 rcases Nat.eq_zero_or_pos m with h0|hm
 ·subst h0
  have hnew:news=[]:=List.length_eq_zero_iff.1 (by simpa using hl)
  subst hnew
  refine eN (bh k hk) fun ⟨_,hle,_,_⟩=>?_
  refine ab [] (v:=.slice A0 (n+0) c0) (fun a w hA hH=>?_) (hb A0 c0) ?_
  ·simp[execOp,ho,resolve,invoke,builtin,hA.val hs,hA.val hx,pM w ht he hle]
  ·have:=h A0 c0
   rw[List.append_nil] at this
   have e1:H.set k (.own (.slice A0 (n+0) c0) e sz (n+0) xs)=H:=by
    refine List.ext_getElem? fun i=>?_
    rw[List.getElem?_set]
    split
    ·rename_i hi;subst hi;split
     ·exact hk.symm
     ·rename_i hge;rw[List.getElem?_eq_none (by omega)] at hk;cases hk
    ·rfl
   rw[e1] at this
   exact this
 ·have hne:news≠[]:=by
   intro h0
   rw[h0,List.length_nil] at hl
   have:=Nat.mul_pos hm hsz
   omega
  rw[hAx hne] at hx
  exact t6 k k2 ho hs hx ht he hzs hsz hk hk2 hc2 hl h1 hm hmax hmax2 (fun g c=>hb _ c) (fun g c=>h _ c)
def ij (A:Option Addr) (c l sz:Nat):Option Addr:=if c=l then A else A.map (·.add (l*sz))
theorem jc {A:Option Addr} {c l sz n b o:Nat} (hA:l<n→A=some ⟨b,o,none⟩) (hc:n≤c) (hl:l<n):ij A c l sz=some ⟨b,o+l*sz,none⟩:=by
 unfold ij
 rw[if_neg (by omega),hA hl]
 simp[Addr.add_at]
theorem tJ {A:Option Addr} {c sz:Nat}:ij A c 0 sz=A:=by
 unfold ij
 split
 ·rfl
 ·cases A<;>simp[Addr.add]
theorem pK {t e sz by_:Nat} {z:Option Value} (ht:tab t=some ⟨.slice e,sz,by_,z⟩):Tryz.prog.underlying t=some (.slice (Tryz.prog.elem t)):=by
 have h:=db ht
 rw[h]
 simp[Program.elem,h]
theorem om {t e sz by_:Nat} {z:Option Value} (ht:tab t=some ⟨.slice e,sz,by_,z⟩):Tryz.prog.elem t=e:=by
 have h:=db ht
 simp[Program.elem,h]
theorem eL {o:Oper} {t e n c i sz' by':Nat} {x lo:Operand} {A:Option Addr} {z:Option Value} {et:TI} {k:IntKind} (ho:o.op=.slice t x (some lo) none none) (hx:val E x=some (.slice A n c)) (hlo:val E lo=some (.int k (i:Int)))
 (ht:tab t=some ⟨.slice e,sz',by',z⟩) (he:tab e=some et) (hi:i≤n):gW X o E H (.slice (ij A c i et.size) (n-i) (c-i)):=by
 intro a w hA hH
 have h1:=pK ht
 have h2:=run_slice_l (P:=Tryz.prog) (w:=w) t A n c h1 k (i:Int) (by omega) (by omega)
 rw[om ht] at h2
 simp[execOp,ho,hA.val hx,hA.val hlo,run_sliceAt_slice w t _ _ _ _ h1,h2,cA he,sliced,ij]
theorem fg {o:Oper} {t e n c i sz' by':Nat} {x hi:Operand} {A:Option Addr} {z:Option Value} {et:TI} {k:IntKind} (ho:o.op=.slice t x none (some hi) none) (hx:val E x=some (.slice A n c)) (hlo:val E hi=some (.int k (i:Int)))
 (ht:tab t=some ⟨.slice e,sz',by',z⟩) (he:tab e=some et) (hi':i≤c):gW X o E H (.slice A i c):=by
 intro a w hA hH
 have h1:=pK ht
 have h2:=run_slice_h (P:=Tryz.prog) (w:=w) t A n c h1 k (i:Int) (by omega) (by omega)
 rw[om ht] at h2
 have h3:=tJ (A:=A) (c:=c) (sz:=et.size)
 unfold ij at h3
 simp only[Nat.zero_mul] at h3
 simp[execOp,ho,hA.val hx,hA.val hlo,run_sliceAt_slice w t _ _ _ _ h1,h2,cA he,sliced,h3]
end Go.Proofs.YtpbmihpjgjbndaaGreatDoor
/- The engine, its tenth part: regions that draw their order, with loads that may come at any time and effects that come one behind the other. -/
set_option linter.unusedVariables false
set_option linter.unusedSimpArgs false
namespace Go.Proofs.YtpbmihpjgjbndaaGreatDoor
open Go.RowKit
section
variable {P:Program} {ops:Array Oper} {md:Region.Mode} {S:World→Prop} {F:Exit→Act→World→Prop}
def YS (P:Program) (ops:Array Oper) (S:World→Prop) (o:Oper) (v:Value) (a:Act):Prop:=
 (Region.wanted o (yielded ops a.tmps)=true∧∀ w,S w→(execOp a.eval o).run P w=.ok (.value v) w)∨(Region.wanted o (yielded ops a.tmps)=false∧v=undef)
theorem YS.of_same {o:Oper} {v:Value} {a a':Act} (hy:YS P ops S o v a) (he:execOp a'.eval o=execOp a.eval o) (hw:Region.wanted o (yielded ops a'.tmps)=Region.wanted o (yielded ops a.tmps)):YS P ops S o v a':=by
 unfold YS at*;rw[he,hw];exact hy
theorem YS.wpOp {i:Nat} {o:Oper} {v:Value} {a:Act} {w:World} {K:Act→World→Prop} (hi:ops[i]?=some o) (hy:YS P ops S o v a) (hw:S w) (h:K (a.put o.dst v) w):wpOp P ops F i K a w:=by
 unfold Go.wpOp
 simp only[hi]
 rcases hy with ⟨h1,h2⟩|⟨h1,rfl⟩
 ·rw[if_pos h1];left;unfold Oper.wp;rw[h2 w hw];exact h
 ·rw[if_neg (by rw[h1];decide)];exact h
def j7:Exit→Act→World→Prop:=fun _ _ _=>False
theorem qC {j:Nat} {oi oj:Oper} {v:Value} (hj:ops[j]?=some oj) (hap:oi.apart ops oj=true) (hsi:∀ cs b,oi.op≠.select cs b) (hsj:∀ cs b,oj.op≠.select cs b) {K:Act→World→Prop} {a:Act} {w:World}
 (hy:YS P ops S oi v a) (h:wpOp P ops j7 j K (a.put oi.dst v) w):wpOp P ops j7 j (fun a' w'=>YS P ops S oi v a'∧K (a'.put oi.dst v) w') a w:=by
 obtain⟨h1,h2,h3⟩:=Oper.apart_spec hap
 have keep:∀ (a:Act),YS P ops S oi v a→∀ u,YS P ops S oi v (a.put oj.dst u):=fun a hy u=>hy.of_same (execOp_put oi hsi a oj.dst u h3) (wanted_put oi a oj.dst u h3)
 have keepd:∀ (a:Act) (d:Deferred),YS P ops S oi v a→YS P ops S oi v { a with defers:=d::a.defers }:=fun a d hy=>hy
 unfold wpOp at*
 simp only[hj] at*
 rw[wanted_put oj a oi.dst v h1] at h
 split
 ·rename_i hw
  rw[if_pos hw] at h
  rcases h with h|⟨_,_,_,h⟩
  ·left
   unfold Oper.wp at*
   rw[execOp_put oj hsj a oi.dst v h1] at h
   generalize (execOp a.eval oj).run P w=r at*
   cases r with
   |ok n w'=>
    cases n<;>simp only[Oper.upon] at h ⊢
    case value u=>exact⟨keep a hy u,by rw[← Act.put_comm a v u h2];exact h⟩
    case skip=>exact⟨keep a hy _,by rw[← Act.put_comm a v undef h2];exact h⟩
    case defer d=>
     have e:({ a.put oi.dst v with defers:=d::(a.put oi.dst v).defers }:Act)=({ a with defers:=d::a.defers }:Act).put oi.dst v:=by cases oi.dst<;>rfl
     exact⟨keep _ (keepd a d hy) _,by rw[← Act.put_comm _ v undef h2,← e];exact h⟩
    case enter f args=>
     refine h.mono fun e w'' he=>?_
     cases e with
     |returned u=>exact⟨keep a hy u,by rw[← Act.put_comm a v u h2];exact he⟩
     |panicked ch=>exact he
     |outgrown=>exact he
    case row r args=>exact h.mono fun u w'' hu=>⟨keep a hy u,by rw[← Act.put_comm a v u h2];exact hu⟩
   |halt x w'=>cases x<;>simp only[Oper.upon] at h ⊢<;>exact h
  ·exact h.elim
 ·rename_i hw
  rw[if_neg hw] at h
  exact⟨keep a hy _,by rw[← Act.put_comm a v undef h2];exact h⟩
def im (P:Program) (md:Region.Mode) (ops:Array Oper) (S:World→Prop) (n:Nat) (L:Array Bool→Act→World→Prop):Nat→Array Bool→Act→World→Prop
 |0,listed,a,w=>L listed a w
 |f+1,listed,a,w=>Region.ready md ops listed≠[]∧∀ i∈Region.ready md ops listed,i<n∧wpOp P ops j7 i (fun a' w'=>S w'∧im P md ops S n L f (listed.setIfInBounds i true) a' w') a w
theorem iq {i:Nat} {K:Act→World→Prop} {Q1 Q':Exit→Act→World→Prop} {a:Act} {w:World} (hno:∀ e a w,e≠.normal→¬ Q1 e a w) (h:wpOp P ops Q1 i K a w):wpOp P ops Q' i K a w:=by
 unfold wpOp at*
 split
 ·rename_i ho;simp only[ho] at h;exact h
 ·rename_i o ho
  simp only[ho] at h
  split
  ·rename_i hw
   rw[if_pos hw] at h
   rcases h with h|⟨_,a1,w1,h⟩
   ·left
    unfold Oper.wp at*
    generalize (execOp a.eval o).run P w=r at*
    cases r with
    |ok n w'=>
     cases n<;>simp only[Oper.upon] at h ⊢
     case enter f args=>
      refine h.mono fun e w'' he=>?_
      cases e with
      |returned u=>exact he
      |panicked ch=>exact (hno _ _ _ (by simp) he).elim
      |outgrown=>obtain⟨_,_,h⟩:=he;exact (hno _ _ _ (by simp) h).elim
     all_goals exact h
    |halt x w'=>cases x<;>simp only[Oper.upon] at h ⊢<;>exact (hno _ _ _ (by simp) h).elim
   ·exact (hno _ _ _ (by simp) h).elim
  ·rename_i hw;rw[if_neg hw] at h;exact h
theorem fT {n g:Nat} {L:Array Bool→Act→World→Prop} {Q':Exit→Act→World→Prop} (hL:∀ listed a w,L listed a w→wpAny P md ops Q' g listed a w):
 ∀ (f:Nat) (listed:Array Bool) (a:Act) (w:World),im P md ops S n L f listed a w→wpAny P md ops Q' (f+g) listed a w
 |0,listed,a,w,h=>by rw[Nat.zero_add];exact hL _ _ _ h
 |f+1,listed,a,w,h=>by
  rw[show f+1+g=(f+g)+1 by omega]
  exact⟨fun h0=>absurd h0 h.1,fun i hi=>iq (fun _ _ _ _ h=>h) (wpOp_mono (fun a' w' h'=>fT hL f _ a' w' h'.2) (h.2 i hi).2)⟩
def kF (md:Region.Mode) (ops:Array Oper) (n:Nat):Bool:=decide (n=ops.size)||(decide (n<ops.size)&&Region.sinkB md ops n&&Region.chainB md ops n)
theorem gA {n:Nat} {listed:Array Bool} (ht:kF md ops n=true) (inv:HeadInv md ops n listed) {i:Nat} (hin:i<n) (hun:listed.getD i true=false):∀ j∈Region.ready md ops listed,j<n:=by
 intro j hj
 simp only[kF,Bool.or_eq_true,Bool.and_eq_true,decide_eq_true_eq] at ht
 rcases ht with ht|⟨⟨hn,hs⟩,hc⟩
 ·obtain⟨_,o,ho,_⟩:=mem_ready.1 hj
  have:=(Array.getElem?_eq_some_iff.1 ho).1
  omega
 ·rcases Nat.lt_or_ge j n with h|h
  ·exact h
  ·exact absurd hj (tail_waits hs hc hn inv _ i rfl hin hun j h)
theorem kg {n i:Nat} {oi:Oper} {v:Value} {L:Array Bool→Act→World→Prop} (hi:ops[i]?=some oi) (hsel:∀ (j:Nat) (o:Oper) cs b,ops[j]?=some o→o.op≠.select cs b)
 (ht:kF md ops n=true) (hin:i<n) (hdone:∀ listed a w,L listed a w→∀ j∈Region.ready md ops listed,n≤j):
 ∀ (f:Nat) (listed:Array Bool) (a:Act) (w:World),HeadInv md ops n listed→
   (∀ j oj,ops[j]?=some oj→j≠i→listed.getD j true=false→(∀ e∈oj.after,Region.binds md e=true→e.on≠i)→oi.apart ops oj=true)→
   i∈Region.ready md ops listed→YS P ops S oi v a→S w→
   im P md ops S n L f (listed.setIfInBounds i true) (a.put oi.dst v) w→im P md ops S n L (f+1) listed a w:=by
 intro f
 induction f with
 |zero=>
  intro listed a w inv _ hr hy hS H
  have hun:=(mem_ready.1 hr).1
  refine⟨fun h=>(by rw[h] at hr;cases hr),fun j hj=>?_⟩
  have hjn:=gA ht inv hin hun j hj
  refine⟨hjn,?_⟩
  by_cases hji:j=i
  ·subst hji;exact hy.wpOp hi hS ⟨hS,H⟩
  ·have:=hdone _ _ _ H j (ready_mono hj hji)
   omega
 |succ f ih=>
  intro listed a w inv hfree hr hy hS H
  have hun:=(mem_ready.1 hr).1
  refine⟨fun h=>(by rw[h] at hr;cases hr),fun j hj=>?_⟩
  have hjn:=gA ht inv hin hun j hj
  refine⟨hjn,?_⟩
  by_cases hji:j=i
  ·subst hji;exact hy.wpOp hi hS ⟨hS,H⟩
  ·have h1:=(H.2 j (ready_mono hj hji)).2
   obtain⟨hjun,oj,hoj,hall⟩:=mem_ready.1 hj
   have hnot:∀ e∈oj.after,Region.binds md e=true→e.on≠i:=fun e he hb heq=>by
    have h1:=hall e he hb
    rw[heq,getD_both hun] at h1
    cases h1
   have h2:=qC hoj (hfree j oj hoj hji hjun hnot) (fun cs b=>hsel i oi cs b hi) (fun cs b=>hsel j oj cs b hoj) hy h1
   have hfree':∀ k ok,ops[k]?=some ok→k≠i→(listed.setIfInBounds j true).getD k true=false→
    (∀ e∈ok.after,Region.binds md e=true→e.on≠i)→oi.apart ops ok=true:=fun k ok hk hki hun hno=>by
    refine hfree k ok hk hki ?_ hno
    by_cases hjk:j=k
    ·subst hjk;exact hjun
    ·rw[getD_set_ne true hjk] at hun;exact hun
   refine wpOp_mono (fun a' w' h3=>⟨h3.2.1,ih (listed.setIfInBounds j true) a' w' (inv.set hj hjn) hfree' (ready_mono hr (Ne.symm hji)) h3.1 h3.2.1 ?_⟩) h2
   rw[Array.setIfInBounds_comm _ _ hji]
   exact h3.2.2
def pB (P:Program) (ops:Array Oper) (S:World→Prop) (Q:Act→World→Prop):List (Nat×Bool)→Act→World→Prop
 |[],a,w=>Q a w
 |(k,true)::rest,a,w=>∃ o v,ops[k]?=some o∧YS P ops S o v a∧pB P ops S Q rest (a.put o.dst v) w
 |(k,false)::rest,a,w=>wpOp P ops j7 k (fun a' w'=>S w'∧pB P ops S Q rest a' w') a w
def iK (md:Region.Mode) (ops:Array Oper) (n g:Nat):List (Nat×Bool)→Array Bool→Bool
 |[],listed=>Region.seqB md ops g n listed
 |(k,st)::rest,listed=>decide (k<n)&&(match st with
    |true=>(Region.ready md ops listed).contains k&&Region.free md ops listed k
    |false=>decide (Region.ready md ops listed=[k]))&&iK md ops n g rest (listed.setIfInBounds k true)
theorem iZ {n g:Nat} {Lq:Act→World→Prop} (hsel:Region.noSelect ops=true) (ht:kF md ops n=true):∀ (l:List (Nat×Bool)) (listed:Array Bool) (a:Act) (w:World),HeadInv md ops n listed→S w→
 iK md ops n g l listed=true→pB P ops S Lq l a w→im P md ops S n (fun listed' a' w'=>Region.seqB md ops g n listed'=true∧Lq a' w') l.length listed a w
 |[],listed,a,w,_,_,hB,h=>⟨hB,h⟩
 |(k,true)::l,listed,a,w,inv,hS,hB,h=>by
  simp only[iK,Bool.and_eq_true,decide_eq_true_eq] at hB
  obtain⟨⟨hkn,hr,hf⟩,hB'⟩:=hB
  obtain⟨o,v,h0,hy,hK⟩:=h
  have hr':k∈Region.ready md ops listed:=by simpa using hr
  exact kg h0 (Region.noSelect_spec hsel) ht hkn (fun listed' a' w' hL=>seqB_ready hL.1) l.length listed a w inv (Region.free_spec h0 hf) hr' hy hS (iZ hsel ht l _ _ w (inv.set hr' hkn) hS hB' hK)
 |(k,false)::l,listed,a,w,inv,hS,hB,h=>by
  simp only[iK,Bool.and_eq_true,decide_eq_true_eq] at hB
  obtain⟨⟨hkn,hr⟩,hB'⟩:=hB
  refine⟨by rw[hr];simp,fun i hi=>?_⟩
  have hr':k∈Region.ready md ops listed:=by rw[hr];simp
  rw[hr] at hi
  obtain rfl:i=k:=by simpa using hi
  exact⟨hkn,wpOp_mono (fun a' w' h'=>⟨h'.1,iZ hsel ht l _ _ _ (inv.set hr' hkn) h'.1 hB' h'.2⟩) h⟩
def mw (ops:Array Oper) (n:Nat) (l:List (Nat×Bool)):Bool:=Region.noSelect ops&&kF .any ops n&&decide (l.length=n)&&decide (n≤ops.size)&&iK .any ops n (ops.size-n) l (Array.replicate ops.size false)
theorem iX {id:Nat} {Q:Exit→Act→World→Prop} {a:Act} {w:World} {l:List Oper} (n:Nat) (order:List (Nat×Bool)) (hm:P.follows .mixedOrders=true) (hB:mw l.toArray n order=true) (hS:S { w with drawn:=w.drawn+1 })
 (h:pB P l.toArray S (fun a' w'=>wpList P l.toArray Q (l.drop n) a' w') order a { w with drawn:=w.drawn+1 }):(Code.region id l.toArray true).wp P Q a w:=by
 simp only[mw,Bool.and_eq_true,decide_eq_true_eq] at hB
 obtain⟨⟨⟨⟨hsel,ht⟩,hlen⟩,hn⟩,hwk⟩:=hB
 have inv0:HeadInv .any l.toArray n (Array.replicate l.toArray.size false):=
  ⟨by simp,fun j oj _ hl=>(by rw[getD_replicate_false] at hl;cases hl),fun t _ ht=>getD_in (by simpa using ht) (getD_replicate_false _ _)⟩
 have hdl:(l.drop n).length=l.toArray.size-n:=by simp
 have H:=iZ (md:=.any) (g:=l.toArray.size-n) hsel ht order _ a _ inv0 hS hwk h
 refine wp_region_any hm ?_
 have:=fT (Q':=Q) (g:=l.toArray.size-n) (fun listed a' w' hL=>by
  have:=wpAny_of_seq (md:=.any) (Q':=Q) (l.drop n) n listed a' w' (fun j=>by simp[List.getElem?_drop]) (by rw[hdl];exact hL.1) hL.2
  rwa [hdl] at this) _ _ _ _ H
 rw[hlen,show n+(l.toArray.size-n)=l.toArray.size by omega] at this
 exact this
end
section
variable {X:Cx} {Q:dl} {E E':Env} {H Sf:Heap} {K:Env→Heap→Prop}
def JW (X:Cx) (ops:List Oper) (order:List (Nat×Bool)) (Sf:Heap) (K:Env→Heap→Prop) (E:Env) (H:Heap):Prop:=
 ∀ a w,eh X.n a E→cm X.w0 X.M w H→pB Tryz.prog ops.toArray (fun w=>cm X.w0 X.M w Sf) (fun a' w'=>∃ E' H',eh X.n a' E'∧cm X.w0 X.M w' H'∧K E' H') order a w
theorem bp {id:Nat} {l:List Oper} (n:Nat) (order:List (Nat×Bool)) (ix:List Nat) (hB:mw l.toArray n order=true) (hi:ix.Nodup) (hS:bF H ix=some Sf) (h:JW X l order Sf (fun E' H'=>JL X l (l.drop n) Q E' H') E H):
 J X (.region id l.toArray true) Q E H:=by
 intro a w hA hH
 refine iX (S:=fun w=>cm X.w0 X.M w Sf) n order uE hB (hH.drew.picks ix hi hS) ?_
 have:=h a _ hA hH.drew
 refine (?_:∀ (Q1 Q2:Act→World→Prop),(∀ a w,Q1 a w→Q2 a w)→∀ l a w,pB Tryz.prog _ _ Q1 l a w→pB Tryz.prog _ _ Q2 l a w) _ _ ?_ _ a _ this
 ·intro Q1 Q2 hq l
  induction l with
  |nil=>exact fun a w h=>hq a w h
  |cons o l ih=>
   intro a w h
   obtain⟨k,st⟩:=o
   cases st with
   |true=>obtain⟨o,v,h1,h2,h3⟩:=h;exact⟨o,v,h1,h2,ih _ _ h3⟩
   |false=>exact wpOp_mono (fun a' w' h'=>⟨h'.1,ih _ _ h'.2⟩) h
 ·rintro a w ⟨E',H',hA',hH',hq⟩
  exact hq a w hA' hH'
theorem bv {ops:List Oper} (h:K E H):JW X ops [] Sf K E H:=fun _ _ hA hH=>⟨E,H,hA,hH,h⟩
theorem aj {ops:List Oper} {rest:List (Nat×Bool)} {k:Nat} {o:Oper} {v:Value} (gs:List Nat) (ho:ops[k]?=some o) (hv:gW X o E Sf v) (hb:iJ X.n ops gs E o v=some E') (h:JW X ops rest Sf K E' H):JW X ops ((k,true)::rest) Sf K E H:=by
 intro a w hA hH
 obtain⟨hg,hp⟩:=cP hb
 exact⟨o,v,by simpa using ho,.inl ⟨bQ hA hg,fun w' hw'=>hv a w' hA hw'⟩,h _ w (hA.putE hp) hH⟩
theorem aZ {ops:List Oper} {rest:List (Nat×Bool)} {k:Nat} {o:Oper} {gs:List Nat} (ho:ops[k]?=some o) (he:xa X.n ops gs E o=some E') (h:JW X ops rest Sf K E' H):JW X ops ((k,true)::rest) Sf K E H:=by
 unfold xa at he
 split at he
 ·rename_i hg
  split at he
  ·rename_i v hv
   exact aj gs ho (g7 hv) (by unfold iJ;rw[hg];exact he) h
  ·cases he
 ·rename_i hg
  intro a w hA hH
  exact⟨o,undef,by simpa using ho,.inr ⟨bQ hA hg,rfl⟩,h _ w (hA.putE he) hH⟩
 ·cases he
noncomputable def za (n:mh) (ops:List Oper) (gs:List Nat) (E:Env):List (Nat×Bool)→Env×List (Nat×Bool)
 |[]=>(E,[])
 |(k,false)::l=>(E,(k,false)::l)
 |(k,true)::l=>match ops[k]? with
  |some o=>match xa n ops gs E o with
   |some E'=>za n ops gs E' l
   |none=>(E,(k,true)::l)
  |none=>(E,(k,true)::l)
theorem aF {ops:List Oper} {l':List (Nat×Bool)} (gs:List Nat):∀ {l:List (Nat×Bool)} {E:Env},za X.n ops gs E l=(E',l')→JW X ops l' Sf K E' H→JW X ops l Sf K E H
 |[],E,h,k=>by
  simp only[za,Prod.mk.injEq] at h
  obtain⟨rfl,rfl⟩:=h
  exact k
 |(_,false)::l,E,h,k=>by
  simp only[za,Prod.mk.injEq] at h
  obtain⟨rfl,rfl⟩:=h
  exact k
 |(i,true)::l,E,h,k=>by
  unfold za at h
  split at h
  ·rename_i o ho
   split at h
   ·rename_i E1 h1;exact aZ ho h1 (aF gs h k)
   ·simp only[Prod.mk.injEq] at h
    obtain⟨rfl,rfl⟩:=h
    exact k
  ·simp only[Prod.mk.injEq] at h
   obtain⟨rfl,rfl⟩:=h
   exact k
theorem dW {ops:List Oper} (gs:List Nat) {l:List (Nat×Bool)} {E:Env} (h:za X.n ops gs E l=(E',[])) (k:K E' H):JW X ops l Sf K E H:=aF gs h (bv k)
theorem cE {ops:List Oper} {l:List (Nat×Bool)} (t:Nat) {v v':Value} (hv:gI E t=some v) (e:v=v') (h:JW X ops l Sf K ((t,v')::E) H):JW X ops l Sf K E H:=fun a w hA hH=>h a w (hA.set hv e) hH
def x4 (X:Cx) (ops:List Oper) (rest:List (Nat×Bool)) (Sf:Heap) (K:Env→Heap→Prop):dl:=fun e E' H'=>match e with
 |.normal=>(∃ ix:List Nat,ix.Nodup∧bF H' ix=some Sf)∧JW X ops rest Sf K E' H'
 |_=>False
theorem a6 {ops:List Oper} {rest:List (Nat×Bool)} {k:Nat} {o:Oper} (ho:ops[k]?=some o) (h:JL X ops [o] (x4 X ops rest Sf K) E H):JW X ops ((k,false)::rest) Sf K E H:=by
 intro a w hA hH
 have h1:=h a w hA hH
 show wpOp _ _ _ _ _ _ _
 refine iq (Q1:=jO X (x4 X ops rest Sf K)) (fun e a w hne hq=>?_) ?_
 ·obtain⟨E1,H1,_,_,hq⟩:=hq
  cases e with
  |normal=>exact hne rfl
  |_=>exact hq
 ·unfold wpOp
  have ho':ops.toArray[k]?=some o:=by simpa using ho
  simp only[ho']
  unfold wpList at h1
  have hfin:∀ a' w',wpList Tryz.prog ops.toArray (jO X (x4 X ops rest Sf K)) [] a' w'→cm X.w0 X.M w' Sf∧pB Tryz.prog ops.toArray (fun w=>cm X.w0 X.M w Sf) (fun a' w'=>∃ E' H',eh X.n a' E'∧cm X.w0 X.M w' H'∧K E' H') rest a' w':=by
   rintro a' w' ⟨E1,H1,hA1,hH1,⟨ix,hix,hp⟩,hj⟩
   exact⟨hH1.picks ix hix hp,hj a' w' hA1 hH1⟩
  split
  ·rename_i hw
   rw[if_pos hw] at h1
   exact h1.imp (Oper.wp_mono hfin) id
  ·rename_i hw
   rw[if_neg hw] at h1
   exact hfin _ _ h1
end
/-! ### Results that stand in memory -/
def t5 (E:Env) (H:Heap):List ResultVar→List Value→Prop
 |[],[]=>True
 |.tmp t::rs,v::vs=>gI E t=some v∧t5 E H rs vs
 |.cell t e::rs,v::vs=>(∃ (b k e':Nat) (cs:List Value),gI E t=some (.pointer (some ⟨b,0,none⟩))∧H[k]?=some (blk b e' cs)∧ew e cs 0=some v)∧t5 E H rs vs
 |_,_=>False
def zJ (rs:List ResultVar) (R:Value→Heap→Prop):dl:=fun e E H=>match e with
 |.normal=>∃ vs ix H',t5 E H rs vs∧ix.Nodup∧bF H ix=some H'∧R (iE vs) H'
 |.ret=>∃ vs ix H',t5 E H rs vs∧ix.Nodup∧bF H ix=some H'∧R (iE vs) H'
 |_=>False
theorem mH {w0 w:World} {M:List Nat} {H:Heap} {E:Env} {a:Act} {n:mh} (hA:eh n a E) (hH:cm w0 M w H):∀ (rs:List ResultVar) (vs:List Value),t5 E H rs vs→(rs.toArray.toList.mapM (m:=Sem) (jK a.tmps)).run Tryz.prog w=.ok vs w
 |[],[],_=>by simp
 |.tmp t::rs,v::vs,h=>by
  have h1:=hA.get _ _ h.1
  have h2:=mH hA hH rs vs h.2
  simp only[List.mapM_cons] at h2 ⊢
  simp[jK,h2,Array.getD_eq_getD_getElem?,h1]
 |.cell t e::rs,v::vs,h=>by
  obtain⟨⟨b,k,e',cs,g1,g2,g3⟩,h'⟩:=h
  have h1:=hA.get _ _ g1
  have h2:=mH hA hH rs vs h'
  have h3:=lT (w:=w) (b:=b) (o:=0) (t:=e) (cs:=cs) (v:=v) (aL b e' cs (0,0) w (hH.holds _ (List.mem_of_getElem? g2))) g3
  simp only[List.mapM_cons] at h2 ⊢
  simp[jK,h2,Array.getD_eq_getD_getElem?,h1,asAddr,h3]
 |[],_::_,h=>h.elim
 |.tmp _::_,[],h=>h.elim
 |.cell _ _::_,[],h=>h.elim
theorem ky {w0 w:World} {M:List Nat} {H:Heap} {E:Env} {a:Act} {n:mh} (hA:eh n a E) (hH:cm w0 M w H) {fn:Func} {vs:List Value} (h:t5 E H fn.results.toList vs):(results fn a.tmps).run Tryz.prog w=.ok (iE vs) w:=by
 have e:results fn a.tmps=(do let vs ← fn.results.mapM (jK a.tmps);pure (if h:vs.size=1 then vs[0] else .tuple vs)):=rfl
 have hr:=mH hA hH _ _ h
 rw[List.toList_toArray] at hr
 rw[e,Array.mapM_eq_mapM_toList]
 simp only[map_eq_pure_bind,bind_assoc,pure_bind,Sem.run_bind,hr]
 show Result.ok (if h:vs.toArray.size=1 then vs.toArray[0] else Value.tuple vs.toArray) w=_
 congr 1
 match vs with
 |[]=>rfl
 |[v]=>rfl
 |u::v::l=>
  have:¬ (u::v::l).toArray.size=1:=by simp
  rw[dif_neg this]
  rfl
theorem kV {f:FuncId} {fn:Func} {c:Code} {args:List Value} {M:List Nat} {H:Heap} {R:Value→Heap→Prop} (hf:Tryz.prog.funcs[f]?=some fn) (hb:fn.body=some c) (hn:Nat.ble args.length fn.ntmps=true)
 (h:∀ w0,J ⟨w0,M,⟨fn.ntmps,[]⟩⟩ c (zJ fn.results.toList R) (kL 0 args) H):Fn f args M H R:=by
 intro w hH
 refine calls_of_wp hf hb ?_
 have hA:=ks (args:=args) hn
 refine wp_mono (h w _ w hA hH) ?_
 rintro e a w' ⟨E',H',hA',hH',hq⟩
 cases e with
 |normal=>
  obtain⟨vs,ix,H2,h1,h2,h3,h4⟩:=hq
  exact⟨hA'.defers,iE vs,ky hA' hH' h1,iE vs,H2,rfl,hH'.picks ix h2 h3,h4⟩
 |ret=>
  obtain⟨vs,ix,H2,h1,h2,h3,h4⟩:=hq
  exact⟨hA'.defers,iE vs,ky hA' hH' h1,iE vs,H2,rfl,hH'.picks ix h2 h3,h4⟩
 |_=>exact hq.elim
end Go.Proofs.YtpbmihpjgjbndaaGreatDoor
/- The engine: maps whose keys are whole numbers. -/
set_option linter.unusedVariables false
set_option linter.unusedSimpArgs false
namespace Go.Proofs.YtpbmihpjgjbndaaGreatDoor
open Go.RowKit
variable {X:Cx} {Q:dl} {E E':Env} {H:Heap}
def dY (i:Nat):List (Int×Value)→List MapEntry
 |[]=>[]
 |(k,v)::l=>⟨.int .i64 k,v,i⟩::dY (i+1) l
def fP (l:List (Int×Value)):Obj:=.map (dY 0 l).toArray l.length
def iG:List (Int×Value)→Int→Option Value
 |[],_=>none
 |(k,v)::l,n=>if k=n then some v else iG l n
theorem rv {l:List (Int×Value)} {n:Int} (h:∀ p∈l,p.1≠n):iG l n=none:=by
 induction l with
 |nil=>rfl
 |cons p l ih=>obtain⟨k,v⟩:=p;unfold iG;rw[if_neg (h (k,v) (by simp))];exact ih fun q hq=>h q (by simp[hq])
theorem ku {u:IntKind} (n:Int):∀ (l:List (Int×Value)) (i j:Nat),∃ r,Instr.findNow (.int u) (.int .i64 n) (dY i l) j=some r∧(r.map (·.2))=iG l n
 |[],i,j=>⟨none,rfl,rfl⟩
 |(k,v)::l,i,j=>by
  by_cases h:n=k
  ·subst h
   exact⟨some (j,v),by simp[dY,Instr.findNow,Instr.sameNow],by simp[iG]⟩
  ·obtain⟨r,h1,h2⟩:=ku (u:=u) n l (i+1) (j+1)
   have hf:(n==k)=false:=by simpa using h
   exact⟨r,by simp[dY,Instr.findNow,Instr.sameNow,hf,h1],by unfold iG;rw[if_neg (fun e=>h e.symm)];exact h2⟩
theorem kU {w:World} {kt:TypeId} {u:IntKind} (hk:Tryz.prog.underlying kt=some (.int u)) (n:Int) (l:List (Int×Value)) (i:Nat):∃ r,(Instr.findKey kt (.int .i64 n) (dY i l)).run Tryz.prog w=.ok r w∧(r.map (·.2))=iG l n:=by
 obtain⟨r,h1,h2⟩:=ku (u:=u) n l i 0
 exact⟨r,by simp[Instr.findKey,run_underlying hk,h1],h2⟩
theorem iu {w:World} {kt:TypeId} {u:IntKind} (hk:Tryz.prog.underlying kt=some (.int u)) (e:Bool) (n:Int):(Instr.checkKey e 10000 kt (.int .i64 n)).run Tryz.prog w=.ok () w:=by
 show (Instr.checkKey e (9999+1) kt (.int .i64 n)).run Tryz.prog w=.ok () w
 unfold Instr.checkKey
 simp[run_underlying hk]
theorem mT {F:Nat→Env} {ops l:List Oper} {o:Oper} {t:TypeId} (ho:o.op=.makeMap t none) (hb:∀ b,iJ X.n ops [] E o (.map (some b))=some (F b)) (h:∀ b,JL X ops l Q (F b) (.obj b (fP [])::H)):JL X ops (o::l) Q E H:=
 oD (f:=fun b=>.map (some b)) [] (fun a w hA _=>by simp[execOp,ho,Instr.makeMap,newObj,Sem.run,fP,dY,World.alloc_eq]) hb h
theorem dV {o:Oper} {t kt et b sz by_:Nat} {x ix:Operand} {n:Int} {u:IntKind} {uk:UK} {z:Value} {l:List (Int×Value)} (k:Nat) (ht:Tryz.prog.underlying t=some (.map kt et)) (hk:Tryz.prog.underlying kt=some (.int u)) (ho:o.op=.lookup t x ix false)
 (hx:val E x=some (.map (some b))) (hi:val E ix=some (.int .i64 n)) (hH:H[k]?=some (.obj b (fP l))) (hz:tab et=some ⟨uk,sz,by_,some z⟩):gW X o E H ((iG l n).getD z):=by
 intro a w hA hHas
 have hb:w.heap[b]?=some (fP l):=hHas.holds _ (List.mem_of_getElem? hH)
 obtain⟨d,j,_,hji,_,_,_,hzz⟩:=cZ hz
 obtain⟨r,h1,h2⟩:=kU (w:=w) hk n l 0
 have hg:(getObj b).run Tryz.prog w=.ok (fP l) w:=by unfold fP at hb ⊢;simp[getObj,Sem.run,hb]
 unfold fP at hg
 have hr:(Instr.lookup t (.map (some b)) (.int .i64 n) false).run Tryz.prog w=.ok ((iG l n).getD z) w:=by
  rw[← h2]
  cases r with
  |none=>simp[Instr.lookup,run_underlying ht,hg,iu hk,h1,zeroValue,typeInfo,hji,hzz z rfl]
  |some p=>obtain⟨i,v⟩:=p;simp[Instr.lookup,run_underlying ht,hg,iu hk,h1]
 simp[execOp,ho,hA.val hx,hA.val hi,hr]
theorem nX (n:Int) (v:Value):∀ (l:List (Int×Value)) (i:Nat),dY i l++[⟨.int .i64 n,v,i+l.length⟩]=dY i (l++[(n,v)])
 |[],i=>by simp[dY]
 |(k,u)::l,i=>by
  have:=nX n v l (i+1)
  simp only[dY,List.cons_append,List.length_cons]
  rw[← this,show i+(l.length+1)=i+1+l.length by omega]
theorem mK {ops l:List Oper} {o:Oper} {t kt et b:Nat} {x ix y:Operand} {n:Int} {v:Value} {u:IntKind} {es:List (Int×Value)} (k:Nat) (ht:Tryz.prog.underlying t=some (.map kt et)) (hk:Tryz.prog.underlying kt=some (.int u)) (ho:o.op=.mapUpdate t x ix y)
 (hx:val E x=some (.map (some b))) (hi:val E ix=some (.int .i64 n)) (hy:val E y=some v) (hH:H[k]?=some (.obj b (fP es))) (hnew:∀ p∈es,p.1≠n) (gs:List Nat) (hb:iJ X.n ops gs E o undef=some E')
 (h:JL X ops l Q E' (H.set k (.obj b (fP (es++[(n,v)]))))):JL X ops (o::l) Q E H:=by
 intro a w hA hHas
 obtain⟨hg,hp⟩:=cP hb
 unfold wpList
 rw[if_pos (bQ hA hg)]
 left
 have hbl:w.heap[b]?=some (fP es):=hHas.holds _ (List.mem_of_getElem? hH)
 have hlt:b<w.heap.size:=(Array.getElem?_eq_some_iff.1 hbl).1
 obtain⟨r,h1,h2⟩:=kU (w:=w) hk n es 0
 rw[rv hnew] at h2
 have hr0:r=none:=by cases r with
  |none=>rfl
  |some p=>simp at h2
 subst hr0
 have hgo:(getObj b).run Tryz.prog w=.ok (fP es) w:=by unfold fP at hbl ⊢;simp[getObj,Sem.run,hbl]
 unfold fP at hgo
 have hso:(setObj b (fP (es++[(n,v)]))).run Tryz.prog w=.ok () { w with heap:=w.heap.setIfInBounds b (fP (es++[(n,v)])) }:=by
  unfold fP at hbl
  simp[setObj,Sem.run,hbl]
 have hr:(Instr.mapUpdate t (.map (some b)) (.int .i64 n) v).run Tryz.prog w=.ok () { w with heap:=w.heap.setIfInBounds b (fP (es++[(n,v)])) }:=by
  rw[← hso]
  simp[Instr.mapUpdate,run_underlying ht,hgo,iu hk,h1,fP,← nX]
 show o.upon _ a _ _ ((execOp a.eval o).run _ w)
 have hx':(execOp a.eval o).run Tryz.prog w=.ok .skip { w with heap:=w.heap.setIfInBounds b (fP (es++[(n,v)])) }:=by
  simp[execOp,ho,hA.val hx,hA.val hi,hA.val hy,hr]
 rw[hx']
 refine h _ _ (hA.putE hp) (hHas.step k hH rfl rfl rfl (by simp) (fun q hq hne=>?_) ?_ (fun b' hb'=>.inl hb'))
 ·have:b≠q:=fun e=>hne (by rw[← e];rfl)
  simp[Array.getElem?_setIfInBounds_ne this]
 ·show (w.heap.setIfInBounds b _)[b]?=_
  simp[hlt]
end Go.Proofs.YtpbmihpjgjbndaaGreatDoor
/- The engine: pieces in another order, and rows of rows. -/
set_option linter.unusedVariables false
set_option linter.unusedSimpArgs false
namespace Go.Proofs.YtpbmihpjgjbndaaGreatDoor
open Go.RowKit
variable {X:Cx} {Q:dl} {E E':Env} {H H' K:Heap}
def aK (X:Cx) (H K:Heap):Prop:=∀ w,cm X.w0 X.M w H→cm X.w0 X.M w K
theorem aK.refl:aK X H H:=fun _ h=>h
theorem aK.trans (h1:aK X H H') (h2:aK X H' K):aK X H K:=fun w h=>h2 w (h1 w h)
theorem aK.picks (ix:List Nat) (hi:ix.Nodup) (h:Proofs.YtpbmihpjgjbndaaGreatDoor.bF H ix=some K):aK X H K:=fun _ hw=>hw.picks ix hi h
theorem cm.perm {w0 w:World} {M:List Nat} (h:cm w0 M w H) (hp:H.Perm K):cm w0 M w K:=
 ⟨h.os,h.tape,h.output,h.size,h.keep,fun c hc=>h.holds c (hp.mem_iff.2 hc),fun c hc=>h.own c (hp.mem_iff.2 hc),h.dis.perm hp fun h=>jR h⟩
theorem aK.perm (h:H.Perm K):aK X H K:=fun _ hw=>hw.perm h
theorem cm.sub {w0 w:World} {M:List Nat} (h:cm w0 M w H) (hp:K.Sublist H):cm w0 M w K:=
 ⟨h.os,h.tape,h.output,h.size,h.keep,fun c hc=>h.holds c (hp.mem hc),fun c hc=>h.own c (hp.mem hc),h.dis.sublist hp⟩
theorem aK.sub (h:K.Sublist H):aK X H K:=fun _ hw=>hw.sub h
theorem bY {ops l:List Oper} (hf:aK X H K) (h:JL X ops l Q E K):JL X ops l Q E H:=fun a w hA hH=>h a w hA (hf w hH)
theorem bA {c:Code} (hf:aK X H K) (h:J X c Q E K):J X c Q E H:=fun a w hA hH=>h a w hA (hf w hH)
theorem cN {σ:Type} {c:Code} (F:σ→Env) (K:σ→Heap) (I:σ→Prop) (μ:σ→Nat) (s:σ) (hF:kS E (F s)) (hK:aK X H (K s)) (hI:I s)
 (round:∀ s,I s→J X c (qw (fun E' H'=>∃ s',kS E' (F s')∧aK X H' (K s')∧I s'∧μ s'<μ s) Q) (F s) (K s)):J X (.loop c) Q E H:=by
 intro a w hA hH
 refine wp_loop_ghost (fun k a w=>∃ s,k=μ s∧I s∧eh X.n a (F s)∧cm X.w0 X.M w (K s)) (μ s) ⟨s,rfl,hI,hA.ents _ hF,hK w hH⟩ ?_
 rintro k a w ⟨s,rfl,hI,hA,hH⟩
 refine wp_mono (round s hI a w hA hH) ?_
 rintro e a' w' ⟨E',H',hA',hH',hq⟩
 cases e with
 |normal=>
  obtain⟨s',h1,h2,h3,h4⟩:=hq
  exact⟨μ s',h4,s',rfl,h3,hA'.ents _ h1,h2 w' hH'⟩
 |_=>exact⟨E',H',hA',hH',hq⟩
theorem mx {A R:Heap} {c:aO} {i:Nat} (h:R[i]?=some c):(A++R).Perm (c::(A++R.eraseIdx i)):=by
 obtain⟨hi,rfl⟩:=List.getElem?_eq_some_iff.1 h
 have h1:R.Perm (R[i]::R.eraseIdx i):=by
  rw[List.eraseIdx_eq_take_drop_succ]
  have e:R=R.take i++R[i]::R.drop (i+1):=by rw[← List.drop_eq_getElem_cons hi,List.take_append_drop]
  exact (List.Perm.of_eq e).trans List.perm_middle
 exact (List.Perm.append_left A h1).trans List.perm_middle
theorem tH {A R:Heap} {c:aO} {i:Nat} (h:i<R.length):(c::(A++R.eraseIdx i)).Perm (A++R.set i c):=by
 have h1:(R.set i c)[i]?=some c:=by simp[h]
 have h2:(R.set i c).eraseIdx i=R.eraseIdx i:=by
  rw[List.eraseIdx_eq_take_drop_succ,List.eraseIdx_eq_take_drop_succ,List.take_set_of_le (Nat.le_refl _),List.drop_set_of_lt (by omega)]
 have:=(mx (A:=A) h1).symm
 rwa [h2] at this
/-! ### Labels that are only broken to -/
def xU (Q:dl):dl
 |.goto _,_,_=>False
 |e,E,H=>Q e E H
theorem sY {c:Code} (h:J X c (xU Q) E H):J X (.scope c) Q E H:=by
 intro a w hA hH
 refine wp_scope_straight (wp_mono (h a w hA hH) ?_)
 rintro e a' w' ⟨E',H',hA',hH',hq⟩
 cases e with
 |goto l=>exact hq.elim
 |_=>exact⟨E',H',hA',hH',hq⟩
theorem sj {l:Nat} (h:Q .normal E H):J X (.label l) Q E H:=fun _ _ hA hH=>wp_label ⟨E,H,hA,hH,h⟩
/-! ### A row that is cut at its end -/
theorem mm {w:World} {e sz n m c:Nat} {A:Option Addr} {xs:List Value} (h:w.ownsRow 0 e sz (.slice A n c) n xs) (hm:m≤n):w.ownsRow 0 e sz (.slice A m c) m (xs.take (m*sz)):=by
 obtain⟨h1,h2|⟨g,cap,cur,hv,h0,hg,hn,hc,hs,hx⟩⟩:=h
 ·obtain⟨hv,rfl⟩:=h2
  obtain rfl:m=0:=by omega
  simp only[Value.slice.injEq] at hv
  obtain⟨rfl,_,rfl⟩:=hv
  exact⟨by simp,.inl ⟨rfl,rfl⟩⟩
 ·simp only[Value.slice.injEq] at hv
  obtain⟨rfl,_,rfl⟩:=hv
  have hle:m*sz≤n*sz:=Nat.mul_le_mul_right sz hm
  refine⟨by rw[List.length_take,h1];omega,.inr ⟨g,c,cur,rfl,h0,hg,by omega,hc,hs,?_⟩⟩
  rw[← hx,List.take_take,Nat.min_eq_left hle]
theorem cm.chunk {w0 w:World} {M:List Nat} {c d:aO} (k:Nat) (hH:cm w0 M w H) (hk:H[k]?=some c) (hd:d.holds w) (hm:∀ b,d.mine=some b→c.mine=some b) (ha:∀ b,d.at_=some b→c.at_=some b ):cm w0 M w (H.set k d):=by
 have hkl:k<H.length:=(List.getElem?_eq_some_iff.1 hk).1
 have hmem:∀ e∈H.set k d,e=d∨e∈H:=fun e he=>by
  rcases List.mem_or_eq_of_mem_set he with h|h
  ·exact .inr h
  ·exact .inl h
 refine⟨hH.os,hH.tape,hH.output,hH.size,hH.keep,fun e he=>?_,fun e he b hb=>?_,?_⟩
 ·rcases hmem e he with rfl|h
  ·exact hd
  ·exact hH.holds e h
 ·rcases hmem e he with rfl|h
  ·exact hH.own c (List.mem_of_getElem? hk) b (hm b hb)
  ·exact hH.own e h b hb
 ·rw[List.pairwise_iff_getElem]
  intro i j hi hj hij
  simp only[List.length_set] at hi hj
  have hp:∀ i j (hi:i<H.length) (hj:j<H.length),i≠j→er H[i] H[j]:=fun i j hi hj hne=>dH hH.dis (List.getElem?_eq_getElem hi) (List.getElem?_eq_getElem hj) hne
  have hck:c=H[k]:=by rw[List.getElem?_eq_getElem hkl] at hk;exact (Option.some.inj hk).symm
  simp only[List.getElem_set]
  split
  ·rename_i e1
   subst e1
   rw[if_neg (by omega)]
   have:=hp k j hi hj (by omega)
   rw[← hck] at this
   exact⟨fun b hb=>this.1 b (hm b hb),fun b hb hb2=>this.2 b hb (ha b hb2)⟩
  ·split
   ·rename_i e1
    subst e1
    have:=hp i k hi hj (by omega)
    rw[← hck] at this
    exact⟨fun b hb hb2=>this.1 b hb (ha b hb2),fun b hb=>this.2 b (hm b hb)⟩
   ·exact hp i j hi hj (by omega)
theorem t9 {ops l:List Oper} {e sz n m c:Nat} {A:Option Addr} {xs:List Value} (k:Nat) (hk:H[k]?=some (.own (.slice A n c) e sz n xs)) (hm:m≤n) (h:JL X ops l Q E (H.set k (.own (.slice A m c) e sz m (xs.take (m*sz))))):JL X ops l Q E H:=
 fun a w hA hH=>h a w hA (hH.chunk k hk (mm (hH.holds _ (List.mem_of_getElem? hk)) hm) (fun _ h=>by cases A<;>exact h) (fun _ h=>by cases A<;>exact h))
theorem aK.shrink {e sz n m c:Nat} {A:Option Addr} {xs:List Value} (k:Nat) (hk:H[k]?=some (.own (.slice A n c) e sz n xs)) (hm:m≤n):aK X H (H.set k (.own (.slice A m c) e sz m (xs.take (m*sz)))):=
 fun _ hH=>hH.chunk k hk (mm (hH.holds _ (List.mem_of_getElem? hk)) hm) (fun _ h=>by cases A<;>exact h) (fun _ h=>by cases A<;>exact h)
/-! ### Rows of rows -/
structure eu where
 A:Option Addr
 c:Nat
 l:List Int
def cH (r:eu):Value:=.slice r.A r.l.length r.c
def bH (e:Nat) (r:eu):aO:=.own (cH r) e 1 r.l.length (ap r.l)
def dg:eu:=⟨none,0,[]⟩
theorem cm.nils {w0 w:World} {M:List Nat} (e:Nat) (h:cm w0 M w H):∀ n:Nat,cm w0 M w (H++List.replicate n (bH e dg))
 |0=>by simpa using h
 |n+1=>by
  have h1:=(h.nils e n).addnil e 1
  refine h1.perm ?_
  rw[List.replicate_succ]
  exact List.perm_middle.symm
theorem aK.nils (e n:Nat):aK X H (H++(List.replicate n dg).map (bH e)):=fun w h=>by rw[List.map_replicate];exact h.nils e n
theorem dk {t by_ i:Nat} {uk:UK} {z:Option Value} {cs:List Value} {v:Value} (ht:tab t=some ⟨uk,1,by_,z⟩) (hv:v.cells.toList=[v]) (h1:v.oneCell'=true) (hi:i<cs.length):mI t cs i v.cells.toList=some (cs.set i v):=by
 unfold mI
 rw[ht,hv]
 have h2:Nat.ble (i+1) cs.length=true:=Nat.ble_eq_true_of_le (by omega)
 simp only[List.length_cons,List.length_nil,Nat.zero_add,Nat.beq_refl,h2,one,h1,wr]
theorem aK.front {A R:Heap} {c:aO} {i:Nat} (h:R[i]?=some c):aK X (A++R) (c::(A++R.eraseIdx i)):=aK.perm (mx h)
theorem aK.back {A R:Heap} {c:aO} {i:Nat} (h:i<R.length):aK X (c::(A++R.eraseIdx i)) (A++R.set i c):=aK.perm (tH h)
end Go.Proofs.YtpbmihpjgjbndaaGreatDoor
/- The engine: calls that change what they are handed. -/
set_option linter.unusedVariables false
set_option linter.unusedSimpArgs false
namespace Go.Proofs.YtpbmihpjgjbndaaGreatDoor
open Go.RowKit
variable {X:Cx} {Q:dl} {E E':Env} {H H' K:Heap}
def aR (C:Heap):List Nat:=C.filterMap aO.mine
theorem nE {C:Heap} {b:Nat}:b∈aR C↔∃ c∈C,c.mine=some b:=List.mem_filterMap
theorem kw (H:Heap):∀ (K:Heap) (i:Nat),(∀ j,j<K.length→H[i+j]?=K[j]?)→bF H (List.range' i K.length)=some K
 |[],_,_=>rfl
 |c::K,i,hi=>by
  have h0:H[i]?=some c:=by simpa using hi 0 (by simp)
  rw[List.length_cons,List.range'_succ]
  unfold bF
  rw[h0,kw H K (i+1) (fun j hj=>by have:=hi (j+1) (by simp;omega);simpa [Nat.add_assoc,Nat.add_comm 1] using this)]
theorem fQ {i:Nat} {l:List Nat} {A1:Heap}:bF H (i::l)=some A1↔∃ c K,H[i]?=some c∧bF H l=some K∧A1=c::K:=by
 constructor
 ·intro h
  unfold bF at h
  split at h
  ·rename_i c hc
   split at h
   ·rename_i K hK
    simp only[Option.some.injEq] at h
    exact⟨c,K,hc,hK,h.symm⟩
   ·cases h
  ·cases h
 ·rintro⟨c,K,h1,h2,rfl⟩
  unfold bF
  rw[h1,h2]
theorem je {B:Heap} {l':List Nat} (hB:bF H l'=some B):∀ {l:List Nat} {A:Heap},bF H l=some A→bF H (l++l')=some (A++B)
 |[],A,h=>by
  simp only[bF,Option.some.injEq] at h
  subst h;exact hB
 |i::l,A,h=>by
  obtain⟨c,K,h1,h2,rfl⟩:=fQ.1 h
  exact fQ.2 ⟨c,K++B,h1,je hB h2,rfl⟩
theorem gU {A R:Heap}:∀ {l:List Nat} {A1:Heap},bF A l=some A1→bF (A++R) l=some A1∧∀ i∈l,i<A.length
 |[],A1,h=>⟨h,fun _ h=>by cases h⟩
 |i::l,A1,h=>by
  obtain⟨c,K,h1,h2,rfl⟩:=fQ.1 h
  have hlt:=(List.getElem?_eq_some_iff.1 h1).1
  obtain⟨k1,k2⟩:=gU (R:=R) h2
  refine⟨fQ.2 ⟨c,K,by rw[List.getElem?_append_left hlt];exact h1,k1,rfl⟩,fun j hj=>?_⟩
  rcases List.mem_cons.1 hj with rfl|hj
  ·exact hlt
  ·exact k2 j hj
theorem aK.mid {A A1 A2 R:Heap} (ix jx:List Nat) (h1:Proofs.YtpbmihpjgjbndaaGreatDoor.bF A ix=some A1) (h2:Proofs.YtpbmihpjgjbndaaGreatDoor.bF A jx=some A2) (hn:(ix++jx).Nodup):aK X (A++R) ((A1++R)++A2):=by
 obtain⟨k1,l1⟩:=gU (R:=R) h1
 obtain⟨k2,l2⟩:=gU (R:=R) h2
 have kR:Proofs.YtpbmihpjgjbndaaGreatDoor.bF (A++R) (List.range' A.length R.length)=some R:=kw _ R A.length fun j _=>by rw[List.getElem?_append_right (by omega),Nat.add_sub_cancel_left]
 refine aK.picks ((ix++List.range' A.length R.length)++jx) ?_ (je k2 (je kR k1))
 obtain⟨n1,n2,n3⟩:=List.nodup_append.1 hn
 rw[List.nodup_append,List.nodup_append]
 refine⟨⟨n1,List.nodup_range',fun a ha b hb=>?_⟩,n2,fun a ha b hb=>?_⟩
 ·have:=l1 a ha
  have:=(List.mem_range'_1.1 hb).1
  omega
 ·rcases List.mem_append.1 ha with ha|ha
  ·exact n3 a ha b hb
  ·have:=l2 b hb
   have:=(List.mem_range'_1.1 ha).1
   omega
theorem aK.re {A A1 R:Heap} (ix:List Nat) (h1:Proofs.YtpbmihpjgjbndaaGreatDoor.bF A ix=some A1) (hn:ix.Nodup):aK X (A++R) (A1++R):=by
 have:=aK.mid (X:=X) (R:=R) ix [] h1 rfl (by simpa using hn)
 simpa using this
theorem aK.swap {A R B:Heap}:aK X ((A++R)++B) ((A++B)++R):=aK.perm (by rw[List.append_assoc,List.append_assoc];exact List.Perm.append_left A List.perm_append_comm)
theorem ib.tail {C:Heap}:∀ {S:Heap},ib K [] S→ib (C++K) (List.range C.length) S
 |[],_=>trivial
 |.seg b off vs::S,⟨⟨k,c,_,hk,h1,h2⟩,hS⟩=>⟨⟨C.length+k,c,by rw[List.mem_range];omega,by rw[List.getElem?_append_right (by omega),Nat.add_sub_cancel_left];exact hk,h1,h2⟩,ib.tail hS⟩
 |.tab b o::S,⟨⟨k,_,hk⟩,hS⟩=>⟨⟨C.length+k,by rw[List.mem_range];omega,by rw[List.getElem?_append_right (by omega),Nat.add_sub_cancel_left];exact hk⟩,ib.tail hS⟩
 |.obj ..::_,h=>h.elim
 |.own ..::_,h=>h.elim
theorem cR:∀ {A B:Heap},fY A=true→fY B=true→fY (A++B)=true
 |[],_,_,h=>h
 |.seg ..::_,_,h,_=>by simp[fY] at h
 |.tab ..::_,_,h,_=>by simp[fY] at h
 |.obj ..::A,B,h,h2=>cR (A:=A) h h2
 |.own ..::A,B,h,h2=>cR (A:=A) h h2
theorem cJ (e:Nat):∀ rows:List eu,fY (rows.map (bH e))=true
 |[]=>rfl
 |_::rows=>cJ e rows
theorem nP {o:Oper} {t t' n c e sz by_:Nat} {x y:Operand} {A:Option Addr} {z:Option Value} (ho:o.op=.binOp .eql t x y t') (hx:val E x=some (.slice A n c)) (hy:val E y=some (.slice none 0 0)) (ht:tab t=some ⟨.slice e,sz,by_,z⟩):
 gW X o E H (.bool A.isNone):=by
 intro a w hA hH
 have h1:=db ht
 have he:(Op.equal t (.slice A n c) (.slice none 0 0)).run Tryz.prog w=.ok A.isNone w:=by
  show (Op.equalIn (9999+1) t (.slice A n c) (.slice none 0 0)).run Tryz.prog w=.ok A.isNone w
  rw[Op.equalIn]
  simp only[Sem.run_bind,run_underlying h1,Result.andThen_ok]
  cases A<;>rfl
 have hg:(eqGuard .eql t x y (.slice A n c) (.slice none 0 0)).run Tryz.prog w=.ok () w:=by simp[eqGuard]
 have hb:(binOp .eql t (.slice A n c) (.slice none 0 0)).run Tryz.prog w=.ok (.bool A.isNone) w:=by
  unfold binOp
  simp only[Sem.run_bind,he,Result.andThen_ok]
  rfl
 simp only[execOp,ho,hA.val hx,hA.val hy,Sem.run_bind,hg,hb,Result.andThen_ok]
 rfl
theorem ao {F:Value→Env} {ops l:List Oper} {o:Oper} {f:Operand} {args:Array Operand} {ts:Array TypeId} {g:FuncId} {fst cap vs args':List Value} {R:Value→Heap→Prop} {S C:Heap} (gs:List Nat)
 (T:Fn g args' (aR C) (S++C) R) (ho:o.op=.call ⟨.value f,args,ts⟩) (hf:val E f=some (.func (.func g) fst.toArray cap.toArray)) (ha:vals E args.toList=some vs) (has:fst++vs++cap=args') (hc:fj g=true)
 (hfit:aK X H (C++K)) (hS:ib K [] S) (hb:∀ v,iJ X.n ops gs E o v=some (F v)) (h:∀ v H',R v H'→fY H'=true∧JL X ops l Q (F v) (H'++K)):JL X ops (o::l) Q E H:=by
 refine bY hfit ?_
 have hC:bF (C++K) (List.range C.length)=some C:=by
  rw[List.range_eq_range']
  exact kw _ C 0 fun j hj=>by rw[Nat.zero_add,List.getElem?_append_left hj]
 have hK:bF (C++K) (List.range' C.length K.length)=some K:=kw _ K C.length fun j _=>by rw[List.getElem?_append_right (by omega),Nat.add_sub_cancel_left]
 exact sV (List.range C.length) (List.range' C.length K.length) gs T ho hf ha has hc hS.tail List.nodup_range hC (fun c hc b hb=>nE.2 ⟨c,hc,hb⟩) (fun b hb=>nE.1 hb) hK List.nodup_range'
  (fun i hi=>by rw[List.mem_range];have:=(List.mem_range'_1.1 hi).1;omega) hb h
/-! ### Calls through an interface -/
noncomputable def oK (t:Nat) (name:String):Option FuncId:=match Tryz.prog.info? t with
 |some i=>match i.methods.find? (·.name==name) with
  |some m=>match m.path.isEmpty,m.func with
   |true,some (f,false)=>some f
   |_,_=>none
  |none=>none
 |none=>none
theorem rt {t s by_:Nat} {fs:List (Nat×Nat×Nat)} {z:Option Value} {name:String} {g:FuncId} (h:oK t name=some g) (ht:tab t=some ⟨.struct fs,s,by_,z⟩) (v:Value) (w:World):
 (method (Tryz.prog.types.size+Made.depth) t v name).run Tryz.prog w=.ok (g,v) w:=by
 obtain⟨F,hF,_⟩:=iy ht
 have hdp:0<Made.depth:=by decide
 have hd:∃ k,Tryz.prog.types.size+Made.depth=k+1:=⟨Tryz.prog.types.size+Made.depth-1,by omega⟩
 obtain⟨k,hk⟩:=hd
 rw[hk]
 unfold oK at h
 split at h
 ·rename_i i hi
  split at h
  ·rename_i m hm
   split at h
   ·rename_i f hp hf
    simp only[Option.some.injEq] at h
    subst h
    have hpl:m.path.toList=[]:=by simpa using hp
    unfold method
    simp[typeInfo,hi,hm,hpl,follow,hf,receiverAt,run_underlying hF,Place.get]
   ·cases h
  ·cases h
 ·cases h
theorem oB {F:Value→Env} {ops l:List Oper} {o:Oper} {x:Operand} {name:String} {args:Array Operand} {ts:Array TypeId} {g t s by_:Nat} {u:Value} {vs args':List Value} {fs:List (Nat×Nat×Nat)} {z:Option Value} {R:Value→Heap→Prop} {S:Heap} (gs:List Nat)
 (T:Fn g args' [] S R) (ho:o.op=.call ⟨.invoke x name,args,ts⟩) (hx:val E x=some (.iface t u)) (ha:vals E args.toList=some vs) (has:u::vs=args') (hm:oK t name=some g) (ht:tab t=some ⟨.struct fs,s,by_,z⟩) (hc:fj g=true)
 (hS:ib H [] S) (hb:∀ v,iJ X.n ops gs E o v=some (F v)) (h:∀ v H',R v H'→fY H'=true∧JL X ops l Q (F v) (H'++H)):JL X ops (o::l) Q E H:=by
 intro a w hA hH
 have hg:=(cP (hb undef)).1
 unfold wpList
 rw[if_pos (bQ hA hg)]
 left
 show o.upon _ a _ _ ((execOp a.eval o).run _ w)
 have e1:args.map a.eval=vs.toArray:=by rw[← hA.vals _ _ ha];exact Array.ext' (by simp)
 have hr:(execOp a.eval o).run Tryz.prog w=.ok (.enter g (u::vs).toArray) w:=by
  have h1:=rt hm ht u w
  simp only[execOp,ho,resolve,e1,hA.val hx,Sem.run_bind,Sem.run_pure,Result.andThen_ok,invoke]
  have e2:(#[Value.iface t u]++vs.toArray)[0]?=some (.iface t u):=by simp
  have e3:(#[Value.iface t u]++vs.toArray).extract 1 (#[Value.iface t u]++vs.toArray).size=vs.toArray:=by simp
  simp only[e2,e3,callMethod,Sem.run_bind,run_program,Result.andThen_ok,h1,fC hc]
  simp
 rw[hr,has]
 have hwH:cm w [] w (S++[]):=hH.hand (ix:=[]) (C:=[]) hS List.nodup_nil rfl (fun c hc=>by cases hc)
 rw[List.append_nil] at hwH
 refine (T w hwH).mono ?_
 rintro e w' ⟨v,H',rfl,h1,h2⟩
 obtain⟨h3,h4⟩:=h v H' h2
 exact h4 _ _ (hA.putE (cP (hb v)).2) (hH.back (ix:=[]) (C:=[]) (K:=H) (Mc:=[]) rfl (fun b hb=>by cases hb) (lP H) List.nodup_range (fun _ _ h=>by cases h) h1 h3)
theorem kf {P:Program} {ops:Array Oper} {o:Oper} {j:Nat} {Q1 Q2:Exit→Act→World→Prop} {K:Act→World→Prop} {a:Act} {w:World} (ho:ops.toList[j]?=some o) (h:wpList P ops Q1 [o] a w)
 (hn:∀ a w,Q1 .normal a w→K a w) (he:∀ e a w,e≠.normal→Q1 e a w→Q2 e a w):wpOp P ops Q2 j K a w:=by
 have ho':ops[j]?=some o:=by simpa using ho
 unfold wpOp
 simp only[ho']
 unfold wpList at h
 have hfin:∀ a' w',wpList P ops Q1 [] a' w'→K a' w':=fun a' w' h'=>hn a' w' h'
 split
 ·rename_i hw
  rw[if_pos hw] at h
  rcases h with h|h
  ·left
   unfold Oper.wp at*
   generalize (execOp a.eval o).run P w=r at*
   cases r with
   |ok n w'=>
    cases n<;>simp only[Oper.upon] at h ⊢
    case value u=>exact hfin _ _ h
    case skip=>exact hfin _ _ h
    case defer d=>exact hfin _ _ h
    case enter f args=>
     refine h.mono fun e w'' hx=>?_
     cases e with
     |returned u=>exact hfin _ _ hx
     |panicked ch=>exact he _ _ _ (by simp) hx
     |outgrown=>obtain⟨x,y,hx⟩:=hx;exact⟨x,y,he _ _ _ (by simp) hx⟩
    case row r args=>exact h.mono fun u w'' hu=>hfin _ _ hu
   |halt x w'=>cases x<;>simp only[Oper.upon] at h ⊢<;>exact he _ _ _ (by simp) h
  ·obtain⟨h1,x,y,hx⟩:=h
   exact .inr ⟨h1,x,y,he _ _ _ (by simp) hx⟩
 ·rename_i hw
  rw[if_neg hw] at h
  exact hfin _ _ h
/-! ### A region that draws, each order walked -/
def zp (X:Cx) (ops:List Oper) (Q:dl) (fuel:Nat) (listed:Array Bool):dl:=fun e E H=>match e with
 |.normal=>∀ a w,eh X.n a E→cm X.w0 X.M w H→wpAny Tryz.prog .any ops.toArray (jO X Q) fuel listed a w
 |e=>Q e E H
def JO (X:Cx) (ops:List Oper) (Q:dl) (fuel:Nat) (listed:Array Bool) (E:Env) (H:Heap):Prop:=zp X ops Q fuel listed .normal E H
def zB (X:Cx) (ops:List Oper) (Q:dl) (fuel:Nat) (listed:Array Bool) (E:Env) (H:Heap):List Nat→Prop
 |[]=>True
 |i::is=>(∃ o,ops[i]?=some o∧JL X ops [o] (zp X ops Q fuel (listed.setIfInBounds i true)) E H)∧zB X ops Q fuel listed E H is
theorem zi {id:Nat} {l:List Oper} (h:JO X l Q l.length (Array.replicate l.length false) E H):J X (.region id l.toArray true) Q E H:=by
 intro a w hA hH
 refine wp_region_any uE ?_
 have:=h a _ hA hH.drew
 simpa using this
theorem xl {ops:List Oper} {listed:Array Bool} (hr:Region.ready .any ops.toArray listed=[]) (h:Q .normal E H):JO X ops Q 0 listed E H:=fun _ _ hA hH=>⟨hr,E,H,hA,hH,h⟩
theorem gC {ops:List Oper} {listed:Array Bool} {fuel:Nat} (i:Nat) (is:List Nat) (hr:Region.ready .any ops.toArray listed=i::is) (h:zB X ops Q fuel listed E H (i::is)):JO X ops Q (fuel+1) listed E H:=by
 intro a w hA hH
 refine⟨fun h0=>(by rw[hr] at h0;cases h0),?_⟩
 rw[hr]
 have key:∀ l:List Nat,zB X ops Q fuel listed E H l→∀ j∈l,wpOp Tryz.prog ops.toArray (jO X Q) j (wpAny Tryz.prog .any ops.toArray (jO X Q) fuel (listed.setIfInBounds j true)) a w:=by
  intro l
  induction l with
  |nil=>intro _ j hj;cases hj
  |cons k l ih=>
   rintro⟨⟨o,ho,hk⟩,hl⟩ j hj
   rcases List.mem_cons.1 hj with rfl|hj
   ·have h1:=hk a w hA hH
    refine kf ho h1 ?_ ?_
    ·rintro a' w' ⟨E',H',hA',hH',hq⟩
     exact hq a' w' hA' hH'
    ·rintro e a' w' hne ⟨E',H',hA',hH',hq⟩
     cases e with
     |normal=>exact absurd rfl hne
     |_=>exact⟨E',H',hA',hH',hq⟩
   ·exact ih hl j hj
 exact key _ h
/-! ### A region that draws: what only reads ahead, each order of the rest walked -/
def sS (Q:Exit→Act→World→Prop) (ops:Array Oper) (listed:Array Bool) (a:Act) (w:World):Prop:=Region.ready .any ops listed=[]∧Q .normal a w
def lG (ops:Array Oper):List Nat→Array Bool→Bool
 |[],_=>true
 |k::l,listed=>decide (k<ops.size)&&(Region.ready .any ops listed).contains k&&Region.free .any ops listed k&&lG ops l (listed.setIfInBounds k true)
def oU:List Nat→Array Bool→Array Bool
 |[],listed=>listed
 |k::l,listed=>oU l (listed.setIfInBounds k true)
theorem nc {P:Program} {ops:Array Oper} {S:World→Prop} {Q:Exit→Act→World→Prop} (hsel:Region.noSelect ops=true) {f:Nat}:∀ (l:List Nat) (listed:Array Bool) (a:Act) (w:World),HeadInv .any ops ops.size listed→S w→lG ops l listed=true→
 pB P ops S (fun a' w'=>im P .any ops S ops.size (sS Q ops) f (oU l listed) a' w') (l.map fun k=>(k,true)) a w→im P .any ops S ops.size (sS Q ops) (f+l.length) listed a w
 |[],_,_,_,_,_,_,h=>h
 |k::l,listed,a,w,inv,hS,hB,h=>by
  simp only[lG,Bool.and_eq_true,decide_eq_true_eq] at hB
  obtain⟨⟨⟨hkn,hr⟩,hf⟩,hB'⟩:=hB
  obtain⟨o,v,h0,hy,hK⟩:=h
  have hr':k∈Region.ready .any ops listed:=by simpa using hr
  have ih:=nc hsel l (listed.setIfInBounds k true) (a.put o.dst v) w (inv.set hr' hkn) hS hB' hK
  exact kg h0 (Region.noSelect_spec hsel) (by simp[kF]) hkn (fun listed' a' w' hL=>by rw[hL.1];exact fun j hj=>by cases hj) (f+l.length) listed a w inv (Region.free_spec h0 hf) hr' hy hS ih
def JA (X:Cx) (ops:List Oper) (Q:dl) (Sf:Heap) (fuel:Nat) (listed:Array Bool) (E:Env) (H:Heap):Prop:=∀ a w,HeadInv .any ops.toArray ops.toArray.size listed→eh X.n a E→cm X.w0 X.M w H→
 im Tryz.prog .any ops.toArray (fun w=>cm X.w0 X.M w Sf) ops.toArray.size (sS (jO X Q) ops.toArray) fuel listed a w
def zO (X:Cx) (ops:List Oper) (Q:dl) (Sf:Heap) (fuel:Nat) (listed:Array Bool):dl:=fun e E H=>match e with
 |.normal=>(∃ ix:List Nat,ix.Nodup∧bF H ix=some Sf)∧JA X ops Q Sf fuel listed E H
 |_=>False
def zF (X:Cx) (ops:List Oper) (Q:dl) (Sf:Heap) (fuel:Nat) (listed:Array Bool) (E:Env) (H:Heap):List Nat→Prop
 |[]=>True
 |i::is=>(∃ o,ops[i]?=some o∧JL X ops [o] (zO X ops Q Sf fuel (listed.setIfInBounds i true)) E H)∧zF X ops Q Sf fuel listed E H is
theorem yw {id:Nat} {l:List Oper} {Sf:Heap} (h:JA X l Q Sf l.length (Array.replicate l.length false) E H):J X (.region id l.toArray true) Q E H:=by
 intro a w hA hH
 refine wp_region_any uE ?_
 have inv0:HeadInv .any l.toArray l.toArray.size (Array.replicate l.length false):=
  ⟨by simp,fun j oj _ hl=>(by rw[getD_replicate_false] at hl;cases hl),fun t _ ht=>getD_in (by simpa using ht) (getD_replicate_false _ _)⟩
 have h1:=h a _ inv0 hA hH.drew
 have:=fT (Q':=jO X Q) (g:=0) (fun listed a w hL=>⟨hL.1,hL.2⟩) _ _ _ _ h1
 simpa using this
theorem xB {ops:List Oper} {Sf:Heap} {listed:Array Bool} (hr:Region.ready .any ops.toArray listed=[]) (h:Q .normal E H):JA X ops Q Sf 0 listed E H:=fun _ _ _ hA hH=>⟨hr,E,H,hA,hH,h⟩
theorem jw {ops:List Oper} {Sf:Heap} {listed:Array Bool} {fuel:Nat} (i:Nat) (is:List Nat) (hr:Region.ready .any ops.toArray listed=i::is) (hlt:(i::is).all (fun k=>decide (k<ops.length))=true) (h:zF X ops Q Sf fuel listed E H (i::is)):JA X ops Q Sf (fuel+1) listed E H:=by
 intro a w inv hA hH
 refine⟨fun h0=>(by rw[hr] at h0;cases h0),?_⟩
 have key:∀ l:List Nat,(∀ j∈l,j∈Region.ready .any ops.toArray listed∧j<ops.toArray.size)→zF X ops Q Sf fuel listed E H l→∀ j∈l,j<ops.toArray.size∧wpOp Tryz.prog ops.toArray j7 j (fun a' w'=>cm X.w0 X.M w' Sf∧im Tryz.prog .any ops.toArray (fun w=>cm X.w0 X.M w Sf) ops.toArray.size (sS (jO X Q) ops.toArray) fuel (listed.setIfInBounds j true) a' w') a w:=by
  intro l
  induction l with
  |nil=>intro _ _ j hj;cases hj
  |cons k l ih=>
   rintro hl ⟨⟨o,ho,hk⟩,hrest⟩ j hj
   rcases List.mem_cons.1 hj with rfl|hj
   ·obtain⟨hjr,hjn⟩:=hl j (by simp)
    refine⟨hjn,?_⟩
    have h1:=hk a w hA hH
    refine kf ho h1 ?_ ?_
    ·rintro a' w' ⟨E',H',hA',hH',⟨ix,hix,hp⟩,hq⟩
     exact⟨hH'.picks ix hix hp,hq a' w' (inv.set hjr hjn) hA' hH'⟩
    ·rintro e a' w' hne ⟨E',H',hA',hH',hq⟩
     cases e with
     |normal=>exact absurd rfl hne
     |_=>exact hq
   ·exact ih (fun i hi=>hl i (by simp[hi])) hrest j hj
 rw[hr] at key ⊢
 refine key (i::is) (fun j hj=>⟨hj,?_⟩) h
 have:=(List.all_eq_true.1 hlt) j hj
 simpa using this
theorem yr {ops:List Oper} {Sf:Heap} {listed:Array Bool} {fuel:Nat} (order:List Nat) (hB:(Region.noSelect ops.toArray&&lG ops.toArray order listed)=true) (ix:List Nat) (hi:ix.Nodup) (hS:bF H ix=some Sf)
 (h:JW X ops (order.map fun k=>(k,true)) Sf (fun E' H'=>JA X ops Q Sf fuel (oU order listed) E' H') E H):JA X ops Q Sf (fuel+order.length) listed E H:=by
 intro a w inv hA hH
 simp only[Bool.and_eq_true] at hB
 refine nc hB.1 order listed a w inv (hH.picks ix hi hS) hB.2 ?_
 have h1:=h a w hA hH
 have hinv:∀ (l:List Nat) (listed:Array Bool),HeadInv .any ops.toArray ops.toArray.size listed→lG ops.toArray l listed=true→HeadInv .any ops.toArray ops.toArray.size (oU l listed):=by
  intro l
  induction l with
  |nil=>exact fun _ h _=>h
  |cons k l ih=>
   intro listed hv hb
   simp only[lG,Bool.and_eq_true,decide_eq_true_eq] at hb
   obtain⟨⟨⟨hkn,hr⟩,_⟩,hb'⟩:=hb
   exact ih _ (hv.set (by simpa using hr) hkn) hb'
 have hv:=hinv order listed inv hB.2
 have mono:∀ (Q1 Q2:Act→World→Prop),(∀ a w,Q1 a w→Q2 a w)→∀ (l:List Nat) a w,pB Tryz.prog ops.toArray (fun w=>cm X.w0 X.M w Sf) Q1 (l.map fun k=>(k,true)) a w→pB Tryz.prog ops.toArray (fun w=>cm X.w0 X.M w Sf) Q2 (l.map fun k=>(k,true)) a w:=by
  intro Q1 Q2 hq l
  induction l with
  |nil=>exact fun a w h=>hq a w h
  |cons k l ih=>rintro a w ⟨o,v,g1,g2,g3⟩;exact⟨o,v,g1,g2,ih _ _ g3⟩
 refine mono _ _ ?_ order a w h1
 rintro a' w' ⟨E',H',hA',hH',hq⟩
 exact hq a' w' hv hA' hH'
theorem wT {ops:List Oper} {Sf:Heap} {listed:Array Bool} {fuel:Nat} (t:Nat) {v v':Value} (hv:gI E t=some v) (e:v=v') (h:JA X ops Q Sf fuel listed ((t,v')::E) H):JA X ops Q Sf fuel listed E H:=fun a w inv hA hH=>h a w inv (hA.set hv e) hH
theorem rX {σ:Type} {x y:Code} (F:σ→Env) (K:σ→Heap) (h1:J X x (qw (fun E' H'=>∃ s,kS E' (F s)∧aK X H' (K s)) Q) E H) (h2:∀ s,J X y Q (F s) (K s)):J X (.seq x y) Q E H:=by
 refine ad (vm h1 ?_)
 intro e E' H' hq
 cases e with
 |normal=>obtain⟨s,h3,h4⟩:=hq;exact fun a w hA hH=>h2 s a w (hA.ents _ h3) (h4 w hH)
 |_=>exact hq
end Go.Proofs.YtpbmihpjgjbndaaGreatDoor
/- Layer 1: what Add, Sub and Mul answer, for all numbers of 64 bits. -/
set_option linter.unusedVariables false
set_option linter.unusedSimpArgs false
namespace Go.Proofs.YtpbmihpjgjbndaaGreatDoor
open Go.RowKit
def bN (n:Int):Prop:=-9223372036854775808≤n∧n≤9223372036854775807
instance (n:Int):Decidable (bN n):=inferInstanceAs (Decidable (_∧_))
def jH (n:Int):Int×Int:=if bN n then (n,0) else (0,3)
def sJ (r:Int×Int):Value:=.tuple #[.int .i64 r.1,.int .i64 r.2]
theorem yy {a b:Int} {r:Int×Int} (h:(a,b)=r):Ending.returned (.tuple #[.int .i64 a,.int .i64 b])=.returned (sJ r):=by
 subst h;rfl
theorem ua {n m:Int} (h:bN n) (e:m=n):(m,0)=jH n:=by
 unfold jH;rw[if_pos h,e]
theorem wP {n:Int} (h:¬ bN n):((0:Int),(3:Int))=jH n:=by
 unfold jH;rw[if_neg h]
set_option maxHeartbeats 400000 in
theorem xc (a b:Int) (w:World) (ha:bN a) (hb:bN b):
 Calls Tryz.prog 77 #[.int .i64 a,.int .i64 b] w fun e w'=>e=.returned (sJ (jH (a+b)))∧w'=w:=by
 cases h1:decide (a<wrap64 (a+b))<;>cases h2:decide (0<b)<;>cases h3:(b !=0)<;>
  (go_enter Tryz.func77,Tryz.ntmps77
   go_wp2
   go_ret2
   refine⟨yy ?_,rfl⟩
   simp only[decide_eq_true_eq,decide_eq_false_iff_not,bne_iff_ne,bne_eq_false_iff_eq,ne_eq] at h1 h2 h3
   unfold wrap64 at*
   unfold bN at ha hb
   first
    |exact ua (by unfold bN;omega) (by omega)
    |exact wP (by unfold bN;omega))
end Go.Proofs.YtpbmihpjgjbndaaGreatDoor
/- Layer 1, its sums, differences and products, in the engine's words. -/
set_option linter.unusedVariables false
set_option linter.unusedSimpArgs false
namespace Go.Proofs.YtpbmihpjgjbndaaGreatDoor
open Go.RowKit
theorem vX {f:FuncId} {args:List Value} {v:Value} (h:∀ w,Calls Tryz.prog f args.toArray w fun e w'=>e=.returned v∧w'=w):Fn f args [] [] fun u H'=>u=v∧H'=[]:=
 fun w hw=>(h w).mono fun e w' ⟨he,hw'⟩=>⟨v,[],he,by rw[hw'];exact hw,rfl,rfl⟩
theorem yX {a b:Int} (ha:bN a) (hb:bN b):Fn 77 [.int .i64 a,.int .i64 b] [] [] fun v H'=>v=sJ (jH (a+b))∧H'=[]:=vX fun w=>xc a b w ha hb
theorem vP {n:Int} (h:bN n):jH n=(n,0):=by unfold jH;rw[if_pos h]
theorem uv {n:Int} (h:¬ bN n):jH n=(0,3):=by unfold jH;rw[if_neg h]
theorem np (a:Int) {m:Int} (hm:0<m):m*a.tdiv m+a.tmod m=a∧(0≤a→0≤a.tmod m∧a.tmod m<m)∧(a≤0→-m<a.tmod m∧a.tmod m≤0):=by
 refine⟨by have:=Int.tmod_add_mul_tdiv a m;omega,fun h=>⟨Int.tmod_nonneg m h,Int.tmod_lt_of_pos a hm⟩,fun h=>?_⟩
 have h1:=Int.neg_tmod (-a) m
 rw[Int.neg_neg] at h1
 have h2:=Int.tmod_nonneg (a:=-a) m (by omega)
 have h3:=Int.tmod_lt_of_pos (-a) hm
 omega
end Go.Proofs.YtpbmihpjgjbndaaGreatDoor
/- The engine, its eighth part: structs that are built, panics, deferred calls that recover. -/
set_option linter.unusedVariables false
set_option linter.unusedSimpArgs false
namespace Go.Proofs.YtpbmihpjgjbndaaGreatDoor
open Go.RowKit
variable {X:Cx} {Q:dl} {E E':Env} {H:Heap}
/-! ### Structs -/
def kX (fs:List (Nat×Nat×Nat)) (cs:List Value):List (Nat×Value)→Option (List Value)
 |[]=>some cs
 |(i,v)::l=>match fs[i]? with
  |some (off,sz,_)=>match Nat.beq v.cells.toList.length sz with
   |true=>match Nat.ble (off+v.cells.toList.length) cs.length with
    |true=>kX fs (wr cs off v.cells.toList) l
    |false=>none
   |false=>none
  |none=>none
theorem sA (off:Nat):∀ (l:List Value) (k:Nat) (cs:List Value),(l.zipIdx k).foldl (fun (cs:Array Value) (p:Value×Nat)=>cs.setIfInBounds (off+p.2) p.1) cs.toArray=(wr cs (off+k) l).toArray
 |[],k,cs=>rfl
 |v::l,k,cs=>by
  simp only[List.zipIdx_cons,List.foldl_cons]
  have:cs.toArray.setIfInBounds (off+k) v=(cs.set (off+k) v).toArray:=by simp
  rw[this,sA off l (k+1)]
  rfl
theorem jN {fs:List (Nat×Nat×Nat)} {pl:Nat→Option (Nat×Nat)} (hpl:∀ i off sz ag,fs[i]?=some (off,sz,ag)→pl i=some (off,sz)):∀ (ps:List (Nat×Value)) (cs cs':List Value),kX fs cs ps=some cs'→
 Instr.fill pl cs.toArray ps=some cs'.toArray
 |[],cs,cs',h=>by simp only[kX,Option.some.injEq] at h;subst h;rfl
 |(i,v)::l,cs,cs',h=>by
  unfold kX at h
  split at h
  ·rename_i off sz ag hi
   split at h
   ·rename_i h1
    split at h
    ·rename_i h2
     unfold Instr.fill
     rw[hpl i off sz ag hi]
     have h1':=Nat.eq_of_beq_eq_true h1
     have h2':=Nat.le_of_ble_eq_true h2
     simp only[]
     rw[if_neg (by simp only[Array.length_toList] at h1' h2';simp[h1'];omega)]
     have e:v.cells.zipIdx.foldl (fun (cs:Array Value) (p:Value×Nat)=>cs.setIfInBounds (off+p.2) p.1) cs.toArray=(wr cs off v.cells.toList).toArray:=by
      have:=sA off v.cells.toList 0 cs
      rw[← Array.foldl_toList]
      simpa using this
     have e2:(v.cells.zipIdx.foldl (fun cs (x:Value×Nat)=>match x with|(c,j)=>cs.setIfInBounds (off+j) c) cs.toArray)=(wr cs off v.cells.toList).toArray:=e
     rw[e2]
     exact jN hpl l _ _ h
    ·cases h
   ·cases h
  ·cases h
def xJ (f:Field):Sem (Nat×Nat):=do pure (f.offset,← sizeOf f.type)
theorem vD {f:Field} {i:TypeInfo} (h:Tryz.prog.info? f.type=some i) (w:World):(xJ f).run Tryz.prog w=.ok (f.offset,Tryz.prog.cellsOf f.type) w:=by
 simp[xJ,sizeOf,typeInfo,h,Program.cellsOf]
theorem mA (w:World):∀ (F:List Field),(∀ f∈F,∃ i,Tryz.prog.info? f.type=some i)→
 (F.mapM (m:=Sem) xJ).run Tryz.prog w=.ok (F.map fun f=>(f.offset,Tryz.prog.cellsOf f.type)) w
 |[],_=>by simp
 |f::F,h=>by
  obtain⟨i,hi⟩:=h f (by simp)
  have ih:=mA w F (fun g hg=>h g (by simp[hg]))
  rw[List.mapM_cons]
  simp only[Sem.run_bind,vD hi,Result.andThen_ok,ih]
  rfl
theorem cj {o:Oper} {t s by_:Nat} {fs:List (Nat×Nat×Nat)} {z:Value} {zs cs:List Value} {ps:Array (Nat×Operand)} {vs:List (Nat×Value)} (ho:o.op=.build t ps) (ht:tab t=some ⟨.struct fs,s,by_,some z⟩) (hz:z.cells=zs.toArray)
 (hfs:(fs.all fun f=>!(Nat.beq f.2.2 2))=true) (hp:lO E ps.toList=some vs) (hb:kX fs zs vs=some cs):gW X o E H (.agg cs.toArray):=by
 intro a w hA hH
 obtain⟨j,hi,hjz,_,_⟩:=fG ht
 obtain⟨F,hF,rfl⟩:=iy ht
 have e1:=hA.valsP _ _ hp
 have e2:(ps.map fun (i,x)=>(i,a.eval x)).toList=vs:=by rw[← e1];simp
 have hinfo:∀ f∈F.toList,∃ i,Tryz.prog.info? f.type=some i:=by
  intro f hf
  have h1:=List.all_eq_true.1 hfs (f.offset,Tryz.prog.cellsOf f.type,jM Tryz.prog f.type) (List.mem_map.2 ⟨f,hf,rfl⟩)
  simp only[Bool.not_eq_true'] at h1
  unfold jM at h1
  cases hu:Tryz.prog.info? f.type with
  |some i=>exact⟨i,rfl⟩
  |none=>simp[Program.underlying,hu] at h1
 have hm:(F.mapM (m:=Sem) xJ).run Tryz.prog w=.ok (F.toList.map fun f=>(f.offset,Tryz.prog.cellsOf f.type)).toArray w:=by
  rw[Array.mapM_eq_mapM_toList]
  simp only[map_eq_pure_bind,Sem.run_bind,mA w F.toList hinfo,Result.andThen_ok]
  rfl
 have hfill:=jN (pl:=fun i=>((F.toList.map fun f=>(f.offset,Tryz.prog.cellsOf f.type)).toArray)[i]?) (fun i off sz ag h=>by
  simp only[List.getElem?_map,Option.map_eq_some_iff,Prod.mk.injEq] at h
  obtain⟨f,hf,h1,h2,_⟩:=h
  simp[hf,h1,h2]) vs zs cs hb
 have hrun:(Instr.build t (ps.map fun (i,x)=>(i,a.eval x))).run Tryz.prog w=.ok (.agg cs.toArray) w:=by
  unfold Instr.build
  rw[e2]
  have hz1:(zeroValue t).run Tryz.prog w=.ok z w:=by simp[zeroValue,typeInfo,hi,hjz]
  simp only[Sem.run_bind,hz1,run_underlying hF,Result.andThen_ok]
  have hm':(F.mapM (m:=Sem) fun f=>do pure (f.offset,← sizeOf f.type)).run Tryz.prog w=.ok (F.toList.map fun f=>(f.offset,Tryz.prog.cellsOf f.type)).toArray w:=hm
  simp only[hm',Result.andThen_ok,hz]
  rw[hfill]
  rfl
 have hrun':(Instr.build t (ps.map fun x=>match x with|(i,x)=>(i,a.eval x))).run Tryz.prog w=.ok (.agg cs.toArray) w:=hrun
 simp[execOp,ho,hrun']
/-! ### Panics -/
def W (X:Cx) (c:Code) (R:Exit→Act→World→Prop) (E:Env) (H:Heap):Prop:=∀ a w,eh X.n a E→cm X.w0 X.M w H→c.wp Tryz.prog R a w
def xb (K:Env→Heap→Prop):dl:=fun e E H=>match e with
 |.normal=>K E H
 |_=>False
theorem sU {x y:Code} {R:Exit→Act→World→Prop} (h:J X x (xb fun E H=>W X y R E H) E H):W X (.seq x y) R E H:=by
 intro a w hA hH
 refine wp_seq (wp_mono (h a w hA hH) ?_)
 rintro e a' w' ⟨E',H',hA',hH',hq⟩
 cases e with
 |normal=>exact hq a' w' hA' hH'
 |_=>exact hq.elim
end Go.Proofs.YtpbmihpjgjbndaaGreatDoor
/- Networks, and what is wrong with them. -/
set_option linter.unusedVariables false
set_option linter.unusedSimpArgs false
namespace Go.Proofs.YtpbmihpjgjbndaaGreatDoor
open Go.RowKit
theorem qo (l:List dK):(arcs l).length=l.length*3:=by
 induction l with
 |nil=>rfl
 |cons a l ih=>
  have e:arcs (a::l)=[.int .i64 a.fr,.int .i64 a.to,.int .i64 a.cap]++arcs l:=by simp[arcs]
  rw[e,List.length_append,ih];simp;omega
theorem wA (l r:List dK):arcs (l++r)=arcs l++arcs r:=by simp[arcs]
def dq (c n:Int):Int:=(if c<0 then-(c+1) else c)%n
theorem dT {c n:Int} (hn:0<n):0≤dq c n∧dq c n<n:=⟨Int.emod_nonneg _ (by omega),Int.emod_lt_of_pos _ hn⟩
structure a8 where
 nodes:Int
 src:Int
 snk:Int
 arcs:List dK
structure a8.Right (N:a8):Prop where
 nodes:2≤N.nodes∧N.nodes≤500
 src:1≤N.src∧N.src≤N.nodes
 snk:1≤N.snk∧N.snk≤N.nodes
 diff:N.src≠N.snk
 len:N.arcs.length≤2000
 arc:∀ a∈N.arcs,(1≤a.fr∧a.fr≤N.nodes)∧(1≤a.to∧a.to≤N.nodes)∧0≤a.cap
 sum:(N.arcs.map (·.cap)).sum≤4611686018427387903
def bu (N:a8) (A:Option Addr) (c:Nat):Value:=.agg #[.int .i64 N.nodes,.int .i64 N.src,.int .i64 N.snk,.slice A N.arcs.length c]
def fV (N:a8) (v:Int):Prop:=1≤v∧v≤N.nodes
open Classical in
noncomputable def iD (N:a8):Int→List dK→Int
 |_,[]=>0
 |s,a::l=>if ¬ (fV N a.fr∧fV N a.to) then 4 else if a.cap<0 then 3 else if ¬ bN (s+a.cap)∨4611686018427387903<s+a.cap then 7 else iD N (s+a.cap) l
open Classical in
noncomputable def fU (N:a8):Int:=if N.nodes<2∨500<N.nodes then 3 else if ¬ (fV N N.src∧fV N N.snk) then 4 else if N.src=N.snk then 5 else if 2000<N.arcs.length then 6 else iD N 0 N.arcs
theorem kl (N:a8):∀ (l:List dK) (s:Int),0≤s→(∀ a∈l,(1≤a.fr∧a.fr≤N.nodes)∧(1≤a.to∧a.to≤N.nodes)∧0≤a.cap)→s+(l.map (·.cap)).sum≤4611686018427387903→iD N s l=0
 |[],_,_,_,_=>rfl
 |a::l,s,h0,h,hs=>by
  have h1:=h a (by simp)
  have hp:0≤(l.map (·.cap)).sum:=by
   have:∀ (l:List dK),(∀ a∈l,0≤a.cap)→0≤(l.map (·.cap)).sum:=by
    intro l
    induction l with
    |nil=>intro _;simp
    |cons x l ih=>intro h;have:=ih fun a ha=>h a (by simp[ha]);have:=h x (by simp);simp only[List.map_cons,List.sum_cons];omega
   exact this l fun a ha=>(h a (by simp[ha])).2.2
  simp only[List.map_cons,List.sum_cons] at hs
  unfold iD
  rw[if_neg (by unfold fV;intro hc;exact hc ⟨h1.1,h1.2.1⟩),if_neg (by omega),if_neg (by unfold bN;omega)]
  exact kl N l (s+a.cap) (by omega) (fun a ha=>h a (by simp[ha])) (by omega)
theorem a8.Right.check {N:a8} (h:N.Right):fU N=0:=by
 unfold fU
 have h1:=h.nodes
 rw[if_neg (by omega),if_neg (by intro hc;exact hc ⟨h.src,h.snk⟩),if_neg h.diff,if_neg (by have:=h.len;omega)]
 exact kl N N.arcs 0 (by omega) h.arc (by have:=h.sum;omega)
def bG (N:a8) (A:Option Addr) (c:Nat):List Value:=[.int .i64 N.nodes,.int .i64 N.src,.int .i64 N.snk,.slice A N.arcs.length c]
theorem kQ (N:a8) (A:Option Addr) (c p:Nat) (v:Int):Fn 76 [.int .i64 v,.pointer (some ⟨p,0,none⟩)] [] [.seg p 0 (bG N A c)] fun u H'=>u=.bool (dI (fV N v))∧H'=[]:=by
 refine aS Tryz.func76 rfl rfl fun w0=>?_
 refine ad (aa (ae [] rfl ?_))
 refine ad (aa (ah [] rfl ?_))
 by_cases h:1≤v
 ·refine aw 6 (v':=.bool true) rfl (congrArg Value.bool (az h)) ?_
  refine ah [2] rfl ?_
  refine ab [2] (bz 0 (i:=0) rfl rfl rfl rfl rfl) rfl ?_
  refine ae [2] rfl ?_
  refine aE [] (by decide) rfl ?_
  exact aB ⟨_,rfl,congrArg Value.bool (d8 (by unfold fV;omega)),rfl⟩
 ·refine aw 6 (v':=.bool false) rfl (congrArg Value.bool (aA h)) ?_
  refine ae [2] rfl ?_
  refine aE [] (by decide) rfl ?_
  exact aB ⟨_,rfl,congrArg Value.bool (aA (by unfold fV;omega)).symm,rfl⟩
end Go.Proofs.YtpbmihpjgjbndaaGreatDoor
