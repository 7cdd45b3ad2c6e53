import Derived.Test.YtmcnpaelaieniaaGreatDoorProg
import Derived.Below
import Derived.Scope
import Derived.Deep.QuietTactic
import Derived.Deep.LoopGhost
import Derived.StillTailTactics
import Derived.Laws.MakeOwn
import Derived.Laws.OwnMore
import Derived.Test.YtmcnpaelaieniaaGreatDoorMac
import Derived.Deep.AppendLies
/- A part of the proof. -/
set_option linter.unusedVariables false
set_option linter.unusedSimpArgs false
namespace Go.Proofs.YtmcnpaelaieniaaGreatDoor
open Go.RowKit
abbrev Env:=List (Nat×Value)
def ii:Env->Nat->Option Value
 |[],_=>none
 |(t,v)::E,u=>bif Nat.beq t u then some v else ii E u
def val(E:Env):Operand->Option Value
 |.tmp t=>ii E t
 |.const v=>some v
 |.func f=>some (.func (.func f) #[] #[])
 |.global g=>some (.pointer (some ⟨g,0,none⟩))
def vals(E:Env):List Operand->Option (LV_)
 |[]=>some []
 |x::xs=>match val E x with
  |some v=>match vals E xs with
   |some vs=>some (v::vs)
   |none=>none
  |none=>none
structure t6 where
 len:Nat
 ds:List Deferred
structure gt (n:t6) (a:Act) (E:Env):Prop where
 size:a.tmps.size=n.len
 defers:a.defers=n.ds
 get:∀ t v,ii E t=some v->a.tmps[t]?=some v
theorem gt.val{n:t6}{a:Act}{E:Env}(h:gt n a E){x:Operand}{v:Value}(b:val E x=some v):a.eval x=v:=by
 cases x with
 |tmp t=>
  have:=h.get t v b;simp[Act.eval,O9,this]
 |const u=>simpa [Act.eval,Proofs.YtmcnpaelaieniaaGreatDoor.val] using b
 |global g=>simpa [Act.eval,Proofs.YtmcnpaelaieniaaGreatDoor.val] using b
 |func f=>simpa [Act.eval,Proofs.YtmcnpaelaieniaaGreatDoor.val] using b
theorem gt.vals{n:t6}{a:Act}{E:Env}(h:gt n a E):∀ (xs:List Operand) (vs:LV_),vals E xs=some vs->xs.map a.eval=vs
 |[],vs,b=>by simp[Proofs.YtmcnpaelaieniaaGreatDoor.vals] at b;simp[b]
 |x::xs,vs,b=>by
  unfold Proofs.YtmcnpaelaieniaaGreatDoor.vals at b;split at b
  ·rename_i v d;split at b
   ·rename_i us c;simp only[Na] at b;subst b;simp[h.val d,h.vals xs us c]
   ·cases b
  ·cases b
theorem gt.put{n:t6}{a:Act}{E:Env}(h:gt n a E){d:Nat}(b:d<n.len)(v:Value):gt n (a.put (some d) v) ((d,v)::E):=by
 refine⟨by simp[Act.put,h.size],h.defers,λ t u hu=>?_⟩;unfold ii at hu;by_cases e:d=t
 ·subst e;simp only[Nat.beq_refl,cond_true] at hu;simp only[Na] at hu;subst hu;simp[Act.put,h.size,b]
 ·have:Nat.beq d t=false:=by
   cases c:Nat.beq d t with
   |false=>rfl
   |true=>exact absurd (Ok c) e
  rw[this] at hu;simp only[cond_false] at hu;have:=h.get t u hu;simp only[Act.put];rw[Array.getElem?_setIfInBounds_ne e];exact this
def nP(E:Env):Env->Prop
 |[]=>True
 |(t,v)::F=>ii E t=some v/\nP E F
theorem gt.ents{n:t6}{a:Act}{E:Env}(h:gt n a E):∀ F,nP E F->gt n a F
 |[],_=>⟨h.size,h.defers,λ t v e=>by simp[ii] at e⟩
 |(t,v)::F,d=>by
  have f:=h.ents F d.2;refine⟨h.size,h.defers,λ u x b=>?_⟩;unfold ii at b
  cases c:Nat.beq t u with
  |true=>
   rw[c] at b;simp only[cond_true,Na] at b;obtain rfl:=Ok c;subst b;exact h.get _ _ d.1
  |false=>
   rw[c] at b;exact f.get u x b
inductive aU where
 |obj (b:Nat) (o:Obj)
 |seg (b off:Nat) (vs:LV_)
 |own (v:Value) (e sz n:Nat) (xs:LV_)
 |tab (b:Nat) (o:Obj)
abbrev Heap:=List aU
@[reducible] def blk (b e:Nat) (cs:LV_):aU:=.obj b (.cells cs.toArray e (0,0))
def aU.holds(w:World):aU->Prop
 |.obj b o=>w.heap[b]?=some o
 |.seg b off vs=>∀ i v,vs[i]?=some v->w.cell? ⟨b,off+i,none⟩=some v
 |.own v e sz n xs=>w.ownsRow 0 e sz v n xs
 |.tab b o=>w.heap[b]?=some o
def aU.mine:aU->Option Nat
 |.obj b _=>some b
 |.seg ..=>none
 |.own v ..=>v.ownBlock
 |.tab ..=>none
def aU.at_:aU->Option Nat
 |.obj b _=>some b
 |.seg b _ vs=>if vs=[] then none else some b
 |.own v ..=>v.ownBlock
 |.tab b _=>some b
def apart(c d:aU):Prop:=(∀ b,c.mine=some b->d.at_≠some b)/\(∀ b,d.mine=some b->c.at_≠some b)
structure dL (w0:World) (M:LN_) (w:World) (H:Heap):Prop where
 os:w.os=w0.os
 tape:w.tape=w0.tape
 output:w.output=w0.output
 size:w0.heap.size<=w.heap.size
 keep:∀ k,k<w0.heap.size->k∉M->w.heap[k]?=w0.heap[k]?
 holds:∀ c∈H,c.holds w
 own:∀ c∈H,∀ b,c.mine=some b->w0.heap.size<=b\/b∈M
 dis:H.Pairwise apart
theorem qj{c d:aU}(h:apart c d):apart d c:=⟨h.2,h.1⟩
theorem dL.drew{w0:World}{M:LN_}{w:World}{H:Heap}(h:dL w0 M w H):dL w0 M { w with drawn:=w.drawn+1 } H:=
 ⟨h.os,h.tape,h.output,h.size,h.keep,λ c a=>by have:=h.holds c a;cases c<;>exact this,h.own,h.dis⟩
theorem aU.at_lt{w:World}{c:aU}(h:c.holds w){b:Nat}(a:c.at_=some b):b<w.heap.size:=by
 cases c with
 |obj f o=>simp[aU.at_] at a;subst a;exact (OL.1 h).1
 |seg f off vs=>
  simp only[aU.at_] at a;split at a
  ·cases a
  ·rename_i d;simp only[Na] at a;subst a
   cases vs with
   |nil=>exact absurd rfl d
   |cons v vs=>
    have:=h 0 v rfl;exact World.block_lt_of_cell? w _ this
 |own v e sz n xs=>exact (World.ownsRow.lt h b a).2
 |tab f o=>simp[aU.at_] at a;subst a;exact (OL.1 h).1
theorem aU.mine_at{c:aU}{b:Nat}(h:c.mine=some b):c.at_=some b:=by
 cases c with
 |obj=>exact h
 |seg=>simp[aU.mine] at h
 |own=>exact h
 |tab=>simp[aU.mine] at h
theorem aU.holds_of{w w':World}{c:aU}(h:c.holds w)(d:∀ b,c.at_=some b->w'.heap[b]?=w.heap[b]?):c.holds w':=by
 cases c with
 |obj b o=>exact (d b rfl).trans h
 |seg b off vs=>
  intro i v j;have f:vs≠[]:=by rintro rfl;simp at j
  have:(aU.seg b off vs).at_=some b:=by simp[aU.at_,f]
  rw[World.cell?_of_block (a:=⟨b,off+i,none⟩) (d b this)];exact h i v j
 |own v e sz n xs=>
  refine⟨h.1,?_⟩
  rcases h.2 with k|⟨g,cap,cur,rfl,l,m,p⟩
  ·exact .inl k
  ·exact .inr ⟨g,cap,cur,rfl,l,(d g rfl).trans m,p⟩
 |tab b o=>exact (d b rfl).trans h
theorem dL.mono{w0:World}{M:LN_}{w:World}{H K:Heap}(h:dL w0 M w H)(b:∀ c∈K,c∈H)(d:K.Pairwise apart):dL w0 M w K:=
 ⟨h.os,h.tape,h.output,h.size,h.keep,λ c a=>h.holds c (b c a),λ c a=>h.own c (b c a),d⟩
def cI(H:Heap):LN_->Option Heap
 |[]=>some []
 |i::l=>match H[i]? with
  |some c=>match cI H l with
   |some K=>some (c::K)
   |none=>none
  |none=>none
theorem gT{H:Heap}:∀ {l:LN_} {K:Heap},cI H l=some K->∀ c∈K,∃ i∈l,H[i]?=some c
 |[],K,h,c,a=>by simp[cI] at h;subst h;cases a
 |i::l,K,h,c,a=>by
  unfold cI at h;split at h
  ·rename_i d f;split at h
   ·rename_i k b;simp only[Na] at h;subst h
    rcases Nl.1 a with rfl|a
    ·exact⟨i,ai,f⟩
    ·obtain⟨j,g,e⟩:=gT b c a;exact⟨j,by simp[g],e⟩
   ·cases h
  ·cases h
theorem fU{H:Heap}(a:H.Pairwise apart){i j:Nat}{c d:aU}(hi:H[i]?=some c)(g:H[j]?=some d)(b:i≠j):apart c d:=by
 rw[N6] at a;obtain⟨e,rfl⟩:=Nb.1 hi;obtain⟨f,rfl⟩:=Nb.1 g
 rcases Nat.lt_or_gt_of_ne b with h|h
 ·exact a i j e f h
 ·exact qj (a j i f e h)
theorem iU{H:Heap}(k:H.Pairwise apart):∀ {l:LN_} {K:Heap},l.Nodup->cI H l=some K->K.Pairwise apart
 |[],K,_,h=>by simp[cI] at h;subst h;exact List.Pairwise.nil
 |i::l,K,b,h=>by
  unfold cI at h;split at h
  ·rename_i c m;split at h
   ·rename_i o a;simp only[Na] at h;subst h;rw[NG] at b;refine List.Pairwise.cons (λ d f=>?_) (iU k b.2 a);obtain⟨j,n,g⟩:=gT a d f;exact fU k m g (λ e=>b.1 (e▸n))
   ·cases h
  ·cases h
theorem dL.picks{w0:World}{M:LN_}{w:World}{H K:Heap}(h:dL w0 M w H)(l:LN_)(hl:l.Nodup)(hp:cI H l=some K):dL w0 M w K:=
 h.mono (λ c a=>by obtain⟨i,_,hi⟩:=gT hp c a;exact M9 hi) (iU h.dis hl hp)
theorem dL.step{w0:World}{M:LN_}{w w':World}{H:Heap}(h:dL w0 M w H)(i:Nat){c d:aU}(hi:H[i]?=some c)
 (E:w'.os=w.os) (t:w'.tape=w.tape) (y:w'.output=w.output) (u:w.heap.size<=w'.heap.size)
 (I:∀ k,k<w.heap.size->c.mine≠some k->w'.heap[k]?=w.heap[k]?) (L:d.holds w') (hm:∀ b,d.at_=some b->c.mine=some b\/w.heap.size<=b):dL w0 M w' (H.set i d):=by
 have z:c∈H:=M9 hi;have F:i<H.length:=(Nb.1 hi).1;have o:∀ j e,H[j]?=some e->j≠i->apart e c:=λ j e f G=>fU h.dis f hi G
 have r:∀ e∈H.set i d,e=d\/∃ j,j≠i/\H[j]?=some e:=by
  intro e he;obtain⟨j,f⟩:=Oo.1 he;by_cases v:i=j
  ·subst v;rw[No F] at f;exact .inl (NM f).symm
  ·rw[Nq v] at f;exact .inr ⟨j,λ x=>v x.symm,f⟩
 have s:∀ e,(∃ j,j≠i/\H[j]?=some e)->apart e d:=by
  rintro e ⟨j,l,f⟩;have A:=o j e f l;have g:=h.holds e (M9 f)
  constructor
  ·intro b m n
   rcases hm b n with a|a
   ·exact A.2 b a (aU.mine_at m)
   ·have:=aU.at_lt g (aU.mine_at m);omega
  ·intro b m n
   rcases hm b (aU.mine_at m) with a|a
   ·exact A.2 b a n
   ·have:=aU.at_lt g n;omega
 refine⟨E.trans h.os,t.trans h.tape,y.trans h.output,Ot h.size u,λ k K B=>?_,λ e he=>?_,λ e he b C=>?_,?_⟩
 ·rw[I k (Pa K h.size) (λ e=>by
   rcases h.own c z k e with a|a
   ·omega
   ·exact B a)]
  exact h.keep k K B
 ·rcases r e he with rfl|⟨j,l,f⟩
  ·exact L
  ·have g:=h.holds e (M9 f);exact aU.holds_of g λ b D=>I b (aU.at_lt g D) (λ x=>(o j e f l).2 b x D)
 ·rcases r e he with rfl|⟨j,l,f⟩
  ·rcases hm b (aU.mine_at C) with a|a
   ·exact h.own c z b a
   ·exact .inl (Ot h.size a)
  ·exact h.own e (M9 f) b C
 ·rw[N6];intro p q hp P N;by_cases a:p=i
  ·subst a;have:q≠p:=aa;simp only[List.getElem_set_self];rw[List.getElem_set_ne aa];exact qj (s _ ⟨q,this,an _⟩)
  ·rw[List.getElem_set_ne aa];by_cases O:q=i
   ·subst O;simp only[List.getElem_set_self];exact s _ ⟨p,a,an _⟩
   ·rw[List.getElem_set_ne aa];exact fU h.dis (an _) (an _) aa
theorem dL.grow{w0:World}{M:LN_}{w w':World}{H:Heap}(h:dL w0 M w H){d:aU}
 (m:w'.os=w.os) (a:w'.tape=w.tape) (i:w'.output=w.output) (c:w.heap.size<=w'.heap.size)
 (p:∀ k,k<w.heap.size->w'.heap[k]?=w.heap[k]?) (r:d.holds w') (hm:∀ b,d.at_=some b->w.heap.size<=b):dL w0 M w' (d::H):=by
 refine⟨m.trans h.os,a.trans h.tape,i.trans h.output,Ot h.size c,λ k q n=>?_,λ e he=>?_,λ e he b j=>?_,?_⟩
 ·rw[p k (Pa q h.size)];exact h.keep k q n
 ·rcases Nl.1 he with rfl|he
  ·exact r
  ·exact aU.holds_of (h.holds e he) λ b o=>p b (aU.at_lt (h.holds e he) o)
 ·rcases Nl.1 he with rfl|he
  ·exact .inl (Ot h.size (hm b (aU.mine_at j)))
  ·exact h.own e he b j
 ·refine List.Pairwise.cons (λ e he=>?_) h.dis;have l:=h.holds e he
  constructor
  ·intro b f g;have s:=hm b (aU.mine_at f);have t:=aU.at_lt l g;omega
  ·intro b f g;have s:=hm b g;have t:=aU.at_lt l (aU.mine_at f);omega
inductive UK where
 |int (k:IntKind)|bool|string|ptr (e:Nat)|slice (e:Nat)|arr (n e:Nat)|struct (fs:List (Nat×Nat×Nat))|map (k e:Nat)|func|iface|other
 deriving Repr,Inhabited
structure TI where
 uk:UK
 size:Nat
 bytes:Nat
 zero:Option Value
def qg(P:Program)(t:TypeId):Nat:=match P.underlying t with|some (.struct _)=>1|some (.array _ _)=>1|some _=>0|none=>2
def qp(P:Program):TypeDesc->UK
 |.int k=>.int k
 |.bool=>.bool
 |.string=>.string
 |.pointer e=>.ptr e
 |.slice e=>.slice e
 |.array n e=>.arr n e
 |.map k e=>.map k e
 |.struct fs=>.struct (fs.toList.map λ f=>(f.offset,P.cellsOf f.type,qg P f.type))
 |.func ..=>.func
 |.interface _=>.iface
 |_=>.other
def Ho(P:Program)(t:TypeId):Option TI:=match P.underlying t with
 |some d=>match P.info? t with
  |some i=>some ⟨qp P d,i.size,i.bytes,match d with|.tuple _=>none|_=>i.zero⟩
  |none=>none
 |none=>none
abbrev aq:Option TI:=some ⟨.func,1,8,some (.nilFunc)⟩
abbrev cU:Option TI:=some ⟨.other,1,0,none⟩
def L6:List (Option TI):=[
 cU,
 aq,
 some ⟨.int .i64,1,8,some (.int .i64 0)⟩,
 some ⟨.int .i64,1,8,some (.int .i64 0)⟩,
 some ⟨.bool,1,1,some (.bool false)⟩,
 some ⟨.int .u8,1,1,some (.int .u8 0)⟩,
 some ⟨.int .u8,1,1,some (.int .u8 0)⟩,
 some ⟨.struct [(0,1,0),(1,1,0),(2,1,0),(3,1,0)],4,24,some (.agg #[.int .i64 0,.int .i64 0,.bool false,.int .u8 0])⟩,
 some ⟨.struct [(0,1,0),(1,1,0),(2,1,0),(3,1,0)],4,24,some (.agg #[.int .i64 0,.int .i64 0,.bool false,.int .u8 0])⟩,
 some ⟨.string,1,16,some (.string ⟨#[]⟩)⟩,
 some ⟨.string,1,16,some (.string ⟨#[]⟩)⟩,
 some ⟨.string,1,16,some (.string ⟨#[]⟩)⟩,
 some ⟨.int .u64,1,8,some (.int .u64 0)⟩,
 some ⟨.struct [(0,1,0),(1,1,0)],2,24,some (.agg #[.string ⟨#[]⟩,.int .u64 0])⟩,
 some ⟨.struct [(0,1,0),(1,1,0)],2,24,some (.agg #[.string ⟨#[]⟩,.int .u64 0])⟩,
 some ⟨.ptr 282,1,8,some (.pointer none)⟩,
 some ⟨.ptr 285,1,8,some (.pointer none)⟩,
 some ⟨.ptr 293,1,8,some (.pointer none)⟩,
 some ⟨.struct [(0,1,0)],1,8,some (.agg #[.pointer none])⟩,
 some ⟨.struct [(0,1,0)],1,8,some (.agg #[.pointer none])⟩,
 some ⟨.iface,1,16,some (.nilIface)⟩,
 some ⟨.int .i32,1,4,some (.int .i32 0)⟩,
 some ⟨.slice 9,1,24,some (.slice none 0 0)⟩,
 some ⟨.slice 3,1,24,some (.slice none 0 0)⟩,
 aq,
 aq,
 some ⟨.slice 22,1,24,some (.slice none 0 0)⟩,
 aq,
 aq,
 aq,
 some ⟨.slice 83,1,24,some (.slice none 0 0)⟩,
 some ⟨.slice 37,1,24,some (.slice none 0 0)⟩,
 some ⟨.struct [(0,1,0),(1,1,0),(2,1,0),(3,1,0)],4,48,some (.agg #[.int .i64 0,.int .i64 0,.int .i64 0,.slice none 0 0])⟩,
 some ⟨.struct [(0,1,0),(1,1,0),(2,1,0),(3,1,0)],4,48,some (.agg #[.int .i64 0,.int .i64 0,.int .i64 0,.slice none 0 0])⟩,
 aq,
 aq,
 some ⟨.struct [(0,1,0),(1,1,0),(2,1,0)],3,24,some (.agg #[.int .i64 0,.int .i64 0,.int .i64 0])⟩,
 some ⟨.struct [(0,1,0),(1,1,0),(2,1,0)],3,24,some (.agg #[.int .i64 0,.int .i64 0,.int .i64 0])⟩,
 some ⟨.struct [(0,1,0),(1,1,0),(2,1,0),(3,1,0),(4,1,0)],5,40,some (.agg #[.int .i64 0,.int .i64 0,.int .i64 0,.int .i64 0,.int .i64 0])⟩,
 some ⟨.struct [(0,1,0),(1,1,0),(2,1,0),(3,1,0),(4,1,0)],5,40,some (.agg #[.int .i64 0,.int .i64 0,.int .i64 0,.int .i64 0,.int .i64 0])⟩,
 some ⟨.int .i64,1,8,some (.int .i64 0)⟩,
 cU,
 aq,
 cU,
 aq,
 some ⟨.slice 2,1,24,some (.slice none 0 0)⟩,
 some ⟨.struct [(0,1,0),(1,1,0),(2,1,0),(3,1,0)],4,48,some (.agg #[.slice none 0 0,.int .i64 0,.int .i64 0,.int .i64 0])⟩,
 some ⟨.struct [(0,1,0),(1,1,0),(2,1,0),(3,1,0)],4,48,some (.agg #[.slice none 0 0,.int .i64 0,.int .i64 0,.int .i64 0])⟩,
 cU,
 aq,
 aq,
 aq,
 aq,
 cU,
 aq,
 some ⟨.ptr 97,1,8,some (.pointer none)⟩,
 aq,
 cU,
 aq,
 aq,
 some ⟨.slice 103,1,24,some (.slice none 0 0)⟩,
 cU,
 aq,
 cU,
 aq,
 aq,
 aq,
 aq,
 cU,
 aq,
 aq,
 cU,
 aq,
 aq,
 aq,
 aq,
 cU,
 aq,
 some ⟨.ptr 80,1,8,some (.pointer none)⟩,
 some ⟨.struct [(0,1,0),(1,1,0)],2,24,some (.agg #[.pointer none,.string ⟨#[]⟩])⟩,
 some ⟨.struct [(0,1,0),(1,1,0)],2,24,some (.agg #[.pointer none,.string ⟨#[]⟩])⟩,
 aq,
 some ⟨.struct [(0,1,0),(1,1,0),(2,1,0)],3,24,some (.agg #[.int .i64 0,.int .i64 0,.int .i64 0])⟩,
 some ⟨.struct [(0,1,0),(1,1,0),(2,1,0)],3,24,some (.agg #[.int .i64 0,.int .i64 0,.int .i64 0])⟩,
 aq,
 aq,
 aq,
 aq,
 aq,
 some ⟨.ptr 91,1,8,some (.pointer none)⟩,
 some ⟨.struct [(0,4,1),(4,1,0),(5,1,0)],6,64,some (.agg #[.int .i64 0,.int .i64 0,.int .i64 0,.slice none 0 0,.int .i64 0,.int .i64 0])⟩,
 some ⟨.struct [(0,4,1),(4,1,0),(5,1,0)],6,64,some (.agg #[.int .i64 0,.int .i64 0,.int .i64 0,.slice none 0 0,.int .i64 0,.int .i64 0])⟩,
 aq,
 some ⟨.struct [(0,1,0),(1,1,0)],2,32,some (.agg #[.slice none 0 0,.nilFunc])⟩,
 some ⟨.struct [(0,1,0),(1,1,0)],2,32,some (.agg #[.slice none 0 0,.nilFunc])⟩,
 aq,
 some ⟨.struct [(0,4,1),(4,1,0),(5,1,0),(6,1,0),(7,1,0),(8,1,0)],9,104,some (.agg #[.int .i64 0,.int .i64 0,.int .i64 0,.slice none 0 0,.slice none 0 0,.slice none 0 0,.bool false,.bool false,.bool false])⟩,
 some ⟨.struct [(0,4,1),(4,1,0),(5,1,0),(6,1,0),(7,1,0),(8,1,0)],9,104,some (.agg #[.int .i64 0,.int .i64 0,.int .i64 0,.slice none 0 0,.slice none 0 0,.slice none 0 0,.bool false,.bool false,.bool false])⟩,
 aq,
 aq,
 aq,
 aq,
 some ⟨.struct [(0,1,0),(1,1,0),(2,1,0),(3,1,0)],4,32,some (.agg #[.int .i64 0,.int .i64 0,.int .i64 0,.int .i64 0])⟩,
 some ⟨.struct [(0,1,0),(1,1,0),(2,1,0),(3,1,0)],4,32,some (.agg #[.int .i64 0,.int .i64 0,.int .i64 0,.int .i64 0])⟩,
 some ⟨.slice 4,1,24,some (.slice none 0 0)⟩,
 cU,
 aq,
 aq,
 aq,
 aq,
 aq,
 aq,
 aq,
 some ⟨.ptr 116,1,8,some (.pointer none)⟩,
 some ⟨.slice 5,1,24,some (.slice none 0 0)⟩,
 some ⟨.struct [(0,1,0),(1,1,0)],2,32,some (.agg #[.pointer none,.slice none 0 0])⟩,
 some ⟨.struct [(0,1,0),(1,1,0)],2,32,some (.agg #[.pointer none,.slice none 0 0])⟩,
 some ⟨.iface,1,16,some (.nilIface)⟩,
 some ⟨.iface,1,16,some (.nilIface)⟩,
 cU,
 aq,
 aq,
 aq,
 aq,
 aq,
 cU,
 aq,
 aq,
 some ⟨.struct [(0,2,1)],2,32,some (.agg #[.pointer none,.slice none 0 0])⟩,
 some ⟨.struct [(0,2,1)],2,32,some (.agg #[.pointer none,.slice none 0 0])⟩,
 aq,
 aq,
 aq,
 cU,
 aq,
 aq,
 aq,
 aq,
 aq,
 aq,
 aq,
 some ⟨.struct [],0,0,some (.agg #[])⟩,
 some ⟨.struct [],0,0,some (.agg #[])⟩,
 aq,
 some ⟨.iface,1,16,some (.nilIface)⟩,
 some ⟨.iface,1,16,some (.nilIface)⟩,
 aq,
 aq,
 cU,
 aq,
 aq,
 some ⟨.int .u64,1,8,some (.int .u64 0)⟩,
 aq,
 some ⟨.slice 155,1,24,some (.slice none 0 0)⟩,
 aq,
 aq,
 aq,
 aq,
 some ⟨.int .u64,1,8,some (.int .u64 0)⟩,
 aq,
 cU,
 aq,
 some ⟨.slice 23,1,24,some (.slice none 0 0)⟩,
 cU,
 aq,
 aq,
 aq,
 aq,
 some ⟨.ptr 5,1,8,some (.pointer none)⟩,
 aq,
 aq,
 some ⟨.ptr 129,1,8,some (.pointer none)⟩,
 some ⟨.slice 174,1,24,some (.slice none 0 0)⟩,
 some ⟨.struct [(0,1,0),(1,1,0)],2,16,some (.agg #[.int .i64 0,.int .i64 0])⟩,
 some ⟨.struct [(0,1,0),(1,1,0)],2,16,some (.agg #[.int .i64 0,.int .i64 0])⟩,
 aq,
 some ⟨.slice 180,1,24,some (.slice none 0 0)⟩,
 some ⟨.struct [(0,1,0),(1,1,0),(2,1,0)],3,40,some (.agg #[.int .i64 0,.int .i64 0,.slice none 0 0])⟩,
 some ⟨.struct [(0,1,0),(1,1,0),(2,1,0)],3,40,some (.agg #[.int .i64 0,.int .i64 0,.slice none 0 0])⟩,
 some ⟨.struct [(0,1,0),(1,1,0)],2,16,some (.agg #[.int .i64 0,.int .i64 0])⟩,
 some ⟨.struct [(0,1,0),(1,1,0)],2,16,some (.agg #[.int .i64 0,.int .i64 0])⟩,
 some ⟨.struct [(0,1,0),(1,1,0)],2,48,some (.agg #[.slice none 0 0,.slice none 0 0])⟩,
 some ⟨.struct [(0,1,0),(1,1,0)],2,48,some (.agg #[.slice none 0 0,.slice none 0 0])⟩,
 cU,
 aq,
 aq,
 aq,
 aq,
 aq,
 aq,
 some ⟨.struct [],0,0,some (.agg #[])⟩,
 some ⟨.struct [],0,0,some (.agg #[])⟩,
 aq,
 some ⟨.ptr 3,1,8,some (.pointer none)⟩,
 aq,
 aq,
 aq,
 aq,
 aq,
 some ⟨.other,1,8,some (.pointer none)⟩,
 aq,
 aq,
 aq,
 cU,
 aq,
 some ⟨.map 3 4,1,8,some (.map none)⟩,
 aq,
 cU,
 aq,
 aq,
 some ⟨.slice 235,1,24,some (.slice none 0 0)⟩,
 cU,
 aq,
 aq,
 aq,
 cU,
 aq,
 aq,
 aq,
 aq,
 some ⟨.arr 256 4,256,256,some (.agg (Array.replicate 256 (.bool false)))⟩,
 some ⟨.arr 256 4,256,256,some (.agg (Array.replicate 256 (.bool false)))⟩,
 cU,
 aq,
 aq,
 some ⟨.ptr 221,1,8,some (.pointer none)⟩,
 aq,
 aq,
 cU,
 aq,
 aq,
 aq,
 aq,
 aq,
 some ⟨.struct [(0,1,0),(1,1,0),(2,1,0)],3,40,some (.agg #[.int .u8 0,.slice none 0 0,.int .i64 0])⟩,
 some ⟨.struct [(0,1,0),(1,1,0),(2,1,0)],3,40,some (.agg #[.int .u8 0,.slice none 0 0,.int .i64 0])⟩,
 aq,
 some ⟨.arr 24 5,24,24,some (.agg (Array.replicate 24 (.int .u8 0)))⟩,
 aq,
 cU,
 aq,
 aq,
 aq,
 some ⟨.int .i64,1,8,some (.int .i64 0)⟩,
 cU,
 aq,
 some ⟨.ptr 271,1,8,some (.pointer none)⟩,
 aq,
 aq,
 some ⟨.int .u32,1,4,some (.int .u32 0)⟩,
 cU,
 aq,
 aq,
 aq,
 some ⟨.ptr 256,1,8,some (.pointer none)⟩,
 some ⟨.struct [(0,4,1),(4,1,0),(5,1,0),(6,1,0),(7,1,0)],8,112,some (.agg #[.int .i64 0,.int .i64 0,.int .i64 0,.slice none 0 0,.slice none 0 0,.int .i64 0,.slice none 0 0,.int .i64 0])⟩,
 some ⟨.struct [(0,4,1),(4,1,0),(5,1,0),(6,1,0),(7,1,0)],8,112,some (.agg #[.int .i64 0,.int .i64 0,.int .i64 0,.slice none 0 0,.slice none 0 0,.int .i64 0,.slice none 0 0,.int .i64 0])⟩,
 aq,
 aq,
 some ⟨.arr 256 5,256,256,some (.agg (Array.replicate 256 (.int .u8 0)))⟩,
 some ⟨.struct [(0,1,0),(1,1,0)],2,2,some (.agg #[.int .u8 0,.int .u8 0])⟩,
 some ⟨.struct [(0,1,0),(1,1,0)],2,2,some (.agg #[.int .u8 0,.int .u8 0])⟩,
 some ⟨.arr 16 261,32,32,some (.agg (Array.replicate 32 (.int .u8 0)))⟩,
 aq,
 some ⟨.arr 20 151,20,160,some (.agg #[.int .u64 0,.int .u64 0,.int .u64 0,.int .u64 0,.int .u64 0,.int .u64 0,.int .u64 0,.int .u64 0,.int .u64 0,.int .u64 0,.int .u64 0,.int .u64 0,.int .u64 0,.int .u64 0,.int .u64 0,.int .u64 0,.int .u64 0,.int .u64 0,.int .u64 0,.int .u64 0])⟩,
 some ⟨.arr 65 5,65,65,some (.agg (Array.replicate 65 (.int .u8 0)))⟩,
 aq,
 aq,
 aq,
 aq,
 some ⟨.struct [(0,1,0),(1,1,0),(2,1,0)],3,48,some (.agg #[.string ⟨#[]⟩,.string ⟨#[]⟩,.nilIface])⟩,
 some ⟨.struct [(0,1,0),(1,1,0),(2,1,0)],3,48,some (.agg #[.string ⟨#[]⟩,.string ⟨#[]⟩,.nilIface])⟩,
 aq,
 aq,
 aq,
 some ⟨.ptr 277,1,8,some (.pointer none)⟩,
 some ⟨.struct [(0,1,0)],1,16,some (.agg #[.string ⟨#[]⟩])⟩,
 some ⟨.struct [(0,1,0)],1,16,some (.agg #[.string ⟨#[]⟩])⟩,
 aq,
 some ⟨.arr 32 5,32,32,some (.agg (Array.replicate 32 (.int .u8 0)))⟩,
 some ⟨.arr 64 5,64,64,some (.agg (Array.replicate 64 (.int .u8 0)))⟩,
 some ⟨.struct [(0,1,0),(1,1,0),(2,1,0),(3,1,0)],4,40,some (.agg #[.pointer none,.pointer none,.pointer none,.string ⟨#[]⟩])⟩,
 some ⟨.struct [(0,1,0),(1,1,0),(2,1,0),(3,1,0)],4,40,some (.agg #[.pointer none,.pointer none,.pointer none,.string ⟨#[]⟩])⟩,
 some ⟨.arr 0 16,0,0,some (.agg #[])⟩,
 some ⟨.struct [(0,0,1)],0,0,some (.agg #[])⟩,
 some ⟨.struct [(0,0,1)],0,0,some (.agg #[])⟩,
 aq,
 some ⟨.int .u8,1,1,some (.int .u8 0)⟩,
 some ⟨.int .u8,1,1,some (.int .u8 0)⟩,
 aq,
 some ⟨.int .i32,1,4,some (.int .i32 0)⟩,
 some ⟨.int .i32,1,4,some (.int .i32 0)⟩,
 some ⟨.struct [(0,1,0),(1,1,0),(2,1,0),(3,1,0),(4,1,0),(5,1,0),(6,1,0),(7,1,0),(8,1,0),(9,1,0),(10,1,0)],11,48,some (.agg #[.int .u64 0,.int .u64 0,.int .u32 0,.int .u8 0,.int .u8 0,.int .u8 0,.int .u8 0,.nilFunc,.pointer none,.int .i32 0,.int .i32 0])⟩,
 some ⟨.struct [(0,1,0),(1,1,0),(2,1,0),(3,1,0),(4,1,0),(5,1,0),(6,1,0),(7,1,0),(8,1,0),(9,1,0),(10,1,0)],11,48,some (.agg #[.int .u64 0,.int .u64 0,.int .u32 0,.int .u8 0,.int .u8 0,.int .u8 0,.int .u8 0,.nilFunc,.pointer none,.int .i32 0,.int .i32 0])⟩,
 some ⟨.slice 300,1,24,some (.slice none 0 0)⟩,
 cU,
 aq,
 some ⟨.ptr 303,1,8,some (.pointer none)⟩,
 aq,
 some ⟨.struct [(0,1,0),(1,1,0)],2,32,some (.agg #[.slice none 0 0,.int .i64 0])⟩,
 some ⟨.struct [(0,1,0),(1,1,0)],2,32,some (.agg #[.slice none 0 0,.int .i64 0])⟩,
 aq,
 some ⟨.struct [(0,4,1),(4,1,0),(5,1,0),(6,1,0),(7,1,0)],8,128,some (.agg #[.int .i64 0,.int .i64 0,.int .i64 0,.slice none 0 0,.slice none 0 0,.int .i64 0,.slice none 0 0,.slice none 0 0])⟩,
 some ⟨.struct [(0,4,1),(4,1,0),(5,1,0),(6,1,0),(7,1,0)],8,128,some (.agg #[.int .i64 0,.int .i64 0,.int .i64 0,.slice none 0 0,.slice none 0 0,.int .i64 0,.slice none 0 0,.slice none 0 0])⟩,
 cU,
 aq,
 some ⟨.ptr 310,1,8,some (.pointer none)⟩,
 aq,
 some ⟨.ptr 319,1,8,some (.pointer none)⟩,
 some ⟨.struct [(0,4,1),(4,1,0),(5,1,0),(6,1,0),(7,1,0),(8,1,0),(9,1,0),(10,1,0)],11,152,some (.agg #[.int .i64 0,.int .i64 0,.int .i64 0,.slice none 0 0,.slice none 0 0,.int .i64 0,.slice none 0 0,.slice none 0 0,.pointer none,.int .i64 0,.int .i64 0])⟩,
 some ⟨.struct [(0,4,1),(4,1,0),(5,1,0),(6,1,0),(7,1,0),(8,1,0),(9,1,0),(10,1,0)],11,152,some (.agg #[.int .i64 0,.int .i64 0,.int .i64 0,.slice none 0 0,.slice none 0 0,.int .i64 0,.slice none 0 0,.slice none 0 0,.pointer none,.int .i64 0,.int .i64 0])⟩,
 aq,
 cU,
 aq,
 aq,
 some ⟨.ptr 331,1,8,some (.pointer none)⟩,
 some ⟨.struct [(0,1,0),(1,1,0)],2,32,some (.agg #[.pointer none,.slice none 0 0])⟩,
 some ⟨.struct [(0,1,0),(1,1,0)],2,32,some (.agg #[.pointer none,.slice none 0 0])⟩,
 some ⟨.struct [(0,2,1),(2,1,0)],3,40,some (.agg #[.pointer none,.slice none 0 0,.int .i64 0])⟩,
 some ⟨.struct [(0,2,1),(2,1,0)],3,40,some (.agg #[.pointer none,.slice none 0 0,.int .i64 0])⟩,
 cU,
 aq,
 aq,
 cU,
 aq,
 aq,
 aq,
 aq,
 aq,
 some ⟨.slice 334,1,24,some (.slice none 0 0)⟩,
 some ⟨.struct [(0,1,0),(1,1,0)],2,32,some (.agg #[.slice none 0 0,.int .i64 0])⟩,
 some ⟨.struct [(0,1,0),(1,1,0)],2,32,some (.agg #[.slice none 0 0,.int .i64 0])⟩,
 some ⟨.arr 2 3,2,16,some (.agg #[.int .i64 0,.int .i64 0])⟩,
 some ⟨.struct [(0,1,0),(1,2,1),(3,1,0),(4,1,0),(5,1,0),(6,1,0),(7,1,0),(8,1,0)],9,72,some (.agg #[.int .i64 0,.int .i64 0,.int .i64 0,.int .i64 0,.int .i64 0,.int .i64 0,.int .i64 0,.int .i64 0,.bool false])⟩,
 some ⟨.struct [(0,1,0),(1,2,1),(3,1,0),(4,1,0),(5,1,0),(6,1,0),(7,1,0),(8,1,0)],9,72,some (.agg #[.int .i64 0,.int .i64 0,.int .i64 0,.int .i64 0,.int .i64 0,.int .i64 0,.int .i64 0,.int .i64 0,.bool false])⟩,
 aq,
 cU,
 aq,
 some ⟨.ptr 317,1,8,some (.pointer none)⟩,
 aq,
 aq,
 aq,
 aq,
 aq,
 aq,
 some ⟨.ptr 334,1,8,some (.pointer none)⟩]
def tab(t:Nat):Option TI:=match L6[t]? with
 |some i=>i
 |none=>none
theorem Jh:(List.range 346).map (λ t=>L6[t]?)=(List.range 346).map (λ t=>some (Ho Tryz.prog t)):=by kernel_rfl
set_option maxRecDepth 100000 in
theorem Lg{t:Nat}{i:TI}(h:tab t=some i):Ho Tryz.prog t=some i:=by
 unfold tab at h;split at h
 ·rename_i j a;have hl:t<346:=(Nb.1 a).1;have:=List.map_eq_map_iff.1 Jh t (N4.2 hl);rw[a] at this;rw[<- NM this,h]
 ·cases h
theorem eR{t:Nat}{i:TI}(h:tab t=some i):∃ d j,Tryz.prog.underlying t=some d/\Tryz.prog.info? t=some j/\qp Tryz.prog d=i.uk/\j.size=i.size/\j.bytes=i.bytes/\
 (∀ z,i.zero=some z->j.zero=some z):=by
 have:=Lg h;unfold Ho at this;split at this
 ·rename_i d b;split at this
  ·rename_i j c;simp only[Na] at this;subst this;refine⟨d,j,b,c,rfl,rfl,rfl,λ z a=>?_⟩;simp only at a;split at a
   ·cases a
   ·exact a
  ·cases this
 ·cases this
noncomputable def dU(p:Prop):Bool:=@decide p (Classical.propDecidable p)
theorem Hq(p:Prop)[h:Decidable p]:dU p=decide p:=by unfold dU;cases h<;>simp[*]
theorem aV{p:Prop}(h:p):dU p=true:=by unfold dU;exact @OU p (Classical.propDecidable p) h
theorem aZ{p:Prop}(h:¬ p):dU p=false:=by unfold dU;exact @OE p (Classical.propDecidable p) h
theorem Cy{p:Prop}(h:dU p=true):p:=by unfold dU at h;exact @of_decide_eq_true p (Classical.propDecidable p) h
theorem uo{p:Prop}(h:dU p=false):¬ p:=by unfold dU at h;exact @PV p (Classical.propDecidable p) h
theorem eB{p q:Prop}(h:p↔q):dU p=dU q:=by rw[propext h]
noncomputable def LY(op:BinOp)(k:IntKind)(a b:Int):Option Value:=
 match op with
 |.add=>some (.int k (k.wrap (a+b)))
 |.sub=>some (.int k (k.wrap (a-b)))
 |.mul=>some (.int k (k.wrap (a*b)))
 |.eql=>some (.bool (dU (a=b)))
 |.neq=>some (.bool (dU (a≠b)))
 |.lss=>some (.bool (dU (a<b)))
 |.leq=>some (.bool (dU (a<=b)))
 |.gtr=>some (.bool (dU (b<a)))
 |.geq=>some (.bool (dU (b<=a)))
 |.and=>some (.int k (k.wrap (BitVec.ofInt k.bits a&&& BitVec.ofInt k.bits b).toNat))
 |.or=>some (.int k (k.wrap (BitVec.ofInt k.bits a|||BitVec.ofInt k.bits b).toNat))
 |.xor=>some (.int k (k.wrap (BitVec.ofInt k.bits a^^^BitVec.ofInt k.bits b).toNat))
 |_=>none
def BH(op:BinOp)(k:IntKind)(a:Int)(y:Operand):Option Value:=
 match y with
 |.const (.int _ c)=>match c with
  |.ofNat m=>match op with
   |.shl=>some (.int k (k.wrap (a*2^(min m k.bits))))
   |.shr=>some (.int k (a.fdiv (2^(min m k.bits))))
   |.quo=>match m with
    |0=>none
    |_+1=>some (.int k (k.wrap (a.tdiv c)))
   |.rem=>match m with
    |0=>none
    |_+1=>some (.int k (a.tmod c))
   |_=>none
  |.negSucc _=>none
 |_=>none
def Gc(op:BinOp)(p q:Bool):Option Value:=
 match op with
 |.eql=>some (.bool (p==q))
 |.neq=>some (.bool (p !=q))
 |_=>none
def Lj(op:BinOp)(a b:ByteArray):Option Value:=
 match op with
 |.eql=>some (.bool (a.toList==b.toList))
 |.neq=>some (.bool (!(a.toList==b.toList)))
 |_=>none
def MF(t:Nat):Bool:=match tab t with|some ⟨.bool,_,_,_⟩=>true|_=>false
def L2(t:Nat):Bool:=match tab t with|some ⟨.iface,_,_,_⟩=>true|_=>false
def DA(op:BinOp)(b:Bool):Option Value:=
 match op with
 |.eql=>some (.bool b)
 |.neq=>some (.bool (!b))
 |_=>none
noncomputable def s6(E:Env):Op->Option Value
 |.move x=>val E x
 |.assign x=>val E x
 |.pick c a b=>match val E c with
  |some (.bool true)=>val E a
  |some (.bool false)=>val E b
  |_=>none
 |.binOp op t x y _=>match val E x,val E y with
  |some (.int k a),some (.int k' b)=>if k=k' then (match LY op k a b with
   |some v=>some v
   |none=>BH op k a y) else none
  |some (.bool p),some (.bool q)=>match MF t with|true=>Gc op p q|false=>none
  |some (.string p),some (.string q)=>Lj op p q
  |some (.iface _ _),some .nilIface=>match L2 t with|true=>DA op false|false=>none
  |some .nilIface,some .nilIface=>match y with
   |.const _=>match L2 t with|true=>DA op true|false=>none
   |_=>none
  |_,_=>none
 |.unOp op _ x=>match op,val E x with
  |.not,some (.bool b)=>some (.bool (!b))
  |.neg,some (.int k n)=>some (.int k (k.wrap (0-n)))
  |_,_=>none
 |.convert s d x=>match tab s,tab d,val E x with
  |some ⟨.int _,_,_,_⟩,some ⟨.int k,_,_,_⟩,some (.int _ n)=>some (.int k (k.wrap n))
  |_,_,_=>none
 |.fieldAddr t x f=>match tab t,val E x with
  |some ⟨.struct fs,_,_,_⟩,some (.pointer (some ⟨b,o,none⟩))=>match fs[f]? with
   |some (off,_+1,_)=>some (.pointer (some ⟨b,o+off,none⟩))
   |_=>none
  |_,_=>none
 |.field t x f=>match tab t,val E x with
  |some ⟨.struct fs,_,_,_⟩,some (.agg cs)=>match fs[f]? with
   |some (off,_+1,0)=>cs.toList[off]?
   |some (off,sz+1,1)=>some (.agg (cs.extract off (off+(sz+1))))
   |_=>none
  |_,_=>none
 |.extract x i=>match val E x with
  |some (.tuple vs)=>vs.toList[i]?
  |_=>none
 |.nilCheck x=>match val E x with
  |some (.pointer (some p))=>some (.pointer (some p))
  |_=>none
 |.makeFunc fn first cap=>match vals E first.toList,vals E cap.toList with
  |some f,some c=>some (.func fn f.toArray c.toArray)
  |_,_=>none
 |.makeInterface t x=>match tab t,val E x with
  |some ⟨.iface,_,_,_⟩,_=>none
  |some _,some v=>some (.iface t v)
  |_,_=>none
 |.typeAssert x _ t ok=>match tab t,val E x with
  |some ⟨.iface,_,_,_⟩,_=>none
  |some _,some (.iface u v)=>match Nat.beq u t with
   |true=>match ok with
    |true=>some (.tuple #[v,.bool true])
    |false=>some v
   |false=>none
  |_,_=>none
 |.call ⟨.builtin .len,xs,ts⟩=>match xs.toList,ts.toList with
  |[x],[t]=>match tab t,val E x with
   |some ⟨.slice _,_,_,_⟩,some (.slice _ n _)=>some (.int .i64 n)
   |some ⟨.string,_,_,_⟩,some (.string s)=>some (.int .i64 s.size)
   |_,_=>none
  |_,_=>none
 |.call ⟨.builtin .min,xs,_⟩=>match xs.toList with
  |[x,y]=>match val E x,val E y with
   |some (.int k a),some (.int _ b)=>some (.int k (if b<a then b else a))
   |_,_=>none
  |_=>none
 |.call ⟨.builtin .max,xs,_⟩=>match xs.toList with
  |[x,y]=>match val E x,val E y with
   |some (.int k a),some (.int _ b)=>some (.int k (if b>a then b else a))
   |_,_=>none
  |_=>none
 |_=>none
theorem jC(op:BinOp)(t:TypeId)(x y:Operand)(k l:IntKind)(a b:Int)(P:Program)(w:World):
 (eqGuard op t x y (.int k a) (.int l b)).run P w=.ok () w:=by
 cases op<;>simp[eqGuard]
theorem xo(op:BinOp)(t:TypeId)(x y:Operand)(a b:Bool)(P:Program)(w:World):
 (eqGuard op t x y (.bool a) (.bool b)).run P w=.ok () w:=by
 cases op<;>simp[eqGuard]
theorem sQ(op:BinOp)(t:TypeId)(x y:Operand)(a b:ByteArray)(P:Program)(w:World):
 (eqGuard op t x y (.string a) (.string b)).run P w=.ok () w:=by
 cases op<;>simp[eqGuard]
theorem Ln(a b:Int):(a==b)=decide (a=b):=by
 by_cases h:a=b<;>simp[h]
theorem LB(a b:Int):(a !=b)=decide (a≠b):=by
 by_cases h:a=b<;>simp[h]
theorem GU{op:BinOp}{k:IntKind}{a b:Int}{v:Value}(h:LY op k a b=some v)(t:TypeId)(P:Program)(w:World):
 (binOp op t (.int k a) (.int k b)).run P w=.ok v w:=by
 cases op<;>simp only[LY,Na,reduceCtorEq] at h<;>subst h<;>simp[binOp,Op.intArith,Op.intCmp,Op.intBits,Ln,LB,Hq]
theorem A9{op:BinOp}{k:IntKind}{a b:Int}{y:Operand}{v:Value}{E:Env}(h:BH op k a y=some v)(e:val E y=some (.int k b))(t:TypeId)(P:Program)(w:World):
 (binOp op t (.int k a) (.int k b)).run P w=.ok v w:=by
 unfold BH at h;split at h
 ·rename_i f c;simp only[val,Na,Value.int.injEq] at e;obtain⟨rfl,rfl⟩:=e;split at h
  ·rename_i m;have hm:¬ (Int.ofNat m)<0:=Int.not_lt.2 (Int.natCast_nonneg m);split at h
   ·simp only[Na] at h;subst h;simp only[binOp,Op.shift];rw[if_neg hm];rfl
   ·simp only[Na] at h;subst h;simp only[binOp,Op.shift];rw[if_neg hm];rfl
   ·split at h
    ·cases h
    ·rename_i q;simp only[Option.some.injEq] at h;subst h;have d:¬ (Int.ofNat (q+1))=0:=by simp;omega
     simp only[binOp,Op.intDiv,ne_eq,not_true,PH];rw[if_neg d];rfl
   ·split at h
    ·cases h
    ·rename_i q;simp only[Option.some.injEq] at h;subst h;have d:¬ (Int.ofNat (q+1))=0:=by simp;omega
     simp only[binOp,Op.intDiv,ne_eq,not_true,PH];rw[if_neg d];rfl
   ·cases h
  ·cases h
 ·cases h
theorem IX{t:Nat}(h:MF t=true):Tryz.prog.underlying t=some .bool:=by
 unfold MF at h;split at h
 ·rename_i z s b e a;obtain⟨d,j,c,_,hu,_⟩:=eR a;rw[c]
  cases d<;>simp[qp] at hu ⊢
 ·cases h
theorem BO{t:Nat}(hu:Tryz.prog.underlying t=some .bool)(a b:Bool)(w:World):(Op.equal t (.bool a) (.bool b)).run Tryz.prog w=.ok (a==b) w:=by
 have h:∀ d:Nat,(Op.equalIn (d+1) t (.bool a) (.bool b)).run Tryz.prog w=.ok (a==b) w:=λ d=>by
  simp[Op.equalIn,run_underlying hu]
 exact h 9999
theorem Fa{op:BinOp}{a b:Bool}{v:Value}(h:Gc op a b=some v){t:TypeId}(c:MF t=true)(w:World):
 (binOp op t (.bool a) (.bool b)).run Tryz.prog w=.ok v w:=by
 have hu:=BO (IX c) a b w
 cases op<;>simp only[Gc,Na,reduceCtorEq] at h<;>subst h
 ·have:binOp .eql t (.bool a) (.bool b)=(do pure (.bool (<- Op.equal t (.bool a) (.bool b)))):=rfl;rw[this];simp[hu]
 ·have:binOp .neq t (.bool a) (.bool b)=(do pure (.bool (!(<- Op.equal t (.bool a) (.bool b))))):=rfl;rw[this];simp[hu,bne]
theorem Hw{op:BinOp}{a b:ByteArray}{v:Value}(h:Lj op a b=some v)(t:TypeId)(P:Program)(w:World):
 (binOp op t (.string a) (.string b)).run P w=.ok v w:=by
 cases op<;>simp only[Lj,Na,reduceCtorEq] at h<;>subst h<;>simp[binOp,Op.stringOp]
theorem Dg{t:Nat}(h:L2 t=true):∃ ms,Tryz.prog.underlying t=some (.interface ms):=by
 unfold L2 at h;split at h
 ·rename_i z s b e a;obtain⟨d,j,c,_,hu,_⟩:=eR a;rw[c]
  cases d<;>simp[qp] at hu
  exact⟨_,rfl⟩
 ·cases h
theorem EW{op:BinOp}{v u:Value}{d t:Nat}(h:DA op false=some v)(a:L2 t=true)(w:World):(binOp op t (.iface d u) .nilIface).run Tryz.prog w=.ok v w:=by
 obtain⟨ms,hu⟩:=Dg a
 have he:(Op.equal t (.iface d u) .nilIface).run Tryz.prog w=.ok false w:=by
  have h:∀ k:Nat,(Op.equalIn (k+1) t (.iface d u) .nilIface).run Tryz.prog w=.ok false w:=λ k=>by
   simp[Op.equalIn,run_underlying hu]
  exact h 9999
 cases op<;>simp only[DA,Na,reduceCtorEq] at h<;>subst h
 ·have:binOp .eql t (.iface d u) .nilIface=(do pure (.bool (<- Op.equal t (.iface d u) .nilIface))):=rfl;rw[this];simp[he]
 ·have:binOp .neq t (.iface d u) .nilIface=(do pure (.bool (!(<- Op.equal t (.iface d u) .nilIface)))):=rfl;rw[this];simp[he]
theorem EV{op:BinOp}{v:Value}{t:Nat}(h:DA op true=some v)(a:L2 t=true)(w:World):(binOp op t .nilIface .nilIface).run Tryz.prog w=.ok v w:=by
 obtain⟨ms,hu⟩:=Dg a
 have he:(Op.equal t .nilIface .nilIface).run Tryz.prog w=.ok true w:=by
  have h:∀ k:Nat,(Op.equalIn (k+1) t .nilIface .nilIface).run Tryz.prog w=.ok true w:=λ k=>by
   simp[Op.equalIn,run_underlying hu]
  exact h 9999
 cases op<;>simp only[DA,Na,reduceCtorEq] at h<;>subst h
 ·have:binOp .eql t .nilIface .nilIface=(do pure (.bool (<- Op.equal t .nilIface .nilIface))):=rfl;rw[this];simp[he]
 ·have:binOp .neq t .nilIface .nilIface=(do pure (.bool (!(<- Op.equal t .nilIface .nilIface)))):=rfl;rw[this];simp[he]
theorem AF(op:BinOp)(t:TypeId)(x y:Operand)(d:TypeId)(u:Value)(P:Program)(w:World):(eqGuard op t x y (.iface d u) .nilIface).run P w=.ok () w:=by
 cases op<;>simp[eqGuard]
theorem BA(op:BinOp)(t:TypeId)(x:Operand)(c:Value)(P:Program)(w:World):(eqGuard op t x (.const c) .nilIface .nilIface).run P w=.ok () w:=by
 cases op<;>cases x<;>simp[eqGuard]
theorem eW{t e s b:Nat}{z:Option Value}(h:tab t=some ⟨.slice e,s,b,z⟩):Tryz.prog.underlying t=some (.slice e):=by
 obtain⟨d,j,a,_,hu,_⟩:=eR h;rw[a];cases d<;>simp[qp] at hu ⊢;exact hu
theorem Co{t s b:Nat}{k:IntKind}{z:Option Value}(h:tab t=some ⟨.int k,s,b,z⟩):Tryz.prog.underlying t=some (.int k):=by
 obtain⟨d,j,a,_,hu,_⟩:=eR h;rw[a];cases d<;>simp[qp] at hu ⊢;exact hu
theorem kE{t s b:Nat}{z:Option Value}(h:tab t=some ⟨.string,s,b,z⟩):Tryz.prog.underlying t=some .string:=by
 obtain⟨d,j,a,_,hu,_⟩:=eR h;rw[a];cases d<;>simp[qp] at hu ⊢
theorem mt{t s b:Nat}{fs:List (Nat×Nat×Nat)}{z:Option Value}(h:tab t=some ⟨.struct fs,s,b,z⟩):
 ∃ F:Array Field,Tryz.prog.underlying t=some (.struct F)/\fs=F.toList.map λ f=>(f.offset,Tryz.prog.cellsOf f.type,qg Tryz.prog f.type):=by
 obtain⟨d,j,a,_,hu,_⟩:=eR h
 cases d<;>simp[qp] at hu
 rename_i F;exact⟨F,a,hu.symm⟩
theorem sA{t s b f off sz:Nat}{a:Nat}{fs:List (Nat×Nat×Nat)}{z:Option Value}(h:tab t=some ⟨.struct fs,s,b,z⟩)(c:fs[f]?=some (off,sz,a)):
 ∃ (F:Array Field) (g:Field),Tryz.prog.underlying t=some (.struct F)/\F[f]?=some g/\g.offset=off/\Tryz.prog.cellsOf g.type=sz/\qg Tryz.prog g.type=a:=by
 obtain⟨F,d,rfl⟩:=mt h;simp only[Ni,OM,Array.getElem?_toList,N1] at c;obtain⟨g,e,i,j,k⟩:=c;exact⟨F,g,d,e,i,j,k⟩
theorem ug{t:TypeId}(h:qg Tryz.prog t=0)(w:World):(isAgg t).run Tryz.prog w=.ok false w:=by
 unfold qg at h;split at h
 ·cases h
 ·cases h
 ·rename_i d a b c;unfold isAgg;rw[Sem.run_bind,run_underlying c]
  cases d<;>first|rfl|exact absurd rfl (a _)|exact absurd rfl (b _ _)
 ·cases h
theorem sd{t:TypeId}(h:qg Tryz.prog t=1)(w:World):(isAgg t).run Tryz.prog w=.ok true w:=by
 unfold qg at h;split at h
 ·rename_i a;unfold isAgg;rw[Sem.run_bind,run_underlying a];rfl
 ·rename_i a;unfold isAgg;rw[Sem.run_bind,run_underlying a];rfl
 ·cases h
 ·cases h
theorem AG{t sz:Nat}(h:Tryz.prog.cellsOf t=sz+1)(w:World):(sizeOf t).run Tryz.prog w=.ok (sz+1) w:=by
 unfold Program.cellsOf at h
 cases hi:Tryz.prog.info? t with
 |none=>simp[hi] at h
 |some i=>simp[hi] at h;simp[sizeOf,typeInfo,hi,h]
theorem JX{op:Op}{v:Value}{E:Env}(h:s6 E op=some v){a:Act}{n:t6}(l:gt n a E)(dst:Option Tmp)(ty:TypeId)(pos:String)(after:Array Edge)
 (guard:Option (Nat×Bool)) (w:World):(execOp a.eval { dst,op,type:=ty,pos,after,guard }).run Tryz.prog w=.ok (.value v) w:=by
 cases op with
 |move x=>simp only[s6] at h;simp[execOp,l.val h]
 |assign x=>simp only[s6] at h;simp[execOp,l.val h]
 |pick c x y=>
  simp only[s6] at h;split at h
  ·rename_i I;simp[execOp,l.val h,l.val I,asBool]
  ·rename_i I;simp[execOp,l.val h,l.val I,asBool]
  ·cases h
 |binOp op t x y yt=>
  simp only[s6] at h;split at h
  ·rename_i k p Z q e C;split at h
   ·rename_i hk;subst hk;split at h
    ·rename_i u hu;simp only[Na] at h;subst h;simp[execOp,l.val e,l.val C,jC,GU hu]
    ·simp[execOp,l.val e,l.val C,jC,A9 h C]
   ·cases h
  ·rename_i p q e C;split at h
   ·rename_i Q;simp[execOp,l.val e,l.val C,xo,Fa h Q]
   ·cases h
  ·rename_i p q e C;simp[execOp,l.val e,l.val C,sQ,Hw h]
  ·rename_i d u e C;split at h
   ·rename_i B;simp[execOp,l.val e,l.val C,AF,EW h B]
   ·cases h
  ·rename_i e C;split at h
   ·rename_i c;split at h
    ·rename_i B;have R:=l.val C;simp[execOp,l.val e,R,BA,EV h B]
    ·cases h
   ·cases h
  ·cases h
 |unOp op t x=>
  simp only[s6] at h;split at h
  ·rename_i b e;simp only[Na] at h;subst h;simp[execOp,l.val e,Op.unary]
  ·rename_i k m e;simp only[Na] at h;subst h;simp[execOp,l.val e,Op.unary,Op.intArith]
  ·cases h
 |convert s d x=>
  simp only[s6] at h;split at h
  ·rename_i k1 _ _ _ k2 _ _ _ k3 m S K e;simp only[Na] at h;subst h;simp[execOp,l.val e,convert,run_underlying (Co S),run_underlying (Co K),Conv.intToInt]
  ·cases h
 |fieldAddr t x f=>
  simp only[s6] at h;split at h
  ·rename_i fs _ _ _ b o B e;split at h
   ·rename_i off sz _ D;simp only[Na] at h;subst h;obtain⟨F,g,L,M,N,H,_⟩:=sA B D
    have hi:∃ i,Tryz.prog.info? g.type=some i/\i.size=sz+1:=by
     unfold Program.cellsOf at H
     cases hi:Tryz.prog.info? g.type with
     |none=>simp[hi] at H
     |some i=>exact⟨i,rfl,by simpa [hi] using H⟩
    obtain⟨i,hi,S⟩:=hi;subst N
    have:Addr.add ⟨b,o,none⟩ g.offset=⟨b,o+g.offset,none⟩:=by
     unfold Addr.add;split<;>simp_all
    simp[execOp,l.val e,Instr.fieldAt,run_underlying L,M,Instr.sureAddr,fieldPlace,sizeOf,typeInfo,hi,S,this]
   ·cases h
  ·cases h
 |field t x f=>
  simp only[s6] at h;split at h
  ·rename_i fs _ _ _ cs B e;split at h
   ·rename_i off sz _ D;obtain⟨F,g,L,M,N,H,U⟩:=sA B D;subst N;simp[execOp,l.val e,Instr.field,run_underlying L,M,asAgg,part,ug U,Array.getElem?_toList▸h]
   ·rename_i off sz D;obtain⟨F,g,L,M,N,H,U⟩:=sA B D;subst N;simp only[Na] at h;subst h;simp[execOp,l.val e,Instr.field,run_underlying L,M,asAgg,part,sd U,AG H]
   ·cases h
  ·cases h
 |extract x i=>
  simp only[s6] at h;split at h
  ·rename_i vs e;simp[execOp,l.val e,Instr.extract,Array.getElem?_toList▸h]
  ·cases h
 |makeFunc fn first cap=>
  simp only[s6] at h;split at h
  ·rename_i f c D I;simp only[Option.some.injEq] at h;subst h;have G:=l.vals _ _ D;have V:=l.vals _ _ I;have e3:first.map a.eval=f.toArray:=by rw[← G];exact Array.ext' ai
   have e4:cap.map a.eval=c.toArray:=by rw[<- V];exact Array.ext' ai
   simp[execOp,Instr.makeFunc,e3,e4]
  ·cases h
 |nilCheck x=>
  simp only[s6] at h;split at h
  ·rename_i p e;simp only[Na] at h;subst h;simp[execOp,l.val e]
  ·cases h
 |makeInterface t x=>
  simp only[s6] at h;split at h
  ·cases h
  ·rename_i i u X B e;simp only[Na] at h;subst h;obtain⟨d,j,K,_,hu,_⟩:=eR B
   have:∀ ms,d≠.interface ms:=by
    rintro ms rfl;obtain⟨uk,s1,s2,z⟩:=i;simp[qp] at hu;subst hu;exact X _ _ _ rfl
   have P:(Instr.makeInterface t u).run Tryz.prog w=.ok (.iface t u) w:=by
    unfold Instr.makeInterface;rw[Sem.run_bind,run_underlying K]
    cases d<;>first|rfl|exact absurd rfl (this _)
   simp[execOp,l.val e,P]
  ·cases h
 |typeAssert x xt t ok=>
  simp only[s6] at h;split at h
  ·cases h
  ·rename_i i u v X B e;split at h
   ·rename_i Q;obtain rfl:=Ok Q;obtain⟨d,j,K,_,hu,_⟩:=eR B
    have Y:∀ ms,d≠.interface ms:=by
     rintro ms rfl;obtain⟨uk,s1,s2,z⟩:=i;simp[qp] at hu;subst hu;exact X _ _ _ rfl
    have P:∀ ok:Bool,(Instr.typeAssert (.iface u v) xt u ok).run Tryz.prog w=.ok (if ok then .tuple #[v,.bool true] else v) w:=by
     intro ok;unfold Instr.typeAssert;simp only[Sem.run_bind,run_underlying K,Result.andThen_ok]
     cases d<;>first|exact absurd rfl (Y _)|(simp)
    split at h
    ·simp only[Na] at h;subst h;simp[execOp,l.val e,P]
    ·simp only[Na] at h;subst h;simp[execOp,l.val e,P]
   ·cases h
  ·cases h
 |call c=>
  obtain⟨callee,xs,ts⟩:=c
  cases callee with
  |value f=>simp[s6] at h
  |invoke r m=>simp[s6] at h
  |builtin b=>
   cases b with
   |len=>
    simp only[s6] at h;split at h
    ·rename_i x t A O;have G:xs=#[x]:=by cases xs;simp at A;simp[A]
     have V:ts=#[t]:=by cases ts;simp at O;simp[O]
     subst G;subst V;split at h
     ·rename_i B e;simp only[Na] at h;subst h;simp[execOp,resolve,invoke,builtin,Builtin.len_,l.val e,run_underlying (eW B),goInt]
     ·rename_i B e;simp only[Na] at h;subst h;simp[execOp,resolve,invoke,builtin,Builtin.len_,l.val e,run_underlying (kE B),goInt]
     ·cases h
    ·cases h
   |min=>
    simp only[s6] at h;split at h
    ·rename_i x y A;have G:xs=#[x,y]:=by cases xs;simp at A;simp[A]
     subst G;split at h
     ·rename_i k p Z q e C;simp only[Na] at h;subst h;simp[execOp,resolve,invoke,builtin,Builtin.min_,Builtin.min2,l.val e,l.val C]
     ·cases h
    ·cases h
   |max=>
    simp only[s6] at h;split at h
    ·rename_i x y A;have G:xs=#[x,y]:=by cases xs;simp at A;simp[A]
     subst G;split at h
     ·rename_i k p Z q e C;simp only[Na] at h;subst h;simp[execOp,resolve,invoke,builtin,Builtin.max_,Builtin.max2,l.val e,l.val C]
     ·cases h
    ·cases h
   |_=>simp[s6] at h
 |_=>simp[s6] at h
structure Cx where
 w0:World
 M:LN_
 n:t6
abbrev e6:=Exit->Env->Heap->Prop
def pR(X:Cx)(Q:e6):Exit->Act->World->Prop:=λ e a w=>∃ E H,gt X.n a E/\dL X.w0 X.M w H/\Q e E H
def J(X:Cx)(c:Code)(Q:e6)(E:Env)(H:Heap):Prop:=
 ∀ a w,gt X.n a E->dL X.w0 X.M w H->c.wp Tryz.prog (pR X Q) a w
def JL(X:Cx)(ops:List Oper)(l:List Oper)(Q:e6)(E:Env)(H:Heap):Prop:=
 ∀ a w,gt X.n a E->dL X.w0 X.M w H->wpList Tryz.prog ops.toArray (pR X Q) l a w
def yk(K:Env->Heap->Prop)(Q:e6):e6
 |.normal,E,H=>K E H
 |e,E,H=>Q e E H
def Gv(id:Nat)(Q:e6):e6
 |.exit i,E,H=>if i=id then Q .normal E H else Q (.exit i) E H
 |e,E,H=>Q e E H
variable {X:Cx} {Q:e6} {E E':Env} {H:Heap}
theorem am{x y:Code}(h:J X x (yk (λ E H=>J X y Q E H) Q) E H):J X (.seq x y) Q E H:=by
 intro a w f g;refine wp_seq (wp_mono (h a w f g) ?_);rintro e i w' ⟨E',H',b,c,d⟩
 cases e with
 |normal=>exact d i w' b c
 |_=>exact⟨E',H',b,c,d⟩
theorem ag(h:Q .normal E H):J X .skip Q E H:=λ _ _ a b=>wp_skip ⟨E,H,a,b,h⟩
theorem bM(h:Q .ret E H):J X .ret Q E H:=λ _ _ a b=>wp_ret ⟨E,H,a,b,h⟩
theorem aO{i:Nat}(h:Q (.exit i) E H):J X (.exit i) Q E H:=λ _ _ a b=>wp_exit ⟨E,H,a,b,h⟩
theorem au{i:Nat}{c:Code}(h:J X c (Gv i Q) E H):J X (.block i c) Q E H:=by
 intro a w g k;refine wp_block (wp_mono (h a w g k) ?_);rintro e l w' ⟨E',H',b,d,f⟩
 cases e with
 |exit j=>
  simp only[Exit.inBlock];simp only[Gv] at f;split
  ·rename_i e;rw[if_pos e] at f;exact⟨E',H',b,d,f⟩
  ·rename_i e;rw[if_neg e] at f;exact⟨E',H',b,d,f⟩
 |_=>exact⟨E',H',b,d,f⟩
def known(c:Operand)(b:Bool)(E:Env):Env:=match c with
 |.tmp t=>(t,.bool b)::E
 |_=>E
theorem gt.known{n:t6}{a:Act}{c:Operand}{b:Bool}(d:gt n a E)(f:Proofs.YtmcnpaelaieniaaGreatDoor.val E c=some (.bool b)):gt n a (Proofs.YtmcnpaelaieniaaGreatDoor.known c b E):=by
 cases c with
 |tmp t=>
  refine⟨d.size,d.defers,λ u v hu=>?_⟩;simp only[Proofs.YtmcnpaelaieniaaGreatDoor.known,ii] at hu
  cases e:Nat.beq t u with
  |true=>
   obtain rfl:=Ok e;rw[e] at hu;simp only[cond_true,Na] at hu;subst hu;exact d.get _ _ f
  |false=>rw[e] at hu;exact d.get u v hu
 |_=>exact d
theorem nZ{c:Operand}{x y:Code}{b:Bool}(d:val E c=some (.bool b))(g:b=true->J X x Q (known c true E) H)(h:b=false->J X y Q (known c false E) H):
 J X (.cond c x y) Q E H:=by
 intro a w e f;refine wp_cond (e.val d) ?_
 cases b with
 |true=>exact g rfl a w (e.known d) f
 |false=>exact h rfl a w (e.known d) f
theorem ak{c:Operand}{x y:Code}{p:Prop}(a:val E c=some (.bool (dU p)))(b:p->J X x Q (known c true E) H)(d:¬ p->J X y Q (known c false E) H):
 J X (.cond c x y) Q E H:=nZ a (λ h=>b (Cy h)) (λ h=>d (uo h))
theorem bD{c:Operand}{x y:Code}(d:val E c=some (.bool true))(h:J X x Q E H):J X (.cond c x y) Q E H:=
 λ a w b e=>wp_cond_true (b.val d) (h a w b e)
theorem bu{c:Operand}{x y:Code}(d:val E c=some (.bool false))(h:J X y Q E H):J X (.cond c x y) Q E H:=
 λ a w b e=>wp_cond_false (b.val d) (h a w b e)
theorem G9{c:Code}(F:Env)(K:Heap)(l:LN_)(b:nP E F)(hl:l.Nodup)(d:cI H l=some K)(h:J X c Q F K):J X c Q E H:=
 λ a w e f=>h a w (e.ents F b) (f.picks l hl d)
theorem bS{σ:Type}{c:Code}(F:σ->Env)(K:σ->Heap)(I:σ->Prop)(μ:σ->Nat)(s:σ)(l:LN_)(o:nP E (F s))(hl:l.Nodup)(p:cI H l=some (K s))(h:I s)
 (round:∀ s,I s->J X c (yk (λ E' H'=>∃ b g,nP E' (F b)/\g.Nodup/\cI H' g=some (K b)/\I b/\μ b<μ s) Q) (F s) (K s)):J X (.loop c) Q E H:=by
 intro a w i j;refine wp_loop_ghost (λ k a w=>∃ s,k=μ s/\I s/\gt X.n a (F s)/\dL X.w0 X.M w (K s)) (μ s) ⟨s,rfl,h,i.ents _ o,j.picks l hl p⟩ ?_;rintro k a w ⟨s,rfl,h,i,j⟩;refine wp_mono (round s h a w i j) ?_;rintro e x w' ⟨E',H',d,f,m⟩
 cases e with
 |normal=>
  obtain⟨b,g,q,r,t,u,v⟩:=m;exact⟨μ b,v,b,rfl,u,d.ents _ q,f.picks g r t⟩
 |_=>exact⟨E',H',d,f,m⟩
theorem aC{id:Nat}{l:List Oper}(h:JL X l l Q E H):J X (.region id l.toArray false) Q E H:=
 λ a w b c=>wp_region_lit (h a w b c)
theorem ah{ops:List Oper}(h:Q .normal E H):JL X ops [] Q E H:=λ _ _ a b=>⟨E,H,a,b,h⟩
theorem Bs{c:Code}{Q':e6}(h:J X c Q E H)(b:∀ e E H,Q e E H->Q' e E H):J X c Q' E H:=
 λ a w d f=>wp_mono (h a w d f) λ _ _ _ ⟨E,H,g,i,j⟩=>⟨E,H,g,i,b _ _ _ j⟩
def M1(gs:LN_)(j:Nat):Bool:=match gs with
 |[]=>false
 |i::l=>bif Nat.beq i 999 then true else bif Nat.beq i j then true else M1 l j
def gd(ops:List Oper)(gs:LN_)(E:Env):Option (Nat×Bool)->Option Bool
 |none=>some true
 |some (j,want)=>match M1 gs j with
  |true=>match ops[j]? with
   |some oj=>match oj.dst with
    |some t=>match ii E t with
     |some (.bool b)=>some (b==want)
     |some (.tuple _)=>some false
     |_=>none
    |none=>none
   |none=>none
  |false=>none
def wW(n:t6)(d:Option Nat)(v:Value)(E:Env):Option Env:=match d with
 |none=>some E
 |some d=>match Nat.blt d n.len with
  |true=>some ((d,v)::E)
  |false=>none
theorem gt.putE{n:t6}{a:Act}{d:Option Nat}{v:Value}(b:gt n a E)(h:wW n d v E=some E'):gt n (a.put d v) E':=by
 cases d with
 |none=>simp only[Proofs.YtmcnpaelaieniaaGreatDoor.wW,Na] at h;subst h;exact b
 |some d=>
  simp only[Proofs.YtmcnpaelaieniaaGreatDoor.wW] at h;split at h
  ·rename_i c;simp only[Na] at h;subst h;exact b.put (by simpa using c) v
  ·cases h
theorem fB{n:t6}{a:Act}{ops:List Oper}{gs:LN_}{o:Oper}{b:Bool}(g:gt n a E)(h:gd ops gs E o.guard=some b):
 Region.wanted o (yielded ops.toArray a.tmps)=b:=by
 unfold Region.wanted;unfold gd at h;split at h
 ·rename_i e;simp only[Na] at h;subst h;simp[e]
 ·rename_i j want e;simp only[e];split at h
  ·split at h
   ·rename_i l d;split at h
    ·rename_i t i;split at h
     ·rename_i k c;simp only[Option.some.injEq] at h;subst h;have:=g.get _ _ c;have f:yielded ops.toArray a.tmps j=some k:=by simp[yielded,d,i,this]
      rw[f]
      cases k<;>cases want<;>rfl
     ·rename_i vs c;simp only[Option.some.injEq] at h;subst h;have:=g.get _ _ c;have f:yielded ops.toArray a.tmps j=none:=by simp[yielded,d,i,this]
      rw[f];rfl
     ·cases h
    ·cases h
   ·cases h
  ·cases h
def i7(X:Cx)(o:Oper)(E:Env)(H:Heap)(v:Value):Prop:=
 ∀ a w,gt X.n a E->dL X.w0 X.M w H->(execOp a.eval o).run Tryz.prog w=.ok (.value v) w
theorem lS{o:Oper}{v:Value}(h:s6 E o.op=some v):i7 X o E H v:=λ _ w a _=>JX h a o.dst o.type o.pos o.after o.guard w
def jN(n:t6)(ops:List Oper)(gs:LN_)(E:Env)(o:Oper)(v:Value):Option Env:=match gd ops gs E o.guard with
 |some true=>wW n o.dst v E
 |_=>none
theorem eb{n:t6}{ops:List Oper}{gs:LN_}{o:Oper}{v:Value}(h:jN n ops gs E o v=some E'):gd ops gs E o.guard=some true/\wW n o.dst v E=some E':=by
 unfold jN at h;split at h
 ·rename_i a;exact⟨a,h⟩
 ·cases h
theorem ae{ops l:List Oper}{o:Oper}{v:Value}(gs:LN_)(c:i7 X o E H v)(d:jN X.n ops gs E o v=some E')(h:JL X ops l Q E' H):JL X ops (o::l) Q E H:=by
 intro a w hA b;obtain⟨hg,hp⟩:=eb d;refine nd ?_
 left
 refine nc ?_;rw[c a w hA b];exact h _ _ (hA.putE hp) b
theorem JI{ops l:List Oper}{o:Oper}(gs:LN_)(c:gd ops gs E o.guard=some false)(hp:wW X.n o.dst undef E=some E')(h:JL X ops l Q E' H):JL X ops (o::l) Q E H:=by
 intro a w b d;unfold wpList;rw[if_neg (by rw[fB b c];decide)];exact h _ _ (b.putE hp) d
noncomputable def IT(n:t6)(ops:List Oper)(gs:LN_)(E:Env)(o:Oper):Option Env:=match gd ops gs E o.guard with
 |some true=>match s6 E o.op with
  |some v=>wW n o.dst v E
  |none=>none
 |some false=>wW n o.dst undef E
 |none=>none
noncomputable def IS(n:t6)(ops:List Oper)(gs:LN_)(E:Env):List Oper->Env×List Oper
 |[]=>(E,[])
 |o::l=>match IT n ops gs E o with
  |some E'=>IS n ops gs E' l
  |none=>(E,o::l)
theorem cD{ops l:List Oper}{o:Oper}{gs:LN_}(he:IT X.n ops gs E o=some E')(h:JL X ops l Q E' H):JL X ops (o::l) Q E H:=by
 unfold IT at he;split at he
 ·rename_i a;split at he
  ·rename_i v b;exact ae gs (lS b) (by unfold jN;rw[a];exact he) h
  ·cases he
 ·rename_i a;exact JI gs a he h
 ·cases he
theorem fS{ops a:List Oper}(gs:LN_):∀ {l:List Oper} {E:Env},IS X.n ops gs E l=(E',a)->JL X ops a Q E' H->JL X ops l Q E H
 |[],E,h,k=>by
  simp only[IS,N1] at h;obtain⟨rfl,rfl⟩:=h;exact k
 |o::l,E,h,k=>by
  unfold IS at h;split at h
  ·rename_i c b;exact cD b (fS gs h k)
  ·simp only[N1] at h;obtain⟨rfl,rfl⟩:=h;exact k
theorem c8{ops:List Oper}(gs:LN_){l:List Oper}(h:IS X.n ops gs E l=(E',[]))(k:Q .normal E' H):JL X ops l Q E H:=fS gs h (ah k)
theorem yn{ops l:List Oper}{d:Oper}{t:Nat}{b:Bool}(j:Nat)(_hj:ops[j]?=some d)(_ht:d.dst=some t)(e:ii E t=some (.bool b))
 (h:b=true->JL X ops l Q ((t,.bool true)::E) H) (i:b=false->JL X ops l Q ((t,.bool false)::E) H):JL X ops l Q E H:=by
 intro a w f g
 cases b with
 |true=>exact h rfl a w (gt.known (c:=.tmp t) f e) g
 |false=>exact i rfl a w (gt.known (c:=.tmp t) f e) g
theorem Ed{ops l:List Oper}{a:Oper}{t:Nat}{p:Prop}(j:Nat)(b:ops[j]?=some a)(c:a.dst=some t)(d:ii E t=some (.bool (dU p)))
 (e:p->JL X ops l Q ((t,.bool true)::E) H) (f:¬ p->JL X ops l Q ((t,.bool false)::E) H):JL X ops l Q E H:=
 yn j b c d (λ h=>e (Cy h)) (λ h=>f (uo h))
theorem E4{ops l:List Oper}{o a:Oper}{j t:Nat}{want:Bool}{p:Prop}(_hg:o.guard=some (j,want))(b:ops[j]?=some a)(c:a.dst=some t)(d:ii E t=some (.bool (dU p)))
 (e:p->JL X ops (o::l) Q ((t,.bool true)::E) H) (f:¬ p->JL X ops (o::l) Q ((t,.bool false)::E) H):JL X ops (o::l) Q E H:=Ed j b c d e f
theorem HU{ops l:List Oper}{o a:Oper}{j t:Nat}{want:Bool}{b:Bool}(_hg:o.guard=some (j,want))(c:ops[j]?=some a)(d:a.dst=some t)(e:ii E t=some (.bool b))
 (f:b=true->JL X ops (o::l) Q ((t,.bool true)::E) H) (g:b=false->JL X ops (o::l) Q ((t,.bool false)::E) H):JL X ops (o::l) Q E H:=yn j c d e f g
theorem gt.set{n:t6}{a:Act}{t:Nat}{v v':Value}(b:gt n a E)(d:ii E t=some v)(e:v=v'):gt n a ((t,v')::E):=by
 subst e;refine⟨b.size,b.defers,λ u x hu=>?_⟩;simp only[ii] at hu
 cases c:Nat.beq t u with
 |true=>
  obtain rfl:=Ok c;rw[c] at hu;simp only[cond_true,Na] at hu;subst hu;exact b.get _ _ d
 |false=>rw[c] at hu;exact b.get u x hu
theorem aB{ops l:List Oper}(t:Nat){v v':Value}(b:ii E t=some v)(e:v=v')(h:JL X ops l Q ((t,v')::E) H):JL X ops l Q E H:=λ a w c d=>h a w (c.set b e) d
theorem bB{c:Code}(t:Nat){v v':Value}(b:ii E t=some v)(e:v=v')(h:J X c Q ((t,v')::E) H):J X c Q E H:=λ a w d f=>h a w (d.set b e) f
theorem gj{x y:Code}(F:Env)(K:Heap)(b:J X x (yk (λ E' H'=>∃ ix:LN_,nP E' F/\ix.Nodup/\cI H' ix=some K) Q) E H)(c:J X y Q F K):J X (.seq x y) Q E H:=by
 refine am (Bs b ?_);intro e E' H' a
 cases e with
 |normal=>obtain⟨ix,d,f,g⟩:=a;exact G9 F K ix d f g c
 |_=>exact a
theorem Do:Tryz.prog.follows .mixedOrders=true:=by kernel_rfl
def JS(X:Cx)(ops:List Oper)(l:List Oper)(H:Heap)(K:Env->Prop)(E:Env):Prop:=
 ∀ a w,gt X.n a E->dL X.w0 X.M w H->wpStill Tryz.prog ops.toArray w (λ a'=>∃ E',gt X.n a' E'/\K E') l a
theorem CO{id:Nat}{l:List Oper}(k:Nat)(g:Region.lexTailB .any l.toArray k=true)(h:JS X l (l.take k) H (λ E=>JL X l (l.drop k) Q E H) E):J X (.region id l.toArray true) Q E H:=by
 intro a w i e;refine wp_region_still_tail k Do g ?_;have:=h a _ i e.drew;refine (?_:∀ (Q1 b:Act->Prop),(∀ a,Q1 a->b a)->∀ l a,wpStill Tryz.prog _ _ Q1 l a->wpStill Tryz.prog _ _ b l a) _ _ ?_ _ a this
 ·intro Q1 b c l
  induction l with
  |nil=>exact λ a h=>c a h
  |cons o l f=>
   intro a h;unfold wpStill at h ⊢;split
   ·rename_i hw;rw[if_pos hw] at h;exact Oper.still_mono f h
   ·rename_i hw;rw[if_neg hw] at h;exact f _ h
 ·rintro a ⟨E',d,c⟩;exact c a _ d e.drew
theorem H5{ops:List Oper}{K:Env->Prop}(h:K E):JS X ops [] H K E:=λ _ _ a _=>⟨E,a,h⟩
theorem nH{ops l:List Oper}{o:Oper}{v:Value}{K:Env->Prop}(gs:LN_)(d:i7 X o E H v)(e:jN X.n ops gs E o v=some E')(h:JS X ops l H K E'):JS X ops (o::l) H K E:=by
 intro a w b c;obtain⟨f,hp⟩:=eb e;unfold wpStill;rw[if_pos (fB b f)];unfold Oper.still;rw[d a w b c];exact⟨rfl,h _ w (b.putE hp) c⟩
theorem LD{ops l:List Oper}{o:Oper}{gs:LN_}{K:Env->Prop}(he:IT X.n ops gs E o=some E')(h:JS X ops l H K E'):JS X ops (o::l) H K E:=by
 unfold IT at he;split at he
 ·rename_i b;split at he
  ·rename_i v d;exact nH gs (lS d) (by unfold jN;rw[b];exact he) h
  ·cases he
 ·rename_i b;intro a w c e;unfold wpStill;rw[if_neg (by rw[fB c b];decide)];exact h _ w (c.putE he) e
 ·cases he
theorem uO{ops a:List Oper}{K:Env->Prop}(gs:LN_):∀ {l:List Oper} {E:Env},IS X.n ops gs E l=(E',a)->JS X ops a H K E'->JS X ops l H K E
 |[],E,h,k=>by
  simp only[IS,N1] at h;obtain⟨rfl,rfl⟩:=h;exact k
 |o::l,E,h,k=>by
  unfold IS at h;split at h
  ·rename_i c b;exact LD b (uO gs h k)
  ·simp only[N1] at h;obtain⟨rfl,rfl⟩:=h;exact k
def pE:Nat->LV_->Env
 |_,[]=>[]
 |i,v::l=>(i,v)::pE (i+1) l
def vw(E:Env):List ResultVar->Option (LV_)
 |[]=>some []
 |.tmp t::l=>match ii E t with
  |some v=>match vw E l with
   |some vs=>some (v::vs)
   |none=>none
  |none=>none
 |_=>none
def mZ:LV_->Value
 |[v]=>v
 |vs=>.tuple vs.toArray
def Fn(f:FuncId)(args:LV_)(M:LN_)(H:Heap)(R:Value->Heap->Prop):Prop:=
 ∀ w,dL w M w H->Calls Tryz.prog f args.toArray w λ e w'=>∃ v H',e=.returned v/\dL w M w' H'/\R v H'
def L5(rs:List ResultVar)(R:Value->Heap->Prop):e6:=λ e E H=>match e with
 |.normal=>∃ vs,vw E rs=some vs/\R (mZ vs) H
 |.ret=>∃ vs,vw E rs=some vs/\R (mZ vs) H
 |_=>False
theorem tK:∀ (args:LV_) (i t:Nat) (v:Value),ii (pE i args) t=some v->i<=t/\args[t-i]?=some v
 |[],i,t,v,h=>by simp[pE,ii] at h
 |u::args,i,t,v,h=>by
  unfold pE ii at h
  cases a:Nat.beq i t with
  |true=>
   obtain rfl:=Ok a;rw[a] at h;simp only[cond_true,Na] at h;subst h;simp
  |false=>
   rw[a] at h;have b:=tK args (i+1) t v h;refine⟨aa,?_⟩;have:t-i=(t-(i+1))+1:=aa;rw[this,N8];exact b.2
def pS(tmps:Array Value):ResultVar->Sem Value
 |.tmp t=>pure (tmps.getD t undef)
 |.cell addr t=>do loadVar t (<- asAddr (tmps.getD addr undef))
theorem x8{a:Act}{n:t6}(c:gt n a E):∀ (d:List ResultVar) (vs:LV_),vw E d=some vs->∀ w,
 (d.mapM (m:=Sem) (pS a.tmps)).run Tryz.prog w=.ok vs w
 |[],vs,h,w=>by simp[vw] at h;simp[h]
 |.tmp t::l,vs,h,w=>by
  unfold vw at h;split at h
  ·rename_i v e;split at h
   ·rename_i us b;simp only[Na] at h;subst h;have f:=c.get _ _ e;have g:=x8 c l us b w;rw[List.mapM_cons];simp[pS,g,O9,f]
   ·cases h
  ·cases h
 |.cell a t::l,vs,h,w=>by simp[vw] at h
theorem jJ{a:Act}{n:t6}(b:gt n a E){fn:Func}{vs:LV_}(h:vw E fn.results.toList=some vs)(w:World):
 (results fn a.tmps).run Tryz.prog w=.ok (mZ vs) w:=by
 have e:results fn a.tmps=(do let vs <- fn.results.mapM (pS a.tmps);pure (if h:vs.size=1 then vs[0] else .tuple vs)):=rfl;rw[e,PS];simp only[map_eq_pure_bind,bind_assoc,pure_bind,Sem.run_bind,x8 b _ _ h w];show Result.ok (if h:vs.toArray.size=1 then vs.toArray[0] else Value.tuple vs.toArray) w=_
 congr 1
 match vs with
 |[]=>rfl
 |[v]=>rfl
 |u::v::l=>
  have:¬ (u::v::l).toArray.size=1:=ai;rw[dif_neg this];rfl
theorem nC{n:Nat}{args:LV_}(a:Nat.ble args.length n=true):gt ⟨n,[]⟩ { tmps:=args.toArray++Array.replicate (n-args.toArray.size) undef,defers:=[] } (pE 0 args):=by
 have a:=PF a;refine⟨by simp;omega,rfl,λ t v b=>?_⟩;have:=(tK args 0 t v b).2;simp only[Nat.sub_zero] at this;have hl:=(Nb.1 this).1;rw[Array.getElem?_append_left (by simpa using hl)]
 simpa using this
theorem KV{f:FuncId}{fn:Func}{c:Code}{args:LV_}{M:LN_}{R:Value->Heap->Prop}(k:Tryz.prog.funcs[f]?=some fn)(l:fn.body=some c)(m:Nat.ble args.length fn.ntmps=true)
 (h:∀ w0,J ⟨w0,M,⟨fn.ntmps,[]⟩⟩ c (L5 fn.results.toList R) (pE 0 args) H):Fn f args M H R:=by
 intro w n;refine calls_of_wp k l ?_;have o:=nC (args:=args) m;refine wp_mono (h w _ w o n) ?_;rintro e a w' ⟨E',H',b,d,g⟩
 cases e with
 |normal=>
  obtain⟨vs,i,j⟩:=g;exact⟨b.defers,mZ vs,jJ b i w',mZ vs,H',rfl,d,j⟩
 |ret=>
  obtain⟨vs,i,j⟩:=g;exact⟨b.defers,mZ vs,jJ b i w',mZ vs,H',rfl,d,j⟩
 |_=>exact g.elim
theorem Fn.mono{f:FuncId}{args:LV_}{M:LN_}{R R':Value->Heap->Prop}(h:Fn f args M H R)(a:∀ v H',R v H'->R' v H'):Fn f args M H R':=
 λ w hw=>(h w hw).mono λ _ _ ⟨v,H',b,c,d⟩=>⟨v,H',b,c,a _ _ d⟩
variable {X:Cx} {Q:e6} {E E':Env} {H:Heap}
def eD(cs:LV_):Nat->Nat->Option (LV_)
 |_,0=>some []
 |i,n+1=>match cs[i]? with
  |some v=>match eD cs (i+1) n with
   |some l=>some (v::l)
   |none=>none
  |none=>none
def fP(t:Nat)(cs:LV_)(i:Nat):Option Value:=match tab t with
 |some ⟨.struct _,sz,_,_⟩=>match eD cs i sz with
  |some l=>some (.agg l.toArray)
  |none=>none
 |some ⟨.arr _ _,sz,_,_⟩=>match eD cs i sz with
  |some l=>some (.agg l.toArray)
  |none=>none
 |some ⟨_,1,_,_⟩=>cs[i]?
 |_=>none
theorem Addr.add_at(b o j:Nat):Addr.add ⟨b,o,none⟩ j=⟨b,o+j,none⟩:=by
 unfold Addr.add;split
 ·rename_i h;subst h;rfl
 ·rfl
theorem lx{w:World}{b o:Nat}{cs:LV_}(c:∀ i v,cs[i]?=some v->w.cell? ⟨b,o+i,none⟩=some v):∀ (n i:Nat) (acc:Array Value) (l:LV_),eD cs i n=some l->
 (loadCellsFrom ⟨b,o,none⟩ i n acc).run Tryz.prog w=.ok (acc++l.toArray) w
 |0,i,acc,l,h=>by simp[eD] at h;subst h;simp[loadCellsFrom]
 |n+1,i,acc,l,h=>by
  unfold eD at h;split at h
  ·rename_i v d;split at h
   ·rename_i e a;simp only[Na] at h;subst h;have:=c i v d;have f:=lx c n (i+1) (acc.push v) e a;simp[loadCellsFrom,load,Sem.run,Addr.add_at,this,f]
   ·cases h
  ·cases h
theorem oq{cs:LV_}{k:Nat}:∀ (n i:Nat) (l:LV_),eD cs (k+i) n=some l->eD (cs.drop k) i n=some l
 |0,i,l,h=>by simpa [eD] using h
 |n+1,i,l,h=>by
  unfold eD at h ⊢;split at h
  ·rename_i v b;split at h
   ·rename_i c a;have:=oq (cs:=cs) (k:=k) n (i+1) c (by rw[<- N3];exact a);rw[Og,b];simp only[this];exact h
   ·cases h
  ·cases h
theorem tF{t:Nat}{i:TI}(h:tab t=some i)(a:∀ fs,i.uk≠.struct fs)(b:∀ n e,i.uk≠.arr n e):qg Tryz.prog t=0:=by
 obtain⟨d,j,c,_,hu,_⟩:=eR h;unfold qg;rw[c]
 cases d<;>simp only[qp] at hu<;>first|rfl|exact absurd hu.symm (a _)|exact absurd hu.symm (b _ _)
theorem vA{t s b:Nat}{z:Option Value}{fs:List (Nat×Nat×Nat)}(h:tab t=some ⟨.struct fs,s,b,z⟩):qg Tryz.prog t=1:=by
 obtain⟨F,a,_⟩:=mt h;unfold qg;rw[a]
theorem Bt{t s b n e:Nat}{z:Option Value}(h:tab t=some ⟨.arr n e,s,b,z⟩):qg Tryz.prog t=1:=by
 obtain⟨d,j,a,_,hu,_⟩:=eR h;unfold qg;rw[a]
 cases d<;>simp[qp] at hu ⊢
theorem dT{t:Nat}{i:TI}(h:tab t=some i)(w:World):(sizeOf t).run Tryz.prog w=.ok i.size w:=by
 obtain⟨d,j,b,hi,hu,a,_⟩:=eR h;simp[sizeOf,typeInfo,hi,a]
theorem sB{w:World}{b o t:Nat}{cs:LV_}{v:Value}(c:∀ i v,cs[i]?=some v->w.cell? ⟨b,o+i,none⟩=some v)(h:fP t cs 0=some v):
 (loadVar t ⟨b,o,none⟩).run Tryz.prog w=.ok v w:=by
 unfold fP at h;unfold loadVar;split at h
 ·rename_i sz _ _ a;split at h
  ·rename_i l hl;simp only[Na] at h;subst h;simp[sd (vA a),dT a,loadCells,lx c _ _ _ _ hl]
  ·cases h
 ·rename_i sz _ _ a;split at h
  ·rename_i l hl;simp only[Na] at h;subst h;simp[sd (Bt a),dT a,loadCells,lx c _ _ _ _ hl]
  ·cases h
 ·rename_i d f a;have:=c 0 v h;simp only[OZ] at this;have g:=tF a (λ fs e=>d fs e) (λ n e k=>f n e k);simp[ug g,load,Sem.run,this]
 ·cases h
theorem Ag{t:Nat}{cs:LV_}{i:Nat}{v:Value}(h:fP t cs i=some v):fP t (cs.drop i) 0=some v:=by
 unfold fP at h ⊢;split at h
 ·split at h
  ·rename_i l hl;rw[oq (k:=i) _ 0 l hl];exact h
  ·cases h
 ·split at h
  ·rename_i l hl;rw[oq (k:=i) _ 0 l hl];exact h
  ·cases h
 ·rw[Og];simpa using h
 ·cases h
def aU.shows(c:aU)(b off:Nat)(cs:LV_):Prop:=∀ w,c.holds w->∀ i v,cs[i]?=some v->w.cell? ⟨b,off+i,none⟩=some v
theorem aQ(b e:Nat)(cs:LV_)(a:Nat×Nat):(aU.obj b (.cells cs.toArray e a)).shows b 0 cs:=by
 intro w h i v c;have d:w.heap[b]?=some (.cells cs.toArray e a):=h;simp[World.cell?,d,c]
theorem bn(b off:Nat)(vs:LV_):(aU.seg b off vs).shows b off vs:=λ _ h=>h
theorem b8{g e sz n cap:Nat}{xs:LV_}:(aU.own (.slice (some ⟨g,0,none⟩) n cap) e sz n xs).shows g 0 xs:=by
 intro w h i v a;have:=World.ownsRow.cells h (g:=g) rfl i v a;rw[Addr.add_at] at this;exact this
theorem dW{o:Oper}{t b off i:Nat}{x:Operand}{c:aU}{cs:LV_}{v:Value}(k:Nat)(d:o.op=.load t x)(e:val E x=some (.pointer (some ⟨b,off+i,none⟩)))
 (f:H[k]?=some c) (g:c.shows b off cs) (h:fP t cs i=some v):i7 X o E H v:=by
 intro a w l m;have n:=g w (m.holds c (M9 f))
 have p:(loadVar t ⟨b,off+i,none⟩).run Tryz.prog w=.ok v w:=sB (cs:=cs.drop i) (λ j u hu=>by
  rw[Og] at hu;rw[N3];exact n (i+j) u hu) (Ag h)
 simp[execOp,d,l.val e,Instr.loadAt,Instr.sureAddr,p]
theorem bz{o:Oper}{t b i e:Nat}{x:Operand}{cs:LV_}{v:Value}(k:Nat)(a:o.op=.load t x)(c:val E x=some (.pointer (some ⟨b,i,none⟩)))
 (d:H[k]?=some (blk b e cs)) (f:fP t cs i=some v):i7 X o E H v:=
 dW k a (by rw[NO];exact c) d (aQ b e cs (0,0)) f
theorem ad{o:Oper}{t b i e:Nat}{x:Operand}{cs:LV_}{v:Value}(k:Nat)(h:(o.op,val E x,H[k]?,fP t cs i)=(.load t x,some (.pointer (some ⟨b,i,none⟩)),some (blk b e cs),some v)):i7 X o E H v:=by
 simp only[N1] at h;exact bz k h.1 h.2.1 h.2.2.1 h.2.2.2
theorem Jq{o:Oper}{t b off i:Nat}{x:Operand}{vs:LV_}{v:Value}(k:Nat)(a:o.op=.load t x)(c:val E x=some (.pointer (some ⟨b,off+i,none⟩)))
 (d:H[k]?=some (.seg b off vs)) (e:fP t vs i=some v):i7 X o E H v:=dW k a c d (bn b off vs) e
theorem aA{o:Oper}{t g i e sz n cap:Nat}{x:Operand}{xs:LV_}{v:Value}(k:Nat)(a:o.op=.load t x)(b:val E x=some (.pointer (some ⟨g,i,none⟩)))
 (c:H[k]?=some (.own (.slice (some ⟨g,0,none⟩) n cap) e sz n xs)) (d:fP t xs i=some v):i7 X o E H v:=
 dW k a (by rw[NO];exact b) c b8 d
theorem oG{o:Oper}{t b off n c e sz d m:Nat}{x ix:Operand}{k:IntKind}{z:Option Value}{f:TI}(h:o.op=.indexAddr t x ix)(i:val E x=some (.slice (some ⟨b,off,none⟩) n c))
 (hi:val E ix=some (.int k (m:Int))) (j:tab t=some ⟨.slice e,sz,d,z⟩) (he:tab e=some f) (hm:m<n):i7 X o E H (.pointer (some ⟨b,off+m*f.size,none⟩)):=by
 intro a w g l;have p:(0:Int)<=(m:Int)/\(m:Int)<(n:Int):=aa;simp[execOp,h,g.val i,g.val hi,Instr.indexAt,asIntOf,run_underlying (eW j),dT he,Addr.add_at,hm]
theorem vR(w:World)(o:Obj)(k:Nat)(a:k<w.heap.size):(w.alloc o).heap[k]?=w.heap[k]?:=Below.heap_alloc w o k a
theorem dL.alloc{w0 w:World}{M:LN_}(a:dL w0 M w H)(o:Obj):dL w0 M (w.alloc o) (.obj w.heap.size o::H):=
 a.grow rfl rfl rfl ai (λ k c=>vR w o k c) (heap_alloc_new w o) (λ b d=>by simp only[aU.at_,Na] at d;omega)
theorem xb{F:Nat->Env}{f:Nat->Value}{ops l:List Oper}{o:Oper}{c:Obj}(gs:LN_)
 (e:∀ a w,gt X.n a E->dL X.w0 X.M w H->(execOp a.eval o).run Tryz.prog w=.ok (.value (f w.heap.size)) (w.alloc c))
 (g:∀ b,jN X.n ops gs E o (f b)=some (F b)) (h:∀ b,JL X ops l Q (F b) (.obj b c::H)):JL X ops (o::l) Q E H:=by
 intro a w hA d;obtain⟨hg,hp⟩:=eb (g w.heap.size);refine nd ?_
 left
 refine nc ?_;rw[e a w hA d];exact h w.heap.size _ _ (hA.putE hp) (d.alloc c)
theorem A8{F:Nat->Env}{ops l:List Oper}{o:Oper}{e:Nat}{x:Operand}{v:Value}{cs:LV_}(c:o.op=.box e x)(d:val E x=some v)(g:v.cells=cs.toArray)
 (i:∀ b,jN X.n ops [] E o (.pointer (some ⟨b,0,none⟩))=some (F b)) (h:∀ b,JL X ops l Q (F b) (blk b e cs::H)):JL X ops (o::l) Q E H:=
 xb (f:=λ b=>.pointer (some ⟨b,0,none⟩)) [] (λ a w j _=>by
  simp[execOp,c,j.val d,Instr.box,newVar,newRow,newObj,g,Sem.run,World.alloc_eq]) i h
theorem nq{F:Nat->Env}{ops l:List Oper}{o:Oper}{e sz c:Nat}{uk:UK}{v:Value}{cs:LV_}(g:o.op=.alloc e)(i:tab e=some ⟨uk,sz,c,some v⟩)(k:v.cells=cs.toArray)
 (m:∀ b,jN X.n ops [] E o (.pointer (some ⟨b,0,none⟩))=some (F b)) (h:∀ b,JL X ops l Q (F b) (blk b e cs::H)):JL X ops (o::l) Q E H:=
 xb (f:=λ b=>.pointer (some ⟨b,0,none⟩)) [] (λ a w q _=>by
  obtain⟨d,j,_,hi,_,_,_,p⟩:=eR i;simp[execOp,g,Instr.alloc,zeroValue,typeInfo,hi,p v rfl,newVar,newRow,newObj,k,Sem.run,World.alloc_eq]) m h
def one:LV_->Bool
 |[]=>true
 |v::l=>match v.oneCell' with
  |true=>one l
  |false=>false
def wr:LV_->Nat->LV_->LV_
 |cs,_,[]=>cs
 |cs,i,v::l=>wr (cs.set i v) (i+1) l
theorem sp:∀ (l cs:LV_) (i:Nat),(wr cs i l).length=cs.length
 |[],cs,i=>rfl
 |v::l,cs,i=>by unfold wr;rw[sp l];simp
theorem Fo{w:World}{b e i:Nat}{cs:LV_}{v:Value}(a:w.heap[b]?=some (.cells cs.toArray e (0,0)))(hi:i<cs.length)(c:v.oneCell'=true):
 (store ⟨b,i,none⟩ v .plain).run Tryz.prog w=.ok () (w.setCell ⟨b,i,none⟩ v):=by
 have d:w.cell? ⟨b,i,none⟩=some cs[i]:=by simp[World.cell?,a,hi]
 have f:w.frozen? ⟨b,i,none⟩=false:=by simp[World.frozen?,a]
 rw[run_store _ _ _ _ _ c,d];simp[f]
theorem AA{w:World}{b e i:Nat}{cs:LV_}(v:Value)(a:w.heap[b]?=some (.cells cs.toArray e (0,0))):
 (w.setCell ⟨b,i,none⟩ v).heap[b]?=some (.cells (cs.set i v).toArray e (0,0)):=by
 simp only[World.setCell,Array.getElem?_modify,O8,a,Pd];simp
theorem gL{b e o:Nat}:∀ (vs:LV_) (i:Nat) (w:World) (cs:LV_),w.heap[b]?=some (.cells cs.toArray e (0,0))->o+i+vs.length<=cs.length->one vs=true->
 ∃ w',(storeCells ⟨b,o,none⟩ vs i).run Tryz.prog w=.ok () w'/\w'.heap[b]?=some (.cells (wr cs (o+i) vs).toArray e (0,0))/\w'.os=w.os/\w'.tape=w.tape/\w'.output=w.output/\w'.heap.size=w.heap.size/\
   ∀ k,k≠b->w'.heap[k]?=w.heap[k]?
 |[],i,w,cs,a,_,_=>⟨w,by simp[storeCells],by simpa [wr] using a,rfl,rfl,rfl,rfl,λ _ _=>rfl⟩
 |v::vs,i,w,cs,a,hl,c=>by
  unfold one at c;split at c
  ·rename_i f;simp only[List.length_cons] at hl;have g:=Fo (v:=v) (i:=o+i) a aa f;obtain⟨w',h,j,l,m,n,p,q⟩:=gL (o:=o) vs (i+1) _ _ (AA (i:=o+i) v a) eS c;refine⟨w',?_,?_,l,m,n,by rw[p];simp[World.setCell],fun k d=>(q k d).trans (Below.heap_setCell w _ v k d)⟩
   ·rw[storeCells,Addr.add_at,Sem.run_bind,g];exact h
   ·rw[wr,<- N3] at*;exact j
  ·cases c
def rp(t:Nat)(cs:LV_)(i:Nat)(vs:LV_):Option (LV_):=match tab t with
 |some ⟨_,sz,_,_⟩=>match Nat.beq vs.length sz with
  |true=>match Nat.ble (i+vs.length) cs.length with
   |true=>match one vs with
    |true=>some (wr cs i vs)
    |false=>none
   |false=>none
  |false=>none
 |none=>none
theorem vS{t i:Nat}{cs vs a:LV_}(h:rp t cs i vs=some a):∃ j,tab t=some j/\j.size=vs.length/\i+vs.length<=cs.length/\one vs=true/\a=wr cs i vs:=by
 unfold rp at h;split at h
 ·rename_i b;split at h
  ·rename_i c;split at h
   ·rename_i d;split at h
    ·rename_i e;simp only[Na] at h;exact⟨_,b,(Ok c).symm,PF d,e,h.symm⟩
    ·cases h
   ·cases h
  ·cases h
 ·cases h
theorem w9{w:World}{b e o t:Nat}{cs a:LV_}{v:Value}(c:w.heap[b]?=some (.cells cs.toArray e (0,0)))(h:rp t cs o v.cells.toList=some a):
 ∃ w',(storeVar t ⟨b,o,none⟩ v).run Tryz.prog w=.ok () w'/\w'.heap[b]?=some (.cells a.toArray e (0,0))/\w'.os=w.os/\w'.tape=w.tape/\w'.output=w.output/\w'.heap.size=w.heap.size/\
   ∀ k,k≠b->w'.heap[k]?=w.heap[k]?:=by
 obtain⟨j,d,f,hl,g,rfl⟩:=vS h;obtain⟨w',i,l⟩:=gL (o:=o) v.cells.toList 0 w cs c (by simpa using hl) g;refine⟨w',?_,l⟩;have:v.cells.size=j.size:=by rw[f];simp
 simp[storeVar,dT d,this,i]
theorem uh{ops l:List Oper}{o:Oper}{t b i e:Nat}{x y:Operand}{v:Value}{cs c:LV_}(k:Nat)(m:o.op=.store t x y)(p:val E x=some (.pointer (some ⟨b,i,none⟩)))(q:val E y=some v)
 (f:H[k]?=some (blk b e cs)) (hw:rp t cs i v.cells.toList=some c) (gs:LN_) (r:jN X.n ops gs E o undef=some E') (h:JL X ops l Q E' (H.set k (blk b e c))):JL X ops (o::l) Q E H:=by
 intro a w hA g;obtain⟨hg,hp⟩:=eb r;refine nd ?_
 left
 obtain⟨w',s,u,z,A,B,F,C⟩:=w9 (g.holds _ (M9 f)) hw;refine nc ?_
 have:(execOp a.eval o).run Tryz.prog w=.ok .skip w':=by
  simp[execOp,m,hA.val p,hA.val q,Instr.storeAt,Instr.sureAddr,s]
 rw[this];refine h _ _ (hA.putE hp) (g.step k f z A B aa (λ j _ D=>C j (λ x=>D (by rw[x];rfl))) u (λ I d=>.inl d))
theorem fG{ops l:List Oper}{o:Oper}{t b i e:Nat}{x y:Operand}{v:Value}{cs cs':LV_}(k:Nat)(h1:(o.op,val E x,val E y,H[k]?,rp t cs i v.cells.toList)=(.store t x y,some (.pointer (some ⟨b,i,none⟩)),some v,some (blk b e cs),some cs'))(gs:LN_)(hb:jN X.n ops gs E o undef=some E')(h:JL X ops l Q E' (H.set k (blk b e cs'))):JL X ops (o::l) Q E H:=by
 simp only[N1] at h1;exact uh k h1.1 h1.2.1 h1.2.2.1 h1.2.2.2.1 h1.2.2.2.2 gs hb h
theorem sb{w w':World}{e sz n g cap i:Nat}{xs vs:LV_}(h:w.ownsRow 0 e sz (.slice (some ⟨g,0,none⟩) n cap) n xs)(hl:i+vs.length<=xs.length)
 (hw:∀ cs,w.heap[g]?=some (.cells cs e (0,0))->w'.heap[g]?=some (.cells (wr cs.toList i vs).toArray e (0,0))):
 w'.ownsRow 0 e sz (.slice (some ⟨g,0,none⟩) n cap) n (wr xs i vs):=by
 refine⟨by rw[sp];exact h.1,?_⟩
 rcases h.2 with ⟨a,_⟩|⟨p,b,cur,a,c,d,f,j,k,l⟩
 ·simp at a
 ·simp only[Value.slice.injEq,Option.some.injEq,Addr.mk.injEq,and_true,true_and] at a;obtain⟨rfl,rfl⟩:=a;refine .inr ⟨g,cap,_,rfl,c,hw cur d,f,j,by simp[sp,k],?_⟩
  have key:∀ (vs cs:LV_) (i m:Nat),i+vs.length<=m->(wr cs i vs).take m=wr (cs.take m) i vs:=by
   intro vs
   induction vs with
   |nil=>intro cs i m _;rfl
   |cons v vs o=>
    intro cs i m hm;simp only[Nf] at hm;rw[wr,wr,o _ _ _ aa,List.take_set]
  show (wr cur.toList i vs).take (n*sz)=_;rw[key _ _ _ _ (by rw[<- h.1];exact hl),l]
theorem aY{ops l:List Oper}{o:Oper}{t g i e sz n cap:Nat}{x y:Operand}{v:Value}{xs m:LV_}(k:Nat)(D:o.op=.store t x y)(F:val E x=some (.pointer (some ⟨g,i,none⟩)))(I:val E y=some v)
 (z:H[k]?=some (.own (.slice (some ⟨g,0,none⟩) n cap) e sz n xs)) (hw:rp t xs i v.cells.toList=some m) (gs:LN_) (K:jN X.n ops gs E o undef=some E')
 (h:JL X ops l Q E' (H.set k (.own (.slice (some ⟨g,0,none⟩) n cap) e sz n m))):JL X ops (o::l) Q E H:=by
 intro a w hA A;obtain⟨hg,hp⟩:=eb K;refine nd ?_
 left
 have b:w.ownsRow 0 e sz (.slice (some ⟨g,0,none⟩) n cap) n xs:=A.holds _ (M9 z)
 obtain⟨cur,c,hlen,L⟩:∃ cur:Array Value,w.heap[g]?=some (.cells cur e (0,0))/\n*sz<=cur.size/\cur.toList.take (n*sz)=xs:=by
  rcases b.2 with ⟨h',_⟩|⟨U,B,cur,h',V,hg,p,C,q,r⟩
  ·simp at h'
  ·simp only[Value.slice.injEq,Na,Addr.mk.injEq,PJ,true_and] at h';obtain⟨rfl,rfl⟩:=h';exact⟨cur,hg,by rw[q];exact Ou _ p,r⟩
 obtain⟨j,M,N,hl,p,rfl⟩:=vS hw;have d:w.heap[g]?=some (.cells cur.toList.toArray e (0,0)):=c;obtain⟨w',C,q,r,O,P,Y,R⟩:=gL (o:=i) v.cells.toList 0 w cur.toList d (by have:=b.1;simp only[Po] at*;omega) p;refine nc ?_;have s:v.cells.size=j.size:=by rw[N];simp
 have:(execOp a.eval o).run Tryz.prog w=.ok .skip w':=by
  simp[execOp,D,hA.val F,hA.val I,Instr.storeAt,Instr.sureAddr,storeVar,dT M,s,C]
 rw[this];refine h _ _ (hA.putE hp) (A.step k z r O P aa (λ j _ S=>R j (λ x=>S (by rw[x];rfl))) ?_ (λ Z u=>.inl u));refine sb b hl λ cs f=>?_;rw[c] at f;simp only[Na,Obj.cells.injEq,PJ] at f;subst f;exact q
variable {X:Cx} {Q:e6} {E E':Env} {H:Heap}
theorem JG{ops l:List Oper}{o:Oper}{v:Value}{E':Env}{H':Heap}(gs:LN_)(b:jN X.n ops gs E o v=some E')
 (c:∀ a w,gt X.n a E->dL X.w0 X.M w H->∃ w',(execOp a.eval o).run Tryz.prog w=.ok (.value v) w'/\dL X.w0 X.M w' H') (h:JL X ops l Q E' H'):JL X ops (o::l) Q E H:=by
 intro a w hA d;obtain⟨hg,hp⟩:=eb b;refine nd ?_
 left
 obtain⟨w',e,f⟩:=c a w hA d;refine nc ?_;rw[e];exact h _ _ (hA.putE hp) f
theorem xF{α:Type}{F:α->Env}{G:α->Heap}{f:α->Value}{ops l:List Oper}{o:Oper}(gs:LN_)(b:∀ x,jN X.n ops gs E o (f x)=some (F x))
 (c:∀ a w,gt X.n a E->dL X.w0 X.M w H->∃ x w',(execOp a.eval o).run Tryz.prog w=.ok (.value (f x)) w'/\dL X.w0 X.M w' (G x)) (h:∀ x,JL X ops l Q (F x) (G x)):JL X ops (o::l) Q E H:=by
 intro a w hA d;obtain⟨x,w',e,g⟩:=c a w hA d;obtain⟨hg,hp⟩:=eb (b x);refine nd ?_
 left
 refine nc ?_;rw[e];exact h x _ _ (hA.putE hp) g
theorem dL.addnil{w0 w:World}{M:LN_}(a:dL w0 M w H)(e sz:Nat):dL w0 M w (.own (.slice none 0 0) e sz 0 []::H):=
 a.grow rfl rfl rfl (Np _) (λ _ _=>rfl) (World.ownsRow_nil w 0 e sz) (λ b c=>by simp[aU.at_,Value.ownBlock] at c)
theorem b6{c:Code}(e sz:Nat)(h:J X c Q E (.own (.slice none 0 0) e sz 0 []::H)):J X c Q E H:=λ a w b d=>h a w b (d.addnil e sz)
theorem l5{ops l:List Oper}(e sz:Nat)(h:JL X ops l Q E (.own (.slice none 0 0) e sz 0 []::H)):JL X ops l Q E H:=λ a w b c=>h a w b (c.addnil e sz)
def made(z:LV_)(n:Nat):LV_:=(madeCells z.toArray n).toList
theorem kZ(z:LV_)(n:Nat):(made z n).length=n:=by simp[made,size_madeCells]
theorem db(v:Value)(n:Nat):made [v] n=List.replicate n v:=by
 apply Pl
 ·simp[kZ]
 ·intro i a b;simp[made,madeCells,Nat.mod_one]
theorem kv{t:Nat}{uk:UK}{sz a:Nat}{v:Value}(h:tab t=some ⟨uk,sz,a,some v⟩):∃ j,Tryz.prog.info? t=some j/\j.zero=some v/\j.size=sz/\j.bytes=a:=by
 obtain⟨d,j,_,hi,_,b,c,e⟩:=eR h;exact⟨j,hi,e v rfl,b,c⟩
theorem cY{F:Nat->Env}{ops l:List Oper}{o:Oper}{t e sz d p q n c:Nat}{x y:Operand}{k1 C:IntKind}{uk:UK}{v:Value}{z:Option Value}{zs:LV_}(K:o.op=.makeSlice t x y)
 (L:val E x=some (.int k1 (n:Int))) (M:val E y=some (.int C (c:Int))) (N:tab t=some ⟨.slice e,p,q,z⟩) (he:tab e=some ⟨uk,sz,d,some v⟩) (O:v.cells=zs.toArray)
 (g:n<=c) (R:c*d<=140737488355328) (S:c<=2147483648) (r:∀ b,jN X.n ops [] E o (.slice (some ⟨b,0,none⟩) n c)=some (F b))
 (h:∀ b,JL X ops l Q (F b) (.own (.slice (some ⟨b,0,none⟩) n c) e sz n (made zs (n*sz))::H)):JL X ops (o::l) Q E H:=by
 obtain⟨j,hi,s,m,u⟩:=kv he;refine xF (f:=λ b=>.slice (some ⟨b,0,none⟩) n c) (G:=λ b=>.own (.slice (some ⟨b,0,none⟩) n c) e sz n (made zs (n*sz))::H) [] r (λ a w D U=>?_) h
 have A:(j.bytes:Int)*(c:Int)<=281474976710656:=by
  have B:((d*c:Nat):Int)<=((140737488355328:Nat):Int):=Int.ofNat_le.2 (by rw[Nat.mul_comm];exact R);rw[Int.natCast_mul] at B;rw[u];exact PW B ab
 have I:=run_make (P:=Tryz.prog) w t e j v (eW N) hi s k1 C (n:Int) (c:Int) aa aa A aa;simp only[Nz] at I;refine⟨w.heap.size,w.alloc (.cells (madeCells v.cells (c*j.size)) e),by simp[execOp,K,D.val L,D.val M,I],?_⟩;refine U.grow rfl rfl rfl ai (λ k V=>vR w _ k V) ?_ (λ b r=>by simp only[aU.at_,Value.ownBlock,Na] at r;omega);refine⟨kZ _ _,.inr ⟨w.heap.size,c,_,rfl,Nk _,heap_alloc_new w _,g,by unfold maxLen;omega,by rw[size_madeCells,m],?_⟩⟩
 apply Pl
 ·simp only[ND,Po,size_madeCells,kZ,m];exact OX (Ou _ g)
 ·intro i Y B;simp[made,madeCells,O]
theorem Ef{F:Nat->Nat->Env}{ops l:List Oper}{o:Oper}{t e sz d L M n m cx b off:Nat}{s x:Operand}{uk:UK}{N v:Value}{z:Option Value}{xs news:LV_}{c2:aU}(k k2:Nat)
 (ho:o.op=.call ⟨.builtin .append,#[s,x],#[t,t]⟩) (hs:val E s=some v) (hx:val E x=some (.slice (some ⟨b,off,none⟩) m cx)) (ht:tab t=some ⟨.slice e,L,M,z⟩)
 (he:tab e=some ⟨uk,sz,d,some N⟩) (O:N.cells.size=sz) (R:0<sz) (hk:H[k]?=some (.own v e sz n xs)) (S:H[k2]?=some c2) (U:c2.shows b off news) (hl:news.length=m*sz) (h1:one news=true)
 (hm:0<m) (A:(n+m)*d<=140737488355328) (V:n+m<=2147483648) (hb:∀ g c,jN X.n ops [] E o (.slice (some ⟨g,0,none⟩) (n+m) c)=some (F g c))
 (h:∀ g c,JL X ops l Q (F g c) (H.set k (.own (.slice (some ⟨g,0,none⟩) (n+m) c) e sz (n+m) (xs++news)))):JL X ops (o::l) Q E H:=by
 obtain⟨j,hi,Y,Z,hR⟩:=kv he
 refine xF (α:=Nat×Nat) (f:=λ p=>.slice (some ⟨p.1,0,none⟩) (n+m) p.2) (F:=λ p=>F p.1 p.2)
  (G:=λ p=>H.set k (.own (.slice (some ⟨p.1,0,none⟩) (n+m) p.2) e sz (n+m) (xs++news))) [] (λ p=>hb p.1 p.2) (λ a w hA hH=>?_) (λ p=>h p.1 p.2)
 have B:w.ownsRow 0 e sz v n xs:=hH.holds _ (M9 hk);have r:=U w (hH.holds _ (M9 S))
 have C:∀ l:LV_,one l=true->∀ u∈l,u.oneCell'=true:=by
  intro l
  induction l with
  |nil=>intro _ u hu;cases hu
  |cons y l ih=>
   intro hl u hu;unfold one at hl;split at hl
   ·rename_i hy
    rcases Nl.1 hu with rfl|hu
    ·exact hy
    ·exact ih hl u hu
   ·cases hl
 obtain⟨g,cap,w',hr,h2,D,K,h5⟩:=run_append_lies (P:=Tryz.prog) w t o.type 0 e j N sz d (eW ht) hi Y Z hR O R v n xs B ⟨b,off,none⟩ m cx news hl
  (λ i u hu=>by rw[Addr.add_at];exact r i u hu) (C news h1) hm (by unfold maxLen;omega) A (Nk _) w.heap.size rfl
 refine⟨(g,cap),w',?_,?_⟩
 ·have hv:(Builtin.append_ #[t,t] o.type #[v,.slice (some ⟨b,off,none⟩) m cx]).run Tryz.prog w=.ok (.slice (some ⟨g,0,none⟩) (n+m) cap) w':=hr;simp[execOp,ho,resolve,invoke,builtin,hA.val hs,hA.val hx,hv]
 ·refine hH.step k hk D.os D.tape D.output D.size (fun q hq hz=>D.block q hq (fun x=>hz (by rw[x];rfl))) h2 (fun b' I=>?_);simp only[aU.at_,Value.ownBlock,Option.some.injEq] at I;subst I
  rcases K with K|K
  ·exact .inl K
  ·exact .inr aa
theorem vk(sz:Nat):∀ (vs:LV_) (k:Nat) (pre:LV_) (a:LV_),pre.length=k*sz->(∀ v∈vs,v.cells.size=sz)->a.length=vs.length*sz->
 Instr.fill (λ i=>some (i*sz,sz)) (pre++a).toArray (vs.zipIdx k|>.map λ (v,i)=>(i,v))=some (pre++vs.flatMap λ v=>v.cells.toList).toArray
 |[],k,pre,a,e,_,g=>by
  have:a=[]:=Nw.1 (by simpa using g);subst this;simp[Instr.fill]
 |v::vs,k,pre,a,e,h,g=>by
  have f:=h v ai;simp only[Nf,ON,Nat.one_mul] at g
  have d:∀ (cells:LV_) (base:Nat) (st:Nat) (A B:LV_),A.length=base+st->cells.length<=B.length->
   (cells.zipIdx st).foldl (λ (cs:Array Value) (p:Value×Nat)=>cs.setIfInBounds (base+p.2) p.1) (A++B).toArray=(A++cells++B.drop cells.length).toArray:=by
   intro cells
   induction cells with
   |nil=>intro base st A B _ _;simp
   |cons c cells n=>
    intro base st A B l m
    cases B with
    |nil=>simp at m
    |cons b B=>
     simp only[List.zipIdx_cons,OF]
     have o:(A++b::B).toArray.setIfInBounds (base+st) c=((A++[c])++B).toArray:=by
      simp[l]
     rw[o,n base (st+1) (A++[c]) B (by simp[l];omega) (by simpa using m)];simp
  simp only[List.zipIdx_cons,Ns];unfold Instr.fill;simp only[];have hlen:k*sz+v.cells.size<=(pre++a).toArray.size:=by simp[e,f];omega
  rw[if_neg (by simp[f];simp[e] at hlen;omega)];have q:=d v.cells.toList (k*sz) 0 pre a (by simp[e]) (by simp[f];omega)
  have r:v.cells.zipIdx.foldl (λ (cs:Array Value) (p:Value×Nat)=>cs.setIfInBounds (k*sz+p.2) p.1) (pre++a).toArray=(pre++v.cells.toList++a.drop v.cells.toList.length).toArray:=by
   rw[<- q,<- PX];simp
  have s:(v.cells.zipIdx.foldl (λ cs (x:Value×Nat)=>match x with|(c,j)=>cs.setIfInBounds (k*sz+j) c) (pre++a).toArray)=(pre++v.cells.toList++a.drop v.cells.toList.length).toArray:=r;rw[s];rw[vk sz vs (k+1) (pre++v.cells.toList) (a.drop v.cells.toList.length) (by simp[e,f,ON]) (λ u hu=>h u (by simp[hu])) (by simp[f];omega)];simp
def vp(ps:List (Nat×Value))(k sz:Nat):Option (LV_):=match ps with
 |[]=>some []
 |(i,v)::l=>match Nat.beq i k with
  |true=>match Nat.beq v.cells.toList.length sz with
   |true=>match vp l (k+1) sz with
    |some cs=>some (v.cells.toList++cs)
    |none=>none
   |false=>none
  |false=>none
theorem ue{sz:Nat}:∀ {ps:List (Nat×Value)} {k:Nat} {cs:LV_},vp ps k sz=some cs->
 ps=((ps.map (·.2)).zipIdx k|>.map λ (v,i)=>(i,v))/\(∀ v∈ps.map (·.2),v.cells.size=sz)/\cs=(ps.map (·.2)).flatMap λ v=>v.cells.toList
 |[],k,cs,h=>by simp[vp] at h;simp[h]
 |(i,v)::l,k,cs,h=>by
  unfold vp at h;split at h
  ·rename_i hi;split at h
   ·rename_i c;split at h
    ·rename_i d a;simp only[Option.some.injEq] at h;obtain⟨e,f,g⟩:=ue a;obtain rfl:=Nat.eq_of_beq_eq_true hi;have b:v.cells.size=sz:=by have:=Nat.eq_of_beq_eq_true c;simpa using this
     refine⟨?_,?_,?_⟩
     ·simp only[Ns,List.zipIdx_cons];rw[<- e]
     ·intro u hu;simp only[Ns,Nl] at hu
      rcases hu with rfl|hu
      ·exact b
      ·exact f u hu
     ·rw[<- h,g];simp
    ·cases h
   ·cases h
  ·cases h
def rA(E:Env):List (Nat×Operand)->Option (List (Nat×Value))
 |[]=>some []
 |(i,x)::l=>match val E x with
  |some v=>match rA E l with
   |some vs=>some ((i,v)::vs)
   |none=>none
  |none=>none
theorem gt.valsP{n:t6}{a:Act}(c:gt n a E):∀ (ps:List (Nat×Operand)) (vs:List (Nat×Value)),Proofs.YtmcnpaelaieniaaGreatDoor.rA E ps=some vs->ps.map (λ (i,x)=>(i,a.eval x))=vs
 |[],vs,h=>by simp[Proofs.YtmcnpaelaieniaaGreatDoor.rA] at h;simp[h]
 |(i,x)::l,vs,h=>by
  unfold Proofs.YtmcnpaelaieniaaGreatDoor.rA at h;split at h
  ·rename_i v d;split at h
   ·rename_i us b;simp only[Na] at h;subst h;simp[c.val d,c.valsP l us b]
   ·cases h
  ·cases h
theorem tw(gs:LN_){F:Nat->Env}{ops l:List Oper}{o:Oper}{t e n sz p q r:Nat}{ps:Array (Nat×Operand)}{vs:List (Nat×Value)}{uk:UK}{s:Value}{z:Option Value}{cs:LV_}(A:o.op=.buildSlice t n ps)
 (hp:rA E ps.toList=some vs) (v:tab t=some ⟨.slice e,q,r,z⟩) (he:tab e=some ⟨uk,sz,p,some s⟩) (B:vp vs 0 sz=some cs) (C:vs.length=n) (D:Nat.ble (n*sz) 65536=true)
 (G:∀ b,jN X.n ops gs E o (.slice (some ⟨b,0,none⟩) n n)=some (F b)) (h:∀ b,JL X ops l Q (F b) (blk b e cs::H)):JL X ops (o::l) Q E H:=by
 obtain⟨j,hi,u,I,K⟩:=kv he;refine xb (f:=λ b=>.slice (some ⟨b,0,none⟩) n n) gs (λ a w L _=>?_) G h;have M:=PF D;obtain⟨N,O,P⟩:=ue B;have R:=L.valsP _ _ hp;have S:(ps.map λ (i,x)=>(i,a.eval x)).toList=vs:=by rw[<- R];simp
 have y:∀ c:LV_,c.length=n*sz->Instr.fill (λ i=>some (i*sz,sz)) c.toArray vs=some cs.toArray:=by
  intro c U;have:=vk sz (vs.map (·.2)) 0 [] c ai O (by rw[U];simp[C]);rw[<- N,<- P] at this
  simpa using this
 have k:(Instr.buildSlice t n (ps.map λ (i,x)=>(i,a.eval x))).run Tryz.prog w=.ok (.slice (some ⟨w.heap.size,0,none⟩) n n) (w.alloc (.cells cs.toArray e)):=by
  unfold Instr.buildSlice;rw[S];by_cases m:n*sz=0
  ·have d:=y [] (by simp[m]);have:(Array.map (fun x=>(#[]:Array Value)[x%(#[]:Array Value).size]!) (Array.range (n*sz)))=[].toArray:=by rw[m];simp
   simp only[run_underlying (eW v),Sem.run_bind,Result.andThen_ok,dT he,if_neg (show ¬ n*sz>2^24 by omega),if_pos m,Sem.run_pure];rw[this,d];simp[newRow,newObj,Sem.run,World.alloc_eq]
  ·have d:=y ((Array.range (n*sz)).map (s.cells[·%s.cells.size]!)).toList ai;simp only[run_underlying (eW v),Sem.run_bind,Result.andThen_ok,dT he,if_neg (show ¬ n*sz>2^24 by omega),if_neg m,Sem.run_pure,zeroValue,typeInfo];simp only[Array.toArray_toList] at d;simp[hi,u,d,newRow,newObj,Sem.run,World.alloc_eq]
 have g:(Instr.buildSlice t n (ps.map λ x=>match x with|(i,x)=>(i,a.eval x))).run Tryz.prog w=.ok (.slice (some ⟨w.heap.size,0,none⟩) n n) (w.alloc (.cells cs.toArray e)):=k;simp[execOp,A,g]
theorem b5{F:Nat->Env}{ops l:List Oper}{o:Oper}{t e n sz a c d:Nat}{ps:Array (Nat×Operand)}{vs:List (Nat×Value)}{uk:UK}{f:Value}{z:Option Value}{cs:LV_}(g:o.op=.buildSlice t n ps)
 (hp:rA E ps.toList=some vs) (i:tab t=some ⟨.slice e,c,d,z⟩) (he:tab e=some ⟨uk,sz,a,some f⟩) (j:vp vs 0 sz=some cs) (k:vs.length=n) (m:Nat.ble (n*sz) 65536=true)
 (p:∀ b,jN X.n ops [] E o (.slice (some ⟨b,0,none⟩) n n)=some (F b)) (h:∀ b,JL X ops l Q (F b) (blk b e cs::H)):JL X ops (o::l) Q E H:=
 tw [] g hp i he j k m p h
variable {X:Cx} {Q:e6} {E E':Env} {H:Heap}
noncomputable def eg(f:FuncId):Bool:=match Tryz.prog.funcs[f]? with
 |some fn=>!(fn.name== "runtime.NumGoroutine")&&fn.body.isSome
 |none=>false
theorem iR{f:FuncId}(h:eg f=true)(args:Array Value)(w:World):(callFunc f args).run Tryz.prog w=.ok (.enter f args) w:=by
 unfold eg at h;split at h
 ·rename_i fn a;simp only[Bool.and_eq_true,Bool.not_eq_true'] at h;have b:fn.body≠none:=by intro c;rw[c] at h;simp at h
  have d:¬ fn.name= "runtime.NumGoroutine" :=by have:=h.1;simpa using this
  simp[callFunc,program,Sem.run,a,d,b]
 ·cases h
def jj(H:Heap)(ix:LN_):Heap->Prop
 |[]=>True
 |.seg b off vs::S=>(∃ k c,k∉ix/\H[k]?=some c/\c.shows b off vs/\(vs=[]\/c.at_=some b))/\jj H ix S
 |.tab b o::S=>(∃ k,k∉ix/\H[k]?=some (.tab b o))/\jj H ix S
 |_=>False
theorem jj.holds{ix:LN_}{w:World}:∀ {S:Heap},jj H ix S->(∀ c∈H,c.holds w)->∀ s∈S,s.holds w
 |[],_,_,s,a=>by cases a
 |.seg b off vs::S,h,d,s,a=>by
  obtain⟨⟨k,c,_,e,g,_⟩,f⟩:=h
  rcases Nl.1 a with rfl|a
  ·exact g w (d c (M9 e))
  ·exact jj.holds f d s a
 |.tab b o::S,h,d,s,a=>by
  obtain⟨⟨k,_,e⟩,f⟩:=h
  rcases Nl.1 a with rfl|a
  ·exact d _ (M9 e)
  ·exact jj.holds f d s a
 |.obj ..::_,h,_,_,_=>h.elim
 |.own ..::_,h,_,_,_=>h.elim
theorem jj.apart{ix:LN_}(n:H.Pairwise apart):∀ {S:Heap},jj H ix S->∀ s∈S,s.mine=none/\∀ i∈ix,∀ c,H[i]?=some c->Proofs.YtmcnpaelaieniaaGreatDoor.apart s c
 |[],_,s,f=>by cases f
 |.seg b off vs::S,h,s,f=>by
  obtain⟨⟨k,c,g,p,_,a⟩,q⟩:=h
  rcases Nl.1 f with rfl|f
  ·refine⟨rfl,fun i hi d j=>⟨fun u l=>by simp[aU.mine] at l,fun u l m=>?_⟩⟩;have r:=fU n p j (fun e=>g (e▸hi));simp only[aU.at_] at m;split at m
   ·cases m
   ·rename_i t;simp only[Na] at m;subst m
    rcases a with a|a
    ·exact t a
    ·exact r.2 _ l a
  ·exact jj.apart n q s f
 |.tab b o::S,h,s,f=>by
  obtain⟨⟨k,g,p⟩,q⟩:=h
  rcases Nl.1 f with rfl|f
  ·exact⟨rfl,λ i hi d j=>fU n p j (λ e=>g (e▸hi))⟩
  ·exact jj.apart n q s f
 |.obj ..::_,h,_,_=>h.elim
 |.own ..::_,h,_,_=>h.elim
def f5:Heap->Bool
 |[]=>true
 |.seg ..::_=>false
 |.tab ..::_=>false
 |_::l=>f5 l
theorem pI:∀ {H:Heap},f5 H=true->∀ c∈H,c.mine=c.at_
 |[],_,c,a=>by cases a
 |.seg ..::_,h,_,_=>by simp[f5] at h
 |.tab ..::_,h,_,_=>by simp[f5] at h
 |.obj b o::l,h,c,a=>by
  rcases Nl.1 a with rfl|a
  ·rfl
  ·exact pI (H:=l) h c a
 |.own ..::l,h,c,a=>by
  rcases Nl.1 a with rfl|a
  ·rfl
  ·exact pI (H:=l) h c a
theorem dL.hand{w0 w:World}{M:LN_}(e:dL w0 M w H){ix:LN_}{S C:Heap}{Mc:LN_}(f:jj H ix S)(g:ix.Nodup)(hC:Proofs.YtmcnpaelaieniaaGreatDoor.cI H ix=some C)(hM:∀ c∈C,∀ b,c.mine=some b->b∈Mc):dL w Mc w (S++C):=by
 refine⟨rfl,rfl,rfl,Np _,λ _ _ _=>rfl,λ c a=>?_,λ c a b d=>?_,?_⟩
 ·rcases Nm.1 a with a|a
  ·exact f.holds e.holds c a
  ·obtain⟨i,_,hi⟩:=gT hC c a;exact e.holds c (M9 hi)
 ·rcases Nm.1 a with a|a
  ·have:=(f.apart e.dis c a).1;rw[this] at d;cases d
  ·exact .inr (hM c a b d)
 ·refine Oc.2 ⟨?_,iU e.dis g hC,λ s k c a=>?_⟩
  ·rw[N6];intro i j hi l _;have m:=(f.apart e.dis _ (Ox hi)).1;have n:=(f.apart e.dis _ (Ox l)).1;refine⟨λ b d=>?_,λ b d=>?_⟩
   ·rw[m] at d;simp at d
   ·rw[n] at d;simp at d
  ·obtain⟨i,hi,h⟩:=gT hC c a;exact (f.apart e.dis s k).2 i hi c h
theorem dL.back{w0 w w':World}{M:LN_}(l:dL w0 M w H){ix rest:LN_}{C K H':Heap}{Mc:LN_}(hC:Proofs.YtmcnpaelaieniaaGreatDoor.cI H ix=some C)(v:∀ b∈Mc,∃ c∈C,c.mine=some b)
 (u:Proofs.YtmcnpaelaieniaaGreatDoor.cI H rest=some K) (x:rest.Nodup) (s:∀ i∈rest,i∉ix) (p:dL w Mc w' H') (L:f5 H'=true):dL w0 M w' (H'++K):=by
 have g:∀ b∈Mc,∃ i∈ix,∃ c,H[i]?=some c/\c.mine=some b:=by
  intro b f;obtain⟨c,a,n⟩:=v b f;obtain⟨i,hi,o⟩:=gT hC c a;exact⟨i,hi,c,o,n⟩
 have h:∀ d∈K,∀ b,d.at_=some b->b<w.heap.size/\b∉Mc:=by
  intro d y b f;obtain⟨j,N,m⟩:=gT u d y;refine⟨aU.at_lt (l.holds d (M9 m)) f,λ z=>?_⟩;obtain⟨i,hi,c,o,n⟩:=g b z;exact (fU l.dis o m (λ e=>s j N (e▸hi))).1 b n f
 refine⟨p.os.trans l.os,p.tape.trans l.tape,p.output.trans l.output,Ot l.size p.size,λ k G t=>?_,λ c a=>?_,λ c a b f=>?_,?_⟩
 ·have A:=Pa G l.size
  have:k∉Mc:=by
   intro B;obtain⟨i,_,c,o,n⟩:=g k B
   rcases l.own c (M9 o) k n with q|q
   ·omega
   ·exact t q
  exact (p.keep k A this).trans (l.keep k G t)
 ·rcases Nm.1 a with a|a
  ·exact p.holds c a
  ·obtain⟨j,_,m⟩:=gT u c a;exact aU.holds_of (l.holds c (M9 m)) λ b f=>p.keep b (h c a b f).1 (h c a b f).2
 ·rcases Nm.1 a with a|a
  ·rcases p.own c a b f with q|q
   ·exact .inl (Ot l.size q)
   ·obtain⟨i,_,d,hid,r⟩:=g b q;exact l.own d (M9 hid) b r
  ·obtain⟨j,_,m⟩:=gT u c a;exact l.own c (M9 m) b f
 ·refine Oc.2 ⟨p.dis,iU l.dis x u,λ c a d y=>?_⟩;have D:=pI L c a
  have key:∀ b,c.at_=some b->d.at_≠some b:=by
   intro b f r;rw[<- D] at f;obtain⟨q,F⟩:=h d y b r
   rcases p.own c a b f with I|I
   ·omega
   ·exact F I
  exact⟨λ b f=>key b (aU.mine_at f),λ b f F=>key b F (aU.mine_at f)⟩
theorem yb{o:Oper}{f:Operand}{args:Array Operand}{ts:Array TypeId}{g:FuncId}{fst cap vs:LV_}{n:t6}{a:Act}(b:gt n a E)(c:o.op=.call ⟨.value f,args,ts⟩)
 (d:val E f=some (.func (.func g) fst.toArray cap.toArray)) (e:vals E args.toList=some vs) (h:eg g=true) (w:World):
 (execOp a.eval o).run Tryz.prog w=.ok (.enter g (fst++vs++cap).toArray) w:=by
 have i:args.map a.eval=vs.toArray:=by rw[<- b.vals _ _ e];exact Array.ext' ai
 simp[execOp,c,resolve,Deferred.ofValue,invoke,b.val d,i,iR h]
theorem CH{F:Value->Env}{ops l:List Oper}{o:Oper}{f:Operand}{args:Array Operand}{ts:Array TypeId}{g:FuncId}{fst cap vs d:LV_}{R:Value->Heap->Prop}{S C K:Heap}{Mc:LN_}(ix rest:LN_)(gs:LN_)
 (T:Fn g d Mc (S++C) R) (s:o.op=.call ⟨.value f,args,ts⟩) (t:val E f=some (.func (.func g) fst.toArray cap.toArray)) (u:vals E args.toList=some vs) (has:fst++vs++cap=d) (x:eg g=true)
 (y:jj H ix S) (k:ix.Nodup) (hC:cI H ix=some C) (hM:∀ c∈C,∀ b,c.mine=some b->b∈Mc) (m:∀ b∈Mc,∃ c∈C,c.mine=some b)
 (z:cI H rest=some K) (p:rest.Nodup) (j:∀ i∈rest,i∉ix) (q:∀ v,jN X.n ops gs E o v=some (F v)) (h:∀ v H',R v H'->f5 H'=true/\JL X ops l Q (F v) (H'++K)):JL X ops (o::l) Q E H:=by
 intro a w hA r;have hg:=(eb (q undef)).1;refine nd ?_
 left
 refine nc ?_;rw[yb hA s t u x w,has];refine (T w (r.hand y k hC hM)).mono ?_;rintro e w' ⟨v,H',rfl,A,B⟩;obtain⟨D,I⟩:=h v H' B;exact I _ _ (hA.putE (eb (q v)).2) (r.back hC m z p j A D)
theorem sO(H:Heap):cI H (List.range H.length)=some H:=by
 have key:∀ (K:Heap) (i:Nat),(∀ j,H[i+j]?=K[j]?)->cI H (List.range' i K.length)=some K:=by
  intro K
  induction K with
  |nil=>intro i _;rfl
  |cons c K a=>
   intro i hi;have b:H[i]?=some c:=by simpa using hi 0
   rw[Nf,List.range'_succ];unfold cI;rw[b,a (i+1) (λ j=>by have:=hi (j+1);simpa [N3,PY 1] using this)]
 rw[List.range_eq_range'];exact key H 0 (λ j=>by simp)
theorem bj{F:Value->Env}{ops l:List Oper}{o:Oper}{f:Operand}{args:Array Operand}{ts:Array TypeId}{g:FuncId}{fst cap vs a:LV_}{R:Value->Heap->Prop}{S:Heap}(gs:LN_)
 (T:Fn g a [] S R) (i:o.op=.call ⟨.value f,args,ts⟩) (j:val E f=some (.func (.func g) fst.toArray cap.toArray)) (k:vals E args.toList=some vs) (has:fst++vs++cap=a) (d:eg g=true)
 (m:jj H [] S) (e:∀ v,jN X.n ops gs E o v=some (F v)) (h:∀ v H',R v H'->f5 H'=true/\JL X ops l Q (F v) (H'++H)):JL X ops (o::l) Q E H:=
 CH (C:=[]) (K:=H) [] (List.range H.length) gs (by simpa using T) i j k has d m PG rfl (λ c d=>by cases d) (λ b e=>by cases e) (sO H) OS (λ _ _ h=>by cases h) e h
theorem uW{F:Value->Env}{ops l:List Oper}{o:Oper}{f:Operand}{args:Array Operand}{ts:Array TypeId}{g:FuncId}{fst cap vs args':LV_}{R:Value->Heap->Prop}{S:Heap}(gs:LN_)
 (T:Fn g args' [] S R) (h1:(o.op,val E f,vals E args.toList,fst++vs++cap)=(.call ⟨.value f,args,ts⟩,some (.func (.func g) fst.toArray cap.toArray),some vs,args')) (hc:eg g=true)
 (hS:jj H [] S) (hb:∀ v,jN X.n ops gs E o v=some (F v)) (h:∀ v H',R v H'->f5 H'=true/\JL X ops l Q (F v) (H'++H)):JL X ops (o::l) Q E H:=by
 simp only[N1] at h1;exact bj gs T h1.1 h1.2.1 h1.2.2.1 h1.2.2.2 hc hS hb h
variable {X:Cx} {Q:e6} {E E':Env} {H:Heap}
structure eq where
 fr:Int
 to:Int
 cap:Int
def aj(l:LI_):LV_:=l.map (.int .i64)
def dK(l:LB_):LV_:=l.map .bool
def arcs(l:List eq):LV_:=l.flatMap λ a=>[.int .i64 a.fr,.int .i64 a.to,.int .i64 a.cap]
theorem bU(l:LI_):(aj l).length=l.length:=by simp[aj]
theorem ep{l:LI_}{i:Nat}{x:Int}(h:l[i]?=some x):(aj l)[i]?=some (.int .i64 x):=by simp[aj,h]
theorem iC{l:LB_}{i:Nat}{x:Bool}(h:l[i]?=some x):(dK l)[i]?=some (.bool x):=by simp[dK,h]
theorem gA:∀ {l:List eq} {i:Nat} {x:eq},l[i]?=some x->(arcs l)[i*3]?=some (.int .i64 x.fr)/\(arcs l)[i*3+1]?=some (.int .i64 x.to)/\(arcs l)[i*3+2]?=some (.int .i64 x.cap)
 |[],i,x,h=>by simp at h
 |a::l,0,x,h=>by simp at h;subst h;simp[arcs]
 |a::l,i+1,x,h=>by
  have b:=gA (l:=l) (i:=i) (x:=x) (by simpa using h);have e:arcs (a::l)=[.int .i64 a.fr,.int .i64 a.to,.int .i64 a.cap]++arcs l:=by simp[arcs]
  have c:(i+1)*3=i*3+3:=aa;rw[e,c];refine⟨?_,?_,?_⟩
  ·rw[Nu ai];simpa using b.1
  ·rw[Nu ai];simpa using b.2.1
  ·rw[Nu ai];simpa using b.2.2
theorem oN(n:Nat):made [.int .i64 0] (n*1)=aj (List.replicate n 0):=by simp[db,aj]
theorem B0(n:Nat):made [.bool false] (n*1)=dK (List.replicate n false):=by simp[db,dK]
theorem GO(l:LI_)(i:Nat)(x:Int):(aj l).set i (.int .i64 x)=aj (l.set i x):=by simp[aj]
theorem DV(l:LB_)(i:Nat)(x:Bool):(dK l).set i (.bool x)=dK (l.set i x):=by simp[dK]
theorem fF{t a i:Nat}{uk:UK}{z:Option Value}{l:LI_}{x:Int}(b:tab t=some ⟨uk,1,a,z⟩)(hi:i<l.length):rp t (aj l) i (Value.int .i64 x).cells.toList=some (aj (l.set i x)):=by
 unfold rp;rw[b];have c:Nat.ble (i+1) (aj l).length=true:=Nat.ble_eq_true_of_le (by rw[bU];omega);simp only[Value.cells,Nf,NA,NO,Nat.beq_refl,c,one,Value.oneCell',wr,GO]
theorem kt{t a i:Nat}{uk:UK}{z:Option Value}{l:LB_}{x:Bool}(b:tab t=some ⟨uk,1,a,z⟩)(hi:i<l.length):rp t (dK l) i (Value.bool x).cells.toList=some (dK (l.set i x)):=by
 unfold rp;rw[b];have c:Nat.ble (i+1) (dK l).length=true:=Nat.ble_eq_true_of_le (by simp[dK];omega);simp only[Value.cells,Nf,NA,NO,Nat.beq_refl,c,one,Value.oneCell',wr,DV]
theorem jm{l:List eq}{m:Nat}{a:eq}(h:l[m]?=some a):fP 37 (arcs l) (m*3)=some (.agg #[.int .i64 a.fr,.int .i64 a.to,.int .i64 a.cap]):=by
 obtain⟨b,c,d⟩:=gA h;show (match eD (arcs l) (m*3) 3 with|some l=>some (Value.agg l.toArray)|none=>none)=_
 have:eD (arcs l) (m*3) 3=some [.int .i64 a.fr,.int .i64 a.to,.int .i64 a.cap]:=by
  unfold eD;rw[b];unfold eD;rw[c];unfold eD;rw[d];unfold eD;rfl
 rw[this]
theorem b7{l:LI_}{m:Nat}{x:Int}(h:l[m]?=some x):fP 2 (aj l) m=some (.int .i64 x):=ep h
theorem bq{l:LI_}{m:Nat}{x:Int}(h:l[m]?=some x):fP 3 (aj l) m=some (.int .i64 x):=ep h
theorem Da{o:Oper}{t d:Nat}{x y:Operand}{k:IntKind}{a b:Int}(e:o.op=.binOp .rem t x y d)(f:val E x=some (.int k a))(g:val E y=some (.int k b))(h:b≠0):
 i7 X o E H (.int k (a.tmod b)):=by
 intro ac w c i;simp[execOp,e,c.val f,c.val g,jC,binOp,Op.intDiv,h]
theorem JC{o:Oper}{t d:Nat}{x y:Operand}{k e:IntKind}{a:Int}{b:Nat}(f:o.op=.binOp .shl t x y d)(g:val E x=some (.int k a))(h:val E y=some (.int e (b:Int))):
 i7 X o E H (.int k (k.wrap (a*2^(min b k.bits)))):=by
 intro ac w c j;have i:¬ ((b:Int)<0):=aa;simp[execOp,f,c.val g,c.val h,jC,binOp,Op.shift,i]
theorem I9{o:Oper}{t d:Nat}{x y:Operand}{k e:IntKind}{a:Int}{b:Nat}(f:o.op=.binOp .shr t x y d)(g:val E x=some (.int k a))(h:val E y=some (.int e (b:Int))):
 i7 X o E H (.int k (a.fdiv (2^(min b k.bits)))):=by
 intro ac w c j;have i:¬ ((b:Int)<0):=aa;simp[execOp,f,c.val g,c.val h,jC,binOp,Op.shift,i]
theorem tC{o:Oper}{t b off n c e sz a d m:Nat}{x ix:Operand}{k:IntKind}{z f:Option Value}{uk:UK}(g:o.op=.indexAddr t x ix)(h:val E x=some (.slice (some ⟨b,off,none⟩) n c))
 (hi:val E ix=some (.int k (m:Int))) (i:tab t=some ⟨.slice e,sz,a,z⟩) (he:tab e=some ⟨uk,1,d,f⟩) (hm:m<n):i7 X o E H (.pointer (some ⟨b,off+m,none⟩)):=by
 have:=oG (X:=X) (H:=H) g h hi i he hm
 simpa using this
theorem hU{o:Oper}{t b off n c e sz by_ by' m:Nat}{x ix:Operand}{k:IntKind}{z z':Option Value}{uk:UK}(h:(o.op,val E x,val E ix,tab t,tab e)=(.indexAddr t x ix,some (.slice (some ⟨b,off,none⟩) n c),some (.int k (m:Int)),some ⟨.slice e,sz,by_,z⟩,some ⟨uk,1,by',z'⟩))(hm:m<n):i7 X o E H (.pointer (some ⟨b,off+m,none⟩)):=by
 simp only[N1] at h;exact tC h.1 h.2.1 h.2.2.1 h.2.2.2.1 h.2.2.2.2 hm
theorem ij{o:Oper}{t b n c e sz a d m:Nat}{x ix:Operand}{k:IntKind}{z f:Option Value}{uk:UK}(g:o.op=.indexAddr t x ix)(h:val E x=some (.slice (some ⟨b,0,none⟩) n c))
 (hi:val E ix=some (.int k (m:Int))) (i:tab t=some ⟨.slice e,sz,a,z⟩) (he:tab e=some ⟨uk,1,d,f⟩) (hm:m<n):i7 X o E H (.pointer (some ⟨b,m,none⟩)):=by
 have:=oG (X:=X) (H:=H) g h hi i he hm
 simpa using this
theorem bG{o:Oper}{t b n c e sz by_ by' m:Nat}{x ix:Operand}{k:IntKind}{z z':Option Value}{uk:UK}(h:(o.op,val E x,val E ix,tab t,tab e)=(.indexAddr t x ix,some (.slice (some ⟨b,0,none⟩) n c),some (.int k (m:Int)),some ⟨.slice e,sz,by_,z⟩,some ⟨uk,1,by',z'⟩))(hm:m<n):i7 X o E H (.pointer (some ⟨b,m,none⟩)):=by
 simp only[N1] at h;exact ij h.1 h.2.1 h.2.2.1 h.2.2.2.1 h.2.2.2.2 hm
theorem Ku{o:Oper}{t b off n c e sz a d s m:Nat}{x ix:Operand}{k:IntKind}{z f:Option Value}{uk:UK}(g:o.op=.indexAddr t x ix)(h:val E x=some (.slice (some ⟨b,off,none⟩) n c))
 (hi:val E ix=some (.int k (m:Int))) (i:tab t=some ⟨.slice e,sz,a,z⟩) (he:tab e=some ⟨uk,s,d,f⟩) (hm:m<n):i7 X o E H (.pointer (some ⟨b,off+m*s,none⟩)):=
 oG (X:=X) (H:=H) g h hi i he hm
theorem j9{o:Oper}{t b off n c e sz by_ by' s m:Nat}{x ix:Operand}{k:IntKind}{z z':Option Value}{uk:UK}(h:(o.op,val E x,val E ix,tab t,tab e)=(.indexAddr t x ix,some (.slice (some ⟨b,off,none⟩) n c),some (.int k (m:Int)),some ⟨.slice e,sz,by_,z⟩,some ⟨uk,s,by',z'⟩))(hm:m<n):i7 X o E H (.pointer (some ⟨b,off+m*s,none⟩)):=by
 simp only[N1] at h;exact Ku h.1 h.2.1 h.2.2.1 h.2.2.2.1 h.2.2.2.2 hm
theorem wQ{o:Oper}{t b n c e sz a d s m:Nat}{x ix:Operand}{k:IntKind}{z f:Option Value}{uk:UK}(g:o.op=.indexAddr t x ix)(h:val E x=some (.slice (some ⟨b,0,none⟩) n c))
 (hi:val E ix=some (.int k (m:Int))) (i:tab t=some ⟨.slice e,sz,a,z⟩) (he:tab e=some ⟨uk,s,d,f⟩) (hm:m<n):i7 X o E H (.pointer (some ⟨b,m*s,none⟩)):=by
 have:=oG (X:=X) (H:=H) g h hi i he hm
 simpa using this
theorem eu{o:Oper}{t b n c e sz by_ by' s m:Nat}{x ix:Operand}{k:IntKind}{z z':Option Value}{uk:UK}(h:(o.op,val E x,val E ix,tab t,tab e)=(.indexAddr t x ix,some (.slice (some ⟨b,0,none⟩) n c),some (.int k (m:Int)),some ⟨.slice e,sz,by_,z⟩,some ⟨uk,s,by',z'⟩))(hm:m<n):i7 X o E H (.pointer (some ⟨b,m*s,none⟩)):=by
 simp only[N1] at h;exact wQ h.1 h.2.1 h.2.2.1 h.2.2.2.1 h.2.2.2.2 hm
theorem fA{o:Oper}{t b off p i:Nat}{x:Operand}{vs:LV_}{v:Value}(k:Nat)(a:o.op=.load t x)(c:val E x=some (.pointer (some ⟨b,p,none⟩)))
 (d:H[k]?=some (.seg b off vs)) (hp:p=off+i) (e:fP t vs i=some v):i7 X o E H v:=Jq k a (by rw[c,hp]) d e
theorem a7{o:Oper}{t b off p i:Nat}{x:Operand}{vs:LV_}{v:Value}(k:Nat)(h:(o.op,val E x,H[k]?)=(.load t x,some (.pointer (some ⟨b,p,none⟩)),some (.seg b off vs)))(hp:p=off+i)(hv:fP t vs i=some v):i7 X o E H v:=by
 simp only[N1] at h;exact fA k h.1 h.2.1 h.2.2 hp hv
theorem hZ{c:Code}{K:Heap}(l:LN_)(hl:l.Nodup)(b:cI H l=some K)(h:J X c Q E K):J X c Q E H:=λ a w d e=>h a w d (e.picks l hl b)
theorem cv{n:Int}(h:-9223372036854775808<=n/\n<=9223372036854775807):IntKind.i64.wrap n=n:=by rw[IntKind.wrap_i64];omega
end Go.Proofs.YtmcnpaelaieniaaGreatDoor
