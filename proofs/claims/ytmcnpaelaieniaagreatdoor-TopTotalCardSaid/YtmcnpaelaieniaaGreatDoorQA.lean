import Derived.Test.YtmcnpaelaieniaaGreatDoorProg
import Derived.Below
import Derived.Scope
import Derived.Deep.QuietTactic
import Derived.Deep.LoopGhost
import Derived.StillTailTactics
import Derived.Laws.MakeOwn
import Derived.Laws.OwnMore
import Derived.Test.YtmcnpaelaieniaaGreatDoorMac
import Derived.Deep.AppendLies
/- A part of the proof. -/
set_option linter.unusedVariables false
set_option linter.unusedSimpArgs false
namespace Go.Proofs.YtmcnpaelaieniaaGreatDoor
open Go.RowKit
abbrev Env:=List (Nat×Value)
def ij:Env->Nat->Option Value
 |[],_=>none
 |(t,v)::E,u=>bif Nat.beq t u then some v else ij E u
def val(E:Env):Operand->Option Value
 |.tmp t=>ij E t
 |.const v=>some v
 |.func f=>some (.func (.func f) #[] #[])
 |.global g=>some (.pointer (some ⟨g,0,none⟩))
def vals(E:Env):List Operand->Option (LV_)
 |[]=>some []
 |x::xs=>match val E x with
  |some v=>match vals E xs with
   |some vs=>some (v::vs)
   |none=>none
  |none=>none
structure uT where
 len:Nat
 ds:List Deferred
structure gz (n:uT) (a:Act) (E:Env):Prop where
 size:a.tmps.size=n.len
 defers:a.defers=n.ds
 get:∀ t v,ij E t=some v->a.tmps[t]?=some v
theorem gz.val{n:uT}{a:Act}{E:Env}(h:gz n a E){x:Operand}{v:Value}(b:val E x=some v):a.eval x=v:=by
 cases x with
 |tmp t=>
  have:=h.get t v b;simp[Act.eval,O8,this]
 |const u=>simpa [Act.eval,Proofs.YtmcnpaelaieniaaGreatDoor.val] using b
 |global g=>simpa [Act.eval,Proofs.YtmcnpaelaieniaaGreatDoor.val] using b
 |func f=>simpa [Act.eval,Proofs.YtmcnpaelaieniaaGreatDoor.val] using b
theorem gz.vals{n:uT}{a:Act}{E:Env}(h:gz n a E):∀ (xs:List Operand) (vs:LV_),vals E xs=some vs->xs.map a.eval=vs
 |[],vs,b=>by simp[Proofs.YtmcnpaelaieniaaGreatDoor.vals] at b;simp[b]
 |x::xs,vs,b=>by
  unfold Proofs.YtmcnpaelaieniaaGreatDoor.vals at b;split at b
  ·rename_i v d;split at b
   ·rename_i us c;simp only[Nc] at b;subst b;simp[h.val d,h.vals xs us c]
   ·cases b
  ·cases b
theorem gz.put{n:uT}{a:Act}{E:Env}(h:gz n a E){d:Nat}(b:d<n.len)(v:Value):gz n (a.put (some d) v) ((d,v)::E):=by
 refine⟨by simp[Act.put,h.size],h.defers,λ t u hu=>?_⟩;unfold ij at hu;by_cases e:d=t
 ·subst e;simp only[Nat.beq_refl,cond_true] at hu;simp only[Nc] at hu;subst hu;simp[Act.put,h.size,b]
 ·have:Nat.beq d t=false:=by
   cases c:Nat.beq d t with
   |false=>rfl
   |true=>exact absurd (Om c) e
  rw[this] at hu;simp only[cond_false] at hu;have:=h.get t u hu;simp only[Act.put];rw[Array.getElem?_setIfInBounds_ne e];exact this
def nn(E:Env):Env->Prop
 |[]=>True
 |(t,v)::F=>ij E t=some v/\nn E F
theorem gz.ents{n:uT}{a:Act}{E:Env}(h:gz n a E):∀ F,nn E F->gz n a F
 |[],_=>⟨h.size,h.defers,λ t v e=>by simp[ij] at e⟩
 |(t,v)::F,d=>by
  have f:=h.ents F d.2;refine⟨h.size,h.defers,λ u x b=>?_⟩;unfold ij at b
  cases c:Nat.beq t u with
  |true=>
   rw[c] at b;simp only[cond_true,Nc] at b;obtain rfl:=Om c;subst b;exact h.get _ _ d.1
  |false=>
   rw[c] at b;exact f.get u x b
inductive aY where
 |obj (b:Nat) (o:Obj)
 |seg (b off:Nat) (vs:LV_)
 |own (v:Value) (e sz n:Nat) (xs:LV_)
 |tab (b:Nat) (o:Obj)
abbrev Heap:=List aY
@[reducible] def blk (b e:Nat) (cs:LV_):aY:=.obj b (.cells cs.toArray e (0,0))
def aY.holds(w:World):aY->Prop
 |.obj b o=>w.heap[b]?=some o
 |.seg b off vs=>∀ i v,vs[i]?=some v->w.cell? ⟨b,off+i,none⟩=some v
 |.own v e sz n xs=>w.ownsRow 0 e sz v n xs
 |.tab b o=>w.heap[b]?=some o
def aY.mine:aY->Option Nat
 |.obj b _=>some b
 |.seg ..=>none
 |.own v ..=>v.ownBlock
 |.tab ..=>none
def aY.at_:aY->Option Nat
 |.obj b _=>some b
 |.seg b _ vs=>if vs=[] then none else some b
 |.own v ..=>v.ownBlock
 |.tab b _=>some b
def apart(c d:aY):Prop:=(∀ b,c.mine=some b->d.at_≠some b)/\(∀ b,d.mine=some b->c.at_≠some b)
structure dN (w0:World) (M:LN_) (w:World) (H:Heap):Prop where
 os:w.os=w0.os
 tape:w.tape=w0.tape
 output:w.output=w0.output
 size:w0.heap.size<=w.heap.size
 keep:∀ k,k<w0.heap.size->k∉M->w.heap[k]?=w0.heap[k]?
 holds:∀ c∈H,c.holds w
 own:∀ c∈H,∀ b,c.mine=some b->w0.heap.size<=b\/b∈M
 dis:H.Pairwise apart
theorem qk{c d:aY}(h:apart c d):apart d c:=⟨h.2,h.1⟩
theorem dN.drew{w0:World}{M:LN_}{w:World}{H:Heap}(h:dN w0 M w H):dN w0 M { w with drawn:=w.drawn+1 } H:=
 ⟨h.os,h.tape,h.output,h.size,h.keep,λ c a=>by have:=h.holds c a;cases c<;>exact this,h.own,h.dis⟩
theorem aY.at_lt{w:World}{c:aY}(h:c.holds w){b:Nat}(a:c.at_=some b):b<w.heap.size:=by
 cases c with
 |obj f o=>simp[aY.at_] at a;subst a;exact (OL.1 h).1
 |seg f off vs=>
  simp only[aY.at_] at a;split at a
  ·cases a
  ·rename_i d;simp only[Nc] at a;subst a
   cases vs with
   |nil=>exact absurd rfl d
   |cons v vs=>
    have:=h 0 v rfl;exact World.block_lt_of_cell? w _ this
 |own v e sz n xs=>exact (World.ownsRow.lt h b a).2
 |tab f o=>simp[aY.at_] at a;subst a;exact (OL.1 h).1
theorem aY.mine_at{c:aY}{b:Nat}(h:c.mine=some b):c.at_=some b:=by
 cases c with
 |obj=>exact h
 |seg=>simp[aY.mine] at h
 |own=>exact h
 |tab=>simp[aY.mine] at h
theorem aY.holds_of{w w':World}{c:aY}(h:c.holds w)(d:∀ b,c.at_=some b->w'.heap[b]?=w.heap[b]?):c.holds w':=by
 cases c with
 |obj b o=>exact (d b rfl).trans h
 |seg b off vs=>
  intro i v j;have f:vs≠[]:=by rintro rfl;simp at j
  have:(aY.seg b off vs).at_=some b:=by simp[aY.at_,f]
  rw[World.cell?_of_block (a:=⟨b,off+i,none⟩) (d b this)];exact h i v j
 |own v e sz n xs=>
  refine⟨h.1,?_⟩
  rcases h.2 with k|⟨g,cap,cur,rfl,l,m,p⟩
  ·exact .inl k
  ·exact .inr ⟨g,cap,cur,rfl,l,(d g rfl).trans m,p⟩
 |tab b o=>exact (d b rfl).trans h
theorem dN.mono{w0:World}{M:LN_}{w:World}{H K:Heap}(h:dN w0 M w H)(b:∀ c∈K,c∈H)(d:K.Pairwise apart):dN w0 M w K:=
 ⟨h.os,h.tape,h.output,h.size,h.keep,λ c a=>h.holds c (b c a),λ c a=>h.own c (b c a),d⟩
def cK(H:Heap):LN_->Option Heap
 |[]=>some []
 |i::l=>match H[i]? with
  |some c=>match cK H l with
   |some K=>some (c::K)
   |none=>none
  |none=>none
theorem gY{H:Heap}:∀ {l:LN_} {K:Heap},cK H l=some K->∀ c∈K,∃ i∈l,H[i]?=some c
 |[],K,h,c,a=>by simp[cK] at h;subst h;cases a
 |i::l,K,h,c,a=>by
  unfold cK at h;split at h
  ·rename_i d f;split at h
   ·rename_i k b;simp only[Nc] at h;subst h
    rcases Nn.1 a with rfl|a
    ·exact⟨i,ai,f⟩
    ·obtain⟨j,g,e⟩:=gY b c a;exact⟨j,by simp[g],e⟩
   ·cases h
  ·cases h
theorem fY{H:Heap}(a:H.Pairwise apart){i j:Nat}{c d:aY}(hi:H[i]?=some c)(g:H[j]?=some d)(b:i≠j):apart c d:=by
 rw[N9] at a;obtain⟨e,rfl⟩:=Ng.1 hi;obtain⟨f,rfl⟩:=Ng.1 g
 rcases Nat.lt_or_gt_of_ne b with h|h
 ·exact a i j e f h
 ·exact qk (a j i f e h)
theorem iP{H:Heap}(k:H.Pairwise apart):∀ {l:LN_} {K:Heap},l.Nodup->cK H l=some K->K.Pairwise apart
 |[],K,_,h=>by simp[cK] at h;subst h;exact List.Pairwise.nil
 |i::l,K,b,h=>by
  unfold cK at h;split at h
  ·rename_i c m;split at h
   ·rename_i o a;simp only[Nc] at h;subst h;rw[NJ] at b;refine List.Pairwise.cons (λ d f=>?_) (iP k b.2 a);obtain⟨j,n,g⟩:=gY a d f;exact fY k m g (λ e=>b.1 (e▸n))
   ·cases h
  ·cases h
theorem dN.picks{w0:World}{M:LN_}{w:World}{H K:Heap}(h:dN w0 M w H)(l:LN_)(hl:l.Nodup)(hp:cK H l=some K):dN w0 M w K:=
 h.mono (λ c a=>by obtain⟨i,_,hi⟩:=gY hp c a;exact Nb hi) (iP h.dis hl hp)
theorem dN.step{w0:World}{M:LN_}{w w':World}{H:Heap}(h:dN w0 M w H)(i:Nat){c d:aY}(hi:H[i]?=some c)
 (E:w'.os=w.os) (t:w'.tape=w.tape) (y:w'.output=w.output) (u:w.heap.size<=w'.heap.size)
 (I:∀ k,k<w.heap.size->c.mine≠some k->w'.heap[k]?=w.heap[k]?) (L:d.holds w') (hm:∀ b,d.at_=some b->c.mine=some b\/w.heap.size<=b):dN w0 M w' (H.set i d):=by
 have z:c∈H:=Nb hi;have F:i<H.length:=(Ng.1 hi).1;have o:∀ j e,H[j]?=some e->j≠i->apart e c:=λ j e f G=>fY h.dis f hi G
 have r:∀ e∈H.set i d,e=d\/∃ j,j≠i/\H[j]?=some e:=by
  intro e he;obtain⟨j,f⟩:=On.1 he;by_cases v:i=j
  ·subst v;rw[Nq F] at f;exact .inl (NK f).symm
  ·rw[Ns v] at f;exact .inr ⟨j,λ x=>v x.symm,f⟩
 have s:∀ e,(∃ j,j≠i/\H[j]?=some e)->apart e d:=by
  rintro e ⟨j,l,f⟩;have A:=o j e f l;have g:=h.holds e (Nb f)
  constructor
  ·intro b m n
   rcases hm b n with a|a
   ·exact A.2 b a (aY.mine_at m)
   ·have:=aY.at_lt g (aY.mine_at m);omega
  ·intro b m n
   rcases hm b (aY.mine_at m) with a|a
   ·exact A.2 b a n
   ·have:=aY.at_lt g n;omega
 refine⟨E.trans h.os,t.trans h.tape,y.trans h.output,Ov h.size u,λ k K B=>?_,λ e he=>?_,λ e he b C=>?_,?_⟩
 ·rw[I k (O9 K h.size) (λ e=>by
   rcases h.own c z k e with a|a
   ·omega
   ·exact B a)]
  exact h.keep k K B
 ·rcases r e he with rfl|⟨j,l,f⟩
  ·exact L
  ·have g:=h.holds e (Nb f);exact aY.holds_of g λ b D=>I b (aY.at_lt g D) (λ x=>(o j e f l).2 b x D)
 ·rcases r e he with rfl|⟨j,l,f⟩
  ·rcases hm b (aY.mine_at C) with a|a
   ·exact h.own c z b a
   ·exact .inl (Ov h.size a)
  ·exact h.own e (Nb f) b C
 ·rw[N9];intro p q hp P N;by_cases a:p=i
  ·subst a;have:q≠p:=aa;simp only[List.getElem_set_self];rw[List.getElem_set_ne aa];exact qk (s _ ⟨q,this,be _⟩)
  ·rw[List.getElem_set_ne aa];by_cases O:q=i
   ·subst O;simp only[List.getElem_set_self];exact s _ ⟨p,a,be _⟩
   ·rw[List.getElem_set_ne aa];exact fY h.dis (be _) (be _) aa
theorem dN.grow{w0:World}{M:LN_}{w w':World}{H:Heap}(h:dN w0 M w H){d:aY}
 (m:w'.os=w.os) (a:w'.tape=w.tape) (i:w'.output=w.output) (c:w.heap.size<=w'.heap.size)
 (p:∀ k,k<w.heap.size->w'.heap[k]?=w.heap[k]?) (r:d.holds w') (hm:∀ b,d.at_=some b->w.heap.size<=b):dN w0 M w' (d::H):=by
 refine⟨m.trans h.os,a.trans h.tape,i.trans h.output,Ov h.size c,λ k q n=>?_,λ e he=>?_,λ e he b j=>?_,?_⟩
 ·rw[p k (O9 q h.size)];exact h.keep k q n
 ·rcases Nn.1 he with rfl|he
  ·exact r
  ·exact aY.holds_of (h.holds e he) λ b o=>p b (aY.at_lt (h.holds e he) o)
 ·rcases Nn.1 he with rfl|he
  ·exact .inl (Ov h.size (hm b (aY.mine_at j)))
  ·exact h.own e he b j
 ·refine List.Pairwise.cons (λ e he=>?_) h.dis;have l:=h.holds e he
  constructor
  ·intro b f g;have s:=hm b (aY.mine_at f);have t:=aY.at_lt l g;omega
  ·intro b f g;have s:=hm b g;have t:=aY.at_lt l (aY.mine_at f);omega
inductive UK where
 |int (k:IntKind)|bool|string|ptr (e:Nat)|slice (e:Nat)|arr (n e:Nat)|struct (fs:List (Nat×Nat×Nat))|map (k e:Nat)|func|iface|other
 deriving Repr,Inhabited
structure TI where
 uk:UK
 size:Nat
 bytes:Nat
 zero:Option Value
def pW(P:Program)(t:TypeId):Nat:=match P.underlying t with|some (.struct _)=>1|some (.array _ _)=>1|some _=>0|none=>2
def qd(P:Program):TypeDesc->UK
 |.int k=>.int k
 |.bool=>.bool
 |.string=>.string
 |.pointer e=>.ptr e
 |.slice e=>.slice e
 |.array n e=>.arr n e
 |.map k e=>.map k e
 |.struct fs=>.struct (fs.toList.map λ f=>(f.offset,P.cellsOf f.type,pW P f.type))
 |.func ..=>.func
 |.interface _=>.iface
 |_=>.other
def H7(P:Program)(t:TypeId):Option TI:=match P.underlying t with
 |some d=>match P.info? t with
  |some i=>some ⟨qd P d,i.size,i.bytes,match d with|.tuple _=>none|_=>i.zero⟩
  |none=>none
 |none=>none
abbrev au:Option TI:=some ⟨.func,1,8,some (.nilFunc)⟩
abbrev cU:Option TI:=some ⟨.other,1,0,none⟩
def Ml:List (Option TI):=[
 cU,
 au,
 some ⟨.int .i64,1,8,some (.int .i64 0)⟩,
 some ⟨.int .i64,1,8,some (.int .i64 0)⟩,
 some ⟨.bool,1,1,some (.bool false)⟩,
 some ⟨.int .u8,1,1,some (.int .u8 0)⟩,
 some ⟨.int .u8,1,1,some (.int .u8 0)⟩,
 some ⟨.struct [(0,1,0),(1,1,0),(2,1,0),(3,1,0)],4,24,some (.agg #[.int .i64 0,.int .i64 0,.bool false,.int .u8 0])⟩,
 some ⟨.struct [(0,1,0),(1,1,0),(2,1,0),(3,1,0)],4,24,some (.agg #[.int .i64 0,.int .i64 0,.bool false,.int .u8 0])⟩,
 some ⟨.string,1,16,some (.string ⟨#[]⟩)⟩,
 some ⟨.string,1,16,some (.string ⟨#[]⟩)⟩,
 some ⟨.string,1,16,some (.string ⟨#[]⟩)⟩,
 some ⟨.int .u64,1,8,some (.int .u64 0)⟩,
 some ⟨.struct [(0,1,0),(1,1,0)],2,24,some (.agg #[.string ⟨#[]⟩,.int .u64 0])⟩,
 some ⟨.struct [(0,1,0),(1,1,0)],2,24,some (.agg #[.string ⟨#[]⟩,.int .u64 0])⟩,
 some ⟨.ptr 282,1,8,some (.pointer none)⟩,
 some ⟨.ptr 285,1,8,some (.pointer none)⟩,
 some ⟨.ptr 293,1,8,some (.pointer none)⟩,
 some ⟨.struct [(0,1,0)],1,8,some (.agg #[.pointer none])⟩,
 some ⟨.struct [(0,1,0)],1,8,some (.agg #[.pointer none])⟩,
 some ⟨.iface,1,16,some (.nilIface)⟩,
 some ⟨.int .i32,1,4,some (.int .i32 0)⟩,
 some ⟨.slice 9,1,24,some (.slice none 0 0)⟩,
 some ⟨.slice 3,1,24,some (.slice none 0 0)⟩,
 au,
 au,
 some ⟨.slice 22,1,24,some (.slice none 0 0)⟩,
 au,
 au,
 au,
 some ⟨.slice 83,1,24,some (.slice none 0 0)⟩,
 some ⟨.slice 37,1,24,some (.slice none 0 0)⟩,
 some ⟨.struct [(0,1,0),(1,1,0),(2,1,0),(3,1,0)],4,48,some (.agg #[.int .i64 0,.int .i64 0,.int .i64 0,.slice none 0 0])⟩,
 some ⟨.struct [(0,1,0),(1,1,0),(2,1,0),(3,1,0)],4,48,some (.agg #[.int .i64 0,.int .i64 0,.int .i64 0,.slice none 0 0])⟩,
 au,
 au,
 some ⟨.struct [(0,1,0),(1,1,0),(2,1,0)],3,24,some (.agg #[.int .i64 0,.int .i64 0,.int .i64 0])⟩,
 some ⟨.struct [(0,1,0),(1,1,0),(2,1,0)],3,24,some (.agg #[.int .i64 0,.int .i64 0,.int .i64 0])⟩,
 some ⟨.struct [(0,1,0),(1,1,0),(2,1,0),(3,1,0),(4,1,0)],5,40,some (.agg #[.int .i64 0,.int .i64 0,.int .i64 0,.int .i64 0,.int .i64 0])⟩,
 some ⟨.struct [(0,1,0),(1,1,0),(2,1,0),(3,1,0),(4,1,0)],5,40,some (.agg #[.int .i64 0,.int .i64 0,.int .i64 0,.int .i64 0,.int .i64 0])⟩,
 some ⟨.int .i64,1,8,some (.int .i64 0)⟩,
 cU,
 au,
 cU,
 au,
 some ⟨.slice 2,1,24,some (.slice none 0 0)⟩,
 some ⟨.struct [(0,1,0),(1,1,0),(2,1,0),(3,1,0)],4,48,some (.agg #[.slice none 0 0,.int .i64 0,.int .i64 0,.int .i64 0])⟩,
 some ⟨.struct [(0,1,0),(1,1,0),(2,1,0),(3,1,0)],4,48,some (.agg #[.slice none 0 0,.int .i64 0,.int .i64 0,.int .i64 0])⟩,
 cU,
 au,
 au,
 au,
 au,
 cU,
 au,
 some ⟨.ptr 97,1,8,some (.pointer none)⟩,
 au,
 cU,
 au,
 au,
 some ⟨.slice 103,1,24,some (.slice none 0 0)⟩,
 cU,
 au,
 cU,
 au,
 au,
 au,
 au,
 cU,
 au,
 au,
 cU,
 au,
 au,
 au,
 au,
 cU,
 au,
 some ⟨.ptr 80,1,8,some (.pointer none)⟩,
 some ⟨.struct [(0,1,0),(1,1,0)],2,24,some (.agg #[.pointer none,.string ⟨#[]⟩])⟩,
 some ⟨.struct [(0,1,0),(1,1,0)],2,24,some (.agg #[.pointer none,.string ⟨#[]⟩])⟩,
 au,
 some ⟨.struct [(0,1,0),(1,1,0),(2,1,0)],3,24,some (.agg #[.int .i64 0,.int .i64 0,.int .i64 0])⟩,
 some ⟨.struct [(0,1,0),(1,1,0),(2,1,0)],3,24,some (.agg #[.int .i64 0,.int .i64 0,.int .i64 0])⟩,
 au,
 au,
 au,
 au,
 au,
 some ⟨.ptr 91,1,8,some (.pointer none)⟩,
 some ⟨.struct [(0,4,1),(4,1,0),(5,1,0)],6,64,some (.agg #[.int .i64 0,.int .i64 0,.int .i64 0,.slice none 0 0,.int .i64 0,.int .i64 0])⟩,
 some ⟨.struct [(0,4,1),(4,1,0),(5,1,0)],6,64,some (.agg #[.int .i64 0,.int .i64 0,.int .i64 0,.slice none 0 0,.int .i64 0,.int .i64 0])⟩,
 au,
 some ⟨.struct [(0,1,0),(1,1,0)],2,32,some (.agg #[.slice none 0 0,.nilFunc])⟩,
 some ⟨.struct [(0,1,0),(1,1,0)],2,32,some (.agg #[.slice none 0 0,.nilFunc])⟩,
 au,
 some ⟨.struct [(0,4,1),(4,1,0),(5,1,0),(6,1,0),(7,1,0),(8,1,0)],9,104,some (.agg #[.int .i64 0,.int .i64 0,.int .i64 0,.slice none 0 0,.slice none 0 0,.slice none 0 0,.bool false,.bool false,.bool false])⟩,
 some ⟨.struct [(0,4,1),(4,1,0),(5,1,0),(6,1,0),(7,1,0),(8,1,0)],9,104,some (.agg #[.int .i64 0,.int .i64 0,.int .i64 0,.slice none 0 0,.slice none 0 0,.slice none 0 0,.bool false,.bool false,.bool false])⟩,
 au,
 au,
 au,
 au,
 some ⟨.struct [(0,1,0),(1,1,0),(2,1,0),(3,1,0)],4,32,some (.agg #[.int .i64 0,.int .i64 0,.int .i64 0,.int .i64 0])⟩,
 some ⟨.struct [(0,1,0),(1,1,0),(2,1,0),(3,1,0)],4,32,some (.agg #[.int .i64 0,.int .i64 0,.int .i64 0,.int .i64 0])⟩,
 some ⟨.slice 4,1,24,some (.slice none 0 0)⟩,
 cU,
 au,
 au,
 au,
 au,
 au,
 au,
 au,
 some ⟨.ptr 116,1,8,some (.pointer none)⟩,
 some ⟨.slice 5,1,24,some (.slice none 0 0)⟩,
 some ⟨.struct [(0,1,0),(1,1,0)],2,32,some (.agg #[.pointer none,.slice none 0 0])⟩,
 some ⟨.struct [(0,1,0),(1,1,0)],2,32,some (.agg #[.pointer none,.slice none 0 0])⟩,
 some ⟨.iface,1,16,some (.nilIface)⟩,
 some ⟨.iface,1,16,some (.nilIface)⟩,
 cU,
 au,
 au,
 au,
 au,
 au,
 cU,
 au,
 au,
 some ⟨.struct [(0,2,1)],2,32,some (.agg #[.pointer none,.slice none 0 0])⟩,
 some ⟨.struct [(0,2,1)],2,32,some (.agg #[.pointer none,.slice none 0 0])⟩,
 au,
 au,
 au,
 cU,
 au,
 au,
 au,
 au,
 au,
 au,
 au,
 some ⟨.struct [],0,0,some (.agg #[])⟩,
 some ⟨.struct [],0,0,some (.agg #[])⟩,
 au,
 some ⟨.iface,1,16,some (.nilIface)⟩,
 some ⟨.iface,1,16,some (.nilIface)⟩,
 au,
 au,
 cU,
 au,
 au,
 some ⟨.int .u64,1,8,some (.int .u64 0)⟩,
 au,
 some ⟨.slice 155,1,24,some (.slice none 0 0)⟩,
 au,
 au,
 au,
 au,
 some ⟨.int .u64,1,8,some (.int .u64 0)⟩,
 au,
 cU,
 au,
 some ⟨.slice 23,1,24,some (.slice none 0 0)⟩,
 cU,
 au,
 au,
 au,
 au,
 some ⟨.ptr 5,1,8,some (.pointer none)⟩,
 au,
 au,
 some ⟨.ptr 129,1,8,some (.pointer none)⟩,
 some ⟨.slice 174,1,24,some (.slice none 0 0)⟩,
 some ⟨.struct [(0,1,0),(1,1,0)],2,16,some (.agg #[.int .i64 0,.int .i64 0])⟩,
 some ⟨.struct [(0,1,0),(1,1,0)],2,16,some (.agg #[.int .i64 0,.int .i64 0])⟩,
 au,
 some ⟨.slice 180,1,24,some (.slice none 0 0)⟩,
 some ⟨.struct [(0,1,0),(1,1,0),(2,1,0)],3,40,some (.agg #[.int .i64 0,.int .i64 0,.slice none 0 0])⟩,
 some ⟨.struct [(0,1,0),(1,1,0),(2,1,0)],3,40,some (.agg #[.int .i64 0,.int .i64 0,.slice none 0 0])⟩,
 some ⟨.struct [(0,1,0),(1,1,0)],2,16,some (.agg #[.int .i64 0,.int .i64 0])⟩,
 some ⟨.struct [(0,1,0),(1,1,0)],2,16,some (.agg #[.int .i64 0,.int .i64 0])⟩,
 some ⟨.struct [(0,1,0),(1,1,0)],2,48,some (.agg #[.slice none 0 0,.slice none 0 0])⟩,
 some ⟨.struct [(0,1,0),(1,1,0)],2,48,some (.agg #[.slice none 0 0,.slice none 0 0])⟩,
 cU,
 au,
 au,
 au,
 au,
 au,
 au,
 some ⟨.struct [],0,0,some (.agg #[])⟩,
 some ⟨.struct [],0,0,some (.agg #[])⟩,
 au,
 some ⟨.ptr 3,1,8,some (.pointer none)⟩,
 au,
 au,
 au,
 au,
 au,
 some ⟨.other,1,8,some (.pointer none)⟩,
 au,
 au,
 au,
 cU,
 au,
 some ⟨.map 3 4,1,8,some (.map none)⟩,
 au,
 cU,
 au,
 au,
 some ⟨.slice 235,1,24,some (.slice none 0 0)⟩,
 cU,
 au,
 au,
 au,
 cU,
 au,
 au,
 au,
 au,
 some ⟨.arr 256 4,256,256,some (.agg (Array.replicate 256 (.bool false)))⟩,
 some ⟨.arr 256 4,256,256,some (.agg (Array.replicate 256 (.bool false)))⟩,
 cU,
 au,
 au,
 some ⟨.ptr 221,1,8,some (.pointer none)⟩,
 au,
 au,
 cU,
 au,
 au,
 au,
 au,
 au,
 some ⟨.struct [(0,1,0),(1,1,0),(2,1,0)],3,40,some (.agg #[.int .u8 0,.slice none 0 0,.int .i64 0])⟩,
 some ⟨.struct [(0,1,0),(1,1,0),(2,1,0)],3,40,some (.agg #[.int .u8 0,.slice none 0 0,.int .i64 0])⟩,
 au,
 some ⟨.arr 24 5,24,24,some (.agg (Array.replicate 24 (.int .u8 0)))⟩,
 au,
 cU,
 au,
 au,
 au,
 some ⟨.int .i64,1,8,some (.int .i64 0)⟩,
 cU,
 au,
 some ⟨.ptr 271,1,8,some (.pointer none)⟩,
 au,
 au,
 some ⟨.int .u32,1,4,some (.int .u32 0)⟩,
 cU,
 au,
 au,
 au,
 some ⟨.ptr 256,1,8,some (.pointer none)⟩,
 some ⟨.struct [(0,4,1),(4,1,0),(5,1,0),(6,1,0),(7,1,0)],8,112,some (.agg #[.int .i64 0,.int .i64 0,.int .i64 0,.slice none 0 0,.slice none 0 0,.int .i64 0,.slice none 0 0,.int .i64 0])⟩,
 some ⟨.struct [(0,4,1),(4,1,0),(5,1,0),(6,1,0),(7,1,0)],8,112,some (.agg #[.int .i64 0,.int .i64 0,.int .i64 0,.slice none 0 0,.slice none 0 0,.int .i64 0,.slice none 0 0,.int .i64 0])⟩,
 au,
 au,
 some ⟨.arr 256 5,256,256,some (.agg (Array.replicate 256 (.int .u8 0)))⟩,
 some ⟨.struct [(0,1,0),(1,1,0)],2,2,some (.agg #[.int .u8 0,.int .u8 0])⟩,
 some ⟨.struct [(0,1,0),(1,1,0)],2,2,some (.agg #[.int .u8 0,.int .u8 0])⟩,
 some ⟨.arr 16 261,32,32,some (.agg (Array.replicate 32 (.int .u8 0)))⟩,
 au,
 some ⟨.arr 20 151,20,160,some (.agg #[.int .u64 0,.int .u64 0,.int .u64 0,.int .u64 0,.int .u64 0,.int .u64 0,.int .u64 0,.int .u64 0,.int .u64 0,.int .u64 0,.int .u64 0,.int .u64 0,.int .u64 0,.int .u64 0,.int .u64 0,.int .u64 0,.int .u64 0,.int .u64 0,.int .u64 0,.int .u64 0])⟩,
 some ⟨.arr 65 5,65,65,some (.agg (Array.replicate 65 (.int .u8 0)))⟩,
 au,
 au,
 au,
 au,
 some ⟨.struct [(0,1,0),(1,1,0),(2,1,0)],3,48,some (.agg #[.string ⟨#[]⟩,.string ⟨#[]⟩,.nilIface])⟩,
 some ⟨.struct [(0,1,0),(1,1,0),(2,1,0)],3,48,some (.agg #[.string ⟨#[]⟩,.string ⟨#[]⟩,.nilIface])⟩,
 au,
 au,
 au,
 some ⟨.ptr 277,1,8,some (.pointer none)⟩,
 some ⟨.struct [(0,1,0)],1,16,some (.agg #[.string ⟨#[]⟩])⟩,
 some ⟨.struct [(0,1,0)],1,16,some (.agg #[.string ⟨#[]⟩])⟩,
 au,
 some ⟨.arr 32 5,32,32,some (.agg (Array.replicate 32 (.int .u8 0)))⟩,
 some ⟨.arr 64 5,64,64,some (.agg (Array.replicate 64 (.int .u8 0)))⟩,
 some ⟨.struct [(0,1,0),(1,1,0),(2,1,0),(3,1,0)],4,40,some (.agg #[.pointer none,.pointer none,.pointer none,.string ⟨#[]⟩])⟩,
 some ⟨.struct [(0,1,0),(1,1,0),(2,1,0),(3,1,0)],4,40,some (.agg #[.pointer none,.pointer none,.pointer none,.string ⟨#[]⟩])⟩,
 some ⟨.arr 0 16,0,0,some (.agg #[])⟩,
 some ⟨.struct [(0,0,1)],0,0,some (.agg #[])⟩,
 some ⟨.struct [(0,0,1)],0,0,some (.agg #[])⟩,
 au,
 some ⟨.int .u8,1,1,some (.int .u8 0)⟩,
 some ⟨.int .u8,1,1,some (.int .u8 0)⟩,
 au,
 some ⟨.int .i32,1,4,some (.int .i32 0)⟩,
 some ⟨.int .i32,1,4,some (.int .i32 0)⟩,
 some ⟨.struct [(0,1,0),(1,1,0),(2,1,0),(3,1,0),(4,1,0),(5,1,0),(6,1,0),(7,1,0),(8,1,0),(9,1,0),(10,1,0)],11,48,some (.agg #[.int .u64 0,.int .u64 0,.int .u32 0,.int .u8 0,.int .u8 0,.int .u8 0,.int .u8 0,.nilFunc,.pointer none,.int .i32 0,.int .i32 0])⟩,
 some ⟨.struct [(0,1,0),(1,1,0),(2,1,0),(3,1,0),(4,1,0),(5,1,0),(6,1,0),(7,1,0),(8,1,0),(9,1,0),(10,1,0)],11,48,some (.agg #[.int .u64 0,.int .u64 0,.int .u32 0,.int .u8 0,.int .u8 0,.int .u8 0,.int .u8 0,.nilFunc,.pointer none,.int .i32 0,.int .i32 0])⟩,
 some ⟨.slice 300,1,24,some (.slice none 0 0)⟩,
 cU,
 au,
 some ⟨.ptr 303,1,8,some (.pointer none)⟩,
 au,
 some ⟨.struct [(0,1,0),(1,1,0)],2,32,some (.agg #[.slice none 0 0,.int .i64 0])⟩,
 some ⟨.struct [(0,1,0),(1,1,0)],2,32,some (.agg #[.slice none 0 0,.int .i64 0])⟩,
 au,
 some ⟨.struct [(0,4,1),(4,1,0),(5,1,0),(6,1,0),(7,1,0)],8,128,some (.agg #[.int .i64 0,.int .i64 0,.int .i64 0,.slice none 0 0,.slice none 0 0,.int .i64 0,.slice none 0 0,.slice none 0 0])⟩,
 some ⟨.struct [(0,4,1),(4,1,0),(5,1,0),(6,1,0),(7,1,0)],8,128,some (.agg #[.int .i64 0,.int .i64 0,.int .i64 0,.slice none 0 0,.slice none 0 0,.int .i64 0,.slice none 0 0,.slice none 0 0])⟩,
 cU,
 au,
 some ⟨.ptr 310,1,8,some (.pointer none)⟩,
 au,
 some ⟨.ptr 319,1,8,some (.pointer none)⟩,
 some ⟨.struct [(0,4,1),(4,1,0),(5,1,0),(6,1,0),(7,1,0),(8,1,0),(9,1,0),(10,1,0)],11,152,some (.agg #[.int .i64 0,.int .i64 0,.int .i64 0,.slice none 0 0,.slice none 0 0,.int .i64 0,.slice none 0 0,.slice none 0 0,.pointer none,.int .i64 0,.int .i64 0])⟩,
 some ⟨.struct [(0,4,1),(4,1,0),(5,1,0),(6,1,0),(7,1,0),(8,1,0),(9,1,0),(10,1,0)],11,152,some (.agg #[.int .i64 0,.int .i64 0,.int .i64 0,.slice none 0 0,.slice none 0 0,.int .i64 0,.slice none 0 0,.slice none 0 0,.pointer none,.int .i64 0,.int .i64 0])⟩,
 au,
 cU,
 au,
 au,
 some ⟨.ptr 331,1,8,some (.pointer none)⟩,
 some ⟨.struct [(0,1,0),(1,1,0)],2,32,some (.agg #[.pointer none,.slice none 0 0])⟩,
 some ⟨.struct [(0,1,0),(1,1,0)],2,32,some (.agg #[.pointer none,.slice none 0 0])⟩,
 some ⟨.struct [(0,2,1),(2,1,0)],3,40,some (.agg #[.pointer none,.slice none 0 0,.int .i64 0])⟩,
 some ⟨.struct [(0,2,1),(2,1,0)],3,40,some (.agg #[.pointer none,.slice none 0 0,.int .i64 0])⟩,
 cU,
 au,
 au,
 cU,
 au,
 au,
 au,
 au,
 au,
 some ⟨.slice 334,1,24,some (.slice none 0 0)⟩,
 some ⟨.struct [(0,1,0),(1,1,0)],2,32,some (.agg #[.slice none 0 0,.int .i64 0])⟩,
 some ⟨.struct [(0,1,0),(1,1,0)],2,32,some (.agg #[.slice none 0 0,.int .i64 0])⟩,
 some ⟨.arr 2 3,2,16,some (.agg #[.int .i64 0,.int .i64 0])⟩,
 some ⟨.struct [(0,1,0),(1,2,1),(3,1,0),(4,1,0),(5,1,0),(6,1,0),(7,1,0),(8,1,0)],9,72,some (.agg #[.int .i64 0,.int .i64 0,.int .i64 0,.int .i64 0,.int .i64 0,.int .i64 0,.int .i64 0,.int .i64 0,.bool false])⟩,
 some ⟨.struct [(0,1,0),(1,2,1),(3,1,0),(4,1,0),(5,1,0),(6,1,0),(7,1,0),(8,1,0)],9,72,some (.agg #[.int .i64 0,.int .i64 0,.int .i64 0,.int .i64 0,.int .i64 0,.int .i64 0,.int .i64 0,.int .i64 0,.bool false])⟩,
 au,
 cU,
 au,
 some ⟨.ptr 317,1,8,some (.pointer none)⟩,
 au,
 au,
 au,
 au,
 au,
 au,
 some ⟨.ptr 334,1,8,some (.pointer none)⟩]
def tab(t:Nat):Option TI:=match Ml[t]? with
 |some i=>i
 |none=>none
theorem JV:(List.range 346).map (λ t=>Ml[t]?)=(List.range 346).map (λ t=>some (H7 Tryz.prog t)):=by kernel_rfl
set_option maxRecDepth 100000 in
theorem K5{t:Nat}{i:TI}(h:tab t=some i):H7 Tryz.prog t=some i:=by
 unfold tab at h;split at h
 ·rename_i j a;have hl:t<346:=(Ng.1 a).1;have:=List.map_eq_map_iff.1 JV t (N8.2 hl);rw[a] at this;rw[<- NK this,h]
 ·cases h
theorem eU{t:Nat}{i:TI}(h:tab t=some i):∃ d j,Tryz.prog.underlying t=some d/\Tryz.prog.info? t=some j/\qd Tryz.prog d=i.uk/\j.size=i.size/\j.bytes=i.bytes/\
 (∀ z,i.zero=some z->j.zero=some z):=by
 have:=K5 h;unfold H7 at this;split at this
 ·rename_i d b;split at this
  ·rename_i j c;simp only[Nc] at this;subst this;refine⟨d,j,b,c,rfl,rfl,rfl,λ z a=>?_⟩;simp only at a;split at a
   ·cases a
   ·exact a
  ·cases this
 ·cases this
noncomputable def dR(p:Prop):Bool:=@decide p (Classical.propDecidable p)
theorem H6(p:Prop)[h:Decidable p]:dR p=decide p:=by unfold dR;cases h<;>simp[*]
theorem aQ{p:Prop}(h:p):dR p=true:=by unfold dR;exact @OR p (Classical.propDecidable p) h
theorem aU{p:Prop}(h:¬ p):dR p=false:=by unfold dR;exact @OB p (Classical.propDecidable p) h
theorem tD{p:Prop}(h:dR p=true):p:=by unfold dR at h;exact @of_decide_eq_true p (Classical.propDecidable p) h
theorem mL{p:Prop}(h:dR p=false):¬ p:=by unfold dR at h;exact @PX p (Classical.propDecidable p) h
theorem ey{p q:Prop}(h:p↔q):dR p=dR q:=by rw[propext h]
noncomputable def LL(op:BinOp)(k:IntKind)(a b:Int):Option Value:=
 match op with
 |.add=>some (.int k (k.wrap (a+b)))
 |.sub=>some (.int k (k.wrap (a-b)))
 |.mul=>some (.int k (k.wrap (a*b)))
 |.eql=>some (.bool (dR (a=b)))
 |.neq=>some (.bool (dR (a≠b)))
 |.lss=>some (.bool (dR (a<b)))
 |.leq=>some (.bool (dR (a<=b)))
 |.gtr=>some (.bool (dR (b<a)))
 |.geq=>some (.bool (dR (b<=a)))
 |.and=>some (.int k (k.wrap (BitVec.ofInt k.bits a&&& BitVec.ofInt k.bits b).toNat))
 |.or=>some (.int k (k.wrap (BitVec.ofInt k.bits a|||BitVec.ofInt k.bits b).toNat))
 |.xor=>some (.int k (k.wrap (BitVec.ofInt k.bits a^^^BitVec.ofInt k.bits b).toNat))
 |_=>none
def BX(op:BinOp)(k:IntKind)(a:Int)(y:Operand):Option Value:=
 match y with
 |.const (.int _ c)=>match c with
  |.ofNat m=>match op with
   |.shl=>some (.int k (k.wrap (a*2^(min m k.bits))))
   |.shr=>some (.int k (a.fdiv (2^(min m k.bits))))
   |.quo=>match m with
    |0=>none
    |_+1=>some (.int k (k.wrap (a.tdiv c)))
   |.rem=>match m with
    |0=>none
    |_+1=>some (.int k (a.tmod c))
   |_=>none
  |.negSucc _=>none
 |_=>none
def Gg(op:BinOp)(p q:Bool):Option Value:=
 match op with
 |.eql=>some (.bool (p==q))
 |.neq=>some (.bool (p !=q))
 |_=>none
def LW(op:BinOp)(a b:ByteArray):Option Value:=
 match op with
 |.eql=>some (.bool (a.toList==b.toList))
 |.neq=>some (.bool (!(a.toList==b.toList)))
 |_=>none
def MK(t:Nat):Bool:=match tab t with|some ⟨.bool,_,_,_⟩=>true|_=>false
def L4(t:Nat):Bool:=match tab t with|some ⟨.iface,_,_,_⟩=>true|_=>false
def DQ(op:BinOp)(b:Bool):Option Value:=
 match op with
 |.eql=>some (.bool b)
 |.neq=>some (.bool (!b))
 |_=>none
noncomputable def tk(E:Env):Op->Option Value
 |.move x=>val E x
 |.assign x=>val E x
 |.pick c a b=>match val E c with
  |some (.bool true)=>val E a
  |some (.bool false)=>val E b
  |_=>none
 |.binOp op t x y _=>match val E x,val E y with
  |some (.int k a),some (.int k' b)=>if k=k' then (match LL op k a b with
   |some v=>some v
   |none=>BX op k a y) else none
  |some (.bool p),some (.bool q)=>match MK t with|true=>Gg op p q|false=>none
  |some (.string p),some (.string q)=>LW op p q
  |some (.iface _ _),some .nilIface=>match L4 t with|true=>DQ op false|false=>none
  |some .nilIface,some .nilIface=>match y with
   |.const _=>match L4 t with|true=>DQ op true|false=>none
   |_=>none
  |_,_=>none
 |.unOp op _ x=>match op,val E x with
  |.not,some (.bool b)=>some (.bool (!b))
  |.neg,some (.int k n)=>some (.int k (k.wrap (0-n)))
  |_,_=>none
 |.convert s d x=>match tab s,tab d,val E x with
  |some ⟨.int _,_,_,_⟩,some ⟨.int k,_,_,_⟩,some (.int _ n)=>some (.int k (k.wrap n))
  |_,_,_=>none
 |.fieldAddr t x f=>match tab t,val E x with
  |some ⟨.struct fs,_,_,_⟩,some (.pointer (some ⟨b,o,none⟩))=>match fs[f]? with
   |some (off,_+1,_)=>some (.pointer (some ⟨b,o+off,none⟩))
   |_=>none
  |_,_=>none
 |.field t x f=>match tab t,val E x with
  |some ⟨.struct fs,_,_,_⟩,some (.agg cs)=>match fs[f]? with
   |some (off,_+1,0)=>cs.toList[off]?
   |some (off,sz+1,1)=>some (.agg (cs.extract off (off+(sz+1))))
   |_=>none
  |_,_=>none
 |.extract x i=>match val E x with
  |some (.tuple vs)=>vs.toList[i]?
  |_=>none
 |.nilCheck x=>match val E x with
  |some (.pointer (some p))=>some (.pointer (some p))
  |_=>none
 |.makeFunc fn first cap=>match vals E first.toList,vals E cap.toList with
  |some f,some c=>some (.func fn f.toArray c.toArray)
  |_,_=>none
 |.makeInterface t x=>match tab t,val E x with
  |some ⟨.iface,_,_,_⟩,_=>none
  |some _,some v=>some (.iface t v)
  |_,_=>none
 |.typeAssert x _ t ok=>match tab t,val E x with
  |some ⟨.iface,_,_,_⟩,_=>none
  |some _,some (.iface u v)=>match Nat.beq u t with
   |true=>match ok with
    |true=>some (.tuple #[v,.bool true])
    |false=>some v
   |false=>none
  |_,_=>none
 |.call ⟨.builtin .len,xs,ts⟩=>match xs.toList,ts.toList with
  |[x],[t]=>match tab t,val E x with
   |some ⟨.slice _,_,_,_⟩,some (.slice _ n _)=>some (.int .i64 n)
   |some ⟨.string,_,_,_⟩,some (.string s)=>some (.int .i64 s.size)
   |_,_=>none
  |_,_=>none
 |.call ⟨.builtin .min,xs,_⟩=>match xs.toList with
  |[x,y]=>match val E x,val E y with
   |some (.int k a),some (.int _ b)=>some (.int k (if b<a then b else a))
   |_,_=>none
  |_=>none
 |.call ⟨.builtin .max,xs,_⟩=>match xs.toList with
  |[x,y]=>match val E x,val E y with
   |some (.int k a),some (.int _ b)=>some (.int k (if b>a then b else a))
   |_,_=>none
  |_=>none
 |_=>none
theorem lh(op:BinOp)(t:TypeId)(x y:Operand)(k l:IntKind)(a b:Int)(P:Program)(w:World):
 (eqGuard op t x y (.int k a) (.int l b)).run P w=.ok () w:=by
 cases op<;>simp[eqGuard]
theorem xj(op:BinOp)(t:TypeId)(x y:Operand)(a b:Bool)(P:Program)(w:World):
 (eqGuard op t x y (.bool a) (.bool b)).run P w=.ok () w:=by
 cases op<;>simp[eqGuard]
theorem sM(op:BinOp)(t:TypeId)(x y:Operand)(a b:ByteArray)(P:Program)(w:World):
 (eqGuard op t x y (.string a) (.string b)).run P w=.ok () w:=by
 cases op<;>simp[eqGuard]
theorem Lq(a b:Int):(a==b)=decide (a=b):=by
 by_cases h:a=b<;>simp[h]
theorem LI(a b:Int):(a !=b)=decide (a≠b):=by
 by_cases h:a=b<;>simp[h]
theorem FU{op:BinOp}{k:IntKind}{a b:Int}{v:Value}(h:LL op k a b=some v)(t:TypeId)(P:Program)(w:World):
 (binOp op t (.int k a) (.int k b)).run P w=.ok v w:=by
 cases op<;>simp only[LL,Nc,reduceCtorEq] at h<;>subst h<;>simp[binOp,Op.intArith,Op.intCmp,Op.intBits,Lq,LI,H6]
theorem Bh{op:BinOp}{k:IntKind}{a b:Int}{y:Operand}{v:Value}{E:Env}(h:BX op k a y=some v)(e:val E y=some (.int k b))(t:TypeId)(P:Program)(w:World):
 (binOp op t (.int k a) (.int k b)).run P w=.ok v w:=by
 unfold BX at h;split at h
 ·rename_i f c;simp only[val,Nc,Value.int.injEq] at e;obtain⟨rfl,rfl⟩:=e;split at h
  ·rename_i m;have hm:¬ (Int.ofNat m)<0:=Int.not_lt.2 (Int.natCast_nonneg m);split at h
   ·simp only[Nc] at h;subst h;simp only[binOp,Op.shift];rw[if_neg hm];rfl
   ·simp only[Nc] at h;subst h;simp only[binOp,Op.shift];rw[if_neg hm];rfl
   ·split at h
    ·cases h
    ·rename_i q;simp only[Option.some.injEq] at h;subst h;have d:¬ (Int.ofNat (q+1))=0:=by simp;omega
     simp only[binOp,Op.intDiv,ne_eq,not_true,PJ];rw[if_neg d];rfl
   ·split at h
    ·cases h
    ·rename_i q;simp only[Option.some.injEq] at h;subst h;have d:¬ (Int.ofNat (q+1))=0:=by simp;omega
     simp only[binOp,Op.intDiv,ne_eq,not_true,PJ];rw[if_neg d];rfl
   ·cases h
  ·cases h
 ·cases h
theorem Kj{t:Nat}(h:MK t=true):Tryz.prog.underlying t=some .bool:=by
 unfold MK at h;split at h
 ·rename_i z s b e a;obtain⟨d,j,c,_,hu,_⟩:=eU a;rw[c]
  cases d<;>simp[qd] at hu ⊢
 ·cases h
theorem Bx{t:Nat}(hu:Tryz.prog.underlying t=some .bool)(a b:Bool)(w:World):(Op.equal t (.bool a) (.bool b)).run Tryz.prog w=.ok (a==b) w:=by
 have h:∀ d:Nat,(Op.equalIn (d+1) t (.bool a) (.bool b)).run Tryz.prog w=.ok (a==b) w:=λ d=>by
  simp[Op.equalIn,run_underlying hu]
 exact h 9999
theorem E4{op:BinOp}{a b:Bool}{v:Value}(h:Gg op a b=some v){t:TypeId}(c:MK t=true)(w:World):
 (binOp op t (.bool a) (.bool b)).run Tryz.prog w=.ok v w:=by
 have hu:=Bx (Kj c) a b w
 cases op<;>simp only[Gg,Nc,reduceCtorEq] at h<;>subst h
 ·have:binOp .eql t (.bool a) (.bool b)=(do pure (.bool (<- Op.equal t (.bool a) (.bool b)))):=rfl;rw[this];simp[hu]
 ·have:binOp .neq t (.bool a) (.bool b)=(do pure (.bool (!(<- Op.equal t (.bool a) (.bool b))))):=rfl;rw[this];simp[hu,bne]
theorem GJ{op:BinOp}{a b:ByteArray}{v:Value}(h:LW op a b=some v)(t:TypeId)(P:Program)(w:World):
 (binOp op t (.string a) (.string b)).run P w=.ok v w:=by
 cases op<;>simp only[LW,Nc,reduceCtorEq] at h<;>subst h<;>simp[binOp,Op.stringOp]
theorem CY{t:Nat}(h:L4 t=true):∃ ms,Tryz.prog.underlying t=some (.interface ms):=by
 unfold L4 at h;split at h
 ·rename_i z s b e a;obtain⟨d,j,c,_,hu,_⟩:=eU a;rw[c]
  cases d<;>simp[qd] at hu
  exact⟨_,rfl⟩
 ·cases h
theorem DE{op:BinOp}{v u:Value}{d t:Nat}(h:DQ op false=some v)(a:L4 t=true)(w:World):(binOp op t (.iface d u) .nilIface).run Tryz.prog w=.ok v w:=by
 obtain⟨ms,hu⟩:=CY a
 have he:(Op.equal t (.iface d u) .nilIface).run Tryz.prog w=.ok false w:=by
  have h:∀ k:Nat,(Op.equalIn (k+1) t (.iface d u) .nilIface).run Tryz.prog w=.ok false w:=λ k=>by
   simp[Op.equalIn,run_underlying hu]
  exact h 9999
 cases op<;>simp only[DQ,Nc,reduceCtorEq] at h<;>subst h
 ·have:binOp .eql t (.iface d u) .nilIface=(do pure (.bool (<- Op.equal t (.iface d u) .nilIface))):=rfl;rw[this];simp[he]
 ·have:binOp .neq t (.iface d u) .nilIface=(do pure (.bool (!(<- Op.equal t (.iface d u) .nilIface)))):=rfl;rw[this];simp[he]
theorem EM{op:BinOp}{v:Value}{t:Nat}(h:DQ op true=some v)(a:L4 t=true)(w:World):(binOp op t .nilIface .nilIface).run Tryz.prog w=.ok v w:=by
 obtain⟨ms,hu⟩:=CY a
 have he:(Op.equal t .nilIface .nilIface).run Tryz.prog w=.ok true w:=by
  have h:∀ k:Nat,(Op.equalIn (k+1) t .nilIface .nilIface).run Tryz.prog w=.ok true w:=λ k=>by
   simp[Op.equalIn,run_underlying hu]
  exact h 9999
 cases op<;>simp only[DQ,Nc,reduceCtorEq] at h<;>subst h
 ·have:binOp .eql t .nilIface .nilIface=(do pure (.bool (<- Op.equal t .nilIface .nilIface))):=rfl;rw[this];simp[he]
 ·have:binOp .neq t .nilIface .nilIface=(do pure (.bool (!(<- Op.equal t .nilIface .nilIface)))):=rfl;rw[this];simp[he]
theorem BR(op:BinOp)(t:TypeId)(x y:Operand)(d:TypeId)(u:Value)(P:Program)(w:World):(eqGuard op t x y (.iface d u) .nilIface).run P w=.ok () w:=by
 cases op<;>simp[eqGuard]
theorem AI(op:BinOp)(t:TypeId)(x:Operand)(c:Value)(P:Program)(w:World):(eqGuard op t x (.const c) .nilIface .nilIface).run P w=.ok () w:=by
 cases op<;>cases x<;>simp[eqGuard]
theorem eZ{t e s b:Nat}{z:Option Value}(h:tab t=some ⟨.slice e,s,b,z⟩):Tryz.prog.underlying t=some (.slice e):=by
 obtain⟨d,j,a,_,hu,_⟩:=eU h;rw[a];cases d<;>simp[qd] at hu ⊢;exact hu
theorem CQ{t s b:Nat}{k:IntKind}{z:Option Value}(h:tab t=some ⟨.int k,s,b,z⟩):Tryz.prog.underlying t=some (.int k):=by
 obtain⟨d,j,a,_,hu,_⟩:=eU h;rw[a];cases d<;>simp[qd] at hu ⊢;exact hu
theorem ku{t s b:Nat}{z:Option Value}(h:tab t=some ⟨.string,s,b,z⟩):Tryz.prog.underlying t=some .string:=by
 obtain⟨d,j,a,_,hu,_⟩:=eU h;rw[a];cases d<;>simp[qd] at hu ⊢
theorem mu{t s b:Nat}{fs:List (Nat×Nat×Nat)}{z:Option Value}(h:tab t=some ⟨.struct fs,s,b,z⟩):
 ∃ F:Array Field,Tryz.prog.underlying t=some (.struct F)/\fs=F.toList.map λ f=>(f.offset,Tryz.prog.cellsOf f.type,pW Tryz.prog f.type):=by
 obtain⟨d,j,a,_,hu,_⟩:=eU h
 cases d<;>simp[qd] at hu
 rename_i F;exact⟨F,a,hu.symm⟩
theorem sD{t s b f off sz:Nat}{a:Nat}{fs:List (Nat×Nat×Nat)}{z:Option Value}(h:tab t=some ⟨.struct fs,s,b,z⟩)(c:fs[f]?=some (off,sz,a)):
 ∃ (F:Array Field) (g:Field),Tryz.prog.underlying t=some (.struct F)/\F[f]?=some g/\g.offset=off/\Tryz.prog.cellsOf g.type=sz/\pW Tryz.prog g.type=a:=by
 obtain⟨F,d,rfl⟩:=mu h;simp only[Nk,Px,Array.getElem?_toList,N3] at c;obtain⟨g,e,i,j,k⟩:=c;exact⟨F,g,d,e,i,j,k⟩
theorem tL{t:TypeId}(h:pW Tryz.prog t=0)(w:World):(isAgg t).run Tryz.prog w=.ok false w:=by
 unfold pW at h;split at h
 ·cases h
 ·cases h
 ·rename_i d a b c;unfold isAgg;rw[Sem.run_bind,run_underlying c]
  cases d<;>first|rfl|exact absurd rfl (a _)|exact absurd rfl (b _ _)
 ·cases h
theorem rP{t:TypeId}(h:pW Tryz.prog t=1)(w:World):(isAgg t).run Tryz.prog w=.ok true w:=by
 unfold pW at h;split at h
 ·rename_i a;unfold isAgg;rw[Sem.run_bind,run_underlying a];rfl
 ·rename_i a;unfold isAgg;rw[Sem.run_bind,run_underlying a];rfl
 ·cases h
 ·cases h
theorem AD{t sz:Nat}(h:Tryz.prog.cellsOf t=sz+1)(w:World):(sizeOf t).run Tryz.prog w=.ok (sz+1) w:=by
 unfold Program.cellsOf at h
 cases hi:Tryz.prog.info? t with
 |none=>simp[hi] at h
 |some i=>simp[hi] at h;simp[sizeOf,typeInfo,hi,h]
theorem JG{op:Op}{v:Value}{E:Env}(h:tk E op=some v){a:Act}{n:uT}(l:gz n a E)(dst:Option Tmp)(ty:TypeId)(pos:String)(after:Array Edge)
 (guard:Option (Nat×Bool)) (w:World):(execOp a.eval { dst,op,type:=ty,pos,after,guard }).run Tryz.prog w=.ok (.value v) w:=by
 cases op with
 |move x=>simp only[tk] at h;simp[execOp,l.val h]
 |assign x=>simp only[tk] at h;simp[execOp,l.val h]
 |pick c x y=>
  simp only[tk] at h;split at h
  ·rename_i I;simp[execOp,l.val h,l.val I,asBool]
  ·rename_i I;simp[execOp,l.val h,l.val I,asBool]
  ·cases h
 |binOp op t x y yt=>
  simp only[tk] at h;split at h
  ·rename_i k p Z q e C;split at h
   ·rename_i hk;subst hk;split at h
    ·rename_i u hu;simp only[Nc] at h;subst h;simp[execOp,l.val e,l.val C,lh,FU hu]
    ·simp[execOp,l.val e,l.val C,lh,Bh h C]
   ·cases h
  ·rename_i p q e C;split at h
   ·rename_i Q;simp[execOp,l.val e,l.val C,xj,E4 h Q]
   ·cases h
  ·rename_i p q e C;simp[execOp,l.val e,l.val C,sM,GJ h]
  ·rename_i d u e C;split at h
   ·rename_i B;simp[execOp,l.val e,l.val C,BR,DE h B]
   ·cases h
  ·rename_i e C;split at h
   ·rename_i c;split at h
    ·rename_i B;have R:=l.val C;simp[execOp,l.val e,R,AI,EM h B]
    ·cases h
   ·cases h
  ·cases h
 |unOp op t x=>
  simp only[tk] at h;split at h
  ·rename_i b e;simp only[Nc] at h;subst h;simp[execOp,l.val e,Op.unary]
  ·rename_i k m e;simp only[Nc] at h;subst h;simp[execOp,l.val e,Op.unary,Op.intArith]
  ·cases h
 |convert s d x=>
  simp only[tk] at h;split at h
  ·rename_i k1 _ _ _ k2 _ _ _ k3 m S K e;simp only[Nc] at h;subst h;simp[execOp,l.val e,convert,run_underlying (CQ S),run_underlying (CQ K),Conv.intToInt]
  ·cases h
 |fieldAddr t x f=>
  simp only[tk] at h;split at h
  ·rename_i fs _ _ _ b o B e;split at h
   ·rename_i off sz _ D;simp only[Nc] at h;subst h;obtain⟨F,g,L,M,N,H,_⟩:=sD B D
    have hi:∃ i,Tryz.prog.info? g.type=some i/\i.size=sz+1:=by
     unfold Program.cellsOf at H
     cases hi:Tryz.prog.info? g.type with
     |none=>simp[hi] at H
     |some i=>exact⟨i,rfl,by simpa [hi] using H⟩
    obtain⟨i,hi,S⟩:=hi;subst N
    have:Addr.add ⟨b,o,none⟩ g.offset=⟨b,o+g.offset,none⟩:=by
     unfold Addr.add;split<;>simp_all
    simp[execOp,l.val e,Instr.fieldAt,run_underlying L,M,Instr.sureAddr,fieldPlace,sizeOf,typeInfo,hi,S,this]
   ·cases h
  ·cases h
 |field t x f=>
  simp only[tk] at h;split at h
  ·rename_i fs _ _ _ cs B e;split at h
   ·rename_i off sz _ D;obtain⟨F,g,L,M,N,H,U⟩:=sD B D;subst N;simp[execOp,l.val e,Instr.field,run_underlying L,M,asAgg,part,tL U,Array.getElem?_toList▸h]
   ·rename_i off sz D;obtain⟨F,g,L,M,N,H,U⟩:=sD B D;subst N;simp only[Nc] at h;subst h;simp[execOp,l.val e,Instr.field,run_underlying L,M,asAgg,part,rP U,AD H]
   ·cases h
  ·cases h
 |extract x i=>
  simp only[tk] at h;split at h
  ·rename_i vs e;simp[execOp,l.val e,Instr.extract,Array.getElem?_toList▸h]
  ·cases h
 |makeFunc fn first cap=>
  simp only[tk] at h;split at h
  ·rename_i f c D I;simp only[Option.some.injEq] at h;subst h;have G:=l.vals _ _ D;have V:=l.vals _ _ I;have e3:first.map a.eval=f.toArray:=by rw[← G];exact Array.ext' ai
   have e4:cap.map a.eval=c.toArray:=by rw[<- V];exact Array.ext' ai
   simp[execOp,Instr.makeFunc,e3,e4]
  ·cases h
 |nilCheck x=>
  simp only[tk] at h;split at h
  ·rename_i p e;simp only[Nc] at h;subst h;simp[execOp,l.val e]
  ·cases h
 |makeInterface t x=>
  simp only[tk] at h;split at h
  ·cases h
  ·rename_i i u X B e;simp only[Nc] at h;subst h;obtain⟨d,j,K,_,hu,_⟩:=eU B
   have:∀ ms,d≠.interface ms:=by
    rintro ms rfl;obtain⟨uk,s1,s2,z⟩:=i;simp[qd] at hu;subst hu;exact X _ _ _ rfl
   have P:(Instr.makeInterface t u).run Tryz.prog w=.ok (.iface t u) w:=by
    unfold Instr.makeInterface;rw[Sem.run_bind,run_underlying K]
    cases d<;>first|rfl|exact absurd rfl (this _)
   simp[execOp,l.val e,P]
  ·cases h
 |typeAssert x xt t ok=>
  simp only[tk] at h;split at h
  ·cases h
  ·rename_i i u v X B e;split at h
   ·rename_i Q;obtain rfl:=Om Q;obtain⟨d,j,K,_,hu,_⟩:=eU B
    have Y:∀ ms,d≠.interface ms:=by
     rintro ms rfl;obtain⟨uk,s1,s2,z⟩:=i;simp[qd] at hu;subst hu;exact X _ _ _ rfl
    have P:∀ ok:Bool,(Instr.typeAssert (.iface u v) xt u ok).run Tryz.prog w=.ok (if ok then .tuple #[v,.bool true] else v) w:=by
     intro ok;unfold Instr.typeAssert;simp only[Sem.run_bind,run_underlying K,Result.andThen_ok]
     cases d<;>first|exact absurd rfl (Y _)|(simp)
    split at h
    ·simp only[Nc] at h;subst h;simp[execOp,l.val e,P]
    ·simp only[Nc] at h;subst h;simp[execOp,l.val e,P]
   ·cases h
  ·cases h
 |call c=>
  obtain⟨callee,xs,ts⟩:=c
  cases callee with
  |value f=>simp[tk] at h
  |invoke r m=>simp[tk] at h
  |builtin b=>
   cases b with
   |len=>
    simp only[tk] at h;split at h
    ·rename_i x t A O;have G:xs=#[x]:=by cases xs;simp at A;simp[A]
     have V:ts=#[t]:=by cases ts;simp at O;simp[O]
     subst G;subst V;split at h
     ·rename_i B e;simp only[Nc] at h;subst h;simp[execOp,resolve,invoke,builtin,Builtin.len_,l.val e,run_underlying (eZ B),goInt]
     ·rename_i B e;simp only[Nc] at h;subst h;simp[execOp,resolve,invoke,builtin,Builtin.len_,l.val e,run_underlying (ku B),goInt]
     ·cases h
    ·cases h
   |min=>
    simp only[tk] at h;split at h
    ·rename_i x y A;have G:xs=#[x,y]:=by cases xs;simp at A;simp[A]
     subst G;split at h
     ·rename_i k p Z q e C;simp only[Nc] at h;subst h;simp[execOp,resolve,invoke,builtin,Builtin.min_,Builtin.min2,l.val e,l.val C]
     ·cases h
    ·cases h
   |max=>
    simp only[tk] at h;split at h
    ·rename_i x y A;have G:xs=#[x,y]:=by cases xs;simp at A;simp[A]
     subst G;split at h
     ·rename_i k p Z q e C;simp only[Nc] at h;subst h;simp[execOp,resolve,invoke,builtin,Builtin.max_,Builtin.max2,l.val e,l.val C]
     ·cases h
    ·cases h
   |_=>simp[tk] at h
 |_=>simp[tk] at h
structure Cx where
 w0:World
 M:LN_
 n:uT
abbrev fb:=Exit->Env->Heap->Prop
def qv(X:Cx)(Q:fb):Exit->Act->World->Prop:=λ e a w=>∃ E H,gz X.n a E/\dN X.w0 X.M w H/\Q e E H
def J(X:Cx)(c:Code)(Q:fb)(E:Env)(H:Heap):Prop:=
 ∀ a w,gz X.n a E->dN X.w0 X.M w H->c.wp Tryz.prog (qv X Q) a w
def JL(X:Cx)(ops:List Oper)(l:List Oper)(Q:fb)(E:Env)(H:Heap):Prop:=
 ∀ a w,gz X.n a E->dN X.w0 X.M w H->wpList Tryz.prog ops.toArray (qv X Q) l a w
def yi(K:Env->Heap->Prop)(Q:fb):fb
 |.normal,E,H=>K E H
 |e,E,H=>Q e E H
def G3(id:Nat)(Q:fb):fb
 |.exit i,E,H=>if i=id then Q .normal E H else Q (.exit i) E H
 |e,E,H=>Q e E H
variable {X:Cx} {Q:fb} {E E':Env} {H:Heap}
theorem am{x y:Code}(h:J X x (yi (λ E H=>J X y Q E H) Q) E H):J X (.seq x y) Q E H:=by
 intro a w f g;refine wp_seq (wp_mono (h a w f g) ?_);rintro e i w' ⟨E',H',b,c,d⟩
 cases e with
 |normal=>exact d i w' b c
 |_=>exact⟨E',H',b,c,d⟩
theorem ag(h:Q .normal E H):J X .skip Q E H:=λ _ _ a b=>wp_skip ⟨E,H,a,b,h⟩
theorem bN(h:Q .ret E H):J X .ret Q E H:=λ _ _ a b=>wp_ret ⟨E,H,a,b,h⟩
theorem aO{i:Nat}(h:Q (.exit i) E H):J X (.exit i) Q E H:=λ _ _ a b=>wp_exit ⟨E,H,a,b,h⟩
theorem aq{i:Nat}{c:Code}(h:J X c (G3 i Q) E H):J X (.block i c) Q E H:=by
 intro a w g k;refine wp_block (wp_mono (h a w g k) ?_);rintro e l w' ⟨E',H',b,d,f⟩
 cases e with
 |exit j=>
  simp only[Exit.inBlock];simp only[G3] at f;split
  ·rename_i e;rw[if_pos e] at f;exact⟨E',H',b,d,f⟩
  ·rename_i e;rw[if_neg e] at f;exact⟨E',H',b,d,f⟩
 |_=>exact⟨E',H',b,d,f⟩
def known(c:Operand)(b:Bool)(E:Env):Env:=match c with
 |.tmp t=>(t,.bool b)::E
 |_=>E
theorem gz.known{n:uT}{a:Act}{c:Operand}{b:Bool}(d:gz n a E)(f:Proofs.YtmcnpaelaieniaaGreatDoor.val E c=some (.bool b)):gz n a (Proofs.YtmcnpaelaieniaaGreatDoor.known c b E):=by
 cases c with
 |tmp t=>
  refine⟨d.size,d.defers,λ u v hu=>?_⟩;simp only[Proofs.YtmcnpaelaieniaaGreatDoor.known,ij] at hu
  cases e:Nat.beq t u with
  |true=>
   obtain rfl:=Om e;rw[e] at hu;simp only[cond_true,Nc] at hu;subst hu;exact d.get _ _ f
  |false=>rw[e] at hu;exact d.get u v hu
 |_=>exact d
theorem nW{c:Operand}{x y:Code}{b:Bool}(d:val E c=some (.bool b))(g:b=true->J X x Q (known c true E) H)(h:b=false->J X y Q (known c false E) H):
 J X (.cond c x y) Q E H:=by
 intro a w e f;refine wp_cond (e.val d) ?_
 cases b with
 |true=>exact g rfl a w (e.known d) f
 |false=>exact h rfl a w (e.known d) f
theorem ak{c:Operand}{x y:Code}{p:Prop}(a:val E c=some (.bool (dR p)))(b:p->J X x Q (known c true E) H)(d:¬ p->J X y Q (known c false E) H):
 J X (.cond c x y) Q E H:=nW a (λ h=>b (tD h)) (λ h=>d (mL h))
theorem bF{c:Operand}{x y:Code}(d:val E c=some (.bool true))(h:J X x Q E H):J X (.cond c x y) Q E H:=
 λ a w b e=>wp_cond_true (b.val d) (h a w b e)
theorem bo{c:Operand}{x y:Code}(d:val E c=some (.bool false))(h:J X y Q E H):J X (.cond c x y) Q E H:=
 λ a w b e=>wp_cond_false (b.val d) (h a w b e)
theorem IJ{c:Code}(F:Env)(K:Heap)(l:LN_)(b:nn E F)(hl:l.Nodup)(d:cK H l=some K)(h:J X c Q F K):J X c Q E H:=
 λ a w e f=>h a w (e.ents F b) (f.picks l hl d)
theorem bP{σ:Type}{c:Code}(F:σ->Env)(K:σ->Heap)(I:σ->Prop)(μ:σ->Nat)(s:σ)(l:LN_)(o:nn E (F s))(hl:l.Nodup)(p:cK H l=some (K s))(h:I s)
 (round:∀ s,I s->J X c (yi (λ E' H'=>∃ b g,nn E' (F b)/\g.Nodup/\cK H' g=some (K b)/\I b/\μ b<μ s) Q) (F s) (K s)):J X (.loop c) Q E H:=by
 intro a w i j;refine wp_loop_ghost (λ k a w=>∃ s,k=μ s/\I s/\gz X.n a (F s)/\dN X.w0 X.M w (K s)) (μ s) ⟨s,rfl,h,i.ents _ o,j.picks l hl p⟩ ?_;rintro k a w ⟨s,rfl,h,i,j⟩;refine wp_mono (round s h a w i j) ?_;rintro e x w' ⟨E',H',d,f,m⟩
 cases e with
 |normal=>
  obtain⟨b,g,q,r,t,u,v⟩:=m;exact⟨μ b,v,b,rfl,u,d.ents _ q,f.picks g r t⟩
 |_=>exact⟨E',H',d,f,m⟩
theorem aE{id:Nat}{l:List Oper}(h:JL X l l Q E H):J X (.region id l.toArray false) Q E H:=
 λ a w b c=>wp_region_lit (h a w b c)
theorem ah{ops:List Oper}(h:Q .normal E H):JL X ops [] Q E H:=λ _ _ a b=>⟨E,H,a,b,h⟩
theorem BL{c:Code}{Q':fb}(h:J X c Q E H)(b:∀ e E H,Q e E H->Q' e E H):J X c Q' E H:=
 λ a w d f=>wp_mono (h a w d f) λ _ _ _ ⟨E,H,g,i,j⟩=>⟨E,H,g,i,b _ _ _ j⟩
def M5(gs:LN_)(j:Nat):Bool:=match gs with
 |[]=>false
 |i::l=>bif Nat.beq i 999 then true else bif Nat.beq i j then true else M5 l j
def gd(ops:List Oper)(gs:LN_)(E:Env):Option (Nat×Bool)->Option Bool
 |none=>some true
 |some (j,want)=>match M5 gs j with
  |true=>match ops[j]? with
   |some oj=>match oj.dst with
    |some t=>match ij E t with
     |some (.bool b)=>some (b==want)
     |some (.tuple _)=>some false
     |_=>none
    |none=>none
   |none=>none
  |false=>none
def w8(n:uT)(d:Option Nat)(v:Value)(E:Env):Option Env:=match d with
 |none=>some E
 |some d=>match Nat.blt d n.len with
  |true=>some ((d,v)::E)
  |false=>none
theorem gz.putE{n:uT}{a:Act}{d:Option Nat}{v:Value}(b:gz n a E)(h:w8 n d v E=some E'):gz n (a.put d v) E':=by
 cases d with
 |none=>simp only[Proofs.YtmcnpaelaieniaaGreatDoor.w8,Nc] at h;subst h;exact b
 |some d=>
  simp only[Proofs.YtmcnpaelaieniaaGreatDoor.w8] at h;split at h
  ·rename_i c;simp only[Nc] at h;subst h;exact b.put (by simpa using c) v
  ·cases h
theorem fB{n:uT}{a:Act}{ops:List Oper}{gs:LN_}{o:Oper}{b:Bool}(g:gz n a E)(h:gd ops gs E o.guard=some b):
 Region.wanted o (yielded ops.toArray a.tmps)=b:=by
 unfold Region.wanted;unfold gd at h;split at h
 ·rename_i e;simp only[Nc] at h;subst h;simp[e]
 ·rename_i j want e;simp only[e];split at h
  ·split at h
   ·rename_i l d;split at h
    ·rename_i t i;split at h
     ·rename_i k c;simp only[Option.some.injEq] at h;subst h;have:=g.get _ _ c;have f:yielded ops.toArray a.tmps j=some k:=by simp[yielded,d,i,this]
      rw[f]
      cases k<;>cases want<;>rfl
     ·rename_i vs c;simp only[Option.some.injEq] at h;subst h;have:=g.get _ _ c;have f:yielded ops.toArray a.tmps j=none:=by simp[yielded,d,i,this]
      rw[f];rfl
     ·cases h
    ·cases h
   ·cases h
  ·cases h
def i8(X:Cx)(o:Oper)(E:Env)(H:Heap)(v:Value):Prop:=
 ∀ a w,gz X.n a E->dN X.w0 X.M w H->(execOp a.eval o).run Tryz.prog w=.ok (.value v) w
theorem mc{o:Oper}{v:Value}(h:tk E o.op=some v):i8 X o E H v:=λ _ w a _=>JG h a o.dst o.type o.pos o.after o.guard w
def jD(n:uT)(ops:List Oper)(gs:LN_)(E:Env)(o:Oper)(v:Value):Option Env:=match gd ops gs E o.guard with
 |some true=>w8 n o.dst v E
 |_=>none
theorem d7{n:uT}{ops:List Oper}{gs:LN_}{o:Oper}{v:Value}(h:jD n ops gs E o v=some E'):gd ops gs E o.guard=some true/\w8 n o.dst v E=some E':=by
 unfold jD at h;split at h
 ·rename_i a;exact⟨a,h⟩
 ·cases h
theorem ae{ops l:List Oper}{o:Oper}{v:Value}(gs:LN_)(c:i8 X o E H v)(d:jD X.n ops gs E o v=some E')(h:JL X ops l Q E' H):JL X ops (o::l) Q E H:=by
 intro a w hA b;obtain⟨hg,hp⟩:=d7 d;refine na ?_
 left
 refine m7 ?_;rw[c a w hA b];exact h _ _ (hA.putE hp) b
theorem Ji{ops l:List Oper}{o:Oper}(gs:LN_)(c:gd ops gs E o.guard=some false)(hp:w8 X.n o.dst undef E=some E')(h:JL X ops l Q E' H):JL X ops (o::l) Q E H:=by
 intro a w b d;unfold wpList;rw[if_neg (by rw[fB b c];decide)];exact h _ _ (b.putE hp) d
noncomputable def IL(n:uT)(ops:List Oper)(gs:LN_)(E:Env)(o:Oper):Option Env:=match gd ops gs E o.guard with
 |some true=>match tk E o.op with
  |some v=>w8 n o.dst v E
  |none=>none
 |some false=>w8 n o.dst undef E
 |none=>none
noncomputable def IM(n:uT)(ops:List Oper)(gs:LN_)(E:Env):List Oper->Env×List Oper
 |[]=>(E,[])
 |o::l=>match IL n ops gs E o with
  |some E'=>IM n ops gs E' l
  |none=>(E,o::l)
theorem cE{ops l:List Oper}{o:Oper}{gs:LN_}(he:IL X.n ops gs E o=some E')(h:JL X ops l Q E' H):JL X ops (o::l) Q E H:=by
 unfold IL at he;split at he
 ·rename_i a;split at he
  ·rename_i v b;exact ae gs (mc b) (by unfold jD;rw[a];exact he) h
  ·cases he
 ·rename_i a;exact Ji gs a he h
 ·cases he
theorem fV{ops a:List Oper}(gs:LN_):∀ {l:List Oper} {E:Env},IM X.n ops gs E l=(E',a)->JL X ops a Q E' H->JL X ops l Q E H
 |[],E,h,k=>by
  simp only[IM,N3] at h;obtain⟨rfl,rfl⟩:=h;exact k
 |o::l,E,h,k=>by
  unfold IM at h;split at h
  ·rename_i c b;exact cE b (fV gs h k)
  ·simp only[N3] at h;obtain⟨rfl,rfl⟩:=h;exact k
theorem db{ops:List Oper}(gs:LN_){l:List Oper}(h:IM X.n ops gs E l=(E',[]))(k:Q .normal E' H):JL X ops l Q E H:=fV gs h (ah k)
theorem zk{ops l:List Oper}{d:Oper}{t:Nat}{b:Bool}(j:Nat)(_hj:ops[j]?=some d)(_ht:d.dst=some t)(e:ij E t=some (.bool b))
 (h:b=true->JL X ops l Q ((t,.bool true)::E) H) (i:b=false->JL X ops l Q ((t,.bool false)::E) H):JL X ops l Q E H:=by
 intro a w f g
 cases b with
 |true=>exact h rfl a w (gz.known (c:=.tmp t) f e) g
 |false=>exact i rfl a w (gz.known (c:=.tmp t) f e) g
theorem Ej{ops l:List Oper}{a:Oper}{t:Nat}{p:Prop}(j:Nat)(b:ops[j]?=some a)(c:a.dst=some t)(d:ij E t=some (.bool (dR p)))
 (e:p->JL X ops l Q ((t,.bool true)::E) H) (f:¬ p->JL X ops l Q ((t,.bool false)::E) H):JL X ops l Q E H:=
 zk j b c d (λ h=>e (tD h)) (λ h=>f (mL h))
theorem DG{ops l:List Oper}{o a:Oper}{j t:Nat}{want:Bool}{p:Prop}(_hg:o.guard=some (j,want))(b:ops[j]?=some a)(c:a.dst=some t)(d:ij E t=some (.bool (dR p)))
 (e:p->JL X ops (o::l) Q ((t,.bool true)::E) H) (f:¬ p->JL X ops (o::l) Q ((t,.bool false)::E) H):JL X ops (o::l) Q E H:=Ej j b c d e f
theorem GK{ops l:List Oper}{o a:Oper}{j t:Nat}{want:Bool}{b:Bool}(_hg:o.guard=some (j,want))(c:ops[j]?=some a)(d:a.dst=some t)(e:ij E t=some (.bool b))
 (f:b=true->JL X ops (o::l) Q ((t,.bool true)::E) H) (g:b=false->JL X ops (o::l) Q ((t,.bool false)::E) H):JL X ops (o::l) Q E H:=zk j c d e f g
theorem gz.set{n:uT}{a:Act}{t:Nat}{v v':Value}(b:gz n a E)(d:ij E t=some v)(e:v=v'):gz n a ((t,v')::E):=by
 subst e;refine⟨b.size,b.defers,λ u x hu=>?_⟩;simp only[ij] at hu
 cases c:Nat.beq t u with
 |true=>
  obtain rfl:=Om c;rw[c] at hu;simp only[cond_true,Nc] at hu;subst hu;exact b.get _ _ d
 |false=>rw[c] at hu;exact b.get u x hu
theorem aA{ops l:List Oper}(t:Nat){v v':Value}(b:ij E t=some v)(e:v=v')(h:JL X ops l Q ((t,v')::E) H):JL X ops l Q E H:=λ a w c d=>h a w (c.set b e) d
theorem bD{c:Code}(t:Nat){v v':Value}(b:ij E t=some v)(e:v=v')(h:J X c Q ((t,v')::E) H):J X c Q E H:=λ a w d f=>h a w (d.set b e) f
theorem fN{x y:Code}(F:Env)(K:Heap)(b:J X x (yi (λ E' H'=>∃ ix:LN_,nn E' F/\ix.Nodup/\cK H' ix=some K) Q) E H)(c:J X y Q F K):J X (.seq x y) Q E H:=by
 refine am (BL b ?_);intro e E' H' a
 cases e with
 |normal=>obtain⟨ix,d,f,g⟩:=a;exact IJ F K ix d f g c
 |_=>exact a
theorem C7:Tryz.prog.follows .mixedOrders=true:=by kernel_rfl
def JS(X:Cx)(ops:List Oper)(l:List Oper)(H:Heap)(K:Env->Prop)(E:Env):Prop:=
 ∀ a w,gz X.n a E->dN X.w0 X.M w H->wpStill Tryz.prog ops.toArray w (λ a'=>∃ E',gz X.n a' E'/\K E') l a
theorem CF{id:Nat}{l:List Oper}(k:Nat)(g:Region.lexTailB .any l.toArray k=true)(h:JS X l (l.take k) H (λ E=>JL X l (l.drop k) Q E H) E):J X (.region id l.toArray true) Q E H:=by
 intro a w i e;refine wp_region_still_tail k C7 g ?_;have:=h a _ i e.drew;refine (?_:∀ (Q1 b:Act->Prop),(∀ a,Q1 a->b a)->∀ l a,wpStill Tryz.prog _ _ Q1 l a->wpStill Tryz.prog _ _ b l a) _ _ ?_ _ a this
 ·intro Q1 b c l
  induction l with
  |nil=>exact λ a h=>c a h
  |cons o l f=>
   intro a h;unfold wpStill at h ⊢;split
   ·rename_i hw;rw[if_pos hw] at h;exact Oper.still_mono f h
   ·rename_i hw;rw[if_neg hw] at h;exact f _ h
 ·rintro a ⟨E',d,c⟩;exact c a _ d e.drew
theorem HI{ops:List Oper}{K:Env->Prop}(h:K E):JS X ops [] H K E:=λ _ _ a _=>⟨E,a,h⟩
theorem ou{ops l:List Oper}{o:Oper}{v:Value}{K:Env->Prop}(gs:LN_)(d:i8 X o E H v)(e:jD X.n ops gs E o v=some E')(h:JS X ops l H K E'):JS X ops (o::l) H K E:=by
 intro a w b c;obtain⟨f,hp⟩:=d7 e;unfold wpStill;rw[if_pos (fB b f)];unfold Oper.still;rw[d a w b c];exact⟨rfl,h _ w (b.putE hp) c⟩
theorem K7{ops l:List Oper}{o:Oper}{gs:LN_}{K:Env->Prop}(he:IL X.n ops gs E o=some E')(h:JS X ops l H K E'):JS X ops (o::l) H K E:=by
 unfold IL at he;split at he
 ·rename_i b;split at he
  ·rename_i v d;exact ou gs (mc d) (by unfold jD;rw[b];exact he) h
  ·cases he
 ·rename_i b;intro a w c e;unfold wpStill;rw[if_neg (by rw[fB c b];decide)];exact h _ w (c.putE he) e
 ·cases he
theorem um{ops a:List Oper}{K:Env->Prop}(gs:LN_):∀ {l:List Oper} {E:Env},IM X.n ops gs E l=(E',a)->JS X ops a H K E'->JS X ops l H K E
 |[],E,h,k=>by
  simp only[IM,N3] at h;obtain⟨rfl,rfl⟩:=h;exact k
 |o::l,E,h,k=>by
  unfold IM at h;split at h
  ·rename_i c b;exact K7 b (um gs h k)
  ·simp only[N3] at h;obtain⟨rfl,rfl⟩:=h;exact k
def pE:Nat->LV_->Env
 |_,[]=>[]
 |i,v::l=>(i,v)::pE (i+1) l
def u9(E:Env):List ResultVar->Option (LV_)
 |[]=>some []
 |.tmp t::l=>match ij E t with
  |some v=>match u9 E l with
   |some vs=>some (v::vs)
   |none=>none
  |none=>none
 |_=>none
def mH:LV_->Value
 |[v]=>v
 |vs=>.tuple vs.toArray
def Fn(f:FuncId)(args:LV_)(M:LN_)(H:Heap)(R:Value->Heap->Prop):Prop:=
 ∀ w,dN w M w H->Calls Tryz.prog f args.toArray w λ e w'=>∃ v H',e=.returned v/\dN w M w' H'/\R v H'
def Mn(rs:List ResultVar)(R:Value->Heap->Prop):fb:=λ e E H=>match e with
 |.normal=>∃ vs,u9 E rs=some vs/\R (mH vs) H
 |.ret=>∃ vs,u9 E rs=some vs/\R (mH vs) H
 |_=>False
theorem vr:∀ (args:LV_) (i t:Nat) (v:Value),ij (pE i args) t=some v->i<=t/\args[t-i]?=some v
 |[],i,t,v,h=>by simp[pE,ij] at h
 |u::args,i,t,v,h=>by
  unfold pE ij at h
  cases a:Nat.beq i t with
  |true=>
   obtain rfl:=Om a;rw[a] at h;simp only[cond_true,Nc] at h;subst h;simp
  |false=>
   rw[a] at h;have b:=vr args (i+1) t v h;refine⟨aa,?_⟩;have:t-i=(t-(i+1))+1:=aa;rw[this,Oj];exact b.2
def pU(tmps:Array Value):ResultVar->Sem Value
 |.tmp t=>pure (tmps.getD t undef)
 |.cell addr t=>do loadVar t (<- asAddr (tmps.getD addr undef))
theorem xT{a:Act}{n:uT}(c:gz n a E):∀ (d:List ResultVar) (vs:LV_),u9 E d=some vs->∀ w,
 (d.mapM (m:=Sem) (pU a.tmps)).run Tryz.prog w=.ok vs w
 |[],vs,h,w=>by simp[u9] at h;simp[h]
 |.tmp t::l,vs,h,w=>by
  unfold u9 at h;split at h
  ·rename_i v e;split at h
   ·rename_i us b;simp only[Nc] at h;subst h;have f:=c.get _ _ e;have g:=xT c l us b w;rw[List.mapM_cons];simp[pU,g,O8,f]
   ·cases h
  ·cases h
 |.cell a t::l,vs,h,w=>by simp[u9] at h
theorem jH{a:Act}{n:uT}(b:gz n a E){fn:Func}{vs:LV_}(h:u9 E fn.results.toList=some vs)(w:World):
 (results fn a.tmps).run Tryz.prog w=.ok (mH vs) w:=by
 have e:results fn a.tmps=(do let vs <- fn.results.mapM (pU a.tmps);pure (if h:vs.size=1 then vs[0] else .tuple vs)):=rfl;rw[e,PU];simp only[map_eq_pure_bind,bind_assoc,pure_bind,Sem.run_bind,xT b _ _ h w];show Result.ok (if h:vs.toArray.size=1 then vs.toArray[0] else Value.tuple vs.toArray) w=_
 congr 1
 match vs with
 |[]=>rfl
 |[v]=>rfl
 |u::v::l=>
  have:¬ (u::v::l).toArray.size=1:=ai;rw[dif_neg this];rfl
theorem np{n:Nat}{args:LV_}(a:Nat.ble args.length n=true):gz ⟨n,[]⟩ { tmps:=args.toArray++Array.replicate (n-args.toArray.size) undef,defers:=[] } (pE 0 args):=by
 have a:=PG a;refine⟨by simp;omega,rfl,λ t v b=>?_⟩;have:=(vr args 0 t v b).2;simp only[Nat.sub_zero] at this;have hl:=(Ng.1 this).1;rw[Array.getElem?_append_left (by simpa using hl)]
 simpa using this
theorem KT{f:FuncId}{fn:Func}{c:Code}{args:LV_}{M:LN_}{R:Value->Heap->Prop}(k:Tryz.prog.funcs[f]?=some fn)(l:fn.body=some c)(m:Nat.ble args.length fn.ntmps=true)
 (h:∀ w0,J ⟨w0,M,⟨fn.ntmps,[]⟩⟩ c (Mn fn.results.toList R) (pE 0 args) H):Fn f args M H R:=by
 intro w n;refine calls_of_wp k l ?_;have o:=np (args:=args) m;refine wp_mono (h w _ w o n) ?_;rintro e a w' ⟨E',H',b,d,g⟩
 cases e with
 |normal=>
  obtain⟨vs,i,j⟩:=g;exact⟨b.defers,mH vs,jH b i w',mH vs,H',rfl,d,j⟩
 |ret=>
  obtain⟨vs,i,j⟩:=g;exact⟨b.defers,mH vs,jH b i w',mH vs,H',rfl,d,j⟩
 |_=>exact g.elim
theorem Fn.mono{f:FuncId}{args:LV_}{M:LN_}{R R':Value->Heap->Prop}(h:Fn f args M H R)(a:∀ v H',R v H'->R' v H'):Fn f args M H R':=
 λ w hw=>(h w hw).mono λ _ _ ⟨v,H',b,c,d⟩=>⟨v,H',b,c,a _ _ d⟩
variable {X:Cx} {Q:fb} {E E':Env} {H:Heap}
def eI(cs:LV_):Nat->Nat->Option (LV_)
 |_,0=>some []
 |i,n+1=>match cs[i]? with
  |some v=>match eI cs (i+1) n with
   |some l=>some (v::l)
   |none=>none
  |none=>none
def fQ(t:Nat)(cs:LV_)(i:Nat):Option Value:=match tab t with
 |some ⟨.struct _,sz,_,_⟩=>match eI cs i sz with
  |some l=>some (.agg l.toArray)
  |none=>none
 |some ⟨.arr _ _,sz,_,_⟩=>match eI cs i sz with
  |some l=>some (.agg l.toArray)
  |none=>none
 |some ⟨_,1,_,_⟩=>cs[i]?
 |_=>none
theorem Addr.add_at(b o j:Nat):Addr.add ⟨b,o,none⟩ j=⟨b,o+j,none⟩:=by
 unfold Addr.add;split
 ·rename_i h;subst h;rfl
 ·rfl
theorem lC{w:World}{b o:Nat}{cs:LV_}(c:∀ i v,cs[i]?=some v->w.cell? ⟨b,o+i,none⟩=some v):∀ (n i:Nat) (acc:Array Value) (l:LV_),eI cs i n=some l->
 (loadCellsFrom ⟨b,o,none⟩ i n acc).run Tryz.prog w=.ok (acc++l.toArray) w
 |0,i,acc,l,h=>by simp[eI] at h;subst h;simp[loadCellsFrom]
 |n+1,i,acc,l,h=>by
  unfold eI at h;split at h
  ·rename_i v d;split at h
   ·rename_i e a;simp only[Nc] at h;subst h;have:=c i v d;have f:=lC c n (i+1) (acc.push v) e a;simp[loadCellsFrom,load,Sem.run,Addr.add_at,this,f]
   ·cases h
  ·cases h
theorem oq{cs:LV_}{k:Nat}:∀ (n i:Nat) (l:LV_),eI cs (k+i) n=some l->eI (cs.drop k) i n=some l
 |0,i,l,h=>by simpa [eI] using h
 |n+1,i,l,h=>by
  unfold eI at h ⊢;split at h
  ·rename_i v b;split at h
   ·rename_i c a;have:=oq (cs:=cs) (k:=k) n (i+1) c (by rw[<- N7];exact a);rw[Ol,b];simp only[this];exact h
   ·cases h
  ·cases h
theorem uL{t:Nat}{i:TI}(h:tab t=some i)(a:∀ fs,i.uk≠.struct fs)(b:∀ n e,i.uk≠.arr n e):pW Tryz.prog t=0:=by
 obtain⟨d,j,c,_,hu,_⟩:=eU h;unfold pW;rw[c]
 cases d<;>simp only[qd] at hu<;>first|rfl|exact absurd hu.symm (a _)|exact absurd hu.symm (b _ _)
theorem vE{t s b:Nat}{z:Option Value}{fs:List (Nat×Nat×Nat)}(h:tab t=some ⟨.struct fs,s,b,z⟩):pW Tryz.prog t=1:=by
 obtain⟨F,a,_⟩:=mu h;unfold pW;rw[a]
theorem AC{t s b n e:Nat}{z:Option Value}(h:tab t=some ⟨.arr n e,s,b,z⟩):pW Tryz.prog t=1:=by
 obtain⟨d,j,a,_,hu,_⟩:=eU h;unfold pW;rw[a]
 cases d<;>simp[qd] at hu ⊢
theorem dW{t:Nat}{i:TI}(h:tab t=some i)(w:World):(sizeOf t).run Tryz.prog w=.ok i.size w:=by
 obtain⟨d,j,b,hi,hu,a,_⟩:=eU h;simp[sizeOf,typeInfo,hi,a]
theorem sO{w:World}{b o t:Nat}{cs:LV_}{v:Value}(c:∀ i v,cs[i]?=some v->w.cell? ⟨b,o+i,none⟩=some v)(h:fQ t cs 0=some v):
 (loadVar t ⟨b,o,none⟩).run Tryz.prog w=.ok v w:=by
 unfold fQ at h;unfold loadVar;split at h
 ·rename_i sz _ _ a;split at h
  ·rename_i l hl;simp only[Nc] at h;subst h;simp[rP (vE a),dW a,loadCells,lC c _ _ _ _ hl]
  ·cases h
 ·rename_i sz _ _ a;split at h
  ·rename_i l hl;simp only[Nc] at h;subst h;simp[rP (AC a),dW a,loadCells,lC c _ _ _ _ hl]
  ·cases h
 ·rename_i d f a;have:=c 0 v h;simp only[OZ] at this;have g:=uL a (λ fs e=>d fs e) (λ n e k=>f n e k);simp[tL g,load,Sem.run,this]
 ·cases h
theorem zZ{t:Nat}{cs:LV_}{i:Nat}{v:Value}(h:fQ t cs i=some v):fQ t (cs.drop i) 0=some v:=by
 unfold fQ at h ⊢;split at h
 ·split at h
  ·rename_i l hl;rw[oq (k:=i) _ 0 l hl];exact h
  ·cases h
 ·split at h
  ·rename_i l hl;rw[oq (k:=i) _ 0 l hl];exact h
  ·cases h
 ·rw[Ol];simpa using h
 ·cases h
def aY.shows(c:aY)(b off:Nat)(cs:LV_):Prop:=∀ w,c.holds w->∀ i v,cs[i]?=some v->w.cell? ⟨b,off+i,none⟩=some v
theorem aS(b e:Nat)(cs:LV_)(a:Nat×Nat):(aY.obj b (.cells cs.toArray e a)).shows b 0 cs:=by
 intro w h i v c;have d:w.heap[b]?=some (.cells cs.toArray e a):=h;simp[World.cell?,d,c]
theorem bq(b off:Nat)(vs:LV_):(aY.seg b off vs).shows b off vs:=λ _ h=>h
theorem ca{g e sz n cap:Nat}{xs:LV_}:(aY.own (.slice (some ⟨g,0,none⟩) n cap) e sz n xs).shows g 0 xs:=by
 intro w h i v a;have:=World.ownsRow.cells h (g:=g) rfl i v a;rw[Addr.add_at] at this;exact this
theorem dY{o:Oper}{t b off i:Nat}{x:Operand}{c:aY}{cs:LV_}{v:Value}(k:Nat)(d:o.op=.load t x)(e:val E x=some (.pointer (some ⟨b,off+i,none⟩)))
 (f:H[k]?=some c) (g:c.shows b off cs) (h:fQ t cs i=some v):i8 X o E H v:=by
 intro a w l m;have n:=g w (m.holds c (Nb f))
 have p:(loadVar t ⟨b,off+i,none⟩).run Tryz.prog w=.ok v w:=sO (cs:=cs.drop i) (λ j u hu=>by
  rw[Ol] at hu;rw[N7];exact n (i+j) u hu) (zZ h)
 simp[execOp,d,l.val e,Instr.loadAt,Instr.sureAddr,p]
theorem a8{o:Oper}{t b i e:Nat}{x:Operand}{cs:LV_}{v:Value}(k:Nat)(a:o.op=.load t x)(c:val E x=some (.pointer (some ⟨b,i,none⟩)))
 (d:H[k]?=some (blk b e cs)) (f:fQ t cs i=some v):i8 X o E H v:=
 dY k a (by rw[NR];exact c) d (aS b e cs (0,0)) f
theorem ad{o:Oper}{t b i e:Nat}{x:Operand}{cs:LV_}{v:Value}(k:Nat)(h:(o.op,val E x,H[k]?,fQ t cs i)=(.load t x,some (.pointer (some ⟨b,i,none⟩)),some (blk b e cs),some v)):i8 X o E H v:=by
 simp only[N3] at h;exact a8 k h.1 h.2.1 h.2.2.1 h.2.2.2
theorem IU{o:Oper}{t b off i:Nat}{x:Operand}{vs:LV_}{v:Value}(k:Nat)(a:o.op=.load t x)(c:val E x=some (.pointer (some ⟨b,off+i,none⟩)))
 (d:H[k]?=some (.seg b off vs)) (e:fQ t vs i=some v):i8 X o E H v:=dY k a c d (bq b off vs) e
theorem aw{o:Oper}{t g i e sz n cap:Nat}{x:Operand}{xs:LV_}{v:Value}(k:Nat)(a:o.op=.load t x)(b:val E x=some (.pointer (some ⟨g,i,none⟩)))
 (c:H[k]?=some (.own (.slice (some ⟨g,0,none⟩) n cap) e sz n xs)) (d:fQ t xs i=some v):i8 X o E H v:=
 dY k a (by rw[NR];exact b) c ca d
theorem oO{o:Oper}{t b off n c e sz d m:Nat}{x ix:Operand}{k:IntKind}{z:Option Value}{f:TI}(h:o.op=.indexAddr t x ix)(i:val E x=some (.slice (some ⟨b,off,none⟩) n c))
 (hi:val E ix=some (.int k (m:Int))) (j:tab t=some ⟨.slice e,sz,d,z⟩) (he:tab e=some f) (hm:m<n):i8 X o E H (.pointer (some ⟨b,off+m*f.size,none⟩)):=by
 intro a w g l;have p:(0:Int)<=(m:Int)/\(m:Int)<(n:Int):=aa;simp[execOp,h,g.val i,g.val hi,Instr.indexAt,asIntOf,run_underlying (eZ j),dW he,Addr.add_at,hm]
theorem vT(w:World)(o:Obj)(k:Nat)(a:k<w.heap.size):(w.alloc o).heap[k]?=w.heap[k]?:=Below.heap_alloc w o k a
theorem dN.alloc{w0 w:World}{M:LN_}(a:dN w0 M w H)(o:Obj):dN w0 M (w.alloc o) (.obj w.heap.size o::H):=
 a.grow rfl rfl rfl ai (λ k c=>vT w o k c) (heap_alloc_new w o) (λ b d=>by simp only[aY.at_,Nc] at d;omega)
theorem wV{F:Nat->Env}{f:Nat->Value}{ops l:List Oper}{o:Oper}{c:Obj}(gs:LN_)
 (e:∀ a w,gz X.n a E->dN X.w0 X.M w H->(execOp a.eval o).run Tryz.prog w=.ok (.value (f w.heap.size)) (w.alloc c))
 (g:∀ b,jD X.n ops gs E o (f b)=some (F b)) (h:∀ b,JL X ops l Q (F b) (.obj b c::H)):JL X ops (o::l) Q E H:=by
 intro a w hA d;obtain⟨hg,hp⟩:=d7 (g w.heap.size);refine na ?_
 left
 refine m7 ?_;rw[e a w hA d];exact h w.heap.size _ _ (hA.putE hp) (d.alloc c)
theorem Bi{F:Nat->Env}{ops l:List Oper}{o:Oper}{e:Nat}{x:Operand}{v:Value}{cs:LV_}(c:o.op=.box e x)(d:val E x=some v)(g:v.cells=cs.toArray)
 (i:∀ b,jD X.n ops [] E o (.pointer (some ⟨b,0,none⟩))=some (F b)) (h:∀ b,JL X ops l Q (F b) (blk b e cs::H)):JL X ops (o::l) Q E H:=
 wV (f:=λ b=>.pointer (some ⟨b,0,none⟩)) [] (λ a w j _=>by
  simp[execOp,c,j.val d,Instr.box,newVar,newRow,newObj,g,Sem.run,World.alloc_eq]) i h
theorem nD{F:Nat->Env}{ops l:List Oper}{o:Oper}{e sz c:Nat}{uk:UK}{v:Value}{cs:LV_}(g:o.op=.alloc e)(i:tab e=some ⟨uk,sz,c,some v⟩)(k:v.cells=cs.toArray)
 (m:∀ b,jD X.n ops [] E o (.pointer (some ⟨b,0,none⟩))=some (F b)) (h:∀ b,JL X ops l Q (F b) (blk b e cs::H)):JL X ops (o::l) Q E H:=
 wV (f:=λ b=>.pointer (some ⟨b,0,none⟩)) [] (λ a w q _=>by
  obtain⟨d,j,_,hi,_,_,_,p⟩:=eU i;simp[execOp,g,Instr.alloc,zeroValue,typeInfo,hi,p v rfl,newVar,newRow,newObj,k,Sem.run,World.alloc_eq]) m h
def one:LV_->Bool
 |[]=>true
 |v::l=>match v.oneCell' with
  |true=>one l
  |false=>false
def wr:LV_->Nat->LV_->LV_
 |cs,_,[]=>cs
 |cs,i,v::l=>wr (cs.set i v) (i+1) l
theorem rN:∀ (l cs:LV_) (i:Nat),(wr cs i l).length=cs.length
 |[],cs,i=>rfl
 |v::l,cs,i=>by unfold wr;rw[rN l];simp
theorem Eg{w:World}{b e i:Nat}{cs:LV_}{v:Value}(a:w.heap[b]?=some (.cells cs.toArray e (0,0)))(hi:i<cs.length)(c:v.oneCell'=true):
 (store ⟨b,i,none⟩ v .plain).run Tryz.prog w=.ok () (w.setCell ⟨b,i,none⟩ v):=by
 have d:w.cell? ⟨b,i,none⟩=some cs[i]:=by simp[World.cell?,a,hi]
 have f:w.frozen? ⟨b,i,none⟩=false:=by simp[World.frozen?,a]
 rw[run_store _ _ _ _ _ c,d];simp[f]
theorem AJ{w:World}{b e i:Nat}{cs:LV_}(v:Value)(a:w.heap[b]?=some (.cells cs.toArray e (0,0))):
 (w.setCell ⟨b,i,none⟩ v).heap[b]?=some (.cells (cs.set i v).toArray e (0,0)):=by
 simp only[World.setCell,Array.getElem?_modify,O7,a,Pe];simp
theorem gH{b e o:Nat}:∀ (vs:LV_) (i:Nat) (w:World) (cs:LV_),w.heap[b]?=some (.cells cs.toArray e (0,0))->o+i+vs.length<=cs.length->one vs=true->
 ∃ w',(storeCells ⟨b,o,none⟩ vs i).run Tryz.prog w=.ok () w'/\w'.heap[b]?=some (.cells (wr cs (o+i) vs).toArray e (0,0))/\w'.os=w.os/\w'.tape=w.tape/\w'.output=w.output/\w'.heap.size=w.heap.size/\
   ∀ k,k≠b->w'.heap[k]?=w.heap[k]?
 |[],i,w,cs,a,_,_=>⟨w,by simp[storeCells],by simpa [wr] using a,rfl,rfl,rfl,rfl,λ _ _=>rfl⟩
 |v::vs,i,w,cs,a,hl,c=>by
  unfold one at c;split at c
  ·rename_i f;simp only[List.length_cons] at hl;have g:=Eg (v:=v) (i:=o+i) a aa f;obtain⟨w',h,j,l,m,n,p,q⟩:=gH (o:=o) vs (i+1) _ _ (AJ (i:=o+i) v a) eK c;refine⟨w',?_,?_,l,m,n,by rw[p];simp[World.setCell],fun k d=>(q k d).trans (Below.heap_setCell w _ v k d)⟩
   ·rw[storeCells,Addr.add_at,Sem.run_bind,g];exact h
   ·rw[wr,<- N7] at*;exact j
  ·cases c
def rj(t:Nat)(cs:LV_)(i:Nat)(vs:LV_):Option (LV_):=match tab t with
 |some ⟨_,sz,_,_⟩=>match Nat.beq vs.length sz with
  |true=>match Nat.ble (i+vs.length) cs.length with
   |true=>match one vs with
    |true=>some (wr cs i vs)
    |false=>none
   |false=>none
  |false=>none
 |none=>none
theorem vM{t i:Nat}{cs vs a:LV_}(h:rj t cs i vs=some a):∃ j,tab t=some j/\j.size=vs.length/\i+vs.length<=cs.length/\one vs=true/\a=wr cs i vs:=by
 unfold rj at h;split at h
 ·rename_i b;split at h
  ·rename_i c;split at h
   ·rename_i d;split at h
    ·rename_i e;simp only[Nc] at h;exact⟨_,b,(Om c).symm,PG d,e,h.symm⟩
    ·cases h
   ·cases h
  ·cases h
 ·cases h
theorem xg{w:World}{b e o t:Nat}{cs a:LV_}{v:Value}(c:w.heap[b]?=some (.cells cs.toArray e (0,0)))(h:rj t cs o v.cells.toList=some a):
 ∃ w',(storeVar t ⟨b,o,none⟩ v).run Tryz.prog w=.ok () w'/\w'.heap[b]?=some (.cells a.toArray e (0,0))/\w'.os=w.os/\w'.tape=w.tape/\w'.output=w.output/\w'.heap.size=w.heap.size/\
   ∀ k,k≠b->w'.heap[k]?=w.heap[k]?:=by
 obtain⟨j,d,f,hl,g,rfl⟩:=vM h;obtain⟨w',i,l⟩:=gH (o:=o) v.cells.toList 0 w cs c (by simpa using hl) g;refine⟨w',?_,l⟩;have:v.cells.size=j.size:=by rw[f];simp
 simp[storeVar,dW d,this,i]
theorem ur{ops l:List Oper}{o:Oper}{t b i e:Nat}{x y:Operand}{v:Value}{cs c:LV_}(k:Nat)(m:o.op=.store t x y)(p:val E x=some (.pointer (some ⟨b,i,none⟩)))(q:val E y=some v)
 (f:H[k]?=some (blk b e cs)) (hw:rj t cs i v.cells.toList=some c) (gs:LN_) (r:jD X.n ops gs E o undef=some E') (h:JL X ops l Q E' (H.set k (blk b e c))):JL X ops (o::l) Q E H:=by
 intro a w hA g;obtain⟨hg,hp⟩:=d7 r;refine na ?_
 left
 obtain⟨w',s,u,z,A,B,F,C⟩:=xg (g.holds _ (Nb f)) hw;refine m7 ?_
 have:(execOp a.eval o).run Tryz.prog w=.ok .skip w':=by
  simp[execOp,m,hA.val p,hA.val q,Instr.storeAt,Instr.sureAddr,s]
 rw[this];refine h _ _ (hA.putE hp) (g.step k f z A B aa (λ j _ D=>C j (λ x=>D (by rw[x];rfl))) u (λ I d=>.inl d))
theorem fG{ops l:List Oper}{o:Oper}{t b i e:Nat}{x y:Operand}{v:Value}{cs cs':LV_}(k:Nat)(h1:(o.op,val E x,val E y,H[k]?,rj t cs i v.cells.toList)=(.store t x y,some (.pointer (some ⟨b,i,none⟩)),some v,some (blk b e cs),some cs'))(gs:LN_)(hb:jD X.n ops gs E o undef=some E')(h:JL X ops l Q E' (H.set k (blk b e cs'))):JL X ops (o::l) Q E H:=by
 simp only[N3] at h1;exact ur k h1.1 h1.2.1 h1.2.2.1 h1.2.2.2.1 h1.2.2.2.2 gs hb h
theorem sB{w w':World}{e sz n g cap i:Nat}{xs vs:LV_}(h:w.ownsRow 0 e sz (.slice (some ⟨g,0,none⟩) n cap) n xs)(hl:i+vs.length<=xs.length)
 (hw:∀ cs,w.heap[g]?=some (.cells cs e (0,0))->w'.heap[g]?=some (.cells (wr cs.toList i vs).toArray e (0,0))):
 w'.ownsRow 0 e sz (.slice (some ⟨g,0,none⟩) n cap) n (wr xs i vs):=by
 refine⟨by rw[rN];exact h.1,?_⟩
 rcases h.2 with ⟨a,_⟩|⟨p,b,cur,a,c,d,f,j,k,l⟩
 ·simp at a
 ·simp only[Value.slice.injEq,Option.some.injEq,Addr.mk.injEq,and_true,true_and] at a;obtain⟨rfl,rfl⟩:=a;refine .inr ⟨g,cap,_,rfl,c,hw cur d,f,j,by simp[rN,k],?_⟩
  have key:∀ (vs cs:LV_) (i m:Nat),i+vs.length<=m->(wr cs i vs).take m=wr (cs.take m) i vs:=by
   intro vs
   induction vs with
   |nil=>intro cs i m _;rfl
   |cons v vs o=>
    intro cs i m hm;simp only[Nh] at hm;rw[wr,wr,o _ _ _ aa,List.take_set]
  show (wr cur.toList i vs).take (n*sz)=_;rw[key _ _ _ _ (by rw[<- h.1];exact hl),l]
theorem aW{ops l:List Oper}{o:Oper}{t g i e sz n cap:Nat}{x y:Operand}{v:Value}{xs m:LV_}(k:Nat)(D:o.op=.store t x y)(F:val E x=some (.pointer (some ⟨g,i,none⟩)))(I:val E y=some v)
 (z:H[k]?=some (.own (.slice (some ⟨g,0,none⟩) n cap) e sz n xs)) (hw:rj t xs i v.cells.toList=some m) (gs:LN_) (K:jD X.n ops gs E o undef=some E')
 (h:JL X ops l Q E' (H.set k (.own (.slice (some ⟨g,0,none⟩) n cap) e sz n m))):JL X ops (o::l) Q E H:=by
 intro a w hA A;obtain⟨hg,hp⟩:=d7 K;refine na ?_
 left
 have b:w.ownsRow 0 e sz (.slice (some ⟨g,0,none⟩) n cap) n xs:=A.holds _ (Nb z)
 obtain⟨cur,c,hlen,L⟩:∃ cur:Array Value,w.heap[g]?=some (.cells cur e (0,0))/\n*sz<=cur.size/\cur.toList.take (n*sz)=xs:=by
  rcases b.2 with ⟨h',_⟩|⟨U,B,cur,h',V,hg,p,C,q,r⟩
  ·simp at h'
  ·simp only[Value.slice.injEq,Nc,Addr.mk.injEq,and_true,true_and] at h';obtain⟨rfl,rfl⟩:=h';exact⟨cur,hg,by rw[q];exact Ow _ p,r⟩
 obtain⟨j,M,N,hl,p,rfl⟩:=vM hw;have d:w.heap[g]?=some (.cells cur.toList.toArray e (0,0)):=c;obtain⟨w',C,q,r,O,P,Y,R⟩:=gH (o:=i) v.cells.toList 0 w cur.toList d (by have:=b.1;simp only[Pp] at*;omega) p;refine m7 ?_;have s:v.cells.size=j.size:=by rw[N];simp
 have:(execOp a.eval o).run Tryz.prog w=.ok .skip w':=by
  simp[execOp,D,hA.val F,hA.val I,Instr.storeAt,Instr.sureAddr,storeVar,dW M,s,C]
 rw[this];refine h _ _ (hA.putE hp) (A.step k z r O P aa (λ j _ S=>R j (λ x=>S (by rw[x];rfl))) ?_ (λ Z u=>.inl u));refine sB b hl λ cs f=>?_;rw[c] at f;simp only[Nc,Obj.cells.injEq,and_true] at f;subst f;exact q
variable {X:Cx} {Q:fb} {E E':Env} {H:Heap}
theorem Kr{ops l:List Oper}{o:Oper}{v:Value}{E':Env}{H':Heap}(gs:LN_)(b:jD X.n ops gs E o v=some E')
 (c:∀ a w,gz X.n a E->dN X.w0 X.M w H->∃ w',(execOp a.eval o).run Tryz.prog w=.ok (.value v) w'/\dN X.w0 X.M w' H') (h:JL X ops l Q E' H'):JL X ops (o::l) Q E H:=by
 intro a w hA d;obtain⟨hg,hp⟩:=d7 b;refine na ?_
 left
 obtain⟨w',e,f⟩:=c a w hA d;refine m7 ?_;rw[e];exact h _ _ (hA.putE hp) f
theorem xx{α:Type}{F:α->Env}{G:α->Heap}{f:α->Value}{ops l:List Oper}{o:Oper}(gs:LN_)(b:∀ x,jD X.n ops gs E o (f x)=some (F x))
 (c:∀ a w,gz X.n a E->dN X.w0 X.M w H->∃ x w',(execOp a.eval o).run Tryz.prog w=.ok (.value (f x)) w'/\dN X.w0 X.M w' (G x)) (h:∀ x,JL X ops l Q (F x) (G x)):JL X ops (o::l) Q E H:=by
 intro a w hA d;obtain⟨x,w',e,g⟩:=c a w hA d;obtain⟨hg,hp⟩:=d7 (b x);refine na ?_
 left
 refine m7 ?_;rw[e];exact h x _ _ (hA.putE hp) g
theorem dN.addnil{w0 w:World}{M:LN_}(a:dN w0 M w H)(e sz:Nat):dN w0 M w (.own (.slice none 0 0) e sz 0 []::H):=
 a.grow rfl rfl rfl (Nr _) (λ _ _=>rfl) (World.ownsRow_nil w 0 e sz) (λ b c=>by simp[aY.at_,Value.ownBlock] at c)
theorem bX{c:Code}(e sz:Nat)(h:J X c Q E (.own (.slice none 0 0) e sz 0 []::H)):J X c Q E H:=λ a w b d=>h a w b (d.addnil e sz)
theorem kp{ops l:List Oper}(e sz:Nat)(h:JL X ops l Q E (.own (.slice none 0 0) e sz 0 []::H)):JL X ops l Q E H:=λ a w b c=>h a w b (c.addnil e sz)
def made(z:LV_)(n:Nat):LV_:=(madeCells z.toArray n).toList
theorem kU(z:LV_)(n:Nat):(made z n).length=n:=by simp[made,size_madeCells]
theorem c8(v:Value)(n:Nat):made [v] n=List.replicate n v:=by
 apply PK
 ·simp[kU]
 ·intro i a b;simp[made,madeCells,Nat.mod_one]
theorem ki{t:Nat}{uk:UK}{sz a:Nat}{v:Value}(h:tab t=some ⟨uk,sz,a,some v⟩):∃ j,Tryz.prog.info? t=some j/\j.zero=some v/\j.size=sz/\j.bytes=a:=by
 obtain⟨d,j,_,hi,_,b,c,e⟩:=eU h;exact⟨j,hi,e v rfl,b,c⟩
theorem cX{F:Nat->Env}{ops l:List Oper}{o:Oper}{t e sz d p q n c:Nat}{x y:Operand}{k1 C:IntKind}{uk:UK}{v:Value}{z:Option Value}{zs:LV_}(K:o.op=.makeSlice t x y)
 (L:val E x=some (.int k1 (n:Int))) (M:val E y=some (.int C (c:Int))) (N:tab t=some ⟨.slice e,p,q,z⟩) (he:tab e=some ⟨uk,sz,d,some v⟩) (O:v.cells=zs.toArray)
 (g:n<=c) (R:c*d<=140737488355328) (S:c<=2147483648) (r:∀ b,jD X.n ops [] E o (.slice (some ⟨b,0,none⟩) n c)=some (F b))
 (h:∀ b,JL X ops l Q (F b) (.own (.slice (some ⟨b,0,none⟩) n c) e sz n (made zs (n*sz))::H)):JL X ops (o::l) Q E H:=by
 obtain⟨j,hi,s,m,u⟩:=ki he;refine xx (f:=λ b=>.slice (some ⟨b,0,none⟩) n c) (G:=λ b=>.own (.slice (some ⟨b,0,none⟩) n c) e sz n (made zs (n*sz))::H) [] r (λ a w D U=>?_) h
 have A:(j.bytes:Int)*(c:Int)<=281474976710656:=by
  have B:((d*c:Nat):Int)<=((140737488355328:Nat):Int):=Int.ofNat_le.2 (by rw[Nat.mul_comm];exact R);rw[Int.natCast_mul] at B;rw[u];exact PY B ab
 have I:=run_make (P:=Tryz.prog) w t e j v (eZ N) hi s k1 C (n:Int) (c:Int) aa aa A aa;simp only[NA] at I;refine⟨w.heap.size,w.alloc (.cells (madeCells v.cells (c*j.size)) e),by simp[execOp,K,D.val L,D.val M,I],?_⟩;refine U.grow rfl rfl rfl ai (λ k V=>vT w _ k V) ?_ (λ b r=>by simp only[aY.at_,Value.ownBlock,Nc] at r;omega);refine⟨kU _ _,.inr ⟨w.heap.size,c,_,rfl,Nl _,heap_alloc_new w _,g,by unfold maxLen;omega,by rw[size_madeCells,m],?_⟩⟩
 apply PK
 ·simp only[NE,Pp,size_madeCells,kU,m];exact OX (Ow _ g)
 ·intro i Y B;simp[made,madeCells,O]
theorem Dd{F:Nat->Nat->Env}{ops l:List Oper}{o:Oper}{t e sz d L M n m cx b off:Nat}{s x:Operand}{uk:UK}{N v:Value}{z:Option Value}{xs news:LV_}{c2:aY}(k k2:Nat)
 (ho:o.op=.call ⟨.builtin .append,#[s,x],#[t,t]⟩) (hs:val E s=some v) (hx:val E x=some (.slice (some ⟨b,off,none⟩) m cx)) (ht:tab t=some ⟨.slice e,L,M,z⟩)
 (he:tab e=some ⟨uk,sz,d,some N⟩) (O:N.cells.size=sz) (R:0<sz) (hk:H[k]?=some (.own v e sz n xs)) (S:H[k2]?=some c2) (U:c2.shows b off news) (hl:news.length=m*sz) (h1:one news=true)
 (hm:0<m) (A:(n+m)*d<=140737488355328) (V:n+m<=2147483648) (hb:∀ g c,jD X.n ops [] E o (.slice (some ⟨g,0,none⟩) (n+m) c)=some (F g c))
 (h:∀ g c,JL X ops l Q (F g c) (H.set k (.own (.slice (some ⟨g,0,none⟩) (n+m) c) e sz (n+m) (xs++news)))):JL X ops (o::l) Q E H:=by
 obtain⟨j,hi,Y,Z,hR⟩:=ki he
 refine xx (α:=Nat×Nat) (f:=λ p=>.slice (some ⟨p.1,0,none⟩) (n+m) p.2) (F:=λ p=>F p.1 p.2)
  (G:=λ p=>H.set k (.own (.slice (some ⟨p.1,0,none⟩) (n+m) p.2) e sz (n+m) (xs++news))) [] (λ p=>hb p.1 p.2) (λ a w hA hH=>?_) (λ p=>h p.1 p.2)
 have B:w.ownsRow 0 e sz v n xs:=hH.holds _ (Nb hk);have r:=U w (hH.holds _ (Nb S))
 have C:∀ l:LV_,one l=true->∀ u∈l,u.oneCell'=true:=by
  intro l
  induction l with
  |nil=>intro _ u hu;cases hu
  |cons y l ih=>
   intro hl u hu;unfold one at hl;split at hl
   ·rename_i hy
    rcases Nn.1 hu with rfl|hu
    ·exact hy
    ·exact ih hl u hu
   ·cases hl
 obtain⟨g,cap,w',hr,h2,D,K,h5⟩:=run_append_lies (P:=Tryz.prog) w t o.type 0 e j N sz d (eZ ht) hi Y Z hR O R v n xs B ⟨b,off,none⟩ m cx news hl
  (λ i u hu=>by rw[Addr.add_at];exact r i u hu) (C news h1) hm (by unfold maxLen;omega) A (Nl _) w.heap.size rfl
 refine⟨(g,cap),w',?_,?_⟩
 ·have hv:(Builtin.append_ #[t,t] o.type #[v,.slice (some ⟨b,off,none⟩) m cx]).run Tryz.prog w=.ok (.slice (some ⟨g,0,none⟩) (n+m) cap) w':=hr;simp[execOp,ho,resolve,invoke,builtin,hA.val hs,hA.val hx,hv]
 ·refine hH.step k hk D.os D.tape D.output D.size (fun q hq hz=>D.block q hq (fun x=>hz (by rw[x];rfl))) h2 (fun b' I=>?_);simp only[aY.at_,Value.ownBlock,Option.some.injEq] at I;subst I
  rcases K with K|K
  ·exact .inl K
  ·exact .inr aa
theorem va(sz:Nat):∀ (vs:LV_) (k:Nat) (pre:LV_) (a:LV_),pre.length=k*sz->(∀ v∈vs,v.cells.size=sz)->a.length=vs.length*sz->
 Instr.fill (λ i=>some (i*sz,sz)) (pre++a).toArray (vs.zipIdx k|>.map λ (v,i)=>(i,v))=some (pre++vs.flatMap λ v=>v.cells.toList).toArray
 |[],k,pre,a,e,_,g=>by
  have:a=[]:=Ny.1 (by simpa using g);subst this;simp[Instr.fill]
 |v::vs,k,pre,a,e,h,g=>by
  have f:=h v ai;simp only[Nh,OQ,Nat.one_mul] at g
  have d:∀ (cells:LV_) (base:Nat) (st:Nat) (A B:LV_),A.length=base+st->cells.length<=B.length->
   (cells.zipIdx st).foldl (λ (cs:Array Value) (p:Value×Nat)=>cs.setIfInBounds (base+p.2) p.1) (A++B).toArray=(A++cells++B.drop cells.length).toArray:=by
   intro cells
   induction cells with
   |nil=>intro base st A B _ _;simp
   |cons c cells n=>
    intro base st A B l m
    cases B with
    |nil=>simp at m
    |cons b B=>
     simp only[List.zipIdx_cons,OH]
     have o:(A++b::B).toArray.setIfInBounds (base+st) c=((A++[c])++B).toArray:=by
      simp[l]
     rw[o,n base (st+1) (A++[c]) B (by simp[l];omega) (by simpa using m)];simp
  simp only[List.zipIdx_cons,Nv];unfold Instr.fill;simp only[];have hlen:k*sz+v.cells.size<=(pre++a).toArray.size:=by simp[e,f];omega
  rw[if_neg (by simp[f];simp[e] at hlen;omega)];have q:=d v.cells.toList (k*sz) 0 pre a (by simp[e]) (by simp[f];omega)
  have r:v.cells.zipIdx.foldl (λ (cs:Array Value) (p:Value×Nat)=>cs.setIfInBounds (k*sz+p.2) p.1) (pre++a).toArray=(pre++v.cells.toList++a.drop v.cells.toList.length).toArray:=by
   rw[<- q,<- PZ];simp
  have s:(v.cells.zipIdx.foldl (λ cs (x:Value×Nat)=>match x with|(c,j)=>cs.setIfInBounds (k*sz+j) c) (pre++a).toArray)=(pre++v.cells.toList++a.drop v.cells.toList.length).toArray:=r;rw[s];rw[va sz vs (k+1) (pre++v.cells.toList) (a.drop v.cells.toList.length) (by simp[e,f,OQ]) (λ u hu=>h u (by simp[hu])) (by simp[f];omega)];simp
def uY(ps:List (Nat×Value))(k sz:Nat):Option (LV_):=match ps with
 |[]=>some []
 |(i,v)::l=>match Nat.beq i k with
  |true=>match Nat.beq v.cells.toList.length sz with
   |true=>match uY l (k+1) sz with
    |some cs=>some (v.cells.toList++cs)
    |none=>none
   |false=>none
  |false=>none
theorem vb{sz:Nat}:∀ {ps:List (Nat×Value)} {k:Nat} {cs:LV_},uY ps k sz=some cs->
 ps=((ps.map (·.2)).zipIdx k|>.map λ (v,i)=>(i,v))/\(∀ v∈ps.map (·.2),v.cells.size=sz)/\cs=(ps.map (·.2)).flatMap λ v=>v.cells.toList
 |[],k,cs,h=>by simp[uY] at h;simp[h]
 |(i,v)::l,k,cs,h=>by
  unfold uY at h;split at h
  ·rename_i hi;split at h
   ·rename_i c;split at h
    ·rename_i d a;simp only[Option.some.injEq] at h;obtain⟨e,f,g⟩:=vb a;obtain rfl:=Nat.eq_of_beq_eq_true hi;have b:v.cells.size=sz:=by have:=Nat.eq_of_beq_eq_true c;simpa using this
     refine⟨?_,?_,?_⟩
     ·simp only[Nv,List.zipIdx_cons];rw[<- e]
     ·intro u hu;simp only[Nv,Nn] at hu
      rcases hu with rfl|hu
      ·exact b
      ·exact f u hu
     ·rw[<- h,g];simp
    ·cases h
   ·cases h
  ·cases h
def rg(E:Env):List (Nat×Operand)->Option (List (Nat×Value))
 |[]=>some []
 |(i,x)::l=>match val E x with
  |some v=>match rg E l with
   |some vs=>some ((i,v)::vs)
   |none=>none
  |none=>none
theorem gz.valsP{n:uT}{a:Act}(c:gz n a E):∀ (ps:List (Nat×Operand)) (vs:List (Nat×Value)),Proofs.YtmcnpaelaieniaaGreatDoor.rg E ps=some vs->ps.map (λ (i,x)=>(i,a.eval x))=vs
 |[],vs,h=>by simp[Proofs.YtmcnpaelaieniaaGreatDoor.rg] at h;simp[h]
 |(i,x)::l,vs,h=>by
  unfold Proofs.YtmcnpaelaieniaaGreatDoor.rg at h;split at h
  ·rename_i v d;split at h
   ·rename_i us b;simp only[Nc] at h;subst h;simp[c.val d,c.valsP l us b]
   ·cases h
  ·cases h
theorem JK(gs:LN_){F:Nat->Env}{ops l:List Oper}{o:Oper}{t e n sz p q r:Nat}{ps:Array (Nat×Operand)}{vs:List (Nat×Value)}{uk:UK}{s:Value}{z:Option Value}{cs:LV_}(A:o.op=.buildSlice t n ps)
 (hp:rg E ps.toList=some vs) (v:tab t=some ⟨.slice e,q,r,z⟩) (he:tab e=some ⟨uk,sz,p,some s⟩) (B:uY vs 0 sz=some cs) (C:vs.length=n) (D:Nat.ble (n*sz) 65536=true)
 (G:∀ b,jD X.n ops gs E o (.slice (some ⟨b,0,none⟩) n n)=some (F b)) (h:∀ b,JL X ops l Q (F b) (blk b e cs::H)):JL X ops (o::l) Q E H:=by
 obtain⟨j,hi,u,I,K⟩:=ki he;refine wV (f:=λ b=>.slice (some ⟨b,0,none⟩) n n) gs (λ a w L _=>?_) G h;have M:=PG D;obtain⟨N,O,P⟩:=vb B;have R:=L.valsP _ _ hp;have S:(ps.map λ (i,x)=>(i,a.eval x)).toList=vs:=by rw[<- R];simp
 have y:∀ c:LV_,c.length=n*sz->Instr.fill (λ i=>some (i*sz,sz)) c.toArray vs=some cs.toArray:=by
  intro c U;have:=va sz (vs.map (·.2)) 0 [] c ai O (by rw[U];simp[C]);rw[<- N,<- P] at this
  simpa using this
 have k:(Instr.buildSlice t n (ps.map λ (i,x)=>(i,a.eval x))).run Tryz.prog w=.ok (.slice (some ⟨w.heap.size,0,none⟩) n n) (w.alloc (.cells cs.toArray e)):=by
  unfold Instr.buildSlice;rw[S];by_cases m:n*sz=0
  ·have d:=y [] (by simp[m]);have:(Array.map (fun x=>(#[]:Array Value)[x%(#[]:Array Value).size]!) (Array.range (n*sz)))=[].toArray:=by rw[m];simp
   simp only[run_underlying (eZ v),Sem.run_bind,Result.andThen_ok,dW he,if_neg (show ¬ n*sz>2^24 by omega),if_pos m,Sem.run_pure];rw[this,d];simp[newRow,newObj,Sem.run,World.alloc_eq]
  ·have d:=y ((Array.range (n*sz)).map (s.cells[·%s.cells.size]!)).toList ai;simp only[run_underlying (eZ v),Sem.run_bind,Result.andThen_ok,dW he,if_neg (show ¬ n*sz>2^24 by omega),if_neg m,Sem.run_pure,zeroValue,typeInfo];simp only[Array.toArray_toList] at d;simp[hi,u,d,newRow,newObj,Sem.run,World.alloc_eq]
 have g:(Instr.buildSlice t n (ps.map λ x=>match x with|(i,x)=>(i,a.eval x))).run Tryz.prog w=.ok (.slice (some ⟨w.heap.size,0,none⟩) n n) (w.alloc (.cells cs.toArray e)):=k;simp[execOp,A,g]
theorem b8{F:Nat->Env}{ops l:List Oper}{o:Oper}{t e n sz a c d:Nat}{ps:Array (Nat×Operand)}{vs:List (Nat×Value)}{uk:UK}{f:Value}{z:Option Value}{cs:LV_}(g:o.op=.buildSlice t n ps)
 (hp:rg E ps.toList=some vs) (i:tab t=some ⟨.slice e,c,d,z⟩) (he:tab e=some ⟨uk,sz,a,some f⟩) (j:uY vs 0 sz=some cs) (k:vs.length=n) (m:Nat.ble (n*sz) 65536=true)
 (p:∀ b,jD X.n ops [] E o (.slice (some ⟨b,0,none⟩) n n)=some (F b)) (h:∀ b,JL X ops l Q (F b) (blk b e cs::H)):JL X ops (o::l) Q E H:=
 JK [] g hp i he j k m p h
variable {X:Cx} {Q:fb} {E E':Env} {H:Heap}
noncomputable def ee(f:FuncId):Bool:=match Tryz.prog.funcs[f]? with
 |some fn=>!(fn.name== "runtime.NumGoroutine")&&fn.body.isSome
 |none=>false
theorem iI{f:FuncId}(h:ee f=true)(args:Array Value)(w:World):(callFunc f args).run Tryz.prog w=.ok (.enter f args) w:=by
 unfold ee at h;split at h
 ·rename_i fn a;simp only[Bool.and_eq_true,Bool.not_eq_true'] at h;have b:fn.body≠none:=by intro c;rw[c] at h;simp at h
  have d:¬ fn.name= "runtime.NumGoroutine" :=by have:=h.1;simpa using this
  simp[callFunc,program,Sem.run,a,d,b]
 ·cases h
def jt(H:Heap)(ix:LN_):Heap->Prop
 |[]=>True
 |.seg b off vs::S=>(∃ k c,k∉ix/\H[k]?=some c/\c.shows b off vs/\(vs=[]\/c.at_=some b))/\jt H ix S
 |.tab b o::S=>(∃ k,k∉ix/\H[k]?=some (.tab b o))/\jt H ix S
 |_=>False
theorem jt.holds{ix:LN_}{w:World}:∀ {S:Heap},jt H ix S->(∀ c∈H,c.holds w)->∀ s∈S,s.holds w
 |[],_,_,s,a=>by cases a
 |.seg b off vs::S,h,d,s,a=>by
  obtain⟨⟨k,c,_,e,g,_⟩,f⟩:=h
  rcases Nn.1 a with rfl|a
  ·exact g w (d c (Nb e))
  ·exact jt.holds f d s a
 |.tab b o::S,h,d,s,a=>by
  obtain⟨⟨k,_,e⟩,f⟩:=h
  rcases Nn.1 a with rfl|a
  ·exact d _ (Nb e)
  ·exact jt.holds f d s a
 |.obj ..::_,h,_,_,_=>h.elim
 |.own ..::_,h,_,_,_=>h.elim
theorem jt.apart{ix:LN_}(n:H.Pairwise apart):∀ {S:Heap},jt H ix S->∀ s∈S,s.mine=none/\∀ i∈ix,∀ c,H[i]?=some c->Proofs.YtmcnpaelaieniaaGreatDoor.apart s c
 |[],_,s,f=>by cases f
 |.seg b off vs::S,h,s,f=>by
  obtain⟨⟨k,c,g,p,_,a⟩,q⟩:=h
  rcases Nn.1 f with rfl|f
  ·refine⟨rfl,fun i hi d j=>⟨fun u l=>by simp[aY.mine] at l,fun u l m=>?_⟩⟩;have r:=fY n p j (fun e=>g (e▸hi));simp only[aY.at_] at m;split at m
   ·cases m
   ·rename_i t;simp only[Nc] at m;subst m
    rcases a with a|a
    ·exact t a
    ·exact r.2 _ l a
  ·exact jt.apart n q s f
 |.tab b o::S,h,s,f=>by
  obtain⟨⟨k,g,p⟩,q⟩:=h
  rcases Nn.1 f with rfl|f
  ·exact⟨rfl,λ i hi d j=>fY n p j (λ e=>g (e▸hi))⟩
  ·exact jt.apart n q s f
 |.obj ..::_,h,_,_=>h.elim
 |.own ..::_,h,_,_=>h.elim
def f7:Heap->Bool
 |[]=>true
 |.seg ..::_=>false
 |.tab ..::_=>false
 |_::l=>f7 l
theorem pO:∀ {H:Heap},f7 H=true->∀ c∈H,c.mine=c.at_
 |[],_,c,a=>by cases a
 |.seg ..::_,h,_,_=>by simp[f7] at h
 |.tab ..::_,h,_,_=>by simp[f7] at h
 |.obj b o::l,h,c,a=>by
  rcases Nn.1 a with rfl|a
  ·rfl
  ·exact pO (H:=l) h c a
 |.own ..::l,h,c,a=>by
  rcases Nn.1 a with rfl|a
  ·rfl
  ·exact pO (H:=l) h c a
theorem dN.hand{w0 w:World}{M:LN_}(e:dN w0 M w H){ix:LN_}{S C:Heap}{Mc:LN_}(f:jt H ix S)(g:ix.Nodup)(hC:Proofs.YtmcnpaelaieniaaGreatDoor.cK H ix=some C)(hM:∀ c∈C,∀ b,c.mine=some b->b∈Mc):dN w Mc w (S++C):=by
 refine⟨rfl,rfl,rfl,Nr _,λ _ _ _=>rfl,λ c a=>?_,λ c a b d=>?_,?_⟩
 ·rcases Np.1 a with a|a
  ·exact f.holds e.holds c a
  ·obtain⟨i,_,hi⟩:=gY hC c a;exact e.holds c (Nb hi)
 ·rcases Np.1 a with a|a
  ·have:=(f.apart e.dis c a).1;rw[this] at d;cases d
  ·exact .inr (hM c a b d)
 ·refine Of.2 ⟨?_,iP e.dis g hC,λ s k c a=>?_⟩
  ·rw[N9];intro i j hi l _;have m:=(f.apart e.dis _ (Oz hi)).1;have n:=(f.apart e.dis _ (Oz l)).1;refine⟨λ b d=>?_,λ b d=>?_⟩
   ·rw[m] at d;simp at d
   ·rw[n] at d;simp at d
  ·obtain⟨i,hi,h⟩:=gY hC c a;exact (f.apart e.dis s k).2 i hi c h
theorem dN.back{w0 w w':World}{M:LN_}(l:dN w0 M w H){ix rest:LN_}{C K H':Heap}{Mc:LN_}(hC:Proofs.YtmcnpaelaieniaaGreatDoor.cK H ix=some C)(v:∀ b∈Mc,∃ c∈C,c.mine=some b)
 (u:Proofs.YtmcnpaelaieniaaGreatDoor.cK H rest=some K) (x:rest.Nodup) (s:∀ i∈rest,i∉ix) (p:dN w Mc w' H') (L:f7 H'=true):dN w0 M w' (H'++K):=by
 have g:∀ b∈Mc,∃ i∈ix,∃ c,H[i]?=some c/\c.mine=some b:=by
  intro b f;obtain⟨c,a,n⟩:=v b f;obtain⟨i,hi,o⟩:=gY hC c a;exact⟨i,hi,c,o,n⟩
 have h:∀ d∈K,∀ b,d.at_=some b->b<w.heap.size/\b∉Mc:=by
  intro d y b f;obtain⟨j,N,m⟩:=gY u d y;refine⟨aY.at_lt (l.holds d (Nb m)) f,λ z=>?_⟩;obtain⟨i,hi,c,o,n⟩:=g b z;exact (fY l.dis o m (λ e=>s j N (e▸hi))).1 b n f
 refine⟨p.os.trans l.os,p.tape.trans l.tape,p.output.trans l.output,Ov l.size p.size,λ k G t=>?_,λ c a=>?_,λ c a b f=>?_,?_⟩
 ·have A:=O9 G l.size
  have:k∉Mc:=by
   intro B;obtain⟨i,_,c,o,n⟩:=g k B
   rcases l.own c (Nb o) k n with q|q
   ·omega
   ·exact t q
  exact (p.keep k A this).trans (l.keep k G t)
 ·rcases Np.1 a with a|a
  ·exact p.holds c a
  ·obtain⟨j,_,m⟩:=gY u c a;exact aY.holds_of (l.holds c (Nb m)) λ b f=>p.keep b (h c a b f).1 (h c a b f).2
 ·rcases Np.1 a with a|a
  ·rcases p.own c a b f with q|q
   ·exact .inl (Ov l.size q)
   ·obtain⟨i,_,d,hid,r⟩:=g b q;exact l.own d (Nb hid) b r
  ·obtain⟨j,_,m⟩:=gY u c a;exact l.own c (Nb m) b f
 ·refine Of.2 ⟨p.dis,iP l.dis x u,λ c a d y=>?_⟩;have D:=pO L c a
  have key:∀ b,c.at_=some b->d.at_≠some b:=by
   intro b f r;rw[<- D] at f;obtain⟨q,F⟩:=h d y b r
   rcases p.own c a b f with I|I
   ·omega
   ·exact F I
  exact⟨λ b f=>key b (aY.mine_at f),λ b f F=>key b F (aY.mine_at f)⟩
theorem yq{o:Oper}{f:Operand}{args:Array Operand}{ts:Array TypeId}{g:FuncId}{fst cap vs:LV_}{n:uT}{a:Act}(b:gz n a E)(c:o.op=.call ⟨.value f,args,ts⟩)
 (d:val E f=some (.func (.func g) fst.toArray cap.toArray)) (e:vals E args.toList=some vs) (h:ee g=true) (w:World):
 (execOp a.eval o).run Tryz.prog w=.ok (.enter g (fst++vs++cap).toArray) w:=by
 have i:args.map a.eval=vs.toArray:=by rw[<- b.vals _ _ e];exact Array.ext' ai
 simp[execOp,c,resolve,Deferred.ofValue,invoke,b.val d,i,iI h]
theorem CU{F:Value->Env}{ops l:List Oper}{o:Oper}{f:Operand}{args:Array Operand}{ts:Array TypeId}{g:FuncId}{fst cap vs d:LV_}{R:Value->Heap->Prop}{S C K:Heap}{Mc:LN_}(ix rest:LN_)(gs:LN_)
 (T:Fn g d Mc (S++C) R) (s:o.op=.call ⟨.value f,args,ts⟩) (t:val E f=some (.func (.func g) fst.toArray cap.toArray)) (u:vals E args.toList=some vs) (has:fst++vs++cap=d) (x:ee g=true)
 (y:jt H ix S) (k:ix.Nodup) (hC:cK H ix=some C) (hM:∀ c∈C,∀ b,c.mine=some b->b∈Mc) (m:∀ b∈Mc,∃ c∈C,c.mine=some b)
 (z:cK H rest=some K) (p:rest.Nodup) (j:∀ i∈rest,i∉ix) (q:∀ v,jD X.n ops gs E o v=some (F v)) (h:∀ v H',R v H'->f7 H'=true/\JL X ops l Q (F v) (H'++K)):JL X ops (o::l) Q E H:=by
 intro a w hA r;have hg:=(d7 (q undef)).1;refine na ?_
 left
 refine m7 ?_;rw[yq hA s t u x w,has];refine (T w (r.hand y k hC hM)).mono ?_;rintro e w' ⟨v,H',rfl,A,B⟩;obtain⟨D,I⟩:=h v H' B;exact I _ _ (hA.putE (d7 (q v)).2) (r.back hC m z p j A D)
theorem sP(H:Heap):cK H (List.range H.length)=some H:=by
 have key:∀ (K:Heap) (i:Nat),(∀ j,H[i+j]?=K[j]?)->cK H (List.range' i K.length)=some K:=by
  intro K
  induction K with
  |nil=>intro i _;rfl
  |cons c K a=>
   intro i hi;have b:H[i]?=some c:=by simpa using hi 0
   rw[Nh,List.range'_succ];unfold cK;rw[b,a (i+1) (λ j=>by have:=hi (j+1);simpa [N7,P0 1] using this)]
 rw[List.range_eq_range'];exact key H 0 (λ j=>by simp)
theorem bA{F:Value->Env}{ops l:List Oper}{o:Oper}{f:Operand}{args:Array Operand}{ts:Array TypeId}{g:FuncId}{fst cap vs a:LV_}{R:Value->Heap->Prop}{S:Heap}(gs:LN_)
 (T:Fn g a [] S R) (i:o.op=.call ⟨.value f,args,ts⟩) (j:val E f=some (.func (.func g) fst.toArray cap.toArray)) (k:vals E args.toList=some vs) (has:fst++vs++cap=a) (d:ee g=true)
 (m:jt H [] S) (e:∀ v,jD X.n ops gs E o v=some (F v)) (h:∀ v H',R v H'->f7 H'=true/\JL X ops l Q (F v) (H'++H)):JL X ops (o::l) Q E H:=
 CU (C:=[]) (K:=H) [] (List.range H.length) gs (by simpa using T) i j k has d m PH rfl (λ c d=>by cases d) (λ b e=>by cases e) (sP H) OU (λ _ _ h=>by cases h) e h
theorem tU{F:Value->Env}{ops l:List Oper}{o:Oper}{f:Operand}{args:Array Operand}{ts:Array TypeId}{g:FuncId}{fst cap vs args':LV_}{R:Value->Heap->Prop}{S:Heap}(gs:LN_)
 (T:Fn g args' [] S R) (h1:(o.op,val E f,vals E args.toList,fst++vs++cap)=(.call ⟨.value f,args,ts⟩,some (.func (.func g) fst.toArray cap.toArray),some vs,args')) (hc:ee g=true)
 (hS:jt H [] S) (hb:∀ v,jD X.n ops gs E o v=some (F v)) (h:∀ v H',R v H'->f7 H'=true/\JL X ops l Q (F v) (H'++H)):JL X ops (o::l) Q E H:=by
 simp only[N3] at h1;exact bA gs T h1.1 h1.2.1 h1.2.2.1 h1.2.2.2 hc hS hb h
variable {X:Cx} {Q:fb} {E E':Env} {H:Heap}
structure ej where
 fr:Int
 to:Int
 cap:Int
def aj(l:LI_):LV_:=l.map (.int .i64)
def dM(l:LB_):LV_:=l.map .bool
def arcs(l:List ej):LV_:=l.flatMap λ a=>[.int .i64 a.fr,.int .i64 a.to,.int .i64 a.cap]
theorem bY(l:LI_):(aj l).length=l.length:=by simp[aj]
theorem ep{l:LI_}{i:Nat}{x:Int}(h:l[i]?=some x):(aj l)[i]?=some (.int .i64 x):=by simp[aj,h]
theorem iD{l:LB_}{i:Nat}{x:Bool}(h:l[i]?=some x):(dM l)[i]?=some (.bool x):=by simp[dM,h]
theorem gF:∀ {l:List ej} {i:Nat} {x:ej},l[i]?=some x->(arcs l)[i*3]?=some (.int .i64 x.fr)/\(arcs l)[i*3+1]?=some (.int .i64 x.to)/\(arcs l)[i*3+2]?=some (.int .i64 x.cap)
 |[],i,x,h=>by simp at h
 |a::l,0,x,h=>by simp at h;subst h;simp[arcs]
 |a::l,i+1,x,h=>by
  have b:=gF (l:=l) (i:=i) (x:=x) (by simpa using h);have e:arcs (a::l)=[.int .i64 a.fr,.int .i64 a.to,.int .i64 a.cap]++arcs l:=by simp[arcs]
  have c:(i+1)*3=i*3+3:=aa;rw[e,c];refine⟨?_,?_,?_⟩
  ·rw[NB ai];simpa using b.1
  ·rw[NB ai];simpa using b.2.1
  ·rw[NB ai];simpa using b.2.2
theorem oS(n:Nat):made [.int .i64 0] (n*1)=aj (List.replicate n 0):=by simp[c8,aj]
theorem Ap(n:Nat):made [.bool false] (n*1)=dM (List.replicate n false):=by simp[c8,dM]
theorem H5(l:LI_)(i:Nat)(x:Int):(aj l).set i (.int .i64 x)=aj (l.set i x):=by simp[aj]
theorem Du(l:LB_)(i:Nat)(x:Bool):(dM l).set i (.bool x)=dM (l.set i x):=by simp[dM]
theorem fh{t a i:Nat}{uk:UK}{z:Option Value}{l:LI_}{x:Int}(b:tab t=some ⟨uk,1,a,z⟩)(hi:i<l.length):rj t (aj l) i (Value.int .i64 x).cells.toList=some (aj (l.set i x)):=by
 unfold rj;rw[b];have c:Nat.ble (i+1) (aj l).length=true:=Nat.ble_eq_true_of_le (by rw[bY];omega);simp only[Value.cells,Nh,NC,NR,Nat.beq_refl,c,one,Value.oneCell',wr,H5]
theorem ko{t a i:Nat}{uk:UK}{z:Option Value}{l:LB_}{x:Bool}(b:tab t=some ⟨uk,1,a,z⟩)(hi:i<l.length):rj t (dM l) i (Value.bool x).cells.toList=some (dM (l.set i x)):=by
 unfold rj;rw[b];have c:Nat.ble (i+1) (dM l).length=true:=Nat.ble_eq_true_of_le (by simp[dM];omega);simp only[Value.cells,Nh,NC,NR,Nat.beq_refl,c,one,Value.oneCell',wr,Du]
theorem gU{l:List ej}{m:Nat}{a:ej}(h:l[m]?=some a):fQ 37 (arcs l) (m*3)=some (.agg #[.int .i64 a.fr,.int .i64 a.to,.int .i64 a.cap]):=by
 obtain⟨b,c,d⟩:=gF h;show (match eI (arcs l) (m*3) 3 with|some l=>some (Value.agg l.toArray)|none=>none)=_
 have:eI (arcs l) (m*3) 3=some [.int .i64 a.fr,.int .i64 a.to,.int .i64 a.cap]:=by
  unfold eI;rw[b];unfold eI;rw[c];unfold eI;rw[d];unfold eI;rfl
 rw[this]
theorem bQ{l:LI_}{m:Nat}{x:Int}(h:l[m]?=some x):fQ 2 (aj l) m=some (.int .i64 x):=ep h
theorem bI{l:LI_}{m:Nat}{x:Int}(h:l[m]?=some x):fQ 3 (aj l) m=some (.int .i64 x):=ep h
theorem IQ{o:Oper}{t d:Nat}{x y:Operand}{k e:IntKind}{a:Int}{b:Nat}(f:o.op=.binOp .shl t x y d)(g:val E x=some (.int k a))(h:val E y=some (.int e (b:Int))):
 i8 X o E H (.int k (k.wrap (a*2^(min b k.bits)))):=by
 intro ac w c j;have i:¬ ((b:Int)<0):=aa;simp[execOp,f,c.val g,c.val h,lh,binOp,Op.shift,i]
theorem I2{o:Oper}{t d:Nat}{x y:Operand}{k e:IntKind}{a:Int}{b:Nat}(f:o.op=.binOp .shr t x y d)(g:val E x=some (.int k a))(h:val E y=some (.int e (b:Int))):
 i8 X o E H (.int k (a.fdiv (2^(min b k.bits)))):=by
 intro ac w c j;have i:¬ ((b:Int)<0):=aa;simp[execOp,f,c.val g,c.val h,lh,binOp,Op.shift,i]
theorem vC{o:Oper}{t b off n c e sz a d m:Nat}{x ix:Operand}{k:IntKind}{z f:Option Value}{uk:UK}(g:o.op=.indexAddr t x ix)(h:val E x=some (.slice (some ⟨b,off,none⟩) n c))
 (hi:val E ix=some (.int k (m:Int))) (i:tab t=some ⟨.slice e,sz,a,z⟩) (he:tab e=some ⟨uk,1,d,f⟩) (hm:m<n):i8 X o E H (.pointer (some ⟨b,off+m,none⟩)):=by
 have:=oO (X:=X) (H:=H) g h hi i he hm
 simpa using this
theorem gq{o:Oper}{t b off n c e sz by_ by' m:Nat}{x ix:Operand}{k:IntKind}{z z':Option Value}{uk:UK}(h:(o.op,val E x,val E ix,tab t,tab e)=(.indexAddr t x ix,some (.slice (some ⟨b,off,none⟩) n c),some (.int k (m:Int)),some ⟨.slice e,sz,by_,z⟩,some ⟨uk,1,by',z'⟩))(hm:m<n):i8 X o E H (.pointer (some ⟨b,off+m,none⟩)):=by
 simp only[N3] at h;exact vC h.1 h.2.1 h.2.2.1 h.2.2.2.1 h.2.2.2.2 hm
theorem ic{o:Oper}{t b n c e sz a d m:Nat}{x ix:Operand}{k:IntKind}{z f:Option Value}{uk:UK}(g:o.op=.indexAddr t x ix)(h:val E x=some (.slice (some ⟨b,0,none⟩) n c))
 (hi:val E ix=some (.int k (m:Int))) (i:tab t=some ⟨.slice e,sz,a,z⟩) (he:tab e=some ⟨uk,1,d,f⟩) (hm:m<n):i8 X o E H (.pointer (some ⟨b,m,none⟩)):=by
 have:=oO (X:=X) (H:=H) g h hi i he hm
 simpa using this
theorem bn{o:Oper}{t b n c e sz by_ by' m:Nat}{x ix:Operand}{k:IntKind}{z z':Option Value}{uk:UK}(h:(o.op,val E x,val E ix,tab t,tab e)=(.indexAddr t x ix,some (.slice (some ⟨b,0,none⟩) n c),some (.int k (m:Int)),some ⟨.slice e,sz,by_,z⟩,some ⟨uk,1,by',z'⟩))(hm:m<n):i8 X o E H (.pointer (some ⟨b,m,none⟩)):=by
 simp only[N3] at h;exact ic h.1 h.2.1 h.2.2.1 h.2.2.2.1 h.2.2.2.2 hm
theorem Kh{o:Oper}{t b off n c e sz a d s m:Nat}{x ix:Operand}{k:IntKind}{z f:Option Value}{uk:UK}(g:o.op=.indexAddr t x ix)(h:val E x=some (.slice (some ⟨b,off,none⟩) n c))
 (hi:val E ix=some (.int k (m:Int))) (i:tab t=some ⟨.slice e,sz,a,z⟩) (he:tab e=some ⟨uk,s,d,f⟩) (hm:m<n):i8 X o E H (.pointer (some ⟨b,off+m*s,none⟩)):=
 oO (X:=X) (H:=H) g h hi i he hm
theorem jc{o:Oper}{t b off n c e sz by_ by' s m:Nat}{x ix:Operand}{k:IntKind}{z z':Option Value}{uk:UK}(h:(o.op,val E x,val E ix,tab t,tab e)=(.indexAddr t x ix,some (.slice (some ⟨b,off,none⟩) n c),some (.int k (m:Int)),some ⟨.slice e,sz,by_,z⟩,some ⟨uk,s,by',z'⟩))(hm:m<n):i8 X o E H (.pointer (some ⟨b,off+m*s,none⟩)):=by
 simp only[N3] at h;exact Kh h.1 h.2.1 h.2.2.1 h.2.2.2.1 h.2.2.2.2 hm
theorem wH{o:Oper}{t b n c e sz a d s m:Nat}{x ix:Operand}{k:IntKind}{z f:Option Value}{uk:UK}(g:o.op=.indexAddr t x ix)(h:val E x=some (.slice (some ⟨b,0,none⟩) n c))
 (hi:val E ix=some (.int k (m:Int))) (i:tab t=some ⟨.slice e,sz,a,z⟩) (he:tab e=some ⟨uk,s,d,f⟩) (hm:m<n):i8 X o E H (.pointer (some ⟨b,m*s,none⟩)):=by
 have:=oO (X:=X) (H:=H) g h hi i he hm
 simpa using this
theorem et{o:Oper}{t b n c e sz by_ by' s m:Nat}{x ix:Operand}{k:IntKind}{z z':Option Value}{uk:UK}(h:(o.op,val E x,val E ix,tab t,tab e)=(.indexAddr t x ix,some (.slice (some ⟨b,0,none⟩) n c),some (.int k (m:Int)),some ⟨.slice e,sz,by_,z⟩,some ⟨uk,s,by',z'⟩))(hm:m<n):i8 X o E H (.pointer (some ⟨b,m*s,none⟩)):=by
 simp only[N3] at h;exact wH h.1 h.2.1 h.2.2.1 h.2.2.2.1 h.2.2.2.2 hm
theorem fJ{o:Oper}{t b off p i:Nat}{x:Operand}{vs:LV_}{v:Value}(k:Nat)(a:o.op=.load t x)(c:val E x=some (.pointer (some ⟨b,p,none⟩)))
 (d:H[k]?=some (.seg b off vs)) (hp:p=off+i) (e:fQ t vs i=some v):i8 X o E H v:=IU k a (by rw[c,hp]) d e
theorem aZ{o:Oper}{t b off p i:Nat}{x:Operand}{vs:LV_}{v:Value}(k:Nat)(h:(o.op,val E x,H[k]?)=(.load t x,some (.pointer (some ⟨b,p,none⟩)),some (.seg b off vs)))(hp:p=off+i)(hv:fQ t vs i=some v):i8 X o E H v:=by
 simp only[N3] at h;exact fJ k h.1 h.2.1 h.2.2 hp hv
theorem i5{c:Code}{K:Heap}(l:LN_)(hl:l.Nodup)(b:cK H l=some K)(h:J X c Q E K):J X c Q E H:=λ a w d e=>h a w d (e.picks l hl b)
theorem cp{n:Int}(h:-9223372036854775808<=n/\n<=9223372036854775807):IntKind.i64.wrap n=n:=by rw[IntKind.wrap_i64];omega
end Go.Proofs.YtmcnpaelaieniaaGreatDoor
