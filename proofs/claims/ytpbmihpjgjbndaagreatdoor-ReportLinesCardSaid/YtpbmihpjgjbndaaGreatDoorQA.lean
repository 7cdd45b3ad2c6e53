/- The engine and the words that all chapters share: several texts in one. -/
import Derived.Test.YtpbmihpjgjbndaaGreatDoorProg
import Derived.Below
import Derived.Scope
import Derived.Deep.QuietTactic
import Derived.Deep.LoopGhost
import Derived.StillTailTactics
import Derived.Laws.MakeOwn
import Derived.Laws.OwnMore
import Derived.WalkKit
import Derived.Deep.AppendLies
/-
The engine: a program logic over the model's walk rules. A state is a list of temporaries that are known (Env) and a list of blocks that are known (Heap). Plain theorems, no condition.
-/
set_option linter.unusedVariables false
set_option linter.unusedSimpArgs false
namespace Go.Proofs.YtpbmihpjgjbndaaGreatDoor
open Go.RowKit
/-! ### Temporaries -/
abbrev Env:=List (Nat×Value)
def gI:Env→Nat→Option Value
 |[],_=>none
 |(t,v)::E,u=>bif Nat.beq t u then some v else gI E u
def val (E:Env):Operand→Option Value
 |.tmp t=>gI E t
 |.const v=>some v
 |.func f=>some (.func (.func f) #[] #[])
 |.global g=>some (.pointer (some ⟨g,0,none⟩))
def vals (E:Env):List Operand→Option (List Value)
 |[]=>some []
 |x::xs=>match val E x with
  |some v=>match vals E xs with
   |some vs=>some (v::vs)
   |none=>none
  |none=>none
structure mh where
 len:Nat
 ds:List Deferred
structure eh (n:mh) (a:Act) (E:Env):Prop where
 size:a.tmps.size=n.len
 defers:a.defers=n.ds
 get:∀ t v,gI E t=some v→a.tmps[t]?=some v
theorem eh.val {n:mh} {a:Act} {E:Env} (h:eh n a E) {x:Operand} {v:Value} (hv:val E x=some v):a.eval x=v:=by
 cases x with
 |tmp t=>
  have:=h.get t v hv
  simp[Act.eval,Array.getD_eq_getD_getElem?,this]
 |const u=>simpa [Act.eval,Proofs.YtpbmihpjgjbndaaGreatDoor.val] using hv
 |global g=>simpa [Act.eval,Proofs.YtpbmihpjgjbndaaGreatDoor.val] using hv
 |func f=>simpa [Act.eval,Proofs.YtpbmihpjgjbndaaGreatDoor.val] using hv
theorem eh.vals {n:mh} {a:Act} {E:Env} (h:eh n a E):∀ (xs:List Operand) (vs:List Value),vals E xs=some vs→xs.map a.eval=vs
 |[],vs,hv=>by simp[Proofs.YtpbmihpjgjbndaaGreatDoor.vals] at hv;simp[hv]
 |x::xs,vs,hv=>by
  unfold Proofs.YtpbmihpjgjbndaaGreatDoor.vals at hv
  split at hv
  ·rename_i v hx
   split at hv
   ·rename_i us hxs
    simp only[Option.some.injEq] at hv
    subst hv
    simp[h.val hx,h.vals xs us hxs]
   ·cases hv
  ·cases hv
theorem eh.put {n:mh} {a:Act} {E:Env} (h:eh n a E) {d:Nat} (hd:d<n.len) (v:Value):eh n (a.put (some d) v) ((d,v)::E):=by
 refine⟨by simp[Act.put,h.size],h.defers,fun t u hu=>?_⟩
 unfold gI at hu
 by_cases e:d=t
 ·subst e
  simp only[Nat.beq_refl,cond_true] at hu
  simp only[Option.some.injEq] at hu
  subst hu
  simp[Act.put,h.size,hd]
 ·have:Nat.beq d t=false:=by
   cases hb:Nat.beq d t with
   |false=>rfl
   |true=>exact absurd (Nat.eq_of_beq_eq_true hb) e
  rw[this] at hu
  simp only[cond_false] at hu
  have:=h.get t u hu
  simp only[Act.put]
  rw[Array.getElem?_setIfInBounds_ne e]
  exact this
def kS (E:Env):Env→Prop
 |[]=>True
 |(t,v)::F=>gI E t=some v∧kS E F
theorem eh.ents {n:mh} {a:Act} {E:Env} (h:eh n a E):∀ F,kS E F→eh n a F
 |[],_=>⟨h.size,h.defers,fun t v hv=>by simp[gI] at hv⟩
 |(t,v)::F,hF=>by
  have ih:=h.ents F hF.2
  refine⟨h.size,h.defers,fun u x hx=>?_⟩
  unfold gI at hx
  cases hb:Nat.beq t u with
  |true=>
   rw[hb] at hx
   simp only[cond_true,Option.some.injEq] at hx
   obtain rfl:=Nat.eq_of_beq_eq_true hb
   subst hx
   exact h.get _ _ hF.1
  |false=>
   rw[hb] at hx
   exact ih.get u x hx
/-! ### Memory -/
inductive aO where
 |obj (b:Nat) (o:Obj)
 |seg (b off:Nat) (vs:List Value)
 |own (v:Value) (e sz n:Nat) (xs:List Value)
 |tab (b:Nat) (o:Obj)
abbrev Heap:=List aO
@[reducible] def blk (b e:Nat) (cs:List Value):aO:=.obj b (.cells cs.toArray e (0,0))
def aO.holds (w:World):aO→Prop
 |.obj b o=>w.heap[b]?=some o
 |.seg b off vs=>∀ i v,vs[i]?=some v→w.cell? ⟨b,off+i,none⟩=some v
 |.own v e sz n xs=>w.ownsRow 0 e sz v n xs
 |.tab b o=>w.heap[b]?=some o
def aO.mine:aO→Option Nat
 |.obj b _=>some b
 |.seg ..=>none
 |.own v ..=>v.ownBlock
 |.tab ..=>none
def aO.at_:aO→Option Nat
 |.obj b _=>some b
 |.seg b _ vs=>if vs=[] then none else some b
 |.own v ..=>v.ownBlock
 |.tab b _=>some b
def er (c d:aO):Prop:=(∀ b,c.mine=some b→d.at_≠some b)∧(∀ b,d.mine=some b→c.at_≠some b)
structure cm (w0:World) (M:List Nat) (w:World) (H:Heap):Prop where
 os:w.os=w0.os
 tape:w.tape=w0.tape
 output:w.output=w0.output
 size:w0.heap.size≤w.heap.size
 keep:∀ k,k<w0.heap.size→k∉M→w.heap[k]?=w0.heap[k]?
 holds:∀ c∈H,c.holds w
 own:∀ c∈H,∀ b,c.mine=some b→w0.heap.size≤b∨b∈M
 dis:H.Pairwise er
theorem jR {c d:aO} (h:er c d):er d c:=⟨h.2,h.1⟩
theorem cm.drew {w0:World} {M:List Nat} {w:World} {H:Heap} (h:cm w0 M w H):cm w0 M { w with drawn:=w.drawn+1 } H:=
 ⟨h.os,h.tape,h.output,h.size,h.keep,fun c hc=>by have:=h.holds c hc;cases c<;>exact this,h.own,h.dis⟩
theorem aO.at_lt {w:World} {c:aO} (h:c.holds w) {b:Nat} (hb:c.at_=some b):b<w.heap.size:=by
 cases c with
 |obj b' o=>simp[aO.at_] at hb;subst hb;exact (Array.getElem?_eq_some_iff.1 h).1
 |seg b' off vs=>
  simp only[aO.at_] at hb
  split at hb
  ·cases hb
  ·rename_i hne
   simp only[Option.some.injEq] at hb
   subst hb
   cases vs with
   |nil=>exact absurd rfl hne
   |cons v vs=>
    have:=h 0 v rfl
    exact World.block_lt_of_cell? w _ this
 |own v e sz n xs=>exact (World.ownsRow.lt h b hb).2
 |tab b' o=>simp[aO.at_] at hb;subst hb;exact (Array.getElem?_eq_some_iff.1 h).1
theorem aO.mine_at {c:aO} {b:Nat} (h:c.mine=some b):c.at_=some b:=by
 cases c with
 |obj=>exact h
 |seg=>simp[aO.mine] at h
 |own=>exact h
 |tab=>simp[aO.mine] at h
theorem aO.holds_of {w w':World} {c:aO} (h:c.holds w) (hb:∀ b,c.at_=some b→w'.heap[b]?=w.heap[b]?):c.holds w':=by
 cases c with
 |obj b o=>exact (hb b rfl).trans h
 |seg b off vs=>
  intro i v hv
  have hne:vs≠[]:=by rintro rfl;simp at hv
  have:(aO.seg b off vs).at_=some b:=by simp[aO.at_,hne]
  rw[World.cell?_of_block (a:=⟨b,off+i,none⟩) (hb b this)]
  exact h i v hv
 |own v e sz n xs=>
  refine⟨h.1,?_⟩
  rcases h.2 with hn|⟨g,cap,cur,rfl,h1,h2,h3⟩
  ·exact .inl hn
  ·exact .inr ⟨g,cap,cur,rfl,h1,(hb g rfl).trans h2,h3⟩
 |tab b o=>exact (hb b rfl).trans h
theorem cm.mono {w0:World} {M:List Nat} {w:World} {H K:Heap} (h:cm w0 M w H) (hs:∀ c∈K,c∈H) (hd:K.Pairwise er):cm w0 M w K:=
 ⟨h.os,h.tape,h.output,h.size,h.keep,fun c hc=>h.holds c (hs c hc),fun c hc=>h.own c (hs c hc),hd⟩
def bF (H:Heap):List Nat→Option Heap
 |[]=>some []
 |i::l=>match H[i]? with
  |some c=>match bF H l with
   |some K=>some (c::K)
   |none=>none
  |none=>none
theorem ed {H:Heap}:∀ {l:List Nat} {K:Heap},bF H l=some K→∀ c∈K,∃ i∈l,H[i]?=some c
 |[],K,h,c,hc=>by simp[bF] at h;subst h;cases hc
 |i::l,K,h,c,hc=>by
  unfold bF at h
  split at h
  ·rename_i d hd
   split at h
   ·rename_i K' hK'
    simp only[Option.some.injEq] at h
    subst h
    rcases List.mem_cons.1 hc with rfl|hc
    ·exact⟨i,by simp,hd⟩
    ·obtain⟨j,hj,hjc⟩:=ed hK' c hc
     exact⟨j,by simp[hj],hjc⟩
   ·cases h
  ·cases h
theorem dH {H:Heap} (hd:H.Pairwise er) {i j:Nat} {c d:aO} (hi:H[i]?=some c) (hj:H[j]?=some d) (hij:i≠j):er c d:=by
 rw[List.pairwise_iff_getElem] at hd
 obtain⟨h1,rfl⟩:=List.getElem?_eq_some_iff.1 hi
 obtain⟨h2,rfl⟩:=List.getElem?_eq_some_iff.1 hj
 rcases Nat.lt_or_gt_of_ne hij with h|h
 ·exact hd i j h1 h2 h
 ·exact jR (hd j i h2 h1 h)
theorem eF {H:Heap} (hd:H.Pairwise er):∀ {l:List Nat} {K:Heap},l.Nodup→bF H l=some K→K.Pairwise er
 |[],K,_,h=>by simp[bF] at h;subst h;exact List.Pairwise.nil
 |i::l,K,hn,h=>by
  unfold bF at h
  split at h
  ·rename_i c hc
   split at h
   ·rename_i K' hK'
    simp only[Option.some.injEq] at h
    subst h
    rw[List.nodup_cons] at hn
    refine List.Pairwise.cons (fun d hdm=>?_) (eF hd hn.2 hK')
    obtain⟨j,hj,hjd⟩:=ed hK' d hdm
    exact dH hd hc hjd (fun e=>hn.1 (e▸hj))
   ·cases h
  ·cases h
theorem cm.picks {w0:World} {M:List Nat} {w:World} {H K:Heap} (h:cm w0 M w H) (l:List Nat) (hl:l.Nodup) (hp:bF H l=some K):cm w0 M w K:=
 h.mono (fun c hc=>by obtain⟨i,_,hi⟩:=ed hp c hc;exact List.mem_of_getElem? hi) (eF h.dis hl hp)
theorem cm.step {w0:World} {M:List Nat} {w w':World} {H:Heap} (h:cm w0 M w H) (i:Nat) {c d:aO} (hi:H[i]?=some c)
 (hos:w'.os=w.os) (htape:w'.tape=w.tape) (hout:w'.output=w.output) (hsize:w.heap.size≤w'.heap.size)
 (hb:∀ k,k<w.heap.size→c.mine≠some k→w'.heap[k]?=w.heap[k]?) (hd:d.holds w') (hm:∀ b,d.at_=some b→c.mine=some b∨w.heap.size≤b):cm w0 M w' (H.set i d):=by
 have hci:c∈H:=List.mem_of_getElem? hi
 have hil:i<H.length:=(List.getElem?_eq_some_iff.1 hi).1
 have hoth:∀ j e,H[j]?=some e→j≠i→er e c:=fun j e hj hne=>dH h.dis hj hi hne
 have hget:∀ e∈H.set i d,e=d∨∃ j,j≠i∧H[j]?=some e:=by
  intro e he
  obtain⟨j,hj⟩:=List.mem_iff_getElem?.1 he
  by_cases hij:i=j
  ·subst hij;rw[List.getElem?_set_self hil] at hj;exact .inl (Option.some.inj hj).symm
  ·rw[List.getElem?_set_ne hij] at hj;exact .inr ⟨j,fun x=>hij x.symm,hj⟩
 have hnew:∀ e,(∃ j,j≠i∧H[j]?=some e)→er e d:=by
  rintro e ⟨j,hji,hj⟩
  have hap:=hoth j e hj hji
  have heh:=h.holds e (List.mem_of_getElem? hj)
  constructor
  ·intro b hb1 hb2
   rcases hm b hb2 with h1|h1
   ·exact hap.2 b h1 (aO.mine_at hb1)
   ·have:=aO.at_lt heh (aO.mine_at hb1);omega
  ·intro b hb1 hb2
   rcases hm b (aO.mine_at hb1) with h1|h1
   ·exact hap.2 b h1 hb2
   ·have:=aO.at_lt heh hb2;omega
 refine⟨hos.trans h.os,htape.trans h.tape,hout.trans h.output,Nat.le_trans h.size hsize,fun k hk hkM=>?_,fun e he=>?_,fun e he b hbm=>?_,?_⟩
 ·rw[hb k (Nat.lt_of_lt_of_le hk h.size) (fun e=>by
   rcases h.own c hci k e with h1|h1
   ·omega
   ·exact hkM h1)]
  exact h.keep k hk hkM
 ·rcases hget e he with rfl|⟨j,hji,hj⟩
  ·exact hd
  ·have heh:=h.holds e (List.mem_of_getElem? hj)
   exact aO.holds_of heh fun b hbe=>hb b (aO.at_lt heh hbe) (fun x=>(hoth j e hj hji).2 b x hbe)
 ·rcases hget e he with rfl|⟨j,hji,hj⟩
  ·rcases hm b (aO.mine_at hbm) with h1|h1
   ·exact h.own c hci b h1
   ·exact .inl (Nat.le_trans h.size h1)
  ·exact h.own e (List.mem_of_getElem? hj) b hbm
 ·rw[List.pairwise_iff_getElem]
  intro p q hp hq hpq
  by_cases h1:p=i
  ·subst h1
   have:q≠p:=by omega
   simp only[List.getElem_set_self]
   rw[List.getElem_set_ne (by omega)]
   exact jR (hnew _ ⟨q,this,List.getElem?_eq_getElem _⟩)
  ·rw[List.getElem_set_ne (by omega)]
   by_cases h2:q=i
   ·subst h2
    simp only[List.getElem_set_self]
    exact hnew _ ⟨p,h1,List.getElem?_eq_getElem _⟩
   ·rw[List.getElem_set_ne (by omega)]
    exact dH h.dis (List.getElem?_eq_getElem _) (List.getElem?_eq_getElem _) (by omega)
theorem cm.grow {w0:World} {M:List Nat} {w w':World} {H:Heap} (h:cm w0 M w H) {d:aO}
 (hos:w'.os=w.os) (htape:w'.tape=w.tape) (hout:w'.output=w.output) (hsize:w.heap.size≤w'.heap.size)
 (hb:∀ k,k<w.heap.size→w'.heap[k]?=w.heap[k]?) (hd:d.holds w') (hm:∀ b,d.at_=some b→w.heap.size≤b):cm w0 M w' (d::H):=by
 refine⟨hos.trans h.os,htape.trans h.tape,hout.trans h.output,Nat.le_trans h.size hsize,fun k hk hkM=>?_,fun e he=>?_,fun e he b hbm=>?_,?_⟩
 ·rw[hb k (Nat.lt_of_lt_of_le hk h.size)];exact h.keep k hk hkM
 ·rcases List.mem_cons.1 he with rfl|he
  ·exact hd
  ·exact aO.holds_of (h.holds e he) fun b hbe=>hb b (aO.at_lt (h.holds e he) hbe)
 ·rcases List.mem_cons.1 he with rfl|he
  ·exact .inl (Nat.le_trans h.size (hm b (aO.mine_at hbm)))
  ·exact h.own e he b hbm
 ·refine List.Pairwise.cons (fun e he=>?_) h.dis
  have heh:=h.holds e he
  constructor
  ·intro b hb1 hb2
   have h1:=hm b (aO.mine_at hb1)
   have h2:=aO.at_lt heh hb2
   omega
  ·intro b hb1 hb2
   have h1:=hm b hb2
   have h2:=aO.at_lt heh (aO.mine_at hb1)
   omega
end Go.Proofs.YtpbmihpjgjbndaaGreatDoor
/- The engine, its second part: operations that only reckon. -/
set_option linter.unusedVariables false
set_option linter.unusedSimpArgs false
namespace Go.Proofs.YtpbmihpjgjbndaaGreatDoor
open Go.RowKit
/-! ### Types, as a table -/
inductive UK where
 |int (k:IntKind)|bool|string|ptr (e:Nat)|slice (e:Nat)|arr (n e:Nat)|struct (fs:List (Nat×Nat×Nat))|map (k e:Nat)|func|iface|other
 deriving Repr,Inhabited
structure TI where
 uk:UK
 size:Nat
 bytes:Nat
 zero:Option Value
def jM (P:Program) (t:TypeId):Nat:=match P.underlying t with|some (.struct _)=>1|some (.array _ _)=>1|some _=>0|none=>2
def jP (P:Program):TypeDesc→UK
 |.int k=>.int k
 |.bool=>.bool
 |.string=>.string
 |.pointer e=>.ptr e
 |.slice e=>.slice e
 |.array n e=>.arr n e
 |.map k e=>.map k e
 |.struct fs=>.struct (fs.toList.map fun f=>(f.offset,P.cellsOf f.type,jM P f.type))
 |.func ..=>.func
 |.interface _=>.iface
 |_=>.other
def vV (P:Program) (t:TypeId):Option TI:=match P.underlying t with
 |some d=>match P.info? t with
  |some i=>some ⟨jP P d,i.size,i.bytes,match d with|.tuple _=>none|_=>i.zero⟩
  |none=>none
 |none=>none
def zg:List (Option TI):=[
 some ⟨.other,1,0,none⟩,
 some ⟨.func,1,8,some (.nilFunc)⟩,
 some ⟨.int .i64,1,8,some (.int .i64 0)⟩,
 some ⟨.int .i64,1,8,some (.int .i64 0)⟩,
 some ⟨.bool,1,1,some (.bool false)⟩,
 some ⟨.int .u8,1,1,some (.int .u8 0)⟩,
 some ⟨.int .u8,1,1,some (.int .u8 0)⟩,
 some ⟨.struct [(0,1,0),(1,1,0),(2,1,0),(3,1,0)],4,24,some (.agg #[.int .i64 0,.int .i64 0,.bool false,.int .u8 0])⟩,
 some ⟨.struct [(0,1,0),(1,1,0),(2,1,0),(3,1,0)],4,24,some (.agg #[.int .i64 0,.int .i64 0,.bool false,.int .u8 0])⟩,
 some ⟨.string,1,16,some (.string ⟨#[]⟩)⟩,
 some ⟨.string,1,16,some (.string ⟨#[]⟩)⟩,
 some ⟨.string,1,16,some (.string ⟨#[]⟩)⟩,
 some ⟨.int .u64,1,8,some (.int .u64 0)⟩,
 some ⟨.struct [(0,1,0),(1,1,0)],2,24,some (.agg #[.string ⟨#[]⟩,.int .u64 0])⟩,
 some ⟨.struct [(0,1,0),(1,1,0)],2,24,some (.agg #[.string ⟨#[]⟩,.int .u64 0])⟩,
 some ⟨.ptr 295,1,8,some (.pointer none)⟩,
 some ⟨.ptr 298,1,8,some (.pointer none)⟩,
 some ⟨.ptr 306,1,8,some (.pointer none)⟩,
 some ⟨.struct [(0,1,0)],1,8,some (.agg #[.pointer none])⟩,
 some ⟨.struct [(0,1,0)],1,8,some (.agg #[.pointer none])⟩,
 some ⟨.iface,1,16,some (.nilIface)⟩,
 some ⟨.int .i32,1,4,some (.int .i32 0)⟩,
 some ⟨.slice 89,1,24,some (.slice none 0 0)⟩,
 some ⟨.slice 3,1,24,some (.slice none 0 0)⟩,
 some ⟨.func,1,8,some (.nilFunc)⟩,
 some ⟨.slice 70,1,24,some (.slice none 0 0)⟩,
 some ⟨.struct [(0,1,0),(1,1,0),(2,1,0),(3,1,0)],4,48,some (.agg #[.int .i64 0,.int .i64 0,.int .i64 0,.slice none 0 0])⟩,
 some ⟨.struct [(0,1,0),(1,1,0),(2,1,0),(3,1,0)],4,48,some (.agg #[.int .i64 0,.int .i64 0,.int .i64 0,.slice none 0 0])⟩,
 some ⟨.func,1,8,some (.nilFunc)⟩,
 some ⟨.slice 2,1,24,some (.slice none 0 0)⟩,
 some ⟨.struct [(0,1,0),(1,1,0),(2,1,0),(3,1,0)],4,48,some (.agg #[.slice none 0 0,.int .i64 0,.int .i64 0,.int .i64 0])⟩,
 some ⟨.struct [(0,1,0),(1,1,0),(2,1,0),(3,1,0)],4,48,some (.agg #[.slice none 0 0,.int .i64 0,.int .i64 0,.int .i64 0])⟩,
 some ⟨.int .i64,1,8,some (.int .i64 0)⟩,
 some ⟨.other,1,0,none⟩,
 some ⟨.func,1,8,some (.nilFunc)⟩,
 some ⟨.other,1,0,none⟩,
 some ⟨.func,1,8,some (.nilFunc)⟩,
 some ⟨.func,1,8,some (.nilFunc)⟩,
 some ⟨.other,1,0,none⟩,
 some ⟨.func,1,8,some (.nilFunc)⟩,
 some ⟨.other,1,0,none⟩,
 some ⟨.func,1,8,some (.nilFunc)⟩,
 some ⟨.other,1,0,none⟩,
 some ⟨.func,1,8,some (.nilFunc)⟩,
 some ⟨.func,1,8,some (.nilFunc)⟩,
 some ⟨.func,1,8,some (.nilFunc)⟩,
 some ⟨.slice 9,1,24,some (.slice none 0 0)⟩,
 some ⟨.func,1,8,some (.nilFunc)⟩,
 some ⟨.func,1,8,some (.nilFunc)⟩,
 some ⟨.func,1,8,some (.nilFunc)⟩,
 some ⟨.func,1,8,some (.nilFunc)⟩,
 some ⟨.func,1,8,some (.nilFunc)⟩,
 some ⟨.slice 114,1,24,some (.slice none 0 0)⟩,
 some ⟨.ptr 113,1,8,some (.pointer none)⟩,
 some ⟨.func,1,8,some (.nilFunc)⟩,
 some ⟨.func,1,8,some (.nilFunc)⟩,
 some ⟨.func,1,8,some (.nilFunc)⟩,
 some ⟨.other,1,0,none⟩,
 some ⟨.func,1,8,some (.nilFunc)⟩,
 some ⟨.func,1,8,some (.nilFunc)⟩,
 some ⟨.func,1,8,some (.nilFunc)⟩,
 some ⟨.func,1,8,some (.nilFunc)⟩,
 some ⟨.func,1,8,some (.nilFunc)⟩,
 some ⟨.slice 46,1,24,some (.slice none 0 0)⟩,
 some ⟨.func,1,8,some (.nilFunc)⟩,
 some ⟨.func,1,8,some (.nilFunc)⟩,
 some ⟨.func,1,8,some (.nilFunc)⟩,
 some ⟨.slice 129,1,24,some (.slice none 0 0)⟩,
 some ⟨.func,1,8,some (.nilFunc)⟩,
 some ⟨.struct [(0,1,0),(1,1,0),(2,1,0)],3,24,some (.agg #[.int .i64 0,.int .i64 0,.int .i64 0])⟩,
 some ⟨.struct [(0,1,0),(1,1,0),(2,1,0)],3,24,some (.agg #[.int .i64 0,.int .i64 0,.int .i64 0])⟩,
 some ⟨.struct [(0,1,0),(1,1,0),(2,1,0),(3,1,0),(4,1,0)],5,40,some (.agg #[.int .i64 0,.int .i64 0,.int .i64 0,.int .i64 0,.int .i64 0])⟩,
 some ⟨.struct [(0,1,0),(1,1,0),(2,1,0),(3,1,0),(4,1,0)],5,40,some (.agg #[.int .i64 0,.int .i64 0,.int .i64 0,.int .i64 0,.int .i64 0])⟩,
 some ⟨.other,1,0,none⟩,
 some ⟨.func,1,8,some (.nilFunc)⟩,
 some ⟨.func,1,8,some (.nilFunc)⟩,
 some ⟨.func,1,8,some (.nilFunc)⟩,
 some ⟨.func,1,8,some (.nilFunc)⟩,
 some ⟨.other,1,0,none⟩,
 some ⟨.func,1,8,some (.nilFunc)⟩,
 some ⟨.slice 143,1,24,some (.slice none 0 0)⟩,
 some ⟨.other,1,0,none⟩,
 some ⟨.func,1,8,some (.nilFunc)⟩,
 some ⟨.func,1,8,some (.nilFunc)⟩,
 some ⟨.func,1,8,some (.nilFunc)⟩,
 some ⟨.func,1,8,some (.nilFunc)⟩,
 some ⟨.func,1,8,some (.nilFunc)⟩,
 some ⟨.func,1,8,some (.nilFunc)⟩,
 some ⟨.struct [(0,1,0),(1,1,0),(2,1,0)],3,24,some (.agg #[.int .i64 0,.int .i64 0,.int .i64 0])⟩,
 some ⟨.struct [(0,1,0),(1,1,0),(2,1,0)],3,24,some (.agg #[.int .i64 0,.int .i64 0,.int .i64 0])⟩,
 some ⟨.func,1,8,some (.nilFunc)⟩,
 some ⟨.slice 4,1,24,some (.slice none 0 0)⟩,
 some ⟨.other,1,0,none⟩,
 some ⟨.func,1,8,some (.nilFunc)⟩,
 some ⟨.func,1,8,some (.nilFunc)⟩,
 some ⟨.func,1,8,some (.nilFunc)⟩,
 some ⟨.func,1,8,some (.nilFunc)⟩,
 some ⟨.ptr 100,1,8,some (.pointer none)⟩,
 some ⟨.slice 5,1,24,some (.slice none 0 0)⟩,
 some ⟨.struct [(0,1,0),(1,1,0)],2,32,some (.agg #[.pointer none,.slice none 0 0])⟩,
 some ⟨.struct [(0,1,0),(1,1,0)],2,32,some (.agg #[.pointer none,.slice none 0 0])⟩,
 some ⟨.struct [(0,2,1)],2,32,some (.agg #[.pointer none,.slice none 0 0])⟩,
 some ⟨.struct [(0,2,1)],2,32,some (.agg #[.pointer none,.slice none 0 0])⟩,
 some ⟨.func,1,8,some (.nilFunc)⟩,
 some ⟨.func,1,8,some (.nilFunc)⟩,
 some ⟨.other,1,0,none⟩,
 some ⟨.func,1,8,some (.nilFunc)⟩,
 some ⟨.func,1,8,some (.nilFunc)⟩,
 some ⟨.func,1,8,some (.nilFunc)⟩,
 some ⟨.func,1,8,some (.nilFunc)⟩,
 some ⟨.func,1,8,some (.nilFunc)⟩,
 some ⟨.func,1,8,some (.nilFunc)⟩,
 some ⟨.struct [(0,4,1),(4,1,0),(5,1,0),(6,1,0),(7,1,0),(8,1,0)],9,104,some (.agg #[.int .i64 0,.int .i64 0,.int .i64 0,.slice none 0 0,.slice none 0 0,.slice none 0 0,.bool false,.bool false,.bool false])⟩,
 some ⟨.struct [(0,4,1),(4,1,0),(5,1,0),(6,1,0),(7,1,0),(8,1,0)],9,104,some (.agg #[.int .i64 0,.int .i64 0,.int .i64 0,.slice none 0 0,.slice none 0 0,.slice none 0 0,.bool false,.bool false,.bool false])⟩,
 some ⟨.struct [(0,1,0),(1,1,0),(2,1,0)],3,24,some (.agg #[.int .i64 0,.int .i64 0,.int .i64 0])⟩,
 some ⟨.iface,1,16,some (.nilIface)⟩,
 some ⟨.iface,1,16,some (.nilIface)⟩,
 some ⟨.other,1,0,none⟩,
 some ⟨.func,1,8,some (.nilFunc)⟩,
 some ⟨.func,1,8,some (.nilFunc)⟩,
 some ⟨.func,1,8,some (.nilFunc)⟩,
 some ⟨.func,1,8,some (.nilFunc)⟩,
 some ⟨.func,1,8,some (.nilFunc)⟩,
 some ⟨.other,1,0,none⟩,
 some ⟨.func,1,8,some (.nilFunc)⟩,
 some ⟨.ptr 127,1,8,some (.pointer none)⟩,
 some ⟨.struct [(0,1,0),(1,1,0)],2,24,some (.agg #[.pointer none,.string ⟨#[]⟩])⟩,
 some ⟨.struct [(0,1,0),(1,1,0)],2,24,some (.agg #[.pointer none,.string ⟨#[]⟩])⟩,
 some ⟨.func,1,8,some (.nilFunc)⟩,
 some ⟨.struct [(0,1,0),(1,1,0),(2,1,0)],3,24,some (.agg #[.int .i64 0,.int .i64 0,.int .i64 0])⟩,
 some ⟨.func,1,8,some (.nilFunc)⟩,
 some ⟨.func,1,8,some (.nilFunc)⟩,
 some ⟨.ptr 134,1,8,some (.pointer none)⟩,
 some ⟨.struct [(0,4,1),(4,1,0),(5,1,0)],6,64,some (.agg #[.int .i64 0,.int .i64 0,.int .i64 0,.slice none 0 0,.int .i64 0,.int .i64 0])⟩,
 some ⟨.struct [(0,4,1),(4,1,0),(5,1,0)],6,64,some (.agg #[.int .i64 0,.int .i64 0,.int .i64 0,.slice none 0 0,.int .i64 0,.int .i64 0])⟩,
 some ⟨.func,1,8,some (.nilFunc)⟩,
 some ⟨.struct [(0,1,0),(1,1,0)],2,32,some (.agg #[.slice none 0 0,.nilFunc])⟩,
 some ⟨.struct [(0,1,0),(1,1,0)],2,32,some (.agg #[.slice none 0 0,.nilFunc])⟩,
 some ⟨.func,1,8,some (.nilFunc)⟩,
 some ⟨.func,1,8,some (.nilFunc)⟩,
 some ⟨.func,1,8,some (.nilFunc)⟩,
 some ⟨.func,1,8,some (.nilFunc)⟩,
 some ⟨.struct [(0,1,0),(1,1,0),(2,1,0),(3,1,0)],4,32,some (.agg #[.int .i64 0,.int .i64 0,.int .i64 0,.int .i64 0])⟩,
 some ⟨.struct [(0,1,0),(1,1,0),(2,1,0),(3,1,0)],4,32,some (.agg #[.int .i64 0,.int .i64 0,.int .i64 0,.int .i64 0])⟩,
 some ⟨.func,1,8,some (.nilFunc)⟩,
 some ⟨.func,1,8,some (.nilFunc)⟩,
 some ⟨.func,1,8,some (.nilFunc)⟩,
 some ⟨.func,1,8,some (.nilFunc)⟩,
 some ⟨.func,1,8,some (.nilFunc)⟩,
 some ⟨.func,1,8,some (.nilFunc)⟩,
 some ⟨.iface,1,16,some (.nilIface)⟩,
 some ⟨.iface,1,16,some (.nilIface)⟩,
 some ⟨.func,1,8,some (.nilFunc)⟩,
 some ⟨.func,1,8,some (.nilFunc)⟩,
 some ⟨.other,1,0,none⟩,
 some ⟨.func,1,8,some (.nilFunc)⟩,
 some ⟨.other,1,0,none⟩,
 some ⟨.func,1,8,some (.nilFunc)⟩,
 some ⟨.slice 23,1,24,some (.slice none 0 0)⟩,
 some ⟨.other,1,0,none⟩,
 some ⟨.func,1,8,some (.nilFunc)⟩,
 some ⟨.func,1,8,some (.nilFunc)⟩,
 some ⟨.ptr 102,1,8,some (.pointer none)⟩,
 some ⟨.func,1,8,some (.nilFunc)⟩,
 some ⟨.ptr 5,1,8,some (.pointer none)⟩,
 some ⟨.func,1,8,some (.nilFunc)⟩,
 some ⟨.func,1,8,some (.nilFunc)⟩,
 some ⟨.func,1,8,some (.nilFunc)⟩,
 some ⟨.func,1,8,some (.nilFunc)⟩,
 some ⟨.slice 121,1,24,some (.slice none 0 0)⟩,
 some ⟨.func,1,8,some (.nilFunc)⟩,
 some ⟨.func,1,8,some (.nilFunc)⟩,
 some ⟨.other,1,0,none⟩,
 some ⟨.func,1,8,some (.nilFunc)⟩,
 some ⟨.func,1,8,some (.nilFunc)⟩,
 some ⟨.func,1,8,some (.nilFunc)⟩,
 some ⟨.func,1,8,some (.nilFunc)⟩,
 some ⟨.func,1,8,some (.nilFunc)⟩,
 some ⟨.func,1,8,some (.nilFunc)⟩,
 some ⟨.func,1,8,some (.nilFunc)⟩,
 some ⟨.struct [],0,0,some (.agg #[])⟩,
 some ⟨.struct [],0,0,some (.agg #[])⟩,
 some ⟨.func,1,8,some (.nilFunc)⟩,
 some ⟨.int .u64,1,8,some (.int .u64 0)⟩,
 some ⟨.func,1,8,some (.nilFunc)⟩,
 some ⟨.func,1,8,some (.nilFunc)⟩,
 some ⟨.int .u64,1,8,some (.int .u64 0)⟩,
 some ⟨.func,1,8,some (.nilFunc)⟩,
 some ⟨.func,1,8,some (.nilFunc)⟩,
 some ⟨.struct [],0,0,some (.agg #[])⟩,
 some ⟨.struct [],0,0,some (.agg #[])⟩,
 some ⟨.map 3 4,1,8,some (.map none)⟩,
 some ⟨.func,1,8,some (.nilFunc)⟩,
 some ⟨.slice 195,1,24,some (.slice none 0 0)⟩,
 some ⟨.struct [(0,1,0),(1,1,0)],2,16,some (.agg #[.int .i64 0,.int .i64 0])⟩,
 some ⟨.struct [(0,1,0),(1,1,0)],2,16,some (.agg #[.int .i64 0,.int .i64 0])⟩,
 some ⟨.other,1,0,none⟩,
 some ⟨.func,1,8,some (.nilFunc)⟩,
 some ⟨.func,1,8,some (.nilFunc)⟩,
 some ⟨.func,1,8,some (.nilFunc)⟩,
 some ⟨.func,1,8,some (.nilFunc)⟩,
 some ⟨.func,1,8,some (.nilFunc)⟩,
 some ⟨.arr 24 5,24,24,some (.agg #[.int .u8 0,.int .u8 0,.int .u8 0,.int .u8 0,.int .u8 0,.int .u8 0,.int .u8 0,.int .u8 0,.int .u8 0,.int .u8 0,.int .u8 0,.int .u8 0,.int .u8 0,.int .u8 0,.int .u8 0,.int .u8 0,.int .u8 0,.int .u8 0,.int .u8 0,.int .u8 0,.int .u8 0,.int .u8 0,.int .u8 0,.int .u8 0])⟩,
 some ⟨.func,1,8,some (.nilFunc)⟩,
 some ⟨.other,1,0,none⟩,
 some ⟨.func,1,8,some (.nilFunc)⟩,
 some ⟨.other,1,8,some (.pointer none)⟩,
 some ⟨.func,1,8,some (.nilFunc)⟩,
 some ⟨.func,1,8,some (.nilFunc)⟩,
 some ⟨.func,1,8,some (.nilFunc)⟩,
 some ⟨.slice 214,1,24,some (.slice none 0 0)⟩,
 some ⟨.struct [(0,1,0),(1,1,0),(2,1,0)],3,40,some (.agg #[.int .i64 0,.int .i64 0,.slice none 0 0])⟩,
 some ⟨.struct [(0,1,0),(1,1,0),(2,1,0)],3,40,some (.agg #[.int .i64 0,.int .i64 0,.slice none 0 0])⟩,
 some ⟨.struct [(0,1,0),(1,1,0)],2,16,some (.agg #[.int .i64 0,.int .i64 0])⟩,
 some ⟨.struct [(0,1,0),(1,1,0)],2,16,some (.agg #[.int .i64 0,.int .i64 0])⟩,
 some ⟨.struct [(0,1,0),(1,1,0)],2,48,some (.agg #[.slice none 0 0,.slice none 0 0])⟩,
 some ⟨.struct [(0,1,0),(1,1,0)],2,48,some (.agg #[.slice none 0 0,.slice none 0 0])⟩,
 some ⟨.other,1,0,none⟩,
 some ⟨.func,1,8,some (.nilFunc)⟩,
 some ⟨.func,1,8,some (.nilFunc)⟩,
 some ⟨.func,1,8,some (.nilFunc)⟩,
 some ⟨.func,1,8,some (.nilFunc)⟩,
 some ⟨.func,1,8,some (.nilFunc)⟩,
 some ⟨.ptr 3,1,8,some (.pointer none)⟩,
 some ⟨.func,1,8,some (.nilFunc)⟩,
 some ⟨.func,1,8,some (.nilFunc)⟩,
 some ⟨.func,1,8,some (.nilFunc)⟩,
 some ⟨.arr 256 4,256,256,some (.agg #[.bool false,.bool false,.bool false,.bool false,.bool false,.bool false,.bool false,.bool false,.bool false,.bool false,.bool false,.bool false,.bool false,.bool false,.bool false,.bool false,.bool false,.bool false,.bool false,.bool false,.bool false,.bool false,.bool false,.bool false,.bool false,.bool false,.bool false,.bool false,.bool false,.bool false,.bool false,.bool false,.bool false,.bool false,.bool false,.bool false,.bool false,.bool false,.bool false,.bool false,.bool false,.bool false,.bool false,.bool false,.bool false,.bool false,.bool false,.bool false,.bool false,.bool false,.bool false,.bool false,.bool false,.bool false,.bool false,.bool false,.bool false,.bool false,.bool false,.bool false,.bool false,.bool false,.bool false,.bool false,.bool false,.bool false,.bool false,.bool false,.bool false,.bool false,.bool false,.bool false,.bool false,.bool false,.bool false,.bool false,.bool false,.bool false,.bool false,.bool false,.bool false,.bool false,.bool false,.bool false,.bool false,.bool false,.bool false,.bool false,.bool false,.bool false,.bool false,.bool false,.bool false,.bool false,.bool false,.bool false,.bool false,.bool false,.bool false,.bool false,.bool false,.bool false,.bool false,.bool false,.bool false,.bool false,.bool false,.bool false,.bool false,.bool false,.bool false,.bool false,.bool false,.bool false,.bool false,.bool false,.bool false,.bool false,.bool false,.bool false,.bool false,.bool false,.bool false,.bool false,.bool false,.bool false,.bool false,.bool false,.bool false,.bool false,.bool false,.bool false,.bool false,.bool false,.bool false,.bool false,.bool false,.bool false,.bool false,.bool false,.bool false,.bool false,.bool false,.bool false,.bool false,.bool false,.bool false,.bool false,.bool false,.bool false,.bool false,.bool false,.bool false,.bool false,.bool false,.bool false,.bool false,.bool false,.bool false,.bool false,.bool false,.bool false,.bool false,.bool false,.bool false,.bool false,.bool false,.bool false,.bool false,.bool false,.bool false,.bool false,.bool false,.bool false,.bool false,.bool false,.bool false,.bool false,.bool false,.bool false,.bool false,.bool false,.bool false,.bool false,.bool false,.bool false,.bool false,.bool false,.bool false,.bool false,.bool false,.bool false,.bool false,.bool false,.bool false,.bool false,.bool false,.bool false,.bool false,.bool false,.bool false,.bool false,.bool false,.bool false,.bool false,.bool false,.bool false,.bool false,.bool false,.bool false,.bool false,.bool false,.bool false,.bool false,.bool false,.bool false,.bool false,.bool false,.bool false,.bool false,.bool false,.bool false,.bool false,.bool false,.bool false,.bool false,.bool false,.bool false,.bool false,.bool false,.bool false,.bool false,.bool false,.bool false,.bool false,.bool false,.bool false,.bool false,.bool false,.bool false,.bool false,.bool false,.bool false,.bool false,.bool false,.bool false,.bool false,.bool false,.bool false,.bool false,.bool false,.bool false,.bool false,.bool false,.bool false,.bool false])⟩,
 some ⟨.arr 256 4,256,256,some (.agg #[.bool false,.bool false,.bool false,.bool false,.bool false,.bool false,.bool false,.bool false,.bool false,.bool false,.bool false,.bool false,.bool false,.bool false,.bool false,.bool false,.bool false,.bool false,.bool false,.bool false,.bool false,.bool false,.bool false,.bool false,.bool false,.bool false,.bool false,.bool false,.bool false,.bool false,.bool false,.bool false,.bool false,.bool false,.bool false,.bool false,.bool false,.bool false,.bool false,.bool false,.bool false,.bool false,.bool false,.bool false,.bool false,.bool false,.bool false,.bool false,.bool false,.bool false,.bool false,.bool false,.bool false,.bool false,.bool false,.bool false,.bool false,.bool false,.bool false,.bool false,.bool false,.bool false,.bool false,.bool false,.bool false,.bool false,.bool false,.bool false,.bool false,.bool false,.bool false,.bool false,.bool false,.bool false,.bool false,.bool false,.bool false,.bool false,.bool false,.bool false,.bool false,.bool false,.bool false,.bool false,.bool false,.bool false,.bool false,.bool false,.bool false,.bool false,.bool false,.bool false,.bool false,.bool false,.bool false,.bool false,.bool false,.bool false,.bool false,.bool false,.bool false,.bool false,.bool false,.bool false,.bool false,.bool false,.bool false,.bool false,.bool false,.bool false,.bool false,.bool false,.bool false,.bool false,.bool false,.bool false,.bool false,.bool false,.bool false,.bool false,.bool false,.bool false,.bool false,.bool false,.bool false,.bool false,.bool false,.bool false,.bool false,.bool false,.bool false,.bool false,.bool false,.bool false,.bool false,.bool false,.bool false,.bool false,.bool false,.bool false,.bool false,.bool false,.bool false,.bool false,.bool false,.bool false,.bool false,.bool false,.bool false,.bool false,.bool false,.bool false,.bool false,.bool false,.bool false,.bool false,.bool false,.bool false,.bool false,.bool false,.bool false,.bool false,.bool false,.bool false,.bool false,.bool false,.bool false,.bool false,.bool false,.bool false,.bool false,.bool false,.bool false,.bool false,.bool false,.bool false,.bool false,.bool false,.bool false,.bool false,.bool false,.bool false,.bool false,.bool false,.bool false,.bool false,.bool false,.bool false,.bool false,.bool false,.bool false,.bool false,.bool false,.bool false,.bool false,.bool false,.bool false,.bool false,.bool false,.bool false,.bool false,.bool false,.bool false,.bool false,.bool false,.bool false,.bool false,.bool false,.bool false,.bool false,.bool false,.bool false,.bool false,.bool false,.bool false,.bool false,.bool false,.bool false,.bool false,.bool false,.bool false,.bool false,.bool false,.bool false,.bool false,.bool false,.bool false,.bool false,.bool false,.bool false,.bool false,.bool false,.bool false,.bool false,.bool false,.bool false,.bool false,.bool false,.bool false,.bool false,.bool false,.bool false,.bool false,.bool false,.bool false,.bool false,.bool false,.bool false,.bool false,.bool false,.bool false,.bool false,.bool false,.bool false,.bool false,.bool false])⟩,
 some ⟨.other,1,0,none⟩,
 some ⟨.func,1,8,some (.nilFunc)⟩,
 some ⟨.func,1,8,some (.nilFunc)⟩,
 some ⟨.ptr 228,1,8,some (.pointer none)⟩,
 some ⟨.func,1,8,some (.nilFunc)⟩,
 some ⟨.func,1,8,some (.nilFunc)⟩,
 some ⟨.other,1,0,none⟩,
 some ⟨.func,1,8,some (.nilFunc)⟩,
 some ⟨.func,1,8,some (.nilFunc)⟩,
 some ⟨.func,1,8,some (.nilFunc)⟩,
 some ⟨.func,1,8,some (.nilFunc)⟩,
 some ⟨.arr 20 183,20,160,some (.agg #[.int .u64 0,.int .u64 0,.int .u64 0,.int .u64 0,.int .u64 0,.int .u64 0,.int .u64 0,.int .u64 0,.int .u64 0,.int .u64 0,.int .u64 0,.int .u64 0,.int .u64 0,.int .u64 0,.int .u64 0,.int .u64 0,.int .u64 0,.int .u64 0,.int .u64 0,.int .u64 0])⟩,
 some ⟨.int .u32,1,4,some (.int .u32 0)⟩,
 some ⟨.arr 65 5,65,65,some (.agg #[.int .u8 0,.int .u8 0,.int .u8 0,.int .u8 0,.int .u8 0,.int .u8 0,.int .u8 0,.int .u8 0,.int .u8 0,.int .u8 0,.int .u8 0,.int .u8 0,.int .u8 0,.int .u8 0,.int .u8 0,.int .u8 0,.int .u8 0,.int .u8 0,.int .u8 0,.int .u8 0,.int .u8 0,.int .u8 0,.int .u8 0,.int .u8 0,.int .u8 0,.int .u8 0,.int .u8 0,.int .u8 0,.int .u8 0,.int .u8 0,.int .u8 0,.int .u8 0,.int .u8 0,.int .u8 0,.int .u8 0,.int .u8 0,.int .u8 0,.int .u8 0,.int .u8 0,.int .u8 0,.int .u8 0,.int .u8 0,.int .u8 0,.int .u8 0,.int .u8 0,.int .u8 0,.int .u8 0,.int .u8 0,.int .u8 0,.int .u8 0,.int .u8 0,.int .u8 0,.int .u8 0,.int .u8 0,.int .u8 0,.int .u8 0,.int .u8 0,.int .u8 0,.int .u8 0,.int .u8 0,.int .u8 0,.int .u8 0,.int .u8 0,.int .u8 0,.int .u8 0])⟩,
 some ⟨.func,1,8,some (.nilFunc)⟩,
 some ⟨.func,1,8,some (.nilFunc)⟩,
 some ⟨.other,1,0,none⟩,
 some ⟨.func,1,8,some (.nilFunc)⟩,
 some ⟨.slice 267,1,24,some (.slice none 0 0)⟩,
 some ⟨.other,1,0,none⟩,
 some ⟨.func,1,8,some (.nilFunc)⟩,
 some ⟨.func,1,8,some (.nilFunc)⟩,
 some ⟨.func,1,8,some (.nilFunc)⟩,
 some ⟨.func,1,8,some (.nilFunc)⟩,
 some ⟨.int .i64,1,8,some (.int .i64 0)⟩,
 some ⟨.other,1,0,none⟩,
 some ⟨.func,1,8,some (.nilFunc)⟩,
 some ⟨.ptr 272,1,8,some (.pointer none)⟩,
 some ⟨.func,1,8,some (.nilFunc)⟩,
 some ⟨.func,1,8,some (.nilFunc)⟩,
 some ⟨.func,1,8,some (.nilFunc)⟩,
 some ⟨.other,1,0,none⟩,
 some ⟨.func,1,8,some (.nilFunc)⟩,
 some ⟨.func,1,8,some (.nilFunc)⟩,
 some ⟨.func,1,8,some (.nilFunc)⟩,
 some ⟨.func,1,8,some (.nilFunc)⟩,
 some ⟨.func,1,8,some (.nilFunc)⟩,
 some ⟨.struct [(0,1,0),(1,1,0),(2,1,0)],3,40,some (.agg #[.int .u8 0,.slice none 0 0,.int .i64 0])⟩,
 some ⟨.struct [(0,1,0),(1,1,0),(2,1,0)],3,40,some (.agg #[.int .u8 0,.slice none 0 0,.int .i64 0])⟩,
 some ⟨.func,1,8,some (.nilFunc)⟩,
 some ⟨.func,1,8,some (.nilFunc)⟩,
 some ⟨.func,1,8,some (.nilFunc)⟩,
 some ⟨.struct [(0,1,0),(1,1,0),(2,1,0)],3,48,some (.agg #[.string ⟨#[]⟩,.string ⟨#[]⟩,.nilIface])⟩,
 some ⟨.struct [(0,1,0),(1,1,0),(2,1,0)],3,48,some (.agg #[.string ⟨#[]⟩,.string ⟨#[]⟩,.nilIface])⟩,
 some ⟨.func,1,8,some (.nilFunc)⟩,
 some ⟨.arr 256 5,256,256,some (.agg #[.int .u8 0,.int .u8 0,.int .u8 0,.int .u8 0,.int .u8 0,.int .u8 0,.int .u8 0,.int .u8 0,.int .u8 0,.int .u8 0,.int .u8 0,.int .u8 0,.int .u8 0,.int .u8 0,.int .u8 0,.int .u8 0,.int .u8 0,.int .u8 0,.int .u8 0,.int .u8 0,.int .u8 0,.int .u8 0,.int .u8 0,.int .u8 0,.int .u8 0,.int .u8 0,.int .u8 0,.int .u8 0,.int .u8 0,.int .u8 0,.int .u8 0,.int .u8 0,.int .u8 0,.int .u8 0,.int .u8 0,.int .u8 0,.int .u8 0,.int .u8 0,.int .u8 0,.int .u8 0,.int .u8 0,.int .u8 0,.int .u8 0,.int .u8 0,.int .u8 0,.int .u8 0,.int .u8 0,.int .u8 0,.int .u8 0,.int .u8 0,.int .u8 0,.int .u8 0,.int .u8 0,.int .u8 0,.int .u8 0,.int .u8 0,.int .u8 0,.int .u8 0,.int .u8 0,.int .u8 0,.int .u8 0,.int .u8 0,.int .u8 0,.int .u8 0,.int .u8 0,.int .u8 0,.int .u8 0,.int .u8 0,.int .u8 0,.int .u8 0,.int .u8 0,.int .u8 0,.int .u8 0,.int .u8 0,.int .u8 0,.int .u8 0,.int .u8 0,.int .u8 0,.int .u8 0,.int .u8 0,.int .u8 0,.int .u8 0,.int .u8 0,.int .u8 0,.int .u8 0,.int .u8 0,.int .u8 0,.int .u8 0,.int .u8 0,.int .u8 0,.int .u8 0,.int .u8 0,.int .u8 0,.int .u8 0,.int .u8 0,.int .u8 0,.int .u8 0,.int .u8 0,.int .u8 0,.int .u8 0,.int .u8 0,.int .u8 0,.int .u8 0,.int .u8 0,.int .u8 0,.int .u8 0,.int .u8 0,.int .u8 0,.int .u8 0,.int .u8 0,.int .u8 0,.int .u8 0,.int .u8 0,.int .u8 0,.int .u8 0,.int .u8 0,.int .u8 0,.int .u8 0,.int .u8 0,.int .u8 0,.int .u8 0,.int .u8 0,.int .u8 0,.int .u8 0,.int .u8 0,.int .u8 0,.int .u8 0,.int .u8 0,.int .u8 0,.int .u8 0,.int .u8 0,.int .u8 0,.int .u8 0,.int .u8 0,.int .u8 0,.int .u8 0,.int .u8 0,.int .u8 0,.int .u8 0,.int .u8 0,.int .u8 0,.int .u8 0,.int .u8 0,.int .u8 0,.int .u8 0,.int .u8 0,.int .u8 0,.int .u8 0,.int .u8 0,.int .u8 0,.int .u8 0,.int .u8 0,.int .u8 0,.int .u8 0,.int .u8 0,.int .u8 0,.int .u8 0,.int .u8 0,.int .u8 0,.int .u8 0,.int .u8 0,.int .u8 0,.int .u8 0,.int .u8 0,.int .u8 0,.int .u8 0,.int .u8 0,.int .u8 0,.int .u8 0,.int .u8 0,.int .u8 0,.int .u8 0,.int .u8 0,.int .u8 0,.int .u8 0,.int .u8 0,.int .u8 0,.int .u8 0,.int .u8 0,.int .u8 0,.int .u8 0,.int .u8 0,.int .u8 0,.int .u8 0,.int .u8 0,.int .u8 0,.int .u8 0,.int .u8 0,.int .u8 0,.int .u8 0,.int .u8 0,.int .u8 0,.int .u8 0,.int .u8 0,.int .u8 0,.int .u8 0,.int .u8 0,.int .u8 0,.int .u8 0,.int .u8 0,.int .u8 0,.int .u8 0,.int .u8 0,.int .u8 0,.int .u8 0,.int .u8 0,.int .u8 0,.int .u8 0,.int .u8 0,.int .u8 0,.int .u8 0,.int .u8 0,.int .u8 0,.int .u8 0,.int .u8 0,.int .u8 0,.int .u8 0,.int .u8 0,.int .u8 0,.int .u8 0,.int .u8 0,.int .u8 0,.int .u8 0,.int .u8 0,.int .u8 0,.int .u8 0,.int .u8 0,.int .u8 0,.int .u8 0,.int .u8 0,.int .u8 0,.int .u8 0,.int .u8 0,.int .u8 0,.int .u8 0,.int .u8 0,.int .u8 0,.int .u8 0,.int .u8 0,.int .u8 0,.int .u8 0,.int .u8 0,.int .u8 0,.int .u8 0,.int .u8 0,.int .u8 0,.int .u8 0,.int .u8 0,.int .u8 0,.int .u8 0,.int .u8 0,.int .u8 0,.int .u8 0,.int .u8 0,.int .u8 0,.int .u8 0])⟩,
 some ⟨.struct [(0,1,0),(1,1,0)],2,2,some (.agg #[.int .u8 0,.int .u8 0])⟩,
 some ⟨.struct [(0,1,0),(1,1,0)],2,2,some (.agg #[.int .u8 0,.int .u8 0])⟩,
 some ⟨.arr 16 276,32,32,some (.agg #[.int .u8 0,.int .u8 0,.int .u8 0,.int .u8 0,.int .u8 0,.int .u8 0,.int .u8 0,.int .u8 0,.int .u8 0,.int .u8 0,.int .u8 0,.int .u8 0,.int .u8 0,.int .u8 0,.int .u8 0,.int .u8 0,.int .u8 0,.int .u8 0,.int .u8 0,.int .u8 0,.int .u8 0,.int .u8 0,.int .u8 0,.int .u8 0,.int .u8 0,.int .u8 0,.int .u8 0,.int .u8 0,.int .u8 0,.int .u8 0,.int .u8 0,.int .u8 0])⟩,
 some ⟨.other,1,0,none⟩,
 some ⟨.func,1,8,some (.nilFunc)⟩,
 some ⟨.arr 32 5,32,32,some (.agg #[.int .u8 0,.int .u8 0,.int .u8 0,.int .u8 0,.int .u8 0,.int .u8 0,.int .u8 0,.int .u8 0,.int .u8 0,.int .u8 0,.int .u8 0,.int .u8 0,.int .u8 0,.int .u8 0,.int .u8 0,.int .u8 0,.int .u8 0,.int .u8 0,.int .u8 0,.int .u8 0,.int .u8 0,.int .u8 0,.int .u8 0,.int .u8 0,.int .u8 0,.int .u8 0,.int .u8 0,.int .u8 0,.int .u8 0,.int .u8 0,.int .u8 0,.int .u8 0])⟩,
 some ⟨.arr 64 5,64,64,some (.agg #[.int .u8 0,.int .u8 0,.int .u8 0,.int .u8 0,.int .u8 0,.int .u8 0,.int .u8 0,.int .u8 0,.int .u8 0,.int .u8 0,.int .u8 0,.int .u8 0,.int .u8 0,.int .u8 0,.int .u8 0,.int .u8 0,.int .u8 0,.int .u8 0,.int .u8 0,.int .u8 0,.int .u8 0,.int .u8 0,.int .u8 0,.int .u8 0,.int .u8 0,.int .u8 0,.int .u8 0,.int .u8 0,.int .u8 0,.int .u8 0,.int .u8 0,.int .u8 0,.int .u8 0,.int .u8 0,.int .u8 0,.int .u8 0,.int .u8 0,.int .u8 0,.int .u8 0,.int .u8 0,.int .u8 0,.int .u8 0,.int .u8 0,.int .u8 0,.int .u8 0,.int .u8 0,.int .u8 0,.int .u8 0,.int .u8 0,.int .u8 0,.int .u8 0,.int .u8 0,.int .u8 0,.int .u8 0,.int .u8 0,.int .u8 0,.int .u8 0,.int .u8 0,.int .u8 0,.int .u8 0,.int .u8 0,.int .u8 0,.int .u8 0,.int .u8 0])⟩,
 some ⟨.func,1,8,some (.nilFunc)⟩,
 some ⟨.func,1,8,some (.nilFunc)⟩,
 some ⟨.ptr 286,1,8,some (.pointer none)⟩,
 some ⟨.struct [(0,4,1),(4,1,0),(5,1,0),(6,1,0),(7,1,0)],8,112,some (.agg #[.int .i64 0,.int .i64 0,.int .i64 0,.slice none 0 0,.slice none 0 0,.int .i64 0,.slice none 0 0,.int .i64 0])⟩,
 some ⟨.struct [(0,4,1),(4,1,0),(5,1,0),(6,1,0),(7,1,0)],8,112,some (.agg #[.int .i64 0,.int .i64 0,.int .i64 0,.slice none 0 0,.slice none 0 0,.int .i64 0,.slice none 0 0,.int .i64 0])⟩,
 some ⟨.func,1,8,some (.nilFunc)⟩,
 some ⟨.func,1,8,some (.nilFunc)⟩,
 some ⟨.ptr 291,1,8,some (.pointer none)⟩,
 some ⟨.struct [(0,1,0)],1,16,some (.agg #[.string ⟨#[]⟩])⟩,
 some ⟨.struct [(0,1,0)],1,16,some (.agg #[.string ⟨#[]⟩])⟩,
 some ⟨.func,1,8,some (.nilFunc)⟩,
 some ⟨.func,1,8,some (.nilFunc)⟩,
 some ⟨.struct [(0,1,0),(1,1,0),(2,1,0),(3,1,0)],4,40,some (.agg #[.pointer none,.pointer none,.pointer none,.string ⟨#[]⟩])⟩,
 some ⟨.struct [(0,1,0),(1,1,0),(2,1,0),(3,1,0)],4,40,some (.agg #[.pointer none,.pointer none,.pointer none,.string ⟨#[]⟩])⟩,
 some ⟨.arr 0 16,0,0,some (.agg #[])⟩,
 some ⟨.struct [(0,0,1)],0,0,some (.agg #[])⟩,
 some ⟨.struct [(0,0,1)],0,0,some (.agg #[])⟩,
 some ⟨.func,1,8,some (.nilFunc)⟩,
 some ⟨.int .u8,1,1,some (.int .u8 0)⟩,
 some ⟨.int .u8,1,1,some (.int .u8 0)⟩,
 some ⟨.func,1,8,some (.nilFunc)⟩,
 some ⟨.int .i32,1,4,some (.int .i32 0)⟩,
 some ⟨.int .i32,1,4,some (.int .i32 0)⟩,
 some ⟨.struct [(0,1,0),(1,1,0),(2,1,0),(3,1,0),(4,1,0),(5,1,0),(6,1,0),(7,1,0),(8,1,0),(9,1,0),(10,1,0)],11,48,some (.agg #[.int .u64 0,.int .u64 0,.int .u32 0,.int .u8 0,.int .u8 0,.int .u8 0,.int .u8 0,.nilFunc,.pointer none,.int .i32 0,.int .i32 0])⟩,
 some ⟨.struct [(0,1,0),(1,1,0),(2,1,0),(3,1,0),(4,1,0),(5,1,0),(6,1,0),(7,1,0),(8,1,0),(9,1,0),(10,1,0)],11,48,some (.agg #[.int .u64 0,.int .u64 0,.int .u32 0,.int .u8 0,.int .u8 0,.int .u8 0,.int .u8 0,.nilFunc,.pointer none,.int .i32 0,.int .i32 0])⟩,
 some ⟨.slice 313,1,24,some (.slice none 0 0)⟩,
 some ⟨.other,1,0,none⟩,
 some ⟨.func,1,8,some (.nilFunc)⟩,
 some ⟨.ptr 316,1,8,some (.pointer none)⟩,
 some ⟨.func,1,8,some (.nilFunc)⟩,
 some ⟨.struct [(0,1,0),(1,1,0)],2,32,some (.agg #[.slice none 0 0,.int .i64 0])⟩,
 some ⟨.struct [(0,1,0),(1,1,0)],2,32,some (.agg #[.slice none 0 0,.int .i64 0])⟩,
 some ⟨.func,1,8,some (.nilFunc)⟩,
 some ⟨.struct [(0,4,1),(4,1,0),(5,1,0),(6,1,0),(7,1,0)],8,128,some (.agg #[.int .i64 0,.int .i64 0,.int .i64 0,.slice none 0 0,.slice none 0 0,.int .i64 0,.slice none 0 0,.slice none 0 0])⟩,
 some ⟨.struct [(0,4,1),(4,1,0),(5,1,0),(6,1,0),(7,1,0)],8,128,some (.agg #[.int .i64 0,.int .i64 0,.int .i64 0,.slice none 0 0,.slice none 0 0,.int .i64 0,.slice none 0 0,.slice none 0 0])⟩,
 some ⟨.other,1,0,none⟩,
 some ⟨.func,1,8,some (.nilFunc)⟩,
 some ⟨.ptr 323,1,8,some (.pointer none)⟩,
 some ⟨.func,1,8,some (.nilFunc)⟩,
 some ⟨.ptr 332,1,8,some (.pointer none)⟩,
 some ⟨.struct [(0,4,1),(4,1,0),(5,1,0),(6,1,0),(7,1,0),(8,1,0),(9,1,0),(10,1,0)],11,152,some (.agg #[.int .i64 0,.int .i64 0,.int .i64 0,.slice none 0 0,.slice none 0 0,.int .i64 0,.slice none 0 0,.slice none 0 0,.pointer none,.int .i64 0,.int .i64 0])⟩,
 some ⟨.struct [(0,4,1),(4,1,0),(5,1,0),(6,1,0),(7,1,0),(8,1,0),(9,1,0),(10,1,0)],11,152,some (.agg #[.int .i64 0,.int .i64 0,.int .i64 0,.slice none 0 0,.slice none 0 0,.int .i64 0,.slice none 0 0,.slice none 0 0,.pointer none,.int .i64 0,.int .i64 0])⟩,
 some ⟨.func,1,8,some (.nilFunc)⟩,
 some ⟨.other,1,0,none⟩,
 some ⟨.func,1,8,some (.nilFunc)⟩,
 some ⟨.func,1,8,some (.nilFunc)⟩,
 some ⟨.ptr 344,1,8,some (.pointer none)⟩,
 some ⟨.struct [(0,1,0),(1,1,0)],2,32,some (.agg #[.pointer none,.slice none 0 0])⟩,
 some ⟨.struct [(0,1,0),(1,1,0)],2,32,some (.agg #[.pointer none,.slice none 0 0])⟩,
 some ⟨.struct [(0,2,1),(2,1,0)],3,40,some (.agg #[.pointer none,.slice none 0 0,.int .i64 0])⟩,
 some ⟨.struct [(0,2,1),(2,1,0)],3,40,some (.agg #[.pointer none,.slice none 0 0,.int .i64 0])⟩,
 some ⟨.other,1,0,none⟩,
 some ⟨.func,1,8,some (.nilFunc)⟩,
 some ⟨.func,1,8,some (.nilFunc)⟩,
 some ⟨.other,1,0,none⟩,
 some ⟨.func,1,8,some (.nilFunc)⟩,
 some ⟨.func,1,8,some (.nilFunc)⟩,
 some ⟨.func,1,8,some (.nilFunc)⟩,
 some ⟨.func,1,8,some (.nilFunc)⟩,
 some ⟨.func,1,8,some (.nilFunc)⟩,
 some ⟨.slice 347,1,24,some (.slice none 0 0)⟩,
 some ⟨.struct [(0,1,0),(1,1,0)],2,32,some (.agg #[.slice none 0 0,.int .i64 0])⟩,
 some ⟨.struct [(0,1,0),(1,1,0)],2,32,some (.agg #[.slice none 0 0,.int .i64 0])⟩,
 some ⟨.arr 2 3,2,16,some (.agg #[.int .i64 0,.int .i64 0])⟩,
 some ⟨.struct [(0,1,0),(1,2,1),(3,1,0),(4,1,0),(5,1,0),(6,1,0),(7,1,0),(8,1,0)],9,72,some (.agg #[.int .i64 0,.int .i64 0,.int .i64 0,.int .i64 0,.int .i64 0,.int .i64 0,.int .i64 0,.int .i64 0,.bool false])⟩,
 some ⟨.struct [(0,1,0),(1,2,1),(3,1,0),(4,1,0),(5,1,0),(6,1,0),(7,1,0),(8,1,0)],9,72,some (.agg #[.int .i64 0,.int .i64 0,.int .i64 0,.int .i64 0,.int .i64 0,.int .i64 0,.int .i64 0,.int .i64 0,.bool false])⟩,
 some ⟨.func,1,8,some (.nilFunc)⟩,
 some ⟨.other,1,0,none⟩,
 some ⟨.func,1,8,some (.nilFunc)⟩,
 some ⟨.ptr 330,1,8,some (.pointer none)⟩,
 some ⟨.func,1,8,some (.nilFunc)⟩,
 some ⟨.func,1,8,some (.nilFunc)⟩,
 some ⟨.func,1,8,some (.nilFunc)⟩,
 some ⟨.func,1,8,some (.nilFunc)⟩,
 some ⟨.func,1,8,some (.nilFunc)⟩,
 some ⟨.func,1,8,some (.nilFunc)⟩,
 some ⟨.ptr 347,1,8,some (.pointer none)⟩]
def tab (t:Nat):Option TI:=match zg[t]? with
 |some i=>i
 |none=>none
theorem x0:(List.range 359).map (fun t=>zg[t]?)=(List.range 359).map (fun t=>some (vV Tryz.prog t)):=by kernel_rfl
set_option maxRecDepth 100000 in
theorem yp {t:Nat} {i:TI} (h:tab t=some i):vV Tryz.prog t=some i:=by
 unfold tab at h
 split at h
 ·rename_i j hj
  have hl:t<359:=(List.getElem?_eq_some_iff.1 hj).1
  have:=List.map_eq_map_iff.1 x0 t (List.mem_range.2 hl)
  rw[hj] at this
  rw[← Option.some.inj this,h]
 ·cases h
theorem cZ {t:Nat} {i:TI} (h:tab t=some i):∃ d j,Tryz.prog.underlying t=some d∧Tryz.prog.info? t=some j∧jP Tryz.prog d=i.uk∧j.size=i.size∧j.bytes=i.bytes∧
 (∀ z,i.zero=some z→j.zero=some z):=by
 have:=yp h
 unfold vV at this
 split at this
 ·rename_i d hd
  split at this
  ·rename_i j hj
   simp only[Option.some.injEq] at this
   subst this
   refine⟨d,j,hd,hj,rfl,rfl,rfl,fun z hz=>?_⟩
   simp only at hz
   split at hz
   ·cases hz
   ·exact hz
  ·cases this
 ·cases this
end Go.Proofs.YtpbmihpjgjbndaaGreatDoor
/- The engine, its third part: what operations without memory answer. -/
set_option linter.unusedVariables false
set_option linter.unusedSimpArgs false
namespace Go.Proofs.YtpbmihpjgjbndaaGreatDoor
open Go.RowKit
noncomputable def dI (p:Prop):Bool:=@decide p (Classical.propDecidable p)
theorem vS (p:Prop) [h:Decidable p]:dI p=decide p:=by unfold dI;cases h<;>simp[*]
theorem az {p:Prop} (h:p):dI p=true:=by unfold dI;exact @decide_eq_true p (Classical.propDecidable p) h
theorem aA {p:Prop} (h:¬ p):dI p=false:=by unfold dI;exact @decide_eq_false p (Classical.propDecidable p) h
theorem oJ {p:Prop} (h:dI p=true):p:=by unfold dI at h;exact @of_decide_eq_true p (Classical.propDecidable p) h
theorem jI {p:Prop} (h:dI p=false):¬ p:=by unfold dI at h;exact @of_decide_eq_false p (Classical.propDecidable p) h
theorem d8 {p q:Prop} (h:p↔q):dI p=dI q:=by rw[propext h]
noncomputable def yT (op:BinOp) (k:IntKind) (a b:Int):Option Value:=
 match op with
 |.add=>some (.int k (k.wrap (a+b)))
 |.sub=>some (.int k (k.wrap (a-b)))
 |.mul=>some (.int k (k.wrap (a*b)))
 |.eql=>some (.bool (dI (a=b)))
 |.neq=>some (.bool (dI (a≠b)))
 |.lss=>some (.bool (dI (a<b)))
 |.leq=>some (.bool (dI (a≤b)))
 |.gtr=>some (.bool (dI (b<a)))
 |.geq=>some (.bool (dI (b≤a)))
 |.and=>some (.int k (k.wrap (BitVec.ofInt k.bits a&&& BitVec.ofInt k.bits b).toNat))
 |.or=>some (.int k (k.wrap (BitVec.ofInt k.bits a|||BitVec.ofInt k.bits b).toNat))
 |.xor=>some (.int k (k.wrap (BitVec.ofInt k.bits a^^^BitVec.ofInt k.bits b).toNat))
 |_=>none
def rN (op:BinOp) (k:IntKind) (a:Int) (y:Operand):Option Value:=
 match y with
 |.const (.int _ c)=>match c with
  |.ofNat m=>match op with
   |.shl=>some (.int k (k.wrap (a*2^(min m k.bits))))
   |.shr=>some (.int k (a.fdiv (2^(min m k.bits))))
   |.quo=>match m with
    |0=>none
    |_+1=>some (.int k (k.wrap (a.tdiv c)))
   |.rem=>match m with
    |0=>none
    |_+1=>some (.int k (a.tmod c))
   |_=>none
  |.negSucc _=>none
 |_=>none
def vO (op:BinOp) (p q:Bool):Option Value:=
 match op with
 |.eql=>some (.bool (p==q))
 |.neq=>some (.bool (p !=q))
 |_=>none
def yq (op:BinOp) (a b:ByteArray):Option Value:=
 match op with
 |.eql=>some (.bool (a.toList==b.toList))
 |.neq=>some (.bool (!(a.toList==b.toList)))
 |_=>none
def zw (t:Nat):Bool:=match tab t with|some ⟨.bool,_,_,_⟩=>true|_=>false
def zb (t:Nat):Bool:=match tab t with|some ⟨.iface,_,_,_⟩=>true|_=>false
def tD (op:BinOp) (b:Bool):Option Value:=
 match op with
 |.eql=>some (.bool b)
 |.neq=>some (.bool (!b))
 |_=>none
noncomputable def lV (E:Env):Op→Option Value
 |.move x=>val E x
 |.assign x=>val E x
 |.pick c a b=>match val E c with
  |some (.bool true)=>val E a
  |some (.bool false)=>val E b
  |_=>none
 |.binOp op t x y _=>match val E x,val E y with
  |some (.int k a),some (.int k' b)=>if k=k' then (match yT op k a b with
   |some v=>some v
   |none=>rN op k a y) else none
  |some (.bool p),some (.bool q)=>match zw t with|true=>vO op p q|false=>none
  |some (.string p),some (.string q)=>yq op p q
  |some (.iface _ _),some .nilIface=>match zb t with|true=>tD op false|false=>none
  |some .nilIface,some .nilIface=>match y with
   |.const _=>match zb t with|true=>tD op true|false=>none
   |_=>none
  |_,_=>none
 |.unOp op _ x=>match op,val E x with
  |.not,some (.bool b)=>some (.bool (!b))
  |.neg,some (.int k n)=>some (.int k (k.wrap (0-n)))
  |_,_=>none
 |.convert s d x=>match tab s,tab d,val E x with
  |some ⟨.int _,_,_,_⟩,some ⟨.int k,_,_,_⟩,some (.int _ n)=>some (.int k (k.wrap n))
  |_,_,_=>none
 |.fieldAddr t x f=>match tab t,val E x with
  |some ⟨.struct fs,_,_,_⟩,some (.pointer (some ⟨b,o,none⟩))=>match fs[f]? with
   |some (off,_+1,_)=>some (.pointer (some ⟨b,o+off,none⟩))
   |_=>none
  |_,_=>none
 |.field t x f=>match tab t,val E x with
  |some ⟨.struct fs,_,_,_⟩,some (.agg cs)=>match fs[f]? with
   |some (off,_+1,0)=>cs.toList[off]?
   |some (off,sz+1,1)=>some (.agg (cs.extract off (off+(sz+1))))
   |_=>none
  |_,_=>none
 |.extract x i=>match val E x with
  |some (.tuple vs)=>vs.toList[i]?
  |_=>none
 |.nilCheck x=>match val E x with
  |some (.pointer (some p))=>some (.pointer (some p))
  |_=>none
 |.makeFunc fn first cap=>match vals E first.toList,vals E cap.toList with
  |some f,some c=>some (.func fn f.toArray c.toArray)
  |_,_=>none
 |.makeInterface t x=>match tab t,val E x with
  |some ⟨.iface,_,_,_⟩,_=>none
  |some _,some v=>some (.iface t v)
  |_,_=>none
 |.typeAssert x _ t ok=>match tab t,val E x with
  |some ⟨.iface,_,_,_⟩,_=>none
  |some _,some (.iface u v)=>match Nat.beq u t with
   |true=>match ok with
    |true=>some (.tuple #[v,.bool true])
    |false=>some v
   |false=>none
  |_,_=>none
 |.call ⟨.builtin .len,xs,ts⟩=>match xs.toList,ts.toList with
  |[x],[t]=>match tab t,val E x with
   |some ⟨.slice _,_,_,_⟩,some (.slice _ n _)=>some (.int .i64 n)
   |some ⟨.string,_,_,_⟩,some (.string s)=>some (.int .i64 s.size)
   |_,_=>none
  |_,_=>none
 |.call ⟨.builtin .min,xs,_⟩=>match xs.toList with
  |[x,y]=>match val E x,val E y with
   |some (.int k a),some (.int _ b)=>some (.int k (if b<a then b else a))
   |_,_=>none
  |_=>none
 |.call ⟨.builtin .max,xs,_⟩=>match xs.toList with
  |[x,y]=>match val E x,val E y with
   |some (.int k a),some (.int _ b)=>some (.int k (if b>a then b else a))
   |_,_=>none
  |_=>none
 |_=>none
theorem gG (op:BinOp) (t:TypeId) (x y:Operand) (k l:IntKind) (a b:Int) (P:Program) (w:World):
 (eqGuard op t x y (.int k a) (.int l b)).run P w=.ok () w:=by
 cases op<;>simp[eqGuard]
theorem oR (op:BinOp) (t:TypeId) (x y:Operand) (a b:Bool) (P:Program) (w:World):
 (eqGuard op t x y (.bool a) (.bool b)).run P w=.ok () w:=by
 cases op<;>simp[eqGuard]
theorem lM (op:BinOp) (t:TypeId) (x y:Operand) (a b:ByteArray) (P:Program) (w:World):
 (eqGuard op t x y (.string a) (.string b)).run P w=.ok () w:=by
 cases op<;>simp[eqGuard]
theorem yL (a b:Int):(a==b)=decide (a=b):=by
 by_cases h:a=b<;>simp[h]
theorem yx (a b:Int):(a !=b)=decide (a≠b):=by
 by_cases h:a=b<;>simp[h]
theorem vp {op:BinOp} {k:IntKind} {a b:Int} {v:Value} (h:yT op k a b=some v) (t:TypeId) (P:Program) (w:World):
 (binOp op t (.int k a) (.int k b)).run P w=.ok v w:=by
 cases op<;>simp only[yT,Option.some.injEq,reduceCtorEq] at h<;>subst h<;>simp[binOp,Op.intArith,Op.intCmp,Op.intBits,yL,yx,vS]
theorem rP {op:BinOp} {k:IntKind} {a b:Int} {y:Operand} {v:Value} {E:Env} (h:rN op k a y=some v) (hy:val E y=some (.int k b)) (t:TypeId) (P:Program) (w:World):
 (binOp op t (.int k a) (.int k b)).run P w=.ok v w:=by
 unfold rN at h
 split at h
 ·rename_i k2 c
  simp only[val,Option.some.injEq,Value.int.injEq] at hy
  obtain⟨rfl,rfl⟩:=hy
  split at h
  ·rename_i m
   have hm:¬ (Int.ofNat m)<0:=Int.not_lt.2 (Int.natCast_nonneg m)
   split at h
   ·simp only[Option.some.injEq] at h;subst h
    simp only[binOp,Op.shift]
    rw[if_neg hm];rfl
   ·simp only[Option.some.injEq] at h;subst h
    simp only[binOp,Op.shift]
    rw[if_neg hm];rfl
   ·split at h
    ·cases h
    ·rename_i q
     simp only[Option.some.injEq] at h;subst h
     have h0:¬ (Int.ofNat (q+1))=0:=by simp;omega
     simp only[binOp,Op.intDiv,ne_eq,not_true,if_false]
     rw[if_neg h0];rfl
   ·split at h
    ·cases h
    ·rename_i q
     simp only[Option.some.injEq] at h;subst h
     have h0:¬ (Int.ofNat (q+1))=0:=by simp;omega
     simp only[binOp,Op.intDiv,ne_eq,not_true,if_false]
     rw[if_neg h0];rfl
   ·cases h
  ·cases h
 ·cases h
theorem x5 {t:Nat} (h:zw t=true):Tryz.prog.underlying t=some .bool:=by
 unfold zw at h
 split at h
 ·rename_i z s b hz hh
  obtain⟨d,j,hd,_,hu,_⟩:=cZ hh
  rw[hd]
  cases d<;>simp[jP] at hu ⊢
 ·cases h
theorem rD {t:Nat} (hu:Tryz.prog.underlying t=some .bool) (a b:Bool) (w:World):(Op.equal t (.bool a) (.bool b)).run Tryz.prog w=.ok (a==b) w:=by
 have h:∀ d:Nat,(Op.equalIn (d+1) t (.bool a) (.bool b)).run Tryz.prog w=.ok (a==b) w:=fun d=>by
  simp[Op.equalIn,run_underlying hu]
 exact h 9999
theorem ux {op:BinOp} {a b:Bool} {v:Value} (h:vO op a b=some v) {t:TypeId} (ht:zw t=true) (w:World):
 (binOp op t (.bool a) (.bool b)).run Tryz.prog w=.ok v w:=by
 have hu:=rD (x5 ht) a b w
 cases op<;>simp only[vO,Option.some.injEq,reduceCtorEq] at h<;>subst h
 ·have:binOp .eql t (.bool a) (.bool b)=(do pure (.bool (← Op.equal t (.bool a) (.bool b)))):=rfl
  rw[this];simp[hu]
 ·have:binOp .neq t (.bool a) (.bool b)=(do pure (.bool (!(← Op.equal t (.bool a) (.bool b))))):=rfl
  rw[this];simp[hu,bne]
theorem vq {op:BinOp} {a b:ByteArray} {v:Value} (h:yq op a b=some v) (t:TypeId) (P:Program) (w:World):
 (binOp op t (.string a) (.string b)).run P w=.ok v w:=by
 cases op<;>simp only[yq,Option.some.injEq,reduceCtorEq] at h<;>subst h<;>simp[binOp,Op.stringOp]
theorem tu {t:Nat} (h:zb t=true):∃ ms,Tryz.prog.underlying t=some (.interface ms):=by
 unfold zb at h
 split at h
 ·rename_i z s b hz hh
  obtain⟨d,j,hd,_,hu,_⟩:=cZ hh
  rw[hd]
  cases d<;>simp[jP] at hu
  exact⟨_,rfl⟩
 ·cases h
theorem uC {op:BinOp} {v u:Value} {d t:Nat} (h:tD op false=some v) (ht:zb t=true) (w:World):(binOp op t (.iface d u) .nilIface).run Tryz.prog w=.ok v w:=by
 obtain⟨ms,hu⟩:=tu ht
 have he:(Op.equal t (.iface d u) .nilIface).run Tryz.prog w=.ok false w:=by
  have h:∀ k:Nat,(Op.equalIn (k+1) t (.iface d u) .nilIface).run Tryz.prog w=.ok false w:=fun k=>by
   simp[Op.equalIn,run_underlying hu]
  exact h 9999
 cases op<;>simp only[tD,Option.some.injEq,reduceCtorEq] at h<;>subst h
 ·have:binOp .eql t (.iface d u) .nilIface=(do pure (.bool (← Op.equal t (.iface d u) .nilIface))):=rfl
  rw[this];simp[he]
 ·have:binOp .neq t (.iface d u) .nilIface=(do pure (.bool (!(← Op.equal t (.iface d u) .nilIface)))):=rfl
  rw[this];simp[he]
theorem tS {op:BinOp} {v:Value} {t:Nat} (h:tD op true=some v) (ht:zb t=true) (w:World):(binOp op t .nilIface .nilIface).run Tryz.prog w=.ok v w:=by
 obtain⟨ms,hu⟩:=tu ht
 have he:(Op.equal t .nilIface .nilIface).run Tryz.prog w=.ok true w:=by
  have h:∀ k:Nat,(Op.equalIn (k+1) t .nilIface .nilIface).run Tryz.prog w=.ok true w:=fun k=>by
   simp[Op.equalIn,run_underlying hu]
  exact h 9999
 cases op<;>simp only[tD,Option.some.injEq,reduceCtorEq] at h<;>subst h
 ·have:binOp .eql t .nilIface .nilIface=(do pure (.bool (← Op.equal t .nilIface .nilIface))):=rfl
  rw[this];simp[he]
 ·have:binOp .neq t .nilIface .nilIface=(do pure (.bool (!(← Op.equal t .nilIface .nilIface)))):=rfl
  rw[this];simp[he]
theorem rh (op:BinOp) (t:TypeId) (x y:Operand) (d:TypeId) (u:Value) (P:Program) (w:World):(eqGuard op t x y (.iface d u) .nilIface).run P w=.ok () w:=by
 cases op<;>simp[eqGuard]
theorem rK (op:BinOp) (t:TypeId) (x:Operand) (c:Value) (P:Program) (w:World):(eqGuard op t x (.const c) .nilIface .nilIface).run P w=.ok () w:=by
 cases op<;>cases x<;>simp[eqGuard]
theorem db {t e s b:Nat} {z:Option Value} (h:tab t=some ⟨.slice e,s,b,z⟩):Tryz.prog.underlying t=some (.slice e):=by
 obtain⟨d,j,hd,_,hu,_⟩:=cZ h
 rw[hd];cases d<;>simp[jP] at hu ⊢;exact hu
theorem sI {t s b:Nat} {k:IntKind} {z:Option Value} (h:tab t=some ⟨.int k,s,b,z⟩):Tryz.prog.underlying t=some (.int k):=by
 obtain⟨d,j,hd,_,hu,_⟩:=cZ h
 rw[hd];cases d<;>simp[jP] at hu ⊢;exact hu
theorem mZ {t s b:Nat} {z:Option Value} (h:tab t=some ⟨.string,s,b,z⟩):Tryz.prog.underlying t=some .string:=by
 obtain⟨d,j,hd,_,hu,_⟩:=cZ h
 rw[hd];cases d<;>simp[jP] at hu ⊢
theorem iy {t s b:Nat} {fs:List (Nat×Nat×Nat)} {z:Option Value} (h:tab t=some ⟨.struct fs,s,b,z⟩):
 ∃ F:Array Field,Tryz.prog.underlying t=some (.struct F)∧fs=F.toList.map fun f=>(f.offset,Tryz.prog.cellsOf f.type,jM Tryz.prog f.type):=by
 obtain⟨d,j,hd,_,hu,_⟩:=cZ h
 cases d<;>simp[jP] at hu
 rename_i F
 exact⟨F,hd,hu.symm⟩
theorem lC {t s b f off sz:Nat} {ag:Nat} {fs:List (Nat×Nat×Nat)} {z:Option Value} (h:tab t=some ⟨.struct fs,s,b,z⟩) (hf:fs[f]?=some (off,sz,ag)):
 ∃ (F:Array Field) (g:Field),Tryz.prog.underlying t=some (.struct F)∧F[f]?=some g∧g.offset=off∧Tryz.prog.cellsOf g.type=sz∧jM Tryz.prog g.type=ag:=by
 obtain⟨F,hF,rfl⟩:=iy h
 simp only[List.getElem?_map,Option.map_eq_some_iff,Array.getElem?_toList,Prod.mk.injEq] at hf
 obtain⟨g,hg,h1,h2,h3⟩:=hf
 exact⟨F,g,hF,hg,h1,h2,h3⟩
theorem mv {t:TypeId} (h:jM Tryz.prog t=0) (w:World):(isAgg t).run Tryz.prog w=.ok false w:=by
 unfold jM at h
 split at h
 ·cases h
 ·cases h
 ·rename_i d h1 h2 hd
  unfold isAgg
  rw[Sem.run_bind,run_underlying hd]
  cases d<;>first|rfl|exact absurd rfl (h1 _)|exact absurd rfl (h2 _ _)
 ·cases h
theorem kZ {t:TypeId} (h:jM Tryz.prog t=1) (w:World):(isAgg t).run Tryz.prog w=.ok true w:=by
 unfold jM at h
 split at h
 ·rename_i hd;unfold isAgg;rw[Sem.run_bind,run_underlying hd];rfl
 ·rename_i hd;unfold isAgg;rw[Sem.run_bind,run_underlying hd];rfl
 ·cases h
 ·cases h
theorem r8 {t sz:Nat} (h:Tryz.prog.cellsOf t=sz+1) (w:World):(sizeOf t).run Tryz.prog w=.ok (sz+1) w:=by
 unfold Program.cellsOf at h
 cases hi:Tryz.prog.info? t with
 |none=>simp[hi] at h
 |some i=>simp[hi] at h;simp[sizeOf,typeInfo,hi,h]
theorem yd {op:Op} {v:Value} {E:Env} (h:lV E op=some v) {a:Act} {n:mh} (hA:eh n a E) (dst:Option Tmp) (ty:TypeId) (pos:String) (after:Array Edge)
 (guard:Option (Nat×Bool)) (w:World):(execOp a.eval { dst,op,type:=ty,pos,after,guard }).run Tryz.prog w=.ok (.value v) w:=by
 cases op with
 |move x=>simp only[lV] at h;simp[execOp,hA.val h]
 |assign x=>simp only[lV] at h;simp[execOp,hA.val h]
 |pick c x y=>
  simp only[lV] at h
  split at h
  ·rename_i hc;simp[execOp,hA.val h,hA.val hc,asBool]
  ·rename_i hc;simp[execOp,hA.val h,hA.val hc,asBool]
  ·cases h
 |binOp op t x y yt=>
  simp only[lV] at h
  split at h
  ·rename_i k p k' q hx hy
   split at h
   ·rename_i hk;subst hk
    split at h
    ·rename_i u hu
     simp only[Option.some.injEq] at h;subst h
     simp[execOp,hA.val hx,hA.val hy,gG,vp hu]
    ·simp[execOp,hA.val hx,hA.val hy,gG,rP h hy]
   ·cases h
  ·rename_i p q hx hy
   split at h
   ·rename_i hb;simp[execOp,hA.val hx,hA.val hy,oR,ux h hb]
   ·cases h
  ·rename_i p q hx hy;simp[execOp,hA.val hx,hA.val hy,lM,vq h]
  ·rename_i d u hx hy
   split at h
   ·rename_i ht;simp[execOp,hA.val hx,hA.val hy,rh,uC h ht]
   ·cases h
  ·rename_i hx hy
   split at h
   ·rename_i c
    split at h
    ·rename_i ht
     have hy':=hA.val hy
     simp[execOp,hA.val hx,hy',rK,tS h ht]
    ·cases h
   ·cases h
  ·cases h
 |unOp op t x=>
  simp only[lV] at h
  split at h
  ·rename_i b hx;simp only[Option.some.injEq] at h;subst h;simp[execOp,hA.val hx,Op.unary]
  ·rename_i k m hx;simp only[Option.some.injEq] at h;subst h;simp[execOp,hA.val hx,Op.unary,Op.intArith]
  ·cases h
 |convert s d x=>
  simp only[lV] at h
  split at h
  ·rename_i k1 _ _ _ k2 _ _ _ k3 m hs hd hx
   simp only[Option.some.injEq] at h;subst h
   simp[execOp,hA.val hx,convert,run_underlying (sI hs),run_underlying (sI hd),Conv.intToInt]
  ·cases h
 |fieldAddr t x f=>
  simp only[lV] at h
  split at h
  ·rename_i fs _ _ _ b o ht hx
   split at h
   ·rename_i off sz _ hf
    simp only[Option.some.injEq] at h;subst h
    obtain⟨F,g,hF,hg,h1,h2,_⟩:=lC ht hf
    have hi:∃ i,Tryz.prog.info? g.type=some i∧i.size=sz+1:=by
     unfold Program.cellsOf at h2
     cases hi:Tryz.prog.info? g.type with
     |none=>simp[hi] at h2
     |some i=>exact⟨i,rfl,by simpa [hi] using h2⟩
    obtain⟨i,hi,hs⟩:=hi
    subst h1
    have:Addr.add ⟨b,o,none⟩ g.offset=⟨b,o+g.offset,none⟩:=by
     unfold Addr.add;split<;>simp_all
    simp[execOp,hA.val hx,Instr.fieldAt,run_underlying hF,hg,Instr.sureAddr,fieldPlace,sizeOf,typeInfo,hi,hs,this]
   ·cases h
  ·cases h
 |field t x f=>
  simp only[lV] at h
  split at h
  ·rename_i fs _ _ _ cs ht hx
   split at h
   ·rename_i off sz _ hf
    obtain⟨F,g,hF,hg,h1,h2,h3⟩:=lC ht hf
    subst h1
    simp[execOp,hA.val hx,Instr.field,run_underlying hF,hg,asAgg,part,mv h3,Array.getElem?_toList▸h]
   ·rename_i off sz hf
    obtain⟨F,g,hF,hg,h1,h2,h3⟩:=lC ht hf
    subst h1
    simp only[Option.some.injEq] at h;subst h
    simp[execOp,hA.val hx,Instr.field,run_underlying hF,hg,asAgg,part,kZ h3,r8 h2]
   ·cases h
  ·cases h
 |extract x i=>
  simp only[lV] at h
  split at h
  ·rename_i vs hx;simp[execOp,hA.val hx,Instr.extract,Array.getElem?_toList▸h]
  ·cases h
 |makeFunc fn first cap=>
  simp only[lV] at h
  split at h
  ·rename_i f c hf hc
   simp only[Option.some.injEq] at h;subst h
   have e1:=hA.vals _ _ hf
   have e2:=hA.vals _ _ hc
   have e3:first.map a.eval=f.toArray:=by rw[← e1];exact Array.ext' (by simp)
   have e4:cap.map a.eval=c.toArray:=by rw[← e2];exact Array.ext' (by simp)
   simp[execOp,Instr.makeFunc,e3,e4]
  ·cases h
 |nilCheck x=>
  simp only[lV] at h
  split at h
  ·rename_i p hx
   simp only[Option.some.injEq] at h;subst h;simp[execOp,hA.val hx]
  ·cases h
 |makeInterface t x=>
  simp only[lV] at h
  split at h
  ·cases h
  ·rename_i i u hn ht hx
   simp only[Option.some.injEq] at h;subst h
   obtain⟨d,j,hd,_,hu,_⟩:=cZ ht
   have:∀ ms,d≠.interface ms:=by
    rintro ms rfl
    obtain⟨uk,s1,s2,z⟩:=i
    simp[jP] at hu
    subst hu
    exact hn _ _ _ rfl
   have hr:(Instr.makeInterface t u).run Tryz.prog w=.ok (.iface t u) w:=by
    unfold Instr.makeInterface
    rw[Sem.run_bind,run_underlying hd]
    cases d<;>first|rfl|exact absurd rfl (this _)
   simp[execOp,hA.val hx,hr]
  ·cases h
 |typeAssert x xt t ok=>
  simp only[lV] at h
  split at h
  ·cases h
  ·rename_i i u v hn ht hx
   split at h
   ·rename_i hb
    obtain rfl:=Nat.eq_of_beq_eq_true hb
    obtain⟨d,j,hd,_,hu,_⟩:=cZ ht
    have hni:∀ ms,d≠.interface ms:=by
     rintro ms rfl
     obtain⟨uk,s1,s2,z⟩:=i
     simp[jP] at hu
     subst hu
     exact hn _ _ _ rfl
    have hr:∀ ok:Bool,(Instr.typeAssert (.iface u v) xt u ok).run Tryz.prog w=.ok (if ok then .tuple #[v,.bool true] else v) w:=by
     intro ok
     unfold Instr.typeAssert
     simp only[Sem.run_bind,run_underlying hd,Result.andThen_ok]
     cases d<;>first|exact absurd rfl (hni _)|(simp)
    split at h
    ·simp only[Option.some.injEq] at h;subst h;simp[execOp,hA.val hx,hr]
    ·simp only[Option.some.injEq] at h;subst h;simp[execOp,hA.val hx,hr]
   ·cases h
  ·cases h
 |call c=>
  obtain⟨callee,xs,ts⟩:=c
  cases callee with
  |value f=>simp[lV] at h
  |invoke r m=>simp[lV] at h
  |builtin b=>
   cases b with
   |len=>
    simp only[lV] at h
    split at h
    ·rename_i x t hxs hts
     have e1:xs=#[x]:=by cases xs;simp at hxs;simp[hxs]
     have e2:ts=#[t]:=by cases ts;simp at hts;simp[hts]
     subst e1;subst e2
     split at h
     ·rename_i ht hx
      simp only[Option.some.injEq] at h;subst h
      simp[execOp,resolve,invoke,builtin,Builtin.len_,hA.val hx,run_underlying (db ht),goInt]
     ·rename_i ht hx
      simp only[Option.some.injEq] at h;subst h
      simp[execOp,resolve,invoke,builtin,Builtin.len_,hA.val hx,run_underlying (mZ ht),goInt]
     ·cases h
    ·cases h
   |min=>
    simp only[lV] at h
    split at h
    ·rename_i x y hxs
     have e1:xs=#[x,y]:=by cases xs;simp at hxs;simp[hxs]
     subst e1
     split at h
     ·rename_i k p k' q hx hy
      simp only[Option.some.injEq] at h;subst h
      simp[execOp,resolve,invoke,builtin,Builtin.min_,Builtin.min2,hA.val hx,hA.val hy]
     ·cases h
    ·cases h
   |max=>
    simp only[lV] at h
    split at h
    ·rename_i x y hxs
     have e1:xs=#[x,y]:=by cases xs;simp at hxs;simp[hxs]
     subst e1
     split at h
     ·rename_i k p k' q hx hy
      simp only[Option.some.injEq] at h;subst h
      simp[execOp,resolve,invoke,builtin,Builtin.max_,Builtin.max2,hA.val hx,hA.val hy]
     ·cases h
    ·cases h
   |_=>simp[lV] at h
 |_=>simp[lV] at h
end Go.Proofs.YtpbmihpjgjbndaaGreatDoor
/- The engine, its fourth part: the judgement and its rules for code and for operations that leave memory alone. -/
set_option linter.unusedVariables false
set_option linter.unusedSimpArgs false
namespace Go.Proofs.YtpbmihpjgjbndaaGreatDoor
open Go.RowKit
structure Cx where
 w0:World
 M:List Nat
 n:mh
abbrev dl:=Exit→Env→Heap→Prop
def jO (X:Cx) (Q:dl):Exit→Act→World→Prop:=fun e a w=>∃ E H,eh X.n a E∧cm X.w0 X.M w H∧Q e E H
def J (X:Cx) (c:Code) (Q:dl) (E:Env) (H:Heap):Prop:=
 ∀ a w,eh X.n a E→cm X.w0 X.M w H→c.wp Tryz.prog (jO X Q) a w
def JL (X:Cx) (ops:List Oper) (l:List Oper) (Q:dl) (E:Env) (H:Heap):Prop:=
 ∀ a w,eh X.n a E→cm X.w0 X.M w H→wpList Tryz.prog ops.toArray (jO X Q) l a w
def qw (K:Env→Heap→Prop) (Q:dl):dl
 |.normal,E,H=>K E H
 |e,E,H=>Q e E H
def wE (id:Nat) (Q:dl):dl
 |.exit i,E,H=>if i=id then Q .normal E H else Q (.exit i) E H
 |e,E,H=>Q e E H
variable {X:Cx} {Q:dl} {E E':Env} {H:Heap}
theorem ad {x y:Code} (h:J X x (qw (fun E H=>J X y Q E H) Q) E H):J X (.seq x y) Q E H:=by
 intro a w hA hH
 refine wp_seq (wp_mono (h a w hA hH) ?_)
 rintro e a' w' ⟨E',H',hA',hH',hq⟩
 cases e with
 |normal=>exact hq a' w' hA' hH'
 |_=>exact⟨E',H',hA',hH',hq⟩
theorem av (h:Q .normal E H):J X .skip Q E H:=fun _ _ hA hH=>wp_skip ⟨E,H,hA,hH,h⟩
theorem aB (h:Q .ret E H):J X .ret Q E H:=fun _ _ hA hH=>wp_ret ⟨E,H,hA,hH,h⟩
theorem aV {i:Nat} (h:Q (.exit i) E H):J X (.exit i) Q E H:=fun _ _ hA hH=>wp_exit ⟨E,H,hA,hH,h⟩
theorem au {i:Nat} {c:Code} (h:J X c (wE i Q) E H):J X (.block i c) Q E H:=by
 intro a w hA hH
 refine wp_block (wp_mono (h a w hA hH) ?_)
 rintro e a' w' ⟨E',H',hA',hH',hq⟩
 cases e with
 |exit j=>
  simp only[Exit.inBlock]
  simp only[wE] at hq
  split
  ·rename_i e;rw[if_pos e] at hq;exact⟨E',H',hA',hH',hq⟩
  ·rename_i e;rw[if_neg e] at hq;exact⟨E',H',hA',hH',hq⟩
 |_=>exact⟨E',H',hA',hH',hq⟩
def known (c:Operand) (b:Bool) (E:Env):Env:=match c with
 |.tmp t=>(t,.bool b)::E
 |_=>E
theorem eh.known {n:mh} {a:Act} {c:Operand} {b:Bool} (hA:eh n a E) (hv:Proofs.YtpbmihpjgjbndaaGreatDoor.val E c=some (.bool b)):eh n a (Proofs.YtpbmihpjgjbndaaGreatDoor.known c b E):=by
 cases c with
 |tmp t=>
  refine⟨hA.size,hA.defers,fun u v hu=>?_⟩
  simp only[Proofs.YtpbmihpjgjbndaaGreatDoor.known,gI] at hu
  cases hb:Nat.beq t u with
  |true=>
   obtain rfl:=Nat.eq_of_beq_eq_true hb
   rw[hb] at hu
   simp only[cond_true,Option.some.injEq] at hu
   subst hu
   exact hA.get _ _ hv
  |false=>rw[hb] at hu;exact hA.get u v hu
 |_=>exact hA
theorem yM {c:Operand} {x y:Code} {b:Bool} (hv:val E c=some (.bool b)) (ht:b=true→J X x Q (known c true E) H) (hf:b=false→J X y Q (known c false E) H):
 J X (.cond c x y) Q E H:=by
 intro a w hA hH
 refine wp_cond (hA.val hv) ?_
 cases b with
 |true=>exact ht rfl a w (hA.known hv) hH
 |false=>exact hf rfl a w (hA.known hv) hH
theorem aC {c:Operand} {x y:Code} {p:Prop} (hv:val E c=some (.bool (dI p))) (ht:p→J X x Q (known c true E) H) (hf:¬ p→J X y Q (known c false E) H):
 J X (.cond c x y) Q E H:=yM hv (fun h=>ht (oJ h)) (fun h=>hf (jI h))
theorem bo {c:Operand} {x y:Code} (hv:val E c=some (.bool true)) (h:J X x Q E H):J X (.cond c x y) Q E H:=
 fun a w hA hH=>wp_cond_true (hA.val hv) (h a w hA hH)
theorem bI {c:Operand} {x y:Code} (hv:val E c=some (.bool false)) (h:J X y Q E H):J X (.cond c x y) Q E H:=
 fun a w hA hH=>wp_cond_false (hA.val hv) (h a w hA hH)
theorem y6 {c:Code} (F:Env) (K:Heap) (l:List Nat) (hF:kS E F) (hl:l.Nodup) (hK:bF H l=some K) (h:J X c Q F K):J X c Q E H:=
 fun a w hA hH=>h a w (hA.ents F hF) (hH.picks l hl hK)
theorem bq {σ:Type} {c:Code} (F:σ→Env) (K:σ→Heap) (I:σ→Prop) (μ:σ→Nat) (s:σ) (l:List Nat) (hF:kS E (F s)) (hl:l.Nodup) (hK:bF H l=some (K s)) (hI:I s)
 (round:∀ s,I s→J X c (qw (fun E' H'=>∃ s' l',kS E' (F s')∧l'.Nodup∧bF H' l'=some (K s')∧I s'∧μ s'<μ s) Q) (F s) (K s)):J X (.loop c) Q E H:=by
 intro a w hA hH
 refine wp_loop_ghost (fun k a w=>∃ s,k=μ s∧I s∧eh X.n a (F s)∧cm X.w0 X.M w (K s)) (μ s) ⟨s,rfl,hI,hA.ents _ hF,hH.picks l hl hK⟩ ?_
 rintro k a w ⟨s,rfl,hI,hA,hH⟩
 refine wp_mono (round s hI a w hA hH) ?_
 rintro e a' w' ⟨E',H',hA',hH',hq⟩
 cases e with
 |normal=>
  obtain⟨s',l',h1,h2,h3,h4,h5⟩:=hq
  exact⟨μ s',h5,s',rfl,h4,hA'.ents _ h1,hH'.picks l' h2 h3⟩
 |_=>exact⟨E',H',hA',hH',hq⟩
theorem aa {id:Nat} {l:List Oper} (h:JL X l l Q E H):J X (.region id l.toArray false) Q E H:=
 fun a w hA hH=>wp_region_lit (h a w hA hH)
theorem ai {ops:List Oper} (h:Q .normal E H):JL X ops [] Q E H:=fun _ _ hA hH=>⟨E,H,hA,hH,h⟩
theorem vm {c:Code} {Q':dl} (h:J X c Q E H) (hq:∀ e E H,Q e E H→Q' e E H):J X c Q' E H:=
 fun a w hA hH=>wp_mono (h a w hA hH) fun _ _ _ ⟨E,H,h1,h2,h3⟩=>⟨E,H,h1,h2,hq _ _ _ h3⟩
/-! ### Operations that leave memory alone -/
def zL (gs:List Nat) (j:Nat):Bool:=match gs with
 |[]=>false
 |i::l=>bif Nat.beq i 999 then true else bif Nat.beq i j then true else zL l j
def gd (ops:List Oper) (gs:List Nat) (E:Env):Option (Nat×Bool)→Option Bool
 |none=>some true
 |some (j,want)=>match zL gs j with
  |true=>match ops[j]? with
   |some oj=>match oj.dst with
    |some t=>match gI E t with
     |some (.bool b)=>some (b==want)
     |some (.tuple _)=>some false
     |_=>none
    |none=>none
   |none=>none
  |false=>none
def o7 (n:mh) (d:Option Nat) (v:Value) (E:Env):Option Env:=match d with
 |none=>some E
 |some d=>match Nat.blt d n.len with
  |true=>some ((d,v)::E)
  |false=>none
theorem eh.putE {n:mh} {a:Act} {d:Option Nat} {v:Value} (hA:eh n a E) (h:o7 n d v E=some E'):eh n (a.put d v) E':=by
 cases d with
 |none=>simp only[Proofs.YtpbmihpjgjbndaaGreatDoor.o7,Option.some.injEq] at h;subst h;exact hA
 |some d=>
  simp only[Proofs.YtpbmihpjgjbndaaGreatDoor.o7] at h
  split at h
  ·rename_i hb
   simp only[Option.some.injEq] at h;subst h
   exact hA.put (by simpa using hb) v
  ·cases h
theorem bQ {n:mh} {a:Act} {ops:List Oper} {gs:List Nat} {o:Oper} {b:Bool} (hA:eh n a E) (h:gd ops gs E o.guard=some b):
 Region.wanted o (yielded ops.toArray a.tmps)=b:=by
 unfold Region.wanted
 unfold gd at h
 split at h
 ·rename_i hg;simp only[Option.some.injEq] at h;subst h;simp[hg]
 ·rename_i j want hg
  simp only[hg]
  split at h
  ·split at h
   ·rename_i oj hoj
    split at h
    ·rename_i t ht
     split at h
     ·rename_i b' hb'
      simp only[Option.some.injEq] at h
      subst h
      have:=hA.get _ _ hb'
      have hy:yielded ops.toArray a.tmps j=some b':=by simp[yielded,hoj,ht,this]
      rw[hy]
      cases b'<;>cases want<;>rfl
     ·rename_i vs hb'
      simp only[Option.some.injEq] at h
      subst h
      have:=hA.get _ _ hb'
      have hy:yielded ops.toArray a.tmps j=none:=by simp[yielded,hoj,ht,this]
      rw[hy];rfl
     ·cases h
    ·cases h
   ·cases h
  ·cases h
def gW (X:Cx) (o:Oper) (E:Env) (H:Heap) (v:Value):Prop:=
 ∀ a w,eh X.n a E→cm X.w0 X.M w H→(execOp a.eval o).run Tryz.prog w=.ok (.value v) w
theorem g7 {o:Oper} {v:Value} (h:lV E o.op=some v):gW X o E H v:=fun _ w hA _=>yd h hA o.dst o.type o.pos o.after o.guard w
def iJ (n:mh) (ops:List Oper) (gs:List Nat) (E:Env) (o:Oper) (v:Value):Option Env:=match gd ops gs E o.guard with
 |some true=>o7 n o.dst v E
 |_=>none
theorem cP {n:mh} {ops:List Oper} {gs:List Nat} {o:Oper} {v:Value} (h:iJ n ops gs E o v=some E'):gd ops gs E o.guard=some true∧o7 n o.dst v E=some E':=by
 unfold iJ at h
 split at h
 ·rename_i hg;exact⟨hg,h⟩
 ·cases h
theorem ab {ops l:List Oper} {o:Oper} {v:Value} (gs:List Nat) (hv:gW X o E H v) (hb:iJ X.n ops gs E o v=some E') (h:JL X ops l Q E' H):JL X ops (o::l) Q E H:=by
 intro a w hA hH
 obtain⟨hg,hp⟩:=cP hb
 unfold wpList
 rw[if_pos (bQ hA hg)]
 left
 show o.upon _ a _ _ ((execOp a.eval o).run _ w)
 rw[hv a w hA hH]
 exact h _ _ (hA.putE hp) hH
theorem xC {ops l:List Oper} {o:Oper} (gs:List Nat) (hg:gd ops gs E o.guard=some false) (hp:o7 X.n o.dst undef E=some E') (h:JL X ops l Q E' H):JL X ops (o::l) Q E H:=by
 intro a w hA hH
 unfold wpList
 rw[if_neg (by rw[bQ hA hg];decide)]
 exact h _ _ (hA.putE hp) hH
noncomputable def xa (n:mh) (ops:List Oper) (gs:List Nat) (E:Env) (o:Oper):Option Env:=match gd ops gs E o.guard with
 |some true=>match lV E o.op with
  |some v=>o7 n o.dst v E
  |none=>none
 |some false=>o7 n o.dst undef E
 |none=>none
noncomputable def yl (n:mh) (ops:List Oper) (gs:List Nat) (E:Env):List Oper→Env×List Oper
 |[]=>(E,[])
 |o::l=>match xa n ops gs E o with
  |some E'=>yl n ops gs E' l
  |none=>(E,o::l)
theorem ak {ops l:List Oper} {o:Oper} {gs:List Nat} (he:xa X.n ops gs E o=some E') (h:JL X ops l Q E' H):JL X ops (o::l) Q E H:=by
 unfold xa at he
 split at he
 ·rename_i hg
  split at he
  ·rename_i v hv
   exact ab gs (g7 hv) (by unfold iJ;rw[hg];exact he) h
  ·cases he
 ·rename_i hg;exact xC gs hg he h
 ·cases he
theorem ah {ops l':List Oper} (gs:List Nat):∀ {l:List Oper} {E:Env},yl X.n ops gs E l=(E',l')→JL X ops l' Q E' H→JL X ops l Q E H
 |[],E,h,k=>by
  simp only[yl,Prod.mk.injEq] at h
  obtain⟨rfl,rfl⟩:=h
  exact k
 |o::l,E,h,k=>by
  unfold yl at h
  split at h
  ·rename_i E1 h1;exact ak h1 (ah gs h k)
  ·simp only[Prod.mk.injEq] at h
   obtain⟨rfl,rfl⟩:=h
   exact k
theorem ae {ops:List Oper} (gs:List Nat) {l:List Oper} (h:yl X.n ops gs E l=(E',[])) (k:Q .normal E' H):JL X ops l Q E H:=ah gs h (ai k)
theorem eh.set {n:mh} {a:Act} {t:Nat} {v v':Value} (hA:eh n a E) (hv:gI E t=some v) (e:v=v'):eh n a ((t,v')::E):=by
 subst e
 refine⟨hA.size,hA.defers,fun u x hu=>?_⟩
 simp only[gI] at hu
 cases hb:Nat.beq t u with
 |true=>
  obtain rfl:=Nat.eq_of_beq_eq_true hb
  rw[hb] at hu
  simp only[cond_true,Option.some.injEq] at hu
  subst hu
  exact hA.get _ _ hv
 |false=>rw[hb] at hu;exact hA.get u x hu
theorem aw {ops l:List Oper} (t:Nat) {v v':Value} (hv:gI E t=some v) (e:v=v') (h:JL X ops l Q ((t,v')::E) H):JL X ops l Q E H:=fun a w hA hH=>h a w (hA.set hv e) hH
theorem aP {c:Code} (t:Nat) {v v':Value} (hv:gI E t=some v) (e:v=v') (h:J X c Q ((t,v')::E) H):J X c Q E H:=fun a w hA hH=>h a w (hA.set hv e) hH
theorem d7 {x y:Code} (F:Env) (K:Heap) (h1:J X x (qw (fun E' H'=>∃ ix:List Nat,kS E' F∧ix.Nodup∧bF H' ix=some K) Q) E H) (h2:J X y Q F K):J X (.seq x y) Q E H:=by
 refine ad (vm h1 ?_)
 intro e E' H' hq
 cases e with
 |normal=>obtain⟨ix,h3,h4,h5⟩:=hq;exact y6 F K ix h3 h4 h5 h2
 |_=>exact hq
/-! ### Regions that draw their order -/
theorem uE:Tryz.prog.follows .mixedOrders=true:=by kernel_rfl
def JS (X:Cx) (ops:List Oper) (l:List Oper) (H:Heap) (K:Env→Prop) (E:Env):Prop:=
 ∀ a w,eh X.n a E→cm X.w0 X.M w H→wpStill Tryz.prog ops.toArray w (fun a'=>∃ E',eh X.n a' E'∧K E') l a
theorem sC {id:Nat} {l:List Oper} (k:Nat) (hB:Region.lexTailB .any l.toArray k=true) (h:JS X l (l.take k) H (fun E=>JL X l (l.drop k) Q E H) E):J X (.region id l.toArray true) Q E H:=by
 intro a w hA hH
 refine wp_region_still_tail k uE hB ?_
 have:=h a _ hA hH.drew
 refine (?_:∀ (Q1 Q2:Act→Prop),(∀ a,Q1 a→Q2 a)→∀ l a,wpStill Tryz.prog _ _ Q1 l a→wpStill Tryz.prog _ _ Q2 l a) _ _ ?_ _ a this
 ·intro Q1 Q2 hq l
  induction l with
  |nil=>exact fun a h=>hq a h
  |cons o l ih=>
   intro a h
   unfold wpStill at h ⊢
   split
   ·rename_i hw;rw[if_pos hw] at h;exact Oper.still_mono ih h
   ·rename_i hw;rw[if_neg hw] at h;exact ih _ h
 ·rintro a ⟨E',hA',hq⟩
  exact hq a _ hA' hH.drew
theorem wh {ops:List Oper} {K:Env→Prop} (h:K E):JS X ops [] H K E:=fun _ _ hA _=>⟨E,hA,h⟩
theorem eS {ops l:List Oper} {o:Oper} {v:Value} {K:Env→Prop} (gs:List Nat) (hv:gW X o E H v) (hb:iJ X.n ops gs E o v=some E') (h:JS X ops l H K E'):JS X ops (o::l) H K E:=by
 intro a w hA hH
 obtain⟨hg,hp⟩:=cP hb
 unfold wpStill
 rw[if_pos (bQ hA hg)]
 unfold Oper.still
 rw[hv a w hA hH]
 exact⟨rfl,h _ w (hA.putE hp) hH⟩
theorem yU {ops l:List Oper} {o:Oper} {gs:List Nat} {K:Env→Prop} (he:xa X.n ops gs E o=some E') (h:JS X ops l H K E'):JS X ops (o::l) H K E:=by
 unfold xa at he
 split at he
 ·rename_i hg
  split at he
  ·rename_i v hv
   exact eS gs (g7 hv) (by unfold iJ;rw[hg];exact he) h
  ·cases he
 ·rename_i hg
  intro a w hA hH
  unfold wpStill
  rw[if_neg (by rw[bQ hA hg];decide)]
  exact h _ w (hA.putE he) hH
 ·cases he
theorem jY {ops l':List Oper} {K:Env→Prop} (gs:List Nat):∀ {l:List Oper} {E:Env},yl X.n ops gs E l=(E',l')→JS X ops l' H K E'→JS X ops l H K E
 |[],E,h,k=>by
  simp only[yl,Prod.mk.injEq] at h
  obtain⟨rfl,rfl⟩:=h
  exact k
 |o::l,E,h,k=>by
  unfold yl at h
  split at h
  ·rename_i E1 h1;exact yU h1 (jY gs h k)
  ·simp only[Prod.mk.injEq] at h
   obtain⟨rfl,rfl⟩:=h
   exact k
/-! ### Functions -/
def kL:Nat→List Value→Env
 |_,[]=>[]
 |i,v::l=>(i,v)::kL (i+1) l
def m9 (E:Env):List ResultVar→Option (List Value)
 |[]=>some []
 |.tmp t::l=>match gI E t with
  |some v=>match m9 E l with
   |some vs=>some (v::vs)
   |none=>none
  |none=>none
 |_=>none
def iE:List Value→Value
 |[v]=>v
 |vs=>.tuple vs.toArray
def Fn (f:FuncId) (args:List Value) (M:List Nat) (H:Heap) (R:Value→Heap→Prop):Prop:=
 ∀ w,cm w M w H→Calls Tryz.prog f args.toArray w fun e w'=>∃ v H',e=.returned v∧cm w M w' H'∧R v H'
def zH (rs:List ResultVar) (R:Value→Heap→Prop):dl:=fun e E H=>match e with
 |.normal=>∃ vs,m9 E rs=some vs∧R (iE vs) H
 |.ret=>∃ vs,m9 E rs=some vs∧R (iE vs) H
 |_=>False
theorem mB:∀ (args:List Value) (i t:Nat) (v:Value),gI (kL i args) t=some v→i≤t∧args[t-i]?=some v
 |[],i,t,v,h=>by simp[kL,gI] at h
 |u::args,i,t,v,h=>by
  unfold kL gI at h
  cases hb:Nat.beq i t with
  |true=>
   obtain rfl:=Nat.eq_of_beq_eq_true hb
   rw[hb] at h
   simp only[cond_true,Option.some.injEq] at h
   subst h
   simp
  |false=>
   rw[hb] at h
   have ih:=mB args (i+1) t v h
   refine⟨by omega,?_⟩
   have:t-i=(t-(i+1))+1:=by omega
   rw[this,List.getElem?_cons_succ]
   exact ih.2
def jK (tmps:Array Value):ResultVar→Sem Value
 |.tmp t=>pure (tmps.getD t undef)
 |.cell addr t=>do loadVar t (← asAddr (tmps.getD addr undef))
theorem qb {a:Act} {n:mh} (hA:eh n a E):∀ (rs:List ResultVar) (vs:List Value),m9 E rs=some vs→∀ w,
 (rs.mapM (m:=Sem) (jK a.tmps)).run Tryz.prog w=.ok vs w
 |[],vs,h,w=>by simp[m9] at h;simp[h]
 |.tmp t::l,vs,h,w=>by
  unfold m9 at h
  split at h
  ·rename_i v hv
   split at h
   ·rename_i us hus
    simp only[Option.some.injEq] at h
    subst h
    have h1:=hA.get _ _ hv
    have h2:=qb hA l us hus w
    rw[List.mapM_cons]
    simp[jK,h2,Array.getD_eq_getD_getElem?,h1]
   ·cases h
  ·cases h
 |.cell a t::l,vs,h,w=>by simp[m9] at h
theorem gD {a:Act} {n:mh} (hA:eh n a E) {fn:Func} {vs:List Value} (h:m9 E fn.results.toList=some vs) (w:World):
 (results fn a.tmps).run Tryz.prog w=.ok (iE vs) w:=by
 have e:results fn a.tmps=(do let vs ← fn.results.mapM (jK a.tmps);pure (if h:vs.size=1 then vs[0] else .tuple vs)):=rfl
 rw[e,Array.mapM_eq_mapM_toList]
 simp only[map_eq_pure_bind,bind_assoc,pure_bind,Sem.run_bind,qb hA _ _ h w]
 show Result.ok (if h:vs.toArray.size=1 then vs.toArray[0] else Value.tuple vs.toArray) w=_
 congr 1
 match vs with
 |[]=>rfl
 |[v]=>rfl
 |u::v::l=>
  have:¬ (u::v::l).toArray.size=1:=by simp
  rw[dif_neg this]
  rfl
theorem ks {n:Nat} {args:List Value} (hn:Nat.ble args.length n=true):eh ⟨n,[]⟩ { tmps:=args.toArray++Array.replicate (n-args.toArray.size) undef,defers:=[] } (kL 0 args):=by
 have hn:=Nat.le_of_ble_eq_true hn
 refine⟨by simp;omega,rfl,fun t v hv=>?_⟩
 have:=(mB args 0 t v hv).2
 simp only[Nat.sub_zero] at this
 have hl:=(List.getElem?_eq_some_iff.1 this).1
 rw[Array.getElem?_append_left (by simpa using hl)]
 simpa using this
theorem aS {f:FuncId} {fn:Func} {c:Code} {args:List Value} {M:List Nat} {R:Value→Heap→Prop} (hf:Tryz.prog.funcs[f]?=some fn) (hb:fn.body=some c) (hn:Nat.ble args.length fn.ntmps=true)
 (h:∀ w0,J ⟨w0,M,⟨fn.ntmps,[]⟩⟩ c (zH fn.results.toList R) (kL 0 args) H):Fn f args M H R:=by
 intro w hH
 refine calls_of_wp hf hb ?_
 have hA:=ks (args:=args) hn
 refine wp_mono (h w _ w hA hH) ?_
 rintro e a w' ⟨E',H',hA',hH',hq⟩
 cases e with
 |normal=>
  obtain⟨vs,h1,h2⟩:=hq
  exact⟨hA'.defers,iE vs,gD hA' h1 w',iE vs,H',rfl,hH',h2⟩
 |ret=>
  obtain⟨vs,h1,h2⟩:=hq
  exact⟨hA'.defers,iE vs,gD hA' h1 w',iE vs,H',rfl,hH',h2⟩
 |_=>exact hq.elim
theorem Fn.mono {f:FuncId} {args:List Value} {M:List Nat} {R R':Value→Heap→Prop} (h:Fn f args M H R) (hr:∀ v H',R v H'→R' v H'):Fn f args M H R':=
 fun w hw=>(h w hw).mono fun _ _ ⟨v,H',h1,h2,h3⟩=>⟨v,H',h1,h2,hr _ _ h3⟩
end Go.Proofs.YtpbmihpjgjbndaaGreatDoor
/- The engine, its fifth part: memory and calls. -/
set_option linter.unusedVariables false
set_option linter.unusedSimpArgs false
namespace Go.Proofs.YtpbmihpjgjbndaaGreatDoor
open Go.RowKit
variable {X:Cx} {Q:dl} {E E':Env} {H:Heap}
/-! ### Loads -/
def dU (cs:List Value):Nat→Nat→Option (List Value)
 |_,0=>some []
 |i,n+1=>match cs[i]? with
  |some v=>match dU cs (i+1) n with
   |some l=>some (v::l)
   |none=>none
  |none=>none
def ew (t:Nat) (cs:List Value) (i:Nat):Option Value:=match tab t with
 |some ⟨.struct _,sz,_,_⟩=>match dU cs i sz with
  |some l=>some (.agg l.toArray)
  |none=>none
 |some ⟨.arr _ _,sz,_,_⟩=>match dU cs i sz with
  |some l=>some (.agg l.toArray)
  |none=>none
 |some ⟨_,1,_,_⟩=>cs[i]?
 |_=>none
theorem Addr.add_at (b o j:Nat):Addr.add ⟨b,o,none⟩ j=⟨b,o+j,none⟩:=by
 unfold Addr.add;split
 ·rename_i h;subst h;rfl
 ·rfl
theorem gR {w:World} {b o:Nat} {cs:List Value} (hc:∀ i v,cs[i]?=some v→w.cell? ⟨b,o+i,none⟩=some v):∀ (n i:Nat) (acc:Array Value) (l:List Value),dU cs i n=some l→
 (loadCellsFrom ⟨b,o,none⟩ i n acc).run Tryz.prog w=.ok (acc++l.toArray) w
 |0,i,acc,l,h=>by simp[dU] at h;subst h;simp[loadCellsFrom]
 |n+1,i,acc,l,h=>by
  unfold dU at h
  split at h
  ·rename_i v hv
   split at h
   ·rename_i l' hl'
    simp only[Option.some.injEq] at h
    subst h
    have:=hc i v hv
    have ih:=gR hc n (i+1) (acc.push v) l' hl'
    simp[loadCellsFrom,load,Sem.run,Addr.add_at,this,ih]
   ·cases h
  ·cases h
theorem ja {cs:List Value} {k:Nat}:∀ (n i:Nat) (l:List Value),dU cs (k+i) n=some l→dU (cs.drop k) i n=some l
 |0,i,l,h=>by simpa [dU] using h
 |n+1,i,l,h=>by
  unfold dU at h ⊢
  split at h
  ·rename_i v hv
   split at h
   ·rename_i l' hl'
    have:=ja (cs:=cs) (k:=k) n (i+1) l' (by rw[← Nat.add_assoc];exact hl')
    rw[List.getElem?_drop,hv]
    simp only[this]
    exact h
   ·cases h
  ·cases h
theorem nk {t:Nat} {i:TI} (h:tab t=some i) (h1:∀ fs,i.uk≠.struct fs) (h2:∀ n e,i.uk≠.arr n e):jM Tryz.prog t=0:=by
 obtain⟨d,j,hd,_,hu,_⟩:=cZ h
 unfold jM
 rw[hd]
 cases d<;>simp only[jP] at hu<;>first|rfl|exact absurd hu.symm (h1 _)|exact absurd hu.symm (h2 _ _)
theorem nz {t s b:Nat} {z:Option Value} {fs:List (Nat×Nat×Nat)} (h:tab t=some ⟨.struct fs,s,b,z⟩):jM Tryz.prog t=1:=by
 obtain⟨F,hF,_⟩:=iy h
 unfold jM;rw[hF]
theorem rj {t s b n e:Nat} {z:Option Value} (h:tab t=some ⟨.arr n e,s,b,z⟩):jM Tryz.prog t=1:=by
 obtain⟨d,j,hd,_,hu,_⟩:=cZ h
 unfold jM;rw[hd]
 cases d<;>simp[jP] at hu ⊢
theorem cA {t:Nat} {i:TI} (h:tab t=some i) (w:World):(sizeOf t).run Tryz.prog w=.ok i.size w:=by
 obtain⟨d,j,hd,hi,hu,hs,_⟩:=cZ h
 simp[sizeOf,typeInfo,hi,hs]
theorem lT {w:World} {b o t:Nat} {cs:List Value} {v:Value} (hc:∀ i v,cs[i]?=some v→w.cell? ⟨b,o+i,none⟩=some v) (h:ew t cs 0=some v):
 (loadVar t ⟨b,o,none⟩).run Tryz.prog w=.ok v w:=by
 unfold ew at h
 unfold loadVar
 split at h
 ·rename_i sz _ _ ht
  split at h
  ·rename_i l hl
   simp only[Option.some.injEq] at h;subst h
   simp[kZ (nz ht),cA ht,loadCells,gR hc _ _ _ _ hl]
  ·cases h
 ·rename_i sz _ _ ht
  split at h
  ·rename_i l hl
   simp only[Option.some.injEq] at h;subst h
   simp[kZ (rj ht),cA ht,loadCells,gR hc _ _ _ _ hl]
  ·cases h
 ·rename_i h1 h2 ht
  have:=hc 0 v h
  simp only[Nat.add_zero] at this
  have hn:=nk ht (fun fs e=>h1 fs e) (fun n e k=>h2 n e k)
  simp[mv hn,load,Sem.run,this]
 ·cases h
theorem r7 {t:Nat} {cs:List Value} {i:Nat} {v:Value} (h:ew t cs i=some v):ew t (cs.drop i) 0=some v:=by
 unfold ew at h ⊢
 split at h
 ·split at h
  ·rename_i l hl
   rw[ja (k:=i) _ 0 l hl]
   exact h
  ·cases h
 ·split at h
  ·rename_i l hl
   rw[ja (k:=i) _ 0 l hl]
   exact h
  ·cases h
 ·rw[List.getElem?_drop];simpa using h
 ·cases h
def aO.shows (c:aO) (b off:Nat) (cs:List Value):Prop:=∀ w,c.holds w→∀ i v,cs[i]?=some v→w.cell? ⟨b,off+i,none⟩=some v
theorem aL (b e:Nat) (cs:List Value) (fz:Nat×Nat):(aO.obj b (.cells cs.toArray e fz)).shows b 0 cs:=by
 intro w h i v hv
 have h':w.heap[b]?=some (.cells cs.toArray e fz):=h
 simp[World.cell?,h',hv]
theorem aq (b off:Nat) (vs:List Value):(aO.seg b off vs).shows b off vs:=fun _ h=>h
theorem bX {g e sz n cap:Nat} {xs:List Value}:(aO.own (.slice (some ⟨g,0,none⟩) n cap) e sz n xs).shows g 0 xs:=by
 intro w h i v hv
 have:=World.ownsRow.cells h (g:=g) rfl i v hv
 rw[Addr.add_at] at this
 exact this
theorem dD {o:Oper} {t b off i:Nat} {x:Operand} {c:aO} {cs:List Value} {v:Value} (k:Nat) (ho:o.op=.load t x) (hx:val E x=some (.pointer (some ⟨b,off+i,none⟩)))
 (hk:H[k]?=some c) (hc:c.shows b off cs) (hv:ew t cs i=some v):gW X o E H v:=by
 intro a w hA hH
 have h1:=hc w (hH.holds c (List.mem_of_getElem? hk))
 have h2:(loadVar t ⟨b,off+i,none⟩).run Tryz.prog w=.ok v w:=lT (cs:=cs.drop i) (fun j u hu=>by
  rw[List.getElem?_drop] at hu
  rw[Nat.add_assoc]
  exact h1 (i+j) u hu) (r7 hv)
 simp[execOp,ho,hA.val hx,Instr.loadAt,Instr.sureAddr,h2]
theorem af {o:Oper} {t b i e:Nat} {x:Operand} {cs:List Value} {v:Value} (k:Nat) (ho:o.op=.load t x) (hx:val E x=some (.pointer (some ⟨b,i,none⟩)))
 (hk:H[k]?=some (blk b e cs)) (hv:ew t cs i=some v):gW X o E H v:=
 dD k ho (by rw[Nat.zero_add];exact hx) hk (aL b e cs (0,0)) hv
theorem xH {o:Oper} {t b off i:Nat} {x:Operand} {vs:List Value} {v:Value} (k:Nat) (ho:o.op=.load t x) (hx:val E x=some (.pointer (some ⟨b,off+i,none⟩)))
 (hk:H[k]?=some (.seg b off vs)) (hv:ew t vs i=some v):gW X o E H v:=dD k ho hx hk (aq b off vs) hv
theorem aD {o:Oper} {t g i e sz n cap:Nat} {x:Operand} {xs:List Value} {v:Value} (k:Nat) (ho:o.op=.load t x) (hx:val E x=some (.pointer (some ⟨g,i,none⟩)))
 (hk:H[k]?=some (.own (.slice (some ⟨g,0,none⟩) n cap) e sz n xs)) (hv:ew t xs i=some v):gW X o E H v:=
 dD k ho (by rw[Nat.zero_add];exact hx) hk bX hv
/-! ### Places in a row -/
theorem jt {o:Oper} {t b off n c e sz by_ m:Nat} {x ix:Operand} {k:IntKind} {z:Option Value} {et:TI} (ho:o.op=.indexAddr t x ix) (hx:val E x=some (.slice (some ⟨b,off,none⟩) n c))
 (hi:val E ix=some (.int k (m:Int))) (ht:tab t=some ⟨.slice e,sz,by_,z⟩) (he:tab e=some et) (hm:m<n):gW X o E H (.pointer (some ⟨b,off+m*et.size,none⟩)):=by
 intro a w hA hH
 have h1:(0:Int)≤(m:Int)∧(m:Int)<(n:Int):=by omega
 simp[execOp,ho,hA.val hx,hA.val hi,Instr.indexAt,asIntOf,run_underlying (db ht),cA he,Addr.add_at,hm]
/-! ### New variables -/
theorem nF (w:World) (o:Obj) (k:Nat) (hk:k<w.heap.size):(w.alloc o).heap[k]?=w.heap[k]?:=Below.heap_alloc w o k hk
theorem cm.alloc {w0 w:World} {M:List Nat} (hH:cm w0 M w H) (o:Obj):cm w0 M (w.alloc o) (.obj w.heap.size o::H):=
 hH.grow rfl rfl rfl (by simp) (fun k hk=>nF w o k hk) (heap_alloc_new w o) (fun b hb=>by simp only[aO.at_,Option.some.injEq] at hb;omega)
theorem oD {F:Nat→Env} {f:Nat→Value} {ops l:List Oper} {o:Oper} {ob:Obj} (gs:List Nat)
 (hr:∀ a w,eh X.n a E→cm X.w0 X.M w H→(execOp a.eval o).run Tryz.prog w=.ok (.value (f w.heap.size)) (w.alloc ob))
 (hb:∀ b,iJ X.n ops gs E o (f b)=some (F b)) (h:∀ b,JL X ops l Q (F b) (.obj b ob::H)):JL X ops (o::l) Q E H:=by
 intro a w hA hH
 obtain⟨hg,hp⟩:=cP (hb w.heap.size)
 unfold wpList
 rw[if_pos (bQ hA hg)]
 left
 show o.upon _ a _ _ ((execOp a.eval o).run _ w)
 rw[hr a w hA hH]
 exact h w.heap.size _ _ (hA.putE hp) (hH.alloc ob)
theorem bw {F:Nat→Env} {ops l:List Oper} {o:Oper} {e:Nat} {x:Operand} {v:Value} {cs:List Value} (ho:o.op=.box e x) (hx:val E x=some v) (hc:v.cells=cs.toArray)
 (hb:∀ b,iJ X.n ops [] E o (.pointer (some ⟨b,0,none⟩))=some (F b)) (h:∀ b,JL X ops l Q (F b) (blk b e cs::H)):JL X ops (o::l) Q E H:=
 oD (f:=fun b=>.pointer (some ⟨b,0,none⟩)) [] (fun a w hA _=>by
  simp[execOp,ho,hA.val hx,Instr.box,newVar,newRow,newObj,hc,Sem.run,World.alloc_eq]) hb h
theorem ci {F:Nat→Env} {ops l:List Oper} {o:Oper} {e sz by_:Nat} {uk:UK} {v:Value} {cs:List Value} (ho:o.op=.alloc e) (ht:tab e=some ⟨uk,sz,by_,some v⟩) (hc:v.cells=cs.toArray)
 (hb:∀ b,iJ X.n ops [] E o (.pointer (some ⟨b,0,none⟩))=some (F b)) (h:∀ b,JL X ops l Q (F b) (blk b e cs::H)):JL X ops (o::l) Q E H:=
 oD (f:=fun b=>.pointer (some ⟨b,0,none⟩)) [] (fun a w hA _=>by
  obtain⟨d,j,_,hi,_,_,_,hz⟩:=cZ ht
  simp[execOp,ho,Instr.alloc,zeroValue,typeInfo,hi,hz v rfl,newVar,newRow,newObj,hc,Sem.run,World.alloc_eq]) hb h
/-! ### Stores -/
def one:List Value→Bool
 |[]=>true
 |v::l=>match v.oneCell' with
  |true=>one l
  |false=>false
def wr:List Value→Nat→List Value→List Value
 |cs,_,[]=>cs
 |cs,i,v::l=>wr (cs.set i v) (i+1) l
theorem lB:∀ (l cs:List Value) (i:Nat),(wr cs i l).length=cs.length
 |[],cs,i=>rfl
 |v::l,cs,i=>by unfold wr;rw[lB l];simp
theorem uq {w:World} {b e i:Nat} {cs:List Value} {v:Value} (hb:w.heap[b]?=some (.cells cs.toArray e (0,0))) (hi:i<cs.length) (hv:v.oneCell'=true):
 (store ⟨b,i,none⟩ v .plain).run Tryz.prog w=.ok () (w.setCell ⟨b,i,none⟩ v):=by
 have h1:w.cell? ⟨b,i,none⟩=some cs[i]:=by simp[World.cell?,hb,hi]
 have h2:w.frozen? ⟨b,i,none⟩=false:=by simp[World.frozen?,hb]
 rw[run_store _ _ _ _ _ hv,h1]
 simp[h2]
theorem si {w:World} {b e i:Nat} {cs:List Value} (v:Value) (hb:w.heap[b]?=some (.cells cs.toArray e (0,0))):
 (w.setCell ⟨b,i,none⟩ v).heap[b]?=some (.cells (cs.set i v).toArray e (0,0)):=by
 simp only[World.setCell,Array.getElem?_modify,if_true,hb,Option.map_some]
 simp
theorem dZ {b e o:Nat}:∀ (vs:List Value) (i:Nat) (w:World) (cs:List Value),w.heap[b]?=some (.cells cs.toArray e (0,0))→o+i+vs.length≤cs.length→one vs=true→
 ∃ w',(storeCells ⟨b,o,none⟩ vs i).run Tryz.prog w=.ok () w'∧w'.heap[b]?=some (.cells (wr cs (o+i) vs).toArray e (0,0))∧w'.os=w.os∧w'.tape=w.tape∧w'.output=w.output∧w'.heap.size=w.heap.size∧
   ∀ k,k≠b→w'.heap[k]?=w.heap[k]?
 |[],i,w,cs,hb,_,_=>⟨w,by simp[storeCells],by simpa [wr] using hb,rfl,rfl,rfl,rfl,fun _ _=>rfl⟩
 |v::vs,i,w,cs,hb,hl,h1=>by
  unfold one at h1
  split at h1
  ·rename_i hv
   simp only[List.length_cons] at hl
   have hs:=uq (v:=v) (i:=o+i) hb (by omega) hv
   obtain⟨w',h2,h3,h4,h5,h6,h7,h8⟩:=dZ (o:=o) vs (i+1) _ _ (si (i:=o+i) v hb) (by simp;omega) h1
   refine⟨w',?_,?_,h4,h5,h6,by rw[h7];simp[World.setCell],fun k hk=>(h8 k hk).trans (Below.heap_setCell w _ v k hk)⟩
   ·rw[storeCells,Addr.add_at,Sem.run_bind,hs];exact h2
   ·rw[wr,← Nat.add_assoc] at*;exact h3
  ·cases h1
def mI (t:Nat) (cs:List Value) (i:Nat) (vs:List Value):Option (List Value):=match tab t with
 |some ⟨_,sz,_,_⟩=>match Nat.beq vs.length sz with
  |true=>match Nat.ble (i+vs.length) cs.length with
   |true=>match one vs with
    |true=>some (wr cs i vs)
    |false=>none
   |false=>none
  |false=>none
 |none=>none
theorem oc {t i:Nat} {cs vs cs':List Value} (h:mI t cs i vs=some cs'):∃ j,tab t=some j∧j.size=vs.length∧i+vs.length≤cs.length∧one vs=true∧cs'=wr cs i vs:=by
 unfold mI at h
 split at h
 ·rename_i ht
  split at h
  ·rename_i h1
   split at h
   ·rename_i h2
    split at h
    ·rename_i h3
     simp only[Option.some.injEq] at h
     exact⟨_,ht,(Nat.eq_of_beq_eq_true h1).symm,Nat.le_of_ble_eq_true h2,h3,h.symm⟩
    ·cases h
   ·cases h
  ·cases h
 ·cases h
theorem pm {w:World} {b e o t:Nat} {cs cs':List Value} {v:Value} (hb:w.heap[b]?=some (.cells cs.toArray e (0,0))) (h:mI t cs o v.cells.toList=some cs'):
 ∃ w',(storeVar t ⟨b,o,none⟩ v).run Tryz.prog w=.ok () w'∧w'.heap[b]?=some (.cells cs'.toArray e (0,0))∧w'.os=w.os∧w'.tape=w.tape∧w'.output=w.output∧w'.heap.size=w.heap.size∧
   ∀ k,k≠b→w'.heap[k]?=w.heap[k]?:=by
 obtain⟨j,ht,hs,hl,h1,rfl⟩:=oc h
 obtain⟨w',h2,h3⟩:=dZ (o:=o) v.cells.toList 0 w cs hb (by simpa using hl) h1
 refine⟨w',?_,h3⟩
 have:v.cells.size=j.size:=by rw[hs];simp
 simp[storeVar,cA ht,this,h2]
theorem aX {ops l:List Oper} {o:Oper} {t b i e:Nat} {x y:Operand} {v:Value} {cs cs':List Value} (k:Nat) (ho:o.op=.store t x y) (hx:val E x=some (.pointer (some ⟨b,i,none⟩))) (hy:val E y=some v)
 (hk:H[k]?=some (blk b e cs)) (hw:mI t cs i v.cells.toList=some cs') (gs:List Nat) (hb:iJ X.n ops gs E o undef=some E') (h:JL X ops l Q E' (H.set k (blk b e cs'))):JL X ops (o::l) Q E H:=by
 intro a w hA hH
 obtain⟨hg,hp⟩:=cP hb
 unfold wpList
 rw[if_pos (bQ hA hg)]
 left
 obtain⟨w',h1,h2,h3,h4,h5,h6,h7⟩:=pm (hH.holds _ (List.mem_of_getElem? hk)) hw
 show o.upon _ a _ _ ((execOp a.eval o).run _ w)
 have:(execOp a.eval o).run Tryz.prog w=.ok .skip w':=by
  simp[execOp,ho,hA.val hx,hA.val hy,Instr.storeAt,Instr.sureAddr,h1]
 rw[this]
 refine h _ _ (hA.putE hp) (hH.step k hk h3 h4 h5 (by omega) (fun j _ hj=>h7 j (fun x=>hj (by rw[x];rfl))) h2 (fun b' hb'=>.inl hb'))
theorem lz {w w':World} {e sz n g cap i:Nat} {xs vs:List Value} (h:w.ownsRow 0 e sz (.slice (some ⟨g,0,none⟩) n cap) n xs) (hl:i+vs.length≤xs.length)
 (hw:∀ cs,w.heap[g]?=some (.cells cs e (0,0))→w'.heap[g]?=some (.cells (wr cs.toList i vs).toArray e (0,0))):
 w'.ownsRow 0 e sz (.slice (some ⟨g,0,none⟩) n cap) n (wr xs i vs):=by
 refine⟨by rw[lB];exact h.1,?_⟩
 rcases h.2 with ⟨h',_⟩|⟨g',cap',cur,h',h0,hg,h1,h2,h3,h4⟩
 ·simp at h'
 ·simp only[Value.slice.injEq,Option.some.injEq,Addr.mk.injEq,and_true,true_and] at h'
  obtain⟨rfl,rfl⟩:=h'
  refine .inr ⟨g,cap,_,rfl,h0,hw cur hg,h1,h2,by simp[lB,h3],?_⟩
  have key:∀ (vs cs:List Value) (i m:Nat),i+vs.length≤m→(wr cs i vs).take m=wr (cs.take m) i vs:=by
   intro vs
   induction vs with
   |nil=>intro cs i m _;rfl
   |cons v vs ih=>
    intro cs i m hm
    simp only[List.length_cons] at hm
    rw[wr,wr,ih _ _ _ (by omega),List.take_set]
  show (wr cur.toList i vs).take (n*sz)=_
  rw[key _ _ _ _ (by rw[← h.1];exact hl),h4]
theorem aQ {ops l:List Oper} {o:Oper} {t g i e sz n cap:Nat} {x y:Operand} {v:Value} {xs xs':List Value} (k:Nat) (ho:o.op=.store t x y) (hx:val E x=some (.pointer (some ⟨g,i,none⟩))) (hy:val E y=some v)
 (hk:H[k]?=some (.own (.slice (some ⟨g,0,none⟩) n cap) e sz n xs)) (hw:mI t xs i v.cells.toList=some xs') (gs:List Nat) (hb:iJ X.n ops gs E o undef=some E')
 (h:JL X ops l Q E' (H.set k (.own (.slice (some ⟨g,0,none⟩) n cap) e sz n xs'))):JL X ops (o::l) Q E H:=by
 intro a w hA hH
 obtain⟨hg,hp⟩:=cP hb
 unfold wpList
 rw[if_pos (bQ hA hg)]
 left
 have hown:w.ownsRow 0 e sz (.slice (some ⟨g,0,none⟩) n cap) n xs:=hH.holds _ (List.mem_of_getElem? hk)
 obtain⟨cur,hcur,hlen,htk⟩:∃ cur:Array Value,w.heap[g]?=some (.cells cur e (0,0))∧n*sz≤cur.size∧cur.toList.take (n*sz)=xs:=by
  rcases hown.2 with ⟨h',_⟩|⟨g',cap',cur,h',h0,hg,h1,h2,h3,h4⟩
  ·simp at h'
  ·simp only[Value.slice.injEq,Option.some.injEq,Addr.mk.injEq,and_true,true_and] at h'
   obtain⟨rfl,rfl⟩:=h'
   exact⟨cur,hg,by rw[h3];exact Nat.mul_le_mul_right _ h1,h4⟩
 obtain⟨j,ht,hs,hl,h1,rfl⟩:=oc hw
 have hcur':w.heap[g]?=some (.cells cur.toList.toArray e (0,0)):=hcur
 obtain⟨w',h2,h3,h4,h5,h6,h7,h8⟩:=dZ (o:=i) v.cells.toList 0 w cur.toList hcur' (by have:=hown.1;simp only[Array.length_toList] at*;omega) h1
 show o.upon _ a _ _ ((execOp a.eval o).run _ w)
 have hsz:v.cells.size=j.size:=by rw[hs];simp
 have:(execOp a.eval o).run Tryz.prog w=.ok .skip w':=by
  simp[execOp,ho,hA.val hx,hA.val hy,Instr.storeAt,Instr.sureAddr,storeVar,cA ht,hsz,h2]
 rw[this]
 refine h _ _ (hA.putE hp) (hH.step k hk h4 h5 h6 (by omega) (fun j _ hj=>h8 j (fun x=>hj (by rw[x];rfl))) ?_ (fun b' hb'=>.inl hb'))
 refine lz hown hl fun cs hcs=>?_
 rw[hcur] at hcs
 simp only[Option.some.injEq,Obj.cells.injEq,and_true] at hcs
 subst hcs
 exact h3
end Go.Proofs.YtpbmihpjgjbndaaGreatDoor
/- The engine, its sixth part: rows, and calls. -/
set_option linter.unusedVariables false
set_option linter.unusedSimpArgs false
namespace Go.Proofs.YtpbmihpjgjbndaaGreatDoor
open Go.RowKit
variable {X:Cx} {Q:dl} {E E':Env} {H:Heap}
/-! ### Rows that are made -/
theorem yb {ops l:List Oper} {o:Oper} {v:Value} {E':Env} {H':Heap} (gs:List Nat) (hb:iJ X.n ops gs E o v=some E')
 (hr:∀ a w,eh X.n a E→cm X.w0 X.M w H→∃ w',(execOp a.eval o).run Tryz.prog w=.ok (.value v) w'∧cm X.w0 X.M w' H') (h:JL X ops l Q E' H'):JL X ops (o::l) Q E H:=by
 intro a w hA hH
 obtain⟨hg,hp⟩:=cP hb
 unfold wpList
 rw[if_pos (bQ hA hg)]
 left
 obtain⟨w',h1,h2⟩:=hr a w hA hH
 show o.upon _ a _ _ ((execOp a.eval o).run _ w)
 rw[h1]
 exact h _ _ (hA.putE hp) h2
theorem oH {α:Type} {F:α→Env} {G:α→Heap} {f:α→Value} {ops l:List Oper} {o:Oper} (gs:List Nat) (hb:∀ x,iJ X.n ops gs E o (f x)=some (F x))
 (hr:∀ a w,eh X.n a E→cm X.w0 X.M w H→∃ x w',(execOp a.eval o).run Tryz.prog w=.ok (.value (f x)) w'∧cm X.w0 X.M w' (G x)) (h:∀ x,JL X ops l Q (F x) (G x)):JL X ops (o::l) Q E H:=by
 intro a w hA hH
 obtain⟨x,w',h1,h2⟩:=hr a w hA hH
 obtain⟨hg,hp⟩:=cP (hb x)
 unfold wpList
 rw[if_pos (bQ hA hg)]
 left
 show o.upon _ a _ _ ((execOp a.eval o).run _ w)
 rw[h1]
 exact h x _ _ (hA.putE hp) h2
theorem cm.addnil {w0 w:World} {M:List Nat} (hH:cm w0 M w H) (e sz:Nat):cm w0 M w (.own (.slice none 0 0) e sz 0 []::H):=
 hH.grow rfl rfl rfl (Nat.le_refl _) (fun _ _=>rfl) (World.ownsRow_nil w 0 e sz) (fun b hb=>by simp[aO.at_,Value.ownBlock] at hb)
theorem cC {c:Code} (e sz:Nat) (h:J X c Q E (.own (.slice none 0 0) e sz 0 []::H)):J X c Q E H:=fun a w hA hH=>h a w hA (hH.addnil e sz)
def made (z:List Value) (n:Nat):List Value:=(madeCells z.toArray n).toList
theorem gq (z:List Value) (n:Nat):(made z n).length=n:=by simp[made,size_madeCells]
theorem dn (v:Value) (n:Nat):made [v] n=List.replicate n v:=by
 apply List.ext_getElem
 ·simp[gq]
 ·intro i h1 h2
  simp[made,madeCells,Nat.mod_one]
theorem fG {t:Nat} {uk:UK} {sz by_:Nat} {v:Value} (h:tab t=some ⟨uk,sz,by_,some v⟩):∃ j,Tryz.prog.info? t=some j∧j.zero=some v∧j.size=sz∧j.bytes=by_:=by
 obtain⟨d,j,_,hi,_,h1,h2,hz⟩:=cZ h
 exact⟨j,hi,hz v rfl,h1,h2⟩
theorem dv {F:Nat→Env} {ops l:List Oper} {o:Oper} {t e sz by_ sz' by' n c:Nat} {x y:Operand} {k1 k2:IntKind} {uk:UK} {v:Value} {z:Option Value} {zs:List Value} (ho:o.op=.makeSlice t x y)
 (hx:val E x=some (.int k1 (n:Int))) (hy:val E y=some (.int k2 (c:Int))) (ht:tab t=some ⟨.slice e,sz',by',z⟩) (he:tab e=some ⟨uk,sz,by_,some v⟩) (hz:v.cells=zs.toArray)
 (hnc:n≤c) (hc:c*by_≤140737488355328) (hc2:c≤2147483648) (hb:∀ b,iJ X.n ops [] E o (.slice (some ⟨b,0,none⟩) n c)=some (F b))
 (h:∀ b,JL X ops l Q (F b) (.own (.slice (some ⟨b,0,none⟩) n c) e sz n (made zs (n*sz))::H)):JL X ops (o::l) Q E H:=by
 obtain⟨j,hi,hjz,hjs,hjb⟩:=fG he
 refine oH (f:=fun b=>.slice (some ⟨b,0,none⟩) n c) (G:=fun b=>.own (.slice (some ⟨b,0,none⟩) n c) e sz n (made zs (n*sz))::H) [] hb (fun a w hA hH=>?_) h
 have hbb:(j.bytes:Int)*(c:Int)≤281474976710656:=by
  have h2:((by_*c:Nat):Int)≤((140737488355328:Nat):Int):=Int.ofNat_le.2 (by rw[Nat.mul_comm];exact hc)
  rw[Int.natCast_mul] at h2
  rw[hjb]
  exact Int.le_trans h2 (by decide)
 have hr:=run_make (P:=Tryz.prog) w t e j v (db ht) hi hjz k1 k2 (n:Int) (c:Int) (by omega) (by omega) hbb (by omega)
 simp only[Int.toNat_natCast] at hr
 refine⟨w.heap.size,w.alloc (.cells (madeCells v.cells (c*j.size)) e),by simp[execOp,ho,hA.val hx,hA.val hy,hr],?_⟩
 refine hH.grow rfl rfl rfl (by simp) (fun k hk=>nF w _ k hk) ?_ (fun b hb=>by simp only[aO.at_,Value.ownBlock,Option.some.injEq] at hb;omega)
 refine⟨gq _ _,.inr ⟨w.heap.size,c,_,rfl,Nat.zero_le _,heap_alloc_new w _,hnc,by unfold maxLen;omega,by rw[size_madeCells,hjs],?_⟩⟩
 apply List.ext_getElem
 ·simp only[List.length_take,Array.length_toList,size_madeCells,gq,hjs]
  exact Nat.min_eq_left (Nat.mul_le_mul_right _ hnc)
 ·intro i h1 h2
  simp[made,madeCells,hz]
theorem t6 {F:Nat→Nat→Env} {ops l:List Oper} {o:Oper} {t e sz by_ sz' by' n m cx b off:Nat} {s x:Operand} {uk:UK} {zv v:Value} {z:Option Value} {xs news:List Value} {c2:aO} (k k2:Nat)
 (ho:o.op=.call ⟨.builtin .append,#[s,x],#[t,t]⟩) (hs:val E s=some v) (hx:val E x=some (.slice (some ⟨b,off,none⟩) m cx)) (ht:tab t=some ⟨.slice e,sz',by',z⟩)
 (he:tab e=some ⟨uk,sz,by_,some zv⟩) (hzs:zv.cells.size=sz) (hsz:0<sz) (hk:H[k]?=some (.own v e sz n xs)) (hk2:H[k2]?=some c2) (hc2:c2.shows b off news) (hl:news.length=m*sz) (h1:one news=true)
 (hm:0<m) (hmax:(n+m)*by_≤140737488355328) (hmax2:n+m≤2147483648) (hb:∀ g c,iJ X.n ops [] E o (.slice (some ⟨g,0,none⟩) (n+m) c)=some (F g c))
 (h:∀ g c,JL X ops l Q (F g c) (H.set k (.own (.slice (some ⟨g,0,none⟩) (n+m) c) e sz (n+m) (xs++news)))):JL X ops (o::l) Q E H:=by
 obtain⟨j,hi,hjz,hjs,hjb⟩:=fG he
 refine oH (α:=Nat×Nat) (f:=fun p=>.slice (some ⟨p.1,0,none⟩) (n+m) p.2) (F:=fun p=>F p.1 p.2)
  (G:=fun p=>H.set k (.own (.slice (some ⟨p.1,0,none⟩) (n+m) p.2) e sz (n+m) (xs++news))) [] (fun p=>hb p.1 p.2) (fun a w hA hH=>?_) (fun p=>h p.1 p.2)
 have hown:w.ownsRow 0 e sz v n xs:=hH.holds _ (List.mem_of_getElem? hk)
 have hshow:=hc2 w (hH.holds _ (List.mem_of_getElem? hk2))
 have hone:∀ l:List Value,one l=true→∀ u∈l,u.oneCell'=true:=by
  intro l
  induction l with
  |nil=>intro _ u hu;cases hu
  |cons y l ih=>
   intro hl u hu
   unfold one at hl
   split at hl
   ·rename_i hy
    rcases List.mem_cons.1 hu with rfl|hu
    ·exact hy
    ·exact ih hl u hu
   ·cases hl
 obtain⟨g,cap,w',hr,h2,h3,h4,h5⟩:=run_append_lies (P:=Tryz.prog) w t o.type 0 e j zv sz by_ (db ht) hi hjz hjs hjb hzs hsz v n xs hown ⟨b,off,none⟩ m cx news hl
  (fun i u hu=>by rw[Addr.add_at];exact hshow i u hu) (hone news h1) hm (by unfold maxLen;omega) hmax (Nat.zero_le _) w.heap.size rfl
 refine⟨(g,cap),w',?_,?_⟩
 ·have hr':(Builtin.append_ #[t,t] o.type #[v,.slice (some ⟨b,off,none⟩) m cx]).run Tryz.prog w=.ok (.slice (some ⟨g,0,none⟩) (n+m) cap) w':=hr
  simp[execOp,ho,resolve,invoke,builtin,hA.val hs,hA.val hx,hr']
 ·refine hH.step k hk h3.os h3.tape h3.output h3.size (fun q hq hne=>h3.block q hq (fun x=>hne (by rw[x];rfl))) h2 (fun b' hb'=>?_)
  simp only[aO.at_,Value.ownBlock,Option.some.injEq] at hb'
  subst hb'
  rcases h4 with h4|h4
  ·exact .inl h4
  ·exact .inr (by omega)
theorem mX (sz:Nat):∀ (vs:List Value) (k:Nat) (pre:List Value) (junk:List Value),pre.length=k*sz→(∀ v∈vs,v.cells.size=sz)→junk.length=vs.length*sz→
 Instr.fill (fun i=>some (i*sz,sz)) (pre++junk).toArray (vs.zipIdx k|>.map fun (v,i)=>(i,v))=some (pre++vs.flatMap fun v=>v.cells.toList).toArray
 |[],k,pre,junk,h0,_,hj=>by
  have:junk=[]:=List.length_eq_zero_iff.1 (by simpa using hj)
  subst this
  simp[Instr.fill]
 |v::vs,k,pre,junk,h0,hs,hj=>by
  have hv:=hs v (by simp)
  simp only[List.length_cons,Nat.add_mul,Nat.one_mul] at hj
  have hfold:∀ (cells:List Value) (base:Nat) (st:Nat) (A B:List Value),A.length=base+st→cells.length≤B.length→
   (cells.zipIdx st).foldl (fun (cs:Array Value) (p:Value×Nat)=>cs.setIfInBounds (base+p.2) p.1) (A++B).toArray=(A++cells++B.drop cells.length).toArray:=by
   intro cells
   induction cells with
   |nil=>intro base st A B _ _;simp
   |cons c cells ih=>
    intro base st A B hA hB
    cases B with
    |nil=>simp at hB
    |cons b B=>
     simp only[List.zipIdx_cons,List.foldl_cons]
     have e1:(A++b::B).toArray.setIfInBounds (base+st) c=((A++[c])++B).toArray:=by
      simp[hA]
     rw[e1,ih base (st+1) (A++[c]) B (by simp[hA];omega) (by simpa using hB)]
     simp
  simp only[List.zipIdx_cons,List.map_cons]
  unfold Instr.fill
  simp only[]
  have hlen:k*sz+v.cells.size≤(pre++junk).toArray.size:=by simp[h0,hv];omega
  rw[if_neg (by simp[hv];simp[h0] at hlen;omega)]
  have e2:=hfold v.cells.toList (k*sz) 0 pre junk (by simp[h0]) (by simp[hv];omega)
  have e3:v.cells.zipIdx.foldl (fun (cs:Array Value) (p:Value×Nat)=>cs.setIfInBounds (k*sz+p.2) p.1) (pre++junk).toArray=(pre++v.cells.toList++junk.drop v.cells.toList.length).toArray:=by
   rw[← e2,← Array.foldl_toList]
   simp
  have e4:(v.cells.zipIdx.foldl (fun cs (x:Value×Nat)=>match x with|(c,j)=>cs.setIfInBounds (k*sz+j) c) (pre++junk).toArray)=(pre++v.cells.toList++junk.drop v.cells.toList.length).toArray:=e3
  rw[e4]
  rw[mX sz vs (k+1) (pre++v.cells.toList) (junk.drop v.cells.toList.length) (by simp[h0,hv,Nat.add_mul]) (fun u hu=>hs u (by simp[hu])) (by simp[hv];omega)]
  simp
def og (ps:List (Nat×Value)) (k sz:Nat):Option (List Value):=match ps with
 |[]=>some []
 |(i,v)::l=>match Nat.beq i k with
  |true=>match Nat.beq v.cells.toList.length sz with
   |true=>match og l (k+1) sz with
    |some cs=>some (v.cells.toList++cs)
    |none=>none
   |false=>none
  |false=>none
theorem nf {sz:Nat}:∀ {ps:List (Nat×Value)} {k:Nat} {cs:List Value},og ps k sz=some cs→
 ps=((ps.map (·.2)).zipIdx k|>.map fun (v,i)=>(i,v))∧(∀ v∈ps.map (·.2),v.cells.size=sz)∧cs=(ps.map (·.2)).flatMap fun v=>v.cells.toList
 |[],k,cs,h=>by simp[og] at h;simp[h]
 |(i,v)::l,k,cs,h=>by
  unfold og at h
  split at h
  ·rename_i hi
   split at h
   ·rename_i hs
    split at h
    ·rename_i cs' hcs
     simp only[Option.some.injEq] at h
     obtain⟨h1,h2,h3⟩:=nf hcs
     obtain rfl:=Nat.eq_of_beq_eq_true hi
     have hs':v.cells.size=sz:=by have:=Nat.eq_of_beq_eq_true hs;simpa using this
     refine⟨?_,?_,?_⟩
     ·simp only[List.map_cons,List.zipIdx_cons];rw[← h1]
     ·intro u hu
      simp only[List.map_cons,List.mem_cons] at hu
      rcases hu with rfl|hu
      ·exact hs'
      ·exact h2 u hu
     ·rw[← h,h3];simp
    ·cases h
   ·cases h
  ·cases h
def lO (E:Env):List (Nat×Operand)→Option (List (Nat×Value))
 |[]=>some []
 |(i,x)::l=>match val E x with
  |some v=>match lO E l with
   |some vs=>some ((i,v)::vs)
   |none=>none
  |none=>none
theorem eh.valsP {n:mh} {a:Act} (hA:eh n a E):∀ (ps:List (Nat×Operand)) (vs:List (Nat×Value)),Proofs.YtpbmihpjgjbndaaGreatDoor.lO E ps=some vs→ps.map (fun (i,x)=>(i,a.eval x))=vs
 |[],vs,h=>by simp[Proofs.YtpbmihpjgjbndaaGreatDoor.lO] at h;simp[h]
 |(i,x)::l,vs,h=>by
  unfold Proofs.YtpbmihpjgjbndaaGreatDoor.lO at h
  split at h
  ·rename_i v hv
   split at h
   ·rename_i us hus
    simp only[Option.some.injEq] at h
    subst h
    simp[hA.val hv,hA.valsP l us hus]
   ·cases h
  ·cases h
theorem xM (gs:List Nat) {F:Nat→Env} {ops l:List Oper} {o:Oper} {t e n sz by_ sz' by':Nat} {ps:Array (Nat×Operand)} {vs:List (Nat×Value)} {uk:UK} {zv:Value} {z:Option Value} {cs:List Value} (ho:o.op=.buildSlice t n ps)
 (hp:lO E ps.toList=some vs) (ht:tab t=some ⟨.slice e,sz',by',z⟩) (he:tab e=some ⟨uk,sz,by_,some zv⟩) (hd:og vs 0 sz=some cs) (hn:vs.length=n) (hz:Nat.ble (n*sz) 65536=true)
 (hb:∀ b,iJ X.n ops gs E o (.slice (some ⟨b,0,none⟩) n n)=some (F b)) (h:∀ b,JL X ops l Q (F b) (blk b e cs::H)):JL X ops (o::l) Q E H:=by
 obtain⟨j,hi,hjz,hjs,hjb⟩:=fG he
 refine oD (f:=fun b=>.slice (some ⟨b,0,none⟩) n n) gs (fun a w hA _=>?_) hb h
 have hz':=Nat.le_of_ble_eq_true hz
 obtain⟨h1,h2,h3⟩:=nf hd
 have e1:=hA.valsP _ _ hp
 have e2:(ps.map fun (i,x)=>(i,a.eval x)).toList=vs:=by rw[← e1];simp
 have hf:∀ junk:List Value,junk.length=n*sz→Instr.fill (fun i=>some (i*sz,sz)) junk.toArray vs=some cs.toArray:=by
  intro junk hj
  have:=mX sz (vs.map (·.2)) 0 [] junk (by simp) h2 (by rw[hj];simp[hn])
  rw[← h1,← h3] at this
  simpa using this
 have hrun:(Instr.buildSlice t n (ps.map fun (i,x)=>(i,a.eval x))).run Tryz.prog w=.ok (.slice (some ⟨w.heap.size,0,none⟩) n n) (w.alloc (.cells cs.toArray e)):=by
  unfold Instr.buildSlice
  rw[e2]
  by_cases h0:n*sz=0
  ·have hf0:=hf [] (by simp[h0])
   have:(Array.map (fun x=>(#[]:Array Value)[x%(#[]:Array Value).size]!) (Array.range (n*sz)))=[].toArray:=by rw[h0];simp
   simp only[run_underlying (db ht),Sem.run_bind,Result.andThen_ok,cA he,if_neg (show ¬ n*sz>2^24 by omega),if_pos h0,Sem.run_pure]
   rw[this,hf0]
   simp[newRow,newObj,Sem.run,World.alloc_eq]
  ·have hf0:=hf ((Array.range (n*sz)).map (zv.cells[·%zv.cells.size]!)).toList (by simp)
   simp only[run_underlying (db ht),Sem.run_bind,Result.andThen_ok,cA he,if_neg (show ¬ n*sz>2^24 by omega),if_neg h0,Sem.run_pure,zeroValue,typeInfo]
   simp only[Array.toArray_toList] at hf0
   simp[hi,hjz,hf0,newRow,newObj,Sem.run,World.alloc_eq]
 have hrun':(Instr.buildSlice t n (ps.map fun x=>match x with|(i,x)=>(i,a.eval x))).run Tryz.prog w=.ok (.slice (some ⟨w.heap.size,0,none⟩) n n) (w.alloc (.cells cs.toArray e)):=hrun
 simp[execOp,ho,hrun']
theorem bK {F:Nat→Env} {ops l:List Oper} {o:Oper} {t e n sz by_ sz' by':Nat} {ps:Array (Nat×Operand)} {vs:List (Nat×Value)} {uk:UK} {zv:Value} {z:Option Value} {cs:List Value} (ho:o.op=.buildSlice t n ps)
 (hp:lO E ps.toList=some vs) (ht:tab t=some ⟨.slice e,sz',by',z⟩) (he:tab e=some ⟨uk,sz,by_,some zv⟩) (hd:og vs 0 sz=some cs) (hn:vs.length=n) (hz:Nat.ble (n*sz) 65536=true)
 (hb:∀ b,iJ X.n ops [] E o (.slice (some ⟨b,0,none⟩) n n)=some (F b)) (h:∀ b,JL X ops l Q (F b) (blk b e cs::H)):JL X ops (o::l) Q E H:=
 xM [] ho hp ht he hd hn hz hb h
end Go.Proofs.YtpbmihpjgjbndaaGreatDoor
/- The engine, its seventh part: calls, and the other operations. -/
set_option linter.unusedVariables false
set_option linter.unusedSimpArgs false
namespace Go.Proofs.YtpbmihpjgjbndaaGreatDoor
open Go.RowKit
variable {X:Cx} {Q:dl} {E E':Env} {H:Heap}
noncomputable def fj (f:FuncId):Bool:=match Tryz.prog.funcs[f]? with
 |some fn=>!(fn.name== "runtime.NumGoroutine")&&fn.body.isSome
 |none=>false
theorem fC {f:FuncId} (h:fj f=true) (args:Array Value) (w:World):(callFunc f args).run Tryz.prog w=.ok (.enter f args) w:=by
 unfold fj at h
 split at h
 ·rename_i fn hf
  simp only[Bool.and_eq_true,Bool.not_eq_true'] at h
  have hb:fn.body≠none:=by intro hx;rw[hx] at h;simp at h
  have h2:¬ fn.name= "runtime.NumGoroutine" :=by have:=h.1;simpa using this
  simp[callFunc,program,Sem.run,hf,h2,hb]
 ·cases h
def ib (H:Heap) (ix:List Nat):Heap→Prop
 |[]=>True
 |.seg b off vs::S=>(∃ k c,k∉ix∧H[k]?=some c∧c.shows b off vs∧(vs=[]∨c.at_=some b))∧ib H ix S
 |.tab b o::S=>(∃ k,k∉ix∧H[k]?=some (.tab b o))∧ib H ix S
 |_=>False
theorem ib.holds {ix:List Nat} {w:World}:∀ {S:Heap},ib H ix S→(∀ c∈H,c.holds w)→∀ s∈S,s.holds w
 |[],_,_,s,hs=>by cases hs
 |.seg b off vs::S,h,hH,s,hs=>by
  obtain⟨⟨k,c,_,hk,hc,_⟩,hS⟩:=h
  rcases List.mem_cons.1 hs with rfl|hs
  ·exact hc w (hH c (List.mem_of_getElem? hk))
  ·exact ib.holds hS hH s hs
 |.tab b o::S,h,hH,s,hs=>by
  obtain⟨⟨k,_,hk⟩,hS⟩:=h
  rcases List.mem_cons.1 hs with rfl|hs
  ·exact hH _ (List.mem_of_getElem? hk)
  ·exact ib.holds hS hH s hs
 |.obj ..::_,h,_,_,_=>h.elim
 |.own ..::_,h,_,_,_=>h.elim
theorem ib.apart {ix:List Nat} (hd:H.Pairwise er):∀ {S:Heap},ib H ix S→∀ s∈S,s.mine=none∧∀ i∈ix,∀ c,H[i]?=some c→Proofs.YtpbmihpjgjbndaaGreatDoor.er s c
 |[],_,s,hs=>by cases hs
 |.seg b off vs::S,h,s,hs=>by
  obtain⟨⟨k,c,hki,hk,_,hat⟩,hS⟩:=h
  rcases List.mem_cons.1 hs with rfl|hs
  ·refine⟨rfl,fun i hi d hd'=>⟨fun b' hb'=>by simp[aO.mine] at hb',fun b' hb' h2=>?_⟩⟩
   have hap:=dH hd hk hd' (fun e=>hki (e▸hi))
   simp only[aO.at_] at h2
   split at h2
   ·cases h2
   ·rename_i hne
    simp only[Option.some.injEq] at h2
    subst h2
    rcases hat with hat|hat
    ·exact hne hat
    ·exact hap.2 _ hb' hat
  ·exact ib.apart hd hS s hs
 |.tab b o::S,h,s,hs=>by
  obtain⟨⟨k,hki,hk⟩,hS⟩:=h
  rcases List.mem_cons.1 hs with rfl|hs
  ·exact⟨rfl,fun i hi d hd'=>dH hd hk hd' (fun e=>hki (e▸hi))⟩
  ·exact ib.apart hd hS s hs
 |.obj ..::_,h,_,_=>h.elim
 |.own ..::_,h,_,_=>h.elim
def fY:Heap→Bool
 |[]=>true
 |.seg ..::_=>false
 |.tab ..::_=>false
 |_::l=>fY l
theorem jS:∀ {H:Heap},fY H=true→∀ c∈H,c.mine=c.at_
 |[],_,c,hc=>by cases hc
 |.seg ..::_,h,_,_=>by simp[fY] at h
 |.tab ..::_,h,_,_=>by simp[fY] at h
 |.obj b o::l,h,c,hc=>by
  rcases List.mem_cons.1 hc with rfl|hc
  ·rfl
  ·exact jS (H:=l) h c hc
 |.own ..::l,h,c,hc=>by
  rcases List.mem_cons.1 hc with rfl|hc
  ·rfl
  ·exact jS (H:=l) h c hc
theorem cm.hand {w0 w:World} {M:List Nat} (hH:cm w0 M w H) {ix:List Nat} {S C:Heap} {Mc:List Nat} (hS:ib H ix S) (hix:ix.Nodup) (hC:Proofs.YtpbmihpjgjbndaaGreatDoor.bF H ix=some C) (hM:∀ c∈C,∀ b,c.mine=some b→b∈Mc):cm w Mc w (S++C):=by
 refine⟨rfl,rfl,rfl,Nat.le_refl _,fun _ _ _=>rfl,fun c hc=>?_,fun c hc b hb=>?_,?_⟩
 ·rcases List.mem_append.1 hc with hc|hc
  ·exact hS.holds hH.holds c hc
  ·obtain⟨i,_,hi⟩:=ed hC c hc;exact hH.holds c (List.mem_of_getElem? hi)
 ·rcases List.mem_append.1 hc with hc|hc
  ·have:=(hS.apart hH.dis c hc).1;rw[this] at hb;cases hb
  ·exact .inr (hM c hc b hb)
 ·refine List.pairwise_append.2 ⟨?_,eF hH.dis hix hC,fun s hs c hc=>?_⟩
  ·rw[List.pairwise_iff_getElem]
   intro i j hi hj _
   have h1:=(hS.apart hH.dis _ (List.getElem_mem hi)).1
   have h2:=(hS.apart hH.dis _ (List.getElem_mem hj)).1
   refine⟨fun b hb=>?_,fun b hb=>?_⟩
   ·rw[h1] at hb;simp at hb
   ·rw[h2] at hb;simp at hb
  ·obtain⟨i,hi,hic⟩:=ed hC c hc
   exact (hS.apart hH.dis s hs).2 i hi c hic
theorem cm.back {w0 w w':World} {M:List Nat} (hH:cm w0 M w H) {ix rest:List Nat} {C K H':Heap} {Mc:List Nat} (hC:Proofs.YtpbmihpjgjbndaaGreatDoor.bF H ix=some C) (hM2:∀ b∈Mc,∃ c∈C,c.mine=some b)
 (hr:Proofs.YtpbmihpjgjbndaaGreatDoor.bF H rest=some K) (hrn:rest.Nodup) (hdis:∀ i∈rest,i∉ix) (h':cm w Mc w' H') (hn:fY H'=true):cm w0 M w' (H'++K):=by
 have hback:∀ b∈Mc,∃ i∈ix,∃ c,H[i]?=some c∧c.mine=some b:=by
  intro b hb
  obtain⟨c,hc,hcb⟩:=hM2 b hb
  obtain⟨i,hi,hic⟩:=ed hC c hc
  exact⟨i,hi,c,hic,hcb⟩
 have hrest:∀ d∈K,∀ b,d.at_=some b→b<w.heap.size∧b∉Mc:=by
  intro d hd b hb
  obtain⟨j,hj,hjd⟩:=ed hr d hd
  refine⟨aO.at_lt (hH.holds d (List.mem_of_getElem? hjd)) hb,fun hbM=>?_⟩
  obtain⟨i,hi,c,hic,hcb⟩:=hback b hbM
  exact (dH hH.dis hic hjd (fun e=>hdis j hj (e▸hi))).1 b hcb hb
 refine⟨h'.os.trans hH.os,h'.tape.trans hH.tape,h'.output.trans hH.output,Nat.le_trans hH.size h'.size,fun k hk hkM=>?_,fun c hc=>?_,fun c hc b hb=>?_,?_⟩
 ·have hkw:=Nat.lt_of_lt_of_le hk hH.size
  have:k∉Mc:=by
   intro hkc
   obtain⟨i,_,c,hic,hcb⟩:=hback k hkc
   rcases hH.own c (List.mem_of_getElem? hic) k hcb with h1|h1
   ·omega
   ·exact hkM h1
  exact (h'.keep k hkw this).trans (hH.keep k hk hkM)
 ·rcases List.mem_append.1 hc with hc|hc
  ·exact h'.holds c hc
  ·obtain⟨j,_,hjd⟩:=ed hr c hc
   exact aO.holds_of (hH.holds c (List.mem_of_getElem? hjd)) fun b hb=>h'.keep b (hrest c hc b hb).1 (hrest c hc b hb).2
 ·rcases List.mem_append.1 hc with hc|hc
  ·rcases h'.own c hc b hb with h1|h1
   ·exact .inl (Nat.le_trans hH.size h1)
   ·obtain⟨i,_,d,hid,hdb⟩:=hback b h1
    exact hH.own d (List.mem_of_getElem? hid) b hdb
  ·obtain⟨j,_,hjd⟩:=ed hr c hc
   exact hH.own c (List.mem_of_getElem? hjd) b hb
 ·refine List.pairwise_append.2 ⟨h'.dis,eF hH.dis hrn hr,fun c hc d hd=>?_⟩
  have hcm:=jS hn c hc
  have key:∀ b,c.at_=some b→d.at_≠some b:=by
   intro b hb hdb
   rw[← hcm] at hb
   obtain⟨h1,h2⟩:=hrest d hd b hdb
   rcases h'.own c hc b hb with h3|h3
   ·omega
   ·exact h2 h3
  exact⟨fun b hb=>key b (aO.mine_at hb),fun b hb h2=>key b h2 (aO.mine_at hb)⟩
theorem vi {o:Oper} {f:Operand} {args:Array Operand} {ts:Array TypeId} {g:FuncId} {fst cap vs:List Value} {n:mh} {a:Act} (hA:eh n a E) (ho:o.op=.call ⟨.value f,args,ts⟩)
 (hf:val E f=some (.func (.func g) fst.toArray cap.toArray)) (ha:vals E args.toList=some vs) (hc:fj g=true) (w:World):
 (execOp a.eval o).run Tryz.prog w=.ok (.enter g (fst++vs++cap).toArray) w:=by
 have e1:args.map a.eval=vs.toArray:=by rw[← hA.vals _ _ ha];exact Array.ext' (by simp)
 simp[execOp,ho,resolve,Deferred.ofValue,invoke,hA.val hf,e1,fC hc]
theorem sV {F:Value→Env} {ops l:List Oper} {o:Oper} {f:Operand} {args:Array Operand} {ts:Array TypeId} {g:FuncId} {fst cap vs args':List Value} {R:Value→Heap→Prop} {S C K:Heap} {Mc:List Nat} (ix rest:List Nat) (gs:List Nat)
 (T:Fn g args' Mc (S++C) R) (ho:o.op=.call ⟨.value f,args,ts⟩) (hf:val E f=some (.func (.func g) fst.toArray cap.toArray)) (ha:vals E args.toList=some vs) (has:fst++vs++cap=args') (hc:fj g=true)
 (hS:ib H ix S) (hix:ix.Nodup) (hC:bF H ix=some C) (hM:∀ c∈C,∀ b,c.mine=some b→b∈Mc) (hM2:∀ b∈Mc,∃ c∈C,c.mine=some b)
 (hr:bF H rest=some K) (hrn:rest.Nodup) (hdis:∀ i∈rest,i∉ix) (hb:∀ v,iJ X.n ops gs E o v=some (F v)) (h:∀ v H',R v H'→fY H'=true∧JL X ops l Q (F v) (H'++K)):JL X ops (o::l) Q E H:=by
 intro a w hA hH
 have hg:=(cP (hb undef)).1
 unfold wpList
 rw[if_pos (bQ hA hg)]
 left
 show o.upon _ a _ _ ((execOp a.eval o).run _ w)
 rw[vi hA ho hf ha hc w,has]
 refine (T w (hH.hand hS hix hC hM)).mono ?_
 rintro e w' ⟨v,H',rfl,h1,h2⟩
 obtain⟨h3,h4⟩:=h v H' h2
 exact h4 _ _ (hA.putE (cP (hb v)).2) (hH.back hC hM2 hr hrn hdis h1 h3)
theorem lP (H:Heap):bF H (List.range H.length)=some H:=by
 have key:∀ (K:Heap) (i:Nat),(∀ j,H[i+j]?=K[j]?)→bF H (List.range' i K.length)=some K:=by
  intro K
  induction K with
  |nil=>intro i _;rfl
  |cons c K ih=>
   intro i hi
   have h0:H[i]?=some c:=by simpa using hi 0
   rw[List.length_cons,List.range'_succ]
   unfold bF
   rw[h0,ih (i+1) (fun j=>by have:=hi (j+1);simpa [Nat.add_assoc,Nat.add_comm 1] using this)]
 rw[List.range_eq_range']
 exact key H 0 (fun j=>by simp)
theorem ax {F:Value→Env} {ops l:List Oper} {o:Oper} {f:Operand} {args:Array Operand} {ts:Array TypeId} {g:FuncId} {fst cap vs args':List Value} {R:Value→Heap→Prop} {S:Heap} (gs:List Nat)
 (T:Fn g args' [] S R) (ho:o.op=.call ⟨.value f,args,ts⟩) (hf:val E f=some (.func (.func g) fst.toArray cap.toArray)) (ha:vals E args.toList=some vs) (has:fst++vs++cap=args') (hc:fj g=true)
 (hS:ib H [] S) (hb:∀ v,iJ X.n ops gs E o v=some (F v)) (h:∀ v H',R v H'→fY H'=true∧JL X ops l Q (F v) (H'++H)):JL X ops (o::l) Q E H:=
 sV (C:=[]) (K:=H) [] (List.range H.length) gs (by simpa using T) ho hf ha has hc hS List.nodup_nil rfl (fun c hc=>by cases hc) (fun b hb=>by cases hb) (lP H) List.nodup_range (fun _ _ h=>by cases h) hb h
end Go.Proofs.YtpbmihpjgjbndaaGreatDoor
/- Rows of numbers and of arcs, as cells. -/
set_option linter.unusedVariables false
set_option linter.unusedSimpArgs false
namespace Go.Proofs.YtpbmihpjgjbndaaGreatDoor
open Go.RowKit
variable {X:Cx} {Q:dl} {E E':Env} {H:Heap}
structure dK where
 fr:Int
 to:Int
 cap:Int
def ap (l:List Int):List Value:=l.map (.int .i64)
def dP (l:List Bool):List Value:=l.map .bool
def arcs (l:List dK):List Value:=l.flatMap fun a=>[.int .i64 a.fr,.int .i64 a.to,.int .i64 a.cap]
theorem bB (l:List Int):(ap l).length=l.length:=by simp[ap]
theorem b8 {l:List Int} {i:Nat} {x:Int} (h:l[i]?=some x):(ap l)[i]?=some (.int .i64 x):=by simp[ap,h]
theorem jn {l:List Bool} {i:Nat} {x:Bool} (h:l[i]?=some x):(dP l)[i]?=some (.bool x):=by simp[dP,h]
theorem em:∀ {l:List dK} {i:Nat} {x:dK},l[i]?=some x→(arcs l)[i*3]?=some (.int .i64 x.fr)∧(arcs l)[i*3+1]?=some (.int .i64 x.to)∧(arcs l)[i*3+2]?=some (.int .i64 x.cap)
 |[],i,x,h=>by simp at h
 |a::l,0,x,h=>by simp at h;subst h;simp[arcs]
 |a::l,i+1,x,h=>by
  have ih:=em (l:=l) (i:=i) (x:=x) (by simpa using h)
  have e:arcs (a::l)=[.int .i64 a.fr,.int .i64 a.to,.int .i64 a.cap]++arcs l:=by simp[arcs]
  have e1:(i+1)*3=i*3+3:=by omega
  rw[e,e1]
  refine⟨?_,?_,?_⟩
  ·rw[List.getElem?_append_right (by simp)];simpa using ih.1
  ·rw[List.getElem?_append_right (by simp)];simpa using ih.2.1
  ·rw[List.getElem?_append_right (by simp)];simpa using ih.2.2
theorem u0 (n:Nat):made [.int .i64 0] (n*1)=ap (List.replicate n 0):=by simp[dn,ap]
theorem mR (n:Nat):made [.bool false] (n*1)=dP (List.replicate n false):=by simp[dn,dP]
theorem wV (l:List Int) (i:Nat) (x:Int):(ap l).set i (.int .i64 x)=ap (l.set i x):=by simp[ap]
theorem uQ (l:List Bool) (i:Nat) (x:Bool):(dP l).set i (.bool x)=dP (l.set i x):=by simp[dP]
theorem ep {t by_ i:Nat} {uk:UK} {z:Option Value} {l:List Int} {x:Int} (ht:tab t=some ⟨uk,1,by_,z⟩) (hi:i<l.length):mI t (ap l) i (Value.int .i64 x).cells.toList=some (ap (l.set i x)):=by
 unfold mI
 rw[ht]
 have h2:Nat.ble (i+1) (ap l).length=true:=Nat.ble_eq_true_of_le (by rw[bB];omega)
 simp only[Value.cells,List.length_cons,List.length_nil,Nat.zero_add,Nat.beq_refl,h2,one,Value.oneCell',wr,wV]
theorem jz {t by_ i:Nat} {uk:UK} {z:Option Value} {l:List Bool} {x:Bool} (ht:tab t=some ⟨uk,1,by_,z⟩) (hi:i<l.length):mI t (dP l) i (Value.bool x).cells.toList=some (dP (l.set i x)):=by
 unfold mI
 rw[ht]
 have h2:Nat.ble (i+1) (dP l).length=true:=Nat.ble_eq_true_of_le (by simp[dP];omega)
 simp only[Value.cells,List.length_cons,List.length_nil,Nat.zero_add,Nat.beq_refl,h2,one,Value.oneCell',wr,uQ]
theorem jm {l:List dK} {m:Nat} {a:dK} (h:l[m]?=some a):ew 70 (arcs l) (m*3)=some (.agg #[.int .i64 a.fr,.int .i64 a.to,.int .i64 a.cap]):=by
 obtain⟨h1,h2,h3⟩:=em h
 show (match dU (arcs l) (m*3) 3 with|some l=>some (Value.agg l.toArray)|none=>none)=_
 have:dU (arcs l) (m*3) 3=some [.int .i64 a.fr,.int .i64 a.to,.int .i64 a.cap]:=by
  unfold dU;rw[h1]
  unfold dU;rw[h2]
  unfold dU;rw[h3]
  unfold dU;rfl
 rw[this]
theorem a9 {l:List Int} {m:Nat} {x:Int} (h:l[m]?=some x):ew 2 (ap l) m=some (.int .i64 x):=b8 h
theorem df {l:List Int} {m:Nat} {x:Int} (h:l[m]?=some x):ew 3 (ap l) m=some (.int .i64 x):=b8 h
/-! ### Quotients and rests -/
theorem xn {o:Oper} {t t':Nat} {x y:Operand} {k:IntKind} {a b:Int} (ho:o.op=.binOp .quo t x y t') (hx:val E x=some (.int k a)) (hy:val E y=some (.int k b)) (hb:b≠0):
 gW X o E H (.int k (k.wrap (a.tdiv b))):=by
 intro ac w hA hH
 simp[execOp,ho,hA.val hx,hA.val hy,gG,binOp,Op.intDiv,hb]
theorem sP {o:Oper} {t t':Nat} {x y:Operand} {k:IntKind} {a b:Int} (ho:o.op=.binOp .rem t x y t') (hx:val E x=some (.int k a)) (hy:val E y=some (.int k b)) (hb:b≠0):
 gW X o E H (.int k (a.tmod b)):=by
 intro ac w hA hH
 simp[execOp,ho,hA.val hx,hA.val hy,gG,binOp,Op.intDiv,hb]
theorem f9 {o:Oper} {t b off n c e sz by_ by' m:Nat} {x ix:Operand} {k:IntKind} {z z':Option Value} {uk:UK} (ho:o.op=.indexAddr t x ix) (hx:val E x=some (.slice (some ⟨b,off,none⟩) n c))
 (hi:val E ix=some (.int k (m:Int))) (ht:tab t=some ⟨.slice e,sz,by_,z⟩) (he:tab e=some ⟨uk,1,by',z'⟩) (hm:m<n):gW X o E H (.pointer (some ⟨b,off+m,none⟩)):=by
 have:=jt (X:=X) (H:=H) ho hx hi ht he hm
 simpa using this
theorem aJ {o:Oper} {t b n c e sz by_ by' m:Nat} {x ix:Operand} {k:IntKind} {z z':Option Value} {uk:UK} (ho:o.op=.indexAddr t x ix) (hx:val E x=some (.slice (some ⟨b,0,none⟩) n c))
 (hi:val E ix=some (.int k (m:Int))) (ht:tab t=some ⟨.slice e,sz,by_,z⟩) (he:tab e=some ⟨uk,1,by',z'⟩) (hm:m<n):gW X o E H (.pointer (some ⟨b,m,none⟩)):=by
 have:=jt (X:=X) (H:=H) ho hx hi ht he hm
 simpa using this
theorem iR {o:Oper} {t b off n c e sz by_ by' s m:Nat} {x ix:Operand} {k:IntKind} {z z':Option Value} {uk:UK} (ho:o.op=.indexAddr t x ix) (hx:val E x=some (.slice (some ⟨b,off,none⟩) n c))
 (hi:val E ix=some (.int k (m:Int))) (ht:tab t=some ⟨.slice e,sz,by_,z⟩) (he:tab e=some ⟨uk,s,by',z'⟩) (hm:m<n):gW X o E H (.pointer (some ⟨b,off+m*s,none⟩)):=
 jt (X:=X) (H:=H) ho hx hi ht he hm
theorem aU {o:Oper} {t b n c e sz by_ by' s m:Nat} {x ix:Operand} {k:IntKind} {z z':Option Value} {uk:UK} (ho:o.op=.indexAddr t x ix) (hx:val E x=some (.slice (some ⟨b,0,none⟩) n c))
 (hi:val E ix=some (.int k (m:Int))) (ht:tab t=some ⟨.slice e,sz,by_,z⟩) (he:tab e=some ⟨uk,s,by',z'⟩) (hm:m<n):gW X o E H (.pointer (some ⟨b,m*s,none⟩)):=by
 have:=jt (X:=X) (H:=H) ho hx hi ht he hm
 simpa using this
theorem bz {o:Oper} {t b off p i:Nat} {x:Operand} {vs:List Value} {v:Value} (k:Nat) (ho:o.op=.load t x) (hx:val E x=some (.pointer (some ⟨b,p,none⟩)))
 (hk:H[k]?=some (.seg b off vs)) (hp:p=off+i) (hv:ew t vs i=some v):gW X o E H v:=xH k ho (by rw[hx,hp]) hk hv
theorem aE {c:Code} {K:Heap} (l:List Nat) (hl:l.Nodup) (hK:bF H l=some K) (h:J X c Q E K):J X c Q E H:=fun a w hA hH=>h a w hA (hH.picks l hl hK)
theorem bU {n:Int} (h:-9223372036854775808≤n∧n≤9223372036854775807):IntKind.i64.wrap n=n:=by rw[IntKind.wrap_i64];omega
end Go.Proofs.YtpbmihpjgjbndaaGreatDoor
