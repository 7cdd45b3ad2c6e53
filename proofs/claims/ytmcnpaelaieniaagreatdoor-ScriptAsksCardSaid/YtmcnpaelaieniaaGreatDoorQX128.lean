import Derived.Laws.Pointers
import Derived.Test.YtmcnpaelaieniaaGreatDoorQX135
import Derived.Lib.Join
/- A part of the proof. -/
set_option linter.unusedVariables false
set_option linter.unusedSimpArgs false
namespace Go.Proofs.YtmcnpaelaieniaaGreatDoor
open Go.RowKit
section
variable {X:Cx} {E:Env} {H:Heap}
end
theorem KO{m:cO}(h:m.a=false)(l:LB_):m.lack l=9:=by unfold cO.lack;rw[if_pos h]
theorem Ea(m:cO)(b:m.a=false)(p:Nat)(sg:Int):Fn 22 [.pointer (some ⟨p,0,none⟩),.int .u8 sg] [] [.seg p 0 m.cells] λ v H'=>v=td (0,9)/\H'=[]:=by
 refine aT Tryz.func22 λ w0=>?_;refine H4 ?_;rw[KO b];refine cS ?_;refine ak rfl (λ _=>?_) (λ h=>absurd ab h);exact jV
open Lib
section
variable {X:Cx} {Q:e6} {E:Env} {H K:Heap}
theorem wT{w:World}{b e:Nat}{cs:LV_}(h:(blk b e cs).holds w):w.shape? b=some (e,cs.length):=by
 have a:w.heap[b]?=some (.cells cs.toArray e (0,0)):=h;simp[World.shape?,a]
theorem Ji{o:Oper}{src dst t b i e:Nat}{x:Operand}{cs:LV_}{j:TypeInfo}(k:Nat)(d:o.op=.convert src dst x)(f:val E x=some (.pointer (some ⟨b,i,none⟩)))(g:H[k]?=some (blk b e cs))(h:Tryz.prog.underlying src=some (.pointer t))(l:Tryz.prog.underlying dst=some .unsafePointer)
 (m:Tryz.prog.info? t=some j) (n:j.size≠0) (hi:i<cs.length):i7 X o E H (.pointer (some ⟨b,i,none⟩)):=by
 intro a w p q;have c:=wT (q.holds _ (M9 g));have:=Lib.run_to_unsafe w ⟨b,i,none⟩ h l m n c hi;simp only[execOp,d,p.val f,Sem.run_bind,this,Result.andThen_ok];rfl
theorem EK{o:Oper}{src dst t b i e:Nat}{x:Operand}{cs:LV_}{j:TypeInfo}(k:Nat)(d:o.op=.convert src dst x)(f:val E x=some (.pointer (some ⟨b,i,none⟩)))(g:H[k]?=some (blk b e cs))(h:Tryz.prog.underlying src=some .unsafePointer)(l:Tryz.prog.underlying dst=some (.pointer t))
 (m:Tryz.prog.info? t=some j) (hl:Go.liesAt Tryz.prog Tryz.prog.depth e (cs.length/Tryz.prog.cellsOf e) i t 1=true):i7 X o E H (.pointer (some ⟨b,i,none⟩)):=by
 intro a w n p;have c:=wT (p.holds _ (M9 g));have:=Lib.run_from_unsafe w ⟨b,i,none⟩ h l m c hl;simp only[execOp,d,n.val f,Sem.run_bind,this,Result.andThen_ok];rfl
theorem DH{o:Oper}{x:Operand}{v:Value}{ts:Array TypeId}(c:o.op=.call ⟨.value (.func 118),#[x],ts⟩)(d:val E x=some v):i7 X o E H v:=by
 intro a w g j;have b:=run_callFunc_extern (P:=Tryz.prog) (f:=118) (e:=Extern.AbiNoEscape.same) Tryz.func118 aW aW aW aW #[v] w;rw[Lib.run_noEscape] at b;have h:(callFunc 118 #[v]).run Tryz.prog w=.ok (.value v) w:=b;have i:a.eval (.func 118)=.func (.func 118) #[] #[]:=rfl;simp[execOp,c,resolve,Deferred.ofValue,invoke,i,g.val d,h]
theorem D5{o:Oper}{t b:Nat}{x y:Operand}(ho:o.op=.binOp .eql t x y b)(hx:val E x=some (.pointer none))(hy:val E y=some (.pointer none))(h:Tryz.prog.underlying t=some (.pointer (Tryz.prog.pointee t))):i7 X o E H (.bool true):=by
 intro a w hA c;have hg:(eqGuard .eql t x y (.pointer none) (.pointer none)).run Tryz.prog w=.ok () w:=by simp[eqGuard]
 have hb:(binOp .eql t (.pointer none) (.pointer none)).run Tryz.prog w=.ok (.bool true) w:=run_eql_pointer_nil w t none h;refine GL ?_;rfl
end
def ni(e b:Nat)(p:Value)(A:OA_)(c:Nat)(m:LU_):Heap:=[blk b e [p,.slice A m.length c],.own (.slice A m.length c) 5 1 m.length (byteCells m)]
def CC(e:Nat):Prop:=Go.liesAt Tryz.prog Tryz.prog.depth e (2/Tryz.prog.cellsOf e) 0 116 1=true
theorem Io:∃ j,Tryz.prog.info? 116=some j/\j.size=2:=by
 obtain⟨_,j,_,h,_,a,_⟩:=eR (t:=116) rfl;exact⟨j,h,a⟩
theorem AT(e b:Nat)(p v:Value)(he:CC e)(hp:LO b p):Fn 93 [.pointer (some ⟨b,0,none⟩)] (ay [blk b e [p,v]]) ([]++[blk b e [p,v]]) λ _ H'=>H'=[blk b e [.pointer (some ⟨b,0,none⟩),v]]:=by
 rcases hp with rfl|rfl
 case inr=>
  intro w hw;have hb:w.heap[b]?=some (.cells #[ap b 0,v] e (0,0)):=hw.holds _ (OI ..);refine IL ?_;rintro x w' ⟨c,rfl⟩;exact⟨.tuple #[],_,c,hw,rfl⟩
 obtain⟨j,a,d⟩:=Io;refine aT Tryz.func93 λ w0=>?_;refine aI ?_;refine bh (v:=.pointer none) 0 ?_;refine aG (v:=.bool true) (D5 rfl rfl rfl aW) ?_;refine ah<|pZ ?_;refine aG (Ji 0 rfl rfl rfl aW aW a aa (P1 1)) ?_;refine aG (DH rfl rfl) ?_;refine aG (EK 0 rfl rfl rfl aW aW a he) ?_;refine mU ?_;exact⟨_,rfl,rfl⟩
theorem FV(e b:Nat)(p:Value)(he:CC e)(hp:LO b p)(A:OA_)(c:Nat)(m s:LU_)(hl:m.length+s.length<=1000000000000):Fn 53 [.pointer (some ⟨b,0,none⟩),du s] (ay (ni e b p A c m)) ([]++ni e b p A c m)
 λ _ H'=>∃ (a:OA_) (d:Nat),H'=ni e b (.pointer (some ⟨b,0,none⟩)) a d (m++s):=by
 refine aT Tryz.func53 λ w0=>?_;refine cW ?_;refine sk (fst:=[]) (cap:=[]) (AT e b p _ he hp) rfl aw.refl be ?_;rintro v H' rfl;refine ew ?_;refine aG (bz (i:=1) (v:=.slice A m.length c) 0 rfl rfl rfl rfl) ?_;refine az ?_;refine rx (m:=s) 1 rfl rfl rfl rfl rfl rfl rfl aa (λ _ _=>rfl) λ a d=>az ?_;refine nW ?_;refine bM<|⟨_,rfl,a,d,?_⟩;unfold ni;rw[Ng,show byteCells (m++s)=byteCells m++byteCells s by simp[byteCells]];rfl
section
variable {X:Cx} {Q:e6} {E:Env} {H K:Heap}
theorem Jd{G:Env}{ops l:List Oper}{o:Oper}{g c pt it:Nat}{x y:Operand}{m:LU_}(k:Nat)(N:o.op=.call ⟨.builtin .unsafeString,#[x,y],#[pt,it]⟩)(t:val E x=some (.pointer (some ⟨g,0,none⟩)))(O:val E y=some (.int .i64 (m.length:Int)))
 (u:H[k]?=some (.own (.slice (some ⟨g,0,none⟩) m.length c) 5 1 m.length (byteCells m))) (I:m≠[]) (hp:Tryz.prog.underlying pt=some (.pointer 5)) (z:Tryz.prog.cellsOf 5=1) (R:jN X.n ops [] E o (du m)=some G) (h:JL X ops l Q G (H.set k (.seg 0 0 []))):JL X ops (o::l) Q E H:=by
 refine JG [] R (λ a w L A=>?_) h;have f:w.ownsRow 0 5 1 (ax g 0 m.length c) m.length (byteCells m):=A.holds _ (M9 u);have M:0<m.length:=NP.2 I;obtain⟨hlen,S|⟨U,cap,cur,p,_,V,hle,B,Y,Z⟩⟩:=f
 ·exact absurd S.2 aa
 obtain⟨rfl,rfl⟩:g=U/\c=cap:=by
  simp only[Value.slice.injEq,Na,Addr.mk.injEq] at p;exact⟨p.1.1,p.2.2⟩
 have b:∀ j x,m[j]?=some x->w.cell? ((⟨g,0,none⟩:Addr).add j)=some (.int .u8 x.toNat):=by
  intro j x t;refine World.ownsRow.cells (A.holds _ (M9 u)) (g:=g) rfl j _ ?_;simp[byteCells,t]
 have C:w.shape? g=some (5,cur.size):=by simp[World.shape?,V]
 have r:=run_unsafeString_row (P:=Tryz.prog) (w:=w) pt it o.type 5 hp z g cur.size C m I aa (by unfold maxLen at B;omega) b;refine⟨w.freeze ⟨g,0,none⟩ m.length,?_,?_⟩
 ·have D:(Builtin.unsafeString_ #[pt,it] o.type #[ap g 0,af (m.length:Int)]).run Tryz.prog w=.ok (du m) (w.freeze ⟨g,0,none⟩ m.length):=r;simp[execOp,N,resolve,invoke,builtin,L.val t,L.val O,D]
 ·have F:∀ q,q≠g->(w.freeze ⟨g,0,none⟩ m.length).heap[q]?=w.heap[q]?:=by
   intro q s;unfold World.freeze;rw[if_neg aa];simp only[Array.getElem?_modify];rw[if_neg (λ e=>s e.symm)]
  have d:(w.freeze ⟨g,0,none⟩ m.length).heap.size=w.heap.size:=by
   unfold World.freeze;rw[if_neg aa];simp
  have e1:(w.freeze ⟨g,0,none⟩ m.length).os=w.os:=by unfold World.freeze;rw[if_neg aa]
  have e2:(w.freeze ⟨g,0,none⟩ m.length).tape=w.tape:=by unfold World.freeze;rw[if_neg aa]
  have e3:(w.freeze ⟨g,0,none⟩ m.length).output=w.output:=by unfold World.freeze;rw[if_neg aa]
  exact A.step k u e1 e2 e3 (by rw[d];exact Np _) (λ q _ s=>F q (λ e=>s (by rw[e];rfl))) (λ i v p=>by simp at p) (λ q s=>by simp[aU.at_] at s)
theorem Fm{o:Oper}{x:Operand}{a:Addr}{n c:Nat}{ts:Array TypeId}(b:o.op=.call ⟨.builtin .unsafeSliceData,#[x],ts⟩)(d:val E x=some (.slice (some a) n c))(e:c≠0):i7 X o E H (.pointer (some a)):=by
 intro ac w f g;have:=run_unsafeSliceData_row (P:=Tryz.prog) (w:=w) ts o.type a n c e;simp[execOp,b,resolve,invoke,builtin,f.val d,this]
end
theorem zr(e b:Nat)(p:Value)(A:OA_)(c:Nat)(m:LU_)(d:m≠[]):Fn 55 [.pointer (some ⟨b,0,none⟩)] (ay (ni e b p A c m)) ([]++ni e b p A c m) λ v H'=>v=du m/\H'=[]:=by
 have a:0<m.length:=NP.2 d;refine aT Tryz.func55 λ w0=>?_;refine ao ?_;refine aP (aH 1 rfl) λ ⟨_,i,f,_⟩=>?_;obtain⟨g,rfl⟩:=f a;refine cA ?_;refine G6 ?_;refine bc (v:=ax g 0 m.length c) rfl (ad 0 rfl) ?_;refine a6 ?_;refine bc (v:=ax g 0 m.length c) rfl (ad 0 rfl) ?_;refine jM ?_;refine aG (Fm rfl rfl aa) ?_;refine bZ [0]<|cz ?_;refine Jd (m:=m) 1 rfl rfl rfl rfl d aW aW rfl<|bZ [0]<|iA ?_;exact nE
theorem eY{l:List (LU_)}{i:Nat}{x:LU_}(h:l[i]?=some x):fP 9 (cj l) i=some (du x):=yE h
theorem vj(l:LU_):(aK l).length<=l.length+1:=by
 rw[v3];have:=List.count_le_length (a:=(10:UInt8)) (l:=l);split<;>omega
theorem mS:∀ l cur:LU_,(cZ cur l).length<=l.length+(if cur=[] then 0 else 1)
 |[],cur=>by unfold cZ;split<;>simp
 |b::l,cur=>by
  unfold cZ;split
  ·split
   ·have:=mS l [];simp at this ⊢;omega
   ·have:=mS l [];simp at this ⊢;omega
  ·have:=mS l (cur++[b]);simp at this;simp only[Nf];split<;>omega
theorem kJ(l:LU_):(bI l).length<=l.length:=by
 have:=mS l []
 simpa [bI] using this
theorem Iu(A:OA_)(n c b o:Nat)(xs:List (LU_))(sep:LU_)(k:n=xs.length)(l:xs≠[]->A=some ⟨b,o,none⟩)(m:n<=c)(hl:(Lib.join xs sep).length<=140737488355328)(p:xs.length<=140737488355328):
 Fn 120 [.slice A n c,du sep] [] [.seg b o (cj xs)] λ v H'=>v=du (Lib.join xs sep)/\H'=[]:=by
 subst k;by_cases g:xs=[]
 ·subst g;exact Fn.of_below λ w _=>(Any.strings_Join_none Tryz.lays156 Tryz.Builder_Extra_156 A c ⟨sep.toArray⟩ w).mono λ e w' ⟨he,hw⟩=>⟨_,he,hw▸Below.refl _ _,rfl,rfl⟩
 ·obtain rfl:=l g;refine Fn.of_below λ w hw=>?_;have a:=hw.holds (.seg b o (cj xs)) ai
  have d:((xs.map λ x=>(⟨x.toArray⟩:ByteArray)).map (·.data.toList))=xs:=by
   rw[OD];exact (Oq λ x _=>(rfl:_=id x)).trans (List.map_id xs)
  have f:∀ (j:Nat) x,(xs.map λ x=>(⟨x.toArray⟩:ByteArray))[j]?=some x->w.cell? ⟨b,o+j,none⟩=some (.string x):=by
   intro j x i;rw[Ni] at i;obtain⟨y,q,rfl⟩:=OM.1 i;exact a j _ (yE q)
  have h:b<w.heap.size:=by
   cases xs with
   |nil=>exact absurd rfl g
   |cons x r=>exact World.block_lt_of_cell? w _ (a 0 _ rfl)
  have T:=Any.strings_Join Tryz.lays156 Tryz.Builder_Extra_156 b o c (xs.map λ x=>(⟨x.toArray⟩:ByteArray)) ⟨sep.toArray⟩ w f h (by simpa using p) (by simpa using m) (by rw[d];exact hl);rw[Nj,d] at T;exact T.mono λ e w' ⟨he,s⟩=>⟨_,he,s,rfl,rfl⟩
theorem tZ(A:OA_)(n c b o:Nat)(xs:List (LU_))(a:n=xs.length)(d:xs≠[]->A=some ⟨b,o,none⟩)(e:n<=c)(hl:(Lib.join xs [32]).length<=140737488355328)(f:xs.length<=140737488355328):
 Fn 95 [.slice A n c] [] [.seg b o (cj xs)] λ v H'=>v=du (Lib.join xs [32])/\H'=[]:=by
 refine aT Tryz.func95 λ w0=>?_;refine ao ?_;refine gD ?_;refine cH (Iu A n c b o xs [32] a d e hl f) rfl ⟨bx 0 rfl,be⟩ ?_;exact mG
def aS:List (LU_)->LI_×Int
 |[]=>([],0)
 |w::r=>if (et w).2≠0 then ([],(et w).2) else if (aS r).2≠0 then ([],(aS r).2) else ((et w).1::(aS r).1,0)
theorem tB:∀ {ws:List (LU_)},(∀ w∈ws,(et w).2=0)->aS ws=(ws.map λ w=>(et w).1,0)
 |[],_=>rfl
 |w::r,h=>by
  have a:=tB (ws:=r) λ x b=>h x (by simp[b]);unfold aS;rw[if_neg (λ k=>k (h w ai)),a,if_neg (λ k=>k rfl)];rfl
theorem sn:∀ {ws:List (LU_)} {k:Nat} {w:LU_},ws[k]?=some w->(∀ j x,j<k->ws[j]?=some x->(et x).2=0)->(et w).2≠0->aS ws=([],(et w).2)
 |[],k,w,h,_,_=>by simp at h
 |x::r,0,w,h,_,he=>by
  simp only[Oe,Na] at h;subst h;unfold aS;rw[if_pos he]
 |x::r,k+1,w,h,a,he=>by
  have b:=sn (ws:=r) (k:=k) (w:=w) (by simpa using h) (λ j y d c=>a (j+1) y aa (by simpa using c)) he;unfold aS;rw[if_neg (λ q=>q (a 0 x aa rfl)),b,if_pos he]
theorem oO{ws:List (LU_)}(h:(aS ws).2=0):(aS ws).1.length=ws.length/\∀ w∈ws,(et w).2=0:=by
 induction ws with
 |nil=>exact⟨rfl,λ w hw=>absurd hw Nr⟩
 |cons w r d=>
  unfold aS at h ⊢;by_cases a:(et w).2≠0
  ·rw[if_pos a] at h;exact absurd h a
  ·rw[if_neg a] at h ⊢;by_cases b:(aS r).2≠0
   ·rw[if_pos b] at h;exact absurd h b
   ·rw[if_neg b] at h ⊢;obtain⟨e,f⟩:=d (Classical.not_not.1 b);refine⟨by simp[e],fun x c=>?_⟩
    rcases Nl.1 c with rfl|c
    ·exact Nn.1 a
    ·exact f x c
theorem K9(l:LU_):-9223372036854775808<=(et l).1/\(et l).1<=9223372036854775807:=by
 unfold et;simp only;by_cases a:l.head?=some 45
 ·rw[if_pos a,if_pos a];split
  ·decide
  ·split
   ·simp only;omega
   ·decide
 ·rw[if_neg a,if_neg a];split
  ·decide
  ·split
   ·simp only;omega
   ·decide
theorem lo{ws:List (LU_)}:∀ n∈(aS ws).1,b9 n:=by
 induction ws with
 |nil=>exact λ n a=>absurd a Nr
 |cons w r b=>
  intro n a;unfold aS at a;split at a
  ·exact absurd a Nr
  ·split at a
   ·exact absurd a Nr
   ·rcases Nl.1 a with rfl|a
    ·exact K9 w
    ·exact b n a
structure Rd where
 nodes:Int
 src:Int
 snk:Int
 arcs:List eq
 most:Int
 sum:Int
abbrev Ws:=List (LU_)
def Rd.problem(r:Rd)(w:Ws):Rd×Int:=
 if w.length≠4\/w[1]?≠some [109,97,120]\/r.most≠-1 then (r,2) else
 if (aS (w.drop 2)).2≠0 then (r,(aS (w.drop 2)).2) else
 if (aS (w.drop 2)).1.getD 0 0<2\/500<(aS (w.drop 2)).1.getD 0 0\/(aS (w.drop 2)).1.getD 1 0<0\/2000<(aS (w.drop 2)).1.getD 1 0 then (r,3) else
 ({ r with nodes:=(aS (w.drop 2)).1.getD 0 0,most:=(aS (w.drop 2)).1.getD 1 0 },0)
def Rd.end_(r:Rd)(w:Ws):Rd×Int:=
 if w.length≠3\/r.most=-1\/r.arcs≠[] then (r,2) else
 if w[2]?=some [115] then
  (if r.src≠0 then (r,2) else if (aS [w.getD 1 []]).2≠0 then (r,(aS [w.getD 1 []]).2) else
   if ¬ (1<=(aS [w.getD 1 []]).1.getD 0 0/\(aS [w.getD 1 []]).1.getD 0 0<=r.nodes) then (r,4) else
   if (aS [w.getD 1 []]).1.getD 0 0=r.src\/(aS [w.getD 1 []]).1.getD 0 0=r.snk then (r,5) else ({ r with src:=(aS [w.getD 1 []]).1.getD 0 0 },0))
 else if w[2]?=some [116] then
  (if r.snk≠0 then (r,2) else if (aS [w.getD 1 []]).2≠0 then (r,(aS [w.getD 1 []]).2) else
   if ¬ (1<=(aS [w.getD 1 []]).1.getD 0 0/\(aS [w.getD 1 []]).1.getD 0 0<=r.nodes) then (r,4) else
   if (aS [w.getD 1 []]).1.getD 0 0=r.src\/(aS [w.getD 1 []]).1.getD 0 0=r.snk then (r,5) else ({ r with snk:=(aS [w.getD 1 []]).1.getD 0 0 },0))
 else (r,2)
def Rd.arc(r:Rd)(w:Ws):Rd×Int:=
 if w.length≠4\/r.src=0\/r.snk=0 then (r,2) else
 if (aS (w.drop 1)).2≠0 then (r,(aS (w.drop 1)).2) else
 if ¬ (1<=(aS (w.drop 1)).1.getD 0 0/\(aS (w.drop 1)).1.getD 0 0<=r.nodes)\/¬ (1<=(aS (w.drop 1)).1.getD 1 0/\(aS (w.drop 1)).1.getD 1 0<=r.nodes) then (r,4) else
 if (aS (w.drop 1)).1.getD 2 0<0 then (r,3) else
 if (r.arcs.length:Int)=r.most then (r,6) else
 if 4611686018427387903<r.sum+(aS (w.drop 1)).1.getD 2 0 then (r,7) else
 ({ r with sum:=r.sum+(aS (w.drop 1)).1.getD 2 0,arcs:=r.arcs++[⟨(aS (w.drop 1)).1.getD 0 0,(aS (w.drop 1)).1.getD 1 0,(aS (w.drop 1)).1.getD 2 0⟩] },0)
def Rd.line(r:Rd)(w:Ws):Rd×Int:=
 match w with
 |[]=>(r,0)
 |x::_=>if x=[99] then (r,0) else if x=[112] then r.problem w else if x=[110] then r.end_ w else if x=[97] then r.arc w else (r,2)
structure Rd.OK (r:Rd):Prop where
 none:r.most=-1->r.arcs=[]/\r.src=0/\r.snk=0/\r.nodes=0
 some:r.most≠-1->(2<=r.nodes/\r.nodes<=500)/\0<=r.most/\r.most<=2000/\(r.arcs.length:Int)<=r.most
 src:r.src=0\/(1<=r.src/\r.src<=r.nodes)
 snk:r.snk=0\/(1<=r.snk/\r.snk<=r.nodes)
 diff:r.src=r.snk->r.src=0
 arc:∀ a∈r.arcs,(1<=a.fr/\a.fr<=r.nodes)/\(1<=a.to/\a.to<=r.nodes)/\0<=a.cap
 sum:(r.arcs.map (·.cap)).sum=r.sum
 most_le:r.sum<=4611686018427387903
theorem xC:∀ {l:LI_},(∀ x∈l,0<=x)->0<=l.sum
 |[],_=>by simp
 |x::l,h=>by
  have:=xC (l:=l) λ y a=>h y (by simp[a]);have:=h x ai;rw[NC];omega
theorem Rd.OK.sum_ge{r:Rd}(h:r.OK):0<=r.sum:=by
 rw[<- h.sum]
 exact xC λ x b=>by
  obtain⟨a,c,rfl⟩:=NB.1 b;exact (h.arc a c).2.2
theorem Rd.OK.len{r:Rd}(h:r.OK):r.arcs.length<=2000:=by
 by_cases hm:r.most=-1
 ·rw[(h.none hm).1];simp
 ·have:=h.some hm;omega
theorem Rd.OK.problem{r:Rd}(h:r.OK)(w:Ws):(r.problem w).1.OK:=by
 unfold Rd.problem;split
 ·exact h
 ·rename_i e;split
  ·exact h
  ·split
   ·exact h
   ·rename_i g i;have hm:r.most=-1:=Classical.byContradiction fun k=>e (.inr (.inr k));obtain⟨c,d,f,j⟩:=h.none hm;refine⟨fun k=>?_,fun _=>⟨⟨by simp only;omega,by simp only;omega⟩,by simp only;omega,by simp only;omega,?_⟩,.inl d,.inl f,fun _=>d,fun a b=>?_,h.sum,h.most_le⟩
    ·have l:(aS (w.drop 2)).1.getD 1 0=-1:=k;omega
    ·show (r.arcs.length:Int)<=(aS (w.drop 2)).1.getD 1 0;rw[c];show (0:Int)<=_;omega
    ·simp only at b;rw[c] at b;exact absurd b Nr
theorem Rd.OK.end_{r:Rd}(h:r.OK)(w:Ws):(r.end_ w).1.OK:=by
 unfold Rd.end_;split
 ·exact h
 ·rename_i d;have hm:r.most≠-1:=λ k=>d (.inr (.inl k));split
  ·split
   ·exact h
   ·split
    ·exact h
    ·split
     ·exact h
     ·split
      ·exact h
      ·rename_i e f b c;have a:=Nn.1 b;exact⟨λ k=>absurd k hm,h.some,.inr a,h.snk,λ k=>absurd (.inr k) c,h.arc,h.sum,h.most_le⟩
  ·split
   ·split
    ·exact h
    ·split
     ·exact h
     ·split
      ·exact h
      ·split
       ·exact h
       ·rename_i e f b c;have a:=Nn.1 b;exact⟨λ k=>absurd k hm,h.some,h.src,.inr a,λ k=>absurd (.inl k.symm) c,h.arc,h.sum,h.most_le⟩
   ·exact h
theorem Rd.OK.arc_{r:Rd}(h:r.OK)(w:Ws):(r.arc w).1.OK:=by
 unfold Rd.arc;split
 ·exact h
 ·rename_i g;split
  ·exact h
  ·split
   ·exact h
   ·split
    ·exact h
    ·split
     ·exact h
     ·split
      ·exact h
      ·rename_i i f j l m;have hm:r.most≠-1:=fun k=>g (.inr (.inl (h.none k).2.1));have c:=h.some hm;have d:=Classical.not_not.1 (fun k=>f (.inl k));have e:=Classical.not_not.1 (fun k=>f (.inr k));refine⟨fun k=>absurd k hm,fun _=>⟨c.1,c.2.1,c.2.2.1,?_⟩,h.src,h.snk,h.diff,fun a b=>?_,?_,by simp only;omega⟩
       ·simp only[Ng,Nf,NA];omega
       ·rcases Nm.1 b with b|b
        ·exact h.arc a b
        ·obtain rfl:=Nh.1 b;exact⟨d,e,by simp only;omega⟩
       ·simp only[NJ,Pg,h.sum];simp
theorem Rd.OK.line{r:Rd}(h:r.OK)(w:Ws):(r.line w).1.OK:=by
 unfold Rd.line;split
 ·exact h
 ·split
  ·exact h
  ·split
   ·exact h.problem _
   ·split
    ·exact h.end_ _
    ·split
     ·exact h.arc_ _
     ·exact h
def tg:Rd:=⟨0,0,0,[],-1,0⟩
theorem F8:tg.OK:=⟨λ _=>⟨rfl,rfl,rfl,rfl⟩,λ h=>absurd rfl h,.inl rfl,.inl rfl,λ _=>rfl,λ a b=>absurd b Nr,rfl,ab⟩
def fk(r:Rd)(i:Nat):List (LU_)->Rd×Nat×Int
 |[]=>(r,0,0)
 |x::ls=>if (r.line (bI x)).2≠0 then (r,i+1,(r.line (bI x)).2) else fk (r.line (bI x)).1 (i+1) ls
def vB:aR:=⟨0,0,0,[]⟩
def cR(s:LU_):aR×Nat×Int:=
 if (fk tg 0 (aK s)).2.2≠0 then (vB,(fk tg 0 (aK s)).2.1,(fk tg 0 (aK s)).2.2) else
 if (fk tg 0 (aK s)).1.most=-1\/(fk tg 0 (aK s)).1.src=0\/(fk tg 0 (aK s)).1.snk=0 then (vB,(aK s).length+1,2) else
 if ((fk tg 0 (aK s)).1.arcs.length:Int)<(fk tg 0 (aK s)).1.most then (vB,(aK s).length+1,6) else
 (⟨(fk tg 0 (aK s)).1.nodes,(fk tg 0 (aK s)).1.src,(fk tg 0 (aK s)).1.snk,(fk tg 0 (aK s)).1.arcs⟩,0,0)
theorem Rd.OK.read{r:Rd}(h:r.OK)(i:Nat)(ls:List (LU_)):(fk r i ls).1.OK:=by
 induction ls generalizing r i with
 |nil=>exact h
 |cons x ls a=>
  unfold fk;split
  ·exact h
  ·exact a (h.line _) _
theorem yD{s:LU_}(h:(cR s).2.2=0):(cR s).1.Right/\(cR s).2.1=0:=by
 have ok:=F8.read 0 (aK s);unfold cR at h ⊢;split
 ·rename_i b;rw[if_pos b] at h;exact absurd h b
 ·rename_i b;rw[if_neg b] at h;split
  ·rename_i a;rw[if_pos a] at h;cases h
  ·rename_i a;rw[if_neg a] at h;split
   ·rename_i c;rw[if_pos c] at h;cases h
   ·rename_i c;refine⟨⟨?_,?_,?_,?_,ok.len,ok.arc,?_⟩,rfl⟩
    ·exact (ok.some λ k=>a (.inl k)).1
    ·exact ok.src.resolve_left λ k=>a (.inr (.inl k))
    ·exact ok.snk.resolve_left λ k=>a (.inr (.inr k))
    ·exact λ k=>a (.inr (.inl (ok.diff k)))
    ·simp only;rw[ok.sum];exact ok.most_le
def Mf(A:OA_)(n c:Nat)(e:Int):Value:=.tuple #[.slice A n c,.int .i64 e]
theorem qo(V:LibV)(ws:List (LU_))(hw:∀ x∈ws,x.length<=10000000)(D:ws.length<=10000000)(B:OA_)(n s f i:Nat)(t:ws≠[]->B=some ⟨f,i,none⟩)(l:n=ws.length):
 Fn 110 [.slice B n s] [] ([.seg f i (cj ws)]++V.heap) λ v H'=>∃ (A:OA_) (c:Nat),v=Mf A (aS ws).1.length c (aS ws).2/\H'=[.own (.slice A (aS ws).1.length c) 2 1 (aS ws).1.length (aj (aS ws).1)]:=by
 subst l;refine aT Tryz.func110 λ w0=>?_;refine cW ?_;refine cY (n:=ws.length) (c:=ws.length) rfl rfl rfl rfl rfl rfl aa aa aa aE λ g=>?_;rw[show made [af 0] (ws.length*1)=aj (List.replicate ws.length 0) by rw[db,NR];simp[aj]];refine cS ?_;refine au ?_
 refine bS (σ:=Nat) (λ k=>[(14,af k),(13,af ws.length),(12,.slice B ws.length s),(4,ax g 0 ws.length ws.length)]) (λ k=>[.own (ax g 0 ws.length ws.length) 2 1 ws.length (aj ((ws.take k).map (λ w=>(et w).1)++List.replicate (ws.length-k) 0)),.seg f i (cj ws)]++V.heap)
  (λ k=>k<=ws.length/\∀ j x,j<k->ws[j]?=some x->(et x).2=0) (λ k=>ws.length-k) 0 [0,1,2,3,4] a8 ab rfl ⟨Nk _,λ j x h=>by omega⟩ ?_
 rintro k ⟨E,a⟩;refine ao ?_;refine am (ak rfl (λ u=>ag ?_) (λ z=>aO ?_))
 ·have hlt':k<ws.length:=by omega
  obtain⟨x,hx⟩:∃ x,ws[k]?=some x:=⟨ws[k],an hlt'⟩;obtain rfl:=t (by rintro rfl;simp at hlt');have C:=hw x (M9 hx);refine am (au ?_);refine Kz ?_;refine ak rfl (λ he=>?_) (λ he=>ag ?_)
  ·have b:=sn hx a he;refine ao ?_;refine b6 2 1<|aL [0] ⟨_,rfl,none,0,?_,?_⟩
   ·rw[b];rfl
   ·rw[b];rfl
  ·have m:(et x).2=0:=Nn.1 he;refine Iy ?_;refine⟨k+1,[0,1,2,3,4],⟨?_,rfl,rfl,rfl,be⟩,ab,?_,⟨aa,λ j y o p=>?_⟩,aa⟩
   ·refine fJ ?_;rw[cv aa];rfl
   ·have:((ws.take k).map (λ w=>(et w).1)++List.replicate (ws.length-k) 0).set k (et x).1=(ws.take (k+1)).map (λ w=>(et w).1)++List.replicate (ws.length-(k+1)) 0:=by
     have hl:((ws.take k).map (λ w=>(et w).1)).length=k:=by rw[Nj,ND];omega
     refine GR ?_;simp
    rw[<- this];simp only[NO];rfl
   ·by_cases e:j=k
    ·subst e;rw[hx] at p;obtain rfl:=NM p;exact m
    ·exact a j y aa p
 have q:k=ws.length:=aa;subst q
 have d:=tB (ws:=ws) λ w r=>by
  obtain⟨j,o,e⟩:=Pp r;exact a j w o (by rw[an o,e])
 refine xM ?_;refine ao ?_;refine aL [0] ⟨_,rfl,aJ g 0,ws.length,?_,?_⟩
 ·rw[d];simp only[Nj];rfl
 ·rw[d];simp only[Nj]
def Lt(r:Rd)(A:OA_)(c:Nat):LV_:=[.int .i64 r.nodes,.int .i64 r.src,.int .i64 r.snk,.slice A r.arcs.length c,.int .i64 r.most,.int .i64 r.sum]
def rF(p:Nat)(A:OA_)(c:Nat)(r:Rd):Heap:=[blk p 91 (Lt r A c),.own (.slice A r.arcs.length c) 37 3 r.arcs.length (arcs r.arcs)]
theorem r8(p:Nat)(r:Rd)(A:OA_)(c:Nat)(v:Int):Fn 111 [.pointer (some ⟨p,0,none⟩),.int .i64 v] [] [.seg p 0 (Lt r A c)] λ u H'=>u=.bool (dU (1<=v/\v<=r.nodes))/\H'=[]:=by
 refine aT Tryz.func111 λ w0=>?_;refine mz ?_;refine oa ?_;by_cases h:1<=v
 ·refine d7 7 rfl h<|ic ?_;refine ae [2] (a7 (i:=0) (v:=af r.nodes) 0 rfl rfl rfl) rfl<|cX [2] ?_;exact aL [] ⟨_,rfl,M8 Value.bool (eB ⟨λ k=>⟨h,k⟩,λ k=>k.2⟩),rfl⟩
 ·refine dD 7 rfl h<|cX [2] ?_;exact aL [] ⟨_,rfl,M8 Value.bool (aZ (λ k=>h k.1)).symm,rfl⟩
def mf(p:Nat)(q:Rd×Int)(v:Value)(H':Heap):Prop:=v=.int .i64 q.2/\∃ (A':OA_) (c':Nat),H'=rF p A' c' q.1
theorem uI{b off:Nat}(k:Nat){l m:List (LU_)}(h:∀ i:Nat,l[k+i]?=m[i]?):(aU.seg b off (cj l)).shows b (off+k) (cj m):=λ w hw i v a=>by
 have d:(cj l)[k+i]?=some v:=by
  unfold cj at a ⊢;rw[Ni] at a ⊢;rw[h i];exact a
 have c:=hw (k+i) v d;rw[<- N3] at c;exact c
theorem Mr{w:Ws}(h:w.length=4):∃ a b c d,w=[a,b,c,d]:=by
 match w,h with
 |[a,b,c,d],_=>exact⟨a,b,c,d,rfl⟩
theorem Bq(V:LibV)(w:Ws)(hw:∀ x∈w,x.length<=10000000)(X:w.length<=10000000)(B:OA_)(n y C:Nat)(P:w≠[]->B=some ⟨y,C,none⟩)(D:n=w.length)(p:Nat)(r:Rd)(ok:r.OK)(A:OA_)(c:Nat):
 Fn 80 [.pointer (some ⟨p,0,none⟩),.slice B n n] (ay (rF p A c r)) ([.seg y C (cj w)]++V.heap++rF p A c r) (mf p (r.problem w)):=by
 subst D
 have bad:(w.length≠4\/w[1]?≠some [109,97,120]\/r.most≠-1)->mf p (r.problem w) (af 2) (rF p A c r):=λ h=>by
  unfold Rd.problem;rw[if_pos h];exact⟨rfl,A,c,rfl⟩
 refine aT Tryz.func80 λ w0=>?_;refine ao ?_;refine nB ?_;by_cases M:w.length=4
 ·obtain⟨E,N,f,j,rfl⟩:=Mr M;obtain rfl:=P ai;refine dD 10 rfl ai<|dY ?_;refine ae [3] (hU rfl ai) rfl<|ae [3] (a7 0 rfl rfl (eY (x:=N) rfl)) rfl<|ae [3] (Dd (m:=[109,97,120]) rfl rfl rfl) rfl<|dY ?_;by_cases F:N=[109,97,120]
  ·subst F;refine dD 16 rfl ai<|bX [9] ?_;refine ae [9] (bz (i:=4) (v:=af r.most) 4 rfl rfl rfl rfl) rfl<|cX [9] ?_;refine ak rfl (λ H=>?_) (λ H=>ag ?_)
   ·refine ao ?_;exact aL [4,5] ⟨_,rfl,bad (.inr (.inr H))⟩
   have I:r.most=-1:=Nn.1 H;refine aI ?_;refine aG (f0 (i:=2) rfl rfl rfl rfl rfl ai) ?_;refine fh (qo V [f,j] (λ x Q=>hw x (On _ (On _ Q))) ai _ 2 _ y (C+2) aE rfl) rfl ⟨gC 0 rfl (uI 2 (λ i=>by rw[PY];rfl)) (.inr rfl),⟨1,ai,rfl⟩,⟨2,ai,rfl⟩,⟨3,ai,rfl⟩,be⟩ ?_;rintro v H' ⟨An,cn,rfl,rfl⟩
   generalize O:aS [f,j]=q
   have t:=λ h=>(oO (ws:=[f,j]) h).1;have k:=lo (ws:=[f,j]);rw[O] at t k;obtain⟨L,e⟩:=q
   have good:∀ z:Rd×Int,(if e≠0 then (r,e) else if L.getD 0 0<2\/500<L.getD 0 0\/L.getD 1 0<0\/2000<L.getD 1 0 then (r,3) else ({ r with nodes:=L.getD 0 0,most:=L.getD 1 0 },0))=z->r.problem [E,[109,97,120],f,j]=z:=λ z R=>by
    unfold Rd.problem;rw[if_neg (by simp[I]),show List.drop 2 [E,[109,97,120],f,j]=[f,j] from rfl,O];exact R
   refine aN ?_;refine am (au ?_);refine ao ?_;refine ak rfl (λ he=>?_) (λ he=>?_)
   ·refine ao ?_;exact aL [5,6] ⟨_,rfl,by rw[good _ (if_pos he)];exact⟨rfl,A,c,rfl⟩⟩
   have K:e=0:=Nn.1 he;have S:=t K
   obtain⟨a,b,rfl⟩:∃ a b,L=[a,b]:=by
    match L,S with
    |[a,b],_=>exact⟨a,b,rfl⟩
   refine aP (aH 0 rfl) (λ U=>?_);obtain⟨g,rfl⟩:=U.2.2.1 ai;have Y:b9 a:=k a ai;have Z:b9 b:=k b ai;simp only[List.getD_cons_zero,List.getD_cons_succ] at good;rw[if_neg he] at good;refine am<|w7 ?_;refine az ?_
   have d:(a<2\/500<a\/b<0\/2000<b)->mf p (r.problem [E,[109,97,120],f,j]) (af 3) (rF p A c r):=λ h=>by
    rw[good _ (if_pos h)];exact⟨rfl,A,c,rfl⟩
   by_cases l:a<2
   ·refine d7 38 rfl l<|bX [4] ?_;refine aB 44 (v':=.bool true) rfl rfl<|bX [4,10] ?_;refine aB 50 (v':=.bool true) rfl rfl<|cX [4,10,16] ?_;refine eP ?_;exact aL [5,6] ⟨_,rfl,d (.inl l)⟩
   refine dD 38 rfl l<|bX [4] ?_;refine ae [4] (hU rfl ai) rfl<|ae [4] (aA (i:=0) 0 rfl rfl rfl (bq rfl)) rfl<|bX [4] ?_;by_cases o:500<a
   ·refine d7 44 rfl o<|bX [4,10] ?_;refine aB 50 (v':=.bool true) rfl rfl<|cX [4,10,16] ?_;refine eP ?_;exact aL [5,6] ⟨_,rfl,d (.inr (.inl o))⟩
   refine dD 44 rfl o<|bX [4,10] ?_;refine ae [4,10] (hU rfl ai) rfl<|ae [4,10] (aA (i:=1) 0 rfl rfl rfl (bq rfl)) rfl<|bX [4,10] ?_;by_cases s:b<0
   ·refine d7 50 rfl s<|cX [4,10,16] ?_;refine eP ?_;exact aL [5,6] ⟨_,rfl,d (.inr (.inr (.inl s)))⟩
   refine dD 50 rfl s<|bX [4,10,16] ?_;refine ae [4,10,16] (hU rfl ai) rfl<|ae [4,10,16] (aA (i:=1) 0 rfl rfl rfl (bq rfl)) rfl<|cX [4,10,16] ?_;refine ak rfl (λ u=>?_) (λ u=>ag ?_)
   ·refine ao ?_;exact aL [5,6] ⟨_,rfl,d (.inr (.inr (.inr u)))⟩
   refine cA ?_;refine bK 15 (dS [0,1,2,3,4,5,6,7,8,9,10]++[(11,false)]++dS [12,13]++[(14,false)]) [0] aW ab rfl<|FI ?_;refine jM ?_;refine dz 5 ?_;refine bZ [0]<|jM ?_;refine dz 5 ?_;refine bZ [0]<|cP (ah ?_);refine ao ?_;exact aL [5,6] ⟨_,rfl,by rw[good _ (if_neg aa)];exact⟨rfl,A,c,rfl⟩⟩
  ·refine d7 16 rfl F<|cX [9] ?_;refine iN ?_;exact aL [4,5] ⟨_,rfl,bad (.inr (.inl (by simpa using F)))⟩
 ·refine d7 10 rfl eS<|dY ?_;refine aB 16 (v':=.bool true) rfl rfl<|cX [3,9] ?_;refine eP ?_;refine cA ?_;exact aL [4,5] ⟨_,rfl,bad (.inl M)⟩
theorem Md{w:Ws}(h:w.length=3):∃ a b c,w=[a,b,c]:=by
 match w,h with
 |[a,b,c],_=>exact⟨a,b,c,rfl⟩
def Rd.at_(r:Rd)(q:Nat):Int:=if q=1 then r.src else r.snk
def Rd.put(r:Rd)(q:Nat)(v:Int):Rd:=if q=1 then { r with src:=v } else { r with snk:=v }
def Rd.endAt(r:Rd)(q:Nat)(n:LI_×Int):Rd×Int:=
 if r.at_ q≠0 then (r,2) else if n.2≠0 then (r,n.2) else
 if ¬ (1<=n.1.getD 0 0/\n.1.getD 0 0<=r.nodes) then (r,4) else
 if n.1.getD 0 0=r.src\/n.1.getD 0 0=r.snk then (r,5) else (r.put q (n.1.getD 0 0),0)
def Mz(x:LU_)(q:Nat):Prop:=q=1/\x=[115]\/q=2/\x=[116]
theorem Rd.end_at{r:Rd}{b a c:LU_}{q:Nat}(hm:r.most≠-1)(d:r.arcs=[])(e:Mz c q):r.end_ [b,a,c]=r.endAt q (aS [a]):=by
 unfold Rd.end_ Rd.endAt;rw[if_neg (by simp[hm,d])]
 rcases e with ⟨rfl,rfl⟩|⟨rfl,rfl⟩
 ·rw[if_pos (show [b,a,[115]][2]?=some [115] from rfl)];rfl
 ·rw[if_neg (show ¬ [b,a,[116]][2]?=some [115] by simp),if_pos (show [b,a,[116]][2]?=some [116] from rfl)];rfl
theorem J8(V:LibV)(w:Ws)(hw:∀ x∈w,x.length<=10000000)(Z:w.length<=10000000)(B:OA_)(n t y:Nat)(U:w≠[]->B=some ⟨t,y,none⟩)(D:n=w.length)(p:Nat)(r:Rd)(ok:r.OK)(A:OA_)(c:Nat):
 Fn 81 [.pointer (some ⟨p,0,none⟩),.slice B n n] (ay (rF p A c r)) ([.seg t y (cj w)]++V.heap++rF p A c r) (mf p (r.end_ w)):=by
 subst D
 have bad:(w.length≠3\/r.most=-1\/r.arcs≠[])->mf p (r.end_ w) (af 2) (rF p A c r):=λ h=>by
  unfold Rd.end_;rw[if_pos h];exact⟨rfl,A,c,rfl⟩
 have hlen:=ok.len;refine aT Tryz.func81 λ w0=>?_;refine ao ?_;refine nB ?_;by_cases P:w.length=3
 case neg=>
  refine d7 11 rfl eS<|dY ?_;refine aB 18 (v':=.bool true) rfl rfl<|cX [3,10] ?_;refine eP ?_;exact aL [4,5] ⟨_,rfl,bad (.inl P)⟩
 obtain⟨X,f,d,rfl⟩:=Md P;obtain rfl:=U ai;refine dD 11 rfl ai<|dY ?_;refine ae [3] (bz (i:=4) (v:=af r.most) 4 rfl rfl rfl rfl) rfl<|dY ?_;by_cases j:r.most=-1
 ·refine d7 18 rfl j<|cX [3,10] ?_;refine eP ?_;exact aL [4,5] ⟨_,rfl,bad (.inr (.inl j))⟩
 refine dD 18 rfl j<|bX [3,10] ?_;refine ae [3,10] (bz (i:=3) (v:=.slice A r.arcs.length c) 4 rfl rfl rfl rfl) rfl<|cX [3,10] ?_;refine ak rfl (λ E=>?_) (λ E=>ag ?_)
 ·refine ao ?_;exact aL [4,5] ⟨_,rfl,bad (.inr (.inr (by rintro e;rw[e] at E;simp at E)))⟩
 have l:r.arcs=[]:=PB aa;refine ao ?_;refine iB (σ:={ q:Nat//Mz d q }) (λ q=>[(5,ap p q.1),(0,ap p 0),(1,ax t y 3 3)]) (λ _=>[.seg t y (cj [X,f,d])]++V.heap++rF p A c r) ?_ ?_
 ·refine am<|zn ?_;refine aG (a7 0 rfl rfl (eY (x:=d) rfl)) ?_;refine jb ?_;refine nB ?_;refine aN ?_;refine bB 34 (v':=.bool (dU (d=[115]))) rfl (M8 Value.bool (kR d [115]))<|ak rfl (λ F=>ag ?_) (λ F=>?_)
  ·exact⟨⟨1,.inl ⟨rfl,F⟩⟩,a8,aw.refl⟩
  refine nB ?_;refine aN ?_;refine bB 36 (v':=.bool (dU (d=[116]))) rfl (M8 Value.bool (kR d [116]))<|ak rfl (λ H=>?_) (λ H=>?_)
  ·refine ao ?_;exact⟨⟨2,.inr ⟨rfl,H⟩⟩,a8,aw.refl⟩
  ·refine ao ?_;refine aL [4,5] ⟨_,rfl,?_⟩;unfold Rd.end_;rw[if_neg (by simp[j,l]),if_neg (by simpa using F),if_neg (by simpa using H)];exact⟨rfl,A,c,rfl⟩
 rintro⟨q,z⟩
 have m:fP 3 (Lt r A c) q=some (af (r.at_ q)):=by
  rcases z with ⟨rfl,_⟩|⟨rfl,_⟩<;>rfl
 have o:∀ v:Int,rp 3 (Lt r A c) q (af v).cells.toList=some (Lt (r.put q v) A c):=by
  intro v
  rcases z with ⟨rfl,_⟩|⟨rfl,_⟩<;>rfl
 rw[Rd.end_at j l z];refine nB ?_;refine aG (bz 4 rfl rfl rfl m) ?_;refine aN ?_;refine ak rfl (λ I=>?_) (λ I=>ag ?_)
 ·refine ao ?_;refine aL [4,5] ⟨_,rfl,?_⟩;unfold Rd.endAt;rw[if_pos I];exact⟨rfl,A,c,rfl⟩
 refine zn ?_;refine aG (a7 0 rfl rfl (eY (x:=f) rfl)) ?_;refine dp λ g=>?_;refine fh (qo V [f] (λ x R=>hw x (by simp only[Nl,Nr,or_false] at R ⊢;exact .inr (.inl R))) ai _ 1 _ g 0 aE rfl) rfl ⟨en 0 rfl,⟨2,ai,rfl⟩,⟨3,ai,rfl⟩,⟨4,ai,rfl⟩,be⟩ ?_;rintro v H' ⟨An,cn,rfl,rfl⟩
 generalize K:aS [f]=Q
 have s:=λ h=>(oO (ws:=[f]) h).1;have M:=lo (ws:=[f]);rw[K] at s M;obtain⟨L,e⟩:=Q;refine aN ?_;refine am (au ?_);have z0:¬ r.at_ q≠0:=I
 have fold:∀ u:Rd×Int,(if e≠0 then (r,e) else if ¬ (1<=L.getD 0 0/\L.getD 0 0<=r.nodes) then (r,4) else if L.getD 0 0=r.src\/L.getD 0 0=r.snk then (r,5) else (r.put q (L.getD 0 0),0))=u->r.endAt q (L,e)=u:=λ u hu=>by
  unfold Rd.endAt;rw[if_neg z0];exact hu
 refine ao ?_;refine ak rfl (λ he=>?_) (λ he=>?_)
 ·refine ao ?_;exact aL [6,7] ⟨_,rfl,by rw[fold _ (if_pos he)];exact⟨rfl,A,c,rfl⟩⟩
 have N:e=0:=Nn.1 he
 obtain⟨a,rfl⟩:∃ a,L=[a]:=by
  match L,s N with
  |[a],_=>exact⟨a,rfl⟩
 refine aP (aH 0 rfl) (λ Y=>?_);obtain⟨g',rfl⟩:=Y.2.2.1 ai;simp only[List.getD_cons_zero] at fold;rw[if_neg he] at fold;refine am<|w7 ?_;refine cH (r8 p r A c a) rfl ⟨en 6 rfl,be⟩ ?_;refine aN ?_;by_cases C:1<=a/\a<=r.nodes
 case neg=>
  refine bB 58 (v':=.bool true) rfl (by rw[aZ C];rfl)<|eP ?_;exact aL [6,7] ⟨_,rfl,by rw[fold _ (if_pos C)];exact⟨rfl,A,c,rfl⟩⟩
 refine bB 58 (v':=.bool false) rfl (by rw[aV C];rfl)<|bu rfl<|?_;rw[if_neg (λ k=>k C)] at fold;refine am ?_
 have b:(a=r.src\/a=r.snk)->mf p (r.endAt q ([a],e)) (af 5) (rF p A c r):=λ h=>by
  rw[fold _ (if_pos h)];exact⟨rfl,A,c,rfl⟩
 refine cA ?_;refine bK 21 (dS [0,1,2,3,4,5,6,7,8,9,10,11,12,13,14,15,16,17,18,19,20]) [0,6] aW ab rfl<|yW ?_;refine bc rfl (aA (i:=0) 0 rfl rfl rfl (bq rfl)) ?_;refine a6 ?_;refine bc rfl (bz (i:=1) (v:=af r.src) 1 rfl rfl rfl rfl) ?_;refine a6 ?_;by_cases O:a=r.src
 ·refine dG 75 (v':=.bool true) rfl (M8 Value.bool (aV O))<|ib [9] rfl<|ah<|eP ?_;exact aL [6,7] ⟨_,rfl,b (.inl O)⟩
 refine dG 75 (v':=.bool false) rfl (M8 Value.bool (aZ O))<|mu [9] rfl<|aF [9] rfl (hU rfl ai) rfl<|aF [9] rfl (aA (i:=0) 0 rfl rfl rfl (bq rfl)) rfl<|mu [9] rfl<|aF [9] rfl (bz (i:=2) (v:=af r.snk) 1 rfl rfl rfl rfl) rfl<|?_;refine ib [9] rfl<|ah<|ak rfl (λ S=>?_) (λ S=>ag ?_)
 ·refine ao ?_;exact aL [6,7] ⟨_,rfl,b (.inr S)⟩
 refine cA ?_;refine w7 ?_;refine az ?_;refine uh 6 rfl rfl rfl rfl (o a) [] rfl<|cS ?_;refine aL [6,7] ⟨_,rfl,?_⟩;rw[fold _ (if_neg aa)];refine⟨rfl,A,c,?_⟩
 rcases z with ⟨rfl,_⟩|⟨rfl,_⟩<;>rfl
theorem LW(V:LibV)(w:Ws)(hw:∀ x∈w,x.length<=10000000)(hn:w.length<=10000000)(B:OA_)(n K M:Nat)(hB:w≠[]->B=some ⟨K,M,none⟩)(N:n=w.length)(p:Nat)(r:Rd)(ok:r.OK)(A:OA_)(c:Nat):
 Fn 82 [.pointer (some ⟨p,0,none⟩),.slice B n n] (ay (rF p A c r)) ([.seg K M (cj w)]++V.heap++rF p A c r) (mf p (r.arc w)):=by
 subst N
 have bad:(w.length≠4\/r.src=0\/r.snk=0)->mf p (r.arc w) (af 2) (rF p A c r):=λ h=>by
  unfold Rd.arc;rw[if_pos h];exact⟨rfl,A,c,rfl⟩
 have hlen:=ok.len;have Y:=ok.sum_ge;have hR:=ok.most_le;refine aT Tryz.func82 λ w0=>?_;refine ao ?_;refine nB ?_;by_cases Z:w.length=4
 case neg=>
  refine d7 11 rfl eS<|dY ?_;refine aB 19 (v':=.bool true) rfl rfl<|cX [3,11] ?_;refine eP ?_;exact aL [4,5] ⟨_,rfl,bad (.inl Z)⟩
 obtain⟨D,l,o,t,rfl⟩:=Mr Z;obtain rfl:=hB ai;refine dD 11 rfl ai<|dY ?_;refine ae [3] (bz (i:=1) (v:=af r.src) 4 rfl rfl rfl rfl) rfl<|dY ?_;by_cases E:r.src=0
 ·refine d7 19 rfl E<|cX [3,11] ?_;refine eP ?_;exact aL [4,5] ⟨_,rfl,bad (.inr (.inl E))⟩
 refine dD 19 rfl E<|bX [3,11] ?_;refine ae [3,11] (bz (i:=2) (v:=af r.snk) 4 rfl rfl rfl rfl) rfl<|cX [3,11] ?_;refine ak rfl (λ O=>?_) (λ O=>ag ?_)
 ·refine ao ?_;exact aL [4,5] ⟨_,rfl,bad (.inr (.inr O))⟩
 refine B1 ?_;refine fh (qo V [l,o,t] (λ x hx=>hw x (On _ hx)) ai _ 3 _ K (M+1) aE rfl) rfl ⟨gC 0 rfl (uI 1 (λ i=>by rw[PY];rfl)) (.inr rfl),⟨1,ai,rfl⟩,⟨2,ai,rfl⟩,⟨3,ai,rfl⟩,be⟩ ?_;rintro v H' ⟨An,cn,rfl,rfl⟩
 generalize hq:aS [l,o,t]=q
 have C:=λ h=>(oO (ws:=[l,o,t]) h).1;have u:=lo (ws:=[l,o,t]);rw[hq] at C u;obtain⟨L,e⟩:=q
 have good:∀ z:Rd×Int,(if e≠0 then (r,e) else
  if ¬ (1<=L.getD 0 0/\L.getD 0 0<=r.nodes)\/¬ (1<=L.getD 1 0/\L.getD 1 0<=r.nodes) then (r,4) else
  if L.getD 2 0<0 then (r,3) else if (r.arcs.length:Int)=r.most then (r,6) else
  if 4611686018427387903<r.sum+L.getD 2 0 then (r,7) else
  ({ r with sum:=r.sum+L.getD 2 0,arcs:=r.arcs++[⟨L.getD 0 0,L.getD 1 0,L.getD 2 0⟩] },0))=z->r.arc [D,l,o,t]=z:=λ z hz=>by
  unfold Rd.arc;rw[if_neg (by simp[E,O]),show List.drop 1 [D,l,o,t]=[l,o,t] from rfl,hq];exact hz
 refine aN ?_;refine am<|ao ?_;refine ak rfl (λ he=>?_) (λ he=>ag ?_)
 ·refine ao ?_;exact aL [5,6] ⟨_,rfl,by rw[good _ (if_pos he)];exact⟨rfl,A,c,rfl⟩⟩
 have P:e=0:=Nn.1 he
 obtain⟨a,b,d,rfl⟩:∃ a b d,L=[a,b,d]:=by
  match L,C P with
  |[a,b,d],_=>exact⟨a,b,d,rfl⟩
 refine aP (aH 0 rfl) (λ ho=>?_);obtain⟨g,rfl⟩:=ho.2.2.1 ai;have ha:b9 a:=u a ai;have hb:b9 b:=u b ai;have hd:b9 d:=u d ai;have Q:b9 r.sum:=by unfold b9;omega
 simp only[List.getD_cons_zero,List.getD_cons_succ] at good;rw[if_neg he] at good;refine cA ?_;refine bK 13 (dS [0,1,2,3,4,5,6]++[(7,false)]++dS [8,9,10,11,12]) [0,5] aW ab rfl<|a6 ?_;refine bc rfl (bz (i:=5) (v:=af r.sum) 1 rfl rfl rfl rfl) ?_;refine yW ?_;refine bc rfl (aA (i:=2) 0 rfl rfl rfl (bq rfl)) ?_;refine jM ?_;refine dB (Iw Q hd) rfl be ?_;refine jH ?_
 have y:((jL (r.sum+d)).2=0->(jL (r.sum+d)).1=r.sum+d)/\((jL (r.sum+d)).2≠0->0<=d->4611686018427387903<r.sum+d):=by
  unfold jL;split
  ·exact⟨λ _=>rfl,λ k=>absurd rfl k⟩
  ·rename_i R;refine⟨λ k=>by simp at k,λ _ h0=>?_⟩;unfold b9 at R;omega
 generalize jL (r.sum+d)=oe at y
 obtain⟨s,e2⟩:=oe;refine⟨rfl,bZ [0,5] ?_⟩;refine lh ?_;refine am (au ?_);refine am<|w7 ?_;refine cH (r8 p r A c a) rfl ⟨en 5 rfl,be⟩ ?_;refine az ?_
 have f:(¬ (1<=a/\a<=r.nodes)\/¬ (1<=b/\b<=r.nodes))->mf p (r.arc [D,l,o,t]) (af 4) (rF p A c r):=λ h=>by
  rw[good _ (if_pos h)];exact⟨rfl,A,c,rfl⟩
 by_cases F:1<=a/\a<=r.nodes
 case neg=>
  refine aB 54 (v':=.bool true) rfl (by rw[aZ F];rfl)<|cX [6] ?_;refine eP ?_;exact aL [5,6] ⟨_,rfl,f (.inl F)⟩
 refine aB 54 (v':=.bool false) rfl (by rw[aV F];rfl)<|bX [6] ?_;refine ae [6] (hU rfl ai) rfl<|ae [6] (aA (i:=1) 0 rfl rfl rfl (bq rfl)) rfl<|bj [6] (r8 p r A c b) rfl rfl rfl rfl aW ⟨en 5 rfl,be⟩ aE<|jP ?_;refine cX [6] ?_;by_cases H:1<=b/\b<=r.nodes
 case neg=>
  refine bB 47 (v':=.bool true) rfl (by rw[aZ H];rfl)<|eP ?_;exact aL [5,6] ⟨_,rfl,f (.inr H)⟩
 refine bB 47 (v':=.bool false) rfl (by rw[aV H];rfl)<|bu rfl<|?_;rw[if_neg (λ k=>k.elim (λ k=>k F) (λ k=>k H))] at good;refine am<|zn ?_;refine aG (aA (i:=2) 0 rfl rfl rfl (bq rfl)) ?_;refine aN ?_;refine ak rfl (λ S=>?_) (λ S=>?_)
 ·refine ao ?_;exact aL [5,6] ⟨_,rfl,by rw[good _ (if_pos S)];exact⟨rfl,A,c,rfl⟩⟩
 rw[if_neg S] at good;refine cA ?_;refine bK 12 (dS [0,1,2,3,4,5,6,7,8,9,10,11]) [5] aW ab rfl<|Ht ?_;refine ak rfl (λ U=>?_) (λ U=>?_)
 ·refine ao ?_;exact aL [5,6] ⟨_,rfl,by rw[good _ (if_pos U)];exact⟨rfl,A,c,rfl⟩⟩
 rw[if_neg U] at good
 have j:4611686018427387903<r.sum+d->mf p (r.arc [D,l,o,t]) (af 7) (rF p A c r):=λ h=>by
  rw[good _ (if_pos h)];exact⟨rfl,A,c,rfl⟩
 refine nB ?_;by_cases I:e2=0
 case neg=>
  refine d7 82 rfl I<|cX [2] ?_;refine eP ?_;exact aL [5,6] ⟨_,rfl,j (y.2 I aa)⟩
 refine dD 82 rfl (λ k=>k I)<|cX [2] ?_;have hs:s=r.sum+d:=y.1 I;refine ak rfl (λ X=>?_) (λ X=>ag ?_)
 ·refine ao ?_;exact aL [5,6] ⟨_,rfl,j (by rw[<- hs];exact X)⟩
 have hy:¬ 4611686018427387903<s:=X;rw[if_neg aa] at good;refine cA ?_;refine aI ?_;refine dz 5 ?_;refine iH ?_;refine bK 21 (dS [0,1,2,3,4,5,6,7,8,9,10,11,12,13,14,15]++[(16,false),(17,false)]++dS [18,19,20]) [0,5] aW ab rfl<|a6 ?_;refine bc rfl (bz (i:=3) (v:=.slice A r.arcs.length c) 1 rfl rfl rfl rfl) ?_;refine FI ?_;refine yW ?_;refine bc rfl (aA (i:=2) 0 rfl rfl rfl (bq rfl)) ?_;refine a6 ?_;refine za ?_;refine dp λ g2=>?_;refine bZ [1,6]<|cz ?_;refine bp (n:=r.arcs.length) (m:=1) (off:=0) (news:=arcs [eq.mk a b d]) 7 0 rfl rfl rfl rfl rfl rfl ab rfl rfl (aQ g2 _ _ (0,0)) aE rfl rfl aa aa (λ _ _=>rfl) λ A2 c2=>bZ [1,6]<|a6 ?_;refine cP<|dz 6 ?_;refine dw ?_;refine aL [6,7] ⟨_,rfl,?_⟩;rw[good _ rfl,<- hs];refine⟨rfl,A2,c2,?_⟩;rw[<- yu,show r.arcs.length+1=(r.arcs++[eq.mk a b d]).length by simp];rfl
variable {V:LibV} {bb ob:Nat} {w:Ws}
theorem DY(S:Heap)(a:S=[.seg bb ob (cj w)]++V.heap)(B:Value)(p:Nat)(r:Rd)(A:OA_)(c:Nat):Fn 79 [.pointer (some ⟨p,0,none⟩),B] (ay (rF p A c r)) (S++rF p A c r) λ v H'=>v=.int .i64 0/\H'=rF p A c r:=by
 subst a;refine aT Tryz.func79 λ w0=>?_;refine i6 ?_;exact aL [4,5] ⟨_,rfl,rfl,rfl⟩
theorem H0(S:Heap)(a:S=[.seg bb ob (cj w)]++V.heap)(B:Value)(p:Nat)(r:Rd)(A:OA_)(c:Nat):Fn 83 [.pointer (some ⟨p,0,none⟩),B] (ay (rF p A c r)) (S++rF p A c r) λ v H'=>v=.int .i64 2/\H'=rF p A c r:=by
 subst a;refine aT Tryz.func83 λ w0=>?_;refine i6 ?_;exact aL [4,5] ⟨_,rfl,rfl,rfl⟩
def L3(w:Ws):FuncId:=match w with
 |[]=>79
 |x::_=>if x=[99] then 79 else if x=[112] then 80 else if x=[110] then 81 else if x=[97] then 82 else 83
def Lv(B:OA_)(n:Nat)(f:FuncId):Value:=.agg #[.slice B n n,.func (.func f) #[] #[]]
theorem La(w:Ws)(g:w.length<=10000000)(B:OA_)(bb ob:Nat)(f:w≠[]->B=some ⟨bb,ob,none⟩):Fn 42 [.slice B w.length w.length] [] [.seg bb ob (cj w)] λ v H'=>v=Lv B w.length (L3 w)/\H'=[]:=by
 refine ie Tryz.func42 rfl rfl λ w0=>bA ?_;refine dM λ a=>?_;refine cS ?_;refine ak rfl (λ h=>?_) (λ h=>ag ?_)
 ·obtain rfl:w=[]:=PB aa;refine aI ?_;refine aG (v:=Lv B 0 79) (eF rfl rfl rfl rfl rfl rfl) ?_;refine qW ?_;exact⟨[_],[],_,⟨⟨a,0,_,_,rfl,rfl,rfl⟩,be⟩,ab,rfl,rfl,rfl⟩
 obtain⟨x,r,rfl⟩:∃ x r,w=x::r:=by
  match w,h with
  |x::r,_=>exact⟨x,r,rfl⟩
 obtain rfl:=f ai;refine am<|zn ?_;refine aG (a7 (i:=0) 1 rfl rfl (eY (l:=x::r) (x:=x) rfl)) ?_;refine jb ?_;refine ao ?_;refine bB 11 (v':=.bool (dU (x=[99]))) rfl (M8 Value.bool (kR x [99]))<|ak rfl (λ b=>?_) (λ b=>?_)
 ·refine aI ?_;refine aG (v:=Lv (aJ bb ob) (x::r).length (79)) (eF rfl rfl rfl rfl rfl rfl) ?_;refine qW ?_;refine⟨[_],[],_,⟨⟨a,0,_,_,rfl,rfl,rfl⟩,be⟩,ab,rfl,?_,rfl⟩;subst b;rfl
 refine ao ?_;refine bB 15 (v':=.bool (dU (x=[112]))) rfl (M8 Value.bool (kR x [112]))<|ak rfl (λ c=>?_) (λ c=>?_)
 ·refine aI ?_;refine aG (v:=Lv (aJ bb ob) (x::r).length (80)) (eF rfl rfl rfl rfl rfl rfl) ?_;refine qW ?_;refine⟨[_],[],_,⟨⟨a,0,_,_,rfl,rfl,rfl⟩,be⟩,ab,rfl,?_,rfl⟩;subst c;rfl
 refine ao ?_;refine bB 19 (v':=.bool (dU (x=[110]))) rfl (M8 Value.bool (kR x [110]))<|ak rfl (λ d=>?_) (λ d=>?_)
 ·refine aI ?_;refine aG (v:=Lv (aJ bb ob) (x::r).length (81)) (eF rfl rfl rfl rfl rfl rfl) ?_;refine qW ?_;refine⟨[_],[],_,⟨⟨a,0,_,_,rfl,rfl,rfl⟩,be⟩,ab,rfl,?_,rfl⟩;subst d;rfl
 refine ao ?_;refine bB 23 (v':=.bool (dU (x=[97]))) rfl (M8 Value.bool (kR x [97]))<|ak rfl (λ e=>?_) (λ e=>?_)
 ·refine aI ?_;refine aG (v:=Lv (aJ bb ob) (x::r).length (82)) (eF rfl rfl rfl rfl rfl rfl) ?_;refine qW ?_;refine⟨[_],[],_,⟨⟨a,0,_,_,rfl,rfl,rfl⟩,be⟩,ab,rfl,?_,rfl⟩;subst e;rfl
 refine ag<|aI ?_;refine aG (v:=Lv (aJ bb ob) (x::r).length (83)) (eF rfl rfl rfl rfl rfl rfl) ?_;refine qW ?_;refine⟨[_],[],_,⟨⟨a,0,_,_,rfl,rfl,rfl⟩,be⟩,ab,rfl,?_,rfl⟩;unfold L3;simp only[if_neg b,if_neg c,if_neg d,if_neg e];rfl
theorem HT(w:Ws):eg (L3 w)=true:=by
 unfold L3;split
 ·kernel_rfl
 ·split
  ·kernel_rfl
  ·split
   ·kernel_rfl
   ·split
    ·kernel_rfl
    ·split<;>kernel_rfl
theorem Ja(V:LibV)(w:Ws)(hw:∀ x∈w,x.length<=10000000)(f:w.length<=10000000)(B:OA_)(bb ob:Nat)(g:w≠[]->B=some ⟨bb,ob,none⟩)(p:Nat)(r:Rd)(ok:r.OK)(A:OA_)(c:Nat):
 Fn (L3 w) [.pointer (some ⟨p,0,none⟩),.slice B w.length w.length] (ay (rF p A c r)) ([.seg bb ob (cj w)]++V.heap++rF p A c r) (mf p (r.line w)):=by
 have j:Fn 79 [ap p 0,.slice B w.length w.length] (ay (rF p A c r)) ([.seg bb ob (cj w)]++V.heap++rF p A c r) (mf p (r,0)):=Fn.mono (DY _ rfl _ p r A c) λ v H' h=>⟨h.1,A,c,h.2⟩;have i:Fn 83 [ap p 0,.slice B w.length w.length] (ay (rF p A c r)) ([.seg bb ob (cj w)]++V.heap++rF p A c r) (mf p (r,2)):=Fn.mono (H0 _ rfl _ p r A c) λ v H' h=>⟨h.1,A,c,h.2⟩;unfold L3 Rd.line
 cases w with
 |nil=>exact j
 |cons x l=>
  simp only;by_cases a:x=[99]
  ·rw[if_pos a,if_pos a];exact j
  rw[if_neg a,if_neg a];by_cases b:x=[112]
  ·rw[if_pos b,if_pos b];exact Bq V _ hw f B _ bb ob g rfl p r ok A c
  rw[if_neg b,if_neg b];by_cases d:x=[110]
  ·rw[if_pos d,if_pos d];exact J8 V _ hw f B _ bb ob g rfl p r ok A c
  rw[if_neg d,if_neg d];by_cases e:x=[97]
  ·rw[if_pos e,if_pos e];exact LW V _ hw f B _ bb ob g rfl p r ok A c
  rw[if_neg e,if_neg e];exact i
end Go.Proofs.YtmcnpaelaieniaaGreatDoor
