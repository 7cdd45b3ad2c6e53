import Derived.Laws.Pointers
import Derived.Test.YtmcnpaelaieniaaGreatDoorQX136
import Derived.Lib.Join
/- A part of the proof. -/
set_option linter.unusedVariables false
set_option linter.unusedSimpArgs false
namespace Go.Proofs.YtmcnpaelaieniaaGreatDoor
open Go.RowKit
section
variable {X:Cx} {E:Env} {H:Heap}
end
theorem Kw{m:cO}(h:m.a=false)(l:LB_):m.lack l=9:=by unfold cO.lack;rw[if_pos h]
theorem Ep(m:cO)(b:m.a=false)(p:Nat)(sg:Int):Fn 22 [.pointer (some ⟨p,0,none⟩),.int .u8 sg] [] [.seg p 0 m.cells] λ v H'=>v=tg (0,9)/\H'=[]:=by
 refine aT Tryz.func22 λ w0=>?_;refine Hg ?_;rw[Kw b];refine cR ?_;refine ak rfl (λ _=>?_) (λ h=>absurd ab h);exact jS
open Lib
section
variable {X:Cx} {Q:fb} {E:Env} {H K:Heap}
theorem vO{w:World}{b e:Nat}{cs:LV_}(h:(blk b e cs).holds w):w.shape? b=some (e,cs.length):=by
 have a:w.heap[b]?=some (.cells cs.toArray e (0,0)):=h;simp[World.shape?,a]
theorem I9{o:Oper}{src dst t b i e:Nat}{x:Operand}{cs:LV_}{j:TypeInfo}(k:Nat)(d:o.op=.convert src dst x)(f:val E x=some (.pointer (some ⟨b,i,none⟩)))(g:H[k]?=some (blk b e cs))(h:Tryz.prog.underlying src=some (.pointer t))(l:Tryz.prog.underlying dst=some .unsafePointer)
 (m:Tryz.prog.info? t=some j) (n:j.size≠0) (hi:i<cs.length):i8 X o E H (.pointer (some ⟨b,i,none⟩)):=by
 intro a w p q;have c:=vO (q.holds _ (Nb g));have:=Lib.run_to_unsafe w ⟨b,i,none⟩ h l m n c hi;simp only[execOp,d,p.val f,Sem.run_bind,this,Result.andThen_ok];rfl
theorem Dy{o:Oper}{src dst t b i e:Nat}{x:Operand}{cs:LV_}{j:TypeInfo}(k:Nat)(d:o.op=.convert src dst x)(f:val E x=some (.pointer (some ⟨b,i,none⟩)))(g:H[k]?=some (blk b e cs))(h:Tryz.prog.underlying src=some .unsafePointer)(l:Tryz.prog.underlying dst=some (.pointer t))
 (m:Tryz.prog.info? t=some j) (hl:Go.liesAt Tryz.prog Tryz.prog.depth e (cs.length/Tryz.prog.cellsOf e) i t 1=true):i8 X o E H (.pointer (some ⟨b,i,none⟩)):=by
 intro a w n p;have c:=vO (p.holds _ (Nb g));have:=Lib.run_from_unsafe w ⟨b,i,none⟩ h l m c hl;simp only[execOp,d,n.val f,Sem.run_bind,this,Result.andThen_ok];rfl
theorem Dl{o:Oper}{x:Operand}{v:Value}{ts:Array TypeId}(c:o.op=.call ⟨.value (.func 118),#[x],ts⟩)(d:val E x=some v):i8 X o E H v:=by
 intro a w g j;have b:=run_callFunc_extern (P:=Tryz.prog) (f:=118) (e:=Extern.AbiNoEscape.same) Tryz.func118 aX aX aX aX #[v] w;rw[Lib.run_noEscape] at b;have h:(callFunc 118 #[v]).run Tryz.prog w=.ok (.value v) w:=b;have i:a.eval (.func 118)=.func (.func 118) #[] #[]:=rfl;simp[execOp,c,resolve,Deferred.ofValue,invoke,i,g.val d,h]
theorem DR{o:Oper}{t b:Nat}{x y:Operand}(ho:o.op=.binOp .eql t x y b)(hx:val E x=some (.pointer none))(hy:val E y=some (.pointer none))(h:Tryz.prog.underlying t=some (.pointer (Tryz.prog.pointee t))):i8 X o E H (.bool true):=by
 intro a w hA c;have hg:(eqGuard .eql t x y (.pointer none) (.pointer none)).run Tryz.prog w=.ok () w:=by simp[eqGuard]
 have hb:(binOp .eql t (.pointer none) (.pointer none)).run Tryz.prog w=.ok (.bool true) w:=run_eql_pointer_nil w t none h;refine HV ?_;rfl
end
def nf(e b:Nat)(p:Value)(A:OA_)(c:Nat)(m:LU_):Heap:=[blk b e [p,.slice A m.length c],.own (.slice A m.length c) 5 1 m.length (byteCells m)]
def Cp(e:Nat):Prop:=Go.liesAt Tryz.prog Tryz.prog.depth e (2/Tryz.prog.cellsOf e) 0 116 1=true
theorem Gb:∃ j,Tryz.prog.info? 116=some j/\j.size=2:=by
 obtain⟨_,j,_,h,_,a,_⟩:=eU (t:=116) rfl;exact⟨j,h,a⟩
theorem Bt(e b:Nat)(p v:Value)(he:Cp e)(hp:Kp b p):Fn 93 [.pointer (some ⟨b,0,none⟩)] (aC [blk b e [p,v]]) ([]++[blk b e [p,v]]) λ _ H'=>H'=[blk b e [.pointer (some ⟨b,0,none⟩),v]]:=by
 rcases hp with rfl|rfl
 case inr=>
  intro w hw;have hb:w.heap[b]?=some (.cells #[ap b 0,v] e (0,0)):=hw.holds _ (Pv ..);refine FA ?_;rintro x w' ⟨c,rfl⟩;exact⟨.tuple #[],_,c,hw,rfl⟩
 obtain⟨j,a,d⟩:=Gb;refine aT Tryz.func93 λ w0=>?_;refine aI ?_;refine bj (v:=.pointer none) 0 ?_;refine aF (v:=.bool true) (DR rfl rfl rfl aX) ?_;refine ah<|nJ ?_;refine aF (I9 0 rfl rfl rfl aX aX a aa (Nat.succ_pos 1)) ?_;refine aF (Dl rfl rfl) ?_;refine aF (Dy 0 rfl rfl rfl aX aX a he) ?_;refine mx ?_;exact⟨_,rfl,rfl⟩
theorem G2(e b:Nat)(p:Value)(he:Cp e)(hp:Kp b p)(A:OA_)(c:Nat)(m s:LU_)(hl:m.length+s.length<=1000000000000):Fn 53 [.pointer (some ⟨b,0,none⟩),dk s] (aC (nf e b p A c m)) ([]++nf e b p A c m)
 λ _ H'=>∃ (a:OA_) (d:Nat),H'=nf e b (.pointer (some ⟨b,0,none⟩)) a d (m++s):=by
 refine aT Tryz.func53 λ w0=>?_;refine c9 ?_;refine rW (fst:=[]) (cap:=[]) (Bt e b p _ he hp) rfl ay.refl an ?_;rintro v H' rfl;refine dQ ?_;refine aF (a8 (i:=1) (v:=.slice A m.length c) 0 rfl rfl rfl rfl) ?_;refine az ?_;refine qP (m:=s) 1 rfl rfl rfl rfl rfl rfl rfl aa (λ _ _=>rfl) λ a d=>az ?_;refine oa ?_;refine bN<|⟨_,rfl,a,d,?_⟩;unfold nf;rw[Nj,show byteCells (m++s)=byteCells m++byteCells s by simp[byteCells]];rfl
section
variable {X:Cx} {Q:fb} {E:Env} {H K:Heap}
theorem JP{G:Env}{ops l:List Oper}{o:Oper}{g c pt it:Nat}{x y:Operand}{m:LU_}(k:Nat)(N:o.op=.call ⟨.builtin .unsafeString,#[x,y],#[pt,it]⟩)(t:val E x=some (.pointer (some ⟨g,0,none⟩)))(O:val E y=some (.int .i64 (m.length:Int)))
 (u:H[k]?=some (.own (.slice (some ⟨g,0,none⟩) m.length c) 5 1 m.length (byteCells m))) (I:m≠[]) (hp:Tryz.prog.underlying pt=some (.pointer 5)) (z:Tryz.prog.cellsOf 5=1) (R:jD X.n ops [] E o (dk m)=some G) (h:JL X ops l Q G (H.set k (.seg 0 0 []))):JL X ops (o::l) Q E H:=by
 refine Kr [] R (λ a w L A=>?_) h;have f:w.ownsRow 0 5 1 (ax g 0 m.length c) m.length (byteCells m):=A.holds _ (Nb u);have M:0<m.length:=NM.2 I;obtain⟨hlen,S|⟨U,cap,cur,p,_,V,hle,B,Y,Z⟩⟩:=f
 ·exact absurd S.2 aa
 obtain⟨rfl,rfl⟩:g=U/\c=cap:=by
  simp only[Value.slice.injEq,Nc,Addr.mk.injEq] at p;exact⟨p.1.1,p.2.2⟩
 have b:∀ j x,m[j]?=some x->w.cell? ((⟨g,0,none⟩:Addr).add j)=some (.int .u8 x.toNat):=by
  intro j x t;refine World.ownsRow.cells (A.holds _ (Nb u)) (g:=g) rfl j _ ?_;simp[byteCells,t]
 have C:w.shape? g=some (5,cur.size):=by simp[World.shape?,V]
 have r:=run_unsafeString_row (P:=Tryz.prog) (w:=w) pt it o.type 5 hp z g cur.size C m I aa (by unfold maxLen at B;omega) b;refine⟨w.freeze ⟨g,0,none⟩ m.length,?_,?_⟩
 ·have D:(Builtin.unsafeString_ #[pt,it] o.type #[ap g 0,af (m.length:Int)]).run Tryz.prog w=.ok (dk m) (w.freeze ⟨g,0,none⟩ m.length):=r;simp[execOp,N,resolve,invoke,builtin,L.val t,L.val O,D]
 ·have F:∀ q,q≠g->(w.freeze ⟨g,0,none⟩ m.length).heap[q]?=w.heap[q]?:=by
   intro q s;unfold World.freeze;rw[if_neg aa];simp only[Array.getElem?_modify];rw[if_neg (λ e=>s e.symm)]
  have d:(w.freeze ⟨g,0,none⟩ m.length).heap.size=w.heap.size:=by
   unfold World.freeze;rw[if_neg aa];simp
  have e1:(w.freeze ⟨g,0,none⟩ m.length).os=w.os:=by unfold World.freeze;rw[if_neg aa]
  have e2:(w.freeze ⟨g,0,none⟩ m.length).tape=w.tape:=by unfold World.freeze;rw[if_neg aa]
  have e3:(w.freeze ⟨g,0,none⟩ m.length).output=w.output:=by unfold World.freeze;rw[if_neg aa]
  exact A.step k u e1 e2 e3 (by rw[d];exact Nr _) (λ q _ s=>F q (λ e=>s (by rw[e];rfl))) (λ i v p=>by simp at p) (λ q s=>by simp[aY.at_] at s)
theorem Ek{o:Oper}{x:Operand}{a:Addr}{n c:Nat}{ts:Array TypeId}(b:o.op=.call ⟨.builtin .unsafeSliceData,#[x],ts⟩)(d:val E x=some (.slice (some a) n c))(e:c≠0):i8 X o E H (.pointer (some a)):=by
 intro ac w f g;have:=run_unsafeSliceData_row (P:=Tryz.prog) (w:=w) ts o.type a n c e;simp[execOp,b,resolve,invoke,builtin,f.val d,this]
end
theorem zh(e b:Nat)(p:Value)(A:OA_)(c:Nat)(m:LU_)(d:m≠[]):Fn 55 [.pointer (some ⟨b,0,none⟩)] (aC (nf e b p A c m)) ([]++nf e b p A c m) λ v H'=>v=dk m/\H'=[]:=by
 have a:0<m.length:=NM.2 d;refine aT Tryz.func55 λ w0=>?_;refine ao ?_;refine aR (aH 1 rfl) λ ⟨_,i,f,_⟩=>?_;obtain⟨g,rfl⟩:=f a;refine cq ?_;refine Gu ?_;refine bh (v:=ax g 0 m.length c) rfl (ad 0 rfl) ?_;refine a9 ?_;refine bh (v:=ax g 0 m.length c) rfl (ad 0 rfl) ?_;refine jI ?_;refine aF (Ek rfl rfl aa) ?_;refine b6 [0]<|cz ?_;refine JP (m:=m) 1 rfl rfl rfl rfl d aX aX rfl<|b6 [0]<|ir ?_;exact nU
theorem eg{l:List (LU_)}{i:Nat}{x:LU_}(h:l[i]?=some x):fQ 9 (cv l) i=some (dk x):=x4 h
theorem yv{g:Nat}{A:OA_}{l:List (LU_)}(h:cv l≠[]->A=some ⟨g,0,none⟩):l≠[]->A=some ⟨g,0,none⟩:=λ a=>h (by simpa [cv] using a)
theorem nK(l:LU_):(aB l).length<=l.length+1:=by
 rw[Er];have:=List.count_le_length (a:=(10:UInt8)) (l:=l);split<;>omega
theorem mJ:∀ l cur:LU_,(da cur l).length<=l.length+(if cur=[] then 0 else 1)
 |[],cur=>by unfold da;split<;>simp
 |b::l,cur=>by
  unfold da;split
  ·split
   ·have:=mJ l [];simp at this ⊢;omega
   ·have:=mJ l [];simp at this ⊢;omega
  ·have:=mJ l (cur++[b]);simp at this;simp only[Nh];split<;>omega
theorem kB(l:LU_):(bB l).length<=l.length:=by
 have:=mJ l []
 simpa [bB] using this
theorem HE(A:OA_)(n c b o:Nat)(xs:List (LU_))(sep:LU_)(k:n=xs.length)(l:xs≠[]->A=some ⟨b,o,none⟩)(m:n<=c)(hl:(Lib.join xs sep).length<=140737488355328)(p:xs.length<=140737488355328):
 Fn 120 [.slice A n c,dk sep] [] [.seg b o (cv xs)] λ v H'=>v=dk (Lib.join xs sep)/\H'=[]:=by
 subst k;by_cases g:xs=[]
 ·subst g;exact Fn.of_below λ w _=>(Any.strings_Join_none Tryz.lays156 Tryz.Builder_Extra_156 A c ⟨sep.toArray⟩ w).mono λ e w' ⟨he,hw⟩=>⟨_,he,hw▸Below.refl _ _,rfl,rfl⟩
 ·obtain rfl:=l g;refine Fn.of_below λ w hw=>?_;have a:=hw.holds (.seg b o (cv xs)) ai
  have d:((xs.map λ x=>(⟨x.toArray⟩:ByteArray)).map (·.data.toList))=xs:=by
   rw[OG];exact (Ou λ x _=>(rfl:_=id x)).trans (List.map_id xs)
  have f:∀ (j:Nat) x,(xs.map λ x=>(⟨x.toArray⟩:ByteArray))[j]?=some x->w.cell? ⟨b,o+j,none⟩=some (.string x):=by
   intro j x i;rw[Nk] at i;obtain⟨y,q,rfl⟩:=Px.1 i;exact a j _ (x4 q)
  have h:b<w.heap.size:=by
   cases xs with
   |nil=>exact absurd rfl g
   |cons x r=>exact World.block_lt_of_cell? w _ (a 0 _ rfl)
  have T:=Any.strings_Join Tryz.lays156 Tryz.Builder_Extra_156 b o c (xs.map λ x=>(⟨x.toArray⟩:ByteArray)) ⟨sep.toArray⟩ w f h (by simpa using p) (by simpa using m) (by rw[d];exact hl);rw[Nm,d] at T;exact T.mono λ e w' ⟨he,s⟩=>⟨_,he,s,rfl,rfl⟩
theorem tW(A:OA_)(n c b o:Nat)(xs:List (LU_))(a:n=xs.length)(d:xs≠[]->A=some ⟨b,o,none⟩)(e:n<=c)(hl:(Lib.join xs [32]).length<=140737488355328)(f:xs.length<=140737488355328):
 Fn 95 [.slice A n c] [] [.seg b o (cv xs)] λ v H'=>v=dk (Lib.join xs [32])/\H'=[]:=by
 refine aT Tryz.func95 λ w0=>?_;refine ao ?_;refine gN ?_;refine cj (HE A n c b o xs [32] a d e hl f) rfl ⟨bz 0 rfl,an⟩ ?_;exact lG
def aJ:List (LU_)->LI_×Int
 |[]=>([],0)
 |w::r=>if (dA w).2≠0 then ([],(dA w).2) else if (aJ r).2≠0 then ([],(aJ r).2) else ((dA w).1::(aJ r).1,0)
theorem rr:∀ {ws:List (LU_)},(∀ w∈ws,(dA w).2=0)->aJ ws=(ws.map λ w=>(dA w).1,0)
 |[],_=>rfl
 |w::r,h=>by
  have a:=rr (ws:=r) λ x b=>h x (by simp[b]);unfold aJ;rw[if_neg (λ k=>k (h w ai)),a,if_neg (λ k=>k rfl)];rfl
theorem oJ:∀ {ws:List (LU_)} {k:Nat} {w:LU_},ws[k]?=some w->(∀ j x,j<k->ws[j]?=some x->(dA x).2=0)->(dA w).2≠0->aJ ws=([],(dA w).2)
 |[],k,w,h,_,_=>by simp at h
 |x::r,0,w,h,_,he=>by
  simp only[Ok,Nc] at h;subst h;unfold aJ;rw[if_pos he]
 |x::r,k+1,w,h,a,he=>by
  have b:=oJ (ws:=r) (k:=k) (w:=w) (by simpa using h) (λ j y d c=>a (j+1) y aa (by simpa using c)) he;unfold aJ;rw[if_neg (λ q=>q (a 0 x aa rfl)),b,if_pos he]
theorem oW{ws:List (LU_)}(h:(aJ ws).2=0):(aJ ws).1.length=ws.length/\∀ w∈ws,(dA w).2=0:=by
 induction ws with
 |nil=>exact⟨rfl,λ w hw=>absurd hw Nt⟩
 |cons w r d=>
  unfold aJ at h ⊢;by_cases a:(dA w).2≠0
  ·rw[if_pos a] at h;exact absurd h a
  ·rw[if_neg a] at h ⊢;by_cases b:(aJ r).2≠0
   ·rw[if_pos b] at h;exact absurd h b
   ·rw[if_neg b] at h ⊢;obtain⟨e,f⟩:=d (Classical.not_not.1 b);refine⟨by simp[e],fun x c=>?_⟩
    rcases Nn.1 c with rfl|c
    ·exact No.1 a
    ·exact f x c
theorem Lm(l:LU_):-9223372036854775808<=(dA l).1/\(dA l).1<=9223372036854775807:=by
 unfold dA;simp only;by_cases a:l.head?=some 45
 ·rw[if_pos a,if_pos a];split
  ·decide
  ·split
   ·simp only;omega
   ·decide
 ·rw[if_neg a,if_neg a];split
  ·decide
  ·split
   ·simp only;omega
   ·decide
theorem kZ{ws:List (LU_)}:∀ n∈(aJ ws).1,b7 n:=by
 induction ws with
 |nil=>exact λ n a=>absurd a Nt
 |cons w r b=>
  intro n a;unfold aJ at a;split at a
  ·exact absurd a Nt
  ·split at a
   ·exact absurd a Nt
   ·rcases Nn.1 a with rfl|a
    ·exact Lm w
    ·exact b n a
structure Rd where
 nodes:Int
 src:Int
 snk:Int
 arcs:List ej
 most:Int
 sum:Int
abbrev Ws:=List (LU_)
def Rd.problem(r:Rd)(w:Ws):Rd×Int:=
 if w.length≠4\/w[1]?≠some [109,97,120]\/r.most≠-1 then (r,2) else
 if (aJ (w.drop 2)).2≠0 then (r,(aJ (w.drop 2)).2) else
 if (aJ (w.drop 2)).1.getD 0 0<2\/500<(aJ (w.drop 2)).1.getD 0 0\/(aJ (w.drop 2)).1.getD 1 0<0\/2000<(aJ (w.drop 2)).1.getD 1 0 then (r,3) else
 ({ r with nodes:=(aJ (w.drop 2)).1.getD 0 0,most:=(aJ (w.drop 2)).1.getD 1 0 },0)
def Rd.end_(r:Rd)(w:Ws):Rd×Int:=
 if w.length≠3\/r.most=-1\/r.arcs≠[] then (r,2) else
 if w[2]?=some [115] then
  (if r.src≠0 then (r,2) else if (aJ [w.getD 1 []]).2≠0 then (r,(aJ [w.getD 1 []]).2) else
   if ¬ (1<=(aJ [w.getD 1 []]).1.getD 0 0/\(aJ [w.getD 1 []]).1.getD 0 0<=r.nodes) then (r,4) else
   if (aJ [w.getD 1 []]).1.getD 0 0=r.src\/(aJ [w.getD 1 []]).1.getD 0 0=r.snk then (r,5) else ({ r with src:=(aJ [w.getD 1 []]).1.getD 0 0 },0))
 else if w[2]?=some [116] then
  (if r.snk≠0 then (r,2) else if (aJ [w.getD 1 []]).2≠0 then (r,(aJ [w.getD 1 []]).2) else
   if ¬ (1<=(aJ [w.getD 1 []]).1.getD 0 0/\(aJ [w.getD 1 []]).1.getD 0 0<=r.nodes) then (r,4) else
   if (aJ [w.getD 1 []]).1.getD 0 0=r.src\/(aJ [w.getD 1 []]).1.getD 0 0=r.snk then (r,5) else ({ r with snk:=(aJ [w.getD 1 []]).1.getD 0 0 },0))
 else (r,2)
def Rd.arc(r:Rd)(w:Ws):Rd×Int:=
 if w.length≠4\/r.src=0\/r.snk=0 then (r,2) else
 if (aJ (w.drop 1)).2≠0 then (r,(aJ (w.drop 1)).2) else
 if ¬ (1<=(aJ (w.drop 1)).1.getD 0 0/\(aJ (w.drop 1)).1.getD 0 0<=r.nodes)\/¬ (1<=(aJ (w.drop 1)).1.getD 1 0/\(aJ (w.drop 1)).1.getD 1 0<=r.nodes) then (r,4) else
 if (aJ (w.drop 1)).1.getD 2 0<0 then (r,3) else
 if (r.arcs.length:Int)=r.most then (r,6) else
 if 4611686018427387903<r.sum+(aJ (w.drop 1)).1.getD 2 0 then (r,7) else
 ({ r with sum:=r.sum+(aJ (w.drop 1)).1.getD 2 0,arcs:=r.arcs++[⟨(aJ (w.drop 1)).1.getD 0 0,(aJ (w.drop 1)).1.getD 1 0,(aJ (w.drop 1)).1.getD 2 0⟩] },0)
def Rd.line(r:Rd)(w:Ws):Rd×Int:=
 match w with
 |[]=>(r,0)
 |x::_=>if x=[99] then (r,0) else if x=[112] then r.problem w else if x=[110] then r.end_ w else if x=[97] then r.arc w else (r,2)
structure Rd.OK (r:Rd):Prop where
 none:r.most=-1->r.arcs=[]/\r.src=0/\r.snk=0/\r.nodes=0
 some:r.most≠-1->(2<=r.nodes/\r.nodes<=500)/\0<=r.most/\r.most<=2000/\(r.arcs.length:Int)<=r.most
 src:r.src=0\/(1<=r.src/\r.src<=r.nodes)
 snk:r.snk=0\/(1<=r.snk/\r.snk<=r.nodes)
 diff:r.src=r.snk->r.src=0
 arc:∀ a∈r.arcs,(1<=a.fr/\a.fr<=r.nodes)/\(1<=a.to/\a.to<=r.nodes)/\0<=a.cap
 sum:(r.arcs.map (·.cap)).sum=r.sum
 most_le:r.sum<=4611686018427387903
theorem wX:∀ {l:LI_},(∀ x∈l,0<=x)->0<=l.sum
 |[],_=>by simp
 |x::l,h=>by
  have:=wX (l:=l) λ y a=>h y (by simp[a]);have:=h x ai;rw[ND];omega
theorem Rd.OK.sum_ge{r:Rd}(h:r.OK):0<=r.sum:=by
 rw[<- h.sum]
 exact wX λ x b=>by
  obtain⟨a,c,rfl⟩:=NF.1 b;exact (h.arc a c).2.2
theorem Rd.OK.len{r:Rd}(h:r.OK):r.arcs.length<=2000:=by
 by_cases hm:r.most=-1
 ·rw[(h.none hm).1];simp
 ·have:=h.some hm;omega
theorem Rd.OK.problem{r:Rd}(h:r.OK)(w:Ws):(r.problem w).1.OK:=by
 unfold Rd.problem;split
 ·exact h
 ·rename_i e;split
  ·exact h
  ·split
   ·exact h
   ·rename_i g i;have hm:r.most=-1:=Classical.byContradiction fun k=>e (.inr (.inr k));obtain⟨c,d,f,j⟩:=h.none hm;refine⟨fun k=>?_,fun _=>⟨⟨by simp only;omega,by simp only;omega⟩,by simp only;omega,by simp only;omega,?_⟩,.inl d,.inl f,fun _=>d,fun a b=>?_,h.sum,h.most_le⟩
    ·have l:(aJ (w.drop 2)).1.getD 1 0=-1:=k;omega
    ·show (r.arcs.length:Int)<=(aJ (w.drop 2)).1.getD 1 0;rw[c];show (0:Int)<=_;omega
    ·simp only at b;rw[c] at b;exact absurd b Nt
theorem Rd.OK.end_{r:Rd}(h:r.OK)(w:Ws):(r.end_ w).1.OK:=by
 unfold Rd.end_;split
 ·exact h
 ·rename_i d;have hm:r.most≠-1:=λ k=>d (.inr (.inl k));split
  ·split
   ·exact h
   ·split
    ·exact h
    ·split
     ·exact h
     ·split
      ·exact h
      ·rename_i e f b c;have a:=No.1 b;exact⟨λ k=>absurd k hm,h.some,.inr a,h.snk,λ k=>absurd (.inr k) c,h.arc,h.sum,h.most_le⟩
  ·split
   ·split
    ·exact h
    ·split
     ·exact h
     ·split
      ·exact h
      ·split
       ·exact h
       ·rename_i e f b c;have a:=No.1 b;exact⟨λ k=>absurd k hm,h.some,h.src,.inr a,λ k=>absurd (.inl k.symm) c,h.arc,h.sum,h.most_le⟩
   ·exact h
theorem Rd.OK.arc_{r:Rd}(h:r.OK)(w:Ws):(r.arc w).1.OK:=by
 unfold Rd.arc;split
 ·exact h
 ·rename_i g;split
  ·exact h
  ·split
   ·exact h
   ·split
    ·exact h
    ·split
     ·exact h
     ·split
      ·exact h
      ·rename_i i f j l m;have hm:r.most≠-1:=fun k=>g (.inr (.inl (h.none k).2.1));have c:=h.some hm;have d:=Classical.not_not.1 (fun k=>f (.inl k));have e:=Classical.not_not.1 (fun k=>f (.inr k));refine⟨fun k=>absurd k hm,fun _=>⟨c.1,c.2.1,c.2.2.1,?_⟩,h.src,h.snk,h.diff,fun a b=>?_,?_,by simp only;omega⟩
       ·simp only[Nj,Nh,NC];omega
       ·rcases Np.1 b with b|b
        ·exact h.arc a b
        ·obtain rfl:=Ni.1 b;exact⟨d,e,by simp only;omega⟩
       ·simp only[NI,ON,h.sum];simp
theorem Rd.OK.line{r:Rd}(h:r.OK)(w:Ws):(r.line w).1.OK:=by
 unfold Rd.line;split
 ·exact h
 ·split
  ·exact h
  ·split
   ·exact h.problem _
   ·split
    ·exact h.end_ _
    ·split
     ·exact h.arc_ _
     ·exact h
def tC:Rd:=⟨0,0,0,[],-1,0⟩
theorem Hv:tC.OK:=⟨λ _=>⟨rfl,rfl,rfl,rfl⟩,λ h=>absurd rfl h,.inl rfl,.inl rfl,λ _=>rfl,λ a b=>absurd b Nt,rfl,ab⟩
def fj(r:Rd)(i:Nat):List (LU_)->Rd×Nat×Int
 |[]=>(r,0,0)
 |x::ls=>if (r.line (bB x)).2≠0 then (r,i+1,(r.line (bB x)).2) else fj (r.line (bB x)).1 (i+1) ls
def nh:aV:=⟨0,0,0,[]⟩
def cN(s:LU_):aV×Nat×Int:=
 if (fj tC 0 (aB s)).2.2≠0 then (nh,(fj tC 0 (aB s)).2.1,(fj tC 0 (aB s)).2.2) else
 if (fj tC 0 (aB s)).1.most=-1\/(fj tC 0 (aB s)).1.src=0\/(fj tC 0 (aB s)).1.snk=0 then (nh,(aB s).length+1,2) else
 if ((fj tC 0 (aB s)).1.arcs.length:Int)<(fj tC 0 (aB s)).1.most then (nh,(aB s).length+1,6) else
 (⟨(fj tC 0 (aB s)).1.nodes,(fj tC 0 (aB s)).1.src,(fj tC 0 (aB s)).1.snk,(fj tC 0 (aB s)).1.arcs⟩,0,0)
theorem Rd.OK.read{r:Rd}(h:r.OK)(i:Nat)(ls:List (LU_)):(fj r i ls).1.OK:=by
 induction ls generalizing r i with
 |nil=>exact h
 |cons x ls a=>
  unfold fj;split
  ·exact h
  ·exact a (h.line _) _
theorem sK{s:LU_}(h:(cN s).2.2=0):(cN s).1.Right/\(cN s).2.1=0:=by
 have ok:=Hv.read 0 (aB s);unfold cN at h ⊢;split
 ·rename_i b;rw[if_pos b] at h;exact absurd h b
 ·rename_i b;rw[if_neg b] at h;split
  ·rename_i a;rw[if_pos a] at h;cases h
  ·rename_i a;rw[if_neg a] at h;split
   ·rename_i c;rw[if_pos c] at h;cases h
   ·rename_i c;refine⟨⟨?_,?_,?_,?_,ok.len,ok.arc,?_⟩,rfl⟩
    ·exact (ok.some λ k=>a (.inl k)).1
    ·exact ok.src.resolve_left λ k=>a (.inr (.inl k))
    ·exact ok.snk.resolve_left λ k=>a (.inr (.inr k))
    ·exact λ k=>a (.inr (.inl (ok.diff k)))
    ·simp only;rw[ok.sum];exact ok.most_le
def Ma(A:OA_)(n c:Nat)(e:Int):Value:=.tuple #[.slice A n c,.int .i64 e]
theorem qt(V:LibV)(ws:List (LU_))(hw:∀ x∈ws,x.length<=10000000)(D:ws.length<=10000000)(B:OA_)(n s f i:Nat)(t:ws≠[]->B=some ⟨f,i,none⟩)(l:n=ws.length):
 Fn 110 [.slice B n s] [] ([.seg f i (cv ws)]++V.heap) λ v H'=>∃ (A:OA_) (c:Nat),v=Ma A (aJ ws).1.length c (aJ ws).2/\H'=[.own (.slice A (aJ ws).1.length c) 2 1 (aJ ws).1.length (aj (aJ ws).1)]:=by
 subst l;refine aT Tryz.func110 λ w0=>?_;refine c9 ?_;refine cX (n:=ws.length) (c:=ws.length) rfl rfl rfl rfl rfl rfl aa aa aa aK λ g=>?_;rw[show made [af 0] (ws.length*1)=aj (List.replicate ws.length 0) by rw[c8,NT];simp[aj]];refine cR ?_;refine aq ?_
 refine bP (σ:=Nat) (λ k=>[(14,af k),(13,af ws.length),(12,.slice B ws.length s),(4,ax g 0 ws.length ws.length)]) (λ k=>[.own (ax g 0 ws.length ws.length) 2 1 ws.length (aj ((ws.take k).map (λ w=>(dA w).1)++List.replicate (ws.length-k) 0)),.seg f i (cv ws)]++V.heap)
  (λ k=>k<=ws.length/\∀ j x,j<k->ws[j]?=some x->(dA x).2=0) (λ k=>ws.length-k) 0 [0,1,2,3,4] a7 ab rfl ⟨Nl _,λ j x h=>by omega⟩ ?_
 rintro k ⟨E,a⟩;refine ao ?_;refine am (ak rfl (λ u=>ag ?_) (λ z=>aO ?_))
 ·have hlt':k<ws.length:=by omega
  obtain⟨x,hx⟩:∃ x,ws[k]?=some x:=⟨ws[k],be hlt'⟩;obtain rfl:=t (by rintro rfl;simp at hlt');have C:=hw x (Nb hx);refine am (aq ?_);refine GW ?_;refine ak rfl (λ he=>?_) (λ he=>ag ?_)
  ·have b:=oJ hx a he;refine ao ?_;refine bX 2 1<|aM [0] ⟨_,rfl,none,0,?_,?_⟩
   ·rw[b];rfl
   ·rw[b];rfl
  ·have m:(dA x).2=0:=No.1 he;refine Ii ?_;refine⟨k+1,[0,1,2,3,4],⟨?_,rfl,rfl,rfl,an⟩,ab,?_,⟨aa,λ j y o p=>?_⟩,aa⟩
   ·refine fy ?_;rw[cp aa];rfl
   ·have:((ws.take k).map (λ w=>(dA w).1)++List.replicate (ws.length-k) 0).set k (dA x).1=(ws.take (k+1)).map (λ w=>(dA w).1)++List.replicate (ws.length-(k+1)) 0:=by
     have hl:((ws.take k).map (λ w=>(dA w).1)).length=k:=by rw[Nm,NE];omega
     refine F6 ?_;simp
    rw[<- this];simp only[NR];rfl
   ·by_cases e:j=k
    ·subst e;rw[hx] at p;obtain rfl:=NK p;exact m
    ·exact a j y aa p
 have q:k=ws.length:=aa;subst q
 have d:=rr (ws:=ws) λ w r=>by
  obtain⟨j,o,e⟩:=Pq r;exact a j w o (by rw[be o,e])
 refine xo ?_;refine ao ?_;refine aM [0] ⟨_,rfl,aL g 0,ws.length,?_,?_⟩
 ·rw[d];simp only[Nm];rfl
 ·rw[d];simp only[Nm]
def Ln(r:Rd)(A:OA_)(c:Nat):LV_:=[.int .i64 r.nodes,.int .i64 r.src,.int .i64 r.snk,.slice A r.arcs.length c,.int .i64 r.most,.int .i64 r.sum]
def rK(p:Nat)(A:OA_)(c:Nat)(r:Rd):Heap:=[blk p 91 (Ln r A c),.own (.slice A r.arcs.length c) 37 3 r.arcs.length (arcs r.arcs)]
theorem sb(p:Nat)(r:Rd)(A:OA_)(c:Nat)(v:Int):Fn 111 [.pointer (some ⟨p,0,none⟩),.int .i64 v] [] [.seg p 0 (Ln r A c)] λ u H'=>u=.bool (dR (1<=v/\v<=r.nodes))/\H'=[]:=by
 refine aT Tryz.func111 λ w0=>?_;refine mM ?_;refine nG ?_;by_cases h:1<=v
 ·refine dt 7 rfl h<|eq ?_;refine ae [2] (aZ (i:=0) (v:=af r.nodes) 0 rfl rfl rfl) rfl<|cW [2] ?_;exact aM [] ⟨_,rfl,Na Value.bool (ey ⟨λ k=>⟨h,k⟩,λ k=>k.2⟩),rfl⟩
 ·refine dc 7 rfl h<|cW [2] ?_;exact aM [] ⟨_,rfl,Na Value.bool (aU (λ k=>h k.1)).symm,rfl⟩
def l5(p:Nat)(q:Rd×Int)(v:Value)(H':Heap):Prop:=v=.int .i64 q.2/\∃ (A':OA_) (c':Nat),H'=rK p A' c' q.1
theorem uw{b off:Nat}(k:Nat){l m:List (LU_)}(h:∀ i:Nat,l[k+i]?=m[i]?):(aY.seg b off (cv l)).shows b (off+k) (cv m):=λ w hw i v a=>by
 have d:(cv l)[k+i]?=some v:=by
  unfold cv at a ⊢;rw[Nk] at a ⊢;rw[h i];exact a
 have c:=hw (k+i) v d;rw[<- N7] at c;exact c
theorem Mw{w:Ws}(h:w.length=4):∃ a b c d,w=[a,b,c,d]:=by
 match w,h with
 |[a,b,c,d],_=>exact⟨a,b,c,d,rfl⟩
theorem Av(V:LibV)(w:Ws)(hw:∀ x∈w,x.length<=10000000)(X:w.length<=10000000)(B:OA_)(n y C:Nat)(P:w≠[]->B=some ⟨y,C,none⟩)(D:n=w.length)(p:Nat)(r:Rd)(ok:r.OK)(A:OA_)(c:Nat):
 Fn 80 [.pointer (some ⟨p,0,none⟩),.slice B n n] (aC (rK p A c r)) ([.seg y C (cv w)]++V.heap++rK p A c r) (l5 p (r.problem w)):=by
 subst D
 have bad:(w.length≠4\/w[1]?≠some [109,97,120]\/r.most≠-1)->l5 p (r.problem w) (af 2) (rK p A c r):=λ h=>by
  unfold Rd.problem;rw[if_pos h];exact⟨rfl,A,c,rfl⟩
 refine aT Tryz.func80 λ w0=>?_;refine ao ?_;refine mA ?_;by_cases M:w.length=4
 ·obtain⟨E,N,f,j,rfl⟩:=Mw M;obtain rfl:=P ai;refine dc 10 rfl ai<|ek ?_;refine ae [3] (gq rfl ai) rfl<|ae [3] (aZ 0 rfl rfl (eg (x:=N) rfl)) rfl<|ae [3] (B5 (m:=[109,97,120]) rfl rfl rfl) rfl<|ek ?_;by_cases F:N=[109,97,120]
  ·subst F;refine dc 16 rfl ai<|bp [9] ?_;refine ae [9] (a8 (i:=4) (v:=af r.most) 4 rfl rfl rfl rfl) rfl<|cW [9] ?_;refine ak rfl (λ H=>?_) (λ H=>ag ?_)
   ·refine ao ?_;exact aM [4,5] ⟨_,rfl,bad (.inr (.inr H))⟩
   have I:r.most=-1:=No.1 H;refine aI ?_;refine aF (f5 (i:=2) rfl rfl rfl rfl rfl ai) ?_;refine eW (qt V [f,j] (λ x Q=>hw x (Pm _ (Pm _ Q))) ai _ 2 _ y (C+2) aK rfl) rfl ⟨fX 0 rfl (uw 2 (λ i=>by rw[P0];rfl)) (.inr rfl),⟨1,ai,rfl⟩,⟨2,ai,rfl⟩,⟨3,ai,rfl⟩,an⟩ ?_;rintro v H' ⟨An,cn,rfl,rfl⟩
   generalize O:aJ [f,j]=q
   have t:=λ h=>(oW (ws:=[f,j]) h).1;have k:=kZ (ws:=[f,j]);rw[O] at t k;obtain⟨L,e⟩:=q
   have good:∀ z:Rd×Int,(if e≠0 then (r,e) else if L.getD 0 0<2\/500<L.getD 0 0\/L.getD 1 0<0\/2000<L.getD 1 0 then (r,3) else ({ r with nodes:=L.getD 0 0,most:=L.getD 1 0 },0))=z->r.problem [E,[109,97,120],f,j]=z:=λ z R=>by
    unfold Rd.problem;rw[if_neg (by simp[I]),show List.drop 2 [E,[109,97,120],f,j]=[f,j] from rfl,O];exact R
   refine aN ?_;refine am (aq ?_);refine ao ?_;refine ak rfl (λ he=>?_) (λ he=>?_)
   ·refine ao ?_;exact aM [5,6] ⟨_,rfl,by rw[good _ (if_pos he)];exact⟨rfl,A,c,rfl⟩⟩
   have K:e=0:=No.1 he;have S:=t K
   obtain⟨a,b,rfl⟩:∃ a b,L=[a,b]:=by
    match L,S with
    |[a,b],_=>exact⟨a,b,rfl⟩
   refine aR (aH 0 rfl) (λ U=>?_);obtain⟨g,rfl⟩:=U.2.2.1 ai;have Y:b7 a:=k a ai;have Z:b7 b:=k b ai;simp only[List.getD_cons_zero,List.getD_cons_succ] at good;rw[if_neg he] at good;refine am<|xC ?_;refine az ?_
   have d:(a<2\/500<a\/b<0\/2000<b)->l5 p (r.problem [E,[109,97,120],f,j]) (af 3) (rK p A c r):=λ h=>by
    rw[good _ (if_pos h)];exact⟨rfl,A,c,rfl⟩
   by_cases l:a<2
   ·refine dt 38 rfl l<|bp [4] ?_;refine aA 44 (v':=.bool true) rfl rfl<|bp [4,10] ?_;refine aA 50 (v':=.bool true) rfl rfl<|cW [4,10,16] ?_;refine eu ?_;exact aM [5,6] ⟨_,rfl,d (.inl l)⟩
   refine dc 38 rfl l<|bp [4] ?_;refine ae [4] (gq rfl ai) rfl<|ae [4] (aw (i:=0) 0 rfl rfl rfl (bI rfl)) rfl<|bp [4] ?_;by_cases o:500<a
   ·refine dt 44 rfl o<|bp [4,10] ?_;refine aA 50 (v':=.bool true) rfl rfl<|cW [4,10,16] ?_;refine eu ?_;exact aM [5,6] ⟨_,rfl,d (.inr (.inl o))⟩
   refine dc 44 rfl o<|bp [4,10] ?_;refine ae [4,10] (gq rfl ai) rfl<|ae [4,10] (aw (i:=1) 0 rfl rfl rfl (bI rfl)) rfl<|bp [4,10] ?_;by_cases s:b<0
   ·refine dt 50 rfl s<|cW [4,10,16] ?_;refine eu ?_;exact aM [5,6] ⟨_,rfl,d (.inr (.inr (.inl s)))⟩
   refine dc 50 rfl s<|bp [4,10,16] ?_;refine ae [4,10,16] (gq rfl ai) rfl<|ae [4,10,16] (aw (i:=1) 0 rfl rfl rfl (bI rfl)) rfl<|cW [4,10,16] ?_;refine ak rfl (λ u=>?_) (λ u=>ag ?_)
   ·refine ao ?_;exact aM [5,6] ⟨_,rfl,d (.inr (.inr (.inr u)))⟩
   refine cq ?_;refine bM 15 (dT [0,1,2,3,4,5,6,7,8,9,10]++[(11,false)]++dT [12,13]++[(14,false)]) [0] aX ab rfl<|HW ?_;refine jI ?_;refine dE 5 ?_;refine b6 [0]<|jI ?_;refine dE 5 ?_;refine b6 [0]<|cM (ah ?_);refine ao ?_;exact aM [5,6] ⟨_,rfl,by rw[good _ (if_neg aa)];exact⟨rfl,A,c,rfl⟩⟩
  ·refine dt 16 rfl F<|cW [9] ?_;refine iL ?_;exact aM [4,5] ⟨_,rfl,bad (.inr (.inl (by simpa using F)))⟩
 ·refine dt 10 rfl eK<|ek ?_;refine aA 16 (v':=.bool true) rfl rfl<|cW [3,9] ?_;refine eu ?_;refine cq ?_;exact aM [4,5] ⟨_,rfl,bad (.inl M)⟩
theorem Mf{w:Ws}(h:w.length=3):∃ a b c,w=[a,b,c]:=by
 match w,h with
 |[a,b,c],_=>exact⟨a,b,c,rfl⟩
def Rd.at_(r:Rd)(q:Nat):Int:=if q=1 then r.src else r.snk
def Rd.put(r:Rd)(q:Nat)(v:Int):Rd:=if q=1 then { r with src:=v } else { r with snk:=v }
def Rd.endAt(r:Rd)(q:Nat)(n:LI_×Int):Rd×Int:=
 if r.at_ q≠0 then (r,2) else if n.2≠0 then (r,n.2) else
 if ¬ (1<=n.1.getD 0 0/\n.1.getD 0 0<=r.nodes) then (r,4) else
 if n.1.getD 0 0=r.src\/n.1.getD 0 0=r.snk then (r,5) else (r.put q (n.1.getD 0 0),0)
def ME(x:LU_)(q:Nat):Prop:=q=1/\x=[115]\/q=2/\x=[116]
theorem Rd.end_at{r:Rd}{b a c:LU_}{q:Nat}(hm:r.most≠-1)(d:r.arcs=[])(e:ME c q):r.end_ [b,a,c]=r.endAt q (aJ [a]):=by
 unfold Rd.end_ Rd.endAt;rw[if_neg (by simp[hm,d])]
 rcases e with ⟨rfl,rfl⟩|⟨rfl,rfl⟩
 ·rw[if_pos (show [b,a,[115]][2]?=some [115] from rfl)];rfl
 ·rw[if_neg (show ¬ [b,a,[116]][2]?=some [115] by simp),if_pos (show [b,a,[116]][2]?=some [116] from rfl)];rfl
theorem IZ(V:LibV)(w:Ws)(hw:∀ x∈w,x.length<=10000000)(Z:w.length<=10000000)(B:OA_)(n t y:Nat)(U:w≠[]->B=some ⟨t,y,none⟩)(D:n=w.length)(p:Nat)(r:Rd)(ok:r.OK)(A:OA_)(c:Nat):
 Fn 81 [.pointer (some ⟨p,0,none⟩),.slice B n n] (aC (rK p A c r)) ([.seg t y (cv w)]++V.heap++rK p A c r) (l5 p (r.end_ w)):=by
 subst D
 have bad:(w.length≠3\/r.most=-1\/r.arcs≠[])->l5 p (r.end_ w) (af 2) (rK p A c r):=λ h=>by
  unfold Rd.end_;rw[if_pos h];exact⟨rfl,A,c,rfl⟩
 have hlen:=ok.len;refine aT Tryz.func81 λ w0=>?_;refine ao ?_;refine mA ?_;by_cases P:w.length=3
 case neg=>
  refine dt 11 rfl eK<|ek ?_;refine aA 18 (v':=.bool true) rfl rfl<|cW [3,10] ?_;refine eu ?_;exact aM [4,5] ⟨_,rfl,bad (.inl P)⟩
 obtain⟨X,f,d,rfl⟩:=Mf P;obtain rfl:=U ai;refine dc 11 rfl ai<|ek ?_;refine ae [3] (a8 (i:=4) (v:=af r.most) 4 rfl rfl rfl rfl) rfl<|ek ?_;by_cases j:r.most=-1
 ·refine dt 18 rfl j<|cW [3,10] ?_;refine eu ?_;exact aM [4,5] ⟨_,rfl,bad (.inr (.inl j))⟩
 refine dc 18 rfl j<|bp [3,10] ?_;refine ae [3,10] (a8 (i:=3) (v:=.slice A r.arcs.length c) 4 rfl rfl rfl rfl) rfl<|cW [3,10] ?_;refine ak rfl (λ E=>?_) (λ E=>ag ?_)
 ·refine ao ?_;exact aM [4,5] ⟨_,rfl,bad (.inr (.inr (by rintro e;rw[e] at E;simp at E)))⟩
 have l:r.arcs=[]:=PB aa;refine ao ?_;refine iv (σ:={ q:Nat//ME d q }) (λ q=>[(5,ap p q.1),(0,ap p 0),(1,ax t y 3 3)]) (λ _=>[.seg t y (cv [X,f,d])]++V.heap++rK p A c r) ?_ ?_
 ·refine am<|y7 ?_;refine aF (aZ 0 rfl rfl (eg (x:=d) rfl)) ?_;refine iZ ?_;refine mA ?_;refine aN ?_;refine bD 34 (v':=.bool (dR (d=[115]))) rfl (Na Value.bool (iS d [115]))<|ak rfl (λ F=>ag ?_) (λ F=>?_)
  ·exact⟨⟨1,.inl ⟨rfl,F⟩⟩,a7,ay.refl⟩
  refine mA ?_;refine aN ?_;refine bD 36 (v':=.bool (dR (d=[116]))) rfl (Na Value.bool (iS d [116]))<|ak rfl (λ H=>?_) (λ H=>?_)
  ·refine ao ?_;exact⟨⟨2,.inr ⟨rfl,H⟩⟩,a7,ay.refl⟩
  ·refine ao ?_;refine aM [4,5] ⟨_,rfl,?_⟩;unfold Rd.end_;rw[if_neg (by simp[j,l]),if_neg (by simpa using F),if_neg (by simpa using H)];exact⟨rfl,A,c,rfl⟩
 rintro⟨q,z⟩
 have m:fQ 3 (Ln r A c) q=some (af (r.at_ q)):=by
  rcases z with ⟨rfl,_⟩|⟨rfl,_⟩<;>rfl
 have o:∀ v:Int,rj 3 (Ln r A c) q (af v).cells.toList=some (Ln (r.put q v) A c):=by
  intro v
  rcases z with ⟨rfl,_⟩|⟨rfl,_⟩<;>rfl
 rw[Rd.end_at j l z];refine mA ?_;refine aF (a8 4 rfl rfl rfl m) ?_;refine aN ?_;refine ak rfl (λ I=>?_) (λ I=>ag ?_)
 ·refine ao ?_;refine aM [4,5] ⟨_,rfl,?_⟩;unfold Rd.endAt;rw[if_pos I];exact⟨rfl,A,c,rfl⟩
 refine y7 ?_;refine aF (aZ 0 rfl rfl (eg (x:=f) rfl)) ?_;refine dp λ g=>?_;refine eW (qt V [f] (λ x R=>hw x (by simp only[Nn,Nt,or_false] at R ⊢;exact .inr (.inl R))) ai _ 1 _ g 0 aK rfl) rfl ⟨ew 0 rfl,⟨2,ai,rfl⟩,⟨3,ai,rfl⟩,⟨4,ai,rfl⟩,an⟩ ?_;rintro v H' ⟨An,cn,rfl,rfl⟩
 generalize K:aJ [f]=Q
 have s:=λ h=>(oW (ws:=[f]) h).1;have M:=kZ (ws:=[f]);rw[K] at s M;obtain⟨L,e⟩:=Q;refine aN ?_;refine am (aq ?_);have z0:¬ r.at_ q≠0:=I
 have fold:∀ u:Rd×Int,(if e≠0 then (r,e) else if ¬ (1<=L.getD 0 0/\L.getD 0 0<=r.nodes) then (r,4) else if L.getD 0 0=r.src\/L.getD 0 0=r.snk then (r,5) else (r.put q (L.getD 0 0),0))=u->r.endAt q (L,e)=u:=λ u hu=>by
  unfold Rd.endAt;rw[if_neg z0];exact hu
 refine ao ?_;refine ak rfl (λ he=>?_) (λ he=>?_)
 ·refine ao ?_;exact aM [6,7] ⟨_,rfl,by rw[fold _ (if_pos he)];exact⟨rfl,A,c,rfl⟩⟩
 have N:e=0:=No.1 he
 obtain⟨a,rfl⟩:∃ a,L=[a]:=by
  match L,s N with
  |[a],_=>exact⟨a,rfl⟩
 refine aR (aH 0 rfl) (λ Y=>?_);obtain⟨g',rfl⟩:=Y.2.2.1 ai;simp only[List.getD_cons_zero] at fold;rw[if_neg he] at fold;refine am<|xC ?_;refine cj (sb p r A c a) rfl ⟨ew 6 rfl,an⟩ ?_;refine aN ?_;by_cases C:1<=a/\a<=r.nodes
 case neg=>
  refine bD 58 (v':=.bool true) rfl (by rw[aU C];rfl)<|eu ?_;exact aM [6,7] ⟨_,rfl,by rw[fold _ (if_pos C)];exact⟨rfl,A,c,rfl⟩⟩
 refine bD 58 (v':=.bool false) rfl (by rw[aQ C];rfl)<|bo rfl<|?_;rw[if_neg (λ k=>k C)] at fold;refine am ?_
 have b:(a=r.src\/a=r.snk)->l5 p (r.endAt q ([a],e)) (af 5) (rK p A c r):=λ h=>by
  rw[fold _ (if_pos h)];exact⟨rfl,A,c,rfl⟩
 refine cq ?_;refine bM 21 (dT [0,1,2,3,4,5,6,7,8,9,10,11,12,13,14,15,16,17,18,19,20]) [0,6] aX ab rfl<|x5 ?_;refine bh rfl (aw (i:=0) 0 rfl rfl rfl (bI rfl)) ?_;refine a9 ?_;refine bh rfl (a8 (i:=1) (v:=af r.src) 1 rfl rfl rfl rfl) ?_;refine a9 ?_;by_cases O:a=r.src
 ·refine dK 75 (v':=.bool true) rfl (Na Value.bool (aQ O))<|hZ [9] rfl<|ah<|eu ?_;exact aM [6,7] ⟨_,rfl,b (.inl O)⟩
 refine dK 75 (v':=.bool false) rfl (Na Value.bool (aU O))<|my [9] rfl<|aG [9] rfl (gq rfl ai) rfl<|aG [9] rfl (aw (i:=0) 0 rfl rfl rfl (bI rfl)) rfl<|my [9] rfl<|aG [9] rfl (a8 (i:=2) (v:=af r.snk) 1 rfl rfl rfl rfl) rfl<|?_;refine hZ [9] rfl<|ah<|ak rfl (λ S=>?_) (λ S=>ag ?_)
 ·refine ao ?_;exact aM [6,7] ⟨_,rfl,b (.inr S)⟩
 refine cq ?_;refine xC ?_;refine az ?_;refine ur 6 rfl rfl rfl rfl (o a) [] rfl<|cR ?_;refine aM [6,7] ⟨_,rfl,?_⟩;rw[fold _ (if_neg aa)];refine⟨rfl,A,c,?_⟩
 rcases z with ⟨rfl,_⟩|⟨rfl,_⟩<;>rfl
theorem K6(V:LibV)(w:Ws)(hw:∀ x∈w,x.length<=10000000)(hn:w.length<=10000000)(B:OA_)(n K M:Nat)(hB:w≠[]->B=some ⟨K,M,none⟩)(N:n=w.length)(p:Nat)(r:Rd)(ok:r.OK)(A:OA_)(c:Nat):
 Fn 82 [.pointer (some ⟨p,0,none⟩),.slice B n n] (aC (rK p A c r)) ([.seg K M (cv w)]++V.heap++rK p A c r) (l5 p (r.arc w)):=by
 subst N
 have bad:(w.length≠4\/r.src=0\/r.snk=0)->l5 p (r.arc w) (af 2) (rK p A c r):=λ h=>by
  unfold Rd.arc;rw[if_pos h];exact⟨rfl,A,c,rfl⟩
 have hlen:=ok.len;have Y:=ok.sum_ge;have hR:=ok.most_le;refine aT Tryz.func82 λ w0=>?_;refine ao ?_;refine mA ?_;by_cases Z:w.length=4
 case neg=>
  refine dt 11 rfl eK<|ek ?_;refine aA 19 (v':=.bool true) rfl rfl<|cW [3,11] ?_;refine eu ?_;exact aM [4,5] ⟨_,rfl,bad (.inl Z)⟩
 obtain⟨D,l,o,t,rfl⟩:=Mw Z;obtain rfl:=hB ai;refine dc 11 rfl ai<|ek ?_;refine ae [3] (a8 (i:=1) (v:=af r.src) 4 rfl rfl rfl rfl) rfl<|ek ?_;by_cases E:r.src=0
 ·refine dt 19 rfl E<|cW [3,11] ?_;refine eu ?_;exact aM [4,5] ⟨_,rfl,bad (.inr (.inl E))⟩
 refine dc 19 rfl E<|bp [3,11] ?_;refine ae [3,11] (a8 (i:=2) (v:=af r.snk) 4 rfl rfl rfl rfl) rfl<|cW [3,11] ?_;refine ak rfl (λ O=>?_) (λ O=>ag ?_)
 ·refine ao ?_;exact aM [4,5] ⟨_,rfl,bad (.inr (.inr O))⟩
 refine wW ?_;refine eW (qt V [l,o,t] (λ x hx=>hw x (Pm _ hx)) ai _ 3 _ K (M+1) aK rfl) rfl ⟨fX 0 rfl (uw 1 (λ i=>by rw[P0];rfl)) (.inr rfl),⟨1,ai,rfl⟩,⟨2,ai,rfl⟩,⟨3,ai,rfl⟩,an⟩ ?_;rintro v H' ⟨An,cn,rfl,rfl⟩
 generalize hq:aJ [l,o,t]=q
 have C:=λ h=>(oW (ws:=[l,o,t]) h).1;have u:=kZ (ws:=[l,o,t]);rw[hq] at C u;obtain⟨L,e⟩:=q
 have good:∀ z:Rd×Int,(if e≠0 then (r,e) else
  if ¬ (1<=L.getD 0 0/\L.getD 0 0<=r.nodes)\/¬ (1<=L.getD 1 0/\L.getD 1 0<=r.nodes) then (r,4) else
  if L.getD 2 0<0 then (r,3) else if (r.arcs.length:Int)=r.most then (r,6) else
  if 4611686018427387903<r.sum+L.getD 2 0 then (r,7) else
  ({ r with sum:=r.sum+L.getD 2 0,arcs:=r.arcs++[⟨L.getD 0 0,L.getD 1 0,L.getD 2 0⟩] },0))=z->r.arc [D,l,o,t]=z:=λ z hz=>by
  unfold Rd.arc;rw[if_neg (by simp[E,O]),show List.drop 1 [D,l,o,t]=[l,o,t] from rfl,hq];exact hz
 refine aN ?_;refine am<|ao ?_;refine ak rfl (λ he=>?_) (λ he=>ag ?_)
 ·refine ao ?_;exact aM [5,6] ⟨_,rfl,by rw[good _ (if_pos he)];exact⟨rfl,A,c,rfl⟩⟩
 have P:e=0:=No.1 he
 obtain⟨a,b,d,rfl⟩:∃ a b d,L=[a,b,d]:=by
  match L,C P with
  |[a,b,d],_=>exact⟨a,b,d,rfl⟩
 refine aR (aH 0 rfl) (λ ho=>?_);obtain⟨g,rfl⟩:=ho.2.2.1 ai;have ha:b7 a:=u a ai;have hb:b7 b:=u b ai;have hd:b7 d:=u d ai;have Q:b7 r.sum:=by unfold b7;omega
 simp only[List.getD_cons_zero,List.getD_cons_succ] at good;rw[if_neg he] at good;refine cq ?_;refine bM 13 (dT [0,1,2,3,4,5,6]++[(7,false)]++dT [8,9,10,11,12]) [0,5] aX ab rfl<|a9 ?_;refine bh rfl (a8 (i:=5) (v:=af r.sum) 1 rfl rfl rfl rfl) ?_;refine x5 ?_;refine bh rfl (aw (i:=2) 0 rfl rfl rfl (bI rfl)) ?_;refine jI ?_;refine dG (Ir Q hd) rfl an ?_;refine j2 ?_
 have y:((jJ (r.sum+d)).2=0->(jJ (r.sum+d)).1=r.sum+d)/\((jJ (r.sum+d)).2≠0->0<=d->4611686018427387903<r.sum+d):=by
  unfold jJ;split
  ·exact⟨λ _=>rfl,λ k=>absurd rfl k⟩
  ·rename_i R;refine⟨λ k=>by simp at k,λ _ h0=>?_⟩;unfold b7 at R;omega
 generalize jJ (r.sum+d)=oe at y
 obtain⟨s,e2⟩:=oe;refine⟨rfl,b6 [0,5] ?_⟩;refine lo ?_;refine am (aq ?_);refine am<|xC ?_;refine cj (sb p r A c a) rfl ⟨ew 5 rfl,an⟩ ?_;refine az ?_
 have f:(¬ (1<=a/\a<=r.nodes)\/¬ (1<=b/\b<=r.nodes))->l5 p (r.arc [D,l,o,t]) (af 4) (rK p A c r):=λ h=>by
  rw[good _ (if_pos h)];exact⟨rfl,A,c,rfl⟩
 by_cases F:1<=a/\a<=r.nodes
 case neg=>
  refine aA 54 (v':=.bool true) rfl (by rw[aU F];rfl)<|cW [6] ?_;refine eu ?_;exact aM [5,6] ⟨_,rfl,f (.inl F)⟩
 refine aA 54 (v':=.bool false) rfl (by rw[aQ F];rfl)<|bp [6] ?_;refine ae [6] (gq rfl ai) rfl<|ae [6] (aw (i:=1) 0 rfl rfl rfl (bI rfl)) rfl<|bA [6] (sb p r A c b) rfl rfl rfl rfl aX ⟨ew 5 rfl,an⟩ aK<|kD ?_;refine cW [6] ?_;by_cases H:1<=b/\b<=r.nodes
 case neg=>
  refine bD 47 (v':=.bool true) rfl (by rw[aU H];rfl)<|eu ?_;exact aM [5,6] ⟨_,rfl,f (.inr H)⟩
 refine bD 47 (v':=.bool false) rfl (by rw[aQ H];rfl)<|bo rfl<|?_;rw[if_neg (λ k=>k.elim (λ k=>k F) (λ k=>k H))] at good;refine am<|y7 ?_;refine aF (aw (i:=2) 0 rfl rfl rfl (bI rfl)) ?_;refine aN ?_;refine ak rfl (λ S=>?_) (λ S=>?_)
 ·refine ao ?_;exact aM [5,6] ⟨_,rfl,by rw[good _ (if_pos S)];exact⟨rfl,A,c,rfl⟩⟩
 rw[if_neg S] at good;refine cq ?_;refine bM 12 (dT [0,1,2,3,4,5,6,7,8,9,10,11]) [5] aX ab rfl<|Hp ?_;refine ak rfl (λ U=>?_) (λ U=>?_)
 ·refine ao ?_;exact aM [5,6] ⟨_,rfl,by rw[good _ (if_pos U)];exact⟨rfl,A,c,rfl⟩⟩
 rw[if_neg U] at good
 have j:4611686018427387903<r.sum+d->l5 p (r.arc [D,l,o,t]) (af 7) (rK p A c r):=λ h=>by
  rw[good _ (if_pos h)];exact⟨rfl,A,c,rfl⟩
 refine mA ?_;by_cases I:e2=0
 case neg=>
  refine dt 82 rfl I<|cW [2] ?_;refine eu ?_;exact aM [5,6] ⟨_,rfl,j (y.2 I aa)⟩
 refine dc 82 rfl (λ k=>k I)<|cW [2] ?_;have hs:s=r.sum+d:=y.1 I;refine ak rfl (λ X=>?_) (λ X=>ag ?_)
 ·refine ao ?_;exact aM [5,6] ⟨_,rfl,j (by rw[<- hs];exact X)⟩
 have hy:¬ 4611686018427387903<s:=X;rw[if_neg aa] at good;refine cq ?_;refine aI ?_;refine dE 5 ?_;refine ii ?_;refine bM 21 (dT [0,1,2,3,4,5,6,7,8,9,10,11,12,13,14,15]++[(16,false),(17,false)]++dT [18,19,20]) [0,5] aX ab rfl<|a9 ?_;refine bh rfl (a8 (i:=3) (v:=.slice A r.arcs.length c) 1 rfl rfl rfl rfl) ?_;refine HW ?_;refine x5 ?_;refine bh rfl (aw (i:=2) 0 rfl rfl rfl (bI rfl)) ?_;refine a9 ?_;refine yr ?_;refine dp λ g2=>?_;refine b6 [1,6]<|cz ?_;refine bx (n:=r.arcs.length) (m:=1) (off:=0) (news:=arcs [ej.mk a b d]) 7 0 rfl rfl rfl rfl rfl rfl ab rfl rfl (aS g2 _ _ (0,0)) aK rfl rfl aa aa (λ _ _=>rfl) λ A2 c2=>b6 [1,6]<|a9 ?_;refine cM<|dE 6 ?_;refine dv ?_;refine aM [6,7] ⟨_,rfl,?_⟩;rw[good _ rfl,<- hs];refine⟨rfl,A2,c2,?_⟩;rw[<- zS,show r.arcs.length+1=(r.arcs++[ej.mk a b d]).length by simp];rfl
variable {V:LibV} {bb ob:Nat} {w:Ws}
theorem DA(S:Heap)(a:S=[.seg bb ob (cv w)]++V.heap)(B:Value)(p:Nat)(r:Rd)(A:OA_)(c:Nat):Fn 79 [.pointer (some ⟨p,0,none⟩),B] (aC (rK p A c r)) (S++rK p A c r) λ v H'=>v=.int .i64 0/\H'=rK p A c r:=by
 subst a;refine aT Tryz.func79 λ w0=>?_;refine ja ?_;exact aM [4,5] ⟨_,rfl,rfl,rfl⟩
theorem FX(S:Heap)(a:S=[.seg bb ob (cv w)]++V.heap)(B:Value)(p:Nat)(r:Rd)(A:OA_)(c:Nat):Fn 83 [.pointer (some ⟨p,0,none⟩),B] (aC (rK p A c r)) (S++rK p A c r) λ v H'=>v=.int .i64 2/\H'=rK p A c r:=by
 subst a;refine aT Tryz.func83 λ w0=>?_;refine ja ?_;exact aM [4,5] ⟨_,rfl,rfl,rfl⟩
def L7(w:Ws):FuncId:=match w with
 |[]=>79
 |x::_=>if x=[99] then 79 else if x=[112] then 80 else if x=[110] then 81 else if x=[97] then 82 else 83
def Lz(B:OA_)(n:Nat)(f:FuncId):Value:=.agg #[.slice B n n,.func (.func f) #[] #[]]
theorem Lc(w:Ws)(g:w.length<=10000000)(B:OA_)(bb ob:Nat)(f:w≠[]->B=some ⟨bb,ob,none⟩):Fn 42 [.slice B w.length w.length] [] [.seg bb ob (cv w)] λ v H'=>v=Lz B w.length (L7 w)/\H'=[]:=by
 refine ia Tryz.func42 rfl rfl λ w0=>bu ?_;refine dD λ a=>?_;refine cR ?_;refine ak rfl (λ h=>?_) (λ h=>ag ?_)
 ·obtain rfl:w=[]:=PB aa;refine aI ?_;refine aF (v:=Lz B 0 79) (eE rfl rfl rfl rfl rfl rfl) ?_;refine qN ?_;exact⟨[_],[],_,⟨⟨a,0,_,_,rfl,rfl,rfl⟩,an⟩,ab,rfl,rfl,rfl⟩
 obtain⟨x,r,rfl⟩:∃ x r,w=x::r:=by
  match w,h with
  |x::r,_=>exact⟨x,r,rfl⟩
 obtain rfl:=f ai;refine am<|y7 ?_;refine aF (aZ (i:=0) 1 rfl rfl (eg (l:=x::r) (x:=x) rfl)) ?_;refine iZ ?_;refine ao ?_;refine bD 11 (v':=.bool (dR (x=[99]))) rfl (Na Value.bool (iS x [99]))<|ak rfl (λ b=>?_) (λ b=>?_)
 ·refine aI ?_;refine aF (v:=Lz (aL bb ob) (x::r).length (79)) (eE rfl rfl rfl rfl rfl rfl) ?_;refine qN ?_;refine⟨[_],[],_,⟨⟨a,0,_,_,rfl,rfl,rfl⟩,an⟩,ab,rfl,?_,rfl⟩;subst b;rfl
 refine ao ?_;refine bD 15 (v':=.bool (dR (x=[112]))) rfl (Na Value.bool (iS x [112]))<|ak rfl (λ c=>?_) (λ c=>?_)
 ·refine aI ?_;refine aF (v:=Lz (aL bb ob) (x::r).length (80)) (eE rfl rfl rfl rfl rfl rfl) ?_;refine qN ?_;refine⟨[_],[],_,⟨⟨a,0,_,_,rfl,rfl,rfl⟩,an⟩,ab,rfl,?_,rfl⟩;subst c;rfl
 refine ao ?_;refine bD 19 (v':=.bool (dR (x=[110]))) rfl (Na Value.bool (iS x [110]))<|ak rfl (λ d=>?_) (λ d=>?_)
 ·refine aI ?_;refine aF (v:=Lz (aL bb ob) (x::r).length (81)) (eE rfl rfl rfl rfl rfl rfl) ?_;refine qN ?_;refine⟨[_],[],_,⟨⟨a,0,_,_,rfl,rfl,rfl⟩,an⟩,ab,rfl,?_,rfl⟩;subst d;rfl
 refine ao ?_;refine bD 23 (v':=.bool (dR (x=[97]))) rfl (Na Value.bool (iS x [97]))<|ak rfl (λ e=>?_) (λ e=>?_)
 ·refine aI ?_;refine aF (v:=Lz (aL bb ob) (x::r).length (82)) (eE rfl rfl rfl rfl rfl rfl) ?_;refine qN ?_;refine⟨[_],[],_,⟨⟨a,0,_,_,rfl,rfl,rfl⟩,an⟩,ab,rfl,?_,rfl⟩;subst e;rfl
 refine ag<|aI ?_;refine aF (v:=Lz (aL bb ob) (x::r).length (83)) (eE rfl rfl rfl rfl rfl rfl) ?_;refine qN ?_;refine⟨[_],[],_,⟨⟨a,0,_,_,rfl,rfl,rfl⟩,an⟩,ab,rfl,?_,rfl⟩;unfold L7;simp only[if_neg b,if_neg c,if_neg d,if_neg e];rfl
theorem FE(w:Ws):ee (L7 w)=true:=by
 unfold L7;split
 ·kernel_rfl
 ·split
  ·kernel_rfl
  ·split
   ·kernel_rfl
   ·split
    ·kernel_rfl
    ·split<;>kernel_rfl
theorem J0(V:LibV)(w:Ws)(hw:∀ x∈w,x.length<=10000000)(f:w.length<=10000000)(B:OA_)(bb ob:Nat)(g:w≠[]->B=some ⟨bb,ob,none⟩)(p:Nat)(r:Rd)(ok:r.OK)(A:OA_)(c:Nat):
 Fn (L7 w) [.pointer (some ⟨p,0,none⟩),.slice B w.length w.length] (aC (rK p A c r)) ([.seg bb ob (cv w)]++V.heap++rK p A c r) (l5 p (r.line w)):=by
 have j:Fn 79 [ap p 0,.slice B w.length w.length] (aC (rK p A c r)) ([.seg bb ob (cv w)]++V.heap++rK p A c r) (l5 p (r,0)):=Fn.mono (DA _ rfl _ p r A c) λ v H' h=>⟨h.1,A,c,h.2⟩;have i:Fn 83 [ap p 0,.slice B w.length w.length] (aC (rK p A c r)) ([.seg bb ob (cv w)]++V.heap++rK p A c r) (l5 p (r,2)):=Fn.mono (FX _ rfl _ p r A c) λ v H' h=>⟨h.1,A,c,h.2⟩;unfold L7 Rd.line
 cases w with
 |nil=>exact j
 |cons x l=>
  simp only;by_cases a:x=[99]
  ·rw[if_pos a,if_pos a];exact j
  rw[if_neg a,if_neg a];by_cases b:x=[112]
  ·rw[if_pos b,if_pos b];exact Av V _ hw f B _ bb ob g rfl p r ok A c
  rw[if_neg b,if_neg b];by_cases d:x=[110]
  ·rw[if_pos d,if_pos d];exact IZ V _ hw f B _ bb ob g rfl p r ok A c
  rw[if_neg d,if_neg d];by_cases e:x=[97]
  ·rw[if_pos e,if_pos e];exact K6 V _ hw f B _ bb ob g rfl p r ok A c
  rw[if_neg e,if_neg e];exact i
end Go.Proofs.YtmcnpaelaieniaaGreatDoor
