import Derived.Test.YtmcnpaelaieniaaGreatDoorQX79
import Derived.Test.YtmcnpaelaieniaaGreatDoorQB
import Derived.Lib.Join
import Derived.Test.YtmcnpaelaieniaaGreatDoorQX97
/- A part of the proof; see NOTES.md. -/
set_option linter.unusedVariables false
set_option linter.unusedSimpArgs false
namespace Go.Proofs.YtmcnpaelaieniaaGreatDoor
open Go.RowKit
open Lib
section
variable {X:Cx} {Q:dQ} {E:Env} {H K:Heap}
theorem rP{w:World}{b e:Nat}{cs:LV_}(h:(blk b e cs).holds w):w.shape? b=some (e,cs.length):=by
 have h':w.heap[b]?=some (.cells cs.toArray e (0,0)):=h;simp[World.shape?,h']
theorem Dr{o:Oper}{src dst t b i e:Nat}{x:Operand}{cs:LV_}{j:TypeInfo}(k:Nat)(ho:o.op=.convert src dst x)(hx:val E x=some (.pointer (some ⟨b,i,none⟩)))(hk:H[k]?=some (blk b e cs))(hs:Tryz.prog.underlying src=some (.pointer t))(hd:Tryz.prog.underlying dst=some .unsafePointer)
 (ht:Tryz.prog.info? t=some j) (hj:j.size≠0) (hi:i<cs.length):gz X o E H (.pointer (some ⟨b,i,none⟩)):=by
 intro a w hA hH;have hsh:=rP (hH.holds _ (Gu hk));have:=Lib.run_to_unsafe w ⟨b,i,none⟩ hs hd ht hj hsh hi;simp only[execOp,ho,hA.val hx,Sem.run_bind,this,Result.andThen_ok];rfl
theorem zl{o:Oper}{src dst t b i e:Nat}{x:Operand}{cs:LV_}{j:TypeInfo}(k:Nat)(ho:o.op=.convert src dst x)(hx:val E x=some (.pointer (some ⟨b,i,none⟩)))(hk:H[k]?=some (blk b e cs))(hs:Tryz.prog.underlying src=some .unsafePointer)(hd:Tryz.prog.underlying dst=some (.pointer t))
 (ht:Tryz.prog.info? t=some j) (hl:Go.liesAt Tryz.prog Tryz.prog.depth e (cs.length/Tryz.prog.cellsOf e) i t 1=true):gz X o E H (.pointer (some ⟨b,i,none⟩)):=by
 intro a w hA hH;have hsh:=rP (hH.holds _ (Gu hk));have:=Lib.run_from_unsafe w ⟨b,i,none⟩ hs hd ht hsh hl;simp only[execOp,ho,hA.val hx,Sem.run_bind,this,Result.andThen_ok];rfl
theorem xM{o:Oper}{x:Operand}{v:Value}{ts:Array TypeId}(ho:o.op=.call ⟨.value (.func 118),#[x],ts⟩)(hx:val E x=some v):gz X o E H v:=by
 intro a w hA hH;have h1:=run_callFunc_extern (P:=Tryz.prog) (f:=118) (e:=Extern.AbiNoEscape.same) Tryz.func118 (by kernel_rfl) (by kernel_rfl) (by kernel_rfl) (by kernel_rfl) #[v] w;rw[Lib.run_noEscape] at h1;have h2:(callFunc 118 #[v]).run Tryz.prog w=.ok (.value v) w:=h1;have e2:a.eval (.func 118)=.func (.func 118) #[] #[]:=rfl;simp[execOp,ho,resolve,Deferred.ofValue,invoke,e2,hA.val hx,h2]
theorem zH{o:Oper}{t t':Nat}{x y:Operand}(ho:o.op=.binOp .eql t x y t')(hx:val E x=some (.pointer none))(hy:val E y=some (.pointer none))(h:Tryz.prog.underlying t=some (.pointer (Tryz.prog.pointee t))):gz X o E H (.bool true):=by
 intro a w hA hH;have hg:(eqGuard .eql t x y (.pointer none) (.pointer none)).run Tryz.prog w=.ok () w:=by simp[eqGuard]
 have hb:(binOp .eql t (.pointer none) (.pointer none)).run Tryz.prog w=.ok (.bool true) w:=run_eql_pointer_nil w t none h;simp only[execOp,ho,hA.val hx,hA.val hy,Sem.run_bind,hg,hb,Result.andThen_ok];rfl
end
def nU(e b:Nat)(p:Value)(A:OA)(c:Nat)(m:LU):Heap:=[blk b e [p,.slice A m.length c],.own (.slice A m.length c) 5 1 m.length (byteCells m)]
def wM(e:Nat):Prop:=Go.liesAt Tryz.prog Tryz.prog.depth e (2/Tryz.prog.cellsOf e) 0 116 1=true
theorem B3:∃ j,Tryz.prog.info? 116=some j/\j.size=2:=by
 obtain⟨_,j,_,h,_,hz,_⟩:=dJ (t:=116) rfl;exact⟨j,h,hz⟩
theorem wq(e b:Nat)(p v:Value)(he:wM e)(hp:Ed b p):Fn 93 [.pointer (some ⟨b,0,none⟩)] (aL [blk b e [p,v]]) ([]++[blk b e [p,v]]) λ _ H'=>H'=[blk b e [.pointer (some ⟨b,0,none⟩),v]]:=by
 rcases hp with rfl|rfl
 case inr=>
  intro w hw;have hb:w.heap[b]?=some (.cells #[.pointer (some ⟨b,0,none⟩),v] e (0,0)):=hw.holds _ (H8 ..);refine (Any.Builder_copyCheck_used { Tryz.lays156 with } Tryz.Builder_Extra_156.toX72 b w (by simp[World.cell?,hb])).mono ?_;rintro x w' ⟨hx,rfl⟩;exact⟨.tuple #[],_,hx,hw,rfl⟩
 obtain⟨j,hj,hz⟩:=B3;refine aJ Tryz.func93 rfl rfl λ w0=>?_;refine ad (aa (ah [] rfl ?_));refine ab [] (v:=.pointer none) (af 0 rfl) rfl ?_;refine ab [] (v:=.bool true) (zH rfl rfl rfl (by kernel_rfl)) rfl ?_;refine ai ?_;refine bi rfl ?_;refine aa (ah [] rfl ?_);refine ab [] (Dr 0 rfl rfl rfl (by kernel_rfl) (by kernel_rfl) hj (by omega) (Nat.succ_pos 1)) rfl ?_;refine ab [] (xM rfl rfl) rfl ?_;refine ab [] (zl 0 rfl rfl rfl (by kernel_rfl) (by kernel_rfl) hj he) rfl ?_;refine ah [] rfl ?_;refine aA 0 rfl [] rfl ?_;refine ai ?_;exact⟨_,rfl,rfl⟩
theorem Av(e b:Nat)(p:Value)(he:wM e)(hp:Ed b p)(A:OA)(c:Nat)(m s:LU)(hl:m.length+s.length<=1000000000000):Fn 53 [.pointer (some ⟨b,0,none⟩),dF s] (aL (nU e b p A c m)) ([]++nU e b p A c m)
 λ _ H'=>∃ (A':OA) (c':Nat),H'=nU e b (.pointer (some ⟨b,0,none⟩)) A' c' (m++s):=by
 refine aJ Tryz.func53 rfl rfl λ w0=>?_;refine ad (aa (ae [] rfl ?_));refine ad (aa (ah [] rfl ?_));refine aw (fst:=[]) (cap:=[]) [] (wq e b p _ he hp) rfl rfl rfl rfl (by kernel_rfl) aH.refl an (λ _=>rfl) ?_;rintro v H' rfl;refine⟨rfl,?_⟩;refine ae [] rfl ?_;refine ad (aa (ah [] rfl ?_));refine ab [] (cB (i:=1) (v:=.slice A m.length c) 0 rfl rfl rfl rfl) rfl ?_;refine ah [] rfl ?_;refine m7 (m:=s) 1 rfl rfl rfl rfl rfl rfl rfl (by omega) (λ _ _=>rfl) λ A' c'=>?_;refine ah [] rfl ?_;refine aA 0 rfl [] rfl ?_;refine ae [] rfl ?_;refine ad (aa (ae [] rfl ?_));refine ay ?_;refine⟨_,rfl,A',c',?_⟩;unfold nU;rw[Gx,show byteCells (m++s)=byteCells m++byteCells s by simp[byteCells]];rfl
section
variable {X:Cx} {Q:dQ} {E:Env} {H K:Heap}
theorem Da{E':Env}{ops l:List Oper}{o:Oper}{g c pt it:Nat}{x y:Operand}{m:LU}(k:Nat)(ho:o.op=.call ⟨.builtin .unsafeString,#[x,y],#[pt,it]⟩)(hx:val E x=some (.pointer (some ⟨g,0,none⟩)))(hy:val E y=some (.int .i64 (m.length:Int)))
 (hk:H[k]?=some (.own (.slice (some ⟨g,0,none⟩) m.length c) 5 1 m.length (byteCells m))) (h0:m≠[]) (hp:Tryz.prog.underlying pt=some (.pointer 5)) (hcl:Tryz.prog.cellsOf 5=1) (hb:jH X.n ops [] E o (dF m)=some E') (h:JL X ops l Q E' (H.set k (.seg 0 0 []))):JL X ops (o::l) Q E H:=by
 refine CR [] hb (λ a w hA hH=>?_) h;have hown:w.ownsRow 0 5 1 (.slice (some ⟨g,0,none⟩) m.length c) m.length (byteCells m):=hH.holds _ (Gu hk);have hpos:0<m.length:=Hc.2 h0;obtain⟨hlen,hn|⟨g',cap,cur,hv,_,hg,hle,hmx,hsz,htk⟩⟩:=hown
 ·exact absurd hn.2 (by omega)
 obtain⟨rfl,rfl⟩:g=g'/\c=cap:=by
  simp only[Value.slice.injEq,Gs,Addr.mk.injEq] at hv;exact⟨hv.1.1,hv.2.2⟩
 have hcell:∀ j x,m[j]?=some x->w.cell? ((⟨g,0,none⟩:Addr).add j)=some (.int .u8 x.toNat):=by
  intro j x hx;refine World.ownsRow.cells (hH.holds _ (Gu hk)) (g:=g) rfl j _ ?_;simp[byteCells,hx]
 have hsh:w.shape? g=some (5,cur.size):=by simp[World.shape?,hg]
 have hrun:=run_unsafeString_row (P:=Tryz.prog) (w:=w) pt it o.type 5 hp hcl g cur.size hsh m h0 (by omega) (by unfold maxLen at hmx;omega) hcell;refine⟨w.freeze ⟨g,0,none⟩ m.length,?_,?_⟩
 ·have hr':(Builtin.unsafeString_ #[pt,it] o.type #[.pointer (some ⟨g,0,none⟩),.int .i64 (m.length:Int)]).run Tryz.prog w=.ok (dF m) (w.freeze ⟨g,0,none⟩ m.length):=hrun;simp[execOp,ho,resolve,invoke,builtin,hA.val hx,hA.val hy,hr']
 ·have hfz:∀ q,q≠g->(w.freeze ⟨g,0,none⟩ m.length).heap[q]?=w.heap[q]?:=by
   intro q hq;unfold World.freeze;rw[if_neg (by omega)];simp only[Array.getElem?_modify];rw[if_neg (λ e=>hq e.symm)]
  have hsize:(w.freeze ⟨g,0,none⟩ m.length).heap.size=w.heap.size:=by
   unfold World.freeze;rw[if_neg (by omega)];simp
  have e1:(w.freeze ⟨g,0,none⟩ m.length).os=w.os:=by unfold World.freeze;rw[if_neg (by omega)]
  have e2:(w.freeze ⟨g,0,none⟩ m.length).tape=w.tape:=by unfold World.freeze;rw[if_neg (by omega)]
  have e3:(w.freeze ⟨g,0,none⟩ m.length).output=w.output:=by unfold World.freeze;rw[if_neg (by omega)]
  exact hH.step k hk e1 e2 e3 (by rw[hsize];exact GF _) (λ q _ hq=>hfz q (λ e=>hq (by rw[e];rfl))) (λ i v hv=>by simp at hv) (λ q hq=>by simp[aV.at_] at hq)
theorem xR{o:Oper}{x:Operand}{a:Addr}{n c:Nat}{ts:Array TypeId}(ho:o.op=.call ⟨.builtin .unsafeSliceData,#[x],ts⟩)(hx:val E x=some (.slice (some a) n c))(hc:c≠0):gz X o E H (.pointer (some a)):=by
 intro ac w hA hH;have:=run_unsafeSliceData_row (P:=Tryz.prog) (w:=w) ts o.type a n c hc;simp[execOp,ho,resolve,invoke,builtin,hA.val hx,this]
end
theorem B7(e b:Nat)(p:Value)(A:OA)(c:Nat)(m:LU)(h0:m≠[]):Fn 55 [.pointer (some ⟨b,0,none⟩)] (aL (nU e b p A c m)) ([]++nU e b p A c m) λ v H'=>v=dF m/\H'=[]:=by
 have hpos:0<m.length:=Hc.2 h0;refine aJ Tryz.func55 rfl rfl λ w0=>?_;refine ad (aa (ae [] rfl ?_));refine bh (aW 1 rfl) λ ⟨_,hc,hA,_⟩=>?_;obtain⟨g,rfl⟩:=hA hpos;refine ad ?_;refine bu 12 (cZ [0,1,2,3,5,6,7,8,9]++[(4,false),(10,false)]++cZ [11]) [0] (by kernel_rfl) (by decide) rfl ?_;refine aB [] rfl ?_;refine aj [] (v:=.slice (some ⟨g,0,none⟩) m.length c) rfl (af 0 rfl) rfl ?_;refine aB [] rfl ?_;refine aj [] (v:=.slice (some ⟨g,0,none⟩) m.length c) rfl (af 0 rfl) rfl ?_;refine aB [] rfl ?_;refine bg rfl ?_;refine ab [] (xR rfl rfl (by omega)) rfl ?_;refine ai ⟨⟨[0],by decide,rfl⟩,?_⟩;refine bg rfl ?_;refine Da (m:=m) 1 rfl rfl rfl rfl h0 (by kernel_rfl) (by kernel_rfl) rfl ?_;refine ai ⟨⟨[0],by decide,rfl⟩,?_⟩;refine aB [] rfl ?_;refine bq ?_;refine ai ?_;exact az [] (by decide) rfl (ay ⟨_,rfl,rfl,rfl⟩)
theorem fy{l:List (LU)}{i:Nat}{x:LU}(h:l[i]?=some x):eH 9 (cK l) i=some (dF x):=tS h
theorem uX(l:LU):(aT l).length<=l.length+1:=by
 rw[zt];have:=List.count_le_length (a:=(10:UInt8)) (l:=l);split<;>omega
theorem j6:∀ l cur:LU,(b7 cur l).length<=l.length+(if cur=[] then 0 else 1)
 |[],cur=>by unfold b7;split<;>simp
 |b::l,cur=>by
  unfold b7;split
  ·split
   ·have:=j6 l [];simp at this ⊢;omega
   ·have:=j6 l [];simp at this ⊢;omega
  ·have:=j6 l (cur++[b]);simp at this;simp only[Gz];split<;>omega
theorem mK(l:LU):(bw l).length<=l.length:=by
 have:=j6 l []
 simpa [bw] using this
theorem AZ(A:OA)(n c b o:Nat)(xs:List (LU))(sep:LU)(hn:n=xs.length)(hA:xs≠[]->A=some ⟨b,o,none⟩)(hc:n<=c)(hl:(Lib.join xs sep).length<=140737488355328)(hx:xs.length<=140737488355328):
 Fn 120 [.slice A n c,dF sep] [] [.seg b o (cK xs)] λ v H'=>v=dF (Lib.join xs sep)/\H'=[]:=by
 subst hn;by_cases h0:xs=[]
 ·subst h0;exact Fn.of_below λ w _=>(Any.strings_Join_none Tryz.lays156 Tryz.Builder_Extra_156 A c ⟨sep.toArray⟩ w).mono λ e w' ⟨he,hw⟩=>⟨_,he,hw▸Below.refl _ _,rfl,rfl⟩
 ·obtain rfl:=hA h0;refine Fn.of_below fun w hw=>?_;have hseg:=hw.holds (.seg b o (cK xs)) (by simp)
  have hmap:((xs.map λ x=>(⟨x.toArray⟩:ByteArray)).map (·.data.toList))=xs:=by
   rw[HQ];exact (HH λ x _=>(rfl:_=id x)).trans (List.map_id xs)
  have hcell:∀ (j:Nat) x,(xs.map λ x=>(⟨x.toArray⟩:ByteArray))[j]?=some x->w.cell? ⟨b,o+j,none⟩=some (.string x):=by
   intro j x hj;rw[GC] at hj;obtain⟨y,hy,rfl⟩:=Option.map_eq_some_iff.1 hj;exact hseg j _ (tS hy)
  have hlt:b<w.heap.size:=by
   cases xs with
   |nil=>exact absurd rfl h0
   |cons x r=>exact World.block_lt_of_cell? w _ (hseg 0 _ rfl)
  have T:=Any.strings_Join Tryz.lays156 Tryz.Builder_Extra_156 b o c (xs.map λ x=>(⟨x.toArray⟩:ByteArray)) ⟨sep.toArray⟩ w hcell hlt (by simpa using hx) (by simpa using hc) (by rw[hmap];exact hl);rw[GA,hmap] at T;exact T.mono λ e w' ⟨he,hb⟩=>⟨_,he,hb,rfl,rfl⟩
theorem qx(A:OA)(n c b o:Nat)(xs:List (LU))(hn:n=xs.length)(hA:xs≠[]->A=some ⟨b,o,none⟩)(hc:n<=c)(hl:(Lib.join xs [32]).length<=140737488355328)(hx:xs.length<=140737488355328):
 Fn 95 [.slice A n c] [] [.seg b o (cK xs)] λ v H'=>v=dF (Lib.join xs [32])/\H'=[]:=by
 refine aJ Tryz.func95 rfl rfl λ w0=>?_;refine ad (aa (ae [] rfl ?_));refine ad (aa ?_);refine am (gs:=[999]) rfl ?_;refine ap [] (AZ A n c b o xs [32] hn hA hc hl hx) rfl (by kernel_rfl) ⟨⟨0,_,by simp,rfl,ak _ _ _,av⟩,an⟩ (λ _=>rfl) ?_;rintro v H' ⟨rfl,rfl⟩;refine⟨rfl,?_⟩;refine ae [] rfl ?_;exact az [] (by decide) rfl (ay ⟨_,rfl,rfl,rfl⟩)
def bn:List (LU)->LI×Int
 |[]=>([],0)
 |w::r=>if (dj w).2≠0 then ([],(dj w).2) else if (bn r).2≠0 then ([],(bn r).2) else ((dj w).1::(bn r).1,0)
theorem qB:∀ {ws:List (LU)},(∀ w∈ws,(dj w).2=0)->bn ws=(ws.map λ w=>(dj w).1,0)
 |[],_=>rfl
 |w::r,h=>by
  have ih:=qB (ws:=r) λ x hx=>h x (by simp[hx]);unfold bn;rw[if_neg (λ k=>k (h w (by simp))),ih,if_neg (λ k=>k rfl)];rfl
theorem nA:∀ {ws:List (LU)} {k:Nat} {w:LU},ws[k]?=some w->(∀ j x,j<k->ws[j]?=some x->(dj x).2=0)->(dj w).2≠0->bn ws=([],(dj w).2)
 |[],k,w,h,_,_=>by simp at h
 |x::r,0,w,h,_,he=>by
  simp only[HB,Gs] at h;subst h;unfold bn;rw[if_pos he]
 |x::r,k+1,w,h,hb,he=>by
  have ih:=nA (ws:=r) (k:=k) (w:=w) (by simpa using h) (λ j y hj hy=>hb (j+1) y (by omega) (by simpa using hy)) he;unfold bn;rw[if_neg (λ q=>q (hb 0 x (by omega) rfl)),ih,if_pos he]
theorem nN{ws:List (LU)}(h:(bn ws).2=0):(bn ws).1.length=ws.length/\∀ w∈ws,(dj w).2=0:=by
 induction ws with
 |nil=>exact⟨rfl,λ w hw=>absurd hw GP⟩
 |cons w r ih=>
  unfold bn at h ⊢;by_cases h1:(dj w).2≠0
  ·rw[if_pos h1] at h;exact absurd h h1
  ·rw[if_neg h1] at h ⊢;by_cases h2:(bn r).2≠0
   ·rw[if_pos h2] at h;exact absurd h h2
   ·rw[if_neg h2] at h ⊢;obtain⟨e,hr⟩:=ih (Classical.not_not.1 h2);refine⟨by simp[e],fun x hx=>?_⟩
    rcases GD.1 hx with rfl|hx
    ·exact GK.1 h1
    ·exact hr x hx
theorem E5(l:LU):-9223372036854775808<=(dj l).1/\(dj l).1<=9223372036854775807:=by
 unfold dj;simp only;by_cases h1:l.head?=some 45
 ·rw[if_pos h1,if_pos h1];split
  ·decide
  ·split
   ·simp only;omega
   ·decide
 ·rw[if_neg h1,if_neg h1];split
  ·decide
  ·split
   ·simp only;omega
   ·decide
theorem nq{ws:List (LU)}:∀ n∈(bn ws).1,dn n:=by
 induction ws with
 |nil=>exact λ n hn=>absurd hn GP
 |cons w r ih=>
  intro n hn;unfold bn at hn;split at hn
  ·exact absurd hn GP
  ·split at hn
   ·exact absurd hn GP
   ·rcases GD.1 hn with rfl|hn
    ·exact E5 w
    ·exact ih n hn
structure Rd where
 nodes:Int
 src:Int
 snk:Int
 arcs:List dI
 most:Int
 sum:Int
abbrev Ws:=List (LU)
def Rd.problem(r:Rd)(w:Ws):Rd×Int:=
 if w.length≠4\/w[1]?≠some [109,97,120]\/r.most≠-1 then (r,2) else
 if (bn (w.drop 2)).2≠0 then (r,(bn (w.drop 2)).2) else
 if (bn (w.drop 2)).1.getD 0 0<2\/500<(bn (w.drop 2)).1.getD 0 0\/(bn (w.drop 2)).1.getD 1 0<0\/2000<(bn (w.drop 2)).1.getD 1 0 then (r,3) else
 ({ r with nodes:=(bn (w.drop 2)).1.getD 0 0,most:=(bn (w.drop 2)).1.getD 1 0 },0)
def Rd.end_(r:Rd)(w:Ws):Rd×Int:=
 if w.length≠3\/r.most=-1\/r.arcs≠[] then (r,2) else
 if w[2]?=some [115] then
  (if r.src≠0 then (r,2) else if (bn [w.getD 1 []]).2≠0 then (r,(bn [w.getD 1 []]).2) else
   if ¬ (1<=(bn [w.getD 1 []]).1.getD 0 0/\(bn [w.getD 1 []]).1.getD 0 0<=r.nodes) then (r,4) else
   if (bn [w.getD 1 []]).1.getD 0 0=r.src\/(bn [w.getD 1 []]).1.getD 0 0=r.snk then (r,5) else ({ r with src:=(bn [w.getD 1 []]).1.getD 0 0 },0))
 else if w[2]?=some [116] then
  (if r.snk≠0 then (r,2) else if (bn [w.getD 1 []]).2≠0 then (r,(bn [w.getD 1 []]).2) else
   if ¬ (1<=(bn [w.getD 1 []]).1.getD 0 0/\(bn [w.getD 1 []]).1.getD 0 0<=r.nodes) then (r,4) else
   if (bn [w.getD 1 []]).1.getD 0 0=r.src\/(bn [w.getD 1 []]).1.getD 0 0=r.snk then (r,5) else ({ r with snk:=(bn [w.getD 1 []]).1.getD 0 0 },0))
 else (r,2)
def Rd.arc(r:Rd)(w:Ws):Rd×Int:=
 if w.length≠4\/r.src=0\/r.snk=0 then (r,2) else
 if (bn (w.drop 1)).2≠0 then (r,(bn (w.drop 1)).2) else
 if ¬ (1<=(bn (w.drop 1)).1.getD 0 0/\(bn (w.drop 1)).1.getD 0 0<=r.nodes)\/¬ (1<=(bn (w.drop 1)).1.getD 1 0/\(bn (w.drop 1)).1.getD 1 0<=r.nodes) then (r,4) else
 if (bn (w.drop 1)).1.getD 2 0<0 then (r,3) else
 if (r.arcs.length:Int)=r.most then (r,6) else
 if 4611686018427387903<r.sum+(bn (w.drop 1)).1.getD 2 0 then (r,7) else
 ({ r with sum:=r.sum+(bn (w.drop 1)).1.getD 2 0,arcs:=r.arcs++[⟨(bn (w.drop 1)).1.getD 0 0,(bn (w.drop 1)).1.getD 1 0,(bn (w.drop 1)).1.getD 2 0⟩] },0)
def Rd.line(r:Rd)(w:Ws):Rd×Int:=
 match w with
 |[]=>(r,0)
 |x::_=>if x=[99] then (r,0) else if x=[112] then r.problem w else if x=[110] then r.end_ w else if x=[97] then r.arc w else (r,2)
structure Rd.OK (r:Rd):Prop where
 none:r.most=-1->r.arcs=[]/\r.src=0/\r.snk=0/\r.nodes=0
 some:r.most≠-1->(2<=r.nodes/\r.nodes<=500)/\0<=r.most/\r.most<=2000/\(r.arcs.length:Int)<=r.most
 src:r.src=0\/(1<=r.src/\r.src<=r.nodes)
 snk:r.snk=0\/(1<=r.snk/\r.snk<=r.nodes)
 diff:r.src=r.snk->r.src=0
 arc:∀ a∈r.arcs,(1<=a.fr/\a.fr<=r.nodes)/\(1<=a.to/\a.to<=r.nodes)/\0<=a.cap
 sum:(r.arcs.map (·.cap)).sum=r.sum
 most_le:r.sum<=4611686018427387903
theorem si:∀ {l:LI},(∀ x∈l,0<=x)->0<=l.sum
 |[],_=>by simp
 |x::l,h=>by
  have:=si (l:=l) λ y hy=>h y (by simp[hy]);have:=h x (by simp);rw[GT];omega
theorem Rd.OK.sum_ge{r:Rd}(h:r.OK):0<=r.sum:=by
 rw[<- h.sum]
 exact si λ x hx=>by
  obtain⟨a,ha,rfl⟩:=GR.1 hx;exact (h.arc a ha).2.2
theorem Rd.OK.len{r:Rd}(h:r.OK):r.arcs.length<=2000:=by
 by_cases hm:r.most=-1
 ·rw[(h.none hm).1];simp
 ·have:=h.some hm;omega
theorem Rd.OK.problem{r:Rd}(h:r.OK)(w:Ws):(r.problem w).1.OK:=by
 unfold Rd.problem;split
 ·exact h
 ·rename_i h1;split
  ·exact h
  ·split
   ·exact h
   ·rename_i h2 h3;have hm:r.most=-1:=Classical.byContradiction fun k=>h1 (.inr (.inr k));obtain⟨e1,e2,e3,e4⟩:=h.none hm;refine⟨fun k=>?_,fun _=>⟨⟨by simp only;omega,by simp only;omega⟩,by simp only;omega,by simp only;omega,?_⟩,.inl e2,.inl e3,fun _=>e2,fun a ha=>?_,h.sum,h.most_le⟩
    ·have k':(bn (w.drop 2)).1.getD 1 0=-1:=k;omega
    ·show (r.arcs.length:Int)<=(bn (w.drop 2)).1.getD 1 0;rw[e1];show (0:Int)<=_;omega
    ·simp only at ha;rw[e1] at ha;exact absurd ha GP
theorem Rd.OK.end_{r:Rd}(h:r.OK)(w:Ws):(r.end_ w).1.OK:=by
 unfold Rd.end_;split
 ·exact h
 ·rename_i h1;have hm:r.most≠-1:=λ k=>h1 (.inr (.inl k));split
  ·split
   ·exact h
   ·split
    ·exact h
    ·split
     ·exact h
     ·split
      ·exact h
      ·rename_i h2 h3 h4 h5;have h4':=GK.1 h4;exact⟨λ k=>absurd k hm,h.some,.inr h4',h.snk,λ k=>absurd (.inr k) h5,h.arc,h.sum,h.most_le⟩
  ·split
   ·split
    ·exact h
    ·split
     ·exact h
     ·split
      ·exact h
      ·split
       ·exact h
       ·rename_i h2 h3 h4 h5;have h4':=GK.1 h4;exact⟨λ k=>absurd k hm,h.some,h.src,.inr h4',λ k=>absurd (.inl k.symm) h5,h.arc,h.sum,h.most_le⟩
   ·exact h
theorem Rd.OK.arc_{r:Rd}(h:r.OK)(w:Ws):(r.arc w).1.OK:=by
 unfold Rd.arc;split
 ·exact h
 ·rename_i h1;split
  ·exact h
  ·split
   ·exact h
   ·split
    ·exact h
    ·split
     ·exact h
     ·split
      ·exact h
      ·rename_i h2 h3 h4 h5 h6;have hm:r.most≠-1:=fun k=>h1 (.inr (.inl (h.none k).2.1));have h7:=h.some hm;have h3a:=Classical.not_not.1 (fun k=>h3 (.inl k));have h3b:=Classical.not_not.1 (fun k=>h3 (.inr k));refine⟨fun k=>absurd k hm,fun _=>⟨h7.1,h7.2.1,h7.2.2.1,?_⟩,h.src,h.snk,h.diff,fun a ha=>?_,?_,by simp only;omega⟩
       ·simp only[Gx,Gz,GQ];omega
       ·rcases GE.1 ha with ha|ha
        ·exact h.arc a ha
        ·obtain rfl:=Gy.1 ha;exact⟨h3a,h3b,by simp only;omega⟩
       ·simp only[GX,Iu,h.sum];simp
theorem Rd.OK.line{r:Rd}(h:r.OK)(w:Ws):(r.line w).1.OK:=by
 unfold Rd.line;split
 ·exact h
 ·split
  ·exact h
  ·split
   ·exact h.problem _
   ·split
    ·exact h.end_ _
    ·split
     ·exact h.arc_ _
     ·exact h
def oZ:Rd:=⟨0,0,0,[],-1,0⟩
theorem Bx:oZ.OK:=⟨λ _=>⟨rfl,rfl,rfl,rfl⟩,λ h=>absurd rfl h,.inl rfl,.inl rfl,λ _=>rfl,λ a ha=>absurd ha GP,rfl,by decide⟩
def dY(r:Rd)(i:Nat):List (LU)->Rd×Nat×Int
 |[]=>(r,0,0)
 |x::ls=>if (r.line (bw x)).2≠0 then (r,i+1,(r.line (bw x)).2) else dY (r.line (bw x)).1 (i+1) ls
def nB:aU:=⟨0,0,0,[]⟩
def bW(s:LU):aU×Nat×Int:=
 if (dY oZ 0 (aT s)).2.2≠0 then (nB,(dY oZ 0 (aT s)).2.1,(dY oZ 0 (aT s)).2.2) else
 if (dY oZ 0 (aT s)).1.most=-1\/(dY oZ 0 (aT s)).1.src=0\/(dY oZ 0 (aT s)).1.snk=0 then (nB,(aT s).length+1,2) else
 if ((dY oZ 0 (aT s)).1.arcs.length:Int)<(dY oZ 0 (aT s)).1.most then (nB,(aT s).length+1,6) else
 (⟨(dY oZ 0 (aT s)).1.nodes,(dY oZ 0 (aT s)).1.src,(dY oZ 0 (aT s)).1.snk,(dY oZ 0 (aT s)).1.arcs⟩,0,0)
theorem Rd.OK.read{r:Rd}(h:r.OK)(i:Nat)(ls:List (LU)):(dY r i ls).1.OK:=by
 induction ls generalizing r i with
 |nil=>exact h
 |cons x ls ih=>
  unfold dY;split
  ·exact h
  ·exact ih (h.line _) _
theorem oA{s:LU}(h:(bW s).2.2=0):(bW s).1.Right/\(bW s).2.1=0:=by
 have ok:=Bx.read 0 (aT s);unfold bW at h ⊢;split
 ·rename_i h1;rw[if_pos h1] at h;exact absurd h h1
 ·rename_i h1;rw[if_neg h1] at h;split
  ·rename_i h2;rw[if_pos h2] at h;cases h
  ·rename_i h2;rw[if_neg h2] at h;split
   ·rename_i h3;rw[if_pos h3] at h;cases h
   ·rename_i h3;refine⟨⟨?_,?_,?_,?_,ok.len,ok.arc,?_⟩,rfl⟩
    ·exact (ok.some λ k=>h2 (.inl k)).1
    ·exact ok.src.resolve_left λ k=>h2 (.inr (.inl k))
    ·exact ok.snk.resolve_left λ k=>h2 (.inr (.inr k))
    ·exact λ k=>h2 (.inr (.inl (ok.diff k)))
    ·simp only;rw[ok.sum];exact ok.most_le
def Fk(A:OA)(n c:Nat)(e:Int):Value:=.tuple #[.slice A n c,.int .i64 e]
theorem l0(V:b5)(ws:List (LU))(hw:∀ x∈ws,x.length<=10000000)(hn:ws.length<=10000000)(B:OA)(n cb bb ob:Nat)(hB:ws≠[]->B=some ⟨bb,ob,none⟩)(hnl:n=ws.length):
 Fn 110 [.slice B n cb] [] ([.seg bb ob (cK ws)]++V.heap) λ v H'=>∃ (A:OA) (c:Nat),v=Fk A (bn ws).1.length c (bn ws).2/\H'=[.own (.slice A (bn ws).1.length c) 2 1 (bn ws).1.length (ax (bn ws).1)]:=by
 subst hnl;refine aJ Tryz.func110 rfl rfl λ w0=>?_;refine ad (aa (ae [] rfl ?_));refine ad (aa (ah [] rfl ?_));refine cX (n:=ws.length) (c:=ws.length) rfl rfl rfl rfl rfl rfl (by omega) (by omega) (by omega) (λ _=>rfl) λ g=>?_;rw[show made [Value.int .i64 0] (ws.length*1)=ax (List.replicate ws.length 0) by rw[dh,G8];simp[ax]];refine ae [] rfl ?_;refine ad (ad (aa (ae [] rfl ?_)));refine au ?_
 refine bO (σ:=Nat) (λ k=>[(14,.int .i64 k),(13,.int .i64 ws.length),(12,.slice B ws.length cb),(4,.slice (some ⟨g,0,none⟩) ws.length ws.length)]) (λ k=>[.own (.slice (some ⟨g,0,none⟩) ws.length ws.length) 2 1 ws.length (ax ((ws.take k).map (λ w=>(dj w).1)++List.replicate (ws.length-k) 0)),.seg bb ob (cK ws)]++V.heap)
  (λ k=>k<=ws.length/\∀ j x,j<k->ws[j]?=some x->(dj x).2=0) (λ k=>ws.length-k) 0 [0,1,2,3,4] ⟨rfl,rfl,rfl,rfl,an⟩ (by decide) rfl ⟨GB _,λ j x h=>by omega⟩ ?_
 rintro k ⟨hk,hall⟩;refine ad (aa (ae [] rfl ?_));refine ad (aC rfl (λ hlt=>aq ?_) (λ hge=>bc ?_))
 ·have hlt':k<ws.length:=by omega
  obtain⟨x,hx⟩:∃ x,ws[k]?=some x:=⟨ws[k],Gq hlt'⟩;obtain rfl:=hB (by rintro rfl;simp at hlt');have hxl:=hw x (Gu hx);refine ad (au ?_);refine ad (aa (ah [] rfl ?_));refine ab [] (bR rfl hlt') rfl ?_;refine ab [] (a8 1 rfl rfl (fy hx)) rfl ?_;refine ae [] rfl ?_;refine ad (aa ?_);refine am (gs:=[999]) rfl ?_;refine ap [] (rh V x (by omega)) rfl (by kernel_rfl) ⟨⟨2,by simp,rfl⟩,⟨3,by simp,rfl⟩,⟨4,by simp,rfl⟩,an⟩ (λ _=>rfl) ?_;rintro v H' ⟨rfl,rfl⟩;refine⟨rfl,?_⟩;refine ae [] rfl ?_;refine ad (ad (aa (ae [] rfl ?_)));refine aC rfl (λ he=>?_) (λ he=>aq ?_)
  ·have hne:=nA hx hall he;refine ad (aa (ae [] rfl ?_));refine cd 2 1 ?_;refine az [0] (by decide) rfl (ay ⟨_,rfl,none,0,?_,?_⟩)
   ·rw[hne];rfl
   ·rw[hne];rfl
  ·have he0:(dj x).2=0:=Classical.not_not.1 he;refine aa (ah [] rfl ?_);refine ab [] (bR rfl hlt') rfl ?_;refine aO 0 rfl rfl rfl rfl (dU rfl (by rw[List.length_append,List.length_map,List.length_take,List.length_replicate];omega)) [] rfl ?_;refine ae [] rfl ?_;refine aa (ae [] rfl ?_);refine⟨k+1,[0,1,2,3,4],⟨?_,rfl,rfl,rfl,trivial⟩,by decide,?_,⟨by omega,fun j y hj hy=>?_⟩,by omega⟩
   ·show some (Value.int .i64 (IntKind.i64.wrap ((k:Int)+1)))=_;rw[cv (by omega)];rfl
   ·have:((ws.take k).map (λ w=>(dj w).1)++List.replicate (ws.length-k) 0).set k (dj x).1=(ws.take (k+1)).map (λ w=>(dj w).1)++List.replicate (ws.length-(k+1)) 0:=by
     have hl:((ws.take k).map (λ w=>(dj w).1)).length=k:=by rw[GA,GV];omega
     rw[HJ _ _ (by omega),hl,HC,GO,hx,show ws.length-k=(ws.length-(k+1))+1 by omega,Hw,HU];simp
    rw[<- this];simp only[GZ];rfl
   ·by_cases e:j=k
    ·subst e;rw[hx] at hy;obtain rfl:=G0 hy;exact he0
    ·exact hall j y (by omega) hy
 have hkl:k=ws.length:=by omega
 subst hkl
 have hok:=qB (ws:=ws) λ w hw'=>by
  obtain⟨j,hj,e⟩:=IB hw';exact hall j w hj (by rw[Gq hj,e])
 rw[GY,HC,IX,G5];refine ad (aa (ae [] rfl ?_));refine az [0] (by decide) rfl (ay ⟨_,rfl,some ⟨g,0,none⟩,ws.length,?_,?_⟩)
 ·rw[hok];simp only[GA];rfl
 ·rw[hok];simp only[GA]
def E6(r:Rd)(A:OA)(c:Nat):LV_:=[.int .i64 r.nodes,.int .i64 r.src,.int .i64 r.snk,.slice A r.arcs.length c,.int .i64 r.most,.int .i64 r.sum]
def nz(p:Nat)(A:OA)(c:Nat)(r:Rd):Heap:=[blk p 91 (E6 r A c),.own (.slice A r.arcs.length c) 37 3 r.arcs.length (arcs r.arcs)]
theorem n7(p:Nat)(r:Rd)(A:OA)(c:Nat)(v:Int):Fn 111 [.pointer (some ⟨p,0,none⟩),.int .i64 v] [] [.seg p 0 (E6 r A c)] λ u H'=>u=.bool (di (1<=v/\v<=r.nodes))/\H'=[]:=by
 refine aJ Tryz.func111 rfl rfl λ w0=>?_;refine ad (aa (ae [] rfl ?_));refine ad (aa ?_);refine am (gs:=[999]) rfl ?_;refine am (gs:=[999]) rfl ?_;refine am (gs:=[999]) rfl ?_;by_cases h:1<=v
 ·refine bd 7 rfl h ?_;refine ah [2] rfl ?_;refine ab [2] (a8 (i:=0) (v:=.int .i64 r.nodes) 0 rfl rfl rfl) rfl ?_;refine ae [2] rfl ?_;exact az [] (by decide) rfl (ay ⟨_,rfl,Gt Value.bool (ey ⟨λ k=>⟨h,k⟩,λ k=>k.2⟩),rfl⟩)
 ·refine aX 7 rfl h ?_;refine ae [2] rfl ?_;exact az [] (by decide) rfl (ay ⟨_,rfl,Gt Value.bool (a6 (λ k=>h k.1)).symm,rfl⟩)
def jk(p:Nat)(q:Rd×Int)(v:Value)(H':Heap):Prop:=v=.int .i64 q.2/\∃ (A':OA) (c':Nat),H'=nz p A' c' q.1
theorem pF{b off:Nat}(k:Nat){l m:List (LU)}(h:∀ i:Nat,l[k+i]?=m[i]?):(aV.seg b off (cK l)).shows b (off+k) (cK m):=λ w hw i v hv=>by
 have h1:(cK l)[k+i]?=some v:=by
  unfold cK at hv ⊢;rw[GC] at hv ⊢;rw[h i];exact hv
 have h2:=hw (k+i) v h1;rw[<- He] at h2;exact h2
theorem FQ{w:Ws}(h:w.length=4):∃ a b c d,w=[a,b,c,d]:=by
 match w,h with
 |[a,b,c,d],_=>exact⟨a,b,c,d,rfl⟩
theorem v8(V:b5)(w:Ws)(hw:∀ x∈w,x.length<=10000000)(hn:w.length<=10000000)(B:OA)(n bb ob:Nat)(hB:w≠[]->B=some ⟨bb,ob,none⟩)(hnl:n=w.length)(p:Nat)(r:Rd)(ok:r.OK)(A:OA)(c:Nat):
 Fn 80 [.pointer (some ⟨p,0,none⟩),.slice B n n] (aL (nz p A c r)) ([.seg bb ob (cK w)]++V.heap++nz p A c r) (jk p (r.problem w)):=by
 subst hnl
 have bad:(w.length≠4\/w[1]?≠some [109,97,120]\/r.most≠-1)->jk p (r.problem w) (.int .i64 2) (nz p A c r):=λ h=>by
  unfold Rd.problem;rw[if_pos h];exact⟨rfl,A,c,rfl⟩
 refine aJ Tryz.func80 rfl rfl λ w0=>?_;refine ad (aa (ae [] rfl ?_));refine ad (ad (aa (ah [] rfl ?_)));by_cases h1:w.length=4
 ·obtain⟨x0,x1,x2,x3,rfl⟩:=FQ h1;obtain rfl:=hB (by simp);refine aX 10 rfl (by simp) ?_;refine ah [3] rfl ?_;refine ab [3] (bR rfl (by simp)) rfl ?_;refine ab [3] (a8 0 rfl rfl (fy (x:=x1) rfl)) rfl ?_;refine ab [3] (w5 (m:=[109,97,120]) rfl rfl rfl) rfl ?_;refine ah [3] rfl ?_;by_cases h2:x1=[109,97,120]
  ·subst h2;refine aX 16 rfl (by simp) ?_;refine ah [9] rfl ?_;refine ab [9] (cB (i:=4) (v:=.int .i64 r.most) 4 rfl rfl rfl rfl) rfl ?_;refine ae [9] rfl ?_;refine aC rfl (fun h3=>?_) (fun h3=>aq ?_)
   ·refine ad (aa (ae [] rfl ?_));exact az [4,5] (by decide) rfl (ay ⟨_,rfl,bad (.inr (.inr h3))⟩)
   have h3':r.most=-1:=GK.1 h3;refine ad (aa (ah [] rfl ?_));refine ab [] (dE (i:=2) rfl rfl rfl rfl rfl (by simp)) rfl ?_;refine ap [] (l0 V [x2,x3] (λ x hx=>hw x (HW _ (HW _ hx))) (by simp) _ 2 _ bb (ob+2) (λ _=>rfl) rfl) rfl (by kernel_rfl) ⟨⟨0,_,by simp,rfl,pF 2 (λ i=>by rw[I5];rfl),.inr rfl⟩,⟨1,by simp,rfl⟩,⟨2,by simp,rfl⟩,⟨3,by simp,rfl⟩,an⟩ (λ _=>rfl) ?_;rintro v H' ⟨An,cn,rfl,rfl⟩;refine⟨rfl,?_⟩
   generalize hq:bn [x2,x3]=q
   have hql:=λ h=>(nN (ws:=[x2,x3]) h).1;have hqi:=nq (ws:=[x2,x3]);rw[hq] at hql hqi;obtain⟨L,e⟩:=q
   have good:∀ z:Rd×Int,(if e≠0 then (r,e) else if L.getD 0 0<2\/500<L.getD 0 0\/L.getD 1 0<0\/2000<L.getD 1 0 then (r,3) else ({ r with nodes:=L.getD 0 0,most:=L.getD 1 0 },0))=z->r.problem [x0,[109,97,120],x2,x3]=z:=λ z hz=>by
    unfold Rd.problem;rw[if_neg (by simp[h3']),show List.drop 2 [x0,[109,97,120],x2,x3]=[x2,x3] from rfl,hq];exact hz
   refine ae [] rfl ?_;refine ad (au ?_);refine ad (aa (ae [] rfl ?_));refine aC rfl (λ he=>?_) (λ he=>?_)
   ·refine ad (aa (ae [] rfl ?_));exact az [5,6] (by decide) rfl (ay ⟨_,rfl,by rw[good _ (if_pos he)];exact⟨rfl,A,c,rfl⟩⟩)
   have he0:e=0:=GK.1 he;have hL:=hql he0
   obtain⟨a,b,rfl⟩:∃ a b,L=[a,b]:=by
    match L,hL with
    |[a,b],_=>exact⟨a,b,rfl⟩
   refine bh (aW 0 rfl) (λ ho=>?_);obtain⟨g,rfl⟩:=ho.2.2.1 (by simp);have ha:dn a:=hqi a (by simp);have hb:dn b:=hqi b (by simp);simp only[List.getD_cons_zero,List.getD_cons_succ] at good;rw[if_neg he] at good;refine ad (aa (ah [] rfl ?_));refine ab [] (bR rfl (by simp)) rfl ?_;refine ab [] (aD (i:=0) 0 rfl rfl rfl (be rfl)) rfl ?_;refine ah [] rfl ?_
   have h3bad:(a<2\/500<a\/b<0\/2000<b)->jk p (r.problem [x0,[109,97,120],x2,x3]) (.int .i64 3) (nz p A c r):=λ h=>by
    rw[good _ (if_pos h)];exact⟨rfl,A,c,rfl⟩
   by_cases ha2:a<2
   ·refine bd 38 rfl ha2 ?_;refine ah [4] rfl ?_;refine aI 44 (v':=.bool true) rfl rfl ?_;refine ah [4,10] rfl ?_;refine aI 50 (v':=.bool true) rfl rfl ?_;refine ae [4,10,16] rfl ?_;refine bi rfl ?_;refine ad (aa (ae [] rfl ?_));exact az [5,6] (by decide) rfl (ay ⟨_,rfl,h3bad (.inl ha2)⟩)
   refine aX 38 rfl ha2 ?_;refine ah [4] rfl ?_;refine ab [4] (bR rfl (by simp)) rfl ?_;refine ab [4] (aD (i:=0) 0 rfl rfl rfl (be rfl)) rfl ?_;refine ah [4] rfl ?_;by_cases ha5:500<a
   ·refine bd 44 rfl ha5 ?_;refine ah [4,10] rfl ?_;refine aI 50 (v':=.bool true) rfl rfl ?_;refine ae [4,10,16] rfl ?_;refine bi rfl ?_;refine ad (aa (ae [] rfl ?_));exact az [5,6] (by decide) rfl (ay ⟨_,rfl,h3bad (.inr (.inl ha5))⟩)
   refine aX 44 rfl ha5 ?_;refine ah [4,10] rfl ?_;refine ab [4,10] (bR rfl (by simp)) rfl ?_;refine ab [4,10] (aD (i:=1) 0 rfl rfl rfl (be rfl)) rfl ?_;refine ah [4,10] rfl ?_;by_cases hb0:b<0
   ·refine bd 50 rfl hb0 ?_;refine ae [4,10,16] rfl ?_;refine bi rfl ?_;refine ad (aa (ae [] rfl ?_));exact az [5,6] (by decide) rfl (ay ⟨_,rfl,h3bad (.inr (.inr (.inl hb0)))⟩)
   refine aX 50 rfl hb0 ?_;refine ah [4,10,16] rfl ?_;refine ab [4,10,16] (bR rfl (by simp)) rfl ?_;refine ab [4,10,16] (aD (i:=1) 0 rfl rfl rfl (be rfl)) rfl ?_;refine ae [4,10,16] rfl ?_;refine aC rfl (λ hb2=>?_) (λ hb2=>aq ?_)
   ·refine ad (aa (ae [] rfl ?_));exact az [5,6] (by decide) rfl (ay ⟨_,rfl,h3bad (.inr (.inr (.inr hb2)))⟩)
   refine ad ?_;refine bu 15 (cZ [0,1,2,3,4,5,6,7,8,9,10]++[(11,false)]++cZ [12,13]++[(14,false)]) [0] (by kernel_rfl) (by decide) rfl ?_;refine aB [] rfl ?_;refine aj [] rfl (bR rfl (by simp)) rfl ?_;refine aj [] rfl (aD (i:=0) 0 rfl rfl rfl (be rfl)) rfl ?_;refine aB [] rfl ?_;refine aj [] rfl (bR rfl (by simp)) rfl ?_;refine aj [] rfl (aD (i:=1) 0 rfl rfl rfl (be rfl)) rfl ?_;refine aB [] rfl ?_;refine bg rfl ?_;refine aA 5 rfl [] rfl ?_;refine ai ⟨⟨[0],by decide,rfl⟩,?_⟩;refine aB [] rfl ?_;refine bg rfl ?_;refine aA 5 rfl [] rfl ?_;refine ai ⟨⟨[0],by decide,rfl⟩,?_⟩;refine bq (ai ?_);refine ad (aa (ae [] rfl ?_));exact az [5,6] (by decide) rfl (ay ⟨_,rfl,by rw[good _ (if_neg (by omega))];exact⟨rfl,A,c,rfl⟩⟩)
  ·refine bd 16 rfl h2 ?_;refine ae [9] rfl ?_;refine bi rfl ?_;refine ad (aa (ae [] rfl ?_));exact az [4,5] (by decide) rfl (ay ⟨_,rfl,bad (.inr (.inl (by simpa using h2)))⟩)
 ·refine bd 10 rfl (by simp;omega) ?_;refine ah [3] rfl ?_;refine aI 16 (v':=.bool true) rfl rfl ?_;refine ae [3,9] rfl ?_;refine bi rfl ?_;refine ad (aa (ae [] rfl ?_));exact az [4,5] (by decide) rfl (ay ⟨_,rfl,bad (.inl h1)⟩)
theorem DX{w:Ws}(h:w.length=3):∃ a b c,w=[a,b,c]:=by
 match w,h with
 |[a,b,c],_=>exact⟨a,b,c,rfl⟩
def Rd.at_(r:Rd)(q:Nat):Int:=if q=1 then r.src else r.snk
def Rd.put(r:Rd)(q:Nat)(v:Int):Rd:=if q=1 then { r with src:=v } else { r with snk:=v }
def Rd.endAt(r:Rd)(q:Nat)(n:LI×Int):Rd×Int:=
 if r.at_ q≠0 then (r,2) else if n.2≠0 then (r,n.2) else
 if ¬ (1<=n.1.getD 0 0/\n.1.getD 0 0<=r.nodes) then (r,4) else
 if n.1.getD 0 0=r.src\/n.1.getD 0 0=r.snk then (r,5) else (r.put q (n.1.getD 0 0),0)
def FF(x:LU)(q:Nat):Prop:=q=1/\x=[115]\/q=2/\x=[116]
theorem Rd.end_at{r:Rd}{x0 x1 x2:LU}{q:Nat}(hm:r.most≠-1)(ha:r.arcs=[])(hq:FF x2 q):r.end_ [x0,x1,x2]=r.endAt q (bn [x1]):=by
 unfold Rd.end_ Rd.endAt;rw[if_neg (by simp[hm,ha])]
 rcases hq with ⟨rfl,rfl⟩|⟨rfl,rfl⟩
 ·rw[if_pos (show [x0,x1,[115]][2]?=some [115] from rfl)];rfl
 ·rw[if_neg (show ¬ [x0,x1,[116]][2]?=some [115] by simp),if_pos (show [x0,x1,[116]][2]?=some [116] from rfl)];rfl
theorem Du(V:b5)(w:Ws)(hw:∀ x∈w,x.length<=10000000)(hn:w.length<=10000000)(B:OA)(n bb ob:Nat)(hB:w≠[]->B=some ⟨bb,ob,none⟩)(hnl:n=w.length)(p:Nat)(r:Rd)(ok:r.OK)(A:OA)(c:Nat):
 Fn 81 [.pointer (some ⟨p,0,none⟩),.slice B n n] (aL (nz p A c r)) ([.seg bb ob (cK w)]++V.heap++nz p A c r) (jk p (r.end_ w)):=by
 subst hnl
 have bad:(w.length≠3\/r.most=-1\/r.arcs≠[])->jk p (r.end_ w) (.int .i64 2) (nz p A c r):=λ h=>by
  unfold Rd.end_;rw[if_pos h];exact⟨rfl,A,c,rfl⟩
 have hlen:=ok.len;refine aJ Tryz.func81 rfl rfl λ w0=>?_;refine ad (aa (ae [] rfl ?_));refine ad (ad (aa (ah [] rfl ?_)));by_cases h1:w.length=3
 case neg=>
  refine bd 11 rfl (by simp;omega) ?_;refine ah [3] rfl ?_;refine aI 18 (v':=.bool true) rfl rfl ?_;refine ae [3,10] rfl ?_;refine bi rfl ?_;refine ad (aa (ae [] rfl ?_));exact az [4,5] (by decide) rfl (ay ⟨_,rfl,bad (.inl h1)⟩)
 obtain⟨x0,x1,x2,rfl⟩:=DX h1;obtain rfl:=hB (by simp);refine aX 11 rfl (by simp) ?_;refine ah [3] rfl ?_;refine ab [3] (cB (i:=4) (v:=.int .i64 r.most) 4 rfl rfl rfl rfl) rfl ?_;refine ah [3] rfl ?_;by_cases h2:r.most=-1
 ·refine bd 18 rfl h2 ?_;refine ae [3,10] rfl ?_;refine bi rfl ?_;refine ad (aa (ae [] rfl ?_));exact az [4,5] (by decide) rfl (ay ⟨_,rfl,bad (.inr (.inl h2))⟩)
 refine aX 18 rfl h2 ?_;refine ah [3,10] rfl ?_;refine ab [3,10] (cB (i:=3) (v:=.slice A r.arcs.length c) 4 rfl rfl rfl rfl) rfl ?_;refine ae [3,10] rfl ?_;refine aC rfl (λ h3=>?_) (λ h3=>aq ?_)
 ·refine ad (aa (ae [] rfl ?_));exact az [4,5] (by decide) rfl (ay ⟨_,rfl,bad (.inr (.inr (by rintro e;rw[e] at h3;simp at h3)))⟩)
 have h3':r.arcs=[]:=IK (by omega);refine ad (aa (ae [] rfl ?_));refine jg (σ:={ q:Nat//FF x2 q }) (λ q=>[(5,.pointer (some ⟨p,q.1,none⟩)),(0,.pointer (some ⟨p,0,none⟩)),(1,.slice (some ⟨bb,ob,none⟩) 3 3)]) (λ _=>[.seg bb ob (cK [x0,x1,x2])]++V.heap++nz p A c r) ?_ ?_
 ·refine ad (aa (ah [] rfl ?_));refine ab [] (bR rfl (by simp)) rfl ?_;refine ab [] (a8 0 rfl rfl (fy (x:=x2) rfl)) rfl ?_;refine ae [] rfl ?_;refine au (ad (aa (ah [] rfl ?_)));refine ae [] rfl ?_;refine a7 34 (v':=.bool (di (x2=[115]))) rfl (congrArg Value.bool (de x2 [115])) ?_;refine aC rfl (fun hs=>aq ?_) (fun hs=>?_)
  ·exact⟨⟨1,.inl ⟨rfl,hs⟩⟩,⟨rfl,rfl,rfl,an⟩,aH.refl⟩
  refine ad (aa (ah [] rfl ?_));refine ae [] rfl ?_;refine a7 36 (v':=.bool (di (x2=[116]))) rfl (Gt Value.bool (de x2 [116])) ?_;refine aC rfl (λ ht=>?_) (λ ht=>?_)
  ·skip
   refine aa (ae [] rfl ?_);exact⟨⟨2,.inr ⟨rfl,ht⟩⟩,⟨rfl,rfl,rfl,an⟩,aH.refl⟩
  ·refine ad (aa (ae [] rfl ?_));refine az [4,5] (by decide) rfl (ay ⟨_,rfl,?_⟩);unfold Rd.end_;rw[if_neg (by simp[h2,h3']),if_neg (by simpa using hs),if_neg (by simpa using ht)];exact⟨rfl,A,c,rfl⟩
 rintro⟨q,hq⟩
 have hget:eH 3 (E6 r A c) q=some (.int .i64 (r.at_ q)):=by
  rcases hq with ⟨rfl,_⟩|⟨rfl,_⟩<;>rfl
 have hput:∀ v:Int,nD 3 (E6 r A c) q (Value.int .i64 v).cells.toList=some (E6 (r.put q v) A c):=by
  intro v
  rcases hq with ⟨rfl,_⟩|⟨rfl,_⟩<;>rfl
 rw[Rd.end_at h2 h3' hq];refine ad (ad (aa (ah [] rfl ?_)));refine ab [] (cB 4 rfl rfl rfl hget) rfl ?_;refine ae [] rfl ?_;refine aC rfl (λ hz=>?_) (λ hz=>aq ?_)
 ·refine ad (aa (ae [] rfl ?_));refine az [4,5] (by decide) rfl (ay ⟨_,rfl,?_⟩);unfold Rd.endAt;rw[if_pos hz];exact⟨rfl,A,c,rfl⟩
 refine ad (aa (ah [] rfl ?_));refine ab [] (bR rfl (by simp)) rfl ?_;refine ab [] (a8 0 rfl rfl (fy (x:=x1) rfl)) rfl ?_;refine bF rfl rfl rfl rfl rfl rfl rfl (λ _=>rfl) λ g=>?_;refine ap [] (l0 V [x1] (λ x hx=>hw x (by simp only[GD,GP,or_false] at hx ⊢;exact .inr (.inl hx))) (by simp) _ 1 _ g 0 (λ _=>rfl) rfl) rfl (by kernel_rfl) ⟨⟨0,_,by simp,rfl,aF _ _ _ (0,0),.inr rfl⟩,⟨2,by simp,rfl⟩,⟨3,by simp,rfl⟩,⟨4,by simp,rfl⟩,an⟩ (λ _=>rfl) ?_;rintro v H' ⟨An,cn,rfl,rfl⟩;refine⟨rfl,?_⟩
 generalize hqq:bn [x1]=Q
 have hql:=λ h=>(nN (ws:=[x1]) h).1;have hqi:=nq (ws:=[x1]);rw[hqq] at hql hqi;obtain⟨L,e⟩:=Q;refine ae [] rfl ?_;refine ad (au ?_);have z0:¬ r.at_ q≠0:=hz
 have fold:∀ u:Rd×Int,(if e≠0 then (r,e) else if ¬ (1<=L.getD 0 0/\L.getD 0 0<=r.nodes) then (r,4) else if L.getD 0 0=r.src\/L.getD 0 0=r.snk then (r,5) else (r.put q (L.getD 0 0),0))=u->r.endAt q (L,e)=u:=λ u hu=>by
  unfold Rd.endAt;rw[if_neg z0];exact hu
 refine ad (aa (ae [] rfl ?_));refine aC rfl (λ he=>?_) (λ he=>?_)
 ·refine ad (aa (ae [] rfl ?_));exact az [6,7] (by decide) rfl (ay ⟨_,rfl,by rw[fold _ (if_pos he)];exact⟨rfl,A,c,rfl⟩⟩)
 have he0:e=0:=GK.1 he
 obtain⟨a,rfl⟩:∃ a,L=[a]:=by
  match L,hql he0 with
  |[a],_=>exact⟨a,rfl⟩
 refine bh (aW 0 rfl) (λ ho=>?_);obtain⟨g',rfl⟩:=ho.2.2.1 (by simp);simp only[List.getD_cons_zero] at fold;rw[if_neg he] at fold;refine ad (aa (ah [] rfl ?_));refine ab [] (bR rfl (by simp)) rfl ?_;refine ab [] (aD (i:=0) 0 rfl rfl rfl (be rfl)) rfl ?_;refine ap [] (n7 p r A c a) rfl (by kernel_rfl) ⟨⟨6,_,by simp,rfl,aF _ _ _ (0,0),.inr rfl⟩,an⟩ (λ _=>rfl) ?_;rintro v H' ⟨rfl,rfl⟩;refine⟨rfl,?_⟩;refine ae [] rfl ?_;by_cases h4:1<=a/\a<=r.nodes
 case neg=>
  refine a7 58 (v':=.bool true) rfl (by rw[a6 h4];rfl) ?_;refine bi rfl ?_;refine ad (aa (ae [] rfl ?_));exact az [6,7] (by decide) rfl (ay ⟨_,rfl,by rw[fold _ (if_pos h4)];exact⟨rfl,A,c,rfl⟩⟩)
 refine a7 58 (v':=.bool false) rfl (by rw[aR h4];rfl) ?_;refine bG rfl ?_;rw[if_neg (λ k=>k h4)] at fold;refine ad ?_
 have h5bad:(a=r.src\/a=r.snk)->jk p (r.endAt q ([a],e)) (.int .i64 5) (nz p A c r):=λ h=>by
  rw[fold _ (if_pos h)];exact⟨rfl,A,c,rfl⟩
 refine bu 21 (cZ [0,1,2,3,4,5,6,7,8,9,10,11,12,13,14,15,16,17,18,19,20]) [0,6] (by kernel_rfl) (by decide) rfl ?_;refine aB [] rfl ?_;refine aj [] rfl (bR rfl (by simp)) rfl ?_;refine aj [] rfl (aD (i:=0) 0 rfl rfl rfl (be rfl)) rfl ?_;refine aB [] rfl ?_;refine aj [] rfl (cB (i:=1) (v:=.int .i64 r.src) 1 rfl rfl rfl rfl) rfl ?_;refine aB [] rfl ?_;by_cases h6:a=r.src
 ·refine sn 75 rfl h6 ?_;refine dw [9] rfl ?_;refine ai ?_;refine bi rfl ?_;refine ad (aa (ae [] rfl ?_));exact az [6,7] (by decide) rfl (ay ⟨_,rfl,h5bad (.inl h6)⟩)
 refine j8 75 rfl h6 ?_;refine aB [9] rfl ?_;refine aj [9] rfl (bR rfl (by simp)) rfl ?_;refine aj [9] rfl (aD (i:=0) 0 rfl rfl rfl (be rfl)) rfl ?_;refine aB [9] rfl ?_;refine aj [9] rfl (cB (i:=2) (v:=.int .i64 r.snk) 1 rfl rfl rfl rfl) rfl ?_;refine dw [9] rfl ?_;refine ai ?_;refine aC rfl (λ h7=>?_) (λ h7=>aq ?_)
 ·refine ad (aa (ae [] rfl ?_));exact az [6,7] (by decide) rfl (ay ⟨_,rfl,h5bad (.inr h7)⟩)
 refine ad (aa (ah [] rfl ?_));refine ab [] (bR rfl (by simp)) rfl ?_;refine ab [] (aD (i:=0) 0 rfl rfl rfl (be rfl)) rfl ?_;refine ah [] rfl ?_;refine vf 6 rfl rfl rfl rfl (hput a) [] rfl ?_;refine ae [] rfl ?_;refine ad (aa (ae [] rfl ?_));refine az [6,7] (by decide) rfl (ay ⟨_,rfl,?_⟩);rw[fold _ (if_neg (by omega))];refine⟨rfl,A,c,?_⟩
 rcases hq with ⟨rfl,_⟩|⟨rfl,_⟩<;>rfl
end Go.Proofs.YtmcnpaelaieniaaGreatDoor
