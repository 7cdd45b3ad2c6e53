/- The engine and the words that all chapters share: several texts in one. -/
import Derived.Test.YtpbmihpjgjbndaaGreatDoorQX36
import Derived.Test.YtpbmihpjgjbndaaGreatDoorQX12
import Derived.Test.YtpbmihpjgjbndaaGreatDoorQB
import Derived.Lib.Join
import Derived.Test.YtpbmihpjgjbndaaGreatDoorQX48
/- A strings.Builder that is a field of another struct (its only one): written, and read at last. -/
set_option linter.unusedVariables false
set_option linter.unusedSimpArgs false
namespace Go.Proofs.YtpbmihpjgjbndaaGreatDoor
open Go.RowKit
open Lib
section
variable {X:Cx} {Q:dl} {E:Env} {H K:Heap}
theorem ow {w:World} {b e:Nat} {cs:List Value} (h:(blk b e cs).holds w):w.shape? b=some (e,cs.length):=by
 have h':w.heap[b]?=some (.cells cs.toArray e (0,0)):=h
 simp[World.shape?,h']
theorem xS {o:Oper} {src dst t b i e:Nat} {x:Operand} {cs:List Value} {j:TypeInfo} (k:Nat) (ho:o.op=.convert src dst x) (hx:val E x=some (.pointer (some ⟨b,i,none⟩))) (hk:H[k]?=some (blk b e cs)) (hs:Tryz.prog.underlying src=some (.pointer t)) (hd:Tryz.prog.underlying dst=some .unsafePointer)
 (ht:Tryz.prog.info? t=some j) (hj:j.size≠0) (hi:i<cs.length):gW X o E H (.pointer (some ⟨b,i,none⟩)):=by
 intro a w hA hH
 have hsh:=ow (hH.holds _ (List.mem_of_getElem? hk))
 have:=Lib.run_to_unsafe w ⟨b,i,none⟩ hs hd ht hj hsh hi
 simp only[execOp,ho,hA.val hx,Sem.run_bind,this,Result.andThen_ok]
 rfl
theorem uD {o:Oper} {src dst t b i e:Nat} {x:Operand} {cs:List Value} {j:TypeInfo} (k:Nat) (ho:o.op=.convert src dst x) (hx:val E x=some (.pointer (some ⟨b,i,none⟩))) (hk:H[k]?=some (blk b e cs)) (hs:Tryz.prog.underlying src=some .unsafePointer) (hd:Tryz.prog.underlying dst=some (.pointer t))
 (ht:Tryz.prog.info? t=some j) (hl:Go.liesAt Tryz.prog Tryz.prog.depth e (cs.length/Tryz.prog.cellsOf e) i t 1=true):gW X o E H (.pointer (some ⟨b,i,none⟩)):=by
 intro a w hA hH
 have hsh:=ow (hH.holds _ (List.mem_of_getElem? hk))
 have:=Lib.run_from_unsafe w ⟨b,i,none⟩ hs hd ht hsh hl
 simp only[execOp,ho,hA.val hx,Sem.run_bind,this,Result.andThen_ok]
 rfl
theorem tx {o:Oper} {x:Operand} {v:Value} {ts:Array TypeId} (ho:o.op=.call ⟨.value (.func 130),#[x],ts⟩) (hx:val E x=some v):gW X o E H v:=by
 intro a w hA hH
 have h1:=run_callFunc_extern (P:=Tryz.prog) (f:=130) (e:=Extern.AbiNoEscape.same) Tryz.func130 (by kernel_rfl) (by kernel_rfl) (by kernel_rfl) (by kernel_rfl) #[v] w
 rw[Lib.run_noEscape] at h1
 have h2:(callFunc 130 #[v]).run Tryz.prog w=.ok (.value v) w:=h1
 have e2:a.eval (.func 130)=.func (.func 130) #[] #[]:=rfl
 simp[execOp,ho,resolve,Deferred.ofValue,invoke,e2,hA.val hx,h2]
theorem uS {o:Oper} {t t':Nat} {x y:Operand} (ho:o.op=.binOp .eql t x y t') (hx:val E x=some (.pointer none)) (hy:val E y=some (.pointer none)) (h:Tryz.prog.underlying t=some (.pointer (Tryz.prog.pointee t))):gW X o E H (.bool true):=by
 intro a w hA hH
 have hg:(eqGuard .eql t x y (.pointer none) (.pointer none)).run Tryz.prog w=.ok () w:=by simp[eqGuard]
 have hb:(binOp .eql t (.pointer none) (.pointer none)).run Tryz.prog w=.ok (.bool true) w:=run_eql_pointer_nil w t none h
 simp only[execOp,ho,hA.val hx,hA.val hy,Sem.run_bind,hg,hb,Result.andThen_ok]
 rfl
end
def jV (e b:Nat) (p:Value) (A:Option Addr) (c:Nat) (m:List UInt8):Heap:=[blk b e [p,.slice A m.length c],.own (.slice A m.length c) 5 1 m.length (byteCells m)]
def sB (e:Nat):Prop:=Go.liesAt Tryz.prog Tryz.prog.depth e (2/Tryz.prog.cellsOf e) 0 100 1=true
theorem wm:∃ j,Tryz.prog.info? 100=some j∧j.size=2:=by
 obtain⟨_,j,_,h,_,hz,_⟩:=cZ (t:=100) rfl
 exact⟨j,h,hz⟩
theorem qX (e b:Nat) (p v:Value) (he:sB e) (hp:zC b p):Fn 94 [.pointer (some ⟨b,0,none⟩)] (aR [blk b e [p,v]]) ([]++[blk b e [p,v]]) fun _ H'=>H'=[blk b e [.pointer (some ⟨b,0,none⟩),v]]:=by
 rcases hp with rfl|rfl
 case inr=>
  intro w hw
  have hb:w.heap[b]?=some (.cells #[.pointer (some ⟨b,0,none⟩),v] e (0,0)):=hw.holds _ (List.mem_cons_self ..)
  refine (Any.Builder_copyCheck_used { Tryz.lays156 with } Tryz.Builder_Extra_156.toX72 b w (by simp[World.cell?,hb])).mono ?_
  rintro x w' ⟨hx,rfl⟩
  exact⟨.tuple #[],_,hx,hw,rfl⟩
 obtain⟨j,hj,hz⟩:=wm
 refine aS Tryz.func94 rfl rfl fun w0=>?_
 refine ad (aa (ah [] rfl ?_))
 refine ab [] (v:=.pointer none) (af 0 rfl rfl rfl rfl) rfl ?_
 refine ab [] (v:=.bool true) (uS rfl rfl rfl (by kernel_rfl)) rfl ?_
 refine ai ?_
 refine bo rfl ?_
 refine aa (ah [] rfl ?_)
 refine ab [] (xS 0 rfl rfl rfl (by kernel_rfl) (by kernel_rfl) hj (by omega) (Nat.succ_pos 1)) rfl ?_
 refine ab [] (tx rfl rfl) rfl ?_
 refine ab [] (uD 0 rfl rfl rfl (by kernel_rfl) (by kernel_rfl) hj he) rfl ?_
 refine ah [] rfl ?_
 refine aX 0 rfl rfl rfl rfl rfl [] rfl ?_
 refine ai ?_
 exact⟨_,rfl,rfl⟩
theorem vN (e b:Nat) (p:Value) (he:sB e) (hp:zC b p) (A:Option Addr) (c:Nat) (m s:List UInt8) (hl:m.length+s.length≤100000000):Fn 62 [.pointer (some ⟨b,0,none⟩),dy s] (aR (jV e b p A c m)) ([]++jV e b p A c m)
 fun _ H'=>∃ (A':Option Addr) (c':Nat),H'=jV e b (.pointer (some ⟨b,0,none⟩)) A' c' (m++s):=by
 refine aS Tryz.func62 rfl rfl fun w0=>?_
 refine ad (aa (ae [] rfl ?_))
 refine ad (aa (ah [] rfl ?_))
 refine ao (fst:=[]) (cap:=[]) [] (qX e b p _ he hp) rfl rfl rfl rfl (by kernel_rfl) aK.refl trivial (fun _=>rfl) ?_
 rintro v H' rfl
 refine⟨rfl,?_⟩
 refine ae [] rfl ?_
 refine ad (aa (ah [] rfl ?_))
 refine ab [] (af (i:=1) (v:=.slice A m.length c) 0 rfl rfl rfl rfl) rfl ?_
 refine ah [] rfl ?_
 refine oF (m:=s) 1 rfl rfl rfl rfl rfl rfl rfl (by omega) (fun _ _=>rfl) fun A' c'=>?_
 refine ah [] rfl ?_
 refine aX 0 rfl rfl rfl rfl rfl [] rfl ?_
 refine ae [] rfl ?_
 refine ad (aa (ae [] rfl ?_))
 refine aB ?_
 refine⟨_,rfl,A',c',?_⟩
 unfold jV
 rw[List.length_append,show byteCells (m++s)=byteCells m++byteCells s by simp[byteCells]]
 rfl
section
variable {X:Cx} {Q:dl} {E:Env} {H K:Heap}
theorem xE {E':Env} {ops l:List Oper} {o:Oper} {g c pt it:Nat} {x y:Operand} {m:List UInt8} (k:Nat) (ho:o.op=.call ⟨.builtin .unsafeString,#[x,y],#[pt,it]⟩) (hx:val E x=some (.pointer (some ⟨g,0,none⟩))) (hy:val E y=some (.int .i64 (m.length:Int)))
 (hk:H[k]?=some (.own (.slice (some ⟨g,0,none⟩) m.length c) 5 1 m.length (byteCells m))) (h0:m≠[]) (hp:Tryz.prog.underlying pt=some (.pointer 5)) (hcl:Tryz.prog.cellsOf 5=1) (hb:iJ X.n ops [] E o (dy m)=some E') (h:JL X ops l Q E' (H.set k (.seg 0 0 []))):JL X ops (o::l) Q E H:=by
 refine yb [] hb (fun a w hA hH=>?_) h
 have hown:w.ownsRow 0 5 1 (.slice (some ⟨g,0,none⟩) m.length c) m.length (byteCells m):=hH.holds _ (List.mem_of_getElem? hk)
 have hpos:0<m.length:=List.length_pos_iff.2 h0
 obtain⟨hlen,hn|⟨g',cap,cur,hv,_,hg,hle,hmx,hsz,htk⟩⟩:=hown
 ·exact absurd hn.2 (by omega)
 obtain⟨rfl,rfl⟩:g=g'∧c=cap:=by
  simp only[Value.slice.injEq,Option.some.injEq,Addr.mk.injEq] at hv
  exact⟨hv.1.1,hv.2.2⟩
 have hcell:∀ j x,m[j]?=some x→w.cell? ((⟨g,0,none⟩:Addr).add j)=some (.int .u8 x.toNat):=by
  intro j x hx
  refine World.ownsRow.cells (hH.holds _ (List.mem_of_getElem? hk)) (g:=g) rfl j _ ?_
  simp[byteCells,hx]
 have hsh:w.shape? g=some (5,cur.size):=by simp[World.shape?,hg]
 have hrun:=run_unsafeString_row (P:=Tryz.prog) (w:=w) pt it o.type 5 hp hcl g cur.size hsh m h0 (by omega) (by unfold maxLen at hmx;omega) hcell
 refine⟨w.freeze ⟨g,0,none⟩ m.length,?_,?_⟩
 ·have hr':(Builtin.unsafeString_ #[pt,it] o.type #[.pointer (some ⟨g,0,none⟩),.int .i64 (m.length:Int)]).run Tryz.prog w=.ok (dy m) (w.freeze ⟨g,0,none⟩ m.length):=hrun
  simp[execOp,ho,resolve,invoke,builtin,hA.val hx,hA.val hy,hr']
 ·have hfz:∀ q,q≠g→(w.freeze ⟨g,0,none⟩ m.length).heap[q]?=w.heap[q]?:=by
   intro q hq
   unfold World.freeze
   rw[if_neg (by omega)]
   simp only[Array.getElem?_modify]
   rw[if_neg (fun e=>hq e.symm)]
  have hsize:(w.freeze ⟨g,0,none⟩ m.length).heap.size=w.heap.size:=by
   unfold World.freeze
   rw[if_neg (by omega)]
   simp
  have e1:(w.freeze ⟨g,0,none⟩ m.length).os=w.os:=by unfold World.freeze;rw[if_neg (by omega)]
  have e2:(w.freeze ⟨g,0,none⟩ m.length).tape=w.tape:=by unfold World.freeze;rw[if_neg (by omega)]
  have e3:(w.freeze ⟨g,0,none⟩ m.length).output=w.output:=by unfold World.freeze;rw[if_neg (by omega)]
  exact hH.step k hk e1 e2 e3 (by rw[hsize];exact Nat.le_refl _) (fun q _ hq=>hfz q (fun e=>hq (by rw[e];rfl))) (fun i v hv=>by simp at hv) (fun q hq=>by simp[aO.at_] at hq)
theorem tI {o:Oper} {x:Operand} {a:Addr} {n c:Nat} {ts:Array TypeId} (ho:o.op=.call ⟨.builtin .unsafeSliceData,#[x],ts⟩) (hx:val E x=some (.slice (some a) n c)) (hc:c≠0):gW X o E H (.pointer (some a)):=by
 intro ac w hA hH
 have:=run_unsafeSliceData_row (P:=Tryz.prog) (w:=w) ts o.type a n c hc
 simp[execOp,ho,resolve,invoke,builtin,hA.val hx,this]
end
theorem vk (e b:Nat) (p:Value) (A:Option Addr) (c:Nat) (m:List UInt8) (h0:m≠[]):Fn 53 [.pointer (some ⟨b,0,none⟩)] (aR (jV e b p A c m)) ([]++jV e b p A c m) fun v H'=>v=dy m∧H'=[]:=by
 have hpos:0<m.length:=List.length_pos_iff.2 h0
 refine aS Tryz.func53 rfl rfl fun w0=>?_
 refine ad (aa (ae [] rfl ?_))
 refine bO (bh 1 rfl) fun ⟨_,hc,hA,_⟩=>?_
 obtain⟨g,rfl⟩:=hA hpos
 refine ad ?_
 refine bp 12 [(0,true),(1,true),(2,true),(3,true),(5,true),(6,true),(7,true),(8,true),(9,true),(4,false),(10,false),(11,true)] [0] (by kernel_rfl) (by decide) rfl ?_
 refine aF [] rfl ?_
 refine aj [] (v:=.slice (some ⟨g,0,none⟩) m.length c) rfl (af 0 rfl rfl rfl rfl) rfl ?_
 refine aF [] rfl ?_
 refine aj [] (v:=.slice (some ⟨g,0,none⟩) m.length c) rfl (af 0 rfl rfl rfl rfl) rfl ?_
 refine aF [] rfl ?_
 refine a6 rfl ?_
 refine ab [] (tI rfl rfl (by omega)) rfl ?_
 refine ai ⟨⟨[0],by decide,rfl⟩,?_⟩
 refine a6 rfl ?_
 refine xE (m:=m) 1 rfl rfl rfl rfl h0 (by kernel_rfl) (by kernel_rfl) rfl ?_
 refine ai ⟨⟨[0],by decide,rfl⟩,?_⟩
 refine aF [] rfl ?_
 refine bv ?_
 refine ai ?_
 exact aE [] (by decide) rfl (aB ⟨_,rfl,rfl,rfl⟩)
end Go.Proofs.YtpbmihpjgjbndaaGreatDoor
/- The laws of chapter 2: what stands at their heads, and rows of texts compared. -/
set_option linter.unusedVariables false
set_option linter.unusedSimpArgs false
namespace Go.Proofs.YtpbmihpjgjbndaaGreatDoor
open Go.RowKit
theorem fJ {l:List (List UInt8)} {i:Nat} {x:List UInt8} (h:l[i]?=some x):ew 9 (dC l) i=some (dy x):=qt h
theorem qA {g:Nat} {A:Option Addr} {l:List (List UInt8)} (h:dC l≠[]→A=some ⟨g,0,none⟩):l≠[]→A=some ⟨g,0,none⟩:=fun hne=>h (by simpa [dC] using hne)
theorem wY (l:List UInt8):(bc l).length≤l.length+1:=by
 rw[tB]
 have:=List.count_le_length (a:=(10:UInt8)) (l:=l)
 split<;>omega
theorem iA:∀ l cur:List UInt8,(bM cur l).length≤l.length+(if cur=[] then 0 else 1)
 |[],cur=>by unfold bM;split<;>simp
 |b::l,cur=>by
  unfold bM
  split
  ·split
   ·have:=iA l []
    simp at this ⊢;omega
   ·have:=iA l []
    simp at this ⊢;omega
  ·have:=iA l (cur++[b])
   simp at this
   simp only[List.length_cons]
   split<;>omega
theorem wX (l:List UInt8):(bx l).length≤l.length:=by
 have:=iA l []
 simpa [bx] using this
end Go.Proofs.YtpbmihpjgjbndaaGreatDoor
/- Words joined. -/
set_option linter.unusedVariables false
set_option linter.unusedSimpArgs false
namespace Go.Proofs.YtpbmihpjgjbndaaGreatDoor
open Go.RowKit
theorem wK (A:Option Addr) (n c b o:Nat) (xs:List (List UInt8)) (sep:List UInt8) (hn:n=xs.length) (hA:xs≠[]→A=some ⟨b,o,none⟩) (hc:n≤c) (hl:(Lib.join xs sep).length≤140737488355328) (hx:xs.length≤140737488355328):
 Fn 118 [.slice A n c,dy sep] [] [.seg b o (dC xs)] fun v H'=>v=dy (Lib.join xs sep)∧H'=[]:=by
 subst hn
 by_cases h0:xs=[]
 ·subst h0
  exact Fn.of_below fun w _=>(Any.strings_Join_none Tryz.lays156 Tryz.Builder_Extra_156 A c ⟨sep.toArray⟩ w).mono fun e w' ⟨he,hw⟩=>⟨_,he,hw▸Below.refl _ _,rfl,rfl⟩
 ·obtain rfl:=hA h0
  refine Fn.of_below fun w hw=>?_
  have hseg:=hw.holds (.seg b o (dC xs)) (by simp)
  have hmap:((xs.map fun x=>(⟨x.toArray⟩:ByteArray)).map (·.data.toList))=xs:=by
   rw[List.map_map]
   exact (List.map_congr_left fun x _=>(rfl:_=id x)).trans (List.map_id xs)
  have hcell:∀ (j:Nat) x,(xs.map fun x=>(⟨x.toArray⟩:ByteArray))[j]?=some x→w.cell? ⟨b,o+j,none⟩=some (.string x):=by
   intro j x hj
   rw[List.getElem?_map] at hj
   obtain⟨y,hy,rfl⟩:=Option.map_eq_some_iff.1 hj
   exact hseg j _ (qt hy)
  have hlt:b<w.heap.size:=by
   cases xs with
   |nil=>exact absurd rfl h0
   |cons x r=>exact World.block_lt_of_cell? w _ (hseg 0 _ rfl)
  have T:=Any.strings_Join Tryz.lays156 Tryz.Builder_Extra_156 b o c (xs.map fun x=>(⟨x.toArray⟩:ByteArray)) ⟨sep.toArray⟩ w hcell hlt (by simpa using hx) (by simpa using hc) (by rw[hmap];exact hl)
  rw[List.length_map,hmap] at T
  exact T.mono fun e w' ⟨he,hb⟩=>⟨_,he,hb,rfl,rfl⟩
theorem wk (A:Option Addr) (n c b o:Nat) (xs:List (List UInt8)) (hn:n=xs.length) (hA:xs≠[]→A=some ⟨b,o,none⟩) (hc:n≤c) (hl:(Lib.join xs [32]).length≤140737488355328) (hx:xs.length≤140737488355328):
 Fn 86 [.slice A n c] [] [.seg b o (dC xs)] fun v H'=>v=dy (Lib.join xs [32])∧H'=[]:=by
 refine aS Tryz.func86 rfl rfl fun w0=>?_
 refine ad (aa (ae [] rfl ?_))
 refine ad (aa ?_)
 refine ak (gs:=[999]) rfl ?_
 refine ax [] (wK A n c b o xs [32] hn hA hc hl hx) rfl rfl rfl rfl (by kernel_rfl) ⟨⟨0,_,by simp,rfl,aq _ _ _,ay⟩,trivial⟩ (fun _=>rfl) ?_
 rintro v H' ⟨rfl,rfl⟩
 refine⟨rfl,?_⟩
 refine ae [] rfl ?_
 exact aE [] (by decide) rfl (aB ⟨_,rfl,rfl,rfl⟩)
end Go.Proofs.YtpbmihpjgjbndaaGreatDoor
/- What a text of a network says: line by line. -/
set_option linter.unusedVariables false
set_option linter.unusedSimpArgs false
namespace Go.Proofs.YtpbmihpjgjbndaaGreatDoor
def bD:List (List UInt8)→List Int×Int
 |[]=>([],0)
 |w::r=>if (dE w).2≠0 then ([],(dE w).2) else if (bD r).2≠0 then ([],(bD r).2) else ((dE w).1::(bD r).1,0)
theorem mu:∀ {ws:List (List UInt8)},(∀ w∈ws,(dE w).2=0)→bD ws=(ws.map fun w=>(dE w).1,0)
 |[],_=>rfl
 |w::r,h=>by
  have ih:=mu (ws:=r) fun x hx=>h x (by simp[hx])
  unfold bD
  rw[if_neg (fun k=>k (h w (by simp))),ih,if_neg (fun k=>k rfl)]
  rfl
theorem oz:∀ {ws:List (List UInt8)} {k:Nat} {w:List UInt8},ws[k]?=some w→(∀ j x,j<k→ws[j]?=some x→(dE x).2=0)→(dE w).2≠0→bD ws=([],(dE w).2)
 |[],k,w,h,_,_=>by simp at h
 |x::r,0,w,h,_,he=>by
  simp only[List.getElem?_cons_zero,Option.some.injEq] at h
  subst h
  unfold bD
  rw[if_pos he]
 |x::r,k+1,w,h,hb,he=>by
  have ih:=oz (ws:=r) (k:=k) (w:=w) (by simpa using h) (fun j y hj hy=>hb (j+1) y (by omega) (by simpa using hy)) he
  unfold bD
  rw[if_neg (fun q=>q (hb 0 x (by omega) rfl)),ih,if_pos he]
theorem yI (l:List UInt8):-9223372036854775808≤(dE l).1∧(dE l).1≤9223372036854775807:=by
 unfold dE
 simp only
 by_cases h1:l.head?=some 45
 ·rw[if_pos h1,if_pos h1]
  split
  ·decide
  ·split
   ·simp only;omega
   ·decide
 ·rw[if_neg h1,if_neg h1]
  split
  ·decide
  ·split
   ·simp only;omega
   ·decide
theorem xF {ws:List (List UInt8)}:∀ n∈(bD ws).1,bN n:=by
 induction ws with
 |nil=>exact fun n hn=>absurd hn List.not_mem_nil
 |cons w r ih=>
  intro n hn
  unfold bD at hn
  split at hn
  ·exact absurd hn List.not_mem_nil
  ·split at hn
   ·exact absurd hn List.not_mem_nil
   ·rcases List.mem_cons.1 hn with rfl|hn
    ·exact yI w
    ·exact ih n hn
abbrev Ws:=List (List UInt8)
theorem vH:∀ {l:List Int},(∀ x∈l,0≤x)→0≤l.sum
 |[],_=>by simp
 |x::l,h=>by
  have:=vH (l:=l) fun y hy=>h y (by simp[hy])
  have:=h x (by simp)
  rw[List.sum_cons];omega
end Go.Proofs.YtpbmihpjgjbndaaGreatDoor
