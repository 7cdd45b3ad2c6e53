/- The engine and the words that all chapters share: several texts in one. -/
import Derived.Test.YtpbmihpjgjbndaaGreatDoorTextN
import Derived.Lib.AppendStr
import Derived.Lib.Builder
import Derived.Shelf.Strings.Builder1
import Derived.Test.YtpbmihpjgjbndaaGreatDoorQX44
import Derived.Test.YtpbmihpjgjbndaaGreatDoorQC
/- A builder of the library, in the engine: written, and read at the end. -/
set_option linter.unusedVariables false
set_option linter.unusedSimpArgs false
namespace Go.Proofs.YtpbmihpjgjbndaaGreatDoor
open Go.RowKit
open Lib
theorem xC {w:World} {t u ty e:Nat} {i:TypeInfo} (ht:Tryz.prog.underlying t=some (.slice e)) (hu:Tryz.prog.underlying u=some .string) (hi:Tryz.prog.info? e=some i) (hz:i.zero=some (.int .u8 0)) (hs:i.size=1) (hb:i.bytes=1)
 (v:Value) (n:Nat) (xs:List Value) (hown:w.ownsRow 0 e 1 v n xs) (s:ByteArray) (h:n+s.size≤140737488355328):
 ∃ v' w',(Builtin.append_ #[t,u] ty #[v,.string s]).run Tryz.prog w=.ok v' w'∧w'.ownsRow 0 e 1 v' (n+s.size) (xs++strCells s)∧w.grownBy w' v.ownBlock∧∀ b,v'.ownBlock=some b→v.ownBlock=some b∨w.heap.size≤b:=by
 obtain⟨v',w',hr,h1,h2,_⟩:=run_append_own_string w 0 t u ty e i ht hu hi hz hs hb v n xs hown s (by unfold maxLen;omega) h (Nat.zero_le _)
 refine⟨v',w',hr,h1,h2,?_⟩
 have hlen:xs.length=n:=by simpa using hown.1
 rcases hown.2 with ⟨rfl,rfl⟩|⟨g,cap,cur,rfl,_,hg,hnc,hcm,hcs,_⟩
 ·obtain rfl:xs=[]:=List.eq_nil_of_length_eq_zero hlen
  obtain⟨v2,w2,hr2,k1,_,_⟩:=run_append_own_string w w.heap.size t u ty e i ht hu hi hz hs hb (.slice none 0 0) 0 [] (World.ownsRow_nil w _ e 1) s (by unfold maxLen;omega) h (Nat.le_refl _)
  rw[hr] at hr2
  injection hr2 with hv _
  subst hv
  intro b hbk
  rcases k1.2 with ⟨rfl,_⟩|⟨g,cap,cur,rfl,hge,_⟩
  ·cases hbk
  ·simp only[Value.ownBlock,Option.some.injEq] at hbk
   exact .inr (by omega)
 ·by_cases hroom:n+s.size≤cap
  ·have hr3:=run_append_room_string (P:=Tryz.prog) w t u ty e i ht hu hi hs g n cap cur hg s hroom (by simp at hcs;omega)
   rw[hr] at hr3
   injection hr3 with hv _
   subst hv
   exact fun b hbk=>.inl hbk
  ·have hr3:=run_append_grow_string (P:=Tryz.prog) w t u ty e i (.int .u8 0) ht hu hi hz ⟨g,0,none⟩ n cap xs (by rw[hs];simpa using hlen) (hown.cells (g:=g) rfl) s (by omega) (by omega) (by rw[hb];exact growslice_fits (by omega) (by omega))
   rw[hr] at hr3
   injection hr3 with hv _
   subst hv
   intro b hbk
   simp only[Value.ownBlock,Option.some.injEq] at hbk
   exact .inr (by omega)
section
variable {X:Cx} {Q:dr} {E:Env} {H K:Heap}
theorem uv (m:List UInt8):strCells ⟨m.toArray⟩=byteCells m:=rfl
theorem oD {F:Option Addr→Nat→Env} {ops l:List Oper} {o:Oper} {t u e n c0 s1 s2 sz' by':Nat} {s x:Operand} {A0:Option Addr} {z z':Option Value} {uk:UK} {xs:List Value} {m:List UInt8} (k:Nat)
 (ho:o.op=.call ⟨.builtin .append,#[s,x],#[t,u]⟩) (hs:val E s=some (.slice A0 n c0)) (hx:val E x=some (eN m)) (ht:tab t=some ⟨.slice e,sz',by',z⟩) (hu:tab u=some ⟨.string,s1,s2,z'⟩) (he:tab e=some ⟨uk,1,1,some (.int .u8 0)⟩)
 (hk:H[k]?=some (.own (.slice A0 n c0) e 1 n xs)) (hmax:n+m.length≤140737488355328) (hb:∀ A c,iK X.n ops [] E o (.slice A (n+m.length) c)=some (F A c))
 (h:∀ A c,JL X ops l Q (F A c) (H.set k (.own (.slice A (n+m.length) c) e 1 (n+m.length) (xs++byteCells m)))):JL X ops (o::l) Q E H:=by
 obtain⟨j,hi,hjz,hjs,hjb⟩:=fN he
 refine oC (α:=Option Addr×Nat) (f:=fun p=>.slice p.1 (n+m.length) p.2) (F:=fun p=>F p.1 p.2)
  (G:=fun p=>H.set k (.own (.slice p.1 (n+m.length) p.2) e 1 (n+m.length) (xs++byteCells m))) [] (fun p=>hb p.1 p.2) (fun a w hA hH=>?_) (fun p=>h p.1 p.2)
 have hown:w.ownsRow 0 e 1 (.slice A0 n c0) n xs:=hH.holds _ (List.mem_of_getElem? hk)
 obtain⟨v',w',hr,h1,h2,h3⟩:=xC (w:=w) (ty:=o.type) (dc ht) (ij hu) hi hjz hjs hjb _ n xs hown ⟨m.toArray⟩ (by rw[cN];exact hmax)
 rw[cN,uv] at h1
 obtain⟨A,c,rfl⟩:∃ A c,v'=.slice A (n+m.length) c:=by
  rcases h1.2 with ⟨rfl,e0⟩|⟨g,cap,cur,rfl,_⟩
  ·exact⟨none,0,by rw[e0]⟩
  ·exact⟨_,_,rfl⟩
 refine⟨(A,c),w',?_,?_⟩
 ·have hr':(Builtin.append_ #[t,u] o.type #[.slice A0 n c0,eN m]).run Tryz.prog w=.ok (.slice A (n+m.length) c) w':=hr
  simp[execOp,ho,resolve,invoke,builtin,hA.val hs,hA.val hx,hr']
 ·exact hH.step k hk h2.os h2.tape h2.output h2.size (fun q hq hne=>h2.block q hq (fun x=>hne x.symm)) h1 (fun b' hb'=>h3 b' hb')
theorem xP {E':Env} {ops l:List Oper} {o:Oper} {f:Operand} {args:Array Operand} {ts:Array TypeId} {g:FuncId} {fst cap vs args':List Value} {v:Value} (gs:List Nat) (hM:X.M=[])
 (T:∀ w,ci X.w0 X.M w H→Calls Tryz.prog g args'.toArray w fun e w'=>e=.returned v∧Below X.w0.heap.size w w') (ho:o.op=.call ⟨.value f,args,ts⟩) (hf:val E f=some (.func (.func g) fst.toArray cap.toArray))
 (ha:vals E args.toList=some vs) (has:fst++vs++cap=args') (hc:dX g=true) (hb:iK X.n ops gs E o v=some E') (h:JL X ops l Q E' []):JL X ops (o::l) Q E H:=by
 intro a w hA hH
 obtain⟨hg,hp⟩:=cG hb
 unfold wpList
 rw[if_pos (bL hA hg)]
 left
 show o.upon _ a _ _ ((execOp a.eval o).run _ w)
 rw[pB hA ho hf ha hc w,has]
 refine (T w hH).mono ?_
 rintro e w' ⟨rfl,h1⟩
 refine h _ _ (hA.putE hp) ⟨h1.os.trans hH.os,h1.tape.trans hH.tape,h1.output.trans hH.output,Nat.le_trans hH.size h1.size,fun k hk hkM=>?_,fun c hc=>absurd hc List.not_mem_nil,fun c hc=>absurd hc List.not_mem_nil,List.Pairwise.nil⟩
 exact (h1.block k hk).trans (hH.keep k hk hkM)
end
/-! ### The builder -/
def my (b:Nat) (p:Value) (A:Option Addr) (c:Nat) (m:List UInt8):Heap:=[blk b 100 [p,.slice A m.length c],.own (.slice A m.length c) 5 1 m.length (byteCells m)]
def zM (b:Nat) (p:Value):Prop:=p=.pointer none∨p=.pointer (some ⟨b,0,none⟩)
theorem ub (b:Nat) (p v:Value) (hp:zM b p):Fn 94 [.pointer (some ⟨b,0,none⟩)] (aO [blk b 100 [p,v]]) ([]++[blk b 100 [p,v]]) fun _ H'=>H'=[blk b 100 [.pointer (some ⟨b,0,none⟩),v]]:=by
 intro w hw
 have hb:w.heap[b]?=some (.cells #[p,v] 100 (0,0)):=hw.holds _ (List.mem_cons_self ..)
 have hM:aO [blk b 100 [p,v]]=[b]:=rfl
 rcases hp with rfl|rfl
 ·refine (Any.Builder_copyCheck_fresh { Tryz.lays156 with } Tryz.Builder_Extra_156.toX72 b w (by simp[World.cell?,hb]) (by simp[World.shape?,hb];rfl) (by simp[World.frozen?,hb])).mono ?_
  rintro e w' ⟨he,rfl⟩
  refine⟨.tuple #[],_,he,?_,rfl⟩
  refine hw.step 0 rfl rfl rfl rfl (by simp[World.setCell]) (fun k _ hk=>Below.heap_setCell _ _ _ _ (fun e=>hk (by rw[e];rfl))) ?_ (fun b' hb'=>.inl hb')
  show (w.setCell _ _).heap[b]?=_
  simp[World.setCell,Array.getElem?_modify,hb]
 ·refine (Any.Builder_copyCheck_used { Tryz.lays156 with } Tryz.Builder_Extra_156.toX72 b w (by simp[World.cell?,hb])).mono ?_
  rintro e w' ⟨he,rfl⟩
  exact⟨.tuple #[],_,he,hw,rfl⟩
theorem oN (b:Nat) (p:Value) (hp:zM b p) (A:Option Addr) (c:Nat) (m s:List UInt8) (hl:m.length+s.length≤100000000):Fn 62 [.pointer (some ⟨b,0,none⟩),eN s] (aO (my b p A c m)) ([]++my b p A c m)
 fun _ H'=>∃ (A':Option Addr) (c':Nat),H'=my b (.pointer (some ⟨b,0,none⟩)) A' c' (m++s):=by
 refine aK Tryz.func62 rfl rfl fun w0=>?_
 refine ad (aa (ae [] rfl ?_))
 refine ad (aa (ah [] rfl ?_))
 refine au (fst:=[]) (cap:=[]) [] (ub b p _ hp) rfl rfl rfl rfl (by kernel_rfl) aL.refl trivial (fun _=>rfl) ?_
 rintro v H' rfl
 refine⟨rfl,?_⟩
 refine ae [] rfl ?_
 refine ad (aa (ah [] rfl ?_))
 refine ab [] (af (i:=1) (v:=.slice A m.length c) 0 rfl rfl rfl rfl) rfl ?_
 refine ah [] rfl ?_
 refine oD (m:=s) 1 rfl rfl rfl rfl rfl rfl rfl (by omega) (fun _ _=>rfl) fun A' c'=>?_
 refine ah [] rfl ?_
 refine aE 0 rfl rfl rfl rfl rfl [] rfl ?_
 refine ae [] rfl ?_
 refine ad (aa (ae [] rfl ?_))
 refine ay ?_
 refine⟨_,rfl,A',c',?_⟩
 unfold my
 rw[List.length_append,show byteCells (m++s)=byteCells m++byteCells s by simp[byteCells]]
 rfl
theorem y8 {X:Cx} (hM:X.M=[]) {w:World} {H:Heap} (b:Nat) (p:Value) (hp:zM b p) (A:Option Addr) (c:Nat) (m:List UInt8) (hH:ci X.w0 X.M w (my b p A c m++H)):
 Calls Tryz.prog 53 #[.pointer (some ⟨b,0,none⟩)] w fun e w'=>e=.returned (eN m)∧Below X.w0.heap.size w w':=by
 have hb:w.heap[b]?=some (.cells #[p,.slice A m.length c] 100 (0,0)):=hH.holds (blk b 100 [p,.slice A m.length c]) (by simp[my])
 have ho:w.ownsRow 0 5 1 (.slice A m.length c) m.length (byteCells m):=hH.holds (.own (.slice A m.length c) 5 1 m.length (byteCells m)) (by simp[my])
 have hge:∀ ch∈my b p A c m,∀ k,ch.mine=some k→X.w0.heap.size≤k:=fun ch hc k hk=>(hH.own ch (List.mem_append_left _ hc) k hk).resolve_right (by rw[hM];exact List.not_mem_nil)
 have hb0:=hge _ (List.mem_cons_self ..) b rfl
 have hap:=(List.pairwise_append.1 hH.dis).1
 have hne:(Value.slice A m.length c).ownBlock≠some b:=(List.pairwise_cons.1 hap).1 _ (List.mem_cons_self ..)|>.1 b rfl
 have ho2:w.ownsRow X.w0.heap.size 5 1 (.slice A m.length c) (byteCells m).length (byteCells m):=by
  rw[byteCells_length]
  refine⟨ho.1,?_⟩
  rcases ho.2 with h|⟨g,cap,cur,e,_,r⟩
  ·exact .inl h
  ·exact .inr ⟨g,cap,cur,e,hge _ (List.mem_cons_of_mem _ (List.mem_cons_self ..)) g (by rw[show (aQ.own (.slice A m.length c) 5 1 m.length (byteCells m)).mine=(Value.slice A m.length c).ownBlock from rfl,e];rfl),r⟩
 have hat:BuilderAt 100 5 X.w0.heap.size b p (byteCells m) w:=⟨hb0,_,hb,ho2,hne⟩
 have his:IsBuilder 100 5 X.w0.heap.size b (byteCells m) w:=by
  rcases hp with rfl|rfl
  ·exact .inl hat
  ·exact .inr hat
 exact Any.Builder_String_any Tryz.lays169 Tryz.Builder_Extra_169 X.w0.heap.size b m w his hH.size
end Go.Proofs.YtpbmihpjgjbndaaGreatDoor
/- A network's text: written. -/
set_option linter.unusedVariables false
set_option linter.unusedSimpArgs false
namespace Go.Proofs.YtpbmihpjgjbndaaGreatDoor
open Go.RowKit
open Lib
def lz (a:dG):List UInt8:=lE [97] [a.fr,a.to,a.cap]++[10]
def f8 (N:bc):List UInt8:=(lE [112,32,109,97,120] [N.nodes,N.arcs.length]++[10])++(((lE [110] [N.src]++[32,115,10])++lE [110] [N.snk])++[32,116,10])
def gJ (N:bc):List UInt8:=f8 N++(N.arcs.map lz).flatten
noncomputable def nj (N:bc):Value:=.tuple #[eN (if ef N=0 then gJ N else []),.int .i64 (if ef N=0 then 0 else 1)]
theorem wF (V:eb) (N:bc) (hF:N.Fits) (A:Option Addr) (c b o:Nat) (hA:N.arcs≠[]→A=some ⟨b,o,none⟩):Fn 26 [bn N A c] [] ([.seg b o (arcs N.arcs)]++V.heap) fun v H'=>v=nj N∧H'=[]:=by
 refine aK Tryz.func26 rfl rfl fun w0=>?_
 (repeat' (first|refine ad ?_|refine aq ?_|refine a8 rfl ?_|refine bq rfl ?_))
 refine aa ?_
 refine br (cs:=bQ N A c) rfl rfl rfl (fun _=>rfl) fun p1=>?_
 refine ae [] rfl ?_
 refine ad ?_
 (repeat' (first|refine ad ?_|refine aq ?_|refine a8 rfl ?_|refine bq rfl ?_))
 refine aa ?_
 refine ab [] (v:=bn N A c) (af 0 rfl rfl rfl rfl) rfl ?_
 refine ap [] (iP N hF A c b o hA) rfl rfl rfl rfl (by kernel_rfl) ⟨⟨1,_,by simp,rfl,am _ _ _,aw⟩,trivial⟩ (fun _=>rfl) ?_
 rintro v H' ⟨rfl,rfl⟩
 refine⟨rfl,?_⟩
 refine ae [] rfl ?_
 refine aD rfl (fun hz=>?_) (fun hz=>aq ?_)
 ·(repeat' (first|refine ad ?_|refine aq ?_|refine a8 rfl ?_|refine bq rfl ?_))
  refine aa (ae [] rfl ?_)
  refine aC [] (by decide) rfl (ay ⟨_,rfl,?_,rfl⟩)
  unfold nj
  rw[if_neg hz,if_neg hz];rfl
 have hz0:ef N=0:=Classical.not_not.1 hz
 have hR:=qW hz0
 have hnn:=hR.nodes
 have hln:=hR.len
 have hall:∀ n:Int,(n=N.nodes∨n=N.arcs.length∨n=N.src∨n=N.snk)→cL n:=by
  rintro n (rfl|rfl|rfl|rfl)
  ·exact hF.nodes
  ·unfold cL;omega
  ·exact hF.src
  ·exact hF.snk
 (repeat' (first|refine ad ?_|refine aq ?_|refine a8 rfl ?_|refine bq rfl ?_))
 refine aa ?_
 refine bA rfl rfl rfl (fun _=>rfl) fun p4=>?_
 refine dC 5 1 ?_
 refine bO (K:=my p4 (.pointer none) none 0 []++[blk p1 27 (bQ N A c),.seg b o (arcs N.arcs)]++V.heap) (aL.picks [1,0,2,3,4,5,6] (by decide) rfl) ?_
 refine ae [] rfl ?_
 (repeat' (first|refine ad ?_|refine aq ?_|refine a8 rfl ?_|refine bq rfl ?_))
 refine aa (ah [] rfl ?_)
 refine ab [] (af (i:=0) (v:=.int .i64 N.nodes) 2 rfl rfl rfl rfl) rfl ?_
 refine ah [] rfl ?_
 refine ab [] (af (i:=3) (v:=.slice A N.arcs.length c) 2 rfl rfl rfl rfl) rfl ?_
 refine ah [] rfl ?_
 refine bS rfl rfl rfl rfl rfl rfl rfl (fun _=>rfl) fun g=>?_
 refine ap [] (fO V [112,32,109,97,120] (by decide) [N.nodes,N.arcs.length] (fun n hn=>hall n (by simp at hn;omega)) (by simp) _ 2 _ g 0 (fun _=>rfl) rfl) rfl rfl rfl rfl (by kernel_rfl) ⟨⟨0,_,by simp,rfl,aF _ _ _ (0,0),.inr rfl⟩,⟨5,by simp,rfl⟩,⟨6,by simp,rfl⟩,⟨7,by simp,rfl⟩,trivial⟩ (fun _=>rfl) ?_
 rintro v H' ⟨rfl,rfl⟩
 refine⟨rfl,?_⟩
 have hw1:=eE [112,32,109,97,120] [N.nodes,N.arcs.length] (fun n hn=>hall n (by simp at hn;omega))
 simp only[List.length_cons,List.length_nil] at hw1
 refine ab [] (kB (m:=[10]) rfl rfl rfl (by simp;omega)) rfl ?_
 refine au (fst:=[]) (cap:=[]) [] (oN p4 (.pointer none) (.inl rfl) none 0 [] (lE [112,32,109,97,120] [N.nodes,N.arcs.length]++[10]) (by simp;omega)) rfl rfl rfl rfl (by kernel_rfl) (K:=[blk p1 27 (bQ N A c),.seg b o (arcs N.arcs)]++V.heap) (aL.picks [1,2,3,4,5,6,7] (by decide) rfl) trivial (fun _=>rfl) ?_
 rintro v H' ⟨A1,c1,rfl⟩
 refine⟨rfl,?_⟩
 refine ae [] rfl ?_
 refine nk (σ:=Option Addr×Nat) (fun s=>[(1,.pointer (some ⟨p1,0,none⟩)),(4,.pointer (some ⟨p4,0,none⟩))]) (fun s=>my p4 (.pointer (some ⟨p4,0,none⟩)) s.1 s.2 (f8 N)++[blk p1 27 (bQ N A c),.seg b o (arcs N.arcs)]++V.heap) ?_ ?_
 ·refine v7 (Sf:=[blk p1 27 (bQ N A c)]) ?_
  refine vP [0,1,5,6] (by decide+kernel) [2] (by decide) rfl ?_
  (repeat' (first
   |refine a9 (gs:=[999]) rfl rfl ?_
   |refine aj [999] rfl (af 0 rfl rfl rfl rfl) rfl ?_))
  refine bC ?_
  have hws:=eE [110] [N.src] (fun n hn=>hall n (by simp at hn;omega))
  have hwt:=eE [110] [N.snk] (fun n hn=>hall n (by simp at hn;omega))
  simp only[List.length_cons,List.length_nil] at hws hwt
  (repeat' (first
   |exact trivial
   |refine di 2 [7] (by decide+kernel) (by decide) ?_
   |refine di 2 [] (by decide+kernel) (by decide) ?_
   |refine di 3 [7] (by decide+kernel) (by decide) ?_
   |refine di 3 [] (by decide+kernel) (by decide) ?_
   |refine di 4 [7] (by decide+kernel) (by decide) ?_
   |refine di 4 [8] (by decide+kernel) (by decide) ?_
   |refine di 4 [] (by decide+kernel) (by decide) ?_
   |refine di 7 [] (by decide+kernel) (by decide) ?_
   |refine di 8 [] (by decide+kernel) (by decide) ?_
   |refine di 9 [] (by decide+kernel) (by decide) ?_
   |refine di 10 [] (by decide+kernel) (by decide) ?_
   |refine di 11 [] (by decide+kernel) (by decide) ?_
   |refine⟨⟨_,rfl,?_⟩,?_⟩
   |(refine bS rfl rfl rfl rfl rfl rfl rfl (fun _=>rfl) fun g3=>?_;refine bO (aL.picks [1,2,3,4,5,6,7,8,0] (by decide) rfl) ?_;refine ai ⟨⟨[2],by decide,rfl⟩,?_⟩)
   |(refine bS rfl rfl rfl rfl rfl rfl rfl (fun _=>rfl) fun g2=>?_;refine bO (aL.picks [1,2,3,4,5,6,7,0] (by decide) rfl) ?_;refine ai ⟨⟨[2],by decide,rfl⟩,?_⟩)
   |(refine ap [] (fO V [110] (by decide) [N.src] (fun n hn=>hall n (by simp at hn;omega)) (by simp) _ 1 _ _ 0 (fun _=>rfl) rfl) rfl rfl rfl rfl (by kernel_rfl) ⟨⟨7,_,by simp,rfl,aF _ _ _ (0,0),.inr rfl⟩,⟨4,by simp,rfl⟩,⟨5,by simp,rfl⟩,⟨6,by simp,rfl⟩,trivial⟩ (fun _=>rfl) ?_;rintro v H' ⟨rfl,rfl⟩;refine⟨rfl,ai ⟨⟨[2],by decide,rfl⟩,?_⟩⟩)
   |(refine ap [] (fO V [110] (by decide) [N.src] (fun n hn=>hall n (by simp at hn;omega)) (by simp) _ 1 _ _ 0 (fun _=>rfl) rfl) rfl rfl rfl rfl (by kernel_rfl) ⟨⟨8,_,by simp,rfl,aF _ _ _ (0,0),.inr rfl⟩,⟨4,by simp,rfl⟩,⟨5,by simp,rfl⟩,⟨6,by simp,rfl⟩,trivial⟩ (fun _=>rfl) ?_;rintro v H' ⟨rfl,rfl⟩;refine⟨rfl,ai ⟨⟨[2],by decide,rfl⟩,?_⟩⟩)
   |(refine ap [] (fO V [110] (by decide) [N.snk] (fun n hn=>hall n (by simp at hn;omega)) (by simp) _ 1 _ _ 0 (fun _=>rfl) rfl) rfl rfl rfl rfl (by kernel_rfl) ⟨⟨7,_,by simp,rfl,aF _ _ _ (0,0),.inr rfl⟩,⟨4,by simp,rfl⟩,⟨5,by simp,rfl⟩,⟨6,by simp,rfl⟩,trivial⟩ (fun _=>rfl) ?_;rintro v H' ⟨rfl,rfl⟩;refine⟨rfl,ai ⟨⟨[2],by decide,rfl⟩,?_⟩⟩)
   |(refine ap [] (fO V [110] (by decide) [N.snk] (fun n hn=>hall n (by simp at hn;omega)) (by simp) _ 1 _ _ 0 (fun _=>rfl) rfl) rfl rfl rfl rfl (by kernel_rfl) ⟨⟨8,_,by simp,rfl,aF _ _ _ (0,0),.inr rfl⟩,⟨4,by simp,rfl⟩,⟨5,by simp,rfl⟩,⟨6,by simp,rfl⟩,trivial⟩ (fun _=>rfl) ?_;rintro v H' ⟨rfl,rfl⟩;refine⟨rfl,ai ⟨⟨[2],by decide,rfl⟩,?_⟩⟩)
   |(refine ab [] (kB (m:=[32,115,10]) rfl rfl rfl (by simp;omega)) rfl ?_;refine ai ⟨⟨[2],by decide,rfl⟩,?_⟩)
   |(refine ab [] (kB (m:=[32,116,10]) rfl rfl rfl (by simp;omega)) rfl ?_;refine ai ⟨⟨[2],by decide,rfl⟩,?_⟩)
   |(refine ab [] (kB rfl rfl rfl (by simp;omega)) rfl ?_;refine ai ⟨⟨[2],by decide,rfl⟩,?_⟩)
   |(refine au (fst:=[]) (cap:=[]) [] (oN p4 (.pointer (some ⟨p4,0,none⟩)) (.inr rfl) A1 c1 ([]++(lE [112,32,109,97,120] [N.nodes,N.arcs.length]++[10])) (((lE [110] [N.src]++[32,115,10])++lE [110] [N.snk])++[32,116,10]) (by simp;omega)) rfl rfl rfl rfl (by kernel_rfl) aL.refl trivial (fun _=>rfl) ?_;rintro v H' ⟨A2,c2,rfl⟩;refine⟨rfl,ai ⟨⟨[2],by decide,rfl⟩,?_⟩⟩;exact sn (by decide+kernel) ⟨(_,_),⟨rfl,rfl,trivial⟩,aL.picks [0,1,2,3,4,5,6] (by decide) rfl⟩)))
 rintro⟨A2,c2⟩
 have hHl:(f8 N).length≤400:=by
  have hws:=eE [110] [N.src] (fun n hn=>hall n (by simp at hn;omega))
  have hwt:=eE [110] [N.snk] (fun n hn=>hall n (by simp at hn;omega))
  unfold f8
  simp only[List.length_append,List.length_cons,List.length_nil] at*
  omega
 have harc:∀ a∈N.arcs,(lz a).length≤70:=fun a ha=>by
  have h1:=hF.arc a ha
  have:=eE [97] [a.fr,a.to,a.cap] (fun n hn=>by simp at hn;rcases hn with rfl|rfl|rfl;exact h1.1;exact h1.2.1;exact h1.2.2)
  unfold lz
  simp only[List.length_append,List.length_cons,List.length_nil] at*
  omega
 have htl:∀ l:List dG,(∀ a∈l,a∈N.arcs)→((l.map lz).flatten).length≤l.length*70:=by
  intro l
  induction l with
  |nil=>intro _;simp
  |cons a l ih=>
   intro h
   have h1:=harc a (h a (by simp))
   have h2:=ih fun x hx=>h x (by simp[hx])
   simp only[List.map_cons,List.flatten_cons,List.length_append,List.length_cons]
   omega
 simp only
 (repeat' (first|refine ad ?_|refine aq ?_|refine a8 rfl ?_|refine bq rfl ?_))
 refine aa (ah [] rfl ?_)
 refine ab [] (af (i:=3) (v:=.slice A N.arcs.length c) 2 rfl rfl rfl rfl) rfl ?_
 refine ae [] rfl ?_
 (repeat' (first|refine ad ?_|refine aq ?_|refine a8 rfl ?_|refine bq rfl ?_))
 refine ax ?_
 refine bN (σ:=Nat×Option Addr×Nat) (fun s=>[(34,.int .i64 s.1),(33,.int .i64 N.arcs.length),(32,.slice A N.arcs.length c),(4,.pointer (some ⟨p4,0,none⟩))])
  (fun s=>my p4 (.pointer (some ⟨p4,0,none⟩)) s.2.1 s.2.2 (f8 N++((N.arcs.take s.1).map lz).flatten)++[.seg b o (arcs N.arcs)]++V.heap)
  (fun s=>s.1≤N.arcs.length) (fun s=>N.arcs.length-s.1) (0,A2,c2) [0,1,3,4,5,6] ⟨rfl,rfl,rfl,rfl,trivial⟩ (by decide) (by simp;rfl) (Nat.zero_le _) ?_
 rintro⟨k,A3,c3⟩ hk
 simp only at hk ⊢
 (repeat' (first|refine ad ?_|refine aq ?_|refine a8 rfl ?_|refine bq rfl ?_))
 refine aa (ae [] rfl ?_)
 refine ad (aD rfl (fun hlt=>aq ?_) (fun hge=>a6 ?_))
 ·have hlt':k<N.arcs.length:=by omega
  obtain⟨a,ha⟩:∃ a,N.arcs[k]?=some a:=⟨N.arcs[k],List.getElem?_eq_getElem hlt'⟩
  obtain rfl:=hA (by intro h;rw[h] at hlt';simp at hlt')
  have haB:=hF.arc a (List.mem_of_getElem? ha)
  have hal:=harc a (List.mem_of_getElem? ha)
  have hul:=htl (N.arcs.take k) (fun x hx=>List.mem_of_mem_take hx)
  rw[List.length_take] at hul
  refine ad (ax ?_)
  refine ad ?_
  (repeat' (first|refine ad ?_|refine aq ?_|refine a8 rfl ?_|refine bq rfl ?_))
  refine aa (ah [] rfl ?_)
  refine ab [] (kQ rfl rfl rfl rfl rfl hlt') rfl ?_
  refine ab [] (bw 2 rfl rfl rfl rfl (fI ha)) rfl ?_
  refine bA rfl rfl rfl (fun _=>rfl) fun p6=>?_
  refine aE 0 rfl rfl rfl rfl rfl [] rfl ?_
  refine ae [] rfl ?_
  (repeat' (first|refine ad ?_|refine aq ?_|refine a8 rfl ?_|refine bq rfl ?_))
  refine aa (ah [] rfl ?_)
  refine ab [] (af (i:=0) (v:=.int .i64 a.fr) 0 rfl rfl rfl rfl) rfl ?_
  refine ah [] rfl ?_
  refine ab [] (af (i:=1) (v:=.int .i64 a.to) 0 rfl rfl rfl rfl) rfl ?_
  refine ah [] rfl ?_
  refine ab [] (af (i:=2) (v:=.int .i64 a.cap) 0 rfl rfl rfl rfl) rfl ?_
  refine bS rfl rfl rfl rfl rfl rfl rfl (fun _=>rfl) fun g=>?_
  refine ap [] (fO V [97] (by decide) [a.fr,a.to,a.cap] (fun n hn=>by simp at hn;rcases hn with rfl|rfl|rfl;exact haB.1;exact haB.2.1;exact haB.2.2) (by simp) _ 3 _ g 0 (fun _=>rfl) rfl) rfl rfl rfl rfl (by kernel_rfl) ⟨⟨0,_,by simp,rfl,aF _ _ _ (0,0),.inr rfl⟩,⟨5,by simp,rfl⟩,⟨6,by simp,rfl⟩,⟨7,by simp,rfl⟩,trivial⟩ (fun _=>rfl) ?_
  rintro v H' ⟨rfl,rfl⟩
  refine⟨rfl,?_⟩
  have hal':(lE [97] [a.fr,a.to,a.cap]).length≤69:=by unfold lz at hal;simp at hal;omega
  refine ab [] (kB (m:=[10]) rfl rfl rfl (by simp;omega)) rfl ?_
  refine au (fst:=[]) (cap:=[]) [] (oN p4 _ (.inr rfl) A3 c3 (f8 N++((N.arcs.take k).map lz).flatten) (lz a) (by rw[List.length_append];omega)) rfl rfl rfl rfl (by kernel_rfl) (K:=[.seg b o (arcs N.arcs)]++V.heap) (aL.picks [2,3,4,5,6,7] (by decide) rfl) trivial (fun _=>rfl) ?_
  rintro v H' ⟨A4,c4,rfl⟩
  refine⟨rfl,?_⟩
  refine ae [] rfl ?_
  (repeat' (first|refine ad ?_|refine aq ?_|refine a8 rfl ?_|refine bq rfl ?_))
  refine aa (ae [] rfl ?_)
  have htk:f8 N++((N.arcs.take (k+1)).map lz).flatten=f8 N++((N.arcs.take k).map lz).flatten++lz a:=by rw[List.take_add_one,ha];simp
  refine⟨(k+1,A4,c4),[0,1,2,3,4,5],⟨?_,rfl,rfl,rfl,trivial⟩,by decide,?_,by simp only;omega,by simp only;omega⟩
  ·show some (Value.int .i64 (IntKind.i64.wrap ((k:Int)+1)))=_
   rw[cj (by omega)];rfl
  ·simp only[htk];rfl
 obtain rfl:k=N.arcs.length:=by omega
 rw[List.take_length]
 (repeat' (first|refine ad ?_|refine aq ?_|refine a8 rfl ?_|refine bq rfl ?_))
 refine aa (ah [] rfl ?_)
 refine xP (X:=⟨w0,[],_⟩) [] rfl (fun w hw=>y8 rfl p4 _ (.inr rfl) A3 c3 (gJ N) hw) rfl rfl rfl rfl (by kernel_rfl) rfl ?_
 refine ae [] rfl ?_
 refine ay ⟨_,rfl,?_,rfl⟩
 unfold nj
 rw[if_pos hz0,if_pos hz0];rfl
end Go.Proofs.YtpbmihpjgjbndaaGreatDoor
