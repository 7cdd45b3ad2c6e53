/- The engine and the words that all chapters share: several texts in one. -/
import Derived.Test.YtpbmihpjgjbndaaGreatQB
import Derived.Test.YtpbmihpjgjbndaaGreatQA
import Derived.SizedLaws
import Derived.ChangeSlices
import Derived.Deep.Slices
import Derived.Deep.Fields
import Derived.ChangeSame
import Derived.Lib.SmallJoins
import Derived.ShutString
import Derived.ChangeOld
import Derived.Test.YtpbmihpjgjbndaaGreatQX30
/- From a function's promise to a law's row. -/
set_option linter.unusedVariables false
set_option linter.unusedSimpArgs false
namespace Go.Proofs.YtpbmihpjgjbndaaGreat
open Go.RowKit
def io (w:World):Heap→Prop
 |[]=>True
 |.seg b o vs::S=>(aW.seg b o vs).holds w∧io w S
 |.tab b o::S=>(aW.tab b o).holds w∧io w S
 |_=>False
theorem io.spec {w:World}:∀ {S:Heap},io w S→∀ c∈S,c.holds w∧c.mine=none
 |[],_,c,hc=>by cases hc
 |.seg b o vs::S,h,c,hc=>by
  rcases List.mem_cons.1 hc with rfl|hc
  ·exact⟨h.1,rfl⟩
  ·exact io.spec h.2 c hc
 |.tab b o::S,h,c,hc=>by
  rcases List.mem_cons.1 hc with rfl|hc
  ·exact⟨h.1,rfl⟩
  ·exact io.spec h.2 c hc
 |.obj ..::_,h,_,_=>h.elim
 |.own ..::_,h,_,_=>h.elim
theorem io.has {w:World} {S:Heap} (h:io w S):cV w [] w S:=by
 refine⟨rfl,rfl,rfl,Nat.le_refl _,fun _ _ _=>rfl,fun c hc=>(h.spec c hc).1,fun c hc b hb=>(by rw[(h.spec c hc).2] at hb;simp at hb),?_⟩
 rw[List.pairwise_iff_getElem]
 intro i j hi hj _
 have h1:=(h.spec _ (List.getElem_mem hi)).2
 have h2:=(h.spec _ (List.getElem_mem hj)).2
 exact⟨fun b hb=>by rw[h1] at hb;simp at hb,fun b hb=>by rw[h2] at hb;simp at hb⟩
theorem Fn.row {f:FuncId} {args:List Value} {S:Heap} (h:Fn f args [] S (fun v _=>v=.bool true)) (w:World) (hS:io w S):
 Calls Tryz.prog f args.toArray w fun e w'=>e=.returned (.bool true)∧Below w.heap.size w w':=by
 refine (h w hS.has).mono ?_
 rintro e w' ⟨v,H',he,hH,hv⟩
 rw[he,hv]
 exact⟨rfl,⟨hH.os,hH.tape,hH.output,hH.size,fun k hk=>hH.keep k hk (by simp)⟩⟩
theorem qd {n:Int} (h:(Lit.int .i64 n).wf=true):dw n:=by
 simp[Lit.wf,IntKind.min,IntKind.max,IntKind.signed,IntKind.bits] at h
 exact h
end Go.Proofs.YtpbmihpjgjbndaaGreat
/- Arguments that hold rows, opened into the engine's pieces. -/
set_option linter.unusedVariables false
set_option linter.unusedSimpArgs false
namespace Go.Proofs.YtpbmihpjgjbndaaGreat
open Go.RowKit Go.ChangeShapes Go.WideShapes Go.Deep Go.Joins
section
variable {H:Type} {enc:TypeId×Value→H} {P:Program} {w:World} {base:Nat} {spare:Nat→Bool} {held:Bool}
theorem sized_of {ts:List TypeId} {ds:List (DataW H)} (h:(DataW.weightsEach P ts ds).all (·≤reachBytes)=true) {j:Nat} {t:TypeId} {d:DataW H} (ht:ts[j]?=some t) (hd:ds[j]?=some d):∀ n∈d.weights P t,n≤reachBytes:=fun n hn=>by
 have:=List.all_eq_true.1 h n (DataW.weights_mem_each ht hd n hn)
 simpa using this
theorem rA {a:Addr} {v:Value} (h:w.cell? a=some v):a=⟨a.block,a.off,none⟩:=by
 unfold World.cell? at h
 obtain⟨b,o,s⟩:=a
 cases s with
 |none=>rfl
 |some q=>revert h;simp only[Option.isSome];split<;>simp
theorem qx (b o i:Nat):(⟨b,o,none⟩:Addr).add i=⟨b,o+i,none⟩:=by
 unfold Addr.add
 split
 ·rename_i h;subst h;rfl
 ·rfl
end
end Go.Proofs.YtpbmihpjgjbndaaGreat
/- Arguments that are graphs, opened into the engine's pieces. -/
set_option linter.unusedVariables false
set_option linter.unusedSimpArgs false
namespace Go.Proofs.YtpbmihpjgjbndaaGreat
open Go.RowKit Go.ChangeShapes Go.WideShapes Go.Deep Go.Joins
section
variable {H:Type} {enc:TypeId×Value→H} {P:Program} {w:World} {base:Nat} {spare:Nat→Bool} {held:Bool}
def o4 (P:Program) (e:TypeId) (fs:Array Field):Bool:=oneCellFields P fs&&Nat.beq (P.cellsOf e) 2&&Nat.beq (P.bytesOf e) 16&&Nat.beq fs.size 2&&fs.all fun f=>match P.underlying f.type with
 |some (.int .i64)=>true
 |_=>false
theorem x6 {e:TypeId} {fs:Array Field} {n:Nat} {cs:List Value} {y:DataW H×List MemPlace} (he:P.underlying e=some (.struct fs)) (hB:o4 P e fs=true) (h:DataW.trod enc P w base spare held n e cs=some y):
 ∃ a:fJ,cs=[.int .i64 a.l,.int .i64 a.r]∧dw a.l∧dw a.r:=by
 simp only[o4,Bool.and_eq_true] at hB
 obtain⟨⟨⟨⟨h1,h2⟩,_⟩,h4⟩,h5⟩:=hB
 have h2':=Nat.eq_of_beq_eq_true h2
 have h4':=Nat.eq_of_beq_eq_true h4
 obtain⟨xs,n',_,_,hl,hlen,hf⟩:=DataW.trod_struct he h
 have one:∀ j,j<2→∃ k,cs[j]?=some (.int .i64 k)∧dw k:=by
  intro j hj
  have hlt:j<fs.size:=by omega
  obtain⟨f,hfj⟩:∃ f,fs[j]?=some f:=⟨fs[j],Array.getElem?_eq_getElem hlt⟩
  obtain⟨o1,o2⟩:=hone_of h1 j f hfj
  have hx:=hf j f hfj
  rw[o1,o2] at hx
  have hu:P.underlying f.type=some (.int .i64):=by
   have:=Array.all_eq_true.1 h5 j hlt
   rw[Array.getElem?_eq_getElem hlt] at hfj
   simp only[Option.some.injEq] at hfj
   rw[hfj] at this
   split at this
   ·assumption
   ·cases this
  have hxs:∃ x,xs[j]?=some x:=⟨xs[j]'(by omega),List.getElem?_eq_getElem (by omega)⟩
  obtain⟨x,hxs⟩:=hxs
  rw[hxs] at hx
  obtain⟨k,hk,_,hw⟩:=DataW.trod_int hu hx
  refine⟨k,?_,qd hw⟩
  have hjc:j<cs.length:=by omega
  rw[List.drop_eq_getElem_cons hjc] at hk
  have hk':[cs[j]]=[Value.int .i64 k]:=hk
  rw[List.getElem?_eq_getElem hjc,(List.cons.inj hk').1]
 obtain⟨a,ha,ha'⟩:=one 0 (by omega)
 obtain⟨b,hb,hb'⟩:=one 1 (by omega)
 refine⟨⟨a,b⟩,?_,ha',hb'⟩
 have hl3:cs.length=2:=by omega
 refine List.ext_getElem? fun i=>?_
 match i with
 |0=>exact ha
 |1=>exact hb
 |i+2=>rw[List.getElem?_eq_none (by omega)];rfl
theorem qq {t e:TypeId} {fs:Array Field} {fuel:Nat} {cs:List Value} {x:DataW H×List MemPlace} (ht:P.underlying t=some (.slice e)) (he:P.underlying e=some (.struct fs)) (hB:o4 P e fs=true)
 (h:DataW.trod enc P w base spare held fuel t cs=some x) (hz:∀ n∈x.1.weights P t,n≤reachBytes):
 ∃ (A:Option Addr) (c b o:Nat) (l:List fJ),cs=[.slice A l.length c]∧(l≠[]→A=some ⟨b,o,none⟩)∧(aW.seg b o (cd l)).holds w∧(∀ a∈l,dw a.l∧dw a.r)∧l.length*16≤140737488351232:=by
 have hB':=hB
 simp only[o4,Bool.and_eq_true] at hB'
 obtain⟨⟨⟨⟨_,h2⟩,h3⟩,_⟩,_⟩:=hB'
 have hC:=Nat.eq_of_beq_eq_true h2
 have hBy:=Nat.eq_of_beq_eq_true h3
 rcases open_slice ht h with ⟨rfl,rfl⟩|⟨a,len,cap,m,n,D,Pl,rfl,_,hl,_,hm,rfl,hi⟩
 ·exact⟨none,0,0,0,[],rfl,fun h=>absurd rfl h,fun i v hv=>by simp[cd] at hv,fun n hn=>(List.not_mem_nil hn).elim,by simp⟩
 ·have hle:len≤m:=by rw[hm];split<;>omega
  rw[hC] at hi
  have each:∀ i,i<len→∃ r:fJ,(w.cell? (a.add (i*2))=some (.int .i64 r.l)∧w.cell? ((a.add (i*2)).add 1)=some (.int .i64 r.r))∧dw r.l∧dw r.r:=by
   intro i hil
   obtain⟨cs',hc,ht'⟩:=hi i (by omega)
   obtain⟨r,rfl,hr⟩:=x6 he hB ht'
   obtain⟨_,_,hat⟩:=World.cells?_some hc
   refine⟨r,⟨?_,?_⟩,hr⟩
   ·have:=hat 0 (by omega);simpa [Addr.add] using this
   ·have:=hat 1 (by omega);simpa using this
  have:Inhabited fJ:=⟨⟨0,0⟩⟩
  obtain⟨L,hL⟩:=choose_lt (α:=fJ) each
  refine⟨some a,cap,a.block,a.off,(List.range len).map L,by simp,fun hne=>?_,fun i v hv=>?_,fun r hr=>?_,?_⟩
  ·have hpos:0<len:=by
    rcases Nat.eq_zero_or_pos len with h0|h0
    ·exact absurd (by rw[h0];rfl) hne
    ·exact h0
   have:=(hL 0 hpos).1.1
   exact congrArg some (rA (a:=a) (by simpa [Addr.add] using this))
  ·have hil:i<((List.range len).map L).length*2:=by
    have h1:=(List.getElem?_eq_some_iff.1 hv).1
    rw[ja] at h1
    exact h1
   simp only[List.length_map,List.length_range] at hil
   have h0:=(hL 0 (by omega)).1.1
   have ea:=rA (a:=a) (by simpa [Addr.add] using h0)
   have hd:i/2<len:=by omega
   have hg:((List.range len).map L)[i/2]?=some (L (i/2)):=by simp[hd]
   obtain⟨g0,g1⟩:=fw hg
   obtain⟨⟨c0,c1⟩,_⟩:=hL (i/2) hd
   rw[ea,qx,qx] at c1
   rw[ea,qx] at c0
   rcases Nat.mod_two_eq_zero_or_one i with h3|h3
   ·rw[show i=i/2*2 by omega] at hv ⊢
    rw[g0] at hv;rw[← hv,c0]
   ·rw[show i=i/2*2+1 by omega] at hv ⊢
    rw[g1] at hv;rw[← hv,← Nat.add_assoc,c1]
  ·obtain⟨i,hi',rfl⟩:=List.mem_map.1 hr
   exact (hL i (by simpa using hi')).2
  ·have hw:=hz (len*16+(m-len)*16) (by
    simp only[DataW.weights,ht,hBy,List.length_map,List.length_range,List.mem_cons]
    left
    rw[Nat.add_mul])
   have:reachBytes=140737488351232:=by decide
   simp only[List.length_map,List.length_range]
   omega
theorem opn_graph {r:Reach} {b0:Nat} {t e:TypeId} {f0 f1 f2:Field} {es:Array Field} {v:Value} {d:DataW H} {p:List MemPlace} (hs:P.underlying t=some (.struct #[f0,f1,f2])) (hi:P.underlying f0.type=some (.int .i64)) (hsl:P.underlying f2.type=some (.slice e)) (he:P.underlying e=some (.struct es))
 (hone:oneCellFields P #[f0,f1,f2]=true) (hC:P.cellsOf t=3) (hsame:Nat.beq f1.type f0.type=true) (hB:o4 P e es=true) (hok:Value.okWide P w r b0 t v)
 (h:DataW.Trod enc P w base spare held t v d p) (hz:∀ n∈d.weights P t,n≤reachBytes):
 ∃ (x y:Int) (A:Option Addr) (c b o:Nat) (l:List fJ),v=.agg #[.int .i64 x,.int .i64 y,.slice A l.length c]∧dw x∧dw y∧(l≠[]→A=some ⟨b,o,none⟩)∧(aW.seg b o (cd l)).holds w∧(∀ a∈l,dw a.l∧dw a.r)∧l.length*16≤140737488351232:=by
 have e1:f1.type=f0.type:=Nat.eq_of_beq_eq_true hsame
 obtain⟨v0,v1,v3,y0,y1,y3,n,rfl,rfl,rfl,h0,h1,h3⟩:=open_agg3 hs hone hC hok h
 rw[e1] at h1
 obtain⟨x,hx,_,wx⟩:=DataW.trod_int hi h0
 obtain⟨y,hy,_,wy⟩:=DataW.trod_int hi h1
 obtain⟨A,c,b,o,l,hv,hA,hS,hl,hlen⟩:=qq hsl he hB h3 (fun n hn=>hz n (by
  simp only[DataW.weights,hs]
  exact DataW.weights_mem_each (j:=2) rfl rfl n hn))
 obtain rfl:=(List.cons.inj hx).1
 obtain rfl:=(List.cons.inj hy).1
 obtain rfl:=(List.cons.inj hv).1
 exact⟨x,y,A,c,b,o,l,rfl,qd wx,qd wy,hA,hS,hl,hlen⟩
end
end Go.Proofs.YtpbmihpjgjbndaaGreat
