/- The engine and the words that all chapters share: several texts in one. -/
import Derived.Test.YtpbmihpjgjbndaaGreatDoorQB
import Derived.Test.YtpbmihpjgjbndaaGreatDoorQA
import Derived.SizedLaws
import Derived.ChangeSlices
import Derived.Deep.Slices
import Derived.Deep.Fields
import Derived.ChangeSame
import Derived.Lib.SmallJoins
import Derived.ShutString
import Derived.ChangeOld
import Derived.Test.YtpbmihpjgjbndaaGreatDoorQX36
import Derived.Test.YtpbmihpjgjbndaaGreatDoorRows
import Derived.HandedShaped
import Derived.Handed
import Derived.Lib.LaidU8
import Derived.Lib.LaidTab
import Derived.LaidLaws
import Derived.MakeChecks
/- From a function's promise to a law's row. -/
set_option linter.unusedVariables false
set_option linter.unusedSimpArgs false
namespace Go.Proofs.YtpbmihpjgjbndaaGreatDoor
open Go.RowKit
def gJ (w:World):Heap→Prop
 |[]=>True
 |.seg b o vs::S=>(aO.seg b o vs).holds w∧gJ w S
 |.tab b o::S=>(aO.tab b o).holds w∧gJ w S
 |_=>False
theorem gJ.spec {w:World}:∀ {S:Heap},gJ w S→∀ c∈S,c.holds w∧c.mine=none
 |[],_,c,hc=>by cases hc
 |.seg b o vs::S,h,c,hc=>by
  rcases List.mem_cons.1 hc with rfl|hc
  ·exact⟨h.1,rfl⟩
  ·exact gJ.spec h.2 c hc
 |.tab b o::S,h,c,hc=>by
  rcases List.mem_cons.1 hc with rfl|hc
  ·exact⟨h.1,rfl⟩
  ·exact gJ.spec h.2 c hc
 |.obj ..::_,h,_,_=>h.elim
 |.own ..::_,h,_,_=>h.elim
theorem gJ.has {w:World} {S:Heap} (h:gJ w S):cm w [] w S:=by
 refine⟨rfl,rfl,rfl,Nat.le_refl _,fun _ _ _=>rfl,fun c hc=>(h.spec c hc).1,fun c hc b hb=>(by rw[(h.spec c hc).2] at hb;simp at hb),?_⟩
 rw[List.pairwise_iff_getElem]
 intro i j hi hj _
 have h1:=(h.spec _ (List.getElem_mem hi)).2
 have h2:=(h.spec _ (List.getElem_mem hj)).2
 exact⟨fun b hb=>by rw[h1] at hb;simp at hb,fun b hb=>by rw[h2] at hb;simp at hb⟩
theorem Fn.row {f:FuncId} {args:List Value} {S:Heap} (h:Fn f args [] S (fun v _=>v=.bool true)) (w:World) (hS:gJ w S):
 Calls Tryz.prog f args.toArray w fun e w'=>e=.returned (.bool true)∧Below w.heap.size w w':=by
 refine (h w hS.has).mono ?_
 rintro e w' ⟨v,H',he,hH,hv⟩
 rw[he,hv]
 exact⟨rfl,⟨hH.os,hH.tape,hH.output,hH.size,fun k hk=>hH.keep k hk (by simp)⟩⟩
theorem inB_of {n:Int} (h:(Lit.int .i64 n).wf=true):bN n:=by
 simp[Lit.wf,IntKind.min,IntKind.max,IntKind.signed,IntKind.bits] at h
 exact h
end Go.Proofs.YtpbmihpjgjbndaaGreatDoor
/- Arguments that hold rows, opened into the engine's pieces. -/
set_option linter.unusedVariables false
set_option linter.unusedSimpArgs false
namespace Go.Proofs.YtpbmihpjgjbndaaGreatDoor
open Go.RowKit Go.ChangeShapes Go.WideShapes Go.Deep Go.Joins
section
variable {H:Type} {enc:TypeId×Value→H} {P:Program} {w:World} {base:Nat} {spare:Nat→Bool} {held:Bool}
theorem sized_of {ts:List TypeId} {ds:List (DataW H)} (h:(DataW.weightsEach P ts ds).all (·≤reachBytes)=true) {j:Nat} {t:TypeId} {d:DataW H} (ht:ts[j]?=some t) (hd:ds[j]?=some d):∀ n∈d.weights P t,n≤reachBytes:=fun n hn=>by
 have:=List.all_eq_true.1 h n (DataW.weights_mem_each ht hd n hn)
 simpa using this
theorem lY {a:Addr} {v:Value} (h:w.cell? a=some v):a=⟨a.block,a.off,none⟩:=by
 unfold World.cell? at h
 obtain⟨b,o,s⟩:=a
 cases s with
 |none=>rfl
 |some q=>revert h;simp only[Option.isSome];split<;>simp
theorem pz (b o i:Nat):(⟨b,o,none⟩:Addr).add i=⟨b,o+i,none⟩:=by
 unfold Addr.add
 split
 ·rename_i h;subst h;rfl
 ·rfl
theorem uw {t e:TypeId} {fuel:Nat} {cs:List Value} {x:DataW H×List MemPlace} (ht:P.underlying t=some (.slice e)) (he:P.underlying e=some (.int .i64)) (hC:P.cellsOf e=1) (hB:P.bytesOf e=8)
 (h:DataW.trod enc P w base spare held fuel t cs=some x) (hz:∀ n∈x.1.weights P t,n≤reachBytes):
 ∃ (A:Option Addr) (c b o:Nat) (l:List Int),cs=[.slice A l.length c]∧(l≠[]→A=some ⟨b,o,none⟩)∧(aO.seg b o (ap l)).holds w∧(∀ n∈l,bN n)∧l.length*8≤140737488351232:=by
 rcases open_ints ht he hC h with ⟨rfl,rfl⟩|⟨a,len,cap,zs,rfl,_,hl,_,hlz,rfl,hcell,hwf⟩
 ·exact⟨none,0,0,0,[],rfl,fun h=>absurd rfl h,fun i v hv=>by simp[ap] at hv,fun n hn=>(List.not_mem_nil hn).elim,by simp⟩
 ·have hle:len≤zs.length:=by rw[hlz];split;· exact hl
                             ·exact Nat.le_refl _
  have hlen:(zs.take len).length=len:=by rw[List.length_take];omega
  refine⟨some a,cap,a.block,a.off,zs.take len,by rw[hlen],fun hne=>?_,fun i v hv=>?_,fun n hn=>?_,?_⟩
  ·have hpos:0<len:=by
    rcases Nat.eq_zero_or_pos len with h0|h0
    ·exact absurd (by rw[h0];rfl) hne
    ·exact h0
   have:=hcell 0 (by omega)
   exact congrArg some (lY (a:=a) (by simpa [Addr.add] using this))
  ·simp only[ap,List.getElem?_map,Option.map_eq_some_iff] at hv
   obtain⟨n,hn,rfl⟩:=hv
   have hi:i<len:=by have:=(List.getElem?_eq_some_iff.1 hn).1;omega
   have hn':zs[i]?=some n:=by rw[List.getElem?_take] at hn;simpa [hi] using hn
   have h0:=hcell 0 (by omega)
   have ea:=lY (a:=a) (by simpa [Addr.add] using h0)
   have:=hcell i (by omega)
   rw[ea,pz] at this
   rw[this]
   simp[List.getD,hn']
  ·have:=hwf n (List.mem_of_mem_take hn)
   exact inB_of this
  ·have hw:=hz ((zs.take len).length*8+(zs.drop len).length*8) (by
    simp only[DataW.weights,ht,hB,lits,List.length_map,List.mem_cons]
    left
    rw[Nat.add_mul])
   have:reachBytes=140737488351232:=by decide
   omega
theorem opn_ints {r:Reach} {b0:Nat} {t e:TypeId} {v:Value} {d:DataW H} {p:List MemPlace} (ht:P.underlying t=some (.slice e)) (he:P.underlying e=some (.int .i64)) (hC:P.cellsOf e=1) (hB:P.bytesOf e=8) (hok:Value.okWide P w r b0 t v)
 (h:DataW.Trod enc P w base spare held t v d p) (hz:∀ n∈d.weights P t,n≤reachBytes):
 ∃ (A:Option Addr) (c b o:Nat) (l:List Int),v=.slice A l.length c∧(l≠[]→A=some ⟨b,o,none⟩)∧(aO.seg b o (ap l)).holds w∧(∀ n∈l,bN n)∧l.length*8≤140737488351232:=by
 obtain⟨a,n,c,rfl⟩:=okWide_slice ht hok
 obtain⟨fuel,hf⟩:=h
 obtain⟨A,c',b,o,l,h1,h2⟩:=uw ht he hC hB hf hz
 refine⟨A,c',b,o,l,?_,h2⟩
 simpa [Value.cells] using h1
def wC (P:Program) (e:TypeId) (fs:Array Field):Bool:=oneCellFields P fs&&Nat.beq (P.cellsOf e) 3&&Nat.beq (P.bytesOf e) 24&&Nat.beq fs.size 3&&fs.all fun f=>match P.underlying f.type with
 |some (.int .i64)=>true
 |_=>false
theorem zK {e:TypeId} {fs:Array Field} {n:Nat} {cs:List Value} {y:DataW H×List MemPlace} (he:P.underlying e=some (.struct fs)) (hB:wC P e fs=true) (h:DataW.trod enc P w base spare held n e cs=some y):
 ∃ a:dK,cs=[.int .i64 a.fr,.int .i64 a.to,.int .i64 a.cap]∧bN a.fr∧bN a.to∧bN a.cap:=by
 simp only[wC,Bool.and_eq_true] at hB
 obtain⟨⟨⟨⟨h1,h2⟩,_⟩,h4⟩,h5⟩:=hB
 have h2':=Nat.eq_of_beq_eq_true h2
 have h4':=Nat.eq_of_beq_eq_true h4
 obtain⟨xs,n',_,_,hl,hlen,hf⟩:=DataW.trod_struct he h
 have one:∀ j,j<3→∃ k,cs[j]?=some (.int .i64 k)∧bN k:=by
  intro j hj
  have hlt:j<fs.size:=by omega
  obtain⟨f,hfj⟩:∃ f,fs[j]?=some f:=⟨fs[j],Array.getElem?_eq_getElem hlt⟩
  obtain⟨o1,o2⟩:=hone_of h1 j f hfj
  have hx:=hf j f hfj
  rw[o1,o2] at hx
  have hu:P.underlying f.type=some (.int .i64):=by
   have:=Array.all_eq_true.1 h5 j hlt
   rw[Array.getElem?_eq_getElem hlt] at hfj
   simp only[Option.some.injEq] at hfj
   rw[hfj] at this
   split at this
   ·assumption
   ·cases this
  have hxs:∃ x,xs[j]?=some x:=⟨xs[j]'(by omega),List.getElem?_eq_getElem (by omega)⟩
  obtain⟨x,hxs⟩:=hxs
  rw[hxs] at hx
  obtain⟨k,hk,_,hw⟩:=DataW.trod_int hu hx
  refine⟨k,?_,inB_of hw⟩
  have hjc:j<cs.length:=by omega
  rw[List.drop_eq_getElem_cons hjc] at hk
  have hk':[cs[j]]=[Value.int .i64 k]:=hk
  rw[List.getElem?_eq_getElem hjc,(List.cons.inj hk').1]
 obtain⟨a,ha,ha'⟩:=one 0 (by omega)
 obtain⟨b,hb,hb'⟩:=one 1 (by omega)
 obtain⟨c,hc,hc'⟩:=one 2 (by omega)
 refine⟨⟨a,b,c⟩,?_,ha',hb',hc'⟩
 have hl3:cs.length=3:=by omega
 refine List.ext_getElem? fun i=>?_
 match i with
 |0=>exact ha
 |1=>exact hb
 |2=>exact hc
 |i+3=>rw[List.getElem?_eq_none (by omega)];rfl
theorem tN {t e:TypeId} {fs:Array Field} {fuel:Nat} {cs:List Value} {x:DataW H×List MemPlace} (ht:P.underlying t=some (.slice e)) (he:P.underlying e=some (.struct fs)) (hB:wC P e fs=true)
 (h:DataW.trod enc P w base spare held fuel t cs=some x) (hz:∀ n∈x.1.weights P t,n≤reachBytes):
 ∃ (A:Option Addr) (c b o:Nat) (l:List dK),cs=[.slice A l.length c]∧(l≠[]→A=some ⟨b,o,none⟩)∧(aO.seg b o (arcs l)).holds w∧(∀ a∈l,bN a.fr∧bN a.to∧bN a.cap)∧l.length*24≤140737488351232:=by
 have hB':=hB
 simp only[wC,Bool.and_eq_true] at hB'
 obtain⟨⟨⟨⟨_,h2⟩,h3⟩,_⟩,_⟩:=hB'
 have hC:=Nat.eq_of_beq_eq_true h2
 have hBy:=Nat.eq_of_beq_eq_true h3
 rcases open_slice ht h with ⟨rfl,rfl⟩|⟨a,len,cap,m,n,D,Pl,rfl,_,hl,_,hm,rfl,hi⟩
 ·exact⟨none,0,0,0,[],rfl,fun h=>absurd rfl h,fun i v hv=>by simp[arcs] at hv,fun n hn=>(List.not_mem_nil hn).elim,by simp⟩
 ·have hle:len≤m:=by rw[hm];split<;>omega
  rw[hC] at hi
  have each:∀ i,i<len→∃ r:dK,(w.cell? (a.add (i*3))=some (.int .i64 r.fr)∧w.cell? ((a.add (i*3)).add 1)=some (.int .i64 r.to)∧w.cell? ((a.add (i*3)).add 2)=some (.int .i64 r.cap))∧bN r.fr∧bN r.to∧bN r.cap:=by
   intro i hil
   obtain⟨cs',hc,ht'⟩:=hi i (by omega)
   obtain⟨r,rfl,hr⟩:=zK he hB ht'
   obtain⟨_,_,hat⟩:=World.cells?_some hc
   refine⟨r,⟨?_,?_,?_⟩,hr⟩
   ·have:=hat 0 (by omega);simpa [Addr.add] using this
   ·have:=hat 1 (by omega);simpa using this
   ·have:=hat 2 (by omega);simpa using this
  have:Inhabited dK:=⟨⟨0,0,0⟩⟩
  obtain⟨L,hL⟩:=choose_lt (α:=dK) each
  refine⟨some a,cap,a.block,a.off,(List.range len).map L,by simp,fun hne=>?_,fun i v hv=>?_,fun r hr=>?_,?_⟩
  ·have hpos:0<len:=by
    rcases Nat.eq_zero_or_pos len with h0|h0
    ·exact absurd (by rw[h0];rfl) hne
    ·exact h0
   have:=(hL 0 hpos).1.1
   exact congrArg some (lY (a:=a) (by simpa [Addr.add] using this))
  ·have hil:i<((List.range len).map L).length*3:=by
    have h1:=(List.getElem?_eq_some_iff.1 hv).1
    have h2:(arcs ((List.range len).map L)).length=((List.range len).map L).length*3:=by
     generalize (List.range len).map L=l
     induction l with
     |nil=>rfl
     |cons a l ih=>
      have e:arcs (a::l)=[.int .i64 a.fr,.int .i64 a.to,.int .i64 a.cap]++arcs l:=by simp[arcs]
      rw[e,List.length_append,ih];simp;omega
    omega
   simp only[List.length_map,List.length_range] at hil
   have h0:=(hL 0 (by omega)).1.1
   have ea:=lY (a:=a) (by simpa [Addr.add] using h0)
   have hd:i/3<len:=by omega
   have hg:((List.range len).map L)[i/3]?=some (L (i/3)):=by simp[hd]
   obtain⟨g0,g1,g2⟩:=em hg
   obtain⟨⟨c0,c1,c2⟩,_⟩:=hL (i/3) hd
   rw[ea,pz,pz] at c1 c2
   rw[ea,pz] at c0
   have h3:i%3=0∨i%3=1∨i%3=2:=by omega
   rcases h3 with h3|h3|h3
   ·rw[show i=i/3*3 by omega] at hv ⊢
    rw[g0] at hv;rw[← hv,c0]
   ·rw[show i=i/3*3+1 by omega] at hv ⊢
    rw[g1] at hv;rw[← hv,← Nat.add_assoc,c1]
   ·rw[show i=i/3*3+2 by omega] at hv ⊢
    rw[g2] at hv;rw[← hv,← Nat.add_assoc,c2]
  ·obtain⟨i,hi',rfl⟩:=List.mem_map.1 hr
   exact (hL i (by simpa using hi')).2
  ·have hw:=hz (len*24+(m-len)*24) (by
    simp only[DataW.weights,ht,hBy,List.length_map,List.length_range,List.mem_cons]
    left
    rw[Nat.add_mul])
   have:reachBytes=140737488351232:=by decide
   simp only[List.length_map,List.length_range]
   omega
theorem opn_recs3 {r:Reach} {b0:Nat} {t e:TypeId} {fs:Array Field} {v:Value} {d:DataW H} {p:List MemPlace} (ht:P.underlying t=some (.slice e)) (he:P.underlying e=some (.struct fs)) (hB:wC P e fs=true) (_:true=true) (hok:Value.okWide P w r b0 t v)
 (h:DataW.Trod enc P w base spare held t v d p) (hz:∀ n∈d.weights P t,n≤reachBytes):
 ∃ (A:Option Addr) (c b o:Nat) (l:List dK),v=.slice A l.length c∧(l≠[]→A=some ⟨b,o,none⟩)∧(aO.seg b o (arcs l)).holds w∧(∀ a∈l,bN a.fr∧bN a.to∧bN a.cap)∧l.length*24≤140737488351232:=by
 obtain⟨a,n,c,rfl⟩:=okWide_slice ht hok
 obtain⟨fuel,hf⟩:=h
 obtain⟨A,c',b,o,l,h1,h2⟩:=tN ht he hB hf hz
 refine⟨A,c',b,o,l,?_,h2⟩
 simpa [Value.cells] using h1
end
end Go.Proofs.YtpbmihpjgjbndaaGreatDoor
/- From a function's promise to a law's tied card: what the listed variables hold, as pieces of memory. -/
set_option linter.unusedVariables false
set_option linter.unusedSimpArgs false
namespace Go.Proofs.YtpbmihpjgjbndaaGreatDoor
open Go.RowKit Go.ChangeShapes
def laidL:List (String×DataW Unit):=[("math/bits.deBruijn32tab",Rows.laid_math_bits_deBruijn32tab),("math/bits.deBruijn64tab",Rows.laid_math_bits_deBruijn64tab),("internal/strconv.uint64pow10",Rows.laid_internal_strconv_uint64pow10),("unicode/utf8.acceptRanges",Rows.laid_unicode_utf8_acceptRanges),("strconv.ErrRange",Rows.laid_strconv_ErrRange),("strconv.ErrSyntax",Rows.laid_strconv_ErrSyntax),("unicode/utf8.first",Rows.laid_unicode_utf8_first)]
theorem oe {W:World} {n:String} {g:Nat} {cs:Array Value} (hg:Tryz.prog.globalNamed n=some g) (h:W.var? Tryz.prog n=some cs):∃ t k,W.heap[g]?=some (.cells cs t k):=by
 unfold World.var? at h
 rw[hg] at h
 simp only[Option.bind_some] at h
 split at h
 ·rename_i c t k he
  obtain rfl:=Option.some.inj h
  exact⟨_,_,he⟩
 ·cases h
theorem libV_of {W:World} (h:laidMetH Tryz.prog laidL W) (hsh:W.ShapedOpen Tryz.prog):∃ V:f8,gJ W V.heap:=by
 rw[MakeChecks.laidMetH_plain _ _ _ (by kernel_rfl)] at h
 obtain⟨m,hm⟩:=Tryz.laysM146.s1_3 W hsh
 have gM:Tryz.prog.globalNamed "internal/bytealg.MaxLen" =some 1:=by kernel_rfl
 have gP:Tryz.prog.globalNamed "internal/strconv.uint64pow10" =some 0:=by kernel_rfl
 have gE:Tryz.prog.globalNamed "strconv.ErrRange" =some 3:=by kernel_rfl
 obtain⟨g1,t1,cs1,f1,p1,hg1,ht1,hv1,hd1⟩:=Lib.laidMet.reads h (n:= "internal/strconv.uint64pow10") (d:=Rows.laid_internal_strconv_uint64pow10) (by simp[laidL])
 obtain⟨g2,t2,cs2,f2,p2,hg2,ht2,hv2,hd2⟩:=Lib.laidMet.reads h (n:= "strconv.ErrRange") (d:=Rows.laid_strconv_ErrRange) (by simp[laidL])
 obtain rfl:=Option.some.inj (gP.symm.trans hg1)
 obtain rfl:=Option.some.inj (gE.symm.trans hg2)
 have tP:(Tryz.prog.globals[0]?).map (·.type)=some 240:=by kernel_rfl
 have tE:(Tryz.prog.globals[3]?).map (·.type)=some 116:=by kernel_rfl
 obtain rfl:=Option.some.inj (tP.symm.trans ht1)
 obtain rfl:=Option.some.inj (tE.symm.trans ht2)
 have c1:=Lib.cells_of_tab (k:=.u64) (zs:=Lib.pow10Tab) Tryz.underlying240 Tryz.underlying183 (by kernel_rfl) (by kernel_rfl) hd1
 obtain⟨f3,u,v,c2,_,_⟩:=iface_of_trod Tryz.underlying116 hd2
 obtain⟨tp1,k1,b1⟩:=oe gP hv1
 obtain⟨tp2,k2,b2⟩:=oe gE hv2
 have b0:∃ cs t k,W.heap[1]?=some (.cells cs t k)∧cs[0]?=some (.int .i64 m):=by
  have hm':W.cell? ⟨1,0,none⟩=some (.int .i64 m):=hm
  unfold World.cell? at hm'
  simp only[Option.isSome_none,Bool.false_eq_true,if_false] at hm'
  split at hm'
  ·rename_i cs t k he
   exact⟨_,_,_,he,hm'⟩
  all_goals cases hm'
 obtain⟨cs0,t0,k0,h0,e0⟩:=b0
 refine⟨⟨.cells cs0 t0 k0,.cells cs1 tp1 k1,.cells cs2 tp2 k2,m,u,v,⟨_,_,_,rfl,e0⟩,⟨tp1,k1,?_⟩,⟨tp2,k2,?_⟩⟩,⟨h0,b1,b2,trivial⟩⟩
 ·rw[← c1]
 ·obtain⟨l2⟩:=cs2
  have:l2=[.iface u v]:=c2
  rw[this]
section
variable {H:Type} {enc:TypeId×Value→H}
theorem returns_card {a:Assume} {C:Checked} {os:Os} {f:FuncId} {fn:Func} {s:ChangeSpec} {conds:List PathCond} {er fresh handsOn again:Bool} {X:World→Array Value→Prop}
 (hX:∀ (w w':World) (args:Array Value),w.heap=w'.heap→X w args→X w' args)
 (own:ownKnob C.prog.godebug=none) (started:os.Started) (noInit:C.prog.inits.idxOf? f=none) (hfn:C.prog.funcs[f]?=some fn)
 (witness:∃ (w:World) (tape:Tape) (i:Input),w.os=os∧(w.forCall tape i).Shaped C.prog∧i.vars=[]∧Input.okWide C.prog (w.forCall tape i) .any w.heap.size f i∧
  ((s.pre enc C.prog fn conds er (w.forCall tape i).memory i.args∧X (w.forCall tape i).memory i.args)∧sizedMet enc C.prog fn (OpenSpec.ofChange s) er (w.forCall tape i).memory i.args)∧a.holds C.prog (lone (Frame.enter C.prog f i.args .normal) [] (w.forCall tape i)))
 (contract:∀ (W:World) (base:Nat) (args:Array Value) (ds gs:List (DataW H)) (before:List MemPlace),
  (∀ (j:Nat) t v,fn.params[j]?=some t→args[j]?=some v→Value.okWide C.prog W .any base t v)→
  DataW.Whole enc C.prog fn.params.toList s.vars er W args.toList ds gs before→
  conds.all (PathCond.test C.prog ⟨fn.params.toList,ds,s.plain.varTypes C.prog,gs⟩)=true→
  (DataW.weightsEach C.prog (fn.params.toList++s.plain.varTypes C.prog) (ds++gs)).all (·≤reachBytes)=true→X W args→W.ShapedOpen C.prog→
  a.holds C.prog (lone (Frame.enter C.prog f args .normal) [] W)→
  Calls C.prog f args W fun e W'=>∃ v,e=.returned v∧s.post enc C.prog fn er fresh handsOn again W args v W'):
 ReturnsInHanded a C os f .any (fun w args=>(s.pre enc C.prog fn conds er w args∧X w args)∧sizedMet enc C.prog fn (OpenSpec.ofChange s) er w args) (s.post enc C.prog fn er fresh handsOn again):=by
 refine returnsInHanded_of_calls own started noInit witness ?_
 intro w tape i _ hsh _ hok hpre hholds
 obtain⟨_,_,_,fn',hfn',_,_,_,_,hval⟩:=hok
 have e:fn'=fn:=Option.some.inj (hfn'.symm.trans hfn)
 subst e
 obtain⟨⟨⟨ds,gs,before,hw,hc⟩,hx⟩,hz⟩:=hpre
 have hw':=DataW.Whole.of_heap (w':=w.forCall tape i) (by rfl) hw
 refine (contract (w.forCall tape i) w.heap.size i.args ds gs before hval hw' hc (hz.weights hw) (hX _ _ _ (by rfl) hx) hsh hholds).mono fun e W' ⟨v,he,hp⟩=>?_
 subst he
 exact ChangeSpec.post_blind hp
end
end Go.Proofs.YtpbmihpjgjbndaaGreatDoor
