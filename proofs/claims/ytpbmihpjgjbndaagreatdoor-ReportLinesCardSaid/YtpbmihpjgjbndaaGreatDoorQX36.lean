/- The engine and the words that all chapters share: several texts in one. -/
import Derived.Test.YtpbmihpjgjbndaaGreatDoorQX48
import Derived.Test.YtpbmihpjgjbndaaGreatDoorShelf
import Derived.Lib.LaidTab
import Derived.Lib.SmallJoins
import Derived.Lib.AppendIntMem
import Derived.Test.YtpbmihpjgjbndaaGreatDoorQB
import Derived.Lib.AppendStr
import Derived.Lib.Builder
import Derived.Shelf.Strings.Builder1
/- Lines, words, numbers: the program's words and the library's contracts. -/
set_option linter.unusedVariables false
set_option linter.unusedSimpArgs false
namespace Go.Proofs.YtpbmihpjgjbndaaGreatDoor
open Go.RowKit
structure f8 where
 oM:Obj
 oP:Obj
 oE:Obj
 m:Int
 tp:Nat
 pe:Value
 hM:∃ cs t k,oM=.cells cs t k∧cs[0]?=some (.int .i64 m)
 hP:∃ t k,oP=.cells (Lib.pow10Tab.map fun z=>Value.int .u64 z).toArray t k
 hE:∃ t k,oE=.cells #[.iface tp pe] t k
def f8.heap (V:f8):Heap:=[.tab 1 V.oM,.tab 0 V.oP,.tab 3 V.oE]
theorem vB {w:World} {b i:Nat} {cs:Array Value} {t:Nat} {k:Nat×Nat} {v:Value} (h:w.heap[b]?=some (.cells cs t k)) (hv:cs[i]?=some v):w.cell? ⟨b,i,none⟩=some v:=by
 simp[World.cell?,h,hv]
theorem f8.cellM (V:f8) {w:World} (h:w.heap[1]?=some V.oM):w.cell? ⟨1,0,none⟩=some (.int .i64 V.m):=by
 obtain⟨cs,t,k,e,h0⟩:=V.hM
 rw[e] at h
 exact vB h h0
theorem f8.tabP (V:f8) {w:World} (h:w.heap[0]?=some V.oP):Lib.TabIs Tryz.prog w "internal/strconv.uint64pow10" .u64 Lib.pow10Tab:=by
 obtain⟨t,k,e⟩:=V.hP
 rw[e] at h
 have hg:Tryz.prog.globalNamed "internal/strconv.uint64pow10" =some 0:=by kernel_rfl
 unfold Lib.TabIs World.var?
 rw[hg]
 simp only[Option.bind_some,h]
theorem f8.varE (V:f8) {w:World} (h:w.heap[3]?=some V.oE):w.var? Tryz.prog "strconv.ErrRange" =some #[.iface V.tp V.pe]:=by
 obtain⟨t,k,e⟩:=V.hE
 rw[e] at h
 have hg:Tryz.prog.globalNamed "strconv.ErrRange" =some 3:=by kernel_rfl
 unfold World.var?
 rw[hg]
 simp only[Option.bind_some,h]
def dC (l:List (List UInt8)):List Value:=l.map dy
theorem pU (l:List (List UInt8)):(dC l).length=l.length:=by simp[dC]
theorem qt {l:List (List UInt8)} {i:Nat} {x:List UInt8} (h:l[i]?=some x):(dC l)[i]?=some (dy x):=by simp[dC,h]
theorem qs (s:ByteArray):dy s.data.toList=.string s:=by unfold dy;rw[Lib.mk_data]
theorem rY (l p:List UInt8):Fn 119 [dy l,dy p] [] [] fun v H'=>v=dy (Lib.trimPrefix l p)∧H'=[]:=
 Fn.of_same (fun w=>Any.strings_TrimPrefix Tryz.lays101 ⟨l.toArray⟩ ⟨p.toArray⟩ w) ⟨rfl,rfl⟩
theorem rR (l p:List UInt8) (hl:l.length≤9223372036854775807):Fn 59 [dy l,dy p] [] [] fun v H'=>v=dy (Lib.trimSuffix l p)∧H'=[]:=
 Fn.of_same (fun w=>Any.strings_TrimSuffix Tryz.lays102 ⟨l.toArray⟩ ⟨p.toArray⟩ w (by rw[dx];exact hl)) ⟨rfl,rfl⟩
theorem xe (l p:List UInt8) (hl:l.length≤9223372036854775807) (hp:p.length<4294967281) (ha:p.all (fun b=>decide (b.toNat<128))=true):Fn 120 [dy l,dy p] [] [] fun v H'=>v=dy (Lib.trimS l p)∧H'=[]:=
 Fn.of_below fun w _=>(Any.strings_Trim_laid Tryz.lays160 (by kernel_rfl) ⟨l.toArray⟩ ⟨p.toArray⟩ w (by rw[dx];exact hl) (by rw[dx];exact hp) (ascii_of_all ha)).mono fun e w' ⟨he,hb⟩=>⟨_,he,hb,rfl,rfl⟩
theorem v9 (V:f8) (l:List UInt8) (c:UInt8) (hl:l.length<4294967281):Fn 58 [dy l,dy [c]] [] V.heap fun v H'=>∃ (A:Option Addr) (n:Nat),n=(br c [] l).length∧v=.slice A n n∧H'=[.own (.slice A n n) 9 1 n (dC (br c [] l))]:=by
 intro w hw
 have hm:=V.cellM (hw.holds (.tab _ V.oM) (by simp[f8.heap]))
 refine (Any.strings_Split { Tryz.laysM146 with } Tryz.laysM146.i9 ⟨l.toArray⟩ ⟨#[c]⟩ V.m w (by rw[dx];exact hl) hm (Nat.le_refl 1)).mono ?_
 rintro e w' ⟨he,hww⟩
 have hgo:=n7 c _ ⟨l.toArray⟩ rfl
 have hle:=Lib.countB_le ⟨#[c]⟩ (Nat.le_refl 1) l.length ⟨l.toArray⟩ (by rw[dx];exact Nat.le_refl _)
 rw[dx] at hle
 have hlen:(br c [] l).length=Lib.countB ⟨l.toArray⟩ ⟨#[c]⟩+1:=by
  rw[← hgo,List.length_map]
  exact Lib.splitB_all ⟨#[c]⟩ (Nat.le_refl 1) 0 _ ⟨l.toArray⟩ rfl
 have hcs:(Lib.splitB ⟨#[c]⟩ 0 (Lib.countB ⟨l.toArray⟩ ⟨#[c]⟩) ⟨l.toArray⟩).map Value.string=dC (br c [] l):=by
  rw[← hgo]
  simp[dC,qs]
 have hH:cm w [] w' [blk w.heap.size 9 (dC (br c [] l))]:=by
  rw[hww,hcs]
  exact (hw.mono (K:=[]) (fun c hc=>absurd hc List.not_mem_nil) List.Pairwise.nil).alloc _
 refine⟨_,_,he,hH.blkOwn (sz:=1) (n:=(br c [] l).length) (by rw[pU];simp) (by rw[hlen];unfold maxLen;omega),some ⟨w.heap.size,0,none⟩,_,hlen.symm,rfl,by rw[hlen]⟩
theorem qe (V:f8) (l:List UInt8) (hl:l.length<4294967281):Fn 20 [dy l] [] V.heap fun v H'=>∃ (A:Option Addr) (n:Nat),n=(bc l).length∧v=.slice A n n∧H'=[.own (.slice A n n) 9 1 n (dC (bc l))]:=by
 refine aS Tryz.func20 rfl rfl fun w0=>?_
 refine ad (aa (ae [] rfl ?_))
 refine ad (ad (aa ?_))
 refine ak (gs:=[999]) rfl ?_
 refine ab [] (l5 (m:=[]) rfl rfl rfl) rfl ?_
 refine ae [] rfl ?_
 refine aC rfl (fun h0=>?_) (fun h0=>av ?_)
 ·refine ad (aa (ae [] rfl ?_))
  refine cC 9 1 ?_
  refine aE [0] (by decide) rfl (aB ⟨_,rfl,none,0,?_,rfl,?_⟩)
  ·rw[h0];rfl
  ·rw[h0];rfl
 have he:bc l=br 10 [] (Lib.trimSuffix l [10]):=by unfold bc;rw[if_neg h0]
 have hle:(Lib.trimSuffix l [10]).length≤l.length:=by
  unfold Lib.trimSuffix
  split
  ·rw[List.length_take];omega
  ·exact Nat.le_refl _
 refine ad (aa ?_)
 refine ak (gs:=[999]) rfl ?_
 refine ax [] (rR l [10] (by omega)) rfl rfl rfl rfl (by kernel_rfl) trivial (fun _=>rfl) ?_
 rintro v H' ⟨rfl,rfl⟩
 refine⟨rfl,?_⟩
 refine ax [] (v9 V (Lib.trimSuffix l [10]) 10 (by omega)) rfl rfl rfl rfl (by kernel_rfl) ⟨⟨0,by simp,rfl⟩,⟨1,by simp,rfl⟩,⟨2,by simp,rfl⟩,trivial⟩ (fun _=>rfl) ?_
 rintro v H' ⟨A,n,hn,rfl,rfl⟩
 refine⟨rfl,?_⟩
 refine ae [] rfl ?_
 refine aE [0] (by decide) rfl (aB ⟨_,rfl,A,n,by rw[he];exact hn,rfl,by rw[he]⟩)
theorem vj (V:f8) (n:Int) (hn:bN n):Fn 21 [.int .i64 n] [] V.heap fun v H'=>v=dy (Lib.itoa n)∧H'=[]:=by
 have T:Fn 60 [.int .i64 n,.int .i64 10] [] V.heap fun v H'=>v=dy (Lib.itoa n)∧H'=[]:=by
  intro w hw
  have ht:=V.tabP (hw.holds (.tab _ V.oP) (by simp[f8.heap]))
  refine (Any.strconv_FormatInt_10 Tryz.laysM173 n (by unfold bN at hn;omega) (by unfold bN at hn;omega) w ht).mono ?_
  rintro e w' ⟨he,k,os,rfl⟩
  refine⟨_,[],he,?_,rfl,rfl⟩
  exact jv hw (Lib.below_grow _ w (Nat.le_refl _) k os)
 refine aS Tryz.func21 rfl rfl fun w0=>?_
 refine ad (aa (ae [] rfl ?_))
 refine ad (aa ?_)
 refine ak (gs:=[999]) rfl ?_
 refine ax [] T rfl rfl rfl rfl (by kernel_rfl) ⟨⟨0,by simp,rfl⟩,⟨1,by simp,rfl⟩,⟨2,by simp,rfl⟩,trivial⟩ (fun _=>rfl) ?_
 rintro v H' ⟨rfl,rfl⟩
 refine⟨rfl,?_⟩
 refine ae [] rfl ?_
 exact aE [] (by decide) rfl (aB ⟨_,rfl,rfl,rfl⟩)
theorem uj (x:Int) (hx:0≤x∧x≤1114111):Fn 88 [.int .i32 x] [] [] fun v H'=>v=.bool (fm x.toNat)∧H'=[]:=by
 have key:fm x.toNat=dI (x=32∨x=9∨x=13):=by
  by_cases h:x=32∨x=9∨x=13
  ·rw[az h];rcases h with rfl|rfl|rfl<;>rfl
  ·rw[aA h];simp[fm];omega
 rw[key]
 refine aS Tryz.func88 rfl rfl fun w0=>?_
 refine ad (aa (ae [] rfl ?_))
 refine ad (aa ?_)
 refine ak (gs:=[999]) rfl ?_
 refine ak (gs:=[999]) rfl ?_
 refine ak (gs:=[999]) rfl ?_
 by_cases h1:x=32
 ·refine aw 5 (v':=.bool true) rfl (congrArg Value.bool (az h1)) ?_
  refine ah [2] rfl ?_
  refine ae [2,6] rfl ?_
  exact aB ⟨_,rfl,congrArg Value.bool (az (.inl h1)).symm,rfl⟩
 refine aw 5 (v':=.bool false) rfl (congrArg Value.bool (aA h1)) ?_
 refine ah [2] rfl ?_
 by_cases h2:x=9
 ·refine aw 9 (v':=.bool true) rfl (congrArg Value.bool (az h2)) ?_
  refine ae [2,6] rfl ?_
  exact aB ⟨_,rfl,congrArg Value.bool (az (.inr (.inl h2))).symm,rfl⟩
 refine aw 9 (v':=.bool false) rfl (congrArg Value.bool (aA h2)) ?_
 refine ae [2,6] rfl ?_
 exact aB ⟨_,rfl,congrArg Value.bool (d8 ⟨fun h=>.inr (.inr h),fun h=>by omega⟩),rfl⟩
theorem vZ (l:List UInt8) (hl:l.length≤4294967296):Fn 54 [dy l] [] [] fun v H'=>∃ (A:Option Addr) (n:Nat),n=(bx l).length∧v=.slice A n n∧H'=[.own (.slice A n n) 9 1 n (dC (bx l))]:=by
 have T:Fn 87 [dy l,.func (.func 88) #[] #[]] [] [] fun v H'=>∃ (A:Option Addr) (n:Nat),n=(bx l).length∧v=.slice A n n∧H'=[.own (.slice A n n) 9 1 n (dC (bx l))]:=by
  intro w hw
  have hp:PredGrows Tryz.prog 88 #[] fm w:=by
   intro W x hx _
   refine (uj (x:Int) ⟨by omega,by omega⟩ W ⟨rfl,rfl,rfl,Nat.le_refl _,fun _ _ _=>rfl,fun c hc=>absurd hc List.not_mem_nil,fun c hc=>absurd hc List.not_mem_nil,List.Pairwise.nil⟩).mono ?_
   rintro e w' ⟨v,H',he,hH,rfl,rfl⟩
   rw[Int.toNat_natCast] at he
   exact⟨he,⟨hH.os,hH.tape,hH.output,hH.size,fun k hk=>hH.keep k hk (by simp)⟩⟩
  have heq:=nC ⟨l.toArray⟩
  refine (Any.strings_FieldsFunc_grows Tryz.lays229 88 #[] (fC (by kernel_rfl)) fm ⟨l.toArray⟩ w (by rw[dx];exact hl) hp (by kernel_rfl) (by kernel_rfl)).mono ?_
  rintro e w' ⟨g,he,hg,hrow,hb⟩
  have hlen:(Lib.goFieldsP fm ⟨l.toArray⟩).length=(bx l).length:=by
   have:=congrArg List.length heq
   simpa using this
  have hcs:(Lib.goFieldsP fm ⟨l.toArray⟩).map Value.string=dC (bx l):=by
   have h2:bx l=(Lib.goFieldsP fm ⟨l.toArray⟩).map (·.data.toList):=heq.symm
   rw[h2]
   simp[dC,qs]
  refine⟨_,_,he,⟨hb.os,hb.tape,hb.output,hb.size,fun k hk _=>hb.block k hk,fun c hc=>?_,fun c hc b hb'=>?_,List.pairwise_singleton _ _⟩,some ⟨g,0,none⟩,_,hlen,rfl,by rw[← hcs]⟩
  ·obtain rfl:=List.mem_singleton.1 hc
   obtain⟨h1,h2⟩:=hrow
   refine⟨h1,h2.imp id ?_⟩
   rintro⟨g',cap,cur,k1,k2,k3⟩
   exact⟨g',cap,cur,k1,Nat.zero_le _,k3⟩
  ·obtain rfl:=List.mem_singleton.1 hc
   simp only[aO.mine,Value.ownBlock,Option.some.injEq] at hb'
   exact .inl (by omega)
 refine aS Tryz.func54 rfl rfl fun w0=>?_
 refine ad (aa (ae [] rfl ?_))
 refine ad (aa ?_)
 refine ak (gs:=[999]) rfl ?_
 refine ax [] T rfl rfl rfl rfl (by kernel_rfl) trivial (fun _=>rfl) ?_
 rintro v H' ⟨A,n,hn,rfl,rfl⟩
 refine⟨rfl,?_⟩
 refine ae [] rfl ?_
 exact aE [0] (by decide) rfl (aB ⟨_,rfl,A,n,hn,rfl,rfl⟩)
theorem uW (V:f8) (l:List UInt8) (hl:l.length≤281474976710656):Fn 89 [dy l] [] V.heap fun v H'=>v=sJ (dE l)∧H'=[]:=by
 obtain⟨d,hd⟩:∃ d,d=Lib.trimPrefix l [45]:=⟨_,rfl⟩
 obtain⟨n1,n2⟩:=yS l d hd
 have hdl:d.length≤l.length:=by
  rw[hd];unfold Lib.trimPrefix
  split
  ·rw[List.length_drop];omega
  ·exact Nat.le_refl _
 have T1:=rY l [45]
 rw[← hd] at T1
 refine aS Tryz.func89 rfl rfl fun w0=>?_
 refine ad (aa (ae [] rfl ?_))
 refine ad (aa ?_)
 refine ak (gs:=[999]) rfl ?_
 refine ax [] (T1) rfl rfl rfl rfl (by kernel_rfl) trivial (fun _=>rfl) ?_
 rintro v H' ⟨rfl,rfl⟩
 refine⟨rfl,?_⟩
 refine ae [] rfl ?_
 refine ad ?_
 refine d7 [(15,.bool (dI (d=[]∨Lib.trimS d [48,49,50,51,52,53,54,55,56,57]≠[]))),(0,dy l)] V.heap ?_ ?_
 ·skip
  refine aa ?_
  refine ak (gs:=[999]) rfl ?_
  refine ab [] (l5 (m:=[]) rfl rfl rfl) rfl ?_
  refine ak (gs:=[999]) rfl ?_
  by_cases h1:d=[]
  ·refine aw 11 (v':=.bool true) rfl (congrArg Value.bool (az h1)) ?_
   refine ae [2] rfl ?_
   exact⟨[0,1,2],⟨congrArg some (congrArg Value.bool (az (.inl h1)).symm),rfl,trivial⟩,by decide,rfl⟩
  refine aw 11 (v':=.bool false) rfl (congrArg Value.bool (aA h1)) ?_
  refine ah [2] rfl ?_
  refine ax [2] (xe d [48,49,50,51,52,53,54,55,56,57] (by omega) (by decide) (by decide)) rfl rfl rfl rfl (by kernel_rfl) trivial (fun _=>rfl) ?_
  rintro v H' ⟨rfl,rfl⟩
  refine⟨rfl,?_⟩
  refine ab [2] (x9 (m:=[]) rfl rfl rfl) rfl ?_
  refine ae [2] rfl ?_
  exact⟨[0,1,2],⟨congrArg some (congrArg Value.bool (d8 ⟨fun h=>.inr h,fun h=>h.resolve_left h1⟩)),rfl,trivial⟩,by decide,rfl⟩
 refine aC rfl (fun hbad=>?_) (fun hgood=>av ?_)
 ·refine ad (aa (ae [] rfl ?_))
  refine aE [] (by decide) rfl (aB ⟨_,rfl,?_,rfl⟩)
  rw[n1 hbad];rfl
 rcases n2 hgood with ⟨v,h1,h2⟩|⟨h1,h2⟩
 ·have T:Fn 121 [dy l,.int .i64 10,.int .i64 64] [] [] fun u H'=>u=.tuple #[.int .i64 v,.nilIface]∧H'=[]:=by
   intro w hw
   refine (Any.strconv_ParseInt_10_at64_ok Tryz.laysC174 ⟨l.toArray⟩ (by rw[dx];omega) v h1 w).mono ?_
   rintro e w' ⟨he,hww⟩
   refine⟨_,[],he,jv hw ?_,rfl,rfl⟩
   rcases hww with rfl|⟨t,rfl⟩
   ·exact Below.refl _ _
   ·exact Go.Joins.below_bytesWorld _ w _ _ (Nat.le_refl _)
  refine ad (aa ?_)
  refine ak (gs:=[999]) rfl ?_
  refine ax [] (T) rfl rfl rfl rfl (by kernel_rfl) trivial (fun _=>rfl) ?_
  rintro v H' ⟨rfl,rfl⟩
  refine⟨rfl,?_⟩
  refine ae [] rfl ?_
  refine ad (ad (aa (ae [] rfl ?_)))
  refine bI rfl ?_
  refine av (ad (aa (ae [] rfl ?_)))
  refine aE [] (by decide) rfl (aB ⟨_,rfl,?_,rfl⟩)
  rw[h2];rfl
 ·have T:Fn 121 [dy l,.int .i64 10,.int .i64 64] [] V.heap fun u H'=>∃ (i:Int) (g:Nat),u=.tuple #[.int .i64 i,.iface 256 (.pointer (some ⟨g,0,none⟩))]∧H'=[]:=by
   intro w hw
   have hv:=V.varE (hw.holds (.tab _ V.oE) (by simp[f8.heap]))
   refine (Any.strconv_ParseInt_10_at64_range_var Tryz.laysC174 ⟨l.toArray⟩ (by rw[dx];exact hl) h1 V.tp V.pe w hv).mono ?_
   rintro e w' ⟨g,he,_,_,hb⟩
   exact⟨_,[],he,jv hw hb,_,g,rfl,rfl⟩
  refine ad (aa ?_)
  refine ak (gs:=[999]) rfl ?_
  refine ax [] T rfl rfl rfl rfl (by kernel_rfl) ⟨⟨0,by simp,rfl⟩,⟨1,by simp,rfl⟩,⟨2,by simp,rfl⟩,trivial⟩ (fun _=>rfl) ?_
  rintro u H' ⟨i,g,rfl,rfl⟩
  refine⟨rfl,?_⟩
  refine ae [] rfl ?_
  refine ad (ad (aa (ae [] rfl ?_)))
  refine bo rfl ?_
  refine ad (aa (ae [] rfl ?_))
  refine aE [] (by decide) rfl (aB ⟨_,rfl,?_,rfl⟩)
  rw[h2];rfl
end Go.Proofs.YtpbmihpjgjbndaaGreatDoor
/- A builder of the library, in the engine: written, and read at the end. -/
set_option linter.unusedVariables false
set_option linter.unusedSimpArgs false
namespace Go.Proofs.YtpbmihpjgjbndaaGreatDoor
open Go.RowKit
open Lib
theorem xP {w:World} {t u ty e:Nat} {i:TypeInfo} (ht:Tryz.prog.underlying t=some (.slice e)) (hu:Tryz.prog.underlying u=some .string) (hi:Tryz.prog.info? e=some i) (hz:i.zero=some (.int .u8 0)) (hs:i.size=1) (hb:i.bytes=1)
 (v:Value) (n:Nat) (xs:List Value) (hown:w.ownsRow 0 e 1 v n xs) (s:ByteArray) (h:n+s.size≤140737488355328):
 ∃ v' w',(Builtin.append_ #[t,u] ty #[v,.string s]).run Tryz.prog w=.ok v' w'∧w'.ownsRow 0 e 1 v' (n+s.size) (xs++strCells s)∧w.grownBy w' v.ownBlock∧∀ b,v'.ownBlock=some b→v.ownBlock=some b∨w.heap.size≤b:=by
 obtain⟨v',w',hr,h1,h2,_⟩:=run_append_own_string w 0 t u ty e i ht hu hi hz hs hb v n xs hown s (by unfold maxLen;omega) h (Nat.zero_le _)
 refine⟨v',w',hr,h1,h2,?_⟩
 have hlen:xs.length=n:=by simpa using hown.1
 rcases hown.2 with ⟨rfl,rfl⟩|⟨g,cap,cur,rfl,_,hg,hnc,hcm,hcs,_⟩
 ·obtain rfl:xs=[]:=List.eq_nil_of_length_eq_zero hlen
  obtain⟨v2,w2,hr2,k1,_,_⟩:=run_append_own_string w w.heap.size t u ty e i ht hu hi hz hs hb (.slice none 0 0) 0 [] (World.ownsRow_nil w _ e 1) s (by unfold maxLen;omega) h (Nat.le_refl _)
  rw[hr] at hr2
  injection hr2 with hv _
  subst hv
  intro b hbk
  rcases k1.2 with ⟨rfl,_⟩|⟨g,cap,cur,rfl,hge,_⟩
  ·cases hbk
  ·simp only[Value.ownBlock,Option.some.injEq] at hbk
   exact .inr (by omega)
 ·by_cases hroom:n+s.size≤cap
  ·have hr3:=run_append_room_string (P:=Tryz.prog) w t u ty e i ht hu hi hs g n cap cur hg s hroom (by simp at hcs;omega)
   rw[hr] at hr3
   injection hr3 with hv _
   subst hv
   exact fun b hbk=>.inl hbk
  ·have hr3:=run_append_grow_string (P:=Tryz.prog) w t u ty e i (.int .u8 0) ht hu hi hz ⟨g,0,none⟩ n cap xs (by rw[hs];simpa using hlen) (hown.cells (g:=g) rfl) s (by omega) (by omega) (by rw[hb];exact growslice_fits (by omega) (by omega))
   rw[hr] at hr3
   injection hr3 with hv _
   subst hv
   intro b hbk
   simp only[Value.ownBlock,Option.some.injEq] at hbk
   exact .inr (by omega)
section
variable {X:Cx} {Q:dl} {E:Env} {H K:Heap}
theorem tL (m:List UInt8):strCells ⟨m.toArray⟩=byteCells m:=rfl
theorem oF {F:Option Addr→Nat→Env} {ops l:List Oper} {o:Oper} {t u e n c0 s1 s2 sz' by':Nat} {s x:Operand} {A0:Option Addr} {z z':Option Value} {uk:UK} {xs:List Value} {m:List UInt8} (k:Nat)
 (ho:o.op=.call ⟨.builtin .append,#[s,x],#[t,u]⟩) (hs:val E s=some (.slice A0 n c0)) (hx:val E x=some (dy m)) (ht:tab t=some ⟨.slice e,sz',by',z⟩) (hu:tab u=some ⟨.string,s1,s2,z'⟩) (he:tab e=some ⟨uk,1,1,some (.int .u8 0)⟩)
 (hk:H[k]?=some (.own (.slice A0 n c0) e 1 n xs)) (hmax:n+m.length≤140737488355328) (hb:∀ A c,iJ X.n ops [] E o (.slice A (n+m.length) c)=some (F A c))
 (h:∀ A c,JL X ops l Q (F A c) (H.set k (.own (.slice A (n+m.length) c) e 1 (n+m.length) (xs++byteCells m)))):JL X ops (o::l) Q E H:=by
 obtain⟨j,hi,hjz,hjs,hjb⟩:=fG he
 refine oH (α:=Option Addr×Nat) (f:=fun p=>.slice p.1 (n+m.length) p.2) (F:=fun p=>F p.1 p.2)
  (G:=fun p=>H.set k (.own (.slice p.1 (n+m.length) p.2) e 1 (n+m.length) (xs++byteCells m))) [] (fun p=>hb p.1 p.2) (fun a w hA hH=>?_) (fun p=>h p.1 p.2)
 have hown:w.ownsRow 0 e 1 (.slice A0 n c0) n xs:=hH.holds _ (List.mem_of_getElem? hk)
 obtain⟨v',w',hr,h1,h2,h3⟩:=xP (w:=w) (ty:=o.type) (db ht) (mZ hu) hi hjz hjs hjb _ n xs hown ⟨m.toArray⟩ (by rw[dx];exact hmax)
 rw[dx,tL] at h1
 obtain⟨A,c,rfl⟩:∃ A c,v'=.slice A (n+m.length) c:=by
  rcases h1.2 with ⟨rfl,e0⟩|⟨g,cap,cur,rfl,_⟩
  ·exact⟨none,0,by rw[e0]⟩
  ·exact⟨_,_,rfl⟩
 refine⟨(A,c),w',?_,?_⟩
 ·have hr':(Builtin.append_ #[t,u] o.type #[.slice A0 n c0,dy m]).run Tryz.prog w=.ok (.slice A (n+m.length) c) w':=hr
  simp[execOp,ho,resolve,invoke,builtin,hA.val hs,hA.val hx,hr']
 ·exact hH.step k hk h2.os h2.tape h2.output h2.size (fun q hq hne=>h2.block q hq (fun x=>hne x.symm)) h1 (fun b' hb'=>h3 b' hb')
end
/-! ### The builder -/
def zC (b:Nat) (p:Value):Prop:=p=.pointer none∨p=.pointer (some ⟨b,0,none⟩)
end Go.Proofs.YtpbmihpjgjbndaaGreatDoor
