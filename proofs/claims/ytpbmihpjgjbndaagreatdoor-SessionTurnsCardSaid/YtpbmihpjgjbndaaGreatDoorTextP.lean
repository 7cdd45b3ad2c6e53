/- Lines, words and numbers of texts, in plain words. -/
import Derived.Lib.SpaceUEq
import Derived.Lib.FieldsP
import Derived.Lib.SplitLaws
import Derived.Lib.ParseIntBCases
import Derived.Lib.SlTrimSet
set_option linter.unusedVariables false
set_option linter.unusedSimpArgs false
namespace Go.Proofs.YtpbmihpjgjbndaaGreatDoor
open Go.Lib
/-! ### Words -/
def l5 (b:UInt8):Bool:=b.toNat==32||b.toNat==9||b.toNat==13
def fw (r:Nat):Bool:=r==32||r==9||r==13
def bP (cur:List UInt8):List UInt8→List (List UInt8)
 |[]=>if cur=[] then [] else [cur]
 |b::l=>if l5 b then (if cur=[] then bP [] l else cur::bP [] l) else bP (cur++[b]) l
def bx (l:List UInt8):List (List UInt8):=bP [] l
theorem im:∀ (t cur r:List UInt8),(∀ b∈t,l5 b=false)→bP cur (t++r)=bP (cur++t) r
 |[],cur,r,_=>by simp
 |b::t,cur,r,h=>by
  rw[List.cons_append,bP,if_neg (by rw[h b (by simp)];decide),im t (cur++[b]) r (fun x hx=>h x (by simp[hx])),List.append_assoc]
  rfl
theorem rF (n b0 b1 b2 b3:Nat) (hn:1≤n):1≤(decodeN n b0 b1 b2 b3).2∧(decodeN n b0 b1 b2 b3).2≤n∧(fw (decodeN n b0 b1 b2 b3).1=true→(decodeN n b0 b1 b2 b3).2=1∧fw b0=true)∧
 (fw (decodeN n b0 b1 b2 b3).1=false→fw b0=false∧(2≤(decodeN n b0 b1 b2 b3).2→128≤b1)∧(3≤(decodeN n b0 b1 b2 b3).2→128≤b2)∧(4≤(decodeN n b0 b1 b2 b3).2→128≤b3))∧(decodeN n b0 b1 b2 b3).2≤4:=by
 have hle:=decodeN_le_n' n b0 b1 b2 b3 hn
 obtain⟨c2,c3,c4,c5⟩:=decodeN_conts n b0 b1 b2 b3
 have key:∀ r:Nat,fw r=true↔(r=32∨r=9∨r=13):=fun r=>by simp[fw,or_assoc]
 have key2:∀ r:Nat,fw r=false↔¬ (r=32∨r=9∨r=13):=fun r=>by rw[← key];simp
 have h1:1≤(decodeN n b0 b1 b2 b3).2:=by
  rcases decodeN_cases n b0 b1 b2 b3 with ⟨c,e⟩|⟨_,_,_,_,e⟩|⟨_,_,_,_,_,e⟩|⟨_,e⟩|e<;>rw[e]<;>simp
 refine⟨h1,hle,fun h=>?_,fun h=>⟨?_,fun k=>?_,fun k=>?_,fun k=>?_⟩,c5⟩
 ·rw[key] at h ⊢
  rcases decodeN_cases n b0 b1 b2 b3 with ⟨c,e⟩|⟨_,_,_,_,e⟩|⟨_,_,_,_,_,e⟩|⟨c,e⟩|e
  ·rw[e] at h ⊢;exact⟨rfl,h⟩
  ·rw[e] at h;dsimp only at h;omega
  ·rw[e] at h;dsimp only at h;omega
  ·omega
  ·rw[e] at h;dsimp only at h;omega
 ·rw[key2] at h ⊢
  rcases decodeN_cases n b0 b1 b2 b3 with ⟨c,e⟩|⟨c,_,_,_,e⟩|⟨c,_,_,_,_,e⟩|⟨c,e⟩|e
  ·rw[e] at h;exact h
  ·omega
  ·omega
  ·intro hb
   have:decodeN n b0 b1 b2 b3=(b0,1):=by unfold decodeN;rw[if_pos (by omega)]
   rw[this] at e;simp at e
  ·intro hb
   have:decodeN n b0 b1 b2 b3=(b0,1):=by unfold decodeN;rw[if_pos (by omega)]
   rw[this] at e
   simp only[Prod.mk.injEq] at e
   omega
 ·have:=(c2 k).1;omega
 ·have:=(c3 k).1;omega
 ·have:=(c4 k).1;omega
theorem nR (s:ByteArray) (i:Nat) (h:i<s.size):s.data.toList[i]?=some (s.get! i):=by
 obtain⟨⟨l⟩⟩:=s
 have h':i<l.length:=h
 show l[i]?=_
 rw[List.getElem?_eq_getElem h']
 simp only[ByteArray.get!,Option.some.injEq]
 show l[i]=l.toArray[i]!
 rw[getElem!_pos l.toArray i (by simpa using h')]
 simp
theorem qR (b:UInt8):l5 b=fw b.toNat:=rfl
theorem tX (s:ByteArray) (i:Nat) (h:i<s.size):1≤(Utf8.decode s i).2∧i+(Utf8.decode s i).2≤s.size∧
 (fw (Utf8.decode s i).1=true→(Utf8.decode s i).2=1∧∃ b,s.data.toList[i]?=some b∧l5 b=true)∧
 (fw (Utf8.decode s i).1=false→∀ b∈(s.data.toList.drop i).take (Utf8.decode s i).2,l5 b=false):=by
 rw[decode_at]
 obtain⟨h1,h2,h3,h4,h5⟩:=rF (s.size-i) (s.get! i).toNat (s.get! (i+1)).toNat (s.get! (i+2)).toNat (s.get! (i+3)).toNat (by omega)
 refine⟨h1,by omega,fun hs=>⟨(h3 hs).1,_,nR s i h,by rw[qR];exact (h3 hs).2⟩,fun hs b hb=>?_⟩
 obtain⟨g0,g1,g2,g3⟩:=h4 hs
 obtain⟨j,hj,e⟩:=List.getElem_of_mem hb
 rw[List.length_take,List.length_drop] at hj
 rw[List.getElem_take,List.getElem_drop] at e
 have hsz:s.data.toList.length=s.size:=(size_eq s).symm
 have hk:s.data.toList[i+j]?=some b:=by rw[List.getElem?_eq_getElem (by omega),e]
 have hg:=nR s (i+j) (by omega)
 rw[hg] at hk
 obtain rfl:=Option.some.inj hk
 have key2:∀ r:Nat,128≤r→fw r=false:=fun r hr=>by simp[fw];omega
 rw[qR]
 match j,hj with
 |0,_=>exact g0
 |1,hj=>exact key2 _ (g1 (by omega))
 |2,hj=>exact key2 _ (g2 (by omega))
 |3,hj=>exact key2 _ (g3 (by omega))
 |j+4,hj=>omega
def i4 (s:ByteArray) (x:Nat×Nat):List UInt8:=(s.extract x.1 x.2).data.toList
theorem tJ (s:ByteArray):∀ (f pos:Nat) (st:Option Nat) (acc:List (Nat×Nat)),s.size≤pos+f→pos≤s.size→(∀ a,st=some a→a<pos)→
 (closeSpans s (spansFromP fw s f pos st acc)).map (i4 s)=acc.map (i4 s)++bP (openPiece s.data.toList st pos) (s.data.toList.drop pos):=by
 have hsz:s.data.toList.length=s.size:=(size_eq s).symm
 have fin:∀ (f pos:Nat) (st:Option Nat) (acc:List (Nat×Nat)),pos=s.size→(∀ a,st=some a→a<pos)→
  (closeSpans s (spansFromP fw s f pos st acc)).map (i4 s)=acc.map (i4 s)++bP (openPiece s.data.toList st pos) (s.data.toList.drop pos):=by
  intro f pos st acc hp hst
  rw[spansFromP_end fw s f pos st acc (by omega),List.drop_eq_nil_of_le (by omega)]
  cases st with
  |none=>simp[closeSpans,bP,openPiece]
  |some a=>
   have hlt:=hst a rfl
   have hne:pieceU s.data.toList a pos≠[]:=pieceU_ne _ _ _ hlt (by omega)
   have hpc:i4 s (a,s.size)=pieceU s.data.toList a pos:=by unfold i4 pieceU;rw[extract_eq,hp]
   simp only[closeSpans,bP,openPiece,hne,↓reduceIte,List.map_append,List.map_cons,List.map_nil,hpc]
 intro f
 induction f with
 |zero=>exact fun pos st acc h1 h2 h3=>fin 0 pos st acc (by omega) h3
 |succ f ih=>
  intro pos st acc h1 h2 h3
  by_cases hlt:pos<s.size
  ·obtain⟨d1,d2,d3,d4⟩:=tX s pos hlt
   have hsplit:s.data.toList.drop pos=(s.data.toList.drop pos).take (Utf8.decode s pos).2++s.data.toList.drop (pos+(Utf8.decode s pos).2):=by
    rw[← List.drop_drop,List.take_append_drop]
   unfold spansFromP
   rw[if_pos hlt]
   cases hs:fw (Utf8.decode s pos).1 with
   |true=>
    obtain⟨e1,b,hb,hbs⟩:=d3 hs
    have hdrop:s.data.toList.drop pos=b::s.data.toList.drop (pos+1):=by
     obtain⟨hl,e⟩:=List.getElem?_eq_some_iff.1 hb
     rw[List.drop_eq_getElem_cons hl,e]
    rw[if_pos rfl,hdrop]
    cases st with
    |none=>
     simp only
     rw[ih _ none acc (by omega) (by omega) (fun a h=>by cases h),e1]
     simp[openPiece,bP,hbs]
    |some a=>
     have hla:=h3 a rfl
     have hne:pieceU s.data.toList a pos≠[]:=pieceU_ne _ _ _ hla (by omega)
     simp only
     rw[ih _ none _ (by omega) (by omega) (fun a h=>by cases h),e1]
     have hpc:i4 s (a,pos)=pieceU s.data.toList a pos:=by unfold i4 pieceU;rw[extract_eq]
     simp only[openPiece,bP,hbs,↓reduceIte,hne,List.map_append,List.map_cons,List.map_nil,List.append_assoc,List.singleton_append,hpc]
   |false=>
    have hall:=d4 hs
    rw[if_neg (by decide)]
    have hw:∀ cur,bP cur (s.data.toList.drop pos)=bP (cur++(s.data.toList.drop pos).take (Utf8.decode s pos).2) (s.data.toList.drop (pos+(Utf8.decode s pos).2)):=by
     intro cur
     conv=>lhs;rw[hsplit]
     exact im _ _ _ hall
    cases st with
    |none=>
     simp only
     rw[ih _ (some pos) acc (by omega) (by omega) (fun a h=>by obtain rfl:=Option.some.inj h;omega),hw]
     congr 2
     show pieceU _ _ _=[]++_
     unfold pieceU
     rw[List.nil_append,Nat.add_sub_cancel_left]
    |some a=>
     have hla:=h3 a rfl
     simp only
     rw[ih _ (some a) acc (by omega) (by omega) (fun a' h=>by obtain rfl:=Option.some.inj h;omega),hw]
     congr 2
     exact (pieceU_grow _ _ _ _ (by omega)).symm
  ·exact fin (f+1) pos st acc (by omega) h3
theorem nz (s:ByteArray):(goFieldsP fw s).map (·.data.toList)=bx s.data.toList:=by
 unfold goFieldsP spansOfP bx
 rw[List.map_map]
 have:=tJ s s.size 0 none [] (by omega) (by omega) (fun a h=>by cases h)
 rw[List.map_nil,List.nil_append,List.drop_zero] at this
 exact this
/-! ### Lines -/
def bD (c:UInt8) (cur:List UInt8):List UInt8→List (List UInt8)
 |[]=>[cur]
 |b::l=>if b=c then cur::bD c [] l else bD c (cur++[b]) l
def aY (l:List UInt8):List (List UInt8):=if l=[] then [] else bD 10 [] (trimSuffix l [10])
theorem ii (c:UInt8):∀ (l cur:List UInt8),(∀ b∈l,b≠c)→bD c cur l=[cur++l]
 |[],cur,_=>by simp[bD]
 |b::l,cur,h=>by rw[bD,if_neg (h b (by simp)),ii c l _ (fun x hx=>h x (by simp[hx])),List.append_assoc];rfl
theorem ku (c:UInt8):∀ (l cur r:List UInt8),(∀ b∈l,b≠c)→bD c cur (l++c::r)=(cur++l)::bD c [] r
 |[],cur,r,_=>by simp[bD]
 |b::l,cur,r,h=>by rw[List.cons_append,bD,if_neg (h b (by simp)),ku c l _ r (fun x hx=>h x (by simp[hx])),List.append_assoc];rfl
theorem nX (c:UInt8):∀ (k:Nat) (s:ByteArray),countB s ⟨#[c]⟩=k→(splitB ⟨#[c]⟩ 0 k s).map (·.data.toList)=bD c [] s.data.toList
 |k,s,hk=>by
  rcases indexB_cases s ⟨#[c]⟩ with h|⟨i,h,hi⟩
  ·have h':indexByte s.data.toList c=-1:=by rw[← index_one];exact h
   rw[splitB_miss _ _ _ _ h,ii c _ _ (fun b hb e=>by
    obtain⟨j,hj,e2⟩:=List.getElem_of_mem hb
    exact indexByte_none h' j (by rw[List.getElem?_eq_getElem hj,e2,e]))]
   simp
  ·have h':indexByte s.data.toList c=i:=by rw[← index_one];exact h
   obtain⟨h1,h2⟩:=indexByte_some h'
   have hk2:=countB_hit s ⟨#[c]⟩ i (Nat.le_refl 1) h
   have hsz1:(⟨#[c]⟩:ByteArray).size=1:=rfl
   rw[hsz1] at hk2
   obtain⟨k',rfl⟩:∃ k',k=k'+1:=⟨countB (s.extract (i+1) s.size) ⟨#[c]⟩,by omega⟩
   have ih:=nX c k' (s.extract (i+1) s.size) (by omega)
   have hl:i<s.data.toList.length:=(List.getElem?_eq_some_iff.1 h1).1
   have hdrop:s.data.toList=s.data.toList.take i++c::s.data.toList.drop (i+1):=by
    have e:s.data.toList.drop i=c::s.data.toList.drop (i+1):=by
     rw[List.drop_eq_getElem_cons hl,(List.getElem?_eq_some_iff.1 h1).2]
    rw[← e,List.take_append_drop]
   rw[splitB_hit _ _ _ _ i h,hsz1,List.map_cons,ih,extract_to_end]
   conv=>rhs;rw[hdrop]
   rw[ku c _ _ _ (fun b hb e=>by
    obtain⟨j,hj,e2⟩:=List.getElem_of_mem hb
    rw[List.length_take] at hj
    rw[List.getElem_take] at e2
    exact h2 j (by omega) (by rw[List.getElem?_eq_getElem (by omega),e2,e]))]
   rw[List.nil_append,extract_eq]
   simp
/-! ### Numbers -/
def lC (b:UInt8):Bool:=decide (48≤b.toNat∧b.toNat≤57)
def fv (acc:Nat) (l:List UInt8):Nat:=l.foldl (fun n b=>n*10+(b.toNat-48)) acc
def dj (l:List UInt8):Int×Int:=
 let neg:=l.head?=some 45
 let d:=if neg then l.drop 1 else l
 if d=[]∨¬ d.all lC then (0,2) else
 if neg then (if fv 0 d≤9223372036854775808 then (-(fv 0 d:Int),0) else (0,3))
 else (if fv 0 d≤9223372036854775807 then ((fv 0 d:Int),0) else (0,3))
theorem sU:∀ (l:List UInt8) (acc:Nat),acc≤fv acc l
 |[],_=>Nat.le_refl _
 |b::l,acc=>by
  have:=sU l (acc*10+(b.toNat-48))
  show acc≤fv (acc*10+(b.toNat-48)) l
  omega
theorem nG:∀ (l:List UInt8) (acc:Nat),acc≤18446744073709551615→l.all lC=true→parseUintM 18446744073709551615 acc l=if fv acc l≤18446744073709551615 then .ok (fv acc l) else .range
 |[],acc,h,_=>by rw[if_pos (by exact h)];rfl
 |b::l,acc,h,hd=>by
  rw[List.all_cons,Bool.and_eq_true] at hd
  have hb:48≤b.toNat∧b.toNat≤57:=by simpa [lC] using hd.1
  have hge:=sU l (acc*10+(b.toNat-48))
  have hv:fv acc (b::l)=fv (acc*10+(b.toNat-48)) l:=rfl
  unfold parseUintM
  rw[if_pos hb,hv]
  by_cases h1:1844674407370955162≤acc
  ·rw[if_pos h1,if_neg (by omega)]
  ·rw[if_neg h1]
   by_cases h2:18446744073709551615<acc*10+(b.toNat-48)
   ·rw[if_pos h2,if_neg (by omega)]
   ·rw[if_neg h2]
    exact nG l _ (by omega) hd.2
theorem ua (cs:List UInt8):∀ l:List UInt8,trimS l cs=[]↔∀ b∈l,cs.contains b=true:=by
 have hd:∀ l:List UInt8,l.dropWhile (cs.contains ·)=[]↔∀ b∈l,cs.contains b=true:=by
  intro l
  induction l with
  |nil=>simp
  |cons b l ih=>
   rw[List.dropWhile_cons]
   cases hb:cs.contains b with
   |true=>rw[if_pos rfl,ih];simp only[List.mem_cons,forall_eq_or_imp,hb,true_and]
   |false=>
    rw[if_neg (by decide)]
    exact⟨fun h=>by simp at h,fun h=>by rw[h b (by simp)] at hb;cases hb⟩
 intro l
 unfold trimS trimLeftS trimRightS
 rw[hd]
 constructor
 ·intro h
  have:l.reverse.dropWhile (cs.contains ·)=[]:=by
   cases hr:l.reverse.dropWhile (cs.contains ·) with
   |nil=>rfl
   |cons x r=>
    have h1:=h x (by rw[hr];simp)
    have h2:=List.head?_dropWhile_not (cs.contains ·) l.reverse
    rw[hr] at h2
    simp only[List.head?_cons] at h2
    rw[h1] at h2
    simp at h2
  intro b hb
  exact (hd l.reverse).1 this b (by simpa using hb)
 ·intro h b hb
  exact h b (by
   have:=List.mem_reverse.1 hb
   simpa using (List.dropWhile_sublist (cs.contains ·)).subset this)
theorem mj (b:UInt8):([48,49,50,51,52,53,54,55,56,57]:List UInt8).contains b=lC b:=by
 have key:∀ i:Fin 256,([48,49,50,51,52,53,54,55,56,57]:List UInt8).contains (UInt8.ofNat i.val)=lC (UInt8.ofNat i.val):=by decide+kernel
 have:=key ⟨b.toNat,b.toNat_lt⟩
 simpa using this
theorem y5 (l:List UInt8) (d:List UInt8) (hd:d=trimPrefix l [45]):
 (d=[]∨trimS d [48,49,50,51,52,53,54,55,56,57]≠[]→dj l=(0,2))∧
 (¬ (d=[]∨trimS d [48,49,50,51,52,53,54,55,56,57]≠[])→(∃ v,parseIntB 64 l=.ok v∧dj l=(v,0))∨(parseIntB 64 l=.range∧dj l=(0,3))):=by
 have hpre:d=if l.head?=some 45 then l.drop 1 else l:=by
  rw[hd]
  unfold trimPrefix hasPrefix
  cases l with
  |nil=>simp
  |cons b l=>
   by_cases hb:b=45
   ·subst hb;simp[List.isPrefixOf]
   ·have:¬ (45:UInt8)=b:=fun e=>hb e.symm
    simp[List.isPrefixOf,hb,this]
 have htr:trimS d [48,49,50,51,52,53,54,55,56,57]≠[]↔¬ d.all lC=true:=by
  rw[ne_eq,ua]
  simp only[mj,List.all_eq_true]
 rw[htr]
 constructor
 ·intro h
  unfold dj
  simp only
  rw[← hpre,if_pos h]
 ·intro h
  obtain⟨h1,h2⟩:=not_or.1 h
  have h2:=Classical.not_not.1 h2
  have hN:dj l=if l.head?=some 45 then (if fv 0 d≤9223372036854775808 then (-(fv 0 d:Int),0) else (0,3)) else (if fv 0 d≤9223372036854775807 then ((fv 0 d:Int),0) else (0,3)):=by
   unfold dj
   simp only
   rw[← hpre,if_neg h]
  have hU:parseUintB 64 d=if fv 0 d≤18446744073709551615 then .ok (fv 0 d) else .range:=by
   unfold parseUintB
   rw[if_neg h1]
   exact nG d 0 (by omega) h2
  cases l with
  |nil=>rw[hpre] at h1;simp at h1
  |cons b r=>
   by_cases hb:b=45
   ·subst hb
    have hdr:d=r:=by rw[hpre];rfl
    rw[if_pos (show (45::r).head?=some 45 from rfl)] at hN
    have hP:parseIntB 64 (45::r)=match parseUintB 64 r with
     |NumEnd.syntax=>NumEnd.syntax
     |.range=>.range
     |.ok u=>if 2^63<u then .range else .ok (-(u:Int)):=by
     unfold parseIntB
     simp
     rfl
    rw[hN,hP,← hdr,hU]
    by_cases h3:fv 0 d≤18446744073709551615
    ·rw[if_pos h3]
     simp only
     by_cases h4:fv 0 d≤9223372036854775808
     ·rw[if_neg (by omega),if_pos h4];exact .inl ⟨_,rfl,rfl⟩
     ·rw[if_pos (by omega),if_neg h4];exact .inr ⟨rfl,rfl⟩
    ·rw[if_neg h3,if_neg (by omega)];exact .inr ⟨rfl,rfl⟩
   ·have hdr:d=b::r:=by rw[hpre,if_neg (by simp[hb])]
    rw[if_neg (by simp[hb])] at hN
    have hdig:lC b=true:=by rw[hdr] at h2;simp at h2;exact h2.1
    have hbn:48≤b.toNat∧b.toNat≤57:=by simpa [lC] using hdig
    have hP:parseIntB 64 (b::r)=match parseUintB 64 (b::r) with
     |NumEnd.syntax=>NumEnd.syntax
     |.range=>.range
     |.ok u=>if 2^63≤u then .range else .ok (u:Int):=by
     have n1:¬ b.toNat=45:=by omega
     have n2:¬ b.toNat=43:=by omega
     unfold parseIntB
     simp[n1,n2]
     rfl
    rw[hN,hP,← hdr,hU]
    by_cases h3:fv 0 d≤18446744073709551615
    ·rw[if_pos h3]
     simp only
     by_cases h4:fv 0 d≤9223372036854775807
     ·rw[if_neg (by omega),if_pos h4];exact .inl ⟨_,rfl,rfl⟩
     ·rw[if_pos (by omega),if_neg h4];exact .inr ⟨rfl,rfl⟩
    ·rw[if_neg h3,if_neg (by omega)];exact .inr ⟨rfl,rfl⟩
end Go.Proofs.YtpbmihpjgjbndaaGreatDoor
