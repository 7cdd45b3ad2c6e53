import Derived.Test.YtmcnpaelaieniaaGreatDoorQX59
import Derived.Lib.SpaceUEq
import Derived.Lib.FieldsP
import Derived.Lib.SplitLaws
import Derived.Lib.ParseIntBCases
import Derived.Lib.SlTrimSet
import Derived.Test.YtmcnpaelaieniaaGreatDoorQB
import Derived.Laws.Concat
import Derived.Laws.Strings
import Derived.Laws.Strings2
import Derived.Laws.Slices
import Derived.Lib.ItoaNum
/- A part of the proof; see NOTES.md. -/
set_option linter.unusedVariables false
set_option linter.unusedSimpArgs false
namespace Go.Proofs.YtmcnpaelaieniaaGreatDoor
open Go.RowKit
theorem tJ.fall{N:aU}{left left':LI}{n:Nat}{pos:LN}(h:tJ N left n pos)(hm:∀ i,0<left'.getD i 0->0<left.getD i 0):tJ N left' n pos:=by
 refine⟨h.len,λ v q hq=>⟨(h.used v q hq).1,λ j e hj he=>?_⟩⟩;have h1:=(h.used v q hq).2 j e hj he;unfold fL at h1 ⊢;have h2:=of_decide_eq_false h1;exact HN λ hp=>h2 (hm e hp)
theorem tJ.start(N:aU)(left:LI)(n:Nat):tJ N left n (List.replicate (n+1) 0):=by
 refine⟨by simp,λ v q hq=>?_⟩;rw[GN] at hq;split at hq
 ·obtain rfl:=G0 hq;exact⟨GB _,λ j e hj=>absurd hj (by omega)⟩
 ·cases hq
theorem zE{N:aU}(hR:N.Right){w:Wk}(h:w.OK N)(hp:bH w.left<w.left.length)(i:Nat):(0<(vh N w).left.getD i 0->0<w.left.getD i 0)/\(vh N w).left.length=w.left.length:=by
 obtain⟨_,_,hmp,hP,hme⟩:=mx hR h hp
 have hW:(e7 N w).2.1.Nodup/\∀ i∈(e7 N w).2.1,i<w.left.length:=by
  have hfl:=h.flow.len
  rcases hP with ⟨_,_,h⟩|⟨_,_,h⟩|⟨_,v,h⟩<;>exact⟨h.nodup,λ i hi=>by obtain⟨r,hr,_⟩:=h.room i hi;have:=(Gv.1 hr).1;omega⟩
 have e:(vh N w).left=gS (-(e7 N w).2.2) (e7 N w).2.1 w.left:=rfl;refine⟨λ hi=>?_,by rw[e,i5]⟩;rw[e,nY hW.1 hW.2] at hi;split at hi<;>omega
theorem vN{l:LI}{j:Nat}{x:Int}(hj:j<bH l)(hx:l[j]?=some x):fL x=false:=by
 have:=II hj;rw[(Gv.1 hx).2] at this
 simpa using this
theorem yA{l m:LI}(hlen:m.length=l.length)(hm:∀ i,0<m.getD i 0->0<l.getD i 0){k:Nat}(h:∀ j x,j<k->l[j]?=some x->fL x=false):∀ j x,j<k->m[j]?=some x->fL x=false:=by
 intro j x hj hx;have hjl:j<l.length:=by have:=(Gv.1 hx).1;omega
 have h1:=h j _ hj (Gq hjl);unfold fL at h1 ⊢;have h2:=of_decide_eq_false h1;refine HN λ hp=>h2 ?_;have h3:=hm j (by rw[Gw,hx];exact hp);rw[Gw,Gq hjl] at h3;exact h3
def jd(N:aU)(w:Wk):List (Int×LN×Int):=iZ N w.size w
theorem tM{N:aU}(hR:N.Right){w:Wk}(h:w.OK N)(hp:bH w.left<w.left.length):jd N w=e7 N w::jd N (vh N w):=by
 have ha:=mx hR h hp;have hs:0<w.size:=by omega
 obtain⟨k,hk⟩:∃ k,w.size=k+1:=⟨w.size-1,by omega⟩;unfold jd;rw[hk];rw[show iZ N (k+1) w=if bH w.left<w.left.length then e7 N w::iZ N k (vh N w) else [] from rfl,if_pos hp,pO hR k (vh N w).size _ ha.1 (by omega) (GF _)]
theorem tk{N:aU}{w:Wk}(hp:¬ bH w.left<w.left.length):jd N w=[]:=by
 unfold jd
 cases w.size with
 |zero=>rfl
 |succ k=>exact if_neg hp
section
variable {X:Cx}
theorem aH.mid2{A A1 A2 R I:Heap}(ix jx:LN)(h1:Proofs.YtmcnpaelaieniaaGreatDoor.bU A ix=some A1)(h2:Proofs.YtmcnpaelaieniaaGreatDoor.bU A jx=some A2)(hn:(ix++jx).Nodup):aH X (A++(R++I)) ((A1++R)++(I++A2)):=by
 have:=aH.mid (X:=X) (R:=R++I) ix jx h1 h2 hn
 simpa [G4] using this
theorem aH.ret2{A B R I:Heap}:aH X ((A++R)++(I++B)) ((A++B)++(R++I)):=aH.perm (by
 rw[G4,G4,<- G4 R I B];exact Ip A Iq)
theorem aH.give{A R I:Heap}{c:aV}:aH X (c::(A++(R++I))) (A++(R++(I++[c]))):=aH.perm (by
 have h:(A++(R++I))++[c]=A++(R++(I++[c])):=by simp[G4]
 rw[<- h];exact (Iq (l₁:=[c]) (l₂:=A++(R++I))))
end
open Go.Lib
def oT(b:UInt8):Bool:=b.toNat==32||b.toNat==9||b.toNat==13
def gY(r:Nat):Bool:=r==32||r==9||r==13
def b7(cur:LU):LU->List (LU)
 |[]=>if cur=[] then [] else [cur]
 |b::l=>if oT b then (if cur=[] then b7 [] l else cur::b7 [] l) else b7 (cur++[b]) l
def bw(l:LU):List (LU):=b7 [] l
theorem j0:∀ (t cur r:LU),(∀ b∈t,oT b=false)->b7 cur (t++r)=b7 (cur++t) r
 |[],cur,r,_=>by simp
 |b::t,cur,r,h=>by
  rw[Hp,b7,if_neg (by rw[h b (by simp)];decide),j0 t (cur++[b]) r (λ x hx=>h x (by simp[hx])),G4];rfl
theorem wd(n b0 b1 b2 b3:Nat)(hn:1<=n):1<=(decodeN n b0 b1 b2 b3).2/\(decodeN n b0 b1 b2 b3).2<=n/\(gY (decodeN n b0 b1 b2 b3).1=true->(decodeN n b0 b1 b2 b3).2=1/\gY b0=true)/\
 (gY (decodeN n b0 b1 b2 b3).1=false->gY b0=false/\(2<=(decodeN n b0 b1 b2 b3).2->128<=b1)/\(3<=(decodeN n b0 b1 b2 b3).2->128<=b2)/\(4<=(decodeN n b0 b1 b2 b3).2->128<=b3))/\(decodeN n b0 b1 b2 b3).2<=4:=by
 have hle:=decodeN_le_n' n b0 b1 b2 b3 hn;obtain⟨c2,c3,c4,c5⟩:=decodeN_conts n b0 b1 b2 b3;have key:∀ r:Nat,gY r=true↔(r=32\/r=9\/r=13):=λ r=>by simp[gY,or_assoc]
 have key2:∀ r:Nat,gY r=false↔¬ (r=32\/r=9\/r=13):=λ r=>by rw[<- key];simp
 have h1:1<=(decodeN n b0 b1 b2 b3).2:=by
  rcases decodeN_cases n b0 b1 b2 b3 with ⟨c,e⟩|⟨_,_,_,_,e⟩|⟨_,_,_,_,_,e⟩|⟨_,e⟩|e<;>rw[e]<;>simp
 refine⟨h1,hle,λ h=>?_,λ h=>⟨?_,λ k=>?_,λ k=>?_,λ k=>?_⟩,c5⟩
 ·rw[key] at h ⊢
  rcases decodeN_cases n b0 b1 b2 b3 with ⟨c,e⟩|⟨_,_,_,_,e⟩|⟨_,_,_,_,_,e⟩|⟨c,e⟩|e
  ·rw[e] at h ⊢;exact⟨rfl,h⟩
  ·rw[e] at h;dsimp only at h;omega
  ·rw[e] at h;dsimp only at h;omega
  ·omega
  ·rw[e] at h;dsimp only at h;omega
 ·rw[key2] at h ⊢
  rcases decodeN_cases n b0 b1 b2 b3 with ⟨c,e⟩|⟨c,_,_,_,e⟩|⟨c,_,_,_,_,e⟩|⟨c,e⟩|e
  ·rw[e] at h;exact h
  ·omega
  ·omega
  ·intro hb;have:decodeN n b0 b1 b2 b3=(b0,1):=by unfold decodeN;rw[if_pos (by omega)]
   rw[this] at e;simp at e
  ·intro hb;have:decodeN n b0 b1 b2 b3=(b0,1):=by unfold decodeN;rw[if_pos (by omega)]
   rw[this] at e;simp only[Hq] at e;omega
 ·have:=(c2 k).1;omega
 ·have:=(c3 k).1;omega
 ·have:=(c4 k).1;omega
theorem qV(s:ByteArray)(i:Nat)(h:i<s.size):s.data.toList[i]?=some (s.get! i):=by
 obtain⟨⟨l⟩⟩:=s;have h':i<l.length:=h;show l[i]?=_;rw[Gq h'];simp only[ByteArray.get!,Gs];show l[i]=l.toArray[i]!;rw[getElem!_pos l.toArray i (by simpa using h')];simp
theorem uL(b:UInt8):oT b=gY b.toNat:=rfl
theorem zy(s:ByteArray)(i:Nat)(h:i<s.size):1<=(Utf8.decode s i).2/\i+(Utf8.decode s i).2<=s.size/\
 (gY (Utf8.decode s i).1=true->(Utf8.decode s i).2=1/\∃ b,s.data.toList[i]?=some b/\oT b=true)/\
 (gY (Utf8.decode s i).1=false->∀ b∈(s.data.toList.drop i).take (Utf8.decode s i).2,oT b=false):=by
 rw[decode_at];obtain⟨h1,h2,h3,h4,h5⟩:=wd (s.size-i) (s.get! i).toNat (s.get! (i+1)).toNat (s.get! (i+2)).toNat (s.get! (i+3)).toNat (by omega);refine⟨h1,by omega,λ hs=>⟨(h3 hs).1,_,qV s i h,by rw[uL];exact (h3 hs).2⟩,λ hs b hb=>?_⟩;obtain⟨g0,g1,g2,g3⟩:=h4 hs;obtain⟨j,hj,e⟩:=IB hb;rw[GV,Ht] at hj;rw[Iz,List.getElem_drop] at e;have hsz:s.data.toList.length=s.size:=(size_eq s).symm;have hk:s.data.toList[i+j]?=some b:=by rw[Gq (by omega),e]
 have hg:=qV s (i+j) (by omega);rw[hg] at hk;obtain rfl:=G0 hk;have key2:∀ r:Nat,128<=r->gY r=false:=λ r hr=>by simp[gY];omega
 rw[uL]
 match j,hj with
 |0,_=>exact g0
 |1,hj=>exact key2 _ (g1 (by omega))
 |2,hj=>exact key2 _ (g2 (by omega))
 |3,hj=>exact key2 _ (g3 (by omega))
 |j+4,hj=>omega
def kT(s:ByteArray)(x:Nat×Nat):LU:=(s.extract x.1 x.2).data.toList
theorem zd(s:ByteArray):∀ (f pos:Nat) (st:Option Nat) (acc:List (Nat×Nat)),s.size<=pos+f->pos<=s.size->(∀ a,st=some a->a<pos)->
 (closeSpans s (spansFromP gY s f pos st acc)).map (kT s)=acc.map (kT s)++b7 (openPiece s.data.toList st pos) (s.data.toList.drop pos):=by
 have hsz:s.data.toList.length=s.size:=(size_eq s).symm
 have fin:∀ (f pos:Nat) (st:Option Nat) (acc:List (Nat×Nat)),pos=s.size->(∀ a,st=some a->a<pos)->
  (closeSpans s (spansFromP gY s f pos st acc)).map (kT s)=acc.map (kT s)++b7 (openPiece s.data.toList st pos) (s.data.toList.drop pos):=by
  intro f pos st acc hp hst;rw[spansFromP_end gY s f pos st acc (by omega),List.drop_eq_nil_of_le (by omega)]
  cases st with
  |none=>simp[closeSpans,b7,openPiece]
  |some a=>
   have hlt:=hst a rfl;have hne:pieceU s.data.toList a pos≠[]:=pieceU_ne _ _ _ hlt (by omega);have hpc:kT s (a,s.size)=pieceU s.data.toList a pos:=by unfold kT pieceU;rw[extract_eq,hp]
   simp only[closeSpans,b7,openPiece,hne,↓reduceIte,GX,GG,Hy,hpc]
 intro f
 induction f with
 |zero=>exact λ pos st acc h1 h2 h3=>fin 0 pos st acc (by omega) h3
 |succ f ih=>
  intro pos st acc h1 h2 h3;by_cases hlt:pos<s.size
  ·obtain⟨d1,d2,d3,d4⟩:=zy s pos hlt
   have hsplit:s.data.toList.drop pos=(s.data.toList.drop pos).take (Utf8.decode s pos).2++s.data.toList.drop (pos+(Utf8.decode s pos).2):=by
    rw[<- List.drop_drop,Hs]
   unfold spansFromP;rw[if_pos hlt]
   cases hs:gY (Utf8.decode s pos).1 with
   |true=>
    obtain⟨e1,b,hb,hbs⟩:=d3 hs
    have hdrop:s.data.toList.drop pos=b::s.data.toList.drop (pos+1):=by
     obtain⟨hl,e⟩:=Gv.1 hb;rw[Hf hl,e]
    rw[if_pos rfl,hdrop]
    cases st with
    |none=>
     simp only;rw[ih _ none acc (by omega) (by omega) (λ a h=>by cases h),e1];simp[openPiece,b7,hbs]
    |some a=>
     have hla:=h3 a rfl;have hne:pieceU s.data.toList a pos≠[]:=pieceU_ne _ _ _ hla (by omega);simp only;rw[ih _ none _ (by omega) (by omega) (λ a h=>by cases h),e1];have hpc:kT s (a,pos)=pieceU s.data.toList a pos:=by unfold kT pieceU;rw[extract_eq]
     simp only[openPiece,b7,hbs,↓reduceIte,hne,GX,GG,Hy,G4,List.singleton_append,hpc]
   |false=>
    have hall:=d4 hs;rw[if_neg (by decide)]
    have hw:∀ cur,b7 cur (s.data.toList.drop pos)=b7 (cur++(s.data.toList.drop pos).take (Utf8.decode s pos).2) (s.data.toList.drop (pos+(Utf8.decode s pos).2)):=by
     intro cur
     conv=>lhs;rw[hsplit]
     exact j0 _ _ _ hall
    cases st with
    |none=>
     simp only;rw[ih _ (some pos) acc (by omega) (by omega) (λ a h=>by obtain rfl:=G0 h;omega),hw]
     congr 2
     show pieceU _ _ _=[]++_;unfold pieceU;rw[Hz,Hb]
    |some a=>
     have hla:=h3 a rfl;simp only;rw[ih _ (some a) acc (by omega) (by omega) (λ a' h=>by obtain rfl:=G0 h;omega),hw]
     congr 2
     exact (pieceU_grow _ _ _ _ (by omega)).symm
  ·exact fin (f+1) pos st acc (by omega) h3
theorem qM(s:ByteArray):(goFieldsP gY s).map (·.data.toList)=bw s.data.toList:=by
 unfold goFieldsP spansOfP bw;rw[HQ];have:=zd s s.size 0 none [] (by omega) (by omega) (λ a h=>by cases h);rw[Hy,Hz,List.drop_zero] at this;exact this
def bZ(c:UInt8)(cur:LU):LU->List (LU)
 |[]=>[cur]
 |b::l=>if b=c then cur::bZ c [] l else bZ c (cur++[b]) l
def aT(l:LU):List (LU):=if l=[] then [] else bZ 10 [] (trimSuffix l [10])
theorem ke(c:UInt8):∀ (l cur:LU),(∀ b∈l,b≠c)->bZ c cur l=[cur++l]
 |[],cur,_=>by simp[bZ]
 |b::l,cur,h=>by rw[bZ,if_neg (h b (by simp)),ke c l _ (λ x hx=>h x (by simp[hx])),G4];rfl
theorem nu(c:UInt8):∀ (l cur r:LU),(∀ b∈l,b≠c)->bZ c cur (l++c::r)=(cur++l)::bZ c [] r
 |[],cur,r,_=>by simp[bZ]
 |b::l,cur,r,h=>by rw[Hp,bZ,if_neg (h b (by simp)),nu c l _ r (λ x hx=>h x (by simp[hx])),G4];rfl
theorem rv(c:UInt8):∀ (k:Nat) (s:ByteArray),countB s ⟨#[c]⟩=k->(splitB ⟨#[c]⟩ 0 k s).map (·.data.toList)=bZ c [] s.data.toList
 |k,s,hk=>by
  rcases indexB_cases s ⟨#[c]⟩ with h|⟨i,h,hi⟩
  ·have h':indexByte s.data.toList c=-1:=by rw[← index_one];exact h
   rw[splitB_miss _ _ _ _ h,ke c _ _ (λ b hb e=>by
    obtain⟨j,hj,e2⟩:=IB hb;exact indexByte_none h' j (by rw[Gq hj,e2,e]))]
   simp
  ·have h':indexByte s.data.toList c=i:=by rw[← index_one];exact h
   obtain⟨h1,h2⟩:=indexByte_some h';have hk2:=countB_hit s ⟨#[c]⟩ i (GF 1) h;have hsz1:(⟨#[c]⟩:ByteArray).size=1:=rfl;rw[hsz1] at hk2;obtain⟨k',rfl⟩:∃ k',k=k'+1:=⟨countB (s.extract (i+1) s.size) ⟨#[c]⟩,by omega⟩;have ih:=rv c k' (s.extract (i+1) s.size) (by omega);have hl:i<s.data.toList.length:=(Gv.1 h1).1
   have hdrop:s.data.toList=s.data.toList.take i++c::s.data.toList.drop (i+1):=by
    have e:s.data.toList.drop i=c::s.data.toList.drop (i+1):=by
     rw[Hf hl,(Gv.1 h1).2]
    rw[<- e,Hs]
   rw[splitB_hit _ _ _ _ i h,hsz1,GG,ih,extract_to_end]
   conv=>rhs;rw[hdrop]
   rw[nu c _ _ _ (λ b hb e=>by
    obtain⟨j,hj,e2⟩:=IB hb;rw[GV] at hj;rw[Iz] at e2;exact h2 j (by omega) (by rw[Gq (by omega),e2,e]))]
   rw[Hz,extract_eq];simp
def nW(b:UInt8):Bool:=decide (48<=b.toNat/\b.toNat<=57)
def hO(acc:Nat)(l:LU):Nat:=l.foldl (λ n b=>n*10+(b.toNat-48)) acc
def dj(l:LU):Int×Int:=
 let neg:=l.head?=some 45
 let d:=if neg then l.drop 1 else l
 if d=[]\/¬ d.all nW then (0,2) else
 if neg then (if hO 0 d<=9223372036854775808 then (-(hO 0 d:Int),0) else (0,3))
 else (if hO 0 d<=9223372036854775807 then ((hO 0 d:Int),0) else (0,3))
theorem wW:∀ (l:LU) (acc:Nat),acc<=hO acc l
 |[],_=>GF _
 |b::l,acc=>by
  have:=wW l (acc*10+(b.toNat-48));show acc<=hO (acc*10+(b.toNat-48)) l;omega
theorem qZ:∀ (l:LU) (acc:Nat),acc<=18446744073709551615->l.all nW=true->parseUintM 18446744073709551615 acc l=if hO acc l<=18446744073709551615 then .ok (hO acc l) else .range
 |[],acc,h,_=>by rw[if_pos (by exact h)];rfl
 |b::l,acc,h,hd=>by
  rw[Iw,Hh] at hd;have hb:48<=b.toNat/\b.toNat<=57:=by simpa [nW] using hd.1
  have hge:=wW l (acc*10+(b.toNat-48));have hv:hO acc (b::l)=hO (acc*10+(b.toNat-48)) l:=rfl;unfold parseUintM;rw[if_pos hb,hv];by_cases h1:1844674407370955162<=acc
  ·rw[if_pos h1,if_neg (by omega)]
  ·rw[if_neg h1];by_cases h2:18446744073709551615<acc*10+(b.toNat-48)
   ·rw[if_pos h2,if_neg (by omega)]
   ·rw[if_neg h2];exact qZ l _ (by omega) hd.2
theorem yz(cs:LU):∀ l:LU,trimS l cs=[]↔∀ b∈l,cs.contains b=true:=by
 have hd:∀ l:LU,l.dropWhile (cs.contains ·)=[]↔∀ b∈l,cs.contains b=true:=by
  intro l
  induction l with
  |nil=>simp
  |cons b l ih=>
   rw[IY]
   cases hb:cs.contains b with
   |true=>rw[if_pos rfl,ih];simp only[GD,forall_eq_or_imp,hb,true_and]
   |false=>
    rw[if_neg (by decide)];exact⟨λ h=>by simp at h,λ h=>by rw[h b (by simp)] at hb;cases hb⟩
 intro l;unfold trimS trimLeftS trimRightS;rw[hd]
 constructor
 ·intro h
  have:l.reverse.dropWhile (cs.contains ·)=[]:=by
   cases hr:l.reverse.dropWhile (cs.contains ·) with
   |nil=>rfl
   |cons x r=>
    have h1:=h x (by rw[hr];simp);have h2:=List.head?_dropWhile_not (cs.contains ·) l.reverse;rw[hr] at h2;simp only[I1] at h2;rw[h1] at h2;simp at h2
  intro b hb;exact (hd l.reverse).1 this b (by simpa using hb)
 ·intro h b hb
  exact h b (by
   have:=List.mem_reverse.1 hb
   simpa using (List.dropWhile_sublist (cs.contains ·)).subset this)
theorem po(b:UInt8):([48,49,50,51,52,53,54,55,56,57]:LU).contains b=nW b:=by
 have key:∀ i:Fin 256,([48,49,50,51,52,53,54,55,56,57]:LU).contains (UInt8.ofNat i.val)=nW (UInt8.ofNat i.val):=by decide+kernel
 have:=key ⟨b.toNat,b.toNat_lt⟩
 simpa using this
theorem Ee(l:LU)(d:LU)(hd:d=trimPrefix l [45]):
 (d=[]\/trimS d [48,49,50,51,52,53,54,55,56,57]≠[]->dj l=(0,2))/\
 (¬ (d=[]\/trimS d [48,49,50,51,52,53,54,55,56,57]≠[])->(∃ v,parseIntB 64 l=.ok v/\dj l=(v,0))\/(parseIntB 64 l=.range/\dj l=(0,3))):=by
 have hpre:d=if l.head?=some 45 then l.drop 1 else l:=by
  rw[hd];unfold trimPrefix hasPrefix
  cases l with
  |nil=>simp
  |cons b l=>
   by_cases hb:b=45
   ·subst hb;simp[List.isPrefixOf]
   ·have:¬ (45:UInt8)=b:=λ e=>hb e.symm;simp[List.isPrefixOf,hb,this]
 have htr:trimS d [48,49,50,51,52,53,54,55,56,57]≠[]↔¬ d.all nW=true:=by
  rw[ne_eq,yz];simp only[po,List.all_eq_true]
 rw[htr]
 constructor
 ·intro h;unfold dj;simp only;rw[<- hpre,if_pos h]
 ·intro h;obtain⟨h1,h2⟩:=not_or.1 h;have h2:=GK.1 h2
  have hN:dj l=if l.head?=some 45 then (if hO 0 d<=9223372036854775808 then (-(hO 0 d:Int),0) else (0,3)) else (if hO 0 d<=9223372036854775807 then ((hO 0 d:Int),0) else (0,3)):=by
   unfold dj;simp only;rw[<- hpre,if_neg h]
  have hU:parseUintB 64 d=if hO 0 d<=18446744073709551615 then .ok (hO 0 d) else .range:=by
   unfold parseUintB;rw[if_neg h1];exact qZ d 0 (by omega) h2
  cases l with
  |nil=>rw[hpre] at h1;simp at h1
  |cons b r=>
   by_cases hb:b=45
   ·subst hb;have hdr:d=r:=by rw[hpre];rfl
    rw[if_pos (show (45::r).head?=some 45 from rfl)] at hN
    have hP:parseIntB 64 (45::r)=match parseUintB 64 r with
     |NumEnd.syntax=>NumEnd.syntax
     |.range=>.range
     |.ok u=>if 2^63<u then .range else .ok (-(u:Int)):=by
     unfold parseIntB;simp;rfl
    rw[hN,hP,<- hdr,hU];by_cases h3:hO 0 d<=18446744073709551615
    ·rw[if_pos h3];simp only;by_cases h4:hO 0 d<=9223372036854775808
     ·rw[if_neg (by omega),if_pos h4];exact .inl ⟨_,rfl,rfl⟩
     ·rw[if_pos (by omega),if_neg h4];exact .inr ⟨rfl,rfl⟩
    ·rw[if_neg h3,if_neg (by omega)];exact .inr ⟨rfl,rfl⟩
   ·have hdr:d=b::r:=by rw[hpre,if_neg (by simp[hb])]
    rw[if_neg (by simp[hb])] at hN;have hdig:nW b=true:=by rw[hdr] at h2;simp at h2;exact h2.1
    have hbn:48<=b.toNat/\b.toNat<=57:=by simpa [nW] using hdig
    have hP:parseIntB 64 (b::r)=match parseUintB 64 (b::r) with
     |NumEnd.syntax=>NumEnd.syntax
     |.range=>.range
     |.ok u=>if 2^63<=u then .range else .ok (u:Int):=by
     have n1:¬ b.toNat=45:=by omega
     have n2:¬ b.toNat=43:=by omega
     unfold parseIntB;simp[n1,n2];rfl
    rw[hN,hP,<- hdr,hU];by_cases h3:hO 0 d<=18446744073709551615
    ·rw[if_pos h3];simp only;by_cases h4:hO 0 d<=9223372036854775807
     ·rw[if_neg (by omega),if_pos h4];exact .inl ⟨_,rfl,rfl⟩
     ·rw[if_pos (by omega),if_neg h4];exact .inr ⟨rfl,rfl⟩
    ·rw[if_neg h3,if_neg (by omega)];exact .inr ⟨rfl,rfl⟩
def dF(l:LU):Value:=.string ⟨l.toArray⟩
theorem cC(l:LU):(⟨l.toArray⟩:ByteArray).size=l.length:=by show l.toArray.size=_;simp
theorem nb(l:LU):(⟨l.toArray⟩:ByteArray).toList=l:=by rw[ByteArray.toList_eq]
theorem de(l m:LU):((⟨l.toArray⟩:ByteArray).toList==(⟨m.toArray⟩:ByteArray).toList)=di (l=m):=by
 rw[nb,nb];by_cases h:l=m
 ·rw[aR h,h];simp
 ·rw[a6 h];simpa using h
section
variable {X:Cx} {E:Env} {H:Heap}
theorem gA{o:Oper}{t t':Nat}{x y:Operand}{l m:LU}(ho:o.op=.binOp .add t x y t')(hx:val E x=some (dF l))(hy:val E y=some (dF m))(h:l.length+m.length<=9223372036854775807):gz X o E H (dF (l++m)):=by
 intro a w hA hH;have h1:=run_string_add_sum (P:=Tryz.prog) (w:=w) ⟨l.toArray⟩ ⟨m.toArray⟩ (by rw[cC,cC];exact h)
 have e:(⟨l.toArray⟩:ByteArray)++⟨m.toArray⟩=⟨(l++m).toArray⟩:=by
  apply ByteArray.ext
  rw[ByteArray.data_append];simp
 rw[e] at h1;unfold dF at*;simp[execOp,ho,hA.val hx,hA.val hy,oJ,h1,binOp]
theorem xH{o:Oper}{t t':Nat}{x y:Operand}{l m:LU}(ho:o.op=.binOp .eql t x y t')(hx:val E x=some (dF l))(hy:val E y=some (dF m)):gz X o E H (.bool (di (l=m))):=by
 have h:gz X o E H (.bool ((⟨l.toArray⟩:ByteArray).toList==(⟨m.toArray⟩:ByteArray).toList)):=jE (by rw[ho];simp only[oQ,hx,hy,dF];rfl);rw[de] at h;exact h
theorem w5{o:Oper}{t t':Nat}{x y:Operand}{l m:LU}(ho:o.op=.binOp .neq t x y t')(hx:val E x=some (dF l))(hy:val E y=some (dF m)):gz X o E H (.bool (di (l≠m))):=by
 have h:gz X o E H (.bool (!((⟨l.toArray⟩:ByteArray).toList==(⟨m.toArray⟩:ByteArray).toList))):=jE (by rw[ho];simp only[oQ,hx,hy,dF];rfl);rw[de] at h
 have e:(!(di (l=m)))=di (l≠m):=by
  by_cases h:l=m
  ·rw[aR h,a6 (λ k=>k h)];rfl
  ·rw[a6 h,aR h];rfl
 rw[e] at h;exact h
theorem wS{o:Oper}{t s1 s2 i:Nat}{x ix:Operand}{l:LU}{b:UInt8}{k:IntKind}{z:Option Value}(ho:o.op=.index t x ix)(hx:val E x=some (dF l))(hi:val E ix=some (.int k (i:Int)))
 (ht:tab t=some ⟨.string,s1,s2,z⟩) (hb:l[i]?=some b):gz X o E H (.int .u8 (b.toNat:Int)):=by
 intro a w hA hH;have hlt:=(Gv.1 hb).1;have hsz:=cC l
 have hg:(⟨l.toArray⟩:ByteArray)[i]?=some b:=by
  rw[getElem?_pos _ _ (by rw[hsz];exact hlt)];show some (l.toArray[i])=_;rw[<- hb,Gq hlt];simp
 unfold dF at hx;simp[execOp,ho,hA.val hx,hA.val hi,Instr.index,asIntOf,run_underlying (iA ht),hg]
theorem BA{o:Oper}{t s1 s2 i:Nat}{x lo:Operand}{l:LU}{k:IntKind}{z:Option Value}(ho:o.op=.slice t x (some lo) none none)(hx:val E x=some (dF l))(hlo:val E lo=some (.int k (i:Int)))
 (ht:tab t=some ⟨.string,s1,s2,z⟩) (hi:i<=l.length):gz X o E H (dF (l.drop i)):=by
 intro a w hA hH;have h1:=iA ht;have h2:=run_slice_string_l (P:=Tryz.prog) (w:=w) (t:=t) (s:=⟨l.toArray⟩) h1 k (i:Int) (by omega) (by rw[cC];omega);unfold dF at hx;simp[execOp,ho,hA.val hx,hA.val hlo,run_sliceAt_string w t _ _ _ _ h1,h2,dF];rw[Go.Lib.extract_eq,Hr (by rw[Ht];simp[cC])]
end
theorem Fn.of_same{f:FuncId}{args:LV_}{H:Heap}{v:Value}{R:Value->Heap->Prop}(h:∀ w,Calls Tryz.prog f args.toArray w λ e w'=>e=.returned v/\w'=w)(hR:R v []):Fn f args [] H R:=λ w hw=>
 (h w).mono λ e w' ⟨he,hww⟩=>⟨v,[],he,(by subst hww;exact hw.mono (λ c hc=>by cases hc) List.Pairwise.nil),hR⟩
theorem lu{w w':World}{H:Heap}(hw:cO w [] w H)(hb:Below w.heap.size w w'):cO w [] w' []:=
 ⟨hb.os,hb.tape,hb.output,hb.size,λ k hk _=>hb.block k hk,λ c hc=>absurd hc GP,λ c hc=>absurd hc GP,List.Pairwise.nil⟩
theorem Fn.of_below{f:FuncId}{args:LV_}{H:Heap}{R:Value->Heap->Prop}(h:∀ w,cO w [] w H->Calls Tryz.prog f args.toArray w λ e w'=>∃ v,e=.returned v/\Below w.heap.size w w'/\R v []):Fn f args [] H R:=λ w hw=>
 (h w hw).mono λ e w' ⟨v,he,hb,hR⟩=>⟨v,[],he,lu hw hb,hR⟩
open Go.Lib
theorem tX{u:Nat}(h:u<10):decDigits u=[UInt8.ofNat (48+u)]:=by rw[decDigits,dif_pos h]
theorem wI{u:Nat}(h:10<=u):decDigits u=decDigits (u/10)++[UInt8.ofNat (48+u%10)]:=by rw[decDigits,dif_neg (by omega)]
theorem wE{P:Nat->Prop}(h1:∀ u,u<10->P u)(h2:∀ u,10<=u->P (u/10)->P u)(u:Nat):P u:=by
 induction u using Nat.strongRecOn with
 |_ u ih=>
  by_cases h:u<10
  ·exact h1 u h
  ·exact h2 u (by omega) (ih _ (by omega))
theorem Ae(acc:Nat)(l m:LU):hO acc (l++m)=hO (hO acc l) m:=by unfold hO;rw[Iy]
theorem pd{k:Nat}(h:k<10):(UInt8.ofNat (48+k)).toNat=48+k:=by
 rw[UInt8.toNat_ofNat'];omega
theorem zQ(u:Nat):hO 0 (decDigits u)=u:=by
 induction u using wE with
 |h1 u h=>rw[tX h];show 0*10+((UInt8.ofNat (48+u)).toNat-48)=u;rw[pd h];omega
 |h2 u h ih=>rw[wI h,Ae,ih];show u/10*10+((UInt8.ofNat (48+u%10)).toNat-48)=u;rw[pd (by omega)];omega
theorem sx(u:Nat):(decDigits u).all nW=true:=by
 induction u using wE with
 |h1 u h=>rw[tX h];simp only[Iw,List.all_nil,Bool.and_true];unfold nW;rw[pd h];simp;omega
 |h2 u h ih=>rw[wI h,List.all_append,ih];simp only[Iw,List.all_nil,Bool.and_true,Bool.true_and];unfold nW;rw[pd (by omega)];simp;omega
theorem tC(u:Nat):decDigits u≠[]:=by
 by_cases h:u<10
 ·rw[tX h];simp
 ·rw[wI (by omega)];simp
theorem uU(u:Nat):∀ k,u<10^k->1<=k->(decDigits u).length<=k:=by
 induction u using wE with
 |h1 u h=>intro k _ hk;rw[tX h];simpa using hk
 |h2 u h ih=>
  intro k hk h1
  match k,h1 with
  |1,_=>omega
  |k+2,_=>
   rw[wI h,Gx];have:=ih (k+1) (by rw[Nat.pow_succ] at hk;omega) (by omega);simp;omega
theorem B1(n:Int)(h:-9223372036854775808<=n/\n<=9223372036854775807):1<=(itoa n).length/\(itoa n).length<=20:=by
 unfold itoa;by_cases hn:n<0
 ·rw[if_pos hn];have:=uU n.natAbs 19 (by omega) (by omega);simp;omega
 ·rw[if_neg hn];have:=uU n.toNat 19 (by omega) (by omega);have:=Hc.2 (tC n.toNat);omega
theorem qC(n:Int)(h:-9223372036854775808<=n/\n<=9223372036854775807):dj (itoa n)=(n,0):=by
 unfold itoa;by_cases hn:n<0
 ·rw[if_pos hn];unfold dj;simp only[I1,↓reduceIte,List.drop_succ_cons,List.drop_zero];rw[if_neg (by rw[sx];simp[tC]),zQ,if_pos (by omega)];simp;omega
 ·rw[if_neg hn]
  have h45:¬ (decDigits n.toNat).head?=some 45:=by
   intro e;have h1:=sx n.toNat
   cases hd:decDigits n.toNat with
   |nil=>exact tC _ hd
   |cons b r=>
    rw[hd] at e h1;simp only[I1,Gs] at e;subst e;rw[Iw,Hh] at h1;exact absurd h1.1 (by decide)
  unfold dj;simp only;rw[if_neg h45,if_neg h45,if_neg (by rw[sx];simp[tC]),zQ,if_pos (by omega)];simp;omega
theorem i6(c:UInt8):∀ (l cur:LU),(bZ c cur l).length=l.count c+1
 |[],cur=>rfl
 |b::l,cur=>by
  unfold bZ;by_cases h:b=c
  ·rw[if_pos h,Gz,i6 c l [],h,List.count_cons_self]
  ·rw[if_neg h,i6 c l _,List.count_cons_of_ne (λ e=>h e)]
theorem i4(c:UInt8):∀ (l cur r:LU),bZ c cur (l++c::r)=bZ c cur l++bZ c [] r
 |[],cur,r=>by simp[bZ]
 |b::l,cur,r=>by
  rw[Hp];have e1:bZ c cur (b::(l++c::r))=if b=c then cur::bZ c [] (l++c::r) else bZ c (cur++[b]) (l++c::r):=rfl
  have e2:bZ c cur (b::l)=if b=c then cur::bZ c [] l else bZ c (cur++[b]) l:=rfl
  rw[e1,e2];by_cases h:b=c
  ·rw[if_pos h,if_pos h,i4 c l [] r];rfl
  ·rw[if_neg h,if_neg h,i4 c l _ r]
theorem y9(c:UInt8)(m:LU):trimSuffix (m++[c]) [c]=m:=by
 unfold trimSuffix hasSuffix;have:([c]:LU).isSuffixOf (m++[c])=true:=List.isSuffixOf_iff_suffix.2 ⟨m,rfl⟩;rw[if_pos this];simp
theorem xO{c:UInt8}{l:LU}(h:l.getLast?≠some c):trimSuffix l [c]=l:=by
 unfold trimSuffix hasSuffix;rw[if_neg];intro e;obtain⟨m,rfl⟩:=List.isSuffixOf_iff_suffix.1 e;exact h (by simp)
theorem ip(m:LU):aT (m++[10])=bZ 10 [] m:=by
 unfold aT;rw[if_neg (by simp),y9]
theorem ot{l:LU}(hne:l≠[])(h:l.getLast?≠some 10):aT l=bZ 10 [] l:=by
 unfold aT;rw[if_neg hne,xO h]
theorem pJ(l:LU)(c:UInt8):l=[]\/(∃ m,l=m++[c])\/(l≠[]/\l.getLast?≠some c):=by
 by_cases h:l=[]
 ·exact .inl h
 ·by_cases h2:l.getLast?=some c
  ·exact .inr (.inl ⟨_,(List.getLast?_eq_some_iff.1 h2).choose_spec⟩)
  ·exact .inr (.inr ⟨h,h2⟩)
theorem yj(s t:LU):aT (s++10::t)=aT (s++[10])++aT t:=by
 rw[ip]
 rcases pJ t 10 with rfl|⟨m,rfl⟩|⟨h1,h2⟩
 ·rw[ip];simp[aT]
 ·rw[ip,show s++10::(m++[10])=(s++10::m)++[10] by simp,ip,i4]
 ·have hl:(s++10::t).getLast?=t.getLast?:=by
   rw[show s++10::t=(s++[10])++t by simp,Hd]
   cases ht:t.getLast? with
   |none=>exact absurd (List.getLast?_eq_none_iff.1 ht) h1
   |some x=>rfl
  rw[ot h1 h2,ot (by simp) (by rw[hl];exact h2),i4]
theorem zt(l:LU):(aT l).length=l.count 10+(if l≠[]/\l.getLast?≠some 10 then 1 else 0):=by
 rcases pJ l 10 with rfl|⟨m,rfl⟩|⟨h1,h2⟩
 ·rfl
 ·rw[ip,i6,if_neg (by simp),List.count_append];simp
 ·rw[ot h1 h2,i6,if_pos ⟨h1,h2⟩]
theorem kx{b:UInt8}(hb:oT b=true):∀ (s cur t:LU),b7 cur (s++b::t)=b7 cur s++b7 [] t
 |[],cur,t=>by
  rw[Hz,b7,b7,if_pos hb];by_cases h:cur=[]
  ·rw[if_pos h,if_pos h];rfl
  ·rw[if_neg h,if_neg h];rfl
 |x::s,cur,t=>by
  rw[Hp,b7,b7];by_cases hx:oT x=true
  ·rw[if_pos hx,if_pos hx,kx hb s [] t];by_cases h:cur=[]
   ·rw[if_pos h,if_pos h]
   ·rw[if_neg h,if_neg h];rfl
  ·rw[if_neg hx,if_neg hx,kx hb s _ t]
theorem jm{b:UInt8}(hb:oT b=true)(s t:LU):bw (s++b::t)=bw s++bw t:=kx hb s [] t
end Go.Proofs.YtmcnpaelaieniaaGreatDoor
