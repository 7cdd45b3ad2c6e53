
/- cover.Of: the search from the free nodes of the left side. -/
import Derived.Test.YtdhenmmmkdhonaaCovP
set_option linter.unusedVariables false
set_option linter.unusedSimpArgs false
namespace Go.Proofs.Ytdhenmmmkdhonaa
open Go.RowKit
theorem Walked.mark {ends : Nat → List Int} {back : List Int} {l r l' r' : List Bool} {m m' : Bool} {w : Nat} (h : Walked ends back l (r.set w true) m l' r' m') (hw : w < r.length) (h0 : back.getD w 0 = 0 → m' = true) (h1 : back.getD w 0 ≠ 0 → l'[(back.getD w 0).toNat]? = some true) : Walked ends back l r m l' r' m':=by
  refine ⟨h.ll,by rw [h.rl,List.length_set],h.lm,fun u hu=>h.rm u ?_,h.mm,h.newL,fun u hu hn=>?_⟩
  · by_cases e : w = u
    · subst e; exact List.getElem?_set_self hw
    · rw [List.getElem?_set_ne e]; exact hu
  · by_cases e : w = u
    · subst e; exact ⟨h0,h1⟩
    · exact h.newR u hu (by rw [List.getElem?_set_ne e]; exact hn)
structure WK where
  p15 : Nat
  p7 : Nat
  p16 : Nat
  p11 : Nat
  p17 : Nat
  p18 : Nat
  gl : Nat
  gr : Nat
  gb : Nat
  ge : Nat
  nl : Nat
  nr : Nat
  rows : List Row
  back : List Int
def WK.fn (K : WK) : Value:=.func (.func 34) #[] #[.pointer (some ⟨K.p15,0,none⟩),.pointer (some ⟨K.p7,0,none⟩),.pointer (some ⟨K.p16,0,none⟩),.pointer (some ⟨K.p11,0,none⟩),.pointer (some ⟨K.p17,0,none⟩),.pointer (some ⟨K.p18,0,none⟩)]
def ckH (K : WK) (l r : List Bool) (m : Bool) : Heap :=
  [blk K.p15 77 [.slice (some ⟨K.gl,0,none⟩) (K.nl + 1) (K.nl + 1)],blk K.p7 76 [.slice (some ⟨K.ge,0,none⟩) (K.nl + 1) (K.nl + 1)],blk K.p16 77 [.slice (some ⟨K.gr,0,none⟩) (K.nr + 1) (K.nr + 1)],blk K.p11 36 [.slice (some ⟨K.gb,0,none⟩) (K.nr + 1) (K.nr + 1)],blk K.p17 4 [.bool m],blk K.p18 78 [K.fn],
    .own (.slice (some ⟨K.gl,0,none⟩) (K.nl + 1) (K.nl + 1)) 4 1 (K.nl + 1) (bools l),.own (.slice (some ⟨K.gr,0,none⟩) (K.nr + 1) (K.nr + 1)) 4 1 (K.nr + 1) (bools r),.own (.slice (some ⟨K.gb,0,none⟩) (K.nr + 1) (K.nr + 1)) 3 1 (K.nr + 1) (ints K.back),.own (.slice (some ⟨K.ge,0,none⟩) (K.nl + 1) (K.nl + 1)) 36 1 (K.nl + 1) (K.rows.map rowV)] ++ K.rows.map (rowC 3)
structure WK.OK (K : WK) (ends : Nat → List Int) : Prop where
  nl : K.nl ≤ 200
  nr : K.nr ≤ 200
  rows : K.rows.length = K.nl + 1
  row : ∀ (v : Nat) (row : Row),K.rows[v]? = some row → row.l = ends v
  len : ∀ v,(ends v).length ≤ 1500
  ends : ∀ v,∀ w ∈ ends v,1 ≤ w ∧ w ≤ K.nr
  back : ∀ w,w ≤ K.nr → ∃ y : Nat,K.back[w]? = some (y : Int) ∧ y ≤ K.nl
structure CWS where
  i : Nat
  l : List Bool
  r : List Bool
  m : Bool
set_option maxHeartbeats 1000000 in
theorem walk_fn (K : WK) (ends : Nat → List Int) (hK : K.OK ends) (AL AR : Nat → Prop) (hAR : ∀ v w, AL v → w ∈ ends v → AR w.toNat) (hAL : ∀ w : Nat, AR w → K.back.getD w 0 ≠ 0 → AL (K.back.getD w 0).toNat) :
    ∀ (n : Nat) (l r : List Bool) (m : Bool) (v : Nat),l.count false ≤ n → l.length = K.nl + 1 → r.length = K.nr + 1 → l[v]? = some false → AL v → Snd AL AR K.back l r m →
    Fn 34 [.int .i64 (v : Int),.pointer (some ⟨K.p15,0,none⟩),.pointer (some ⟨K.p7,0,none⟩),.pointer (some ⟨K.p16,0,none⟩),.pointer (some ⟨K.p11,0,none⟩),.pointer (some ⟨K.p17,0,none⟩),.pointer (some ⟨K.p18,0,none⟩)] (mines (ckH K l r m)) ([] ++ ckH K l r m)
      fun _ H'=>∃ l' r' m',H' = ckH K l' r' m' ∧ Walked ends K.back l r m l' r' m' ∧ Snd AL AR K.back l' r' m' ∧ l'[v]? = some true:=by
  intro n
  induction n with
  | zero =>
    intro l r m v hc _ _ hv
    have : 0 < l.count false:=List.count_pos_iff.2 (List.mem_of_getElem? hv)
    omega
  | succ n ih =>
    intro l r m v hc hll hrl hv hav hS
    have hvl : v < K.nl + 1:=by rw [← hll]; exact (List.getElem?_eq_some_iff.1 hv).1
    have hnl:=hK.nl
    have hnr:=hK.nr
    obtain ⟨row,hrow⟩ : ∃ row,K.rows[v]? = some row:=⟨_,List.getElem?_eq_getElem (by rw [hK.rows]; exact hvl)⟩
    have hrow1:=hK.row v row hrow
    have hlen:=hK.len v
    rw [← hrow1] at hlen
    have hrx:=List.getElem?_map (f:=rowV) (l:=K.rows) (i:=v)
    rw [hrow] at hrx
    generalize hM : mines _ = M
    refine Fn_of Try.func34 rfl rfl fun w0=>?_
    (repeat' (first | refine J_seq ?_ | refine J_skip ?_ | refine J_yes rfl ?_ | refine J_no rfl ?_))
    refine J_region ?_
    refine JL_run [] rfl ?_
    refine JL_val [] (OpV_blk 0 rfl rfl rfl rfl) rfl ?_
    refine JL_run [] rfl ?_
    refine JL_val [] (idx1z rfl rfl rfl rfl rfl hvl) rfl ?_
    refine JL_store_own 6 rfl rfl rfl rfl (put_bools rfl (by omega)) [] rfl ?_
    refine JL_nil ?_
    refine J_fit (K:=ckH K (l.set v true) r m) Fit.refl ?_
    (repeat' (first | refine J_seq ?_ | refine J_skip ?_ | refine J_yes rfl ?_ | refine J_no rfl ?_))
    refine J_region ?_
    refine JL_run [] rfl ?_
    refine JL_val [] (OpV_blk 1 rfl rfl rfl rfl) rfl ?_
    refine JL_run [] rfl ?_
    refine JL_val [] (idx1z rfl rfl rfl rfl rfl hvl) rfl ?_
    refine JL_val [] (OpV_own (v:=rowV row) 9 rfl rfl rfl hrx) rfl ?_
    refine JL_all [] rfl ?_
    refine J_know (own_is (v + 10) (show _ = some (rowC 3 row) by show (K.rows.map (rowC 3))[v]? = _; rw [List.getElem?_map,hrow]; rfl)) fun ⟨_,hrc,hrA,hrl2⟩=>?_
    obtain ⟨gv,hrA⟩:=own_at hrA hrl2
    (repeat' (first | refine J_seq ?_ | refine J_skip ?_ | refine J_yes rfl ?_ | refine J_no rfl ?_))
    refine J_block ?_
    have hS0 : Snd AL AR K.back (l.set v true) r m:=by
      refine ⟨fun u hu=>?_,hS.right,hS.more⟩
      by_cases e : v = u
      · subst e; exact hav
      · rw [List.getElem?_set_ne e] at hu; exact hS.left u hu
    refine J_loopF (σ:=CWS) (fun s=>[(18,.int .i64 s.i),(17,.int .i64 row.l.length),(16,rowV row),(1,.pointer (some ⟨K.p15,0,none⟩)),(2,.pointer (some ⟨K.p7,0,none⟩)),(3,.pointer (some ⟨K.p16,0,none⟩)),(4,.pointer (some ⟨K.p11,0,none⟩)),(5,.pointer (some ⟨K.p17,0,none⟩)),(6,.pointer (some ⟨K.p18,0,none⟩))])
      (fun s=>ckH K s.l s.r s.m) (fun s=>s.i ≤ row.l.length ∧ Walked ends K.back (l.set v true) r m s.l s.r s.m ∧ Snd AL AR K.back s.l s.r s.m ∧ ∀ (j : Nat) (w : Int),j < s.i → row.l[j]? = some w → s.r[w.toNat]? = some true) (fun s=>row.l.length - s.i)
      ⟨0,l.set v true,r,m⟩ ⟨rfl,rfl,rfl,rfl,rfl,rfl,rfl,rfl,rfl,trivial⟩ Fit.refl ⟨Nat.zero_le _,Walked.refl,hS0,fun j w hj=>absurd hj (by simp)⟩ ?_
    rintro ⟨i,l1,r1,m1⟩ ⟨hi,hW,hS1,hall⟩
    simp only at hi hW hS1 hall ⊢
    (repeat' (first | refine J_seq ?_ | refine J_skip ?_ | refine J_yes rfl ?_ | refine J_no rfl ?_))
    refine J_region ?_
    refine JL_all [] rfl ?_
    refine J_seq (J_dec rfl (fun hlt=>J_skip ?_) (fun hge=>J_exit ?_))
    · have hlt : i < row.l.length:=by omega
      obtain ⟨wz,hw⟩ : ∃ w,row.l[i]? = some w:=⟨row.l[i],List.getElem?_eq_getElem hlt⟩
      have hwm : wz ∈ ends v:=by rw [← hrow1]; exact List.mem_of_getElem? hw
      have hwr:=hK.ends v wz hwm
      obtain ⟨w,rfl⟩ : ∃ w : Nat,wz = w:=⟨wz.toNat,by omega⟩
      have hwn : w < K.nr + 1:=by omega
      have hr1 : r1.length = K.nr + 1:=by rw [hW.rl,hrl]
      have hl1 : l1.length = K.nl + 1:=by rw [hW.ll,List.length_set,hll]
      have hv1 : l1[v]? = some true:=hW.lm v (List.getElem?_set_self (by omega))
      have hne : ints row.l ≠ []:=fun h0=>by
        have h1 : (ints row.l).length = 0:=by rw [h0]; rfl
        rw [ints_length] at h1; omega
      have hrA':=hrA hne
      have hwR : AR w:=by have:=hAR v w hav hwm; rwa [Int.toNat_natCast] at this
      obtain ⟨bw,hbw⟩ : ∃ bw,r1[w]? = some bw:=⟨_,List.getElem?_eq_getElem (by omega)⟩
      obtain ⟨y,hy,hyl⟩:=hK.back w (by omega)
      have hyd : K.back.getD w 0 = (y : Int):=by rw [List.getD_eq_getElem?_getD,hy]; rfl
      refine J_seq (J_block ?_)
      (repeat' (first | refine J_seq ?_ | refine J_skip ?_ | refine J_yes rfl ?_ | refine J_no rfl ?_))
      refine J_region ?_
      refine JL_run [] rfl ?_
      refine JL_val [] (idx1 rfl (show _ = some (Value.slice (some ⟨gv,0,none⟩) row.l.length row.c) by rw [← hrA']; rfl) rfl rfl rfl hlt) rfl ?_
      refine JL_val [] (OpV_load_of (b:=gv) (off:=0) (i:=i) (cs:=ints row.l) (v:=.int .i64 (w : Int)) (c:=rowC 3 row) (v + 10) rfl rfl (show (K.rows.map (rowC 3))[v]? = _ by rw [List.getElem?_map,hrow]; rfl) (shows_ownS (fun _=>hrA')) (readT_int' hw)) rfl ?_
      refine JL_all [] rfl ?_
      (repeat' (first | refine J_seq ?_ | refine J_skip ?_ | refine J_yes rfl ?_ | refine J_no rfl ?_))
      refine J_region ?_
      refine JL_run [] rfl ?_
      refine JL_val [] (OpV_blk 2 rfl rfl rfl rfl) rfl ?_
      refine JL_run [] rfl ?_
      refine JL_val [] (idx1z rfl rfl rfl rfl rfl hwn) rfl ?_
      refine JL_val [] (OpV_own 7 rfl rfl rfl (show (bools r1)[w]? = some (.bool bw) from bools_get hbw)) rfl ?_
      refine JL_all [] rfl ?_
      have hnext : ∀ (l2 r2 : List Bool) (m2 : Bool),Walked ends K.back l1 r1 m1 l2 r2 m2 → r2[w]? = some true → ∀ (j : Nat) (z : Int),j < i + 1 → row.l[j]? = some z → r2[z.toNat]? = some true:=by
        intro l2 r2 m2 hW2 hr2 j z hj hz
        by_cases e : j = i
        · subst e; rw [hw] at hz; simp only [Option.some.injEq] at hz; rw [← hz,Int.toNat_natCast]; exact hr2
        · exact hW2.rm _ (hall j z (by omega) hz)
      cases bw with
      | true =>
        refine J_yes rfl (J_exit ?_)
        (repeat' (first | refine J_seq ?_ | refine J_skip ?_ | refine J_yes rfl ?_ | refine J_no rfl ?_))
        refine J_region ?_
        refine JL_all [] rfl ?_
        refine ⟨⟨i + 1,l1,r1,m1⟩,⟨?_,rfl,rfl,rfl,rfl,rfl,rfl,rfl,rfl,trivial⟩,Fit.refl,⟨by simp only; omega,hW,hS1,hnext l1 r1 m1 Walked.refl hbw⟩,by simp only; omega⟩
        show some (Value.int .i64 (IntKind.i64.wrap ((i : Int) + 1))) = _
        rw [w64 (by omega)]; rfl
      | false =>
        refine J_no rfl (J_skip ?_)
        (repeat' (first | refine J_seq ?_ | refine J_skip ?_ | refine J_yes rfl ?_ | refine J_no rfl ?_))
        refine J_region ?_
        refine JL_run [] rfl ?_
        refine JL_val [] (OpV_blk 2 rfl rfl rfl rfl) rfl ?_
        refine JL_run [] rfl ?_
        refine JL_val [] (idx1z rfl rfl rfl rfl rfl hwn) rfl ?_
        refine JL_store_own 7 rfl rfl rfl rfl (put_bools rfl (by omega)) [] rfl ?_
        refine JL_nil ?_
        refine J_fit (K:=ckH K l1 (r1.set w true) m1) Fit.refl ?_
        have hS2 : Snd AL AR K.back l1 (r1.set w true) m1:=by
          refine ⟨hS1.left,fun u hu=>?_,hS1.more⟩
          by_cases e : w = u
          · subst e; exact hwR
          · rw [List.getElem?_set_ne e] at hu; exact hS1.right u hu
        have hset : (r1.set w true)[w]? = some true:=List.getElem?_set_self (by omega)
        (repeat' (first | refine J_seq ?_ | refine J_skip ?_ | refine J_yes rfl ?_ | refine J_no rfl ?_))
        refine J_region ?_
        refine JL_run [] rfl ?_
        refine JL_val [] (OpV_blk 3 rfl rfl rfl rfl) rfl ?_
        refine JL_run [] rfl ?_
        refine JL_val [] (idx1z rfl rfl rfl rfl rfl hwn) rfl ?_
        refine JL_val [] (OpV_own 8 rfl rfl rfl (readT_int' hy)) rfl ?_
        refine JL_all [] rfl ?_
        refine J_dec rfl (fun h0=>?_) (fun h0=>?_)
        · refine J_region (JL_store 4 rfl rfl rfl rfl rfl [] rfl ?_)
          refine JL_nil ?_
          (repeat' (first | refine J_seq ?_ | refine J_skip ?_ | refine J_yes rfl ?_ | refine J_no rfl ?_))
          refine J_region ?_
          refine JL_all [] rfl ?_
          have hW2 : Walked ends K.back l1 r1 m1 l1 (r1.set w true) true:=Walked.mark (w:=w) ⟨rfl,rfl,fun _ h=>h,fun _ h=>h,fun _=>rfl,fun _ h h'=>absurd h h',fun _ h h'=>absurd h h'⟩ (by omega) (fun _=>rfl) (fun h=>absurd (by rw [hyd]; exact h0) h)
          refine ⟨⟨i + 1,l1,r1.set w true,true⟩,⟨?_,rfl,rfl,rfl,rfl,rfl,rfl,rfl,rfl,trivial⟩,Fit.refl,⟨by simp only; omega,hW.trans hW2,⟨hS2.left,hS2.right,fun _=>⟨w,hwR,by rw [hyd]; exact h0⟩⟩,hnext _ _ _ hW2 hset⟩,by simp only; omega⟩
          show some (Value.int .i64 (IntKind.i64.wrap ((i : Int) + 1))) = _
          rw [w64 (by omega)]; rfl
        have hy0 : K.back.getD w 0 ≠ 0:=by rw [hyd]; exact h0
        have hyn : y < K.nl + 1:=by omega
        obtain ⟨by_,hby⟩ : ∃ b,l1[y]? = some b:=⟨_,List.getElem?_eq_getElem (by omega)⟩
        (repeat' (first | refine J_seq ?_ | refine J_skip ?_ | refine J_yes rfl ?_ | refine J_no rfl ?_))
        refine J_walk 8 [(0,true),(1,true),(2,true),(3,true),(4,true),(5,true),(6,true),(7,true)] [0,3,6,8] (by kernel_rfl) (by decide) rfl ?_
        refine JW_still [] rfl (OpV_blk 0 rfl rfl rfl rfl) rfl ?_
        refine JW_still [] rfl (OpV_blk 1 rfl rfl rfl rfl) rfl ?_
        refine JW_run [] rfl ?_
        refine JW_still [] rfl (idx1z rfl rfl rfl rfl rfl hwn) rfl ?_
        refine JW_still [] rfl (OpV_own 3 rfl rfl rfl (readT_int' hy)) rfl ?_
        refine JW_still [] rfl (idx1z rfl rfl rfl rfl rfl hyn) rfl ?_
        refine JW_still [] rfl (OpV_own 2 rfl rfl rfl (show (bools l1)[y]? = some (.bool by_) from bools_get hby)) rfl ?_
        refine JW_all [] rfl ?_
        refine JL_nil ?_
        cases by_ with
        | true =>
          refine J_no rfl (J_skip ?_)
          (repeat' (first | refine J_seq ?_ | refine J_skip ?_ | refine J_yes rfl ?_ | refine J_no rfl ?_))
          refine J_region ?_
          refine JL_all [] rfl ?_
          have hW2 : Walked ends K.back l1 r1 m1 l1 (r1.set w true) m1:=Walked.mark (w:=w) Walked.refl (by omega) (fun h=>absurd h hy0) (fun _=>by rw [hyd,Int.toNat_natCast]; exact hby)
          refine ⟨⟨i + 1,l1,r1.set w true,m1⟩,⟨?_,rfl,rfl,rfl,rfl,rfl,rfl,rfl,rfl,trivial⟩,Fit.refl,⟨by simp only; omega,hW.trans hW2,hS2,hnext _ _ _ hW2 hset⟩,by simp only; omega⟩
          show some (Value.int .i64 (IntKind.i64.wrap ((i : Int) + 1))) = _
          rw [w64 (by omega)]; rfl
        | false =>
          refine J_yes rfl ?_
          (repeat' (first | refine J_seq ?_ | refine J_skip ?_ | refine J_yes rfl ?_ | refine J_no rfl ?_))
          have hcnt : l1.count false ≤ n:=by
            have h1:=count_set l v hv
            have h2:=count_mono (l.set v true) l1 (by rw [hW.ll]) hW.lm
            omega
          refine J_walk 6 [(0,true),(1,true),(2,true),(3,true),(4,true),(5,false)] [3,5,8] (by kernel_rfl) (by decide) rfl ?_
          refine JW_still [] rfl (OpV_blk 1 rfl rfl rfl rfl) rfl ?_
          refine JW_still [] rfl (OpV_blk 0 rfl rfl rfl rfl) rfl ?_
          refine JW_run [] rfl ?_
          refine JW_still [] rfl (idx1z rfl rfl rfl rfl rfl hwn) rfl ?_
          refine JW_still [] rfl (OpV_own 2 rfl rfl rfl (readT_int' hy)) rfl ?_
          refine JW_eff rfl ?_
          refine JL_callK (K:=[]) (fst:=[]) (cap:=[.pointer (some ⟨K.p15,0,none⟩),.pointer (some ⟨K.p7,0,none⟩),.pointer (some ⟨K.p16,0,none⟩),.pointer (some ⟨K.p11,0,none⟩),.pointer (some ⟨K.p17,0,none⟩),.pointer (some ⟨K.p18,0,none⟩)]) []
            (ih l1 (r1.set w true) m1 y hcnt hl1 (by rw [List.length_set]; exact hr1) hby (by have:=hAL w hwR hy0; rwa [hyd,Int.toNat_natCast] at this) hS2) rfl rfl rfl rfl (by kernel_rfl) (by rw [List.append_nil]; exact Fit.refl) trivial (fun _=>rfl) ?_
          rintro vv H' ⟨l2,r2,m2,rfl,hW2,hS3,hl2⟩
          rw [List.append_nil]
          refine ⟨noSeg_app rfl (noSeg_rows _ _),?_⟩
          refine JL_nil ⟨⟨[3,5,8],by decide,rfl⟩,?_⟩
          refine JW_nil ?_
          refine JL_all [] rfl ?_
          (repeat' (first | refine J_seq ?_ | refine J_skip ?_ | refine J_yes rfl ?_ | refine J_no rfl ?_))
          refine J_region ?_
          refine JL_all [] rfl ?_
          have hW3 : Walked ends K.back l1 r1 m1 l2 r2 m2:=Walked.mark (w:=w) hW2 (by omega) (fun h=>absurd h hy0) (fun _=>by rw [hyd,Int.toNat_natCast]; exact hl2)
          refine ⟨⟨i + 1,l2,r2,m2⟩,⟨?_,rfl,rfl,rfl,rfl,rfl,rfl,rfl,rfl,trivial⟩,Fit.refl,⟨by simp only; omega,hW.trans hW3,hS3,hnext _ _ _ hW3 (hW2.rm w hset)⟩,by simp only; omega⟩
          show some (Value.int .i64 (IntKind.i64.wrap ((i : Int) + 1))) = _
          rw [w64 (by omega)]; rfl
    · have hi' : i = row.l.length:=by omega
      subst hi'
      refine ⟨[],rfl,l1,r1,m1,rfl,⟨?_,hW.rl,fun u hu=>?_,hW.rm,hW.mm,fun u hu hn w hw=>?_,hW.newR⟩,hS1,hW.lm v (List.getElem?_set_self (by omega))⟩
      · rw [hW.ll,List.length_set]
      · refine hW.lm u ?_
        by_cases e : v = u
        · subst e; exact List.getElem?_set_self (by omega)
        · rw [List.getElem?_set_ne e]; exact hu
      · by_cases e : v = u
        · subst e
          rw [← hrow1] at hw
          obtain ⟨j,hj,rfl⟩:=List.mem_iff_getElem.1 hw
          exact hall j _ hj (List.getElem?_eq_getElem hj)
        · exact hW.newL u hu (by rw [List.getElem?_set_ne e]; exact hn) w hw
end Go.Proofs.Ytdhenmmmkdhonaa
