
/- Lines, words, numbers: the program's words and the library's contracts. -/
import Derived.Test.YtkiadfpkgpgbiaaGreatDoorEngT
import Derived.Test.YtkiadfpkgpgbiaaGreatDoorTextQ
import Derived.Test.YtkiadfpkgpgbiaaGreatDoorShelf
import Derived.Lib.LaidTab
import Derived.Lib.SmallJoins
import Derived.Lib.AppendIntMem
import Derived.Test.YtkiadfpkgpgbiaaGreatDoorQB
set_option linter.unusedVariables false
set_option linter.unusedSimpArgs false
namespace Go.Proofs.YtkiadfpkgpgbiaaGreatDoor
open Go.RowKit
/-- What the library's variables hold, as far as it is asked. -/
structure LibV where
  oM : Obj
  oP : Obj
  oE : Obj
  m : Int
  tp : Nat
  pe : Value
  hM : ∃ cs t k, oM = .cells cs t k ∧ cs[0]? = some (.int .i64 m)
  hP : ∃ t k, oP = .cells (Lib.pow10Tab.map fun z => Value.int .u64 z).toArray t k
  hE : ∃ t k, oE = .cells #[.iface tp pe] t k
def LibV.heap (V : LibV) : Heap := [.tab 0 V.oM, .tab 1 V.oP, .tab 7 V.oE]
theorem cell_tab {w : World} {b i : Nat} {cs : Array Value} {t : Nat} {k : Nat × Nat} {v : Value} (h : w.heap[b]? = some (.cells cs t k)) (hv : cs[i]? = some v) : w.cell? ⟨b, i, none⟩ = some v := by
  simp [World.cell?, h, hv]
theorem LibV.cellM (V : LibV) {w : World} (h : w.heap[0]? = some V.oM) : w.cell? ⟨0, 0, none⟩ = some (.int .i64 V.m) := by
  obtain ⟨cs, t, k, e, h0⟩ := V.hM
  rw [e] at h
  exact cell_tab h h0
theorem LibV.tabP (V : LibV) {w : World} (h : w.heap[1]? = some V.oP) : Lib.TabIs Tryz.prog w "internal/strconv.uint64pow10" .u64 Lib.pow10Tab := by
  obtain ⟨t, k, e⟩ := V.hP
  rw [e] at h
  have hg : Tryz.prog.globalNamed "internal/strconv.uint64pow10" = some 1 := by kernel_rfl
  unfold Lib.TabIs World.var?
  rw [hg]
  simp only [Option.bind_some, h]
theorem LibV.varE (V : LibV) {w : World} (h : w.heap[7]? = some V.oE) : w.var? Tryz.prog "strconv.ErrRange" = some #[.iface V.tp V.pe] := by
  obtain ⟨t, k, e⟩ := V.hE
  rw [e] at h
  have hg : Tryz.prog.globalNamed "strconv.ErrRange" = some 7 := by kernel_rfl
  unfold World.var?
  rw [hg]
  simp only [Option.bind_some, h]
/-- A row of texts. -/
def strs (l : List (List UInt8)) : List Value := l.map str
theorem strs_length (l : List (List UInt8)) : (strs l).length = l.length := by simp [strs]
theorem strs_get {l : List (List UInt8)} {i : Nat} {x : List UInt8} (h : l[i]? = some x) : (strs l)[i]? = some (str x) := by simp [strs, h]
theorem strs_app (l m : List (List UInt8)) : strs (l ++ m) = strs l ++ strs m := by simp [strs]
theorem str_data (s : ByteArray) : str s.data.toList = .string s := by unfold str; rw [Lib.mk_data]
theorem tprefix_fn (l p : List UInt8) : Fn 67 [str l, str p] [] [] fun v H' => v = str (Lib.trimPrefix l p) ∧ H' = [] :=
  Fn.of_same (fun w => Any.strings_TrimPrefix Tryz.lays101 ⟨l.toArray⟩ ⟨p.toArray⟩ w) ⟨rfl, rfl⟩
theorem tsuffix_fn (l p : List UInt8) (hl : l.length ≤ 9223372036854775807) : Fn 22 [str l, str p] [] [] fun v H' => v = str (Lib.trimSuffix l p) ∧ H' = [] :=
  Fn.of_same (fun w => Any.strings_TrimSuffix Tryz.lays102 ⟨l.toArray⟩ ⟨p.toArray⟩ w (by rw [str_size]; exact hl)) ⟨rfl, rfl⟩
theorem trim_fn (l p : List UInt8) (hl : l.length ≤ 9223372036854775807) (hp : p.length < 4294967281) (ha : p.all (fun b => decide (b.toNat < 128)) = true) : Fn 68 [str l, str p] [] [] fun v H' => v = str (Lib.trimS l p) ∧ H' = [] :=
  Fn.of_below fun w _ => (Any.strings_Trim_laid Tryz.lays160 (by kernel_rfl) ⟨l.toArray⟩ ⟨p.toArray⟩ w (by rw [str_size]; exact hl) (by rw [str_size]; exact hp) (ascii_of_all ha)).mono fun e w' ⟨he, hb⟩ => ⟨_, he, hb, rfl, rfl⟩
theorem split_fn (V : LibV) (l : List UInt8) (c : UInt8) (hl : l.length < 4294967281) : Fn 21 [str l, str [c]] [] V.heap fun v H' => ∃ (A : Option Addr) (n : Nat), n = (splitGo c [] l).length ∧ v = .slice A n n ∧ H' = [.own (.slice A n n) 9 1 n (strs (splitGo c [] l))] := by
  intro w hw
  have hm := V.cellM (hw.holds (.tab _ V.oM) (by simp [LibV.heap]))
  refine (Any.strings_Split { Tryz.laysM146 with } Tryz.laysM146.i9 ⟨l.toArray⟩ ⟨#[c]⟩ V.m w (by rw [str_size]; exact hl) hm (Nat.le_refl 1)).mono ?_
  rintro e w' ⟨he, hww⟩
  have hgo := splitB_go c _ ⟨l.toArray⟩ rfl
  have hle := Lib.countB_le ⟨#[c]⟩ (Nat.le_refl 1) l.length ⟨l.toArray⟩ (by rw [str_size]; exact Nat.le_refl _)
  rw [str_size] at hle
  have hlen : (splitGo c [] l).length = Lib.countB ⟨l.toArray⟩ ⟨#[c]⟩ + 1 := by
    rw [← hgo, List.length_map]
    exact Lib.splitB_all ⟨#[c]⟩ (Nat.le_refl 1) 0 _ ⟨l.toArray⟩ rfl
  have hcs : (Lib.splitB ⟨#[c]⟩ 0 (Lib.countB ⟨l.toArray⟩ ⟨#[c]⟩) ⟨l.toArray⟩).map Value.string = strs (splitGo c [] l) := by
    rw [← hgo]
    simp [strs, str_data]
  have hH : Has w [] w' [blk w.heap.size 9 (strs (splitGo c [] l))] := by
    rw [hww, hcs]
    exact (hw.mono (K := []) (fun c hc => absurd hc List.not_mem_nil) List.Pairwise.nil).alloc _
  refine ⟨_, _, he, hH.blkOwn (sz := 1) (n := (splitGo c [] l).length) (by rw [strs_length]; simp) (by rw [hlen]; unfold maxLen; omega), some ⟨w.heap.size, 0, none⟩, _, hlen.symm, rfl, by rw [hlen]⟩
theorem lines_fn (V : LibV) (l : List UInt8) (hl : l.length < 4294967281) : Fn 11 [str l] [] V.heap fun v H' => ∃ (A : Option Addr) (n : Nat), n = (linesL l).length ∧ v = .slice A n n ∧ H' = [.own (.slice A n n) 9 1 n (strs (linesL l))] := by
  refine Fn_of Tryz.func11 rfl rfl fun w0 => ?_
  (repeat' (first | refine J_seq ?_ | refine J_skip ?_ | refine J_yes rfl ?_ | refine J_no rfl ?_))
  refine J_region ?_
  refine JL_all [] rfl ?_
  (repeat' (first | refine J_seq ?_ | refine J_skip ?_ | refine J_yes rfl ?_ | refine J_no rfl ?_))
  refine J_region ?_
  refine JL_evO (gs := [999]) rfl ?_
  refine JL_val [] (OpV_eqs (m := []) rfl rfl rfl) rfl ?_
  refine JL_all [] rfl ?_
  refine J_dec rfl (fun h0 => ?_) (fun h0 => J_skip ?_)
  · (repeat' (first | refine J_seq ?_ | refine J_skip ?_ | refine J_yes rfl ?_ | refine J_no rfl ?_))
    refine J_region ?_
    refine JL_all [] rfl ?_
    refine J_addnil 9 1 ?_
    refine J_drop [0] (by decide) rfl (J_ret ⟨_, rfl, none, 0, ?_, rfl, ?_⟩)
    · rw [h0]; rfl
    · rw [h0]; rfl
  have he : linesL l = splitGo 10 [] (Lib.trimSuffix l [10]) := by unfold linesL; rw [if_neg h0]
  have hle : (Lib.trimSuffix l [10]).length ≤ l.length := by
    unfold Lib.trimSuffix
    split
    · rw [List.length_take]; omega
    · exact Nat.le_refl _
  (repeat' (first | refine J_seq ?_ | refine J_skip ?_ | refine J_yes rfl ?_ | refine J_no rfl ?_))
  refine J_region ?_
  refine JL_evO (gs := [999]) rfl ?_
  refine JL_callR [] (tsuffix_fn l [10] (by omega)) rfl rfl rfl rfl (by kernel_rfl) trivial (fun _ => rfl) ?_
  rintro v H' ⟨rfl, rfl⟩
  refine ⟨rfl, ?_⟩
  refine JL_callR [] (split_fn V (Lib.trimSuffix l [10]) 10 (by omega)) rfl rfl rfl rfl (by kernel_rfl) ⟨⟨0, by simp, rfl⟩, ⟨1, by simp, rfl⟩, ⟨2, by simp, rfl⟩, trivial⟩ (fun _ => rfl) ?_
  rintro v H' ⟨A, n, hn, rfl, rfl⟩
  refine ⟨rfl, ?_⟩
  refine JL_all [] rfl ?_
  refine J_drop [0] (by decide) rfl (J_ret ⟨_, rfl, A, n, by rw [he]; exact hn, rfl, by rw [he]⟩)
theorem write_fn (V : LibV) (n : Int) (hn : inB n) : Fn 30 [.int .i64 n] [] V.heap fun v H' => v = str (Lib.itoa n) ∧ H' = [] := by
  have T : Fn 42 [.int .i64 n, .int .i64 10] [] V.heap fun v H' => v = str (Lib.itoa n) ∧ H' = [] := by
    intro w hw
    have ht := V.tabP (hw.holds (.tab _ V.oP) (by simp [LibV.heap]))
    refine (Any.strconv_FormatInt_10 Tryz.laysM173 n (by unfold inB at hn; omega) (by unfold inB at hn; omega) w ht).mono ?_
    rintro e w' ⟨he, k, os, rfl⟩
    refine ⟨_, [], he, ?_, rfl, rfl⟩
    exact has_below hw (Lib.below_grow _ w (Nat.le_refl _) k os)
  refine Fn_of Tryz.func30 rfl rfl fun w0 => ?_
  (repeat' (first | refine J_seq ?_ | refine J_skip ?_ | refine J_yes rfl ?_ | refine J_no rfl ?_))
  refine J_region ?_
  refine JL_all [] rfl ?_
  (repeat' (first | refine J_seq ?_ | refine J_skip ?_ | refine J_yes rfl ?_ | refine J_no rfl ?_))
  refine J_region ?_
  refine JL_evO (gs := [999]) rfl ?_
  refine JL_callR [] T rfl rfl rfl rfl (by kernel_rfl) ⟨⟨0, by simp, rfl⟩, ⟨1, by simp, rfl⟩, ⟨2, by simp, rfl⟩, trivial⟩ (fun _ => rfl) ?_
  rintro v H' ⟨rfl, rfl⟩
  refine ⟨rfl, ?_⟩
  refine JL_all [] rfl ?_
  exact J_drop [] (by decide) rfl (J_ret ⟨_, rfl, rfl, rfl⟩)
theorem wordsP_fn (x : Int) (hx : 0 ≤ x ∧ x ≤ 1114111) : Fn 40 [.int .i32 x] [] [] fun v H' => v = .bool (sepR x.toNat) ∧ H' = [] := by
  have key : sepR x.toNat = cdec (x = 32 ∨ x = 9 ∨ x = 13) := by
    by_cases h : x = 32 ∨ x = 9 ∨ x = 13
    · rw [cdec_yes h]; rcases h with rfl | rfl | rfl <;> rfl
    · rw [cdec_no h]; simp [sepR]; omega
  rw [key]
  refine Fn_of Tryz.func40 rfl rfl fun w0 => ?_
  (repeat' (first | refine J_seq ?_ | refine J_skip ?_ | refine J_yes rfl ?_ | refine J_no rfl ?_))
  refine J_region ?_
  refine JL_all [] rfl ?_
  (repeat' (first | refine J_seq ?_ | refine J_skip ?_ | refine J_yes rfl ?_ | refine J_no rfl ?_))
  refine J_region ?_
  refine JL_evO (gs := [999]) rfl ?_
  refine JL_evO (gs := [999]) rfl ?_
  refine JL_evO (gs := [999]) rfl ?_
  by_cases h1 : x = 32
  · refine JL_set 5 (v' := .bool true) rfl (congrArg Value.bool (cdec_yes h1)) ?_
    refine JL_run [2] rfl ?_
    refine JL_all [2, 6] rfl ?_
    exact J_ret ⟨_, rfl, congrArg Value.bool (cdec_yes (.inl h1)).symm, rfl⟩
  refine JL_set 5 (v' := .bool false) rfl (congrArg Value.bool (cdec_no h1)) ?_
  refine JL_run [2] rfl ?_
  by_cases h2 : x = 9
  · refine JL_set 9 (v' := .bool true) rfl (congrArg Value.bool (cdec_yes h2)) ?_
    refine JL_all [2, 6] rfl ?_
    exact J_ret ⟨_, rfl, congrArg Value.bool (cdec_yes (.inr (.inl h2))).symm, rfl⟩
  refine JL_set 9 (v' := .bool false) rfl (congrArg Value.bool (cdec_no h2)) ?_
  refine JL_all [2, 6] rfl ?_
  exact J_ret ⟨_, rfl, congrArg Value.bool (cdec_iff ⟨fun h => .inr (.inr h), fun h => by omega⟩), rfl⟩
theorem words_fn (l : List UInt8) (hl : l.length ≤ 4294967296) : Fn 24 [str l] [] [] fun v H' => ∃ (A : Option Addr) (n : Nat), n = (wordsL l).length ∧ v = .slice A n n ∧ H' = [.own (.slice A n n) 9 1 n (strs (wordsL l))] := by
  have T : Fn 39 [str l, .func (.func 40) #[] #[]] [] [] fun v H' => ∃ (A : Option Addr) (n : Nat), n = (wordsL l).length ∧ v = .slice A n n ∧ H' = [.own (.slice A n n) 9 1 n (strs (wordsL l))] := by
    intro w hw
    have hp : PredGrows Tryz.prog 40 #[] sepR w := by
      intro W x hx _
      refine (wordsP_fn (x : Int) ⟨by omega, by omega⟩ W ⟨rfl, rfl, rfl, Nat.le_refl _, fun _ _ _ => rfl, fun c hc => absurd hc List.not_mem_nil, fun c hc => absurd hc List.not_mem_nil, List.Pairwise.nil⟩).mono ?_
      rintro e w' ⟨v, H', he, hH, rfl, rfl⟩
      rw [Int.toNat_natCast] at he
      exact ⟨he, ⟨hH.os, hH.tape, hH.output, hH.size, fun k hk => hH.keep k hk (by simp)⟩⟩
    have heq := fieldsP_words ⟨l.toArray⟩
    refine (Any.strings_FieldsFunc_grows Tryz.lays229 40 #[] (callFunc_run (by kernel_rfl)) sepR ⟨l.toArray⟩ w (by rw [str_size]; exact hl) hp (by kernel_rfl) (by kernel_rfl)).mono ?_
    rintro e w' ⟨g, he, hg, hrow, hb⟩
    have hlen : (Lib.goFieldsP sepR ⟨l.toArray⟩).length = (wordsL l).length := by
      have := congrArg List.length heq
      simpa using this
    have hcs : (Lib.goFieldsP sepR ⟨l.toArray⟩).map Value.string = strs (wordsL l) := by
      have h2 : wordsL l = (Lib.goFieldsP sepR ⟨l.toArray⟩).map (·.data.toList) := heq.symm
      rw [h2]
      simp [strs, str_data]
    refine ⟨_, _, he, ⟨hb.os, hb.tape, hb.output, hb.size, fun k hk _ => hb.block k hk, fun c hc => ?_, fun c hc b hb' => ?_, List.pairwise_singleton _ _⟩, some ⟨g, 0, none⟩, _, hlen, rfl, by rw [← hcs]⟩
    · obtain rfl := List.mem_singleton.1 hc
      obtain ⟨h1, h2⟩ := hrow
      refine ⟨h1, h2.imp id ?_⟩
      rintro ⟨g', cap, cur, k1, k2, k3⟩
      exact ⟨g', cap, cur, k1, Nat.zero_le _, k3⟩
    · obtain rfl := List.mem_singleton.1 hc
      simp only [Chunk.mine, Value.ownBlock, Option.some.injEq] at hb'
      exact .inl (by omega)
  refine Fn_of Tryz.func24 rfl rfl fun w0 => ?_
  (repeat' (first | refine J_seq ?_ | refine J_skip ?_ | refine J_yes rfl ?_ | refine J_no rfl ?_))
  refine J_region ?_
  refine JL_all [] rfl ?_
  (repeat' (first | refine J_seq ?_ | refine J_skip ?_ | refine J_yes rfl ?_ | refine J_no rfl ?_))
  refine J_region ?_
  refine JL_evO (gs := [999]) rfl ?_
  refine JL_callR [] T rfl rfl rfl rfl (by kernel_rfl) trivial (fun _ => rfl) ?_
  rintro v H' ⟨A, n, hn, rfl, rfl⟩
  refine ⟨rfl, ?_⟩
  refine JL_all [] rfl ?_
  exact J_drop [0] (by decide) rfl (J_ret ⟨_, rfl, A, n, hn, rfl, rfl⟩)
theorem number_fn (V : LibV) (l : List UInt8) (hl : l.length ≤ 281474976710656) : Fn 56 [str l] [] V.heap fun v H' => v = two (numL l) ∧ H' = [] := by
  obtain ⟨d, hd⟩ : ∃ d, d = Lib.trimPrefix l [45] := ⟨_, rfl⟩
  obtain ⟨n1, n2⟩ := num_go l d hd
  have hdl : d.length ≤ l.length := by
    rw [hd]; unfold Lib.trimPrefix
    split
    · rw [List.length_drop]; omega
    · exact Nat.le_refl _
  have T1 := tprefix_fn l [45]
  rw [← hd] at T1
  refine Fn_of Tryz.func56 rfl rfl fun w0 => ?_
  (repeat' (first | refine J_seq ?_ | refine J_skip ?_ | refine J_yes rfl ?_ | refine J_no rfl ?_))
  refine J_region ?_
  refine JL_all [] rfl ?_
  (repeat' (first | refine J_seq ?_ | refine J_skip ?_ | refine J_yes rfl ?_ | refine J_no rfl ?_))
  refine J_region ?_
  refine JL_evO (gs := [999]) rfl ?_
  refine JL_callR [] (T1) rfl rfl rfl rfl (by kernel_rfl) trivial (fun _ => rfl) ?_
  rintro v H' ⟨rfl, rfl⟩
  refine ⟨rfl, ?_⟩
  refine JL_all [] rfl ?_
  refine J_seq ?_
  refine J_cut [(15, .bool (cdec (d = [] ∨ Lib.trimS d [48, 49, 50, 51, 52, 53, 54, 55, 56, 57] ≠ []))), (0, str l)] V.heap ?_ ?_
  · (repeat' (first | refine J_seq ?_ | refine J_skip ?_ | refine J_yes rfl ?_ | refine J_no rfl ?_))
    refine J_region ?_
    refine JL_evO (gs := [999]) rfl ?_
    refine JL_val [] (OpV_eqs (m := []) rfl rfl rfl) rfl ?_
    refine JL_evO (gs := [999]) rfl ?_
    by_cases h1 : d = []
    · refine JL_set 11 (v' := .bool true) rfl (congrArg Value.bool (cdec_yes h1)) ?_
      refine JL_all [2] rfl ?_
      exact ⟨[0, 1, 2], ⟨congrArg some (congrArg Value.bool (cdec_yes (.inl h1)).symm), rfl, trivial⟩, by decide, rfl⟩
    refine JL_set 11 (v' := .bool false) rfl (congrArg Value.bool (cdec_no h1)) ?_
    refine JL_run [2] rfl ?_
    refine JL_callR [2] (trim_fn d [48, 49, 50, 51, 52, 53, 54, 55, 56, 57] (by omega) (by decide) (by decide)) rfl rfl rfl rfl (by kernel_rfl) trivial (fun _ => rfl) ?_
    rintro v H' ⟨rfl, rfl⟩
    refine ⟨rfl, ?_⟩
    refine JL_val [2] (OpV_nes (m := []) rfl rfl rfl) rfl ?_
    refine JL_all [2] rfl ?_
    exact ⟨[0, 1, 2], ⟨congrArg some (congrArg Value.bool (cdec_iff ⟨fun h => .inr h, fun h => h.resolve_left h1⟩)), rfl, trivial⟩, by decide, rfl⟩
  refine J_dec rfl (fun hbad => ?_) (fun hgood => J_skip ?_)
  · (repeat' (first | refine J_seq ?_ | refine J_skip ?_ | refine J_yes rfl ?_ | refine J_no rfl ?_))
    refine J_region ?_
    refine JL_all [] rfl ?_
    refine J_drop [] (by decide) rfl (J_ret ⟨_, rfl, ?_, rfl⟩)
    rw [n1 hbad]; rfl
  rcases n2 hgood with ⟨v, h1, h2⟩ | ⟨h1, h2⟩
  · have T : Fn 69 [str l, .int .i64 10, .int .i64 64] [] [] fun u H' => u = .tuple #[.int .i64 v, .nilIface] ∧ H' = [] := by
      intro w hw
      refine (Any.strconv_ParseInt_10_at64_ok Tryz.laysC174 ⟨l.toArray⟩ (by rw [str_size]; omega) v h1 w).mono ?_
      rintro e w' ⟨he, hww⟩
      refine ⟨_, [], he, has_below hw ?_, rfl, rfl⟩
      rcases hww with rfl | ⟨t, rfl⟩
      · exact Below.refl _ _
      · exact Go.Joins.below_bytesWorld _ w _ _ (Nat.le_refl _)
    (repeat' (first | refine J_seq ?_ | refine J_skip ?_ | refine J_yes rfl ?_ | refine J_no rfl ?_))
    refine J_region ?_
    refine JL_evO (gs := [999]) rfl ?_
    refine JL_callR [] (T) rfl rfl rfl rfl (by kernel_rfl) trivial (fun _ => rfl) ?_
    rintro v H' ⟨rfl, rfl⟩
    refine ⟨rfl, ?_⟩
    refine JL_all [] rfl ?_
    (repeat' (first | refine J_seq ?_ | refine J_skip ?_ | refine J_yes rfl ?_ | refine J_no rfl ?_))
    refine J_region ?_
    refine JL_all [] rfl ?_
    (repeat' (first | refine J_seq ?_ | refine J_skip ?_ | refine J_yes rfl ?_ | refine J_no rfl ?_))
    (repeat' (first | refine J_seq ?_ | refine J_skip ?_ | refine J_yes rfl ?_ | refine J_no rfl ?_))
    refine J_region ?_
    refine JL_all [] rfl ?_
    refine J_drop [] (by decide) rfl (J_ret ⟨_, rfl, ?_, rfl⟩)
    rw [h2]; rfl
  · have T : Fn 69 [str l, .int .i64 10, .int .i64 64] [] V.heap fun u H' => ∃ (i : Int) (g : Nat), u = .tuple #[.int .i64 i, .iface 136 (.pointer (some ⟨g, 0, none⟩))] ∧ H' = [] := by
      intro w hw
      have hv := V.varE (hw.holds (.tab _ V.oE) (by simp [LibV.heap]))
      refine (Any.strconv_ParseInt_10_at64_range_var Tryz.laysC174 ⟨l.toArray⟩ (by rw [str_size]; exact hl) h1 V.tp V.pe w hv).mono ?_
      rintro e w' ⟨g, he, _, _, hb⟩
      exact ⟨_, [], he, has_below hw hb, _, g, rfl, rfl⟩
    (repeat' (first | refine J_seq ?_ | refine J_skip ?_ | refine J_yes rfl ?_ | refine J_no rfl ?_))
    refine J_region ?_
    refine JL_evO (gs := [999]) rfl ?_
    refine JL_callR [] T rfl rfl rfl rfl (by kernel_rfl) ⟨⟨0, by simp, rfl⟩, ⟨1, by simp, rfl⟩, ⟨2, by simp, rfl⟩, trivial⟩ (fun _ => rfl) ?_
    rintro u H' ⟨i, g, rfl, rfl⟩
    refine ⟨rfl, ?_⟩
    refine JL_all [] rfl ?_
    (repeat' (first | refine J_seq ?_ | refine J_skip ?_ | refine J_yes rfl ?_ | refine J_no rfl ?_))
    refine J_region ?_
    refine JL_all [] rfl ?_
    (repeat' (first | refine J_seq ?_ | refine J_skip ?_ | refine J_yes rfl ?_ | refine J_no rfl ?_))
    (repeat' (first | refine J_seq ?_ | refine J_skip ?_ | refine J_yes rfl ?_ | refine J_no rfl ?_))
    refine J_region ?_
    refine JL_all [] rfl ?_
    refine J_drop [] (by decide) rfl (J_ret ⟨_, rfl, ?_, rfl⟩)
    rw [h2]; rfl
end Go.Proofs.YtkiadfpkgpgbiaaGreatDoor
