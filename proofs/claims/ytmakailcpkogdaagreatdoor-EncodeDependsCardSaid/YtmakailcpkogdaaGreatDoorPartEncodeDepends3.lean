/- Parts of one proof: SchM, GramPlain, IterL, Iter, SchG, SchH, GramA, SchN, GramC, GramB, GramD, RecPlain, EncPlain, MakeA, HeldK. -/
import Derived.Test.YtmakailcpkogdaaGreatDoorPartEncodeDepends2
import Derived.Sort.KeysCollected
import Derived.Sort.Walk0
import Derived.Shelf.SlIter.Nil
import Derived.Shelf.SortM.Plain
import Derived.Shelf.SortM.SortNone
import Derived.Ground.GgzProg
import Derived.Ground.SlgmProg
import Derived.Test.YtmakailcpkogdaaGreatDoorProg
import Derived.Maps.OwnSet
import Derived.StringKeys
import Derived.OrdersHeld
import Derived.Deep.RegionHeld
section
/- Plain law: what is normalised is normal (addresses, days, any field). -/
set_option linter.unusedSimpArgs false
set_option linter.unusedVariables false
set_option maxRecDepth 100000
namespace Go.Proofs.YtmakailcpkogdaaGreatDoor
open Go.RowKit Cal
theorem dropWhile_fix (l : List UInt8) : (l.dropWhile (· == 48)).dropWhile (· == 48) = l.dropWhile (· == 48) := by
  induction l with
  | nil => rfl
  | cons c l ih =>
    by_cases hc : (c == 48) = true
    · rw [List.dropWhile_cons, if_pos hc, ih]
    · rw [List.dropWhile_cons, if_neg hc, List.dropWhile_cons, if_neg hc]
theorem short_num (x : List UInt8) : numB (shortL x) = true := by
  unfold shortL
  split
  · assumption
  · rfl
theorem short_same (x : List UInt8) : shortL (shortL x) = shortL x := by
  have hd := dropWhile_fix x
  generalize hr : x.dropWhile (· == 48) = r at hd
  have e : shortL x = if numB r = true then r else 48 :: r := by unfold shortL; rw [hr]
  by_cases hn : numB r = true
  · rw [e, if_pos hn]; unfold shortL; rw [hd, if_pos hn]
  · rw [e, if_neg hn]; unfold shortL
    rw [show (48 :: r).dropWhile (· == 48) = r.dropWhile (· == 48) from rfl, hd, if_neg hn]
theorem dropWhile_mem (l : List UInt8) : ∀ b ∈ l.dropWhile (· == 48), b ∈ l := by
  induction l with
  | nil => intro b hb; simp at hb
  | cons c l ih =>
    intro b hb
    by_cases hc : (c == 48) = true
    · rw [List.dropWhile_cons, if_pos hc] at hb; exact List.mem_cons_of_mem _ (ih b hb)
    · rw [List.dropWhile_cons, if_neg hc] at hb; exact hb
theorem short_ok {x : List UInt8} (h : okT x) : okT (shortL x) := by
  have h1 : ∀ b ∈ x.dropWhile (· == 48), okB b = true ∧ b ≠ 32 := fun b hb => h.2 b (dropWhile_mem x b hb)
  unfold shortL
  split
  · rename_i hn
    refine ⟨fun e => ?_, h1⟩
    rw [e] at hn; cases hn
  · refine ⟨by simp, fun b hb => ?_⟩
    rcases List.mem_cons.1 hb with rfl | hb
    · exact ⟨by decide, by decide⟩
    · exact h1 b hb
theorem low_not_num {t : List UInt8} (h : ∀ b ∈ t, isLow b = true) : numB t = false := by
  cases t with
  | nil => rfl
  | cons c t =>
    have := h c List.mem_cons_self
    rw [low_iff, decide_eq_true_iff] at this
    show isDgt c = false
    rw [dig_iff]; simp; omega
/-- what becomes of a token stays, and stays a number or none -/
theorem addrTok_same {r : RulesL} (h : pairsB r.streets = true) {x : List UInt8} (hx : okT x) : okT (addrTok r x) ∧ addrTok r (addrTok r x) = addrTok r x := by
  by_cases hn : numB x = true
  · have e : addrTok r x = shortL x := by unfold addrTok; rw [if_pos hn]
    rw [e]
    refine ⟨short_ok hx, ?_⟩
    unfold addrTok
    rw [if_pos (short_num x), short_same]
  · have e : addrTok r x = canonL r.streets x := by unfold addrTok; rw [if_neg hn]
    rw [e]
    rcases canon_cases h x with hs | ⟨k, hk, e1, e2, e3⟩
    · rw [hs]; exact ⟨hx, by rw [e, hs]⟩
    · obtain ⟨g1, g2⟩ := token_low e2
      refine ⟨low_okT g1 g2, ?_⟩
      unfold addrTok
      rw [low_not_num g2, e3]; simp
theorem order2_same (T : List (List UInt8)) : order2 (order2 T) = order2 T := by
  have hn : ∀ L : List (List UInt8), L.filter (fun _ => false) = [] := fun L => by induction L with
    | nil => rfl
    | cons x L ih => rw [List.filter_cons]; simp
  unfold order2
  simp [List.filter_append, List.filter_filter, hn]
theorem order2_length (T : List (List UInt8)) : (order2 T).length = T.length := by
  induction T with
  | nil => rfl
  | cons t T ih =>
    unfold order2 at ih ⊢
    cases h : numB t <;> simp [List.filter_cons, h] at ih ⊢ <;> omega
theorem map_same {f : List UInt8 → List UInt8} : ∀ (T : List (List UInt8)), (∀ t ∈ T, f t = t) → T.map f = T := by
  intro T
  induction T with
  | nil => intro _; rfl
  | cons t T ih => intro h; rw [List.map_cons, h t List.mem_cons_self, ih fun x hx => h x (List.mem_cons_of_mem _ hx)]
theorem addrN_same {r : RulesL} {l v : List UInt8} (h : addrN r l = (v, 0)) : addrN r v = (v, 0) := by
  unfold addrN at h
  by_cases hc : checkR r = 0
  · rw [if_pos hc] at h
    obtain ⟨_, _, _, h3, _⟩ := check_zero hc
    by_cases hv : foldV l = true
    · rw [if_pos hv] at h
      have hok := toks_ok l
      generalize toks (foldL l) = T at h hok
      have hM : ∀ t ∈ order2 (T.map (addrTok r)), okT t ∧ addrTok r t = t := by
        intro t ht
        obtain ⟨x, hx, rfl⟩ := List.mem_map.1 (order2_mem ht)
        exact addrTok_same h3 (hok x hx)
      have hlen : (order2 (T.map (addrTok r))).length = T.length := by rw [order2_length, List.length_map]
      by_cases hb : 6 < T.length ∨ 64 < (joinL (order2 (T.map (addrTok r)))).length
      · rw [if_pos hb] at h; simp at h
      · rw [if_neg hb] at h
        have hs := order2_same (T.map (addrTok r))
        generalize order2 (T.map (addrTok r)) = M at h hM hlen hb hs
        obtain rfl : joinL M = v := congrArg Prod.fst h
        have h1 : ∀ t ∈ M, okT t := fun t ht => (hM t ht).1
        obtain ⟨f1, f2⟩ := fold_same M h1
        unfold addrN
        rw [if_pos hc, if_pos (foldV_join M h1 (by omega)), f2, map_same M fun t ht => (hM t ht).2, hs, if_neg (by rw [hlen]; exact hb)]
    · rw [if_neg hv] at h; simp at h
  · rw [if_neg hc] at h
    exact absurd (congrArg Prod.snd h) hc
theorem numI_dg (n : Int) (k : Nat) (h0 : 0 ≤ n) (h : n < 10 ^ k) : numI (dg n k) = n := by
  rw [numI_dig _ (dg_dig k n h0), dg_val k n h0 h]
theorem day_read {a b c : Int} (h : vldB a b c = true) : readB (digits8 a b c) = true := by
  obtain ⟨b1, b2, b3, b4, b5, b6⟩ := vld_bd h
  have e1 : (digits8 a b c).take 4 = dg a 4 := by
    unfold digits8; rw [List.append_assoc, List.take_append_of_le_length (by rw [dg_len]; omega), List.take_of_length_le (by rw [dg_len]; omega)]
  have e2 : ((digits8 a b c).drop 4).take 2 = dg b 2 := by
    unfold digits8; rw [List.append_assoc, List.drop_append_of_le_length (by rw [dg_len]; omega), List.drop_eq_nil_of_le (by rw [dg_len]; omega), List.nil_append, List.take_append_of_le_length (by rw [dg_len]; omega), List.take_of_length_le (by rw [dg_len]; omega)]
  have e3 : ((digits8 a b c).drop 6).take 2 = dg c 2 := by
    unfold digits8; rw [List.drop_append_of_le_length (by simp [dg_len]), List.drop_eq_nil_of_le (by simp [dg_len]), List.nil_append, List.take_of_length_le (by rw [dg_len]; omega)]
  unfold readB
  rw [digits8_len, e1, e2, e3, numI_dg a 4 (by omega) (by omega), numI_dg b 2 (by omega) (by omega), numI_dg c 2 (by omega) (by omega), h]
  rfl
theorem dayN_read {l v : List UInt8} (h : dayN l = (v, 0)) : readB v = true := by
  rcases parse_is ⟨l.toArray⟩ with ⟨a, b, c, hv, _, hd⟩ | ⟨_, hd⟩
  · rw [show (⟨l.toArray⟩ : ByteArray).data.toList = l by simp, h] at hd
    obtain rfl : v = digits8 a b c := congrArg Prod.fst hd
    exact day_read hv
  · rw [show (⟨l.toArray⟩ : ByteArray).data.toList = l by simp, h] at hd
    simp at hd
theorem own_of {p : List UInt8 × Int} {v : List UInt8} (h : p = (v, 0)) : isOwn p v = true := by subst h; simp [isOwn]
/-- what is normalised is normal; and what is no date stays as it is -/
theorem value_normal {s : SchemaL} {f : Int} {l v : List UInt8} (h : valueN s f l = (v, 0)) : normalB s f v = true ∧ normalB s f [] = true ∧ ((findN s f).1 = 2 ∨ valueN s f v = (v, 0)) := by
  unfold valueN at h
  by_cases he : (findN s f).2 = 0
  · have hk := findN_kind he
    have e2 : normalB s f [] = true := by unfold normalB; rw [if_pos he, if_pos rfl]
    by_cases hv0 : v = []
    · subst hv0
      exact ⟨e2, e2, .inr (by unfold valueN; rw [if_pos he, if_pos rfl])⟩
    · rw [if_pos he] at h
      by_cases hl : l = []
      · rw [if_pos hl] at h
        exact absurd (congrArg Prod.fst h).symm hv0
      · rw [if_neg hl] at h
        have e1 : normalB s f v = ownK (findN s f).1 s.rules v := by unfold normalB; rw [if_pos he, if_neg hv0]
        have e3 : valueN s f v = normK (findN s f).1 s.rules v := by unfold valueN; rw [if_pos he, if_neg hv0]
        rw [e1, e3]
        rcases hk with hk | hk | hk | hk
        · rw [hk] at h ⊢
          have := nameN_same (r := s.rules) h
          exact ⟨own_of this, e2, .inr this⟩
        · rw [hk] at h ⊢
          exact ⟨dayN_read (show dayN l = (v, 0) from h), e2, .inl rfl⟩
        · rw [hk] at h ⊢
          have := codeN_same (show codeN l = (v, 0) from h)
          exact ⟨own_of this, e2, .inr this⟩
        · rw [hk] at h ⊢
          have := addrN_same (r := s.rules) h
          exact ⟨own_of this, e2, .inr this⟩
  · rw [if_neg he] at h
    exact absurd (congrArg Prod.snd h) he
end Go.Proofs.YtmakailcpkogdaaGreatDoor
end
section
/- Plain law: grams: the set of a list, ascending; bigrams; how many. -/
set_option linter.unusedSimpArgs false
set_option linter.unusedVariables false
set_option maxRecDepth 100000
namespace Go.Proofs.YtmakailcpkogdaaGreatDoor
open Go.RowKit Go.Maps
/-- the elements of a list, ascending -/
def setL (L : List (List UInt8)) : List (List UInt8) := L.eraseDups.mergeSort leB
theorem leB_trans : ∀ a b c : List UInt8, leB a b = true → leB b c = true → leB a c = true := fun a b c h1 h2 => by simp only [leB, decide_eq_true_eq] at *; exact List.le_trans h1 h2
theorem leB_total : ∀ a b : List UInt8, (leB a b || leB b a) = true := fun a b => by simp only [leB, Bool.or_eq_true, decide_eq_true_eq]; exact List.le_total a b
theorem erase_nodup (L : List (List UInt8)) : ∀ n, L.length ≤ n → L.eraseDups.Nodup := by
  intro n
  induction n generalizing L with
  | zero => intro h; have : L = [] := List.length_eq_zero_iff.1 (by omega); subst this; simp
  | succ n ih =>
    intro h
    cases L with
    | nil => simp
    | cons a L =>
      rw [List.eraseDups_cons]
      refine List.nodup_cons.2 ⟨?_, ih _ ?_⟩
      · rw [List.mem_eraseDups]; simp
      · have := List.length_filter_le (fun b => !b == a) L; simp at h ⊢; omega
theorem erase_len (L : List (List UInt8)) : ∀ n, L.length ≤ n → L.eraseDups.length ≤ L.length := by
  intro n
  induction n generalizing L with
  | zero => intro h; have : L = [] := List.length_eq_zero_iff.1 (by omega); subst this; simp
  | succ n ih =>
    intro h
    cases L with
    | nil => simp
    | cons a L =>
      rw [List.eraseDups_cons, List.length_cons, List.length_cons]
      have h1 := List.length_filter_le (fun b => !b == a) L
      have := ih (L.filter fun b => !b == a) (by simp at h ⊢; omega)
      omega
theorem set_mem (L : List (List UInt8)) (x : List UInt8) : x ∈ setL L ↔ x ∈ L := by
  unfold setL; rw [List.mem_mergeSort, List.mem_eraseDups]
theorem set_nodup (L : List (List UInt8)) : (setL L).Nodup := (List.mergeSort_perm _ _).nodup_iff.2 (erase_nodup L _ (Nat.le_refl _))
theorem set_len (L : List (List UInt8)) : (setL L).length ≤ L.length := by
  unfold setL; rw [(List.mergeSort_perm _ _).length_eq]; exact erase_len L _ (Nat.le_refl _)
theorem set_nil (L : List (List UInt8)) : setL L = [] ↔ L = [] := by
  constructor
  · intro h
    cases L with
    | nil => rfl
    | cons a L => have := (set_mem (a :: L) a).2 (by simp); rw [h] at this; simp at this
  · intro h; subst h; simp [setL]
def AscB (L : List (List UInt8)) : Prop := ∀ i, i + 1 < L.length → Op.bytesLess (L.getD i []) (L.getD (i + 1) []) = true
theorem set_asc (L : List (List UInt8)) : AscB (setL L) := by
  intro i hi
  have hs : (setL L).Pairwise fun a b => leB a b = true := List.pairwise_mergeSort leB_trans leB_total _
  have h1 := (List.pairwise_iff_getElem.1 hs) i (i + 1) (by omega) hi (by omega)
  have h2 := (List.pairwise_iff_getElem.1 (set_nodup L)) i (i + 1) (by omega) hi (by omega)
  rw [bytesLess_eq, List.getD, List.getD, List.getElem?_eq_getElem (by omega), List.getElem?_eq_getElem hi]
  simp only [leB, decide_eq_true_eq] at h1
  simp only [Option.getD_some, decide_eq_true_eq]
  rcases List.le_iff_lt_or_eq.1 h1 with h | h
  · exact h
  · exact absurd h h2
/-- whatever has the same elements, each once, is sorted to the set -/
theorem set_of_perm {L ss : List (List UInt8)} (hn : ss.Nodup) (hm : ∀ x, x ∈ ss ↔ x ∈ L) : ss.mergeSort leB = setL L := by
  refine mergeSort_of_perm ((List.perm_ext_iff_of_nodup hn (erase_nodup L _ (Nat.le_refl _))).2 fun x => ?_)
  rw [hm, List.mem_eraseDups]
/-- the bigrams of a text, in order -/
def bigrA : List UInt8 → List (List UInt8)
  | a :: b :: r => [a, b] :: bigrA (b :: r)
  | _ => []
theorem bigr_len : ∀ l : List UInt8, (bigrA l).length = l.length - 1 := by
  intro l
  induction l using bigrA.induct with
  | case1 a b r ih => simp [bigrA, ih]
  | case2 l h =>
    match l, h with
    | [], _ => rfl
    | [a], _ => rfl
    | a :: b :: r, h => exact absurd rfl (h a b r)
theorem bigr_snoc (l : List UInt8) (a b : UInt8) : bigrA (l ++ [a, b]) = bigrA (l ++ [a]) ++ [[a, b]] := by
  induction l with
  | nil => rfl
  | cons c l ih =>
    cases l with
    | nil => rfl
    | cons d l => simp only [List.cons_append, bigrA] at ih ⊢; rw [ih]
def wrapT (t : List UInt8) : List UInt8 := [95] ++ t ++ [95]
/-- the bigrams of all tokens of a text -/
def gramsAll (T : List (List UInt8)) : List (List UInt8) := T.flatMap fun t => bigrA (wrapT t)
def gramsL (l : List UInt8) : List (List UInt8) := setL (gramsAll (toks l))
theorem gramsAll_len (T : List (List UInt8)) : T ≠ [] → (gramsAll T).length = (joinL T).length + 1 := by
  induction T with
  | nil => intro h; exact absurd rfl h
  | cons t T ih =>
    intro _
    have e : (gramsAll (t :: T)).length = t.length + 1 + (gramsAll T).length := by
      simp only [gramsAll, List.flatMap_cons, List.length_append, bigr_len, wrapT]; simp; try omega
    by_cases hT : T = []
    · subst hT; rw [e]; simp [gramsAll, joinL]
    · rw [e, ih hT, join_cons_ne _ _ hT]; simp; omega
/-- a text of 64 bytes at most has 65 grams at most; one that is not empty has some -/
theorem grams_bound {l : List UInt8} (h : l.length ≤ 64) : (gramsL l).length ≤ 65 := by
  have h1 := set_len (gramsAll (toks l))
  have h2 := (toksA_len l []).1
  by_cases hT : toks l = []
  · unfold gramsL; rw [hT]; simp [gramsAll, setL]
  · have h3 := gramsAll_len (toks l) hT
    unfold gramsL; unfold toks at *; simp at h2; omega
theorem grams_some {l : List UInt8} (h : toks l ≠ []) : gramsL l ≠ [] := by
  intro e
  have e2 := (set_nil _).1 e
  have := gramsAll_len (toks l) h
  rw [e2] at this; simp at this
theorem pos_asc (l : List UInt8) : ∀ j, j + l.length ≤ 26 → AscB (posL j l) := by
  intro j hj i hi
  have key : ∀ (l : List UInt8) (j i : Nat), i < l.length → (posL j l).getD i [] = [UInt8.ofNat (97 + (j + i)), l.getD i 0] := by
    intro l
    induction l with
    | nil => intro j i hi; simp at hi
    | cons c l ih =>
      intro j i hi
      cases i with
      | zero => rfl
      | succ i =>
        have := ih (j + 1) i (by simp at hi; omega)
        simp only [posL, List.getD_cons_succ] at this ⊢
        rw [this]; congr 2; congr 1; omega
  rw [posL_len] at hi
  rw [key l j i (by omega), key l j (i + 1) (by omega), bytesLess_eq, decide_eq_true_iff]
  refine List.cons_lt_cons_iff.2 (.inl ?_)
  rw [UInt8.lt_iff_toNat_lt, UInt8.toNat_ofNat', UInt8.toNat_ofNat']; omega
end Go.Proofs.YtmakailcpkogdaaGreatDoor
end
section
/-
  DERIVED: THE SHELF's CONTRACTS AT THIS DUMP, IN PLAIN WORDS (tools/lay-plain.mjs out of 'TryzIter.lean', which tools/lay-shelf.mjs wrote): THE SAME DECLARATIONS UNDER THE SAME NAMES: 'import', 'namespace', 'open', 'def', 'theorem' AND NOTHING ELSE: no command of the shelf's: FOR A HAND-IN. Each laying: the table of numbers ('.._ren') and one theorem, a field a fact of the dump's own or the kernel's comparison; each contract: ONE APPLICATION.
-/
namespace Go.Proofs
open Go.Shelf
def Tryz.keys326_ren : Go.Shelf.Ren := ⟨fun | 7 => 326 | 10 => 337 | n => n, fun | 23 => 321 | 26 => 9 | 3 => 322 | 28 => 318 | 0 => 0 | 27 => 317 | 33 => 168 | 4 => 4 | n => n, fun | n => n⟩
theorem Tryz.keys326 : Go.Proofs.SlLaysZ.n7 Tryz.prog Tryz.keys326_ren := {
  mixed := by kernel_rfl
  f7 := ⟨Tryz.f326.name, by decide, Tryz.func326.trans (congrArg some (by kernel_rfl))⟩
  f10 := ⟨Tryz.f337.name, by decide, Tryz.func337.trans (congrArg some (by kernel_rfl))⟩
  t0 := Tryz.underlying0
  a0 := Tryz.isAgg0
  z0 := Tryz.sizeOf0
  v0 := Tryz.zeroValue0
  t4 := Tryz.underlying4
  a4 := Tryz.isAgg4
  z4 := Tryz.sizeOf4
  v4 := Tryz.zeroValue4
  t23 := Tryz.underlying321
  a23 := Tryz.isAgg321
  z23 := Tryz.sizeOf321
  v23 := Tryz.zeroValue321
  t26 := Tryz.underlying9
  a26 := Tryz.isAgg9
  z26 := Tryz.sizeOf9
  v26 := Tryz.zeroValue9
  t27 := Tryz.underlying317
  a27 := Tryz.isAgg317
  z27 := Tryz.sizeOf317
  v27 := Tryz.zeroValue317
  t28 := Tryz.underlying318
  a28 := Tryz.isAgg318
  z28 := Tryz.sizeOf318
  v28 := Tryz.zeroValue318
  t33 := Tryz.underlying168
  a33 := Tryz.isAgg168
  z33 := Tryz.sizeOf168
  v33 := Tryz.zeroValue168 }
def Tryz.sorted325_ren : Go.Shelf.Ren := ⟨fun | 6 => 325 | 8 => 335 | 9 => 336 | 11 => 339 | 13 => 341 | 12 => 340 | 23 => 352 | 24 => 290 | 14 => 343 | 15 => 344 | 16 => 345 | 17 => 346 | 18 => 347 | 19 => 348 | 20 => 349 | 21 => 350 | 22 => 351 | 25 => 353 | 26 => 354 | 27 => 355 | 28 => 356 | 29 => 357 | 30 => 358 | 31 => 359 | n => n, fun | 26 => 9 | 28 => 318 | 24 => 27 | 0 => 0 | 3 => 3 | 37 => 138 | 48 => 283 | 50 => 39 | 4 => 4 | 40 => 333 | 39 => 332 | 45 => 187 | 5 => 5 | 9 => 9 | 51 => 338 | 55 => 341 | 57 => 343 | 58 => 344 | 33 => 168 | n => n, fun | n => n⟩
theorem Tryz.sorted325 : Go.Proofs.SlLaysZ.n6 Tryz.prog Tryz.sorted325_ren := {
  mixed := by kernel_rfl
  f6 := ⟨Tryz.f325.name, by decide, Tryz.func325.trans (congrArg some (by kernel_rfl))⟩
  f8 := ⟨Tryz.f335.name, by decide, Tryz.func335.trans (congrArg some (by kernel_rfl))⟩
  f11 := ⟨Tryz.f339.name, by decide, Tryz.func339.trans (congrArg some (by kernel_rfl))⟩
  t0 := Tryz.underlying0
  a0 := Tryz.isAgg0
  z0 := Tryz.sizeOf0
  v0 := Tryz.zeroValue0
  t24 := Tryz.underlying27
  a24 := Tryz.isAgg27
  z24 := Tryz.sizeOf27
  v24 := Tryz.zeroValue27
  t26 := Tryz.underlying9
  a26 := Tryz.isAgg9
  z26 := Tryz.sizeOf9
  v26 := Tryz.zeroValue9
  t28 := Tryz.underlying318
  a28 := Tryz.isAgg318
  z28 := Tryz.sizeOf318
  v28 := Tryz.zeroValue318
  i26 := by kernel_rfl }
def Tryz.sort336_ren : Go.Shelf.Ren := ⟨fun | 6 => 336 | 8 => 341 | 9 => 340 | 19 => 352 | 20 => 290 | 21 => 343 | 22 => 344 | 23 => 345 | 24 => 346 | 25 => 347 | 26 => 348 | 27 => 349 | 28 => 350 | 29 => 351 | 36 => 353 | 31 => 354 | 32 => 355 | 37 => 356 | 38 => 357 | 39 => 358 | 41 => 359 | n => n, fun | 27 => 27 | 29 => 9 | 3 => 3 | 32 => 138 | 26 => 27 | 0 => 0 | 44 => 283 | 46 => 39 | 4 => 4 | 36 => 333 | 35 => 332 | 41 => 187 | 5 => 5 | 9 => 9 | 53 => 338 | 57 => 341 | 63 => 343 | 64 => 344 | n => n, fun | n => n⟩
theorem Tryz.sort336 : Go.Proofs.SlLaysM.n6 Tryz.prog Tryz.sort336_ren := {
  mixed := by kernel_rfl
  f6 := ⟨Tryz.f336.name, by decide, Tryz.func336.trans (congrArg some (by kernel_rfl))⟩
  f8 := Tryz.func341.trans (congrArg some (by kernel_rfl))
  f9 := ⟨Tryz.f340.name, by decide, Tryz.func340.trans (congrArg some (by kernel_rfl))⟩
  f19 := Tryz.func352.trans (congrArg some (by kernel_rfl))
  f20 := Tryz.func290.trans (congrArg some (by kernel_rfl))
  f21 := ⟨Tryz.f343.name, by decide, Tryz.func343.trans (congrArg some (by kernel_rfl))⟩
  f22 := ⟨Tryz.f344.name, by decide, Tryz.func344.trans (congrArg some (by kernel_rfl))⟩
  f23 := ⟨Tryz.f345.name, by decide, Tryz.func345.trans (congrArg some (by kernel_rfl))⟩
  f24 := ⟨Tryz.f346.name, by decide, Tryz.func346.trans (congrArg some (by kernel_rfl))⟩
  f25 := ⟨Tryz.f347.name, by decide, Tryz.func347.trans (congrArg some (by kernel_rfl))⟩
  f26 := ⟨Tryz.f348.name, by decide, Tryz.func348.trans (congrArg some (by kernel_rfl))⟩
  f27 := ⟨Tryz.f349.name, by decide, Tryz.func349.trans (congrArg some (by kernel_rfl))⟩
  f28 := ⟨Tryz.f350.name, by decide, Tryz.func350.trans (congrArg some (by kernel_rfl))⟩
  f29 := ⟨Tryz.f351.name, by decide, Tryz.func351.trans (congrArg some (by kernel_rfl))⟩
  f31 := Tryz.func354.trans (congrArg some (by kernel_rfl))
  f32 := Tryz.func355.trans (congrArg some (by kernel_rfl))
  f36 := ⟨Tryz.f353.name, by decide, Tryz.func353.trans (congrArg some (by kernel_rfl))⟩
  f37 := ⟨Tryz.f356.name, by decide, Tryz.func356.trans (congrArg some (by kernel_rfl))⟩
  f38 := ⟨Tryz.f357.name, by decide, Tryz.func357.trans (congrArg some (by kernel_rfl))⟩
  f39 := ⟨Tryz.f358.name, by decide, Tryz.func358.trans (congrArg some (by kernel_rfl))⟩
  f41 := ⟨Tryz.f359.name, by decide, Tryz.func359.trans (congrArg some (by kernel_rfl))⟩
  t0 := Tryz.underlying0
  a0 := Tryz.isAgg0
  z0 := Tryz.sizeOf0
  v0 := Tryz.zeroValue0
  t3 := Tryz.underlying3
  a3 := Tryz.isAgg3
  z3 := Tryz.sizeOf3
  v3 := Tryz.zeroValue3
  t4 := Tryz.underlying4
  a4 := Tryz.isAgg4
  z4 := Tryz.sizeOf4
  v4 := Tryz.zeroValue4
  t5 := Tryz.underlying5
  a5 := Tryz.isAgg5
  z5 := Tryz.sizeOf5
  v5 := Tryz.zeroValue5
  t9 := Tryz.underlying9
  a9 := Tryz.isAgg9
  z9 := Tryz.sizeOf9
  v9 := Tryz.zeroValue9
  t26 := Tryz.underlying27
  a26 := Tryz.isAgg27
  z26 := Tryz.sizeOf27
  v26 := Tryz.zeroValue27
  t27 := Tryz.underlying27
  a27 := Tryz.isAgg27
  z27 := Tryz.sizeOf27
  v27 := Tryz.zeroValue27
  t29 := Tryz.underlying9
  a29 := Tryz.isAgg9
  z29 := Tryz.sizeOf9
  v29 := Tryz.zeroValue9
  t32 := Tryz.underlying138
  a32 := Tryz.isAgg138
  z32 := Tryz.sizeOf138
  v32 := Tryz.zeroValue138
  t35 := Tryz.underlying332
  a35 := Tryz.isAgg332
  z35 := Tryz.sizeOf332
  v35 := Tryz.zeroValue332
  t36 := Tryz.underlying333
  a36 := Tryz.isAgg333
  z36 := Tryz.sizeOf333
  v36 := Tryz.zeroValue333
  t41 := Tryz.underlying187
  a41 := Tryz.isAgg187
  z41 := Tryz.sizeOf187
  v41 := Tryz.zeroValue187
  t44 := Tryz.underlying283
  a44 := Tryz.isAgg283
  z44 := Tryz.sizeOf283
  v44 := Tryz.zeroValue283
  t46 := Tryz.underlying39
  a46 := Tryz.isAgg39
  z46 := Tryz.sizeOf39
  v46 := Tryz.zeroValue39
  t53 := Tryz.underlying338
  a53 := Tryz.isAgg338
  z53 := Tryz.sizeOf338
  v53 := Tryz.zeroValue338
  t57 := Tryz.underlying341
  a57 := Tryz.isAgg341
  z57 := Tryz.sizeOf341
  v57 := Tryz.zeroValue341
  t63 := Tryz.underlying343
  a63 := Tryz.isAgg343
  z63 := Tryz.sizeOf343
  v63 := Tryz.zeroValue343
  t64 := Tryz.underlying344
  a64 := Tryz.isAgg344
  z64 := Tryz.sizeOf344
  v64 := Tryz.zeroValue344 }
def Tryz.collect_ren : Go.Shelf.Ren := ⟨fun | 8 => 335 | 11 => 339 | n => n, fun | 26 => 9 | 28 => 318 | 24 => 27 | 0 => 0 | 33 => 168 | 4 => 4 | n => n, fun | n => n⟩
theorem Tryz.collect : Go.Proofs.SlLaysZ.n8 Tryz.prog Tryz.collect_ren := {
  mixed := by kernel_rfl
  f8 := ⟨Tryz.f335.name, by decide, Tryz.func335.trans (congrArg some (by kernel_rfl))⟩
  f11 := ⟨Tryz.f339.name, by decide, Tryz.func339.trans (congrArg some (by kernel_rfl))⟩
  t0 := Tryz.underlying0
  a0 := Tryz.isAgg0
  z0 := Tryz.sizeOf0
  v0 := Tryz.zeroValue0
  t24 := Tryz.underlying27
  a24 := Tryz.isAgg27
  z24 := Tryz.sizeOf27
  v24 := Tryz.zeroValue27
  t26 := Tryz.underlying9
  a26 := Tryz.isAgg9
  z26 := Tryz.sizeOf9
  v26 := Tryz.zeroValue9
  t28 := Tryz.underlying318
  a28 := Tryz.isAgg318
  z28 := Tryz.sizeOf318
  v28 := Tryz.zeroValue318
  i26 := by kernel_rfl }
end Go.Proofs
end
section
/- The contracts of slices.Sorted(maps.Keys(m)) at this program (written by the kit's lay-iter.mjs, the layings apart). -/
namespace Go.Proofs
open Go.RowKit Go.Maps Go.Sort Go.Shelf


theorem Tryz.sorts325 (m : Nat) : AnyZ.SortsIn Tryz.prog Tryz.sorted325_ren Fence.wide m :=
  ⟨fun blk off cap ss W hH hblk hsz => callsIn_wide.2 (AnyM.slices_Sort_string Tryz.sort336 blk off cap ss W hH hblk hsz),
   fun p cap W => callsIn_wide.2 (AnyM.slices_Sort_string_none Tryz.sort336 p cap W)⟩

theorem Tryz.maps_Keys (mb : Option Nat) (W : World) : CallsIn Fence.wide 5 Tryz.prog 326 #[.map mb] W fun e w' => e = .returned (.func (.func 337) #[] #[.pointer (some ⟨W.heap.size, 0, none⟩)]) ∧ w' = W.alloc (.cells #[.map mb] 321) :=
  AnyZ.keys_in Tryz.keys326 Fence.wide 5 trivial rfl mb W

set_option maxHeartbeats 1000000 in
theorem Tryz.slices_Sorted_keys {H : Type} (b nn : Nat) (D0 : DataW H) (R : Value → Option (DataW H × List MemPlace)) (w : World) (hown : w.ownsMap Tryz.prog 9 R b nn D0) (hmax : Maps.size D0 ≤ maxLen) (hbytes : Maps.size D0 * 16 ≤ 140737488355328) :
    CallsIn Fence.wide 5 Tryz.prog 325 #[.func (.func 337) #[] #[.pointer (some ⟨w.heap.size, 0, none⟩)]] (w.alloc (.cells #[.map (some b)] 321)) fun e w' => ∃ (v : Value) (ss : List (List UInt8)), e = .returned v ∧ ss.Perm (strKeys D0) ∧
      w'.ownsRow (w.alloc (.cells #[.map (some b)] 321)).heap.size 9 1 v ss.length ((ss.mergeSort (fun x y => decide (x ≤ y))).map encStr) ∧ (v = .slice none 0 0 ↔ ss = []) ∧ Below (w.alloc (.cells #[.map (some b)] 321)).heap.size (w.alloc (.cells #[.map (some b)] 321)) w' := by
  have hbl := hown.lt
  have hseq : SeqGives Fence.wide 2 Tryz.prog 337 #[.pointer (some ⟨w.heap.size, 0, none⟩)] encStr (fun ss => ss.Perm (strKeys D0)) (Maps.size D0) (w.alloc (.cells #[.map (some b)] 321)) :=
    AnyZ.keys_gives (ρ := Tryz.keys326_ren) { Tryz.keys326 with } Fence.wide _ trivial rfl (by omega) w.heap.size b nn D0 _ (by simp) (by simp) (by
      obtain ⟨es, clock, hb, Ft, hs, hD⟩ := hown
      exact ⟨es, clock, (Below.heap_alloc _ _ b hbl).trans hb, Ft, hs, hD⟩)
  exact AnyZ.sorted_in Tryz.sorted325 Fence.wide 5 trivial trivial trivial trivial rfl (by omega) (Tryz.sorts325 _) (enters_of Tryz.func336 (by kernel_rfl) rfl) 337 #[.pointer (some ⟨w.heap.size, 0, none⟩)] trivial (enters_of Tryz.func337 (by kernel_rfl) rfl) _ _ hmax hbytes _ hseq

set_option maxHeartbeats 1000000 in
theorem Tryz.slices_Sorted_keys_nil (w : World) :
    CallsIn Fence.wide 5 Tryz.prog 325 #[.func (.func 337) #[] #[.pointer (some ⟨w.heap.size, 0, none⟩)]] (w.alloc (.cells #[.map none] 321)) fun e w' => ∃ (v : Value) (ss : List (List UInt8)), e = .returned v ∧ ss = [] ∧
      w'.ownsRow (w.alloc (.cells #[.map none] 321)).heap.size 9 1 v ss.length ((ss.mergeSort (fun x y => decide (x ≤ y))).map encStr) ∧ (v = .slice none 0 0 ↔ ss = []) ∧ Below (w.alloc (.cells #[.map none] 321)).heap.size (w.alloc (.cells #[.map none] 321)) w' := by
  have hseq : SeqGives Fence.wide 2 Tryz.prog 337 #[.pointer (some ⟨w.heap.size, 0, none⟩)] encStr (fun ss : List (List UInt8) => ss = []) 0 (w.alloc (.cells #[.map none] 321)) :=
    AnyZ.keys_gives_nil (ρ := Tryz.keys326_ren) { Tryz.keys326 with } Fence.wide _ trivial rfl w.heap.size _ (by simp) (by simp)
  exact AnyZ.sorted_in Tryz.sorted325 Fence.wide 5 trivial trivial trivial trivial rfl (by omega) (Tryz.sorts325 _) (enters_of Tryz.func336 (by kernel_rfl) rfl) 337 #[.pointer (some ⟨w.heap.size, 0, none⟩)] trivial (enters_of Tryz.func337 (by kernel_rfl) rfl) _ 0 (Nat.zero_le _) (by omega) _ hseq



end Go.Proofs
end
section
/- schema: a line of the text of a schema. -/
set_option linter.unusedSimpArgs false
set_option linter.unusedVariables false
set_option maxRecDepth 100000
namespace Go.Proofs.YtmakailcpkogdaaGreatDoor
open Go.RowKit Cal
attribute [local go_sem] toList_mk mk_size
theorem wstr_k (B b : Nat) (bs : List Value) (s : ByteArray) (w : World) (h : Lib.IsBuilderF 165 5 B b bs w) (hlen : bs.length + s.size ≤ 140737488355328) (hBw : B ≤ w.heap.size) :
    Calls Tryz.prog 108 #[.pointer (some ⟨b, 0, none⟩), .string s] w fun e w' => e = .returned (.tuple #[.int .i64 s.size, .nilIface]) ∧ (Lib.BuilderAtF 165 5 B b (.pointer (some ⟨b, 0, none⟩)) (bs ++ Lib.strCells s) w' ∧ Below B w w' ∧ Lib.OthersKept 5 (some b) w w') :=
  Any.Builder_WriteString_k { Tryz.lays156 with } Tryz.Builder_Extra_156 B b bs s w h hlen hBw
theorem bstr_k (B b : Nat) (l : List UInt8) (w : World) (h : Lib.IsBuilderF 165 5 B b (Lib.byteCells l) w) (hBw : B ≤ w.heap.size) :
    Calls Tryz.prog 111 #[.pointer (some ⟨b, 0, none⟩)] w fun e w' => e = .returned (.string ⟨l.toArray⟩) ∧ Below B w w' :=
  (Any.Builder_String_any_k Tryz.lays169 Tryz.Builder_Extra_169 B b l w h hBw).mono fun e w' h => ⟨h.1, h.2.2.1⟩
/-- the builder holds these bytes -/
def HoldsB (B b : Nat) (l : List UInt8) (w : World) : Prop := Lib.IsBuilderF 165 5 B b (Lib.byteCells l) w ∧ B ≤ w.heap.size
theorem own_belowF {w w' : World} {B e size n : Nat} {v : Value} {xs : List Value} (h : w.ownsRowF B e size v n xs) (hb : Below w.heap.size w w') : w'.ownsRowF B e size v n xs := by
  refine ⟨h.1, ?_⟩
  rcases h.2 with h0 | ⟨g, cap, cur, fz, hv, hg, hh, rest⟩
  · exact .inl h0
  · exact .inr ⟨g, cap, cur, fz, hv, hg, (hb.block g (lt_of_blk hh)).trans hh, rest⟩
theorem HoldsB.below {B b : Nat} {l : List UInt8} {w w' : World} (h : HoldsB B b l w) (hb : Below w.heap.size w w') : HoldsB B b l w' := by
  have key : ∀ p, Lib.BuilderAtF 165 5 B b p (Lib.byteCells l) w → Lib.BuilderAtF 165 5 B b p (Lib.byteCells l) w' := by
    rintro p ⟨h1, v, h2, h3, h4⟩
    exact ⟨h1, v, blk_below hb (lt_of_blk h2) h2, own_belowF h3 hb, h4⟩
  exact ⟨h.1.imp (key _) (key _), Nat.le_trans h.2 hb.size⟩
theorem kept_below {e : TypeId} {b : Option Nat} {w w' : World} (hb : Below w.heap.size w w') : Lib.OthersKept e b w w' := fun k o h _ _ => blk_below hb (lt_of_blk h) h
/-- what a line leaves -/
def LinePost (B b : Nat) (l : List UInt8) (w : World) (e : Ending) (w' : World) : Prop := e = .returned (.tuple #[]) ∧ HoldsB B b l w' ∧ Below B w w' ∧ Lib.OthersKept 5 (some b) w w'
end Go.Proofs.YtmakailcpkogdaaGreatDoor
end
section
/- schema.Text. -/
set_option linter.unusedSimpArgs false
set_option linter.unusedVariables false
set_option maxRecDepth 100000
namespace Go.Proofs.YtmakailcpkogdaaGreatDoor
open Go.RowKit Cal
attribute [local go_sem] toList_mk mk_size
/-- the word of a kind -/
def kindW (k : Int) : List UInt8 := if k = 1 then [110, 97, 109, 101] else if k = 2 then [100, 97, 116, 101] else if k = 3 then [99, 111, 100, 101] else if k = 4 then [97, 100, 100, 114, 101, 115, 115] else []
theorem kindW_len (k : Int) : (kindW k).length ≤ 7 := by
  unfold kindW; repeat' split
  all_goals simp
def fieldLine (x : F2) : List UInt8 := joinL [[102, 105, 101, 108, 100], x.1, kindW x.2] ++ [10]
def titleLine (t : List UInt8) : List UInt8 := joinL [[116, 105, 116, 108, 101], t] ++ [10]
def nickLine (p : P2) : List UInt8 := joinL [[110, 105, 99, 107, 110, 97, 109, 101], p.1, p.2] ++ [10]
def streetLine (p : P2) : List UInt8 := joinL [[115, 116, 114, 101, 101, 116], p.1, p.2] ++ [10]
def textL (s : SchemaL) : List UInt8 := s.fields.flatMap fieldLine ++ (s.rules.titles.flatMap titleLine ++ (s.rules.nicks.flatMap nickLine ++ s.rules.streets.flatMap streetLine))
theorem join3_len (a b c : List UInt8) : (joinL [a, b, c]).length = a.length + b.length + c.length + 2 := by simp [joinL]; omega
theorem join2_len (a b : List UInt8) : (joinL [a, b]).length = a.length + b.length + 1 := by simp [joinL]; omega
theorem flat_bound {α : Type} {g : α → List UInt8} {m : Nat} : ∀ (L : List α), (∀ x ∈ L, (g x).length ≤ m) → (L.flatMap g).length ≤ L.length * m := by
  intro L
  induction L with
  | nil => intro _; simp
  | cons x L ih =>
    intro h
    have h1 := ih fun y hy => h y (List.mem_cons_of_mem _ hy)
    have h2 := h x List.mem_cons_self
    rw [List.flatMap_cons, List.length_append, List.length_cons, Nat.succ_mul]; omega
theorem wordB_len {t : List UInt8} (h : wordB t = true) : t.length ≤ 12 := by
  unfold wordB at h
  cases h1 : t.isEmpty <;> simp [h1] at h
  exact h.1
theorem getD_mem {α : Type} [Inhabited α] {L : List α} {p : α → Prop} (h : ∀ j, j < L.length → p (L.getD j default)) : ∀ x ∈ L, p x := by
  intro x hx
  obtain ⟨j, hj, rfl⟩ := List.mem_iff_getElem.1 hx
  have := h j hj
  rwa [List.getD, List.getElem?_eq_getElem hj] at this
/-- the lengths of all texts of a valid schema -/
theorem check_lens {s : SchemaL} (h : checkS s = 0) : (∀ x ∈ s.fields, x.1.length ≤ 12) ∧ (∀ t ∈ s.rules.titles, t.length ≤ 64) ∧ (∀ p ∈ s.rules.nicks, p.1.length ≤ 64 ∧ p.2.length ≤ 64) ∧ (∀ p ∈ s.rules.streets, p.1.length ≤ 64 ∧ p.2.length ≤ 64) := by
  obtain ⟨_, h2, h3⟩ := check_fields h
  obtain ⟨_, t1, t2, t3, _⟩ := check_zero h3
  have pr : ∀ L : List P2, pairsB L = true → ∀ p ∈ L, p.1.length ≤ 64 ∧ p.2.length ≤ 64 := fun L hL => getD_mem fun j hj => by
    have := pairs_at hL j hj
    unfold pairAtB at this
    simp only [Bool.and_eq_true] at this
    exact ⟨token_len this.1.1.1, token_len this.1.1.2⟩
  refine ⟨getD_mem fun j hj => ?_, ?_, pr _ t2, pr _ t3⟩
  · have := List.all_eq_true.1 h2 j (List.mem_range.2 hj)
    unfold fieldAtB at this
    simp only [Bool.and_eq_true] at this
    exact wordB_len this.1.1.1
  · refine getD_mem fun j hj => ?_
    have := List.all_eq_true.1 t1 j (List.mem_range.2 hj)
    unfold titleAt at this
    simp only [Bool.and_eq_true] at this
    exact token_len this.1
theorem field_kindW (kd : Int) (h1 : 1 ≤ kd) (h4 : kd ≤ 4) : ∀ w, (Instr.field 206 (.agg (kindAt kd)) 0).run Tryz.prog w = .ok (strV (kindW kd)) w := by
  obtain rfl | rfl | rfl | rfl : kd = 1 ∨ kd = 2 ∨ kd = 3 ∨ kd = 4 := by omega
  · exact fun w => by kernel_rfl
  · exact fun w => by kernel_rfl
  · exact fun w => by kernel_rfl
  · exact fun w => by kernel_rfl
theorem vec_block {w : World} {A : Nat} {L : List (List UInt8)} (h : w.heap[A]? = some (.cells (L.flatMap encS).toArray 9 (0, 0))) (n : Nat) (hn : n = L.length) : Vec w Any1 1 encS (.slice (some ⟨A, 0, none⟩) n n) L := by
  subst hn; exact RowB.vec h _ (Nat.le_refl _)
theorem flat_take {α : Type} (g : α → List UInt8) (L : List α) (k : Nat) : ((L.take k).flatMap g).length ≤ (L.flatMap g).length := by
  conv => rhs; rw [← List.take_append_drop k L]
  rw [List.flatMap_append, List.length_append]; omega
theorem take_snocA {α : Type} [Inhabited α] (T : List α) (k : Nat) (h : k < T.length) : T.take (k + 1) = T.take k ++ [T.getD k default] := by
  rw [List.take_succ_eq_append_getElem h, List.getD, List.getElem?_eq_getElem h]; rfl
theorem kept_block {b k : Nat} {w w' : World} (hk : Lib.OthersKept 5 (some b) w w') {cs : Array Value} {t : TypeId} {fr : Nat × Nat} (h : w.heap[k]? = some (.cells cs t fr)) (hne : k ≠ b) (hT : t ≠ 5) : w'.heap[k]? = some (.cells cs t fr) :=
  hk k _ h (fun e => hne (by injection e)) (fun c fz e => by injection e with e1 e2; exact hT e2)
theorem HoldsB.lt {B b : Nat} {l : List UInt8} {w : World} (h : HoldsB B b l w) : b < w.heap.size := by
  rcases h.1 with ⟨_, v, h2, _⟩ | ⟨_, v, h2, _⟩ <;> exact lt_of_blk h2
/-- what the loops of Text hold: the text so far; the blocks of w1 as they were -/
def TextAt (w1 : World) (l : List UInt8) (wr : World) : Prop := HoldsB w1.heap.size w1.heap.size l wr ∧ Below w1.heap.size w1 wr
theorem TextAt.below {w1 wr w' : World} {l : List UInt8} (h : TextAt w1 l wr) (hb : Below wr.heap.size wr w') : TextAt w1 l w' := ⟨h.1.below hb, h.2.trans (hb.mono h.2.size)⟩
end Go.Proofs.YtmakailcpkogdaaGreatDoor
end
section
/- gram: of, Set: the elements of a list of texts, ascending. -/
set_option linter.unusedSimpArgs false
set_option linter.unusedVariables false
set_option maxRecDepth 100000
namespace Go.Proofs.YtmakailcpkogdaaGreatDoor
open Go.RowKit Go.Maps
attribute [local go_sem] toList_mk mk_size
theorem lawS : Keyed Tryz.prog 9 := string_keyed Tryz.underlying9
def unitD : DataW Unit := .agg []
/-- the set of the first texts of a list, as a map's datum -/
def setD (L : List (List UInt8)) : DataW Unit := setOf unitD (L.map Lit.string)
theorem keyLit (L : List (List UInt8)) : ∀ x ∈ L.map Lit.string, WideAt.IsKeyLit x := by
  intro x hx
  obtain ⟨y, _, rfl⟩ := List.mem_map.1 hx
  trivial
theorem setD_snoc (L : List (List UInt8)) (x : List UInt8) : setD (L ++ [x]) = (setD L).put (.string x) unitD := by
  unfold setD; rw [List.map_append, List.map_cons, List.map_nil, setOf_snoc]
set_option maxHeartbeats 2000000 in
theorem of_any (S : Nat → Prop) (v : Value) (L : List (List UInt8)) (w : World) (h : Vec w S 1 encS v L) (hn : L.length ≤ 1000000) (hL : ∀ t ∈ L, t.length ≤ 1000000) :
    Calls Tryz.prog 327 #[v] w fun e w' => e = .returned (.map (some w.heap.size)) ∧ w'.ownsMap Tryz.prog 9 unitElem w.heap.size L.length (setD L) ∧ Below w.heap.size w w' := by
  have hmm := @run_makeMap Tryz.prog
  obtain ⟨a, cap, rfl⟩ := h.slice
  by_cases hz : L = []
  · subst hz
    clear h
    go_enter Tryz.func327, Tryz.ntmps327
    go_wp2
    refine wp_loop_rounds 1 ?_; rw [rounds_succ]
    go_wp2
    go_ret
    exact ⟨rfl, World.ownsMap_made _ _ _ _, (Below.refl _ _).alloc (Nat.le_refl _) _⟩
  · obtain ⟨b, off, rfl, _, hb, hc⟩ := vec_cell1 h (List.length_pos_iff.2 hz)
    have HC := Lib.hid hc; have HLn := Lib.hid hL
    clear hc h hz hL
    go_enter Tryz.func327, Tryz.ntmps327
    go_wp2
    go_loopw [9] (fun i wr => ∃ k : Nat, k ≤ L.length ∧ i = .int .i64 k ∧ wr.ownsMap Tryz.prog 9 unitElem w.heap.size k (setD (L.take k)) ∧ Below w.heap.size w wr) (fun i _ => L.length - (intOf i).toNat)
    case atStart => exact ⟨0, by omega, rfl, World.ownsMap_made _ _ _ _, (Below.refl _ _).alloc (Nat.le_refl _) _⟩
    case round =>
      obtain ⟨k, hk, rfl, ho, hbw⟩ := hrel
      have HO := Lib.hid ho; have HB := Lib.hid hbw
      by_cases hlt : k < L.length
      · have hq : decide ((k : Int) < L.length) = true := by simp; omega
        have c1 : wr.cell? ⟨b, off + k, none⟩ = some (strV (L.getD k [])) := (hbw.cell (p := ⟨b, off + k, none⟩) hb).trans (HC.out k hlt)
        have hx1 : (L.getD k []).length ≤ 1000000 := by rw [List.getD, List.getElem?_eq_getElem hlt]; exact HLn.out _ (List.getElem_mem hlt)
        have htk := take_snocA L k hlt
        rw [show (default : List UInt8) = [] from rfl] at htk
        obtain ⟨x, hx⟩ : ∃ x, L.getD k [] = x := ⟨_, rfl⟩
        rw [hx] at c1 hx1 htk
        have HT := Lib.hid htk
        have hkey := Lib.hid (WideMaps.keyOf_string_mk (P := Tryz.prog) (k := 9) (s := ⟨x.toArray⟩) Tryz.underlying9 (by rw [mk_size]; unfold maxLen; omega))
        clear hx htk hbw ho
        go_wp2_with (at_mapUpdate; refine wpList_mapUpdate_own _ rfl _ _ _ 321 rfl 9 322 lawS Tryz.underlying321 (unitElem (H := Unit)) w.heap.size k _ rfl HO.out (by unfold maxLen; omega) _ _ _ rfl rfl hkey.out _ [] unitElem_mk ?_; intro w1 hown1 hgrow1)
        go_roundw
        case rel => exact ⟨k + 1, by omega, by go_num, by rw [HT.out, setD_snoc]; exact hown1, HB.out.grown hgrow1 HB.out.size (fun j hj => by cases hj; exact Nat.le_refl _)⟩
        case measure => simp [intOf]; omega
      · have hq : decide ((k : Int) < L.length) = false := by simp; omega
        go_wp2_with fail
        go_ret
        exact ⟨rfl, by rw [List.take_of_length_le (by omega)] at HO; exact HO.out.mono hk, HB.out⟩
theorem keyStr {l : Lit} (h : KeysOf Tryz.prog 9 l) : ∃ x, l = .string x := by
  obtain ⟨v, hv⟩ := h
  obtain ⟨x, _, h2, _⟩ := keyOf_str Tryz.underlying9 hv
  exact ⟨x, h2⟩
theorem setD_perm {w : World} {b n : Nat} {L : List (List UInt8)} (h : w.ownsMap Tryz.prog 9 unitElem b n (setD L)) : L.eraseDups.Perm (strKeys (setD L)) := by
  have ht := tidy_setOf unitD (L.map Lit.string) (keyLit L)
  obtain ⟨es, e1, hk⟩ := h.keysOf
  obtain ⟨es', e2, hp⟩ := ht
  have e3 : setD L = .map es' := e2
  have hes : es = es' := by rw [e1] at e3; cases e3; rfl
  subst hes
  rw [e1]
  refine perm_strKeys hp (fun p hp' => keyStr (hk p hp')) (erase_nodup L _ (Nat.le_refl _)) fun x => ?_
  rw [← e1, List.mem_eraseDups]
  unfold setD
  rw [has_setOf _ _ _ (keyLit L), List.any_map, List.any_eq_true]
  constructor
  · intro hx; exact ⟨x, hx, by simp [Lit.sameKey]⟩
  · rintro ⟨y, hy, he⟩
    have := WideAt.sameKey_eq (show (Lit.string y).sameKey (Lit.string x) = true from he)
    cases this; exact hy
theorem flat_enc (L : List (List UInt8)) : L.map encStr = L.flatMap encS := by
  induction L with
  | nil => rfl
  | cons a L ih => rw [List.map_cons, List.flatMap_cons, ih]; rfl
set_option maxHeartbeats 1000000 in
/-- the elements of a list, ascending, in a new slice -/
theorem set_any (S : Nat → Prop) (v : Value) (L : List (List UInt8)) (w : World) (h : Vec w S 1 encS v L) (hn : L.length ≤ 1000000) (hL : ∀ t ∈ L, t.length ≤ 1000000) :
    Calls Tryz.prog 308 #[v] w fun e w' => ∃ v', e = .returned v' ∧ OwnAt w v' (setL L) w' := by
  have HV := Lib.hid h; have HLn := Lib.hid hL
  clear h hL
  go_enter Tryz.func308, Tryz.ntmps308
  go_wp2_with fail
  refine (of_any S v L _ HV.out hn HLn.out).mono ?_
  rintro e w1 ⟨rfl, ho, hb⟩
  have HO := Lib.hid ho; have HB := Lib.hid hb
  clear ho hb
  go_wp2_with fail
  refine ((callsIn_wide (n := 5)).1 (Tryz.maps_Keys _ _)).mono ?_
  rintro e w' ⟨rfl, rfl⟩
  go_wp2_with fail
  refine ((callsIn_wide (n := 5)).1 (Tryz.slices_Sorted_keys w.heap.size L.length (setD L) unitElem w1 HO.out (by have := HO.out.size_le; unfold maxLen; omega) (by have := HO.out.size_le; omega))).mono ?_
  rintro e w2 ⟨v', ss, rfl, hp, hrow, _, hb2⟩
  have e1 : ss.mergeSort leB = setL L := mergeSort_of_perm (hp.trans (setD_perm HO.out).symm)
  have e2 : ss.length = (setL L).length := by rw [← e1, (List.mergeSort_perm _ _).length_eq]
  have hrow2 : w2.ownsRow (w1.alloc (.cells #[.map (some w.heap.size)] 321)).heap.size 9 1 v' (setL L).length ((setL L).flatMap encS) := by
    rw [← flat_enc, ← e2, ← e1]; exact hrow
  have HR := Lib.hid hrow2
  have HB2 := Lib.hid ((HB.out.alloc HB.out.size (.cells #[.map (some w.heap.size)] 321)).trans (hb2.mono (by have := HB.out.size; simp; omega)))
  clear e1 e2 hrow hrow2 hp hb2
  have hbz := HB.out.size
  go_wp2_with fail
  go_ret
  exact ⟨v', rfl, ownsRow_base_a HR.out (by simp; omega), HB2.out⟩
end Go.Proofs.YtmakailcpkogdaaGreatDoor
end
section
/- Plain law: how long a normal form is; an error leaves nothing. -/
set_option linter.unusedSimpArgs false
set_option linter.unusedVariables false
set_option maxRecDepth 100000
namespace Go.Proofs.YtmakailcpkogdaaGreatDoor
open Go.RowKit Cal
/-- what a normal form may be, with its error -/
def FormOk (p : List UInt8 × Int) : Prop := p.1.length ≤ 64 ∧ (p.2 ≠ 0 → p.1 = [])
theorem FormOk.err (e : Int) : FormOk ([], e) := ⟨by simp, fun _ => rfl⟩
theorem nameN_form (r : RulesL) (l : List UInt8) : FormOk (nameN r l) := by
  unfold nameN
  repeat' split
  all_goals first | exact FormOk.err _ | skip
  all_goals exact ⟨by dsimp only; omega, fun h => absurd rfl h⟩
theorem addrN_form (r : RulesL) (l : List UInt8) : FormOk (addrN r l) := by
  unfold addrN
  repeat' split
  all_goals first | exact FormOk.err _ | skip
  all_goals exact ⟨by dsimp only; omega, fun h => absurd rfl h⟩
theorem codeN_form (l : List UInt8) : FormOk (codeN l) := by
  unfold codeN
  repeat' split
  all_goals first | exact FormOk.err _ | skip
  all_goals exact ⟨by dsimp only; omega, fun h => absurd rfl h⟩
theorem dayF_form (y m d : List UInt8) : FormOk (dayF y m d) := by
  unfold dayF
  cases vldB (numI y) (numI m) (numI d)
  · exact FormOk.err _
  · exact ⟨by show (digits8 _ _ _).length ≤ 64; rw [digits8_len]; omega, fun h => absurd rfl h⟩
theorem dayN_form (l : List UInt8) : FormOk (dayN l) := by
  unfold dayN
  repeat' split
  all_goals first | exact FormOk.err _ | exact dayF_form _ _ _
theorem valueN_form (s : SchemaL) (f : Int) (l : List UInt8) : FormOk (valueN s f l) := by
  unfold valueN normK
  repeat' split
  all_goals first | exact FormOk.err _ | exact nameN_form _ _ | exact dayN_form _ | exact codeN_form _ | exact addrN_form _ _
theorem findN_in {s : SchemaL} {f : Nat} (h : checkS s = 0) (hf : f < s.fields.length) : findN s f = ((s.fields.getD f default).2, 0) := by
  unfold findN
  rw [if_pos h, if_pos (by omega), Int.toNat_natCast]
end Go.Proofs.YtmakailcpkogdaaGreatDoor
end
section
/- Plain law: grams of a normal form: ascending, not more than 80, none only of the empty text. -/
set_option linter.unusedSimpArgs false
set_option linter.unusedVariables false
set_option maxRecDepth 100000
namespace Go.Proofs.YtmakailcpkogdaaGreatDoor
open Go.RowKit Cal
theorem nameN_toks {r : RulesL} {l v : List UInt8} (h : nameN r l = (v, 0)) : ∃ M : List (List UInt8), (∀ t ∈ M, okT t) ∧ v = joinL M ∧ M.length ≤ 6 ∧ v.length ≤ 64 := by
  unfold nameN at h
  by_cases hc : checkR r = 0
  · rw [if_pos hc] at h
    by_cases hv : foldV l = true
    · rw [if_pos hv] at h
      obtain ⟨h1, _⟩ := nameToks_same hc (toks (foldL l))
      generalize nameToks r (toks (foldL l)) = M at h h1
      by_cases hb : 6 < M.length ∨ 64 < (joinL M).length
      · rw [if_pos hb] at h; simp at h
      · rw [if_neg hb] at h
        obtain rfl : joinL M = v := congrArg Prod.fst h
        exact ⟨M, h1, rfl, by omega, by omega⟩
    · rw [if_neg hv] at h; simp at h
  · rw [if_neg hc] at h
    exact absurd (congrArg Prod.snd h) hc
theorem addrN_toks {r : RulesL} {l v : List UInt8} (h : addrN r l = (v, 0)) : ∃ M : List (List UInt8), (∀ t ∈ M, okT t) ∧ v = joinL M ∧ M.length ≤ 6 ∧ v.length ≤ 64 := by
  unfold addrN at h
  by_cases hc : checkR r = 0
  · rw [if_pos hc] at h
    obtain ⟨_, _, _, h3, _⟩ := check_zero hc
    by_cases hv : foldV l = true
    · rw [if_pos hv] at h
      have hok := toks_ok l
      generalize toks (foldL l) = T at h hok
      have hM : ∀ t ∈ order2 (T.map (addrTok r)), okT t := by
        intro t ht
        obtain ⟨x, hx, rfl⟩ := List.mem_map.1 (order2_mem ht)
        exact (addrTok_same h3 (hok x hx)).1
      have hlen : (order2 (T.map (addrTok r))).length = T.length := by rw [order2_length, List.length_map]
      by_cases hb : 6 < T.length ∨ 64 < (joinL (order2 (T.map (addrTok r)))).length
      · rw [if_pos hb] at h; simp at h
      · rw [if_neg hb] at h
        obtain rfl : joinL (order2 (T.map (addrTok r))) = v := congrArg Prod.fst h
        exact ⟨_, hM, rfl, by omega, by omega⟩
    · rw [if_neg hv] at h; simp at h
  · rw [if_neg hc] at h
    exact absurd (congrArg Prod.snd h) hc
/-- the grams of a normal form of a kind -/
def gramsK (k : Int) (l : List UInt8) : List (List UInt8) := if l = [] then [] else if k = 2 then posL 0 l else if k = 3 then [61 :: l] else gramsL l
theorem asc_one (x : List UInt8) : AscB [x] := by intro i hi; simp at hi
theorem asc_nil : AscB [] := by intro i hi; simp at hi
def GramsOk (L : List (List UInt8)) (v : List UInt8) : Prop := AscB L ∧ L.length ≤ 80 ∧ (L = [] ↔ v = [])
theorem toks_gramsOk {v : List UInt8} {M : List (List UInt8)} (h0 : v ≠ []) (h1 : ∀ t ∈ M, okT t) (h2 : v = joinL M) (h3 : v.length ≤ 64) : GramsOk (gramsL v) v := by
  have ht : toks v = M := by rw [h2]; exact toks_join M h1
  have hM : M ≠ [] := by intro e; subst e; exact h0 h2
  refine ⟨set_asc _, by have := grams_bound h3; omega, ⟨fun e => absurd e (grams_some (by rw [ht]; exact hM)), fun e => absurd e h0⟩⟩
theorem dayN_len {l v : List UInt8} (h : dayN l = (v, 0)) : v.length = 8 := by
  have := dayN_read h
  unfold readB at this
  cases hd : decide (v.length = 8)
  · rw [hd] at this; cases this
  · simpa using hd
theorem gramsK_law {s : SchemaL} {f kf : Int} {l v : List UInt8} (h : valueN s f l = (v, 0)) (hk : findN s f = (kf, 0)) : GramsOk (gramsK kf v) v := by
  by_cases hv : v = []
  · subst hv
    exact ⟨by unfold gramsK; rw [if_pos rfl]; exact asc_nil, by unfold gramsK; rw [if_pos rfl]; simp, by unfold gramsK; simp⟩
  · have hkk := findN_kind (s := s) (f := f) (by rw [hk])
    unfold valueN at h
    rw [hk] at h hkk
    dsimp only at h hkk
    rw [if_pos rfl] at h
    by_cases hl : l = []
    · rw [if_pos hl] at h; exact absurd (congrArg Prod.fst h).symm hv
    · rw [if_neg hl] at h
      unfold gramsK
      rw [if_neg hv]
      rcases hkk with rfl | rfl | rfl | rfl
      · rw [if_neg (by omega), if_neg (by omega)]
        obtain ⟨M, h1, h2, _, h3⟩ := nameN_toks (show nameN s.rules l = (v, 0) from h)
        exact toks_gramsOk hv h1 h2 h3
      · rw [if_pos rfl]
        have h8 := dayN_len (show dayN l = (v, 0) from h)
        exact ⟨pos_asc v 0 (by omega), by rw [posL_len]; omega, ⟨fun e => by have := congrArg List.length e; rw [posL_len] at this; simp at this; exact this, fun e => absurd e hv⟩⟩
      · rw [if_neg (by omega), if_pos rfl]
        exact ⟨asc_one _, by simp, by simp [hv]⟩
      · rw [if_neg (by omega), if_neg (by omega)]
        obtain ⟨M, h1, h2, _, h3⟩ := addrN_toks (show addrN s.rules l = (v, 0) from h)
        exact toks_gramsOk hv h1 h2 h3
end Go.Proofs.YtmakailcpkogdaaGreatDoor
end
section
/- gram.Grams. -/
set_option linter.unusedSimpArgs false
set_option linter.unusedVariables false
set_option maxRecDepth 100000
namespace Go.Proofs.YtmakailcpkogdaaGreatDoor
open Go.RowKit
attribute [local go_sem] toList_mk mk_size bytes_append
theorem wrapT_cons (t : List UInt8) : wrapT t = 95 :: (t ++ [95]) := rfl
theorem bigr_getD (l : List UInt8) : ∀ j, j + 1 < l.length → (bigrA l).getD j [] = [l.getD j 0, l.getD (j + 1) 0] := by
  induction l using bigrA.induct with
  | case1 a b r ih =>
    intro j hj
    cases j with
    | zero => rfl
    | succ j =>
      have := ih j (by simp at hj ⊢; omega)
      simp only [bigrA, List.getD_cons_succ] at this ⊢
      exact this
  | case2 l h =>
    intro j hj
    match l, h with
    | [], _ => simp at hj
    | [a], _ => simp at hj
    | a :: b :: r, h => exact absurd rfl (h a b r)
theorem take_two (l : List UInt8) (j : Nat) (h : j + 1 < l.length) : ((⟨l.toArray⟩ : ByteArray).extract j (j + 2)) = ⟨[l.getD j 0, l.getD (j + 1) 0].toArray⟩ := by
  have := ext_mk l j (j + 2) (by omega)
  unfold mkS at this
  rw [this]
  congr 2
  rw [List.drop_take, List.drop_eq_getElem_cons (by omega), List.drop_eq_getElem_cons (by omega), List.getD, List.getD, List.getElem?_eq_getElem (by omega), List.getElem?_eq_getElem h]
  rw [show j + 2 - j = 2 by omega]; rfl
theorem gramsAll_take (T : List (List UInt8)) (k : Nat) (h : k < T.length) : gramsAll (T.take (k + 1)) = gramsAll (T.take k) ++ bigrA (wrapT (T.getD k [])) := by
  have := take_snocA T k h
  rw [show (default : List UInt8) = [] from rfl] at this
  rw [this]; simp [gramsAll]
theorem gramsAll_small (T : List (List UInt8)) (h : ∀ t ∈ T, t.length ≤ 64) : (gramsAll T).length ≤ 65 * T.length := by
  induction T with
  | nil => simp [gramsAll]
  | cons t T ih =>
    have h1 := ih fun x hx => h x (List.mem_cons_of_mem _ hx)
    have h2 := h t List.mem_cons_self
    have e : (gramsAll (t :: T)).length = t.length + 1 + (gramsAll T).length := by
      simp only [gramsAll, List.flatMap_cons, List.length_append, bigr_len, wrapT]; simp; try omega
    rw [e, List.length_cons]; omega
theorem toks_len (l : List UInt8) (h : l.length ≤ 64) : (toks l).length ≤ 65 ∧ ∀ t ∈ toks l, t.length ≤ 64 := by
  have h1 := toksA_len l []
  unfold toks
  refine ⟨by simp at h1; omega, fun t ht => ?_⟩
  have : ∀ (L : List (List UInt8)), t ∈ L → t.length ≤ (joinL L).length := by
    intro L
    induction L with
    | nil => intro h; simp at h
    | cons a L ih =>
      intro h
      by_cases hL : L = []
      · subst hL; simp at h; subst h; exact Nat.le_refl _
      · rw [join_cons_ne _ _ hL]
        rcases List.mem_cons.1 h with rfl | h
        · simp
        · have := ih h; simp; omega
  have := this _ ht
  simp at h1; omega
set_option maxHeartbeats 4000000 in
theorem ggrams_any (s : ByteArray) (w : World) (hs : s.size ≤ 64) (ha : ascii s.data.toList) :
    Calls Tryz.prog 268 #[.string s] w fun e w' => ∃ v, e = .returned v ∧ Vec w' Any1 1 encS v (gramsL s.data.toList) ∧ Below w.heap.size w w' := by
  have hl : s.data.toList.length = s.size := by simp
  obtain ⟨hT1, hT2⟩ := toks_len s.data.toList (by omega)
  have hc := tokens_any s.data.toList w ha (by omega)
  rw [show strV s.data.toList = .string s by simp] at hc
  obtain ⟨T, hT⟩ : ∃ T, toks s.data.toList = T := ⟨_, rfl⟩
  have hG : gramsL s.data.toList = setL (gramsAll T) := by unfold gramsL; rw [hT]
  rw [hT] at hT1 hT2 hc
  rw [hG]
  have HC := Lib.hid hc; have HT2 := Lib.hid hT2
  have d1 : decide ((64 : Int) < s.size) = false := by simp; omega
  clear hl hc hT hG hT2 ha
  go_enter Tryz.func268, Tryz.ntmps268
  go_wp2_with fail
  refine HC.out.mono ?_
  rintro e w1 ⟨A, rfl, hA, ho, hb1⟩
  have HR := Lib.hid (own_block ho).2
  have zA := lt_of_blk HR.out
  have HB1 := Lib.hid hb1
  clear ho hb1 HC d1
  go_wp2_with fail
  go_loopw [3, 13] (fun v i wr => ∃ k : Nat, k ≤ T.length ∧ i = .int .i64 k ∧ OwnAt w1 v (gramsAll (T.take k)) wr) (fun _ i _ => T.length - (intOf i).toNat)
  case atStart => exact ⟨0, by omega, rfl, OwnAt.start w1⟩
  case round =>
    obtain ⟨k, hk, rfl, ho⟩ := hrel
    have HO := Lib.hid ho; clear ho
    by_cases hlt : k < T.length
    · have hq : decide ((k : Int) < T.length) = true := by simp; omega
      have hgl := gramsAll_small (T.take k) (fun t ht => HT2.out t (List.mem_of_mem_take ht))
      have htl := List.length_take_le k T
      have hx1 : (T.getD k []).length ≤ 64 := by rw [List.getD, List.getElem?_eq_getElem hlt]; exact HT2.out _ (List.getElem_mem hlt)
      have c1 := (show RowB _ A T from blk_below HO.out.2 zA HR.out).cell k hlt
      have HG := Lib.hid (gramsAll_take T k hlt)
      obtain ⟨t, ht⟩ : ∃ t, T.getD k [] = t := ⟨_, rfl⟩
      rw [ht] at c1 hx1 HG
      clear ht
      obtain ⟨wo, rfl⟩ : ∃ wo : World, wo = wr := ⟨_, rfl⟩
      go_wp2_with fail
      go_loopw [3, 23] (fun v i wr => ∃ j : Nat, j ≤ 1 + t.length ∧ i = .int .i64 j ∧ OwnAt w1 v (gramsAll (T.take k) ++ (bigrA (wrapT t)).take j) wr) (fun _ i _ => 1 + t.length - (intOf i).toNat)
      case atStart => exact ⟨0, by omega, rfl, by simpa using HO.out⟩
      case round =>
        obtain ⟨j, hj, rfl, ho2⟩ := hrel
        have HO2 := Lib.hid ho2; clear ho2
        have hwl : (wrapT t).length = t.length + 2 := by simp [wrapT]
        by_cases hlj : j < 1 + t.length
        · have hq2 : decide ((j : Int) < 1 + t.length) = true := by simp; omega
          have hext := take_two (wrapT t) j (by omega)
          have hbg := bigr_getD (wrapT t) j (by omega)
          have hbl : j < (bigrA (wrapT t)).length := by rw [bigr_len]; omega
          have htk := take_snocA (bigrA (wrapT t)) j hbl
          rw [show (default : List UInt8) = [] from rfl, hbg] at htk
          obtain ⟨z, hz⟩ : ∃ z, [(wrapT t).getD j 0, (wrapT t).getD (j + 1) 0] = z := ⟨_, rfl⟩
          rw [hz] at hext htk
          rw [wrapT_cons] at hext
          have HTK := Lib.hid htk
          have hln : (gramsAll (T.take k) ++ (bigrA (wrapT t)).take j).length < 1099511627776 := by
            have := List.length_take_le j (bigrA (wrapT t))
            simp only [List.length_append]; omega
          have hone : ∀ u ∈ (#[strV z] : Array Value).toList, u.oneCell' = true := by intro u hu; simp at hu; subst hu; rfl
          clear hbg hbl htk hz hwl
          go_wp2_with (at_builtin; refine wpList_append_new rfl _ _ 27 rfl w1.heap.size 9 1 16 (.string ⟨#[]⟩) Tryz.underlying27 infoS rfl (by decide) (by decide) _ _ _ rfl HO2.out.1 #[strV z] 1 rfl rfl hone hln HO2.out.2.size ?_; intro v2 w8 ho8 hw8)
          go_roundw
          case rel => exact ⟨j + 1, by omega, by go_num, by rw [HTK.out, ← List.append_assoc]; exact ⟨by rw [List.length_append, flat_snoc]; exact ho8, hw8 _ HO2.out.2⟩⟩
          case measure => simp [intOf]; omega
        · have hq2 : decide ((j : Int) < 1 + t.length) = false := by simp; omega
          rw [show (bigrA (wrapT t)).take j = bigrA (wrapT t) from List.take_of_length_le (by rw [bigr_len]; omega), ← HG.out] at HO2
          go_wp2_with fail
          go_roundw
          case rel => exact ⟨k + 1, by omega, by go_num, HO2.out⟩
          case measure => simp [intOf]; omega
    · have hq : decide ((k : Int) < T.length) = false := by simp; omega
      rw [List.take_of_length_le (by omega)] at HO
      have hgl := gramsAll_small T HT2.out
      have HV := Lib.hid (Vec.owns (S := Any1) (k := 1) (enc := encS) (fun _ => rfl) HO.out.1 (fun _ _ _ => trivial))
      have hsm : ∀ x ∈ gramsAll T, x.length ≤ 1000000 := by
        intro x hx
        obtain ⟨t, ht, hx⟩ := List.mem_flatMap.1 hx
        have key : ∀ l : List UInt8, ∀ x ∈ bigrA l, x.length = 2 := by
          intro l
          induction l using bigrA.induct with
          | case1 a b r ih => intro x hx; simp only [bigrA] at hx; rcases List.mem_cons.1 hx with rfl | hx; · rfl
                              exact ih x hx
          | case2 l h =>
            intro x hx
            match l, h with
            | [], _ => simp [bigrA] at hx
            | [a], _ => simp [bigrA] at hx
            | a :: b :: r, h => exact absurd rfl (h a b r)
        have := key _ x hx; omega
      have HSm := Lib.hid hsm; clear hsm
      go_wp2_with fail
      refine (set_any Any1 _ (gramsAll T) _ HV.out (by omega) HSm.out).mono ?_
      rintro e w3 ⟨v3, rfl, ho3⟩
      have HV3 := Lib.hid (Vec.owns (S := Any1) (k := 1) (enc := encS) (fun _ => rfl) ho3.1 (fun _ _ _ => trivial))
      have HB3 := Lib.hid ((HB1.out.trans (HO.out.2.mono HB1.out.size)).trans (ho3.2.mono (Nat.le_trans HB1.out.size HO.out.2.size)))
      clear ho3
      go_wp2_with fail
      go_ret
      exact ⟨v3, rfl, HV3.out, HB3.out⟩
end Go.Proofs.YtmakailcpkogdaaGreatDoor
end
section
/- schema.Grams: what it returns, of every input. -/
set_option linter.unusedSimpArgs false
set_option linter.unusedVariables false
set_option maxRecDepth 100000
namespace Go.Proofs.YtmakailcpkogdaaGreatDoor
open Go.RowKit Cal
attribute [local go_sem] toList_mk mk_size bytes_append
set_option maxHeartbeats 400000 in
theorem kind4_any (s : ByteArray) (w : World) (hs : s.size ≤ 1000) :
    Calls Tryz.prog 277 #[.string s] w fun e w' => ∃ v, e = .returned v ∧ Vec w' Any1 1 encS v [61 :: s.data.toList] ∧ Below w.heap.size w w' := by
  have hs2 : (⟨#[61]⟩ : ByteArray) ++ s = ⟨(61 :: s.data.toList).toArray⟩ := by
    apply ByteArray.ext; simp
  go_enter Tryz.func277, Tryz.ntmps277
  go_wp2
  go_ret
  exact ⟨_, rfl, vec_block (L := [61 :: s.data.toList]) (blk_new rfl) 1 rfl, (Below.refl _ _).alloc (Nat.le_refl _) _⟩
/-- the grams of a value, and the error -/
def gramsN (s : SchemaL) (f : Int) (l : List UInt8) : List (List UInt8) × Int := if (findN s f).2 = 0 then (if normalB s f l = true then (gramsK (findN s f).1 l, 0) else ([], 7)) else ([], (findN s f).2)
def GramsIs (p : List (List UInt8) × Int) (w : World) (e : Ending) (w' : World) : Prop := ∃ v, e = .returned (.tuple #[v, .int .i64 p.2]) ∧ Vec w' Any1 1 encS v p.1 ∧ Below w.heap.size w w'
theorem own_small {p : List UInt8 × Int} {l : List UInt8} (h : isOwn p l = true) (hf : FormOk p) : l.length ≤ 64 ∧ p = (l, 0) := by
  obtain ⟨a, b⟩ := p
  unfold isOwn at h
  cases hb : (b == (0 : Int))
  · rw [hb] at h; cases h
  · rw [hb] at h
    simp only [cond_true, beq_iff_eq] at h hb
    subst h hb
    exact ⟨hf.1, rfl⟩
theorem join_ascii {M : List (List UInt8)} (h : ∀ t ∈ M, okT t) : ascii (joinL M) := fun b hb => okB_lt (join_ok M h b hb)
/-- what a value in normal form is like -/
theorem own_facts {k : Int} {r : RulesL} {l : List UInt8} (h : ownK k r l = true) (hk : k = 1 ∨ k = 2 ∨ k = 3 ∨ k = 4) : l.length ≤ 64 ∧ (k = 1 ∨ k = 4 → ascii l) ∧ (k = 2 → l.length = 8) := by
  unfold ownK at h
  rcases hk with rfl | rfl | rfl | rfl
  · obtain ⟨h1, h2⟩ := own_small (show isOwn (nameN r l) l = true from h) (nameN_form r l)
    obtain ⟨M, g1, g2, _⟩ := nameN_toks h2
    exact ⟨h1, fun _ => by rw [g2]; exact join_ascii g1, fun e => by omega⟩
  · have hr : readB l = true := h
    unfold readB at hr
    cases hd : decide (l.length = 8)
    · rw [hd] at hr; cases hr
    · have : l.length = 8 := by simpa using hd
      exact ⟨by omega, fun e => by omega, fun _ => this⟩
  · obtain ⟨h1, h2⟩ := own_small (show isOwn (codeN l) l = true from h) (codeN_form l)
    exact ⟨h1, fun e => by omega, fun e => by omega⟩
  · obtain ⟨h1, h2⟩ := own_small (show isOwn (addrN r l) l = true from h) (addrN_form r l)
    obtain ⟨M, g1, g2, _⟩ := addrN_toks h2
    exact ⟨h1, fun _ => by rw [g2]; exact join_ascii g1, fun e => by omega⟩
set_option maxHeartbeats 8000000 in
theorem grams_s (S : Nat → Prop) (vf vt vn vs : Value) (s : SchemaL) (f : Int) (x : ByteArray) (w : World) (h : SchemaAt w S vf vt vn vs s) (hx : x.size ≤ 9223372036854775000) :
    Calls Tryz.prog 184 #[.agg #[vf, vt, vn, vs], .int .i64 f, .string x] w (GramsIs (gramsN s f x.data.toList) w) := by
  have HS := Lib.hid h.any
  have HL := Lib.hid (Lib.toList_data x)
  clear h
  have K := find_s Any1 vf vt vn vs s f (w.alloc (.cells #[vf, vt, vn, vs] 36)) (HS.out.below ((Below.refl _ _).alloc (Nat.le_refl _) _))
  have hkk := findN_kind (s := s) (f := f)
  have hval : gramsN s f x.data.toList = if (findN s f).2 = 0 then (if normalB s f x.data.toList = true then (gramsK (findN s f).1 x.data.toList, 0) else ([], 7)) else ([], (findN s f).2) := rfl
  have hown : (findN s f).2 = 0 → x.data.toList ≠ [] → normalB s f x.data.toList = ownK (findN s f).1 s.rules x.data.toList := fun h0 h1 => by unfold normalB; rw [if_pos h0, if_neg h1]
  obtain ⟨⟨kd, er⟩, hp⟩ : ∃ p, findN s f = p := ⟨_, rfl⟩
  rw [hp] at K hkk hval hown
  dsimp only at hkk hval hown
  change Calls _ _ _ _ fun e w' => e = .returned (.tuple #[.agg (kindAt kd), .int .i64 er]) ∧ _ at K
  have HK := Lib.hid K
  have HVal := Lib.hid hval; have HOwn := Lib.hid hown
  obtain ⟨ko, ks⟩ := kindAt_one kd
  have KO := Lib.hid ko; have KS := Lib.hid ks
  clear K hp hval ko ks hown
  by_cases he : er = 0
  · subst he
    have hkd := hkk rfl
    clear hkk
    cases hno : normalB s f x.data.toList
    · have HE := Lib.hid (show gramsN s f x.data.toList = ([], 7) by rw [HVal.out, if_pos rfl, hno, if_neg (by simp)])
      have HN := Lib.hid hno
      clear hno hkd
      rw [HE.out]
      go_enter Tryz.func184, Tryz.ntmps184
      go_wp2_with fail
      refine HK.out.mono ?_
      rintro e w1 ⟨rfl, hb1⟩
      have HB1 := Lib.hid (((Below.refl w.heap.size w).alloc (Nat.le_refl _) (.cells #[vf, vt, vn, vs] 36)).trans (hb1.mono (by simp)))
      have HX1 := Lib.hid (blk_below (b := w.heap.size) (o := .cells #[vf, vt, vn, vs] 36 (0, 0)) hb1 (by simp) (blk_new rfl))
      clear hb1 HK
      have z0 := lt_of_blk HX1.out
      obtain ⟨p0, p1, p2, p3⟩ := cells4 HX1.out
      go_wp2_with (refine wpList_store_row rfl 206 (.tmp 8) (.tmp 14) rfl w1.heap.size (kindAt kd) rfl rfl 206 kind0 (heap_alloc_new w1 _) (by rw [KS.out]; kernel_rfl) (by rw [KS.out]; rfl) KO.out ?_; rw [World.setRow_alloc_new])
      have HB2 := Lib.hid (HB1.out.alloc HB1.out.size (.cells (kindAt kd) 206))
      refine (normal_s Any1 vf vt vn vs s f x _ (HS.out.below HB2.out) hx).mono ?_
      rw [HN.out]
      rintro e w3 ⟨rfl, hb3⟩
      have HB3 := Lib.hid (HB2.out.trans (hb3.mono HB2.out.size))
      clear hb3 p0 p1 p2 p3
      go_wp2_with fail
      go_ret2
      exact ⟨_, rfl, Vec.nil _ _ _ _, HB3.out⟩
    · by_cases hx0 : x.data.toList = []
      · have e1 : x.toList = [] := by rw [HL.out, hx0]
        have HE := Lib.hid (show gramsN s f x.data.toList = ([], 0) by rw [HVal.out, if_pos rfl, hno, if_pos rfl]; unfold gramsK; rw [if_pos hx0])
        have HN := Lib.hid hno
        clear hno hkd hx0
        rw [HE.out]
        go_enter Tryz.func184, Tryz.ntmps184
        go_wp2_with fail
        refine HK.out.mono ?_
        rintro e w1 ⟨rfl, hb1⟩
        have HB1 := Lib.hid (((Below.refl w.heap.size w).alloc (Nat.le_refl _) (.cells #[vf, vt, vn, vs] 36)).trans (hb1.mono (by simp)))
        have HX1 := Lib.hid (blk_below (b := w.heap.size) (o := .cells #[vf, vt, vn, vs] 36 (0, 0)) hb1 (by simp) (blk_new rfl))
        clear hb1 HK
        have z0 := lt_of_blk HX1.out
        obtain ⟨p0, p1, p2, p3⟩ := cells4 HX1.out
        go_wp2_with (refine wpList_store_row rfl 206 (.tmp 8) (.tmp 14) rfl w1.heap.size (kindAt kd) rfl rfl 206 kind0 (heap_alloc_new w1 _) (by rw [KS.out]; kernel_rfl) (by rw [KS.out]; rfl) KO.out ?_; rw [World.setRow_alloc_new])
        have HB2 := Lib.hid (HB1.out.alloc HB1.out.size (.cells (kindAt kd) 206))
        refine (normal_s Any1 vf vt vn vs s f x _ (HS.out.below HB2.out) hx).mono ?_
        rw [HN.out]
        rintro e w3 ⟨rfl, hb3⟩
        have HB3 := Lib.hid (HB2.out.trans (hb3.mono HB2.out.size))
        clear hb3 p0 p1 p2 p3
        go_wp2_with fail
        go_ret2
        exact ⟨_, rfl, Vec.nil _ _ _ _, HB3.out⟩
      · have e1 : (x.toList == []) = false := by rw [HL.out]; simpa using hx0
        have e2 : x.toList.isEmpty = false := by rw [HL.out]; simpa using hx0
        have ho := HOwn.out rfl hx0
        rw [hno] at ho
        obtain ⟨g1, g2, g3⟩ := own_facts ho.symm hkd
        have hl : x.data.toList.length = x.size := by simp
        rw [hl] at g1 g3
        have HG2 := Lib.hid g2
        have HE := Lib.hid (show gramsN s f x.data.toList = (gramsK kd x.data.toList, 0) by rw [HVal.out, if_pos rfl, hno, if_pos rfl])
        have HGK := Lib.hid (show gramsK kd x.data.toList = if kd = 2 then posL 0 x.data.toList else if kd = 3 then [61 :: x.data.toList] else gramsL x.data.toList by unfold gramsK; rw [if_neg hx0])
        have HN := Lib.hid hno
        clear hno hx0 ho hl g2
        rw [HE.out, HGK.out]
        rcases hkd with rfl | rfl | rfl | rfl
        · rw [if_neg (by omega), if_neg (by omega)]
          (first | have HAs := Lib.hid (HG2.out (by omega)) | skip)
          clear HG2 HE HGK HOwn HVal
          go_enter Tryz.func184, Tryz.ntmps184
          go_wp2_with fail
          refine HK.out.mono ?_
          rintro e w1 ⟨rfl, hb1⟩
          have HB1 := Lib.hid (((Below.refl w.heap.size w).alloc (Nat.le_refl _) (.cells #[vf, vt, vn, vs] 36)).trans (hb1.mono (by simp)))
          have HX1 := Lib.hid (blk_below (b := w.heap.size) (o := .cells #[vf, vt, vn, vs] 36 (0, 0)) hb1 (by simp) (blk_new rfl))
          clear hb1 HK
          have z0 := lt_of_blk HX1.out
          obtain ⟨p0, p1, p2, p3⟩ := cells4 HX1.out
          go_wp2_with (refine wpList_store_row rfl 206 (.tmp 8) (.tmp 14) rfl w1.heap.size (kindAt 1) rfl rfl 206 kind0 (heap_alloc_new w1 _) (by rw [KS.out]; kernel_rfl) (by rw [KS.out]; rfl) KO.out ?_; rw [World.setRow_alloc_new])
          have HB2 := Lib.hid (HB1.out.alloc HB1.out.size (.cells (kindAt 1) 206))
          refine (normal_s Any1 vf vt vn vs s f x _ (HS.out.below HB2.out) hx).mono ?_
          rw [HN.out]
          rintro e w3 ⟨rfl, hb3⟩
          have HB3 := Lib.hid (HB2.out.trans (hb3.mono HB2.out.size))
          have HX3 := Lib.hid (blk_below (b := w1.heap.size) (o := .cells (kindAt 1) 206 (0, 0)) hb3 (by simp) (blk_new rfl))
          have cf : w3.cell? ⟨w1.heap.size, 3, none⟩ = some (fnV 268) := by rw [cell_of_row _ _ _ _ _ _ HX3.out]; rfl
          clear hb3 p0 p1 p2 p3
          go_wp2_with fail
          refine (ggrams_any x _ g1 HAs.out).mono ?_
          rintro e w4 ⟨v, rfl, ho⟩
          have HO := Lib.hid ho; clear ho
          go_wp2_with fail
          go_ret2
          exact ⟨v, rfl, HO.out.1, HB3.out.trans ((HO.out.2).mono HB3.out.size)⟩
        · rw [if_pos rfl]
          have g4 : x.size ≤ 26 := by have := g3 rfl; omega
          (first | have HAs := Lib.hid (HG2.out (by omega)) | skip)
          clear HG2 HE HGK HOwn HVal
          go_enter Tryz.func184, Tryz.ntmps184
          go_wp2_with fail
          refine HK.out.mono ?_
          rintro e w1 ⟨rfl, hb1⟩
          have HB1 := Lib.hid (((Below.refl w.heap.size w).alloc (Nat.le_refl _) (.cells #[vf, vt, vn, vs] 36)).trans (hb1.mono (by simp)))
          have HX1 := Lib.hid (blk_below (b := w.heap.size) (o := .cells #[vf, vt, vn, vs] 36 (0, 0)) hb1 (by simp) (blk_new rfl))
          clear hb1 HK
          have z0 := lt_of_blk HX1.out
          obtain ⟨p0, p1, p2, p3⟩ := cells4 HX1.out
          go_wp2_with (refine wpList_store_row rfl 206 (.tmp 8) (.tmp 14) rfl w1.heap.size (kindAt 2) rfl rfl 206 kind0 (heap_alloc_new w1 _) (by rw [KS.out]; kernel_rfl) (by rw [KS.out]; rfl) KO.out ?_; rw [World.setRow_alloc_new])
          have HB2 := Lib.hid (HB1.out.alloc HB1.out.size (.cells (kindAt 2) 206))
          refine (normal_s Any1 vf vt vn vs s f x _ (HS.out.below HB2.out) hx).mono ?_
          rw [HN.out]
          rintro e w3 ⟨rfl, hb3⟩
          have HB3 := Lib.hid (HB2.out.trans (hb3.mono HB2.out.size))
          have HX3 := Lib.hid (blk_below (b := w1.heap.size) (o := .cells (kindAt 2) 206 (0, 0)) hb3 (by simp) (blk_new rfl))
          have cf : w3.cell? ⟨w1.heap.size, 3, none⟩ = some (fnV 272) := by rw [cell_of_row _ _ _ _ _ _ HX3.out]; rfl
          clear hb3 p0 p1 p2 p3
          go_wp2_with fail
          refine (positional_any x _ (by omega)).mono ?_
          rintro e w4 ⟨v, rfl, ho⟩
          have HO := Lib.hid ho; clear ho
          go_wp2_with fail
          go_ret2
          exact ⟨v, rfl, Vec.owns (k := 1) (enc := encS) (fun _ => rfl) HO.out.1 (fun _ _ _ => trivial), HB3.out.trans ((HO.out.2).mono HB3.out.size)⟩
        · rw [if_neg (by omega), if_pos rfl]
          (first | have HAs := Lib.hid (HG2.out (by omega)) | skip)
          clear HG2 HE HGK HOwn HVal
          go_enter Tryz.func184, Tryz.ntmps184
          go_wp2_with fail
          refine HK.out.mono ?_
          rintro e w1 ⟨rfl, hb1⟩
          have HB1 := Lib.hid (((Below.refl w.heap.size w).alloc (Nat.le_refl _) (.cells #[vf, vt, vn, vs] 36)).trans (hb1.mono (by simp)))
          have HX1 := Lib.hid (blk_below (b := w.heap.size) (o := .cells #[vf, vt, vn, vs] 36 (0, 0)) hb1 (by simp) (blk_new rfl))
          clear hb1 HK
          have z0 := lt_of_blk HX1.out
          obtain ⟨p0, p1, p2, p3⟩ := cells4 HX1.out
          go_wp2_with (refine wpList_store_row rfl 206 (.tmp 8) (.tmp 14) rfl w1.heap.size (kindAt 3) rfl rfl 206 kind0 (heap_alloc_new w1 _) (by rw [KS.out]; kernel_rfl) (by rw [KS.out]; rfl) KO.out ?_; rw [World.setRow_alloc_new])
          have HB2 := Lib.hid (HB1.out.alloc HB1.out.size (.cells (kindAt 3) 206))
          refine (normal_s Any1 vf vt vn vs s f x _ (HS.out.below HB2.out) hx).mono ?_
          rw [HN.out]
          rintro e w3 ⟨rfl, hb3⟩
          have HB3 := Lib.hid (HB2.out.trans (hb3.mono HB2.out.size))
          have HX3 := Lib.hid (blk_below (b := w1.heap.size) (o := .cells (kindAt 3) 206 (0, 0)) hb3 (by simp) (blk_new rfl))
          have cf : w3.cell? ⟨w1.heap.size, 3, none⟩ = some (fnV 277) := by rw [cell_of_row _ _ _ _ _ _ HX3.out]; rfl
          clear hb3 p0 p1 p2 p3
          go_wp2_with fail
          refine (kind4_any x _ (by omega)).mono ?_
          rintro e w4 ⟨v, rfl, ho⟩
          have HO := Lib.hid ho; clear ho
          go_wp2_with fail
          go_ret2
          exact ⟨v, rfl, HO.out.1, HB3.out.trans ((HO.out.2).mono HB3.out.size)⟩
        · rw [if_neg (by omega), if_neg (by omega)]
          (first | have HAs := Lib.hid (HG2.out (by omega)) | skip)
          clear HG2 HE HGK HOwn HVal
          go_enter Tryz.func184, Tryz.ntmps184
          go_wp2_with fail
          refine HK.out.mono ?_
          rintro e w1 ⟨rfl, hb1⟩
          have HB1 := Lib.hid (((Below.refl w.heap.size w).alloc (Nat.le_refl _) (.cells #[vf, vt, vn, vs] 36)).trans (hb1.mono (by simp)))
          have HX1 := Lib.hid (blk_below (b := w.heap.size) (o := .cells #[vf, vt, vn, vs] 36 (0, 0)) hb1 (by simp) (blk_new rfl))
          clear hb1 HK
          have z0 := lt_of_blk HX1.out
          obtain ⟨p0, p1, p2, p3⟩ := cells4 HX1.out
          go_wp2_with (refine wpList_store_row rfl 206 (.tmp 8) (.tmp 14) rfl w1.heap.size (kindAt 4) rfl rfl 206 kind0 (heap_alloc_new w1 _) (by rw [KS.out]; kernel_rfl) (by rw [KS.out]; rfl) KO.out ?_; rw [World.setRow_alloc_new])
          have HB2 := Lib.hid (HB1.out.alloc HB1.out.size (.cells (kindAt 4) 206))
          refine (normal_s Any1 vf vt vn vs s f x _ (HS.out.below HB2.out) hx).mono ?_
          rw [HN.out]
          rintro e w3 ⟨rfl, hb3⟩
          have HB3 := Lib.hid (HB2.out.trans (hb3.mono HB2.out.size))
          have HX3 := Lib.hid (blk_below (b := w1.heap.size) (o := .cells (kindAt 4) 206 (0, 0)) hb3 (by simp) (blk_new rfl))
          have cf : w3.cell? ⟨w1.heap.size, 3, none⟩ = some (fnV 268) := by rw [cell_of_row _ _ _ _ _ _ HX3.out]; rfl
          clear hb3 p0 p1 p2 p3
          go_wp2_with fail
          refine (ggrams_any x _ g1 HAs.out).mono ?_
          rintro e w4 ⟨v, rfl, ho⟩
          have HO := Lib.hid ho; clear ho
          go_wp2_with fail
          go_ret2
          exact ⟨v, rfl, HO.out.1, HB3.out.trans ((HO.out.2).mono HB3.out.size)⟩
  · have hne : (er != 0) = true := by simpa using he
    have HE := Lib.hid (show gramsN s f x.data.toList = ([], er) by rw [HVal.out, if_neg he])
    clear he hkk
    rw [HE.out]
    go_enter Tryz.func184, Tryz.ntmps184
    go_wp2_with fail
    refine HK.out.mono ?_
    rintro e w1 ⟨rfl, hb1⟩
    have HB1 := Lib.hid (((Below.refl w.heap.size w).alloc (Nat.le_refl _) (.cells #[vf, vt, vn, vs] 36)).trans (hb1.mono (by simp)))
    clear hb1 HK
    go_wp2_with (refine wpList_store_row rfl 206 (.tmp 8) (.tmp 14) rfl w1.heap.size (kindAt kd) rfl rfl 206 kind0 (heap_alloc_new w1 _) (by rw [KS.out]; kernel_rfl) (by rw [KS.out]; rfl) KO.out ?_; rw [World.setRow_alloc_new])
    go_ret2
    exact ⟨_, rfl, Vec.nil _ _ _ _, HB1.out.alloc HB1.out.size _⟩
end Go.Proofs.YtmakailcpkogdaaGreatDoor
end
section
/- Plain: records: which are valid, how they are made. -/
set_option linter.unusedSimpArgs false
set_option linter.unusedVariables false
namespace Go.Proofs.YtmakailcpkogdaaGreatDoor
open Go.RowKit
/-- a record -/
structure RecL where
  id : Int
  ver : Int
  vals : List (List UInt8)
def noRec : RecL := ⟨0, 0, []⟩
def numberedB (i v : Int) : Bool := decide (1 ≤ i) && decide (i ≤ 1048576) && decide (1 ≤ v) && decide (v ≤ 1048576)
/-- values from field i on are normal -/
def normA (s : SchemaL) : Nat → List (List UInt8) → Bool
  | _, [] => true
  | i, x :: l => normalB s i x && normA s (i + 1) l
def checkI (s : SchemaL) (r : RecL) : Int := if (numberedB r.id r.ver && (r.vals.length == s.fields.length) && normA s 0 r.vals) = true then 0 else 7
def checkN (s : SchemaL) (r : RecL) : Int := if checkS s = 0 then checkI s r else checkS s
/-- the values that are made of raw ones, from field i on, behind C; the error -/
def makeA (s : SchemaL) : Nat → List (List UInt8) → List (List UInt8) → List (List UInt8) × Int
  | _, C, [] => (C, 0)
  | i, C, x :: l => if (valueN s i x).2 = 0 then makeA s (i + 1) (C ++ [(valueN s i x).1]) l else ([], (valueN s i x).2)
def makeN (s : SchemaL) (id ver : Int) (raws : List (List UInt8)) : RecL × Int :=
  if checkS s = 0 then
    if raws.length = s.fields.length then
      if numberedB id ver = true then (if (makeA s 0 [] raws).2 = 0 then (⟨id, ver, (makeA s 0 [] raws).1⟩, 0) else (noRec, (makeA s 0 [] raws).2))
      else (noRec, 7)
    else (noRec, 8)
  else (noRec, checkS s)
theorem makeA_len (s : SchemaL) (raws : List (List UInt8)) : ∀ i C, (makeA s i C raws).2 = 0 → (makeA s i C raws).1.length = C.length + raws.length := by
  induction raws with
  | nil => intro i C _; simp [makeA]
  | cons x l ih =>
    intro i C h
    unfold makeA at h ⊢
    split at h
    · rename_i h0
      rw [if_pos h0, ih _ _ h]; simp; omega
    · rename_i h0
      exact absurd h h0
theorem normA_append (s : SchemaL) (A B : List (List UInt8)) : ∀ i, normA s i (A ++ B) = (normA s i A && normA s (i + A.length) B) := by
  induction A with
  | nil => intro i; simp [normA]
  | cons x A ih => intro i; simp only [List.cons_append, normA, ih, List.length_cons, Bool.and_assoc]; rw [show i + 1 + A.length = i + (A.length + 1) by omega]
theorem normA_get (s : SchemaL) (L : List (List UInt8)) : ∀ i, normA s i L = true → ∀ j, j < L.length → normalB s (i + j : Nat) (L.getD j []) = true := by
  induction L with
  | nil => intro i _ j hj; simp at hj
  | cons x L ih =>
    intro i h j hj
    simp only [normA, Bool.and_eq_true] at h
    cases j with
    | zero => simpa using h.1
    | succ j =>
      have := ih (i + 1) h.2 j (by simpa using hj)
      rw [show i + (j + 1) = i + 1 + j by omega]
      simpa using this
theorem normA_of (s : SchemaL) (L : List (List UInt8)) : ∀ i, (∀ j, j < L.length → normalB s (i + j : Nat) (L.getD j []) = true) → normA s i L = true := by
  induction L with
  | nil => intro i _; rfl
  | cons x L ih =>
    intro i h
    simp only [normA, Bool.and_eq_true]
    refine ⟨by simpa using h 0 (by simp), ih (i + 1) fun j hj => ?_⟩
    have := h (j + 1) (by simpa using hj)
    rw [show i + (j + 1) = i + 1 + j by omega] at this
    simpa using this
theorem makeA_norm (s : SchemaL) (raws : List (List UInt8)) : ∀ i C, (makeA s i C raws).2 = 0 → i = C.length → normA s 0 C = true → normA s 0 (makeA s i C raws).1 = true := by
  induction raws with
  | nil => intro i C _ _ h; simpa [makeA] using h
  | cons x l ih =>
    intro i C h hi hC
    unfold makeA at h ⊢
    split at h
    · rename_i h0
      rw [if_pos h0]
      refine ih _ _ h (by simp; omega) ?_
      rw [normA_append, hC, Bool.true_and, Nat.zero_add]
      obtain ⟨⟨v, e⟩, hp⟩ : ∃ p, valueN s i x = p := ⟨_, rfl⟩
      rw [hp] at h0 ⊢
      dsimp only at h0
      subst h0
      simp only [normA, Bool.and_true]
      rw [← hi]
      exact (value_normal hp).1
    · rename_i h0
      exact absurd h h0
theorem makeN_ok {s : SchemaL} {id ver : Int} {raws : List (List UInt8)} {r : RecL} (h : makeN s id ver raws = (r, 0)) :
    checkS s = 0 ∧ r.id = id ∧ r.ver = ver ∧ numberedB id ver = true ∧ r.vals.length = s.fields.length ∧ raws.length = s.fields.length ∧ normA s 0 r.vals = true ∧ r.vals = (makeA s 0 [] raws).1 ∧ (makeA s 0 [] raws).2 = 0 := by
  unfold makeN at h
  split at h
  · rename_i h1
    split at h
    · rename_i h2
      split at h
      · rename_i h3
        split at h
        · rename_i h4
          obtain rfl : RecL.mk id ver (makeA s 0 [] raws).1 = r := congrArg Prod.fst h
          exact ⟨h1, rfl, rfl, h3, by simpa [h2] using makeA_len s raws 0 [] h4, h2, makeA_norm s raws 0 [] h4 rfl rfl, rfl, h4⟩
        · rename_i h4
          exact absurd (congrArg Prod.snd h) h4
      · exact absurd (congrArg Prod.snd h) (show (7 : Int) ≠ 0 by decide)
    · exact absurd (congrArg Prod.snd h) (show (8 : Int) ≠ 0 by decide)
  · rename_i h1
    exact absurd (congrArg Prod.snd h) h1
theorem checkN_of {s : SchemaL} {r : RecL} (h0 : checkS s = 0) (h1 : numberedB r.id r.ver = true) (h2 : r.vals.length = s.fields.length) (h3 : normA s 0 r.vals = true) : checkN s r = 0 := by
  unfold checkN checkI
  rw [if_pos h0, h1, h3, h2]; simp
theorem checkN_ok {s : SchemaL} {r : RecL} (h : checkN s r = 0) : checkS s = 0 ∧ numberedB r.id r.ver = true ∧ r.vals.length = s.fields.length ∧ normA s 0 r.vals = true := by
  unfold checkN at h
  split at h
  · rename_i h0
    unfold checkI at h
    split at h
    · rename_i h1
      simp only [Bool.and_eq_true, beq_iff_eq] at h1
      exact ⟨h0, h1.1.1, h1.1.2, h1.2⟩
    · exact absurd h (by decide)
  · rename_i h0; exact absurd h h0
theorem normalB_nil {s : SchemaL} {f : Int} (h : (findN s f).2 = 0) : normalB s f [] = true := by
  unfold normalB; rw [if_pos h, if_pos rfl]
/-- a record without values is normal -/
theorem none_norm {s : SchemaL} (h : checkS s = 0) : normA s 0 (List.replicate s.fields.length []) = true := by
  refine normA_of _ _ _ fun j hj => ?_
  rw [List.length_replicate] at hj
  have e : (List.replicate s.fields.length ([] : List UInt8)).getD j [] = [] := by simp [List.getD, List.getElem?_replicate]; split <;> rfl
  rw [e]
  refine normalB_nil ?_
  rw [findN_in h (by simpa using hj)]
end Go.Proofs.YtmakailcpkogdaaGreatDoor
end
section
/- Plain: arrays of bits, bloom filters, encoded records: what the functions of the layers 9, 14 and 16 return. -/
set_option linter.unusedSimpArgs false
set_option linter.unusedVariables false
namespace Go.Proofs.YtmakailcpkogdaaGreatDoor
open Go.RowKit
/-- an array of bits -/
structure BitsL where
  len : Int
  words : List Int
def noBits : BitsL := ⟨0, []⟩
/-- the parameters of a field -/
structure ParL where
  len : Int
  hashes : Int
  salt : Int
instance : Inhabited ParL := ⟨⟨0, 0, 0⟩⟩
structure EncL where
  id : Int
  ver : Int
  fields : List BitsL
/-- a length that an array may have -/
def rightB (n : Int) : Bool := decide (64 ≤ n) && decide (n ≤ 512) && (n % 64 == 0)
def bloomOk (p : ParL) : Bool := rightB p.len && decide (1 ≤ p.hashes) && decide (p.hashes ≤ 16) && decide (-1 ≤ p.salt) && decide (p.salt < 5)
/-- n positions, from x on, each y further than the one before -/
def posN (len y : Int) : Nat → Int → List Int
  | 0, _ => []
  | n + 1, x => x :: posN len y n ((x + y) % len)
def firstP (p : ParL) (k : Int × Int) (g : List UInt8) : Int := (partsP k.1 k.2 [[49], g]) % p.len
def stepP (p : ParL) (k : Int × Int) (g : List UInt8) : Int := 1 + (partsP k.1 k.2 [[50], g]) % (p.len - 1)
def positionsN (p : ParL) (k : Int × Int) (g : List UInt8) : List Int := posN p.len (stepP p k g) p.hashes.toNat (firstP p k g)
/-- a bit more -/
def orBit (ws : List Int) (i : Int) : List Int := ws.set (i / 64).toNat (bits .or .u64 (ws.getD (i / 64).toNat 0) (IntKind.u64.wrap (2 ^ (i % 64).toNat)))
def orGram (p : ParL) (k : Int × Int) (ws : List Int) (g : List UInt8) : List Int := (positionsN p k g).foldl orBit ws
def zeroW (n : Int) : List Int := List.replicate (n / 64).toNat 0
/-- the array of grams, and the error -/
def bloomN (p : ParL) (k : Int × Int) (G : List (List UInt8)) : BitsL × Int :=
  if bloomOk p = true then (if G.length ≤ 80 then (⟨p.len, G.foldl (orGram p k) (zeroW p.len)⟩, 0) else (noBits, 1)) else (noBits, 10)
structure ParOk (p : ParL) : Prop where
  len1 : 64 ≤ p.len
  len2 : p.len ≤ 512
  len3 : p.len % 64 = 0
  h1 : 1 ≤ p.hashes
  h2 : p.hashes ≤ 16
  s1 : -1 ≤ p.salt
  s2 : p.salt < 5
theorem ParOk.right {p : ParL} (h : ParOk p) : rightB p.len = true := by
  have h1 := h.len1; have h2 := h.len2; have h3 := h.len3
  simp [rightB, h1, h2, h3]
theorem ParOk.bloom {p : ParL} (h : ParOk p) : bloomOk p = true := by
  have h0 := h.right; have h1 := h.h1; have h2 := h.h2; have h3 := h.s1; have h4 := h.s2
  simp [bloomOk, h0, h1, h2, h3, h4]
theorem orBit_len (ws : List Int) (i : Int) : (orBit ws i).length = ws.length := by simp [orBit]
theorem orBits_len (l : List Int) : ∀ ws : List Int, (l.foldl orBit ws).length = ws.length := by
  induction l with
  | nil => intro ws; rfl
  | cons x l ih => intro ws; rw [List.foldl_cons, ih, orBit_len]
theorem orGrams_len (p : ParL) (k : Int × Int) (G : List (List UInt8)) : ∀ ws : List Int, (G.foldl (orGram p k) ws).length = ws.length := by
  induction G with
  | nil => intro ws; rfl
  | cons x l ih => intro ws; rw [List.foldl_cons, ih]; exact orBits_len _ _
/-- decimal digits of a field's number -/
def digN (n : Nat) : List UInt8 := if n < 10 then [UInt8.ofNat (48 + n)] else []
def fieldLabel (t : List UInt8) : List UInt8 := [102, 105, 101, 108, 100] ++ t
def saltLabel (t : List UInt8) : List UInt8 := [115, 97, 108, 116, 61] ++ t
/-- the key of a field: num is its number in decimal digits -/
def keyN (k : Int × Int) (num : List UInt8) (salted : Bool) (salt : List UInt8) : Int × Int :=
  let x := deriveP k.1 k.2 (fieldLabel num)
  bif salted then deriveP x.1 x.2 (saltLabel salt) else x
/-- the text that salts a field's key -/
def saltOf (p : ParL) (vals : List (List UInt8)) : List UInt8 := if 0 ≤ p.salt then vals.getD p.salt.toNat [] else []
/-- the array of field i -/
def fieldN (s : SchemaL) (p : ParL) (k : Int × Int) (vals : List (List UInt8)) (i : Nat) : BitsL :=
  if vals.getD i [] = [] then noBits else (bloomN p (keyN k (Lib.decDigits i) (decide (0 ≤ p.salt)) (saltOf p vals)) (gramsN s i (vals.getD i [])).1).1
theorem bigrams_two : ∀ (l : List UInt8), ∀ x ∈ bigrA l, x.length = 2
  | [], x, h => by simp [bigrA] at h
  | [a], x, h => by simp [bigrA] at h
  | a :: b :: l, x, h => by
    simp only [bigrA, List.mem_cons] at h
    rcases h with rfl | h
    · rfl
    · exact bigrams_two (b :: l) x h
theorem posL_two : ∀ (l : List UInt8) (j : Nat), ∀ x ∈ posL j l, x.length = 2
  | [], j, x, h => by simp [posL] at h
  | c :: l, j, x, h => by
    simp only [posL, List.mem_cons] at h
    rcases h with rfl | h
    · rfl
    · exact posL_two l (j + 1) x h
theorem gramsL_two (l : List UInt8) : ∀ x ∈ gramsL l, x.length = 2 := by
  intro x h
  unfold gramsL at h
  rw [set_mem] at h
  unfold gramsAll at h
  obtain ⟨t, _, ht⟩ := List.mem_flatMap.1 h
  exact bigrams_two _ _ ht
/-- the grams of a value in normal form: not too many, not too long -/
theorem grams_fit {s : SchemaL} {i : Int} {l : List UInt8} (h : normalB s i l = true) (hi : (findN s i).2 = 0) : (gramsN s i l).2 = 0 ∧ (gramsN s i l).1.length ≤ 80 ∧ (∀ g ∈ (gramsN s i l).1, g.length ≤ 100) ∧ l.length ≤ 64 := by
  unfold gramsN
  rw [if_pos hi, if_pos h]
  by_cases h0 : l = []
  · subst h0; simp [gramsK]
  · have ho : ownK (findN s i).1 s.rules l = true := by unfold normalB at h; rw [if_pos hi, if_neg h0] at h; exact h
    obtain ⟨g1, g2, g3⟩ := own_facts ho (findN_kind hi)
    refine ⟨rfl, ?_, ?_, g1⟩
    · unfold gramsK
      rw [if_neg h0]
      split
      · rw [posL_len]; omega
      · split
        · simp
        · have := grams_bound g1; show (gramsL l).length ≤ 80; omega
    · unfold gramsK
      rw [if_neg h0]
      split
      · intro g hg; rw [posL_two _ _ g hg]; omega
      · split
        · intro g hg; simp at hg; subst hg; simp; omega
        · intro g hg; rw [gramsL_two _ g hg]; omega
end Go.Proofs.YtmakailcpkogdaaGreatDoor
end
section
/- The deck of recordlinkmake: contracts of New, Word, Next, One, Few: whatever the list of at most 400 numbers, a number within its bounds is dealt, and the deck alone has changed. -/
set_option linter.unusedSimpArgs false
set_option linter.unusedVariables false
namespace Go.Proofs.YtmakailcpkogdaaGreatDoor
open Go.RowKit

theorem bits_u64_bd (op : BinOp) (x y : Int) : 0 ≤ bits op .u64 x y ∧ bits op .u64 x y < 18446744073709551616 := by
  have : ∃ e, bits op .u64 x y = IntKind.u64.wrap e := by unfold bits; exact ⟨_, rfl⟩
  obtain ⟨e, he⟩ := this
  rw [he]
  simp only [IntKind.wrap, IntKind.bits, IntKind.signed]
  simp
  omega

theorem grown_refl (w : World) (r : Option Nat) : w.grownBy w r := ⟨rfl, rfl, rfl, Nat.le_refl _, fun _ _ _ => rfl⟩
theorem grown_trans {w w1 w2 : World} {r : Option Nat} (h : w.grownBy w1 r) (h' : w1.grownBy w2 r) : w.grownBy w2 r :=
  ⟨h'.os.trans h.os, h'.tape.trans h.tape, h'.output.trans h.output, Nat.le_trans h.size h'.size, fun k hk hr => (h'.block k (Nat.lt_of_lt_of_le hk h.size) hr).trans (h.block k hk hr)⟩
theorem grown_drewN {w w1 : World} {r : Option Nat} (h : w.grownBy w1 r) (n : Nat) : w.grownBy (w1.drewN n) r := ⟨h.os, h.tape, h.output, h.size, h.block⟩
theorem grown_drew {w w1 : World} {r : Option Nat} (h : w.grownBy w1 r) : w.grownBy w1.drew r := ⟨h.os, h.tape, h.output, h.size, h.block⟩
theorem grown_set {w w1 : World} {D i : Nat} {v : Value} (h : w.grownBy w1 (some D)) : w.grownBy (w1.setCell ⟨D, i, none⟩ v) (some D) :=
  grown_trans h ⟨rfl, rfl, rfl, by simp [World.setCell], fun k hk hr => heap_setCell_other _ _ _ _ (fun e => hr (by rw [e]))⟩
theorem grown_below {w w1 : World} {r : Option Nat} (h : Below w.heap.size w w1) : w.grownBy w1 r := ⟨h.os, h.tape, h.output, h.size, fun k hk _ => h.block k hk⟩
theorem grown_alloc {w w1 : World} {r : Option Nat} (h : w.grownBy w1 r) (o : Obj) : w.grownBy (w1.alloc o) r := grown_trans h (grown_below ((Below.refl _ _).alloc (Nat.le_refl _) _))
theorem grown_blk {w w1 : World} {D k : Nat} {o : Obj} (h : w.grownBy w1 (some D)) (ho : w.heap[k]? = some o) (hk : k ≠ D) : w1.heap[k]? = some o := by
  have hlt : k < w.heap.size := by
    rcases Nat.lt_or_ge k w.heap.size with h' | h'
    · exact h'
    · simp [Array.getElem?_eq_none h'] at ho
  rw [h.block k hlt (by simpa using hk)]; exact ho

/-- a slice of ints that can be read, in a block below D -/
def ListAt (w : World) (D : Nat) (s : Value) (n : Nat) : Prop :=
  ∃ a cap, s = .slice a n cap ∧ n ≤ 400 ∧ (0 < n → ∃ b off, a = some ⟨b, off, none⟩ ∧ b < D ∧ ∀ i, i < n → ∃ x : Int, w.cell? ⟨b, off + i, none⟩ = some (.int .i64 x))
theorem ListAt.same {w w1 : World} {D n : Nat} {s : Value} (h : ListAt w D s n) (hg : ∀ k, k < D → w1.heap[k]? = w.heap[k]?) : ListAt w1 D s n := by
  obtain ⟨a, cap, h1, h2, h3⟩ := h
  refine ⟨a, cap, h1, h2, fun hn => ?_⟩
  obtain ⟨b, off, h4, h5, h7⟩ := h3 hn
  refine ⟨b, off, h4, h5, fun i hi => ?_⟩
  obtain ⟨x, hx⟩ := h7 i hi
  exact ⟨x, (World.cell?_of_block (w := w) (a := ⟨b, off + i, none⟩) (hg b h5)).trans hx⟩
/-- a deck lies in block D -/
def DeckAt (w : World) (D : Nat) : Prop :=
  ∃ (s : Value) (n : Nat) (t st : Int), w.heap[D]? = some (.cells #[s, .int .i64 t, .int .u64 st] 115 (0, 0)) ∧ ListAt w D s n ∧ 0 ≤ t ∧ t ≤ n
theorem DeckAt.lt {w : World} {D : Nat} (h : DeckAt w D) : D < w.heap.size := by
  obtain ⟨s, n, t, st, h, _⟩ := h
  exact (Array.getElem?_eq_some_iff.1 h).1
theorem DeckAt.same {w w1 : World} {D : Nat} (h : DeckAt w D) (hg : ∀ k, k ≤ D → w1.heap[k]? = w.heap[k]?) : DeckAt w1 D := by
  obtain ⟨s, n, t, st, h1, h2, h3⟩ := h
  exact ⟨s, n, t, st, (hg D (Nat.le_refl _)).trans h1, h2.same fun k hk => hg k (Nat.le_of_lt hk), h3⟩
/-- a deck is as it was behind whatever leaves all that was there as it was -/
theorem DeckAt.below {w w1 : World} {D : Nat} (h : DeckAt w D) (hb : Below w.heap.size w w1) : DeckAt w1 D := by
  have hlt := h.lt
  exact h.same fun k hk => hb.block k (by omega)
/-- w' is w, but for the deck in block D, which has moved on, and for new blocks -/
structure Moved (D : Nat) (w w' : World) : Prop where
  grown : w.grownBy w' (some D)
  deck : DeckAt w' D
  lt : D < w.heap.size
theorem Moved.start {D : Nat} {w : World} (h : DeckAt w D) : Moved D w w := ⟨grown_refl _ _, h, h.lt⟩
theorem Moved.trans {D : Nat} {w w1 w2 : World} (h : Moved D w w1) (h' : Moved D w1 w2) : Moved D w w2 := ⟨grown_trans h.grown h'.grown, h'.deck, h.lt⟩
theorem Moved.below {D : Nat} {w w1 w2 : World} (h : Moved D w w1) (hb : Below w1.heap.size w1 w2) : Moved D w w2 := ⟨grown_trans h.grown (grown_below hb), h.deck.below hb, h.lt⟩
theorem Moved.alloc {D : Nat} {w w1 : World} (h : Moved D w w1) (o : Obj) : Moved D w (w1.alloc o) := h.below ((Below.refl _ _).alloc (Nat.le_refl _) _)
theorem Moved.drew {D : Nat} {w w1 : World} (h : Moved D w w1) : Moved D w w1.drew := h.below (Below.refl _ _).drew
theorem Moved.drewN {D : Nat} {w w1 : World} (h : Moved D w w1) (n : Nat) : Moved D w (w1.drewN n) := h.below (below_drewN (Below.refl _ _) n)
theorem Moved.set {D : Nat} {w w1 : World} (h : Moved D w w1) {a : Addr} (ha : w.heap.size ≤ a.block) (v : Value) : Moved D w (w1.setCell a v) := by
  have := h.lt
  refine ⟨⟨h.grown.os, h.grown.tape, h.grown.output, by simpa [World.setCell] using h.grown.size, fun k hk hr => ?_⟩, h.deck.same fun k hk => heap_setCell_other _ _ _ _ (by omega), this⟩
  rw [heap_setCell_other _ _ _ _ (by omega)]; exact h.grown.block k hk hr
theorem Moved.blk {D k : Nat} {w w1 : World} {o : Obj} (h : Moved D w w1) (hk : k ≠ D) (ho : w.heap[k]? = some o) : w1.heap[k]? = some o := grown_blk h.grown ho hk
theorem Moved.size {D : Nat} {w w1 : World} (h : Moved D w w1) : w.heap.size ≤ w1.heap.size := h.grown.size
/-- as seen from before the deck was made -/
theorem Moved.base {D B : Nat} {w0 w w1 : World} (h : Moved D w w1) (hb : Below B w0 w) (hB : B ≤ D) : Below B w0 w1 :=
  hb.trans ⟨h.grown.os, h.grown.tape, h.grown.output, h.grown.size, fun k hk => h.grown.block k (by have := h.lt; omega) (by simp; omega)⟩
def WordPost (D : Nat) (w : World) (e : Ending) (w' : World) : Prop :=
  ∃ r : Int, e = .returned (.int .u64 r) ∧ 0 ≤ r ∧ r < 18446744073709551616 ∧ Moved D w w'
theorem word_done {D n : Nat} {w w' : World} {s : Value} {r t st : Int} (hL : ListAt w D s n) (hg : w.grownBy w' (some D)) (hD : w'.heap[D]? = some (.cells #[s, .int .i64 t, .int .u64 st] 115 (0, 0)))
    (hlt : D < w.heap.size) (h0 : 0 ≤ t) (h1 : t ≤ n) (hr : 0 ≤ r ∧ r < 18446744073709551616) : WordPost D w (.returned (.int .u64 r)) w' :=
  ⟨r, rfl, hr.1, hr.2, hg, ⟨s, n, t, st, hD, hL.same fun k hk => hg.block k (by omega) (by simp; omega), h0, h1⟩, hlt⟩
set_option maxHeartbeats 400000 in
theorem word_more (D : Nat) (w : World) (b off n cap : Nat) (t st x : Int) (hD : w.heap[D]? = some (.cells #[.slice (some ⟨b, off, none⟩) n cap, .int .i64 t, .int .u64 st] 115 (0, 0)))
    (hL : ListAt w D (.slice (some ⟨b, off, none⟩) n cap) n) (hn : n ≤ 400) (h0 : 0 ≤ t) (h1 : t < n) (hb : b < D) (hx : w.cell? ⟨b, off + t.toNat, none⟩ = some (.int .i64 x)) :
    Calls Tryz.prog 62 #[.pointer (some ⟨D, 0, none⟩)] w (WordPost D w) := by
  obtain ⟨p0, p1, p2⟩ := cells3 hD
  obtain ⟨f0, f1, f2⟩ := free3 hD
  obtain ⟨t, rfl⟩ := Int.eq_ofNat_of_zero_le h0
  rw [Int.toNat_natCast] at hx
  have hlt := lt_of_blk hD
  have HD := Lib.hid hD; clear hD
  go_enter Tryz.func62, Tryz.ntmps62
  go_wp2
  go_quiet (fail)
  go_wp2
  go_quiet (fail)
  go_wp2
  go_quiet (fail)
  go_wp2
  go_ret
  exact word_done hL (grown_drewN (grown_set (grown_set (grown_drewN (grown_refl w _) _))) _) (blk_set (blk_set HD.out)) hlt (by omega) (by omega) (bits_u64_bd _ _ _)
set_option maxHeartbeats 400000 in
theorem word_end (D : Nat) (w : World) (a : Option Addr) (n cap : Nat) (t st : Int) (hD : w.heap[D]? = some (.cells #[.slice a n cap, .int .i64 t, .int .u64 st] 115 (0, 0)))
    (hL : ListAt w D (.slice a n cap) n) (hn : n ≤ 400) (h0 : 0 ≤ t) (h1 : t = n) :
    Calls Tryz.prog 62 #[.pointer (some ⟨D, 0, none⟩)] w (WordPost D w) := by
  subst h1
  obtain ⟨p0, p1, p2⟩ := cells3 hD
  obtain ⟨f0, f1, f2⟩ := free3 hD
  have hlt := lt_of_blk hD
  have HD := Lib.hid hD; clear hD
  go_enter Tryz.func62, Tryz.ntmps62
  go_wp2
  go_quiet (fail)
  go_wp2
  go_quiet (fail)
  go_wp2
  go_ret
  exact word_done hL (grown_drewN (grown_set (grown_drewN (grown_refl w _) _)) _) (blk_set HD.out) hlt (by omega) (by omega) (bits_u64_bd _ _ _)
theorem word_any (D : Nat) (w : World) (h : DeckAt w D) :
    Calls Tryz.prog 62 #[.pointer (some ⟨D, 0, none⟩)] w (WordPost D w) := by
  obtain ⟨s, n, t, st, hD, hL, h0, h1⟩ := h
  have hL' := hL
  obtain ⟨a, cap, rfl, hn, h2⟩ := hL
  by_cases ht : t = n
  · exact word_end D w a n cap t st hD hL' hn h0 ht
  · have ht' : t < n := by clear h2 hL'; omega
    obtain ⟨b, off, rfl, hb, hc⟩ := h2 (by clear h2 hL'; omega)
    obtain ⟨x, hx⟩ := hc t.toNat (by clear hc h2 hL'; omega)
    exact word_more D w b off n cap t st x hD hL' hn h0 ht' hb hx

theorem next_val {r k : Int} (h0 : 0 ≤ r) (h1 : r < 18446744073709551616) (hk : 1 ≤ k) : 0 ≤ (wrap64 (r / 2)).tmod k ∧ (wrap64 (r / 2)).tmod k < k := by
  have e : wrap64 (r / 2) = r / 2 := IntWalk.wrap64_in (r / 2) (by constructor <;> omega)
  have h2 : 0 ≤ r / 2 := by omega
  rw [e, Int.tmod_eq_emod_of_nonneg h2]
  exact ⟨Int.emod_nonneg _ (by omega), Int.emod_lt_of_pos _ (by omega)⟩
def NextPost (D : Nat) (w : World) (k : Int) (e : Ending) (w' : World) : Prop :=
  ∃ r : Int, e = .returned (.int .i64 r) ∧ 0 ≤ r ∧ r < k ∧ Moved D w w'
set_option maxHeartbeats 400000 in
theorem next_any (D : Nat) (w : World) (k : Int) (h : DeckAt w D) (hk : 1 ≤ k) (hk2 : k ≤ 1000000000) :
    Calls Tryz.prog 43 #[.pointer (some ⟨D, 0, none⟩), .int .i64 k] w (NextPost D w k) := by
  go_enter Tryz.func43, Tryz.ntmps43
  go_wp2_with fail
  refine (word_any D _ h).mono ?_
  rintro e w1 ⟨r, rfl, h0, h1, h2⟩
  have H1 := Lib.hid h1; clear h1
  have H2 := Lib.hid h2; clear h2
  go_wp2_with fail
  go_ret
  have hv := next_val h0 H1.out hk
  exact ⟨_, rfl, hv.1, hv.2, H2.out⟩
set_option maxHeartbeats 400000 in
theorem few_any (a : Option Addr) (n cap : Nat) (w : World) :
    Calls Tryz.prog 16 #[.slice a n cap] w fun e w' => e = .returned (.bool (decide (n ≤ 400))) ∧ w = w' := by
  go_enter Tryz.func16, Tryz.ntmps16
  go_wp2
  go_ret
  exact ⟨ret_bool (by simp; omega), rfl⟩
set_option maxHeartbeats 400000 in
theorem new_any (a : Option Addr) (n cap : Nat) (w : World) :
    Calls Tryz.prog 17 #[.slice a n cap] w fun e w' => e = .returned (.pointer (some ⟨w.heap.size, 0, none⟩)) ∧ w.alloc (.cells #[.slice a n cap, .int .i64 0, .int .u64 11400714819323198485] 115) = w' := by
  go_enter Tryz.func17, Tryz.ntmps17
  go_wp2
  go_ret
  exact ⟨rfl, rfl⟩
/-- a list that can be read, and no more than 400 numbers, makes a deck -/
theorem deck_new {w : World} {a : Option Addr} {n cap : Nat} (hn : n ≤ 400) (h : 0 < n → ∃ b off, a = some ⟨b, off, none⟩ ∧ b < w.heap.size ∧ ∀ i, i < n → ∃ x : Int, w.cell? ⟨b, off + i, none⟩ = some (.int .i64 x)) :
    DeckAt (w.alloc (.cells #[.slice a n cap, .int .i64 0, .int .u64 11400714819323198485] 115)) w.heap.size := by
  refine ⟨_, n, 0, _, blk_new rfl, ⟨a, cap, rfl, hn, fun h0 => ?_⟩, by omega, by omega⟩
  obtain ⟨b, off, h1, h2, h3⟩ := h h0
  refine ⟨b, off, h1, h2, fun i hi => ?_⟩
  obtain ⟨x, hx⟩ := h3 i hi
  exact ⟨x, (World.cell?_of_block (w := w) (a := ⟨b, off + i, none⟩) (((Below.refl _ _).alloc (Nat.le_refl _) _).block b h2)).trans hx⟩
end Go.Proofs.YtmakailcpkogdaaGreatDoor
end
section
/- A region that draws its order: an operation that yields in every world that meets S may be taken first, where S is asked only until operation k has come up (k waits for it, directly or through others). -/
set_option linter.unusedSimpArgs false
set_option linter.unusedVariables false
namespace Go.Proofs.YtmakailcpkogdaaGreatDoor
open Go
section
variable {P : Program} {ops : Array Oper} {Q : Exit → Act → World → Prop} {md : Region.Mode} {S : World → Prop} {k : Nat}
/-- whatever is listed, all that it waits for is listed -/
def Closed (md : Region.Mode) (ops : Array Oper) (l : Array Bool) : Prop :=
  ∀ j o, ops[j]? = some o → l.getD j false = true → ∀ e ∈ o.after, Region.binds md e = true → l.getD e.on false = true
def closedB (md : Region.Mode) (ops : Array Oper) (l : Array Bool) : Bool :=
  (List.range ops.size).all fun j => match ops[j]? with
    | none => true
    | some o => !l.getD j false || o.after.all fun e => !Region.binds md e || l.getD e.on false
theorem closed_spec {l : Array Bool} (h : closedB md ops l = true) : Closed md ops l := by
  intro j o ho hl e he hb
  have hj : j < ops.size := (Array.getElem?_eq_some_iff.1 ho).1
  have h1 := List.all_eq_true.1 h j (List.mem_range.2 hj)
  simp only [ho] at h1
  rw [hl] at h1
  simp only [Bool.not_true, Bool.false_or, Array.all_eq_true_iff_forall_mem] at h1
  have h2 := h1 e he
  rw [hb] at h2
  simpa using h2
theorem closed_step {l : Array Bool} {j : Nat} (h : Closed md ops l) (hj : j ∈ Region.ready md ops l) : Closed md ops (l.setIfInBounds j true) := by
  intro i o ho hl e he hb
  by_cases hij : i = j
  · subst hij
    obtain ⟨_, o', ho', hall⟩ := mem_ready.1 hj
    rw [ho] at ho'; cases ho'
    exact getD_set_true (hall e he hb)
  · rw [getD_set_ne false (fun e => hij e.symm)] at hl
    exact getD_set_true (h i o ho hl e he hb)
/-- k waits for i -/
def reachB (md : Region.Mode) (ops : Array Oper) : Nat → Nat → Nat → Bool
  | 0, _, _ => false
  | f + 1, i, k => match ops[k]? with
    | none => false
    | some o => o.after.any fun e => Region.binds md e && (e.on == i || reachB md ops f i e.on)
theorem reach_spec {l : Array Bool} (hc : Closed md ops l) : ∀ (f i k : Nat), reachB md ops f i k = true → l.getD k false = true → l.getD i false = true := by
  intro f
  induction f with
  | zero => intro i k h; simp [reachB] at h
  | succ f ih =>
    intro i k h hk
    unfold reachB at h
    cases ho : ops[k]? with
    | none => simp [ho] at h
    | some o =>
      simp only [ho] at h
      obtain ⟨e, he, hb⟩ := Array.any_eq_true'.1 h
      simp only [Bool.and_eq_true, Bool.or_eq_true, beq_iff_eq] at hb
      have h1 := hc k o ho hk e he hb.1
      rcases hb.2 with h2 | h2
      · rw [← h2]; exact h1
      · exact ih i e.on h2 h1
def wpAnyK (P : Program) (md : Region.Mode) (ops : Array Oper) (Q : Exit → Act → World → Prop) (S : World → Prop) (k : Nat) : Nat → Array Bool → Act → World → Prop
  | 0, listed, a, w => Region.ready md ops listed = [] ∧ Q .normal a w
  | fuel + 1, listed, a, w =>
    (Region.ready md ops listed = [] → Q .normal a w) ∧
    ∀ i ∈ Region.ready md ops listed, wpOp P ops Q i (fun a' w' => ((listed.setIfInBounds i true).getD k false = false → S w') ∧ wpAnyK P md ops Q S k fuel (listed.setIfInBounds i true) a' w') a w
theorem wpAny_of_k : ∀ (fuel : Nat) (listed : Array Bool) (a : Act) (w : World), wpAnyK P md ops Q S k fuel listed a w → wpAny P md ops Q fuel listed a w
  | 0, _, _, _, h => h
  | fuel + 1, _, _, _, h => ⟨h.1, fun i hi => wpOp_mono (fun a' w' h' => wpAny_of_k fuel _ a' w' h'.2) (h.2 i hi)⟩
/-- behind k it is a plain 'wpAny' -/
theorem wpAnyK_off : ∀ (fuel : Nat) (listed : Array Bool) (a : Act) (w : World), listed.getD k false = true → wpAny P md ops Q fuel listed a w → wpAnyK P md ops Q S k fuel listed a w
  | 0, _, _, _, _, h => h
  | fuel + 1, _, _, _, hk, h => ⟨h.1, fun i hi => wpOp_mono (fun a' w' h' => ⟨fun h0 => (by rw [getD_set_true hk] at h0; cases h0), wpAnyK_off fuel _ a' w' (getD_set_true hk) h'⟩) (h.2 i hi)⟩
theorem wpAnyK_first {i : Nat} {oi : Oper} {v : Value} (hi : ops[i]? = some oi) (hsel : ∀ (j : Nat) (o : Oper) cs b, ops[j]? = some o → o.op ≠ .select cs b)
    (hQ : ∀ c a w, Q (.panic c) (a.put oi.dst v) w → Q (.panic c) a w) (f : Nat) (hreach : reachB md ops f i k = true) (hik : i ≠ k) :
    ∀ (fuel : Nat) (listed : Array Bool) (a : Act) (w : World), Closed md ops listed →
      (∀ j oj, ops[j]? = some oj → j ≠ i → listed.getD j true = false → (∀ e ∈ oj.after, Region.binds md e = true → e.on ≠ i) → oi.apart ops oj = true) →
      i ∈ Region.ready md ops listed → YieldsIf P ops S oi v a → S w →
      wpAnyK P md ops Q S k fuel (listed.setIfInBounds i true) (a.put oi.dst v) w → wpAnyK P md ops Q S k (fuel + 1) listed a w := by
  intro fuel
  induction fuel with
  | zero =>
    intro listed a w _ _ hr hy hS H
    refine ⟨fun h => (by rw [h] at hr; cases hr), fun j hj => ?_⟩
    by_cases hji : j = i
    · subst hji; exact hy.wpOp hi hS ⟨fun _ => hS, H⟩
    · have := ready_mono hj hji
      rw [H.1] at this
      cases this
  | succ fuel ih =>
    intro listed a w hcl hfree hr hy hS H
    refine ⟨fun h => (by rw [h] at hr; cases hr), fun j hj => ?_⟩
    by_cases hji : j = i
    · subst hji; exact hy.wpOp hi hS ⟨fun _ => hS, H⟩
    · have h1 := H.2 j (ready_mono hj hji)
      have hcl' := closed_step hcl hj
      obtain ⟨hjun, oj, hoj, hall⟩ := mem_ready.1 hj
      have hil : i < listed.size := by
        have h0 := (mem_ready.1 hr).1
        rcases Nat.lt_or_ge i listed.size with h' | h'
        · exact h'
        · simp [Array.getElem?_eq_none h'] at h0
      have hif : (listed.setIfInBounds j true).getD i false = false := by
        rw [getD_set_ne false hji]
        have h0 := (mem_ready.1 hr).1
        simp [hil] at h0 ⊢; exact h0
      have hnot : ∀ e ∈ oj.after, Region.binds md e = true → e.on ≠ i := fun e he hb heq => by
        have h1 := hall e he hb
        have h0 := (mem_ready.1 hr).1
        rw [heq] at h1
        simp [hil] at h0 h1; rw [h0] at h1; cases h1
      have hkf : ((listed.setIfInBounds i true).setIfInBounds j true).getD k false = false := by
        have hne : (listed.setIfInBounds j true).getD k false = false := by
          cases hv : (listed.setIfInBounds j true).getD k false with
          | false => rfl
          | true => rw [reach_spec hcl' f i k hreach hv] at hif; cases hif
        rw [Array.setIfInBounds_comm _ _ (fun e => hji e.symm), getD_set_ne false hik]; exact hne
      have h2 := wpOp_putIf hoj (hfree j oj hoj hji hjun hnot) (fun cs b => hsel i oi cs b hi) (fun cs b => hsel j oj cs b hoj) hQ hy h1
      have hfree' : ∀ k ok, ops[k]? = some ok → k ≠ i → (listed.setIfInBounds j true).getD k true = false →
          (∀ e ∈ ok.after, Region.binds md e = true → e.on ≠ i) → oi.apart ops ok = true := fun k ok hk hki hun hno => by
        refine hfree k ok hk hki ?_ hno
        by_cases hjk : j = k
        · subst hjk; exact hjun
        · rw [getD_set_ne true hjk] at hun; exact hun
      refine wpOp_mono (fun a' w' h3 => ⟨fun _ => h3.2.1 hkf, ih (listed.setIfInBounds j true) a' w' hcl' hfree' (ready_mono hr (Ne.symm hji)) h3.1 (h3.2.1 hkf) ?_⟩) h2
      rw [Array.setIfInBounds_comm _ _ hji]
      exact h3.2.2
theorem wpAnyK_take {i : Nat} {oi : Oper} {v : Value} {fuel : Nat} {listed : Array Bool} {a : Act} {w : World} (hi : ops[i]? = some oi)
    (hs : Region.noSelect ops = true) (hf : Region.free md ops listed i = true) (hr : (Region.ready md ops listed).contains i = true)
    (hc : (closedB md ops listed && reachB md ops 12 i k && (i != k)) = true)
    (hQ : ∀ c a w, Q (.panic c) (a.put oi.dst v) w → Q (.panic c) a w) (hy : YieldsIf P ops S oi v a) (hS : S w)
    (h : wpAnyK P md ops Q S k fuel (listed.setIfInBounds i true) (a.put oi.dst v) w) : wpAnyK P md ops Q S k (fuel + 1) listed a w := by
  simp only [Bool.and_eq_true, bne_iff_ne, ne_eq] at hc
  exact wpAnyK_first hi (Region.noSelect_spec hs) hQ 12 hc.1.2 hc.2 fuel listed a w (closed_spec hc.1.1) (Region.free_spec hi hf) (by simpa using hr) hy hS h
/-- what yields in whatever world may be taken first, before and behind k -/
theorem wpAnyK_first0 {i : Nat} {oi : Oper} {v : Value} (hi : ops[i]? = some oi) (hsel : ∀ (j : Nat) (o : Oper) cs b, ops[j]? = some o → o.op ≠ .select cs b)
    (hQ : ∀ c a w, Q (.panic c) (a.put oi.dst v) w → Q (.panic c) a w) (hik : i ≠ k) :
    ∀ (fuel : Nat) (listed : Array Bool) (a : Act) (w : World),
      (∀ j oj, ops[j]? = some oj → j ≠ i → listed.getD j true = false → (∀ e ∈ oj.after, Region.binds md e = true → e.on ≠ i) → oi.apart ops oj = true) →
      i ∈ Region.ready md ops listed → YieldsIf P ops (fun _ => True) oi v a → (listed.getD k false = false → S w) →
      wpAnyK P md ops Q S k fuel (listed.setIfInBounds i true) (a.put oi.dst v) w → wpAnyK P md ops Q S k (fuel + 1) listed a w := by
  intro fuel
  induction fuel with
  | zero =>
    intro listed a w _ hr hy hS H
    refine ⟨fun h => (by rw [h] at hr; cases hr), fun j hj => ?_⟩
    by_cases hji : j = i
    · subst hji; exact hy.wpOp hi trivial ⟨fun h => hS (by rw [getD_set_ne false hik] at h; exact h), H⟩
    · have := ready_mono hj hji
      rw [H.1] at this
      cases this
  | succ fuel ih =>
    intro listed a w hfree hr hy hS H
    refine ⟨fun h => (by rw [h] at hr; cases hr), fun j hj => ?_⟩
    by_cases hji : j = i
    · subst hji; exact hy.wpOp hi trivial ⟨fun h => hS (by rw [getD_set_ne false hik] at h; exact h), H⟩
    · have h1 := H.2 j (ready_mono hj hji)
      obtain ⟨hjun, oj, hoj, hall⟩ := mem_ready.1 hj
      have hnot : ∀ e ∈ oj.after, Region.binds md e = true → e.on ≠ i := fun e he hb heq => by
        have h1 := hall e he hb
        have h0 := (mem_ready.1 hr).1
        rw [heq] at h1
        rcases Nat.lt_or_ge i listed.size with h' | h'
        · simp [h'] at h0 h1; rw [h0] at h1; cases h1
        · simp [Array.getElem?_eq_none h'] at h1
      have h2 := wpOp_putIf hoj (hfree j oj hoj hji hjun hnot) (fun cs b => hsel i oi cs b hi) (fun cs b => hsel j oj cs b hoj) hQ hy h1
      have hfree' : ∀ k ok, ops[k]? = some ok → k ≠ i → (listed.setIfInBounds j true).getD k true = false →
          (∀ e ∈ ok.after, Region.binds md e = true → e.on ≠ i) → oi.apart ops ok = true := fun k ok hk hki hun hno => by
        refine hfree k ok hk hki ?_ hno
        by_cases hjk : j = k
        · subst hjk; exact hjun
        · rw [getD_set_ne true hjk] at hun; exact hun
      have hkf : (listed.setIfInBounds j true).getD k false = false → ((listed.setIfInBounds i true).setIfInBounds j true).getD k false = false := fun h => by
        rw [Array.setIfInBounds_comm _ _ (fun e => hji e.symm), getD_set_ne false hik]; exact h
      refine wpOp_mono (fun a' w' h3 => ⟨fun h => h3.2.1 (hkf h), ih (listed.setIfInBounds j true) a' w' hfree' (ready_mono hr (Ne.symm hji)) h3.1 (fun h => h3.2.1 (hkf h)) ?_⟩) h2
      rw [Array.setIfInBounds_comm _ _ hji]
      exact h3.2.2
theorem wpAnyK_take0 {i : Nat} {oi : Oper} {v : Value} {fuel : Nat} {listed : Array Bool} {a : Act} {w : World} (hi : ops[i]? = some oi)
    (hs : Region.noSelect ops = true) (hf : Region.free md ops listed i = true) (hr : (Region.ready md ops listed).contains i = true) (hik : i ≠ k)
    (hQ : ∀ c a w, Q (.panic c) (a.put oi.dst v) w → Q (.panic c) a w) (hy : YieldsIf P ops (fun _ => True) oi v a) (hS : listed.getD k false = false → S w)
    (h : wpAnyK P md ops Q S k fuel (listed.setIfInBounds i true) (a.put oi.dst v) w) : wpAnyK P md ops Q S k (fuel + 1) listed a w :=
  wpAnyK_first0 hi (Region.noSelect_spec hs) hQ hik fuel listed a w (Region.free_spec hi hf) (by simpa using hr) hy hS h
theorem wpAnyK_all {rs : List Nat} {fuel : Nat} {listed : Array Bool} {a : Act} {w : World} (hr : Region.ready md ops listed = rs) (hne : rs ≠ [])
    (h : ∀ i ∈ rs, wpOp P ops Q i (fun a' w' => ((listed.setIfInBounds i true).getD k false = false → S w') ∧ wpAnyK P md ops Q S k fuel (listed.setIfInBounds i true) a' w') a w) : wpAnyK P md ops Q S k (fuel + 1) listed a w :=
  ⟨fun h0 => absurd (hr ▸ h0) hne, hr ▸ h⟩
theorem wpAnyK_done {listed : Array Bool} {a : Act} {w : World} (hr : Region.ready md ops listed = []) (h : Q .normal a w) :
    ∀ fuel, wpAnyK P md ops Q S k fuel listed a w
  | 0 => ⟨hr, h⟩
  | _ + 1 => ⟨fun _ => h, by rw [hr]; simp⟩
def AllReadyK (P : Program) (md : Region.Mode) (ops : Array Oper) (Q : Exit → Act → World → Prop) (S : World → Prop) (k fuel : Nat) (listed : Array Bool) (a : Act) (w : World) (rs : List Nat) : Prop :=
  ∀ i ∈ rs, wpOp P ops Q i (fun a' w' => ((listed.setIfInBounds i true).getD k false = false → S w') ∧ wpAnyK P md ops Q S k fuel (listed.setIfInBounds i true) a' w') a w
theorem AllReadyK.nil {fuel : Nat} {listed : Array Bool} {a : Act} {w : World} : AllReadyK P md ops Q S k fuel listed a w [] := fun _ h => by cases h
theorem AllReadyK.cons {fuel : Nat} {listed : Array Bool} {a : Act} {w : World} {i : Nat} {o : Oper} {rs : List Nat} (ho : ops[i]? = some o)
    (h : ∀ K' : Act → World → Prop, Shut (∀ a w, ((listed.setIfInBounds i true).getD k false = false → S w) → wpAnyK P md ops Q S k fuel (listed.setIfInBounds i true) a w → K' a w) → if Region.wanted o (yielded ops a.tmps) = true then Oper.wp P o a w K' Q else K' (a.put o.dst undef) w)
    (hs : AllReadyK P md ops Q S k fuel listed a w rs) : AllReadyK P md ops Q S k fuel listed a w (i :: rs) := fun j hj => by
  rcases List.mem_cons.1 hj with rfl | hj
  · exact wpOp_step ho (fun K' hK => h K' (fun a w hS hW => hK a w ⟨hS, hW⟩))
  · exact hs j hj
theorem wpAnyK_ready {rs : List Nat} {fuel : Nat} {listed : Array Bool} {a : Act} {w : World} (hr : Region.ready md ops listed = rs) (hne : rs ≠ [])
    (h : AllReadyK P md ops Q S k fuel listed a w rs) : wpAnyK P md ops Q S k (fuel + 1) listed a w := wpAnyK_all hr hne h
theorem wp_region_k {id : Nat} {a : Act} {w : World} (hm : P.follows .mixedOrders = true) (S : World → Prop) (k : Nat) (hS : S w.drew)
    (h : S w.drew → wpAnyK P .any ops Q S k ops.size (Array.replicate ops.size false) a w.drew) : (Code.region id ops true).wp P Q a w :=
  wp_region_any hm (wpAny_of_k _ _ _ _ (h hS))
theorem shutK {S : World → Prop} {W : Act → World → Prop} {c : Prop} {K' : Act → World → Prop} {a : Act} {w : World} (hK : Shut (∀ a w, (c → S w) → W a w → K' a w)) (hS : S w) (h : S w → W a w) : K' a w := hK.out _ _ (fun _ => hS) (h hS)
theorem shutK_off {S : World → Prop} {W : Act → World → Prop} {c : Prop} {K' : Act → World → Prop} {a : Act} {w : World} (hK : Shut (∀ a w, (c → S w) → W a w → K' a w)) (hc : ¬ c) (h : W a w) : K' a w := hK.out _ _ (fun h0 => absurd h0 hc) h
end
end Go.Proofs.YtmakailcpkogdaaGreatDoor
end
