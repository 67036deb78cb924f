/- Parts of one proof: GramB, GramD, RecPlain, EncPlain, BitsA, BloomA, SchJ, BloomB, PhonB, BlkB, CmpPlain, BitsB, BlkC, BlkD, BloomC, Shelf2, EncA, EncB, EncC. -/
import Derived.Test.YtdckkggmmakfiaaGreatDoorPartBlockingAgree4
import Derived.Lib.ItoaNum
import Derived.Deep.RegionHeld3
import Derived.IntWalk
import Derived.Deep.DeepCutAuto
import Derived.Deep.CutBlock
import Derived.Shelf.Strings.Builder1
import Derived.Shelf.Strings.Builder2
import Derived.Shelf.Strings.OnBuilder
import Derived.Shelf.Strings.Trim
import Derived.Shelf.Small.Utf8
import Derived.Shelf.Small.Bits
import Derived.Shelf.Small.Strs
import Derived.Shelf.Strings.BuilderF
import Derived.Shelf.Strings.BuilderK
import Derived.Shelf.Strconv.Itoa0
import Derived.Shelf.Strconv.Itoa1
import Derived.Shelf.LaysM
import Derived.Shelf.Strconv.Itoa2
import Derived.Shelf.Strconv.Itoa3
import Derived.Shelf.Strings.Search1
import Derived.Shelf.Sort.Plain
import Derived.Shelf.Unicode.Decode
import Derived.Shelf.Strings.Runes
import Derived.Shelf.Strings.AsciiSet
import Derived.Shelf.Unicode.DecodeSlow
import Derived.Shelf.Strings.FieldsFuncAny
import Derived.Shelf.Slices.Turned
import Derived.Shelf.Slices.In.SortNone
import Derived.Test.YtdckkggmmakfiaaGreatDoorProg
section
/- gram.Grams. -/
set_option linter.unusedSimpArgs false
set_option linter.unusedVariables false
set_option maxRecDepth 100000
namespace Go.Proofs.YtdckkggmmakfiaaGreatDoor
open Go.RowKit
attribute [local go_sem] toList_mk mk_size bytes_append
theorem wrapT_cons (t : List UInt8) : wrapT t = 95 :: (t ++ [95]) := rfl
theorem bigr_getD (l : List UInt8) : ∀ j, j + 1 < l.length → (bigrA l).getD j [] = [l.getD j 0, l.getD (j + 1) 0] := by
  induction l using bigrA.induct with
  | case1 a b r ih =>
    intro j hj
    cases j with
    | zero => rfl
    | succ j =>
      have := ih j (by simp at hj ⊢; omega)
      simp only [bigrA, List.getD_cons_succ] at this ⊢
      exact this
  | case2 l h =>
    intro j hj
    match l, h with
    | [], _ => simp at hj
    | [a], _ => simp at hj
    | a :: b :: r, h => exact absurd rfl (h a b r)
theorem take_two (l : List UInt8) (j : Nat) (h : j + 1 < l.length) : ((⟨l.toArray⟩ : ByteArray).extract j (j + 2)) = ⟨[l.getD j 0, l.getD (j + 1) 0].toArray⟩ := by
  have := ext_mk l j (j + 2) (by omega)
  unfold mkS at this
  rw [this]
  congr 2
  rw [List.drop_take, List.drop_eq_getElem_cons (by omega), List.drop_eq_getElem_cons (by omega), List.getD, List.getD, List.getElem?_eq_getElem (by omega), List.getElem?_eq_getElem h]
  rw [show j + 2 - j = 2 by omega]; rfl
theorem gramsAll_take (T : List (List UInt8)) (k : Nat) (h : k < T.length) : gramsAll (T.take (k + 1)) = gramsAll (T.take k) ++ bigrA (wrapT (T.getD k [])) := by
  have := take_snocA T k h
  rw [show (default : List UInt8) = [] from rfl] at this
  rw [this]; simp [gramsAll]
theorem gramsAll_small (T : List (List UInt8)) (h : ∀ t ∈ T, t.length ≤ 64) : (gramsAll T).length ≤ 65 * T.length := by
  induction T with
  | nil => simp [gramsAll]
  | cons t T ih =>
    have h1 := ih fun x hx => h x (List.mem_cons_of_mem _ hx)
    have h2 := h t List.mem_cons_self
    have e : (gramsAll (t :: T)).length = t.length + 1 + (gramsAll T).length := by
      simp only [gramsAll, List.flatMap_cons, List.length_append, bigr_len, wrapT]; simp; try omega
    rw [e, List.length_cons]; omega
theorem toks_len (l : List UInt8) (h : l.length ≤ 64) : (toks l).length ≤ 65 ∧ ∀ t ∈ toks l, t.length ≤ 64 := by
  have h1 := toksA_len l []
  unfold toks
  refine ⟨by simp at h1; omega, fun t ht => ?_⟩
  have : ∀ (L : List (List UInt8)), t ∈ L → t.length ≤ (joinL L).length := by
    intro L
    induction L with
    | nil => intro h; simp at h
    | cons a L ih =>
      intro h
      by_cases hL : L = []
      · subst hL; simp at h; subst h; exact Nat.le_refl _
      · rw [join_cons_ne _ _ hL]
        rcases List.mem_cons.1 h with rfl | h
        · simp
        · have := ih h; simp; omega
  have := this _ ht
  simp at h1; omega
set_option maxHeartbeats 4000000 in
theorem ggrams_any (s : ByteArray) (w : World) (hs : s.size ≤ 64) (ha : ascii s.data.toList) :
    Calls Tryz.prog 144 #[.string s] w fun e w' => ∃ v, e = .returned v ∧ Vec w' Any1 1 encS v (gramsL s.data.toList) ∧ Below w.heap.size w w' := by
  have hl : s.data.toList.length = s.size := by simp
  obtain ⟨hT1, hT2⟩ := toks_len s.data.toList (by omega)
  have hc := tokens_any s.data.toList w ha (by omega)
  rw [show strV s.data.toList = .string s by simp] at hc
  obtain ⟨T, hT⟩ : ∃ T, toks s.data.toList = T := ⟨_, rfl⟩
  have hG : gramsL s.data.toList = setL (gramsAll T) := by unfold gramsL; rw [hT]
  rw [hT] at hT1 hT2 hc
  rw [hG]
  have HC := Lib.hid hc; have HT2 := Lib.hid hT2
  have d1 : decide ((64 : Int) < s.size) = false := by simp; omega
  clear hl hc hT hG hT2 ha
  go_enter Tryz.func144, Tryz.ntmps144
  go_wp2_with fail
  refine HC.out.mono ?_
  rintro e w1 ⟨A, rfl, hA, ho, hb1⟩
  have HR := Lib.hid (own_block ho).2
  have zA := lt_of_blk HR.out
  have HB1 := Lib.hid hb1
  clear ho hb1 HC d1
  go_wp2_with fail
  go_loopw [3, 13] (fun v i wr => ∃ k : Nat, k ≤ T.length ∧ i = .int .i64 k ∧ OwnAt w1 v (gramsAll (T.take k)) wr) (fun _ i _ => T.length - (intOf i).toNat)
  case atStart => exact ⟨0, by omega, rfl, OwnAt.start w1⟩
  case round =>
    obtain ⟨k, hk, rfl, ho⟩ := hrel
    have HO := Lib.hid ho; clear ho
    by_cases hlt : k < T.length
    · have hq : decide ((k : Int) < T.length) = true := by simp; omega
      have hgl := gramsAll_small (T.take k) (fun t ht => HT2.out t (List.mem_of_mem_take ht))
      have htl := List.length_take_le k T
      have hx1 : (T.getD k []).length ≤ 64 := by rw [List.getD, List.getElem?_eq_getElem hlt]; exact HT2.out _ (List.getElem_mem hlt)
      have c1 := (show RowB _ A T from blk_below HO.out.2 zA HR.out).cell k hlt
      have HG := Lib.hid (gramsAll_take T k hlt)
      obtain ⟨t, ht⟩ : ∃ t, T.getD k [] = t := ⟨_, rfl⟩
      rw [ht] at c1 hx1 HG
      clear ht
      obtain ⟨wo, rfl⟩ : ∃ wo : World, wo = wr := ⟨_, rfl⟩
      go_wp2_with fail
      go_loopw [3, 23] (fun v i wr => ∃ j : Nat, j ≤ 1 + t.length ∧ i = .int .i64 j ∧ OwnAt w1 v (gramsAll (T.take k) ++ (bigrA (wrapT t)).take j) wr) (fun _ i _ => 1 + t.length - (intOf i).toNat)
      case atStart => exact ⟨0, by omega, rfl, by simpa using HO.out⟩
      case round =>
        obtain ⟨j, hj, rfl, ho2⟩ := hrel
        have HO2 := Lib.hid ho2; clear ho2
        have hwl : (wrapT t).length = t.length + 2 := by simp [wrapT]
        by_cases hlj : j < 1 + t.length
        · have hq2 : decide ((j : Int) < 1 + t.length) = true := by simp; omega
          have hext := take_two (wrapT t) j (by omega)
          have hbg := bigr_getD (wrapT t) j (by omega)
          have hbl : j < (bigrA (wrapT t)).length := by rw [bigr_len]; omega
          have htk := take_snocA (bigrA (wrapT t)) j hbl
          rw [show (default : List UInt8) = [] from rfl, hbg] at htk
          obtain ⟨z, hz⟩ : ∃ z, [(wrapT t).getD j 0, (wrapT t).getD (j + 1) 0] = z := ⟨_, rfl⟩
          rw [hz] at hext htk
          rw [wrapT_cons] at hext
          have HTK := Lib.hid htk
          have hln : (gramsAll (T.take k) ++ (bigrA (wrapT t)).take j).length < 1099511627776 := by
            have := List.length_take_le j (bigrA (wrapT t))
            simp only [List.length_append]; omega
          have hone : ∀ u ∈ (#[strV z] : Array Value).toList, u.oneCell' = true := by intro u hu; simp at hu; subst hu; rfl
          clear hbg hbl htk hz hwl
          go_wp2_with (at_builtin; refine wpList_append_new rfl _ _ 28 rfl w1.heap.size 9 1 16 (.string ⟨#[]⟩) Tryz.underlying28 infoS rfl (by decide) (by decide) _ _ _ rfl HO2.out.1 #[strV z] 1 rfl rfl hone hln HO2.out.2.size ?_; intro v2 w8 ho8 hw8)
          go_roundw
          case rel => exact ⟨j + 1, by omega, by go_num, by rw [HTK.out, ← List.append_assoc]; exact ⟨by rw [List.length_append, flat_snoc]; exact ho8, hw8 _ HO2.out.2⟩⟩
          case measure => simp [intOf]; omega
        · have hq2 : decide ((j : Int) < 1 + t.length) = false := by simp; omega
          rw [show (bigrA (wrapT t)).take j = bigrA (wrapT t) from List.take_of_length_le (by rw [bigr_len]; omega), ← HG.out] at HO2
          go_wp2_with fail
          go_roundw
          case rel => exact ⟨k + 1, by omega, by go_num, HO2.out⟩
          case measure => simp [intOf]; omega
    · have hq : decide ((k : Int) < T.length) = false := by simp; omega
      rw [List.take_of_length_le (by omega)] at HO
      have hgl := gramsAll_small T HT2.out
      have HV := Lib.hid (Vec.owns (S := Any1) (k := 1) (enc := encS) (fun _ => rfl) HO.out.1 (fun _ _ _ => trivial))
      have hsm : ∀ x ∈ gramsAll T, x.length ≤ 1000000 := by
        intro x hx
        obtain ⟨t, ht, hx⟩ := List.mem_flatMap.1 hx
        have key : ∀ l : List UInt8, ∀ x ∈ bigrA l, x.length = 2 := by
          intro l
          induction l using bigrA.induct with
          | case1 a b r ih => intro x hx; simp only [bigrA] at hx; rcases List.mem_cons.1 hx with rfl | hx; · rfl
                              exact ih x hx
          | case2 l h =>
            intro x hx
            match l, h with
            | [], _ => simp [bigrA] at hx
            | [a], _ => simp [bigrA] at hx
            | a :: b :: r, h => exact absurd rfl (h a b r)
        have := key _ x hx; omega
      have HSm := Lib.hid hsm; clear hsm
      go_wp2_with fail
      refine (set_any Any1 _ (gramsAll T) _ HV.out (by omega) HSm.out).mono ?_
      rintro e w3 ⟨v3, rfl, ho3⟩
      have HV3 := Lib.hid (Vec.owns (S := Any1) (k := 1) (enc := encS) (fun _ => rfl) ho3.1 (fun _ _ _ => trivial))
      have HB3 := Lib.hid ((HB1.out.trans (HO.out.2.mono HB1.out.size)).trans (ho3.2.mono (Nat.le_trans HB1.out.size HO.out.2.size)))
      clear ho3
      go_wp2_with fail
      go_ret
      exact ⟨v3, rfl, HV3.out, HB3.out⟩
end Go.Proofs.YtdckkggmmakfiaaGreatDoor
end
section
/- schema.Grams: what it returns, of every input. -/
set_option linter.unusedSimpArgs false
set_option linter.unusedVariables false
set_option maxRecDepth 100000
namespace Go.Proofs.YtdckkggmmakfiaaGreatDoor
open Go.RowKit Cal
attribute [local go_sem] toList_mk mk_size bytes_append
set_option maxHeartbeats 400000 in
theorem kind4_any (s : ByteArray) (w : World) (hs : s.size ≤ 1000) :
    Calls Tryz.prog 153 #[.string s] w fun e w' => ∃ v, e = .returned v ∧ Vec w' Any1 1 encS v [61 :: s.data.toList] ∧ Below w.heap.size w w' := by
  have hs2 : (⟨#[61]⟩ : ByteArray) ++ s = ⟨(61 :: s.data.toList).toArray⟩ := by
    apply ByteArray.ext; simp
  go_enter Tryz.func153, Tryz.ntmps153
  go_wp2
  go_ret
  exact ⟨_, rfl, vec_block (L := [61 :: s.data.toList]) (blk_new rfl) 1 rfl, (Below.refl _ _).alloc (Nat.le_refl _) _⟩
/-- the grams of a value, and the error -/
def gramsN (s : SchemaL) (f : Int) (l : List UInt8) : List (List UInt8) × Int := if (findN s f).2 = 0 then (if normalB s f l = true then (gramsK (findN s f).1 l, 0) else ([], 7)) else ([], (findN s f).2)
def GramsIs (p : List (List UInt8) × Int) (w : World) (e : Ending) (w' : World) : Prop := ∃ v, e = .returned (.tuple #[v, .int .i64 p.2]) ∧ Vec w' Any1 1 encS v p.1 ∧ Below w.heap.size w w'
theorem own_small {p : List UInt8 × Int} {l : List UInt8} (h : isOwn p l = true) (hf : FormOk p) : l.length ≤ 64 ∧ p = (l, 0) := by
  obtain ⟨a, b⟩ := p
  unfold isOwn at h
  cases hb : (b == (0 : Int))
  · rw [hb] at h; cases h
  · rw [hb] at h
    simp only [cond_true, beq_iff_eq] at h hb
    subst h hb
    exact ⟨hf.1, rfl⟩
theorem join_ascii {M : List (List UInt8)} (h : ∀ t ∈ M, okT t) : ascii (joinL M) := fun b hb => okB_lt (join_ok M h b hb)
/-- what a value in normal form is like -/
theorem own_facts {k : Int} {r : RulesL} {l : List UInt8} (h : ownK k r l = true) (hk : k = 1 ∨ k = 2 ∨ k = 3 ∨ k = 4) : l.length ≤ 64 ∧ (k = 1 ∨ k = 4 → ascii l) ∧ (k = 2 → l.length = 8) := by
  unfold ownK at h
  rcases hk with rfl | rfl | rfl | rfl
  · obtain ⟨h1, h2⟩ := own_small (show isOwn (nameN r l) l = true from h) (nameN_form r l)
    obtain ⟨M, g1, g2, _⟩ := nameN_toks h2
    exact ⟨h1, fun _ => by rw [g2]; exact join_ascii g1, fun e => by omega⟩
  · have hr : readB l = true := h
    unfold readB at hr
    cases hd : decide (l.length = 8)
    · rw [hd] at hr; cases hr
    · have : l.length = 8 := by simpa using hd
      exact ⟨by omega, fun e => by omega, fun _ => this⟩
  · obtain ⟨h1, h2⟩ := own_small (show isOwn (codeN l) l = true from h) (codeN_form l)
    exact ⟨h1, fun e => by omega, fun e => by omega⟩
  · obtain ⟨h1, h2⟩ := own_small (show isOwn (addrN r l) l = true from h) (addrN_form r l)
    obtain ⟨M, g1, g2, _⟩ := addrN_toks h2
    exact ⟨h1, fun _ => by rw [g2]; exact join_ascii g1, fun e => by omega⟩
end Go.Proofs.YtdckkggmmakfiaaGreatDoor
end
section
/- Plain: records: which are valid, how they are made. -/
set_option linter.unusedSimpArgs false
set_option linter.unusedVariables false
namespace Go.Proofs.YtdckkggmmakfiaaGreatDoor
open Go.RowKit
/-- a record -/
structure RecL where
  id : Int
  ver : Int
  vals : List (List UInt8)
def noRec : RecL := ⟨0, 0, []⟩
def numberedB (i v : Int) : Bool := decide (1 ≤ i) && decide (i ≤ 1048576) && decide (1 ≤ v) && decide (v ≤ 1048576)
/-- values from field i on are normal -/
def normA (s : SchemaL) : Nat → List (List UInt8) → Bool
  | _, [] => true
  | i, x :: l => normalB s i x && normA s (i + 1) l
def checkI (s : SchemaL) (r : RecL) : Int := if (numberedB r.id r.ver && (r.vals.length == s.fields.length) && normA s 0 r.vals) = true then 0 else 7
def checkN (s : SchemaL) (r : RecL) : Int := if checkS s = 0 then checkI s r else checkS s
/-- the values that are made of raw ones, from field i on, behind C; the error -/
def makeA (s : SchemaL) : Nat → List (List UInt8) → List (List UInt8) → List (List UInt8) × Int
  | _, C, [] => (C, 0)
  | i, C, x :: l => if (valueN s i x).2 = 0 then makeA s (i + 1) (C ++ [(valueN s i x).1]) l else ([], (valueN s i x).2)
def makeN (s : SchemaL) (id ver : Int) (raws : List (List UInt8)) : RecL × Int :=
  if checkS s = 0 then
    if raws.length = s.fields.length then
      if numberedB id ver = true then (if (makeA s 0 [] raws).2 = 0 then (⟨id, ver, (makeA s 0 [] raws).1⟩, 0) else (noRec, (makeA s 0 [] raws).2))
      else (noRec, 7)
    else (noRec, 8)
  else (noRec, checkS s)
theorem makeA_len (s : SchemaL) (raws : List (List UInt8)) : ∀ i C, (makeA s i C raws).2 = 0 → (makeA s i C raws).1.length = C.length + raws.length := by
  induction raws with
  | nil => intro i C _; simp [makeA]
  | cons x l ih =>
    intro i C h
    unfold makeA at h ⊢
    split at h
    · rename_i h0
      rw [if_pos h0, ih _ _ h]; simp; omega
    · rename_i h0
      exact absurd h h0
theorem normA_append (s : SchemaL) (A B : List (List UInt8)) : ∀ i, normA s i (A ++ B) = (normA s i A && normA s (i + A.length) B) := by
  induction A with
  | nil => intro i; simp [normA]
  | cons x A ih => intro i; simp only [List.cons_append, normA, ih, List.length_cons, Bool.and_assoc]; rw [show i + 1 + A.length = i + (A.length + 1) by omega]
theorem normA_get (s : SchemaL) (L : List (List UInt8)) : ∀ i, normA s i L = true → ∀ j, j < L.length → normalB s (i + j : Nat) (L.getD j []) = true := by
  induction L with
  | nil => intro i _ j hj; simp at hj
  | cons x L ih =>
    intro i h j hj
    simp only [normA, Bool.and_eq_true] at h
    cases j with
    | zero => simpa using h.1
    | succ j =>
      have := ih (i + 1) h.2 j (by simpa using hj)
      rw [show i + (j + 1) = i + 1 + j by omega]
      simpa using this
theorem normA_of (s : SchemaL) (L : List (List UInt8)) : ∀ i, (∀ j, j < L.length → normalB s (i + j : Nat) (L.getD j []) = true) → normA s i L = true := by
  induction L with
  | nil => intro i _; rfl
  | cons x L ih =>
    intro i h
    simp only [normA, Bool.and_eq_true]
    refine ⟨by simpa using h 0 (by simp), ih (i + 1) fun j hj => ?_⟩
    have := h (j + 1) (by simpa using hj)
    rw [show i + (j + 1) = i + 1 + j by omega] at this
    simpa using this
theorem makeA_norm (s : SchemaL) (raws : List (List UInt8)) : ∀ i C, (makeA s i C raws).2 = 0 → i = C.length → normA s 0 C = true → normA s 0 (makeA s i C raws).1 = true := by
  induction raws with
  | nil => intro i C _ _ h; simpa [makeA] using h
  | cons x l ih =>
    intro i C h hi hC
    unfold makeA at h ⊢
    split at h
    · rename_i h0
      rw [if_pos h0]
      refine ih _ _ h (by simp; omega) ?_
      rw [normA_append, hC, Bool.true_and, Nat.zero_add]
      obtain ⟨⟨v, e⟩, hp⟩ : ∃ p, valueN s i x = p := ⟨_, rfl⟩
      rw [hp] at h0 ⊢
      dsimp only at h0
      subst h0
      simp only [normA, Bool.and_true]
      rw [← hi]
      exact (value_normal hp).1
    · rename_i h0
      exact absurd h h0
theorem makeN_ok {s : SchemaL} {id ver : Int} {raws : List (List UInt8)} {r : RecL} (h : makeN s id ver raws = (r, 0)) :
    checkS s = 0 ∧ r.id = id ∧ r.ver = ver ∧ numberedB id ver = true ∧ r.vals.length = s.fields.length ∧ raws.length = s.fields.length ∧ normA s 0 r.vals = true ∧ r.vals = (makeA s 0 [] raws).1 ∧ (makeA s 0 [] raws).2 = 0 := by
  unfold makeN at h
  split at h
  · rename_i h1
    split at h
    · rename_i h2
      split at h
      · rename_i h3
        split at h
        · rename_i h4
          obtain rfl : RecL.mk id ver (makeA s 0 [] raws).1 = r := congrArg Prod.fst h
          exact ⟨h1, rfl, rfl, h3, by simpa [h2] using makeA_len s raws 0 [] h4, h2, makeA_norm s raws 0 [] h4 rfl rfl, rfl, h4⟩
        · rename_i h4
          exact absurd (congrArg Prod.snd h) h4
      · exact absurd (congrArg Prod.snd h) (show (7 : Int) ≠ 0 by decide)
    · exact absurd (congrArg Prod.snd h) (show (8 : Int) ≠ 0 by decide)
  · rename_i h1
    exact absurd (congrArg Prod.snd h) h1
theorem checkN_of {s : SchemaL} {r : RecL} (h0 : checkS s = 0) (h1 : numberedB r.id r.ver = true) (h2 : r.vals.length = s.fields.length) (h3 : normA s 0 r.vals = true) : checkN s r = 0 := by
  unfold checkN checkI
  rw [if_pos h0, h1, h3, h2]; simp
theorem checkN_ok {s : SchemaL} {r : RecL} (h : checkN s r = 0) : checkS s = 0 ∧ numberedB r.id r.ver = true ∧ r.vals.length = s.fields.length ∧ normA s 0 r.vals = true := by
  unfold checkN at h
  split at h
  · rename_i h0
    unfold checkI at h
    split at h
    · rename_i h1
      simp only [Bool.and_eq_true, beq_iff_eq] at h1
      exact ⟨h0, h1.1.1, h1.1.2, h1.2⟩
    · exact absurd h (by decide)
  · rename_i h0; exact absurd h h0
theorem normalB_nil {s : SchemaL} {f : Int} (h : (findN s f).2 = 0) : normalB s f [] = true := by
  unfold normalB; rw [if_pos h, if_pos rfl]
/-- a record without values is normal -/
theorem none_norm {s : SchemaL} (h : checkS s = 0) : normA s 0 (List.replicate s.fields.length []) = true := by
  refine normA_of _ _ _ fun j hj => ?_
  rw [List.length_replicate] at hj
  have e : (List.replicate s.fields.length ([] : List UInt8)).getD j [] = [] := by simp [List.getD, List.getElem?_replicate]; split <;> rfl
  rw [e]
  refine normalB_nil ?_
  rw [findN_in h (by simpa using hj)]
end Go.Proofs.YtdckkggmmakfiaaGreatDoor
end
section
/- Plain: arrays of bits, bloom filters, encoded records: what the functions of the layers 9, 14 and 16 return. -/
set_option linter.unusedSimpArgs false
set_option linter.unusedVariables false
namespace Go.Proofs.YtdckkggmmakfiaaGreatDoor
open Go.RowKit
/-- an array of bits -/
structure BitsL where
  len : Int
  words : List Int
def noBits : BitsL := ⟨0, []⟩
/-- the parameters of a field -/
structure ParL where
  len : Int
  hashes : Int
  salt : Int
instance : Inhabited ParL := ⟨⟨0, 0, 0⟩⟩
structure EncL where
  id : Int
  ver : Int
  fields : List BitsL
/-- a length that an array may have -/
def rightB (n : Int) : Bool := decide (64 ≤ n) && decide (n ≤ 512) && (n % 64 == 0)
def bloomOk (p : ParL) : Bool := rightB p.len && decide (1 ≤ p.hashes) && decide (p.hashes ≤ 16) && decide (-1 ≤ p.salt) && decide (p.salt < 5)
/-- n positions, from x on, each y further than the one before -/
def posN (len y : Int) : Nat → Int → List Int
  | 0, _ => []
  | n + 1, x => x :: posN len y n ((x + y) % len)
def firstP (p : ParL) (k : Int × Int) (g : List UInt8) : Int := (partsP k.1 k.2 [[49], g]) % p.len
def stepP (p : ParL) (k : Int × Int) (g : List UInt8) : Int := 1 + (partsP k.1 k.2 [[50], g]) % (p.len - 1)
def positionsN (p : ParL) (k : Int × Int) (g : List UInt8) : List Int := posN p.len (stepP p k g) p.hashes.toNat (firstP p k g)
/-- a bit more -/
def orBit (ws : List Int) (i : Int) : List Int := ws.set (i / 64).toNat (bits .or .u64 (ws.getD (i / 64).toNat 0) (IntKind.u64.wrap (2 ^ (i % 64).toNat)))
def orGram (p : ParL) (k : Int × Int) (ws : List Int) (g : List UInt8) : List Int := (positionsN p k g).foldl orBit ws
def zeroW (n : Int) : List Int := List.replicate (n / 64).toNat 0
/-- the array of grams, and the error -/
def bloomN (p : ParL) (k : Int × Int) (G : List (List UInt8)) : BitsL × Int :=
  if bloomOk p = true then (if G.length ≤ 80 then (⟨p.len, G.foldl (orGram p k) (zeroW p.len)⟩, 0) else (noBits, 1)) else (noBits, 10)
structure ParOk (p : ParL) : Prop where
  len1 : 64 ≤ p.len
  len2 : p.len ≤ 512
  len3 : p.len % 64 = 0
  h1 : 1 ≤ p.hashes
  h2 : p.hashes ≤ 16
  s1 : -1 ≤ p.salt
  s2 : p.salt < 5
theorem ParOk.right {p : ParL} (h : ParOk p) : rightB p.len = true := by
  have h1 := h.len1; have h2 := h.len2; have h3 := h.len3
  simp [rightB, h1, h2, h3]
theorem ParOk.bloom {p : ParL} (h : ParOk p) : bloomOk p = true := by
  have h0 := h.right; have h1 := h.h1; have h2 := h.h2; have h3 := h.s1; have h4 := h.s2
  simp [bloomOk, h0, h1, h2, h3, h4]
theorem orBit_len (ws : List Int) (i : Int) : (orBit ws i).length = ws.length := by simp [orBit]
theorem orBits_len (l : List Int) : ∀ ws : List Int, (l.foldl orBit ws).length = ws.length := by
  induction l with
  | nil => intro ws; rfl
  | cons x l ih => intro ws; rw [List.foldl_cons, ih, orBit_len]
theorem orGrams_len (p : ParL) (k : Int × Int) (G : List (List UInt8)) : ∀ ws : List Int, (G.foldl (orGram p k) ws).length = ws.length := by
  induction G with
  | nil => intro ws; rfl
  | cons x l ih => intro ws; rw [List.foldl_cons, ih]; exact orBits_len _ _
/-- decimal digits of a field's number -/
def digN (n : Nat) : List UInt8 := if n < 10 then [UInt8.ofNat (48 + n)] else []
def fieldLabel (t : List UInt8) : List UInt8 := [102, 105, 101, 108, 100] ++ t
def saltLabel (t : List UInt8) : List UInt8 := [115, 97, 108, 116, 61] ++ t
/-- the key of a field: num is its number in decimal digits -/
def keyN (k : Int × Int) (num : List UInt8) (salted : Bool) (salt : List UInt8) : Int × Int :=
  let x := deriveP k.1 k.2 (fieldLabel num)
  bif salted then deriveP x.1 x.2 (saltLabel salt) else x
/-- the text that salts a field's key -/
def saltOf (p : ParL) (vals : List (List UInt8)) : List UInt8 := if 0 ≤ p.salt then vals.getD p.salt.toNat [] else []
/-- the array of field i -/
def fieldN (s : SchemaL) (p : ParL) (k : Int × Int) (vals : List (List UInt8)) (i : Nat) : BitsL :=
  if vals.getD i [] = [] then noBits else (bloomN p (keyN k (Lib.decDigits i) (decide (0 ≤ p.salt)) (saltOf p vals)) (gramsN s i (vals.getD i [])).1).1
theorem bigrams_two : ∀ (l : List UInt8), ∀ x ∈ bigrA l, x.length = 2
  | [], x, h => by simp [bigrA] at h
  | [a], x, h => by simp [bigrA] at h
  | a :: b :: l, x, h => by
    simp only [bigrA, List.mem_cons] at h
    rcases h with rfl | h
    · rfl
    · exact bigrams_two (b :: l) x h
theorem posL_two : ∀ (l : List UInt8) (j : Nat), ∀ x ∈ posL j l, x.length = 2
  | [], j, x, h => by simp [posL] at h
  | c :: l, j, x, h => by
    simp only [posL, List.mem_cons] at h
    rcases h with rfl | h
    · rfl
    · exact posL_two l (j + 1) x h
theorem gramsL_two (l : List UInt8) : ∀ x ∈ gramsL l, x.length = 2 := by
  intro x h
  unfold gramsL at h
  rw [set_mem] at h
  unfold gramsAll at h
  obtain ⟨t, _, ht⟩ := List.mem_flatMap.1 h
  exact bigrams_two _ _ ht
/-- the grams of a value in normal form: not too many, not too long -/
theorem grams_fit {s : SchemaL} {i : Int} {l : List UInt8} (h : normalB s i l = true) (hi : (findN s i).2 = 0) : (gramsN s i l).2 = 0 ∧ (gramsN s i l).1.length ≤ 80 ∧ (∀ g ∈ (gramsN s i l).1, g.length ≤ 100) ∧ l.length ≤ 64 := by
  unfold gramsN
  rw [if_pos hi, if_pos h]
  by_cases h0 : l = []
  · subst h0; simp [gramsK]
  · have ho : ownK (findN s i).1 s.rules l = true := by unfold normalB at h; rw [if_pos hi, if_neg h0] at h; exact h
    obtain ⟨g1, g2, g3⟩ := own_facts ho (findN_kind hi)
    refine ⟨rfl, ?_, ?_, g1⟩
    · unfold gramsK
      rw [if_neg h0]
      split
      · rw [posL_len]; omega
      · split
        · simp
        · have := grams_bound g1; show (gramsL l).length ≤ 80; omega
    · unfold gramsK
      rw [if_neg h0]
      split
      · intro g hg; rw [posL_two _ _ g hg]; omega
      · split
        · intro g hg; simp at hg; subst hg; simp; omega
        · intro g hg; rw [gramsL_two _ g hg]; omega
end Go.Proofs.YtdckkggmmakfiaaGreatDoor
end
section
/- bitset, the program's: lengths, valid arrays, new arrays. -/
set_option linter.unusedSimpArgs false
set_option linter.unusedVariables false
set_option maxRecDepth 100000
namespace Go.Proofs.YtdckkggmmakfiaaGreatDoor
open Go.RowKit
/-- words of an array -/
abbrev encU (x : Int) : List Value := [.int .u64 x]
theorem made_words (m : Nat) : madeCells #[.int .u64 0] m = ((List.replicate m (0 : Int)).flatMap encU).toArray := by
  apply Array.ext'
  have : ∀ k, (List.replicate k (0 : Int)).flatMap encU = List.replicate k (.int .u64 0) := by
    intro k; induction k with
    | zero => rfl
    | succ k ih => rw [List.replicate_succ, List.flatMap_cons, ih]; rfl
  rw [this]
  unfold madeCells
  rw [Array.toList_map, Array.toList_range]
  refine List.ext_getElem (by simp) fun i h1 h2 => ?_
  simp [Nat.mod_one]
def NewPost (n : Int) (w : World) (e : Ending) (w' : World) : Prop := ∃ (g m : Nat), e = .returned (.tuple #[.agg #[.int .i64 n, .slice (some ⟨g, 0, none⟩) m m], .int .i64 0]) ∧ n = 64 * m ∧ w.heap.size ≤ g ∧ w'.heap[g]? = some (.cells ((zeroW n).flatMap encU).toArray 37 (0, 0)) ∧ Below w.heap.size w w'
theorem infoU : (Tryz.prog.info? 37).map (fun i => (i.zero, i.size, i.bytes)) = some (some (.int .u64 0), 1, 8) := by kernel_rfl
/-- an array of bits: its two cells -/
def BitsAt (w : World) (S : Nat → Prop) (v : Value) (b : BitsL) : Prop := ∃ s, v = .agg #[.int .i64 b.len, s] ∧ Vec w S 1 encU s b.words
def validB (b : BitsL) : Bool := rightB b.len && ((b.words.length : Int) == b.len / 64)
end Go.Proofs.YtdckkggmmakfiaaGreatDoor
end
section
/- bloom, the program's: the positions of a gram. -/
set_option linter.unusedSimpArgs false
set_option linter.unusedVariables false
set_option maxRecDepth 100000
namespace Go.Proofs.YtdckkggmmakfiaaGreatDoor
open Go.RowKit
/-- w' is w, but for blocks that meet T, and for new blocks -/
structure KeptBut (T : Nat → Prop) (w w' : World) : Prop where
  os : w'.os = w.os
  tape : w'.tape = w.tape
  output : w'.output = w.output
  size : w.heap.size ≤ w'.heap.size
  block : ∀ k, k < w.heap.size → ¬ T k → w'.heap[k]? = w.heap[k]?
theorem KeptBut.refl (T : Nat → Prop) (w : World) : KeptBut T w w := ⟨rfl, rfl, rfl, Nat.le_refl _, fun _ _ _ => rfl⟩
theorem KeptBut.trans {T : Nat → Prop} {a b c : World} (h : KeptBut T a b) (k : KeptBut T b c) : KeptBut T a c :=
  ⟨k.os.trans h.os, k.tape.trans h.tape, k.output.trans h.output, Nat.le_trans h.size k.size, fun i hi ht => (k.block i (Nat.lt_of_lt_of_le hi h.size) ht).trans (h.block i hi ht)⟩
theorem KeptBut.below {T : Nat → Prop} {a b : World} {B : Nat} (h : KeptBut T a b) (hB : ∀ k, k < B → ¬ T k) (hs : B ≤ a.heap.size) : Below B a b := ⟨h.os, h.tape, h.output, h.size, fun k hk => h.block k (by omega) (hB k hk)⟩
theorem KeptBut.ofBelow {T : Nat → Prop} {a b : World} (h : Below a.heap.size a b) : KeptBut T a b := ⟨h.os, h.tape, h.output, h.size, fun k hk _ => h.block k hk⟩
theorem KeptBut.set {T : Nat → Prop} {a b : World} (h : KeptBut T a b) {p : Addr} (hp : T p.block) (v : Value) : KeptBut T a (b.setCell p v) :=
  ⟨h.os, h.tape, h.output, by simpa [World.setCell] using h.size, fun k hk hn => (heap_setCell_other _ _ _ _ (fun e => hn (by rw [e]; exact hp))).trans (h.block k hk hn)⟩
theorem KeptBut.drew {T : Nat → Prop} {a b : World} (h : KeptBut T a b) : KeptBut T a b.drew := ⟨h.os, h.tape, h.output, h.size, h.block⟩
theorem KeptBut.blk {T : Nat → Prop} {a b : World} (h : KeptBut T a b) {k : Nat} {o : Obj} (hk : ¬ T k) (ho : a.heap[k]? = some o) : b.heap[k]? = some o := (h.block k (lt_of_blk ho) hk).trans ho
abbrev oneI (x : Int) : Obj := .cells #[.int .i64 x] 3 (0, 0)
abbrev parC (p : ParL) : Array Value := #[.int .i64 p.len, .int .i64 p.hashes, .int .i64 p.salt]
theorem partsP_bd (ka kb : Int) (L : List (List UInt8)) : 0 ≤ partsP ka kb L ∧ partsP ka kb L < 18446744073709551616 := by
  unfold partsP sumP xr; exact bits_u64_bd _ _ _
end Go.Proofs.YtdckkggmmakfiaaGreatDoor
end
section
/- The sanity check of the laws of schemas. -/
set_option linter.unusedSimpArgs false
set_option linter.unusedVariables false
set_option maxRecDepth 100000
namespace Go.Proofs.YtdckkggmmakfiaaGreatDoor
open Go.RowKit Cal
attribute [local go_sem] toList_mk mk_size
def birthL : List UInt8 := [98, 105, 114, 116, 104]
def awS : SchemaL := ⟨[(birthL, 2)], [[100, 114]], [], []⟩
def rawL0 : List UInt8 := [50, 48, 48, 48, 45, 48, 50, 45, 48, 51]
def normL0 : List UInt8 := [50, 48, 48, 48, 48, 50, 48, 51]
theorem aw_check : checkS awS = 0 := by kernel_rfl
theorem aw_find : findN awS 0 = (2, 0) := by kernel_rfl
theorem aw_value : valueN awS 0 rawL0 = (normL0, 0) := by kernel_rfl
theorem aw_normal : normalB awS 0 normL0 = true := by kernel_rfl
theorem aw_word : wordB [97, 98] = true := by kernel_rfl
theorem aw_text : textL awS = [102, 105, 101, 108, 100, 32, 98, 105, 114, 116, 104, 32, 100, 97, 116, 101, 10, 116, 105, 116, 108, 101, 32, 100, 114, 10] := by kernel_rfl
theorem vecF_one {w : World} {A : Nat} {x : F2} (h : w.heap[A]? = some (.cells #[strV x.1, .int .i64 x.2] 66 (0, 0))) : Vec w Any1 2 encF (.slice (some ⟨A, 0, none⟩) 1 1) [x] :=
  ⟨_, 1, rfl, by simp, fun _ => ⟨A, 0, rfl, trivial, lt_of_blk h, fun j y hj i u hu => by
    have hj0 : j = 0 := by
      have := (List.getElem?_eq_some_iff.1 hj).1
      simp at this; exact this
    subst hj0
    simp at hj; subst hj
    rw [cell_of_row _ _ _ _ _ _ h]
    match i, hu with
    | 0, hu => simpa [encF] using hu
    | 1, hu => simpa [encF] using hu
    | i + 2, hu => simp [encF] at hu⟩⟩
/-- a call's world under a name of its own -/
theorem wp_calls_world {P : Program} {f : FuncId} {args : Array Value} {W : World} {K : Ending → World → Prop} (h : ∀ w', w' = W → Calls P f args w' K) : Calls P f args W K := h W rfl
end Go.Proofs.YtdckkggmmakfiaaGreatDoor
end
section
/- bloom, the program's: Positions. -/
set_option linter.unusedSimpArgs false
set_option linter.unusedVariables false
set_option maxRecDepth 100000
namespace Go.Proofs.YtdckkggmmakfiaaGreatDoor
open Go.RowKit
def itN (len y : Int) : Nat → Int → Int
  | 0, x => x
  | n + 1, x => itN len y n ((x + y) % len)
theorem itN_succ (len y : Int) : ∀ n x, itN len y (n + 1) x = (itN len y n x + y) % len := by
  intro n
  induction n with
  | zero => intro x; rfl
  | succ n ih => intro x; rw [itN, ih]; rfl
theorem posN_snoc (len y : Int) : ∀ n x, posN len y (n + 1) x = posN len y n x ++ [itN len y n x] := by
  intro n
  induction n with
  | zero => intro x; rfl
  | succ n ih => intro x; rw [posN, ih]; rfl
theorem posN_len (len y : Int) : ∀ n x, (posN len y n x).length = n := by
  intro n
  induction n with
  | zero => intro x; rfl
  | succ n ih => intro x; simp [posN, ih]
theorem itN_bd (len y : Int) (hl : 0 < len) (x : Int) (h0 : 0 ≤ x) (h1 : x < len) : ∀ n, 0 ≤ itN len y n x ∧ itN len y n x < len := by
  intro n
  cases n with
  | zero => exact ⟨h0, h1⟩
  | succ n => rw [itN_succ]; exact ⟨Int.emod_nonneg _ (by omega), Int.emod_lt_of_pos _ hl⟩
theorem posN_bd (len y : Int) (hl : 0 < len) : ∀ n x, 0 ≤ x → x < len → ∀ i ∈ posN len y n x, 0 ≤ i ∧ i < len := by
  intro n
  induction n with
  | zero => intro x _ _ i hi; simp [posN] at hi
  | succ n ih =>
    intro x h0 h1 i hi
    simp only [posN, List.mem_cons] at hi
    rcases hi with rfl | hi
    · exact ⟨h0, h1⟩
    · exact ih _ (Int.emod_nonneg _ (by omega)) (Int.emod_lt_of_pos _ hl) i hi
abbrev encI (x : Int) : List Value := [.int .i64 x]
theorem made_ints (m : Nat) : madeCells #[.int .i64 0] m = ((List.replicate m (0 : Int)).flatMap encI).toArray := by
  apply Array.ext'
  have : ∀ k, (List.replicate k (0 : Int)).flatMap encI = List.replicate k (.int .i64 0) := by
    intro k; induction k with
    | zero => rfl
    | succ k ih => rw [List.replicate_succ, List.flatMap_cons, ih]; rfl
  rw [this]
  unfold madeCells
  rw [Array.toList_map, Array.toList_range]
  refine List.ext_getElem (by simp) fun i h1 h2 => ?_
  simp [Nat.mod_one]
theorem infoI : (Tryz.prog.info? 3).map (fun i => (i.zero, i.size, i.bytes)) = some (some (.int .i64 0), 1, 8) := by kernel_rfl
/-- the row of positions: j of them are there -/
theorem prow_step (len y : Int) (H j : Nat) (x : Int) (hj : j < H) : (((posN len y j x ++ List.replicate (H - j) 0).flatMap encI).toArray).setIfInBounds j (.int .i64 (itN len y j x)) = ((posN len y (j + 1) x ++ List.replicate (H - (j + 1)) 0).flatMap encI).toArray := by
  have fl : ∀ l : List Int, l.flatMap encI = l.map (Value.int .i64) := by
    intro l; induction l with
    | nil => rfl
    | cons a l ih => simp only [List.flatMap_cons, List.map_cons, ih]; rfl
  rw [fl, fl, List.setIfInBounds_toArray, show H - j = (H - (j + 1)) + 1 by omega, List.replicate_succ, posN_snoc]
  congr 1
  rw [List.map_append, List.set_append_right _ _ (by rw [List.length_map, posN_len]; exact Nat.le_refl _), List.length_map, posN_len, Nat.sub_self]
  simp
theorem row_cell (len y : Int) (H j : Nat) (x : Int) (hj : j < H) : (((posN len y j x ++ List.replicate (H - j) 0).flatMap encI).toArray)[j]? = some (.int .i64 0) := by
  have fl : ∀ l : List Int, l.flatMap encI = l.map (Value.int .i64) := by
    intro l; induction l with
    | nil => rfl
    | cons a l ih => simp only [List.flatMap_cons, List.map_cons, ih]; rfl
  rw [fl, List.getElem?_toArray, List.getElem?_map, List.getElem?_append_right (by rw [posN_len]; exact Nat.le_refl _), posN_len, Nat.sub_self, show H - j = (H - (j + 1)) + 1 by omega, List.replicate_succ]
  rfl
theorem fun_cell {w : World} {gb : Nat} {t : TypeId} {fr : Nat × Nat} {L : List Int} (hr : w.heap[gb]? = some (.cells (L.flatMap encI).toArray t fr)) {i : Nat} {x : Int} (hi : L[i]? = some x) {u : Nat} {v : Value} (hu : (encI x)[u]? = some v) : w.cell? ⟨gb, 0 + i * 1 + u, none⟩ = some v := by
  rw [cell_of_row _ _ _ _ _ _ hr, Nat.zero_add, List.getElem?_toArray]
  have hul : u < 1 := (List.getElem?_eq_some_iff.1 hu).1
  rw [flat_get (enc := encI) (fun _ => rfl) L i x hi u hul]; exact hu
theorem wph_name {P : Program} {md : Region.Mode} {ops : Array Oper} {Q : Exit → Act → World → Prop} {S : World → Prop} {fuel : Nat} {listed : Array Bool} {a : Act} {W : World} (h : ∀ w', w' = W → wpAnyH P md ops Q S fuel listed a w') : wpAnyH P md ops Q S fuel listed a W := h W rfl
def PosPost (p : ParL) (k : Int × Int) (g : List UInt8) (w : World) (e : Ending) (w' : World) : Prop :=
  ∃ v, e = .returned (.tuple #[v, .int .i64 0]) ∧ Vec w' (fun b => w.heap.size ≤ b) 1 encI v (positionsN p k g) ∧ Below w.heap.size w w'
end Go.Proofs.YtdckkggmmakfiaaGreatDoor
end
section
/- phonetic, the program's: Soundex, Key. -/
set_option linter.unusedSimpArgs false
set_option linter.unusedVariables false
set_option maxRecDepth 100000
namespace Go.Proofs.YtdckkggmmakfiaaGreatDoor
open Go.RowKit
attribute [local go_sem] toList_mk mk_size
def sndStep (last : UInt8) (out : List UInt8) (c : UInt8) : List UInt8 × UInt8 :=
  if codeB c = 45 then (out, last) else if codeB c ≠ 32 ∧ codeB c ≠ last then (out ++ [codeB c], codeB c) else (out, codeB c)
def sndGo : UInt8 → List UInt8 → List UInt8 → List UInt8
  | _, out, [] => out
  | last, out, c :: l => if out.length < 4 then sndGo (sndStep last out c).2 (sndStep last out c).1 l else out
def padL (out : List UInt8) : List UInt8 := out ++ List.replicate (4 - out.length) 48
def soundT (t : List UInt8) : List UInt8 := if rightT t = true then (match t with
  | [] => []
  | c :: l => padL (sndGo (codeB c) [c] l)) else []
theorem sndGo_end (la : UInt8) (out l : List UInt8) (h : ¬ out.length < 4) : sndGo la out l = out := by
  cases l with
  | nil => rfl
  | cons c l => unfold sndGo; rw [if_neg h]
theorem padL_end (out : List UInt8) (h : ¬ out.length < 4) : padL out = out := by unfold padL; rw [show 4 - out.length = 0 by omega]; simp
theorem padL_more (out : List UInt8) (h : out.length < 4) : padL (out ++ [48]) = padL out := by
  unfold padL
  rw [List.length_append, show 4 - out.length = (4 - (out.length + [(48 : UInt8)].length)) + 1 by simp; omega, List.replicate_succ, List.append_assoc]; rfl
/-- a row that lies in a block of its own -/
theorem own_fresh {α : Type} {w0 w : World} {e : TypeId} {enc : α → List Value} {L : List α} {g size n : Nat} (hb : Below w0.heap.size w0 w) (hg : w0.heap.size ≤ g) (h : w.heap[g]? = some (.cells (L.flatMap enc).toArray e (0, 0))) (hl : (L.flatMap enc).length = L.length * size) (hm : L.length ≤ 1000000) (hn : n = L.length) :
    OwnV e size enc w0 (.slice (some ⟨g, 0, none⟩) n n) L w := by
  subst hn
  exact ⟨⟨hl, .inr ⟨g, L.length, _, rfl, hg, h, Nat.le_refl _, by unfold maxLen; omega, by simpa using hl, by rw [← hl]; show List.take _ (L.flatMap enc) = _; exact List.take_length⟩⟩, hb⟩
@[local go_sem] theorem get_zeroP (c : UInt8) (l : List UInt8) (h : 0 < (⟨(c :: l).toArray⟩ : ByteArray).size) : (⟨(c :: l).toArray⟩ : ByteArray)[0]'h = c := rfl
set_option maxHeartbeats 4000000 in
theorem sound_any (t : List UInt8) (w : World) (hl : t.length ≤ 1000000) : Calls Tryz.prog 112 #[strV t] w fun e w' => e = .returned (strV (soundT t)) ∧ Below w.heap.size w w' := by
  cases hr : rightT t
  · have hs : soundT t = [] := by unfold soundT; rw [hr]; rfl
    rw [hs]
    have HR := Lib.hid hr; clear hr hs
    go_enter Tryz.func112, Tryz.ntmps112
    go_wp2_with fail
    refine (rightT_any t _ hl).mono ?_
    rw [HR.out]
    rintro e w1 ⟨rfl, hb⟩
    go_wp2_with fail
    go_ret
    exact ⟨rfl, hb⟩
  · have h0 := hr
    unfold rightT at h0
    simp only [Bool.and_eq_true, Bool.not_eq_true', decide_eq_true_iff] at h0
    obtain ⟨⟨hne, h64⟩, hlo⟩ := h0
    cases t with
    | nil => simp at hne
    | cons c t =>
      have hall : ∀ x ∈ c :: t, isLow x = true := by unfold lettersL at hlo; exact List.filter_eq_self.1 hlo
      obtain ⟨R, hR⟩ : ∃ R, sndGo (codeB c) [c] t = R := ⟨_, rfl⟩
      have hs : soundT (c :: t) = padL R := by unfold soundT; rw [hr, ← hR]; rfl
      rw [hs]
      have HR := Lib.hid hr; have HAll := Lib.hid hall; have HGo := Lib.hid hR
      clear hr hs hne hlo hall hR
      go_enter Tryz.func112, Tryz.ntmps112
      go_wp2_with fail
      refine (rightT_any (c :: t) _ hl).mono ?_
      rw [HR.out]
      rintro e w1 ⟨rfl, hb⟩
      have HB := Lib.hid hb
      clear hb
      go_wp2_with fail
      have hlen0 : (0 : Int) < ((c :: t).length : Int) := by simp
      have hcl := HAll.out c (by simp)
      go_cut [3, 4] (fun s3 s4 wx => ∃ g : Nat, s3 = .slice (some ⟨g, 0, none⟩) 1 1 ∧ s4 = byteV (codeB c) ∧ wx.heap[g]? = some (.cells ([c].flatMap encB).toArray 5 (0, 0)) ∧ w1.heap.size ≤ g ∧ Below w1.heap.size w1 wx)
      case first =>
        refine wp_region_noPanic ?_
        refine wp_region_held_drew (S := (fun _ => True)) (by kernel_rfl) (trivial) (fun hHeld => ?_)
        refine wpAnyH_take (i := 0) (v := ?_) rfl (by kernel_rfl) (by kernel_rfl) (by kernel_rfl) (fun _ _ _ h => h) (Or.inl ⟨by rfl, ?_⟩) (by assumption) ?_
        rotate_left 1
        · (intro wS hSw; (try dsimp only at hSw); go_simp; try with_reducible rfl)
        try simp only [List.getElem_toArray, List.getElem_cons_zero, List.getElem_cons_succ, Act.put, List.setIfInBounds_toArray, List.set_cons_zero, List.set_cons_succ]
        refine wpAnyH_take (i := 1) (v := ?_) rfl (by kernel_rfl) (by kernel_rfl) (by kernel_rfl) (fun _ _ _ h => h) (Or.inl ⟨by rfl, ?_⟩) (by assumption) ?_
        rotate_left 1
        · (intro wS hSw; (try dsimp only at hSw); go_simp; try with_reducible rfl)
        try simp only [List.getElem_toArray, List.getElem_cons_zero, List.getElem_cons_succ, Act.put, List.setIfInBounds_toArray, List.set_cons_zero, List.set_cons_succ]
        refine wpAnyH_take (i := 3) (v := ?_) rfl (by kernel_rfl) (by kernel_rfl) (by kernel_rfl) (fun _ _ _ h => h) (Or.inl ⟨by rfl, ?_⟩) (by assumption) ?_
        rotate_left 1
        · (intro wS hSw; (try dsimp only at hSw); go_simp; try with_reducible rfl)
        try simp only [List.getElem_toArray, List.getElem_cons_zero, List.getElem_cons_succ, Act.put, List.setIfInBounds_toArray, List.set_cons_zero, List.set_cons_succ]
        refine wpAnyH_take (i := 4) (v := ?_) rfl (by kernel_rfl) (by kernel_rfl) (by kernel_rfl) (fun _ _ _ h => h) (Or.inl ⟨by rfl, ?_⟩) (by assumption) ?_
        rotate_left 1
        · (intro wS hSw; (try dsimp only at hSw); go_simp; try with_reducible rfl)
        try simp only [List.getElem_toArray, List.getElem_cons_zero, List.getElem_cons_succ, Act.put, List.setIfInBounds_toArray, List.set_cons_zero, List.set_cons_succ]
        refine wpAnyH_ready (rs := [2, 5]) (by kernel_rfl) (by simp) ?_
        refine AllReadyH.cons rfl (fun K hK => ?_) (AllReadyH.cons rfl (fun K hK => ?_) AllReadyH.nil)
        focus
          go_simp
          refine hK.out _ _ trivial (fun hHeld => ?_)
          clear hK K
          try simp only [List.getElem_toArray, List.getElem_cons_zero, List.getElem_cons_succ, Act.put, List.setIfInBounds_toArray, List.set_cons_zero, List.set_cons_succ]
          refine wpAnyH_ready (rs := [5]) (by kernel_rfl) (by simp) ?_
          refine AllReadyH.cons rfl (fun K hK => ?_) AllReadyH.nil
          go_simp
          refine (pcode_any c _ hcl).mono ?_; rintro e wq ⟨rfl, rfl⟩
          refine hK.out _ _ (trivial) (fun hHeld => ?_)
          clear hK K
          try simp only [List.getElem_toArray, List.getElem_cons_zero, List.getElem_cons_succ, Act.put, List.setIfInBounds_toArray, List.set_cons_zero, List.set_cons_succ]
        rotate_left 1
        focus
          go_simp
          refine (pcode_any c _ hcl).mono ?_
          rintro e wq ⟨rfl, rfl⟩
          refine hK.out _ _ trivial (fun hHeld => ?_)
          clear hK K
          try simp only [List.getElem_toArray, List.getElem_cons_zero, List.getElem_cons_succ, Act.put, List.setIfInBounds_toArray, List.set_cons_zero, List.set_cons_succ]
          refine wpAnyH_ready (rs := [2]) (by kernel_rfl) (by simp) ?_
          refine AllReadyH.cons rfl (fun K hK => ?_) AllReadyH.nil
          go_simp
          refine hK.out _ _ (trivial) (fun hHeld => ?_)
          clear hK K
          try simp only [List.getElem_toArray, List.getElem_cons_zero, List.getElem_cons_succ, Act.put, List.setIfInBounds_toArray, List.set_cons_zero, List.set_cons_succ]
        all_goals
          refine wpAnyH_take (i := 6) (v := ?_) rfl (by kernel_rfl) (by kernel_rfl) (by kernel_rfl) (fun _ _ _ h => h) (Or.inl ⟨by rfl, ?_⟩) (by assumption) ?_
          rotate_left 1
          · (intro wS hSw; (try dsimp only at hSw); go_simp; try with_reducible rfl)
          try simp only [List.getElem_toArray, List.getElem_cons_zero, List.getElem_cons_succ, Act.put, List.setIfInBounds_toArray, List.set_cons_zero, List.set_cons_succ]
          refine wpAnyH_take (i := 7) (v := ?_) rfl (by kernel_rfl) (by kernel_rfl) (by kernel_rfl) (fun _ _ _ h => h) (Or.inl ⟨by rfl, ?_⟩) (by assumption) ?_
          rotate_left 1
          · (intro wS hSw; (try dsimp only at hSw); go_simp; try with_reducible rfl)
          try simp only [List.getElem_toArray, List.getElem_cons_zero, List.getElem_cons_succ, Act.put, List.setIfInBounds_toArray, List.set_cons_zero, List.set_cons_succ]
          refine wpAnyH_done (by kernel_rfl) ?_ _
          refine NoPanic.normal ?_
          go_wp2_with fail
          go_meet
          exact ⟨_, rfl, rfl, blk_new rfl, Nat.le_refl _, ((Below.refl _ _).drew).alloc (Nat.le_refl _) _⟩
      case rest =>
        obtain ⟨g, rfl, rfl, hg, hgz, hb2⟩ := hcut
        have HO := Lib.hid (own_fresh (enc := encB) (L := [c]) (size := 1) (n := 1) (w0 := w) (HB.out.trans (hb2.mono HB.out.size)) (Nat.le_trans HB.out.size hgz) hg rfl (by simp) rfl)
        clear hg hb2 hgz
        go_upto_block 0 with (fail)
        have hT : (c :: t).length ≤ 64 := h64
        go_cut [3] (fun s3 wx => OwnV 5 1 encB w s3 R wx ∧ R.length ≤ 4)
        case first =>
          go_wp2_with fail
          go_loopw [3, 4, 5] (fun v la i wr => ∃ (k : Nat) (l : UInt8) (out : List UInt8), i = .int .i64 k ∧ 1 ≤ k ∧ k ≤ t.length + 1 ∧ la = byteV l ∧ OwnV 5 1 encB w v out wr ∧ out.length ≤ 4 ∧ Hid (sndGo l out ((c :: t).drop k) = R)) (fun _ _ i _ => t.length + 1 - (intOf i).toNat)
          case atStart => exact ⟨1, codeB c, [c], rfl, Nat.le_refl _, by simp, rfl, HO.out, by simp, HGo⟩
          case round =>
            obtain ⟨k, l, out, rfl, hk1, hk, rfl, ho, hol, HT⟩ := hrel
            obtain ⟨av, cv, rfl⟩ := own_slice ho.1
            have HOw := Lib.hid ho
            clear ho
            by_cases h1 : k < t.length + 1
            · have hq1 : decide ((k : Int) < (t.length : Int) + 1) = true := by simp only [decide_eq_true_eq]; omega
              have h1c : k < (c :: t).length := h1
              have h64' : t.length + 1 ≤ 64 := h64
              by_cases h2 : out.length < 4
              · have hq2 : decide ((out.length : Int) < 4) = true := by simp only [decide_eq_true_eq]; omega
                have ht := HT.out
                rw [List.drop_eq_getElem_cons h1c] at ht
                obtain ⟨x, hx⟩ : ∃ x, (c :: t)[k]'h1c = x := ⟨_, rfl⟩
                have hxl : isLow x = true := by rw [← hx]; exact HAll.out _ (List.getElem_mem h1c)
                have hgx : ∀ h : k < (⟨(c :: t).toArray⟩ : ByteArray).size, (⟨(c :: t).toArray⟩ : ByteArray)[k]'h = x := fun h => hx
                rw [hx] at ht
                unfold sndGo at ht
                rw [if_pos h2] at ht
                have HT2 := Lib.hid ht
                clear ht HT hx
                obtain ⟨d, hd⟩ : ∃ d, codeB x = d := ⟨_, rfl⟩
                have HD := Lib.hid hd
                clear hd
                go_wp2_with fail
                refine (pcode_any x _ hxl).mono ?_
                rw [HD.out]
                rintro e wq ⟨rfl, rfl⟩
                unfold byteV
                by_cases e1 : d = 45
                · have d1 : ((d.toNat : Int) == 45) = true := by rw [e1]; rfl
                  have hst : sndStep l out x = (out, l) := by unfold sndStep; rw [HD.out, if_pos e1]
                  have HT3 := Lib.hid (show sndGo l out ((c :: t).drop (k + 1)) = R by have h3 := HT2.out; rw [hst] at h3; exact h3)
                  clear e1 hst HT2
                  go_wp2_with fail
                  go_roundw
                  case rel => exact ⟨k + 1, l, out, by go_num, by omega, by omega, rfl, HOw.out, hol, HT3⟩
                  case measure => simp [intOf]; omega
                · have d1 : ((d.toNat : Int) == 45) = false := by
                    simp only [beq_eq_false_iff_ne, ne_eq]; intro h; exact e1 (UInt8.toNat_inj.1 (by show d.toNat = 45; omega))
                  by_cases e2 : d ≠ 32 ∧ d ≠ l
                  · have d2 : ((d.toNat : Int) != 32) = true := by
                      simp only [bne_iff_ne, ne_eq]; intro h; exact e2.1 (UInt8.toNat_inj.1 (by show d.toNat = 32; omega))
                    have d3 : ((d.toNat : Int) != (l.toNat : Int)) = true := by
                      simp only [bne_iff_ne, ne_eq]; intro h; exact e2.2 (UInt8.toNat_inj.1 (by omega))
                    have hst : sndStep l out x = (out ++ [d], d) := by unfold sndStep; rw [HD.out, if_neg e1, if_pos e2]
                    have HT3 := Lib.hid (show sndGo d (out ++ [d]) ((c :: t).drop (k + 1)) = R by have h3 := HT2.out; rw [hst] at h3; exact h3)
                    have hcn : out.length + ([d] : List UInt8).length ≤ 1000000000 := by simp; omega
                    have HO1 := Lib.hid (HOw.out.below ((Below.refl wr.heap.size wr).alloc (Nat.le_refl _) (.cells #[.int .u8 (d.toNat : Int)] 5)))
                    have HR1 := Lib.hid (show Reads (wr.alloc (.cells #[.int .u8 (d.toNat : Int)] 5)) 1 (.slice (some ⟨wr.heap.size, 0, none⟩) 1 1) ([d] : List UInt8).length (([d] : List UInt8).flatMap encB) from reads_block (t := 5) (fr := (0, 0)) (blk_new rfl) rfl)
                    clear e1 e2 hst HT2
                    go_wp2_with (at_builtin; refine wpList_append_v rfl (.tmp 42) (.tmp 44) 84 rfl 5 (.int .u8 0) 1 1 encB (fun _ => rfl) one_encB Tryz.underlying84 infoBy rfl (by decide) (by decide) (w0 := w) (v := .slice av out.length cv) (A := out) (B := [d]) rfl HO1.out rfl HR1.out hcn ?_; intro v2 w2 ho2 hk2 hz2)
                    go_roundw
                    case rel => exact ⟨k + 1, d, out ++ [d], by go_num, by omega, by omega, rfl, ho2, by simp; omega, HT3⟩
                    case measure => simp [intOf]; omega
                  · have hst : sndStep l out x = (out, d) := by unfold sndStep; rw [HD.out, if_neg e1, if_neg e2]
                    have HT3 := Lib.hid (show sndGo d out ((c :: t).drop (k + 1)) = R by have h3 := HT2.out; rw [hst] at h3; exact h3)
                    by_cases e3 : d = 32
                    · have d2 : ((d.toNat : Int) != 32) = false := by rw [e3]; rfl
                      clear e1 e2 e3 hst HT2
                      go_wp2_with fail
                      go_roundw
                      case rel => exact ⟨k + 1, d, out, by go_num, by omega, by omega, rfl, HOw.out, hol, HT3⟩
                      case measure => simp [intOf]; omega
                    · have d2 : ((d.toNat : Int) != 32) = true := by
                        simp only [bne_iff_ne, ne_eq]; intro h; exact e3 (UInt8.toNat_inj.1 (by show d.toNat = 32; omega))
                      have e4 : d = l := by
                        rcases Decidable.em (d = l) with h | h
                        · exact h
                        · exact absurd ⟨e3, h⟩ e2
                      have d3 : ((d.toNat : Int) != (l.toNat : Int)) = false := by rw [e4]; simp
                      clear e1 e2 e3 e4 hst HT2
                      go_wp2_with fail
                      go_roundw
                      case rel => exact ⟨k + 1, d, out, by go_num, by omega, by omega, rfl, HOw.out, hol, HT3⟩
                      case measure => simp [intOf]; omega
              · have hq2 : decide ((out.length : Int) < 4) = false := by simp only [decide_eq_false_iff_not]; omega
                have ht := HT.out
                rw [sndGo_end _ _ _ h2] at ht
                subst ht
                go_wp2_with fail
                go_meet
                exact ⟨HOw.out, hol⟩
            · have hq1 : decide ((k : Int) < (t.length : Int) + 1) = false := by simp only [decide_eq_false_iff_not]; omega
              have ht := HT.out
              rw [List.drop_eq_nil_of_le (by simp; omega)] at ht
              have ht2 : out = R := by unfold sndGo at ht; exact ht
              subst ht2
              clear ht HT
              go_wp2_with fail
              go_meet
              exact ⟨HOw.out, hol⟩
        case rest =>
          obtain ⟨ho, hR4⟩ := hcut
          obtain ⟨av, cv, rfl⟩ := own_slice ho.1
          have HO2 := Lib.hid ho
          clear ho HO
          go_wp2_with fail
          go_loopw [3] (fun v wr => ∃ out : List UInt8, OwnV 5 1 encB w v out wr ∧ out.length ≤ 4 ∧ Hid (padL out = padL R)) (fun v _ => 4 - lenOfV v)
          case atStart => exact ⟨R, HO2.out, hR4, Lib.hid rfl⟩
          case round =>
            obtain ⟨out, ho, hol, HT⟩ := hrel
            obtain ⟨ax, cx, rfl⟩ := own_slice ho.1
            have HOw := Lib.hid ho
            clear ho
            by_cases h2 : out.length < 4
            · have hq2 : decide ((out.length : Int) < 4) = true := by simp only [decide_eq_true_eq]; omega
              have HT3 := Lib.hid (show padL (out ++ [48]) = padL R by rw [padL_more out h2]; exact HT.out)
              have hcn : out.length + ([48] : List UInt8).length ≤ 1000000000 := by simp; omega
              have HO1 := Lib.hid (HOw.out.below ((Below.refl wr.heap.size wr).alloc (Nat.le_refl _) (.cells #[.int .u8 48] 5)))
              have HR1 := Lib.hid (show Reads (wr.alloc (.cells #[.int .u8 48] 5)) 1 (.slice (some ⟨wr.heap.size, 0, none⟩) 1 1) ([48] : List UInt8).length (([48] : List UInt8).flatMap encB) from reads_block (t := 5) (fr := (0, 0)) (blk_new rfl) rfl)
              clear HT
              go_wp2_with (at_builtin; refine wpList_append_v rfl (.tmp 50) (.tmp 51) 84 rfl 5 (.int .u8 0) 1 1 encB (fun _ => rfl) one_encB Tryz.underlying84 infoBy rfl (by decide) (by decide) (w0 := w) (v := .slice ax out.length cx) (A := out) (B := [48]) rfl HO1.out rfl HR1.out hcn ?_; intro v2 w2 ho2 hk2 hz2; obtain ⟨a2, c2, ev2⟩ := own_slice ho2.1; subst ev2)
              go_roundw
              case rel => exact ⟨out ++ [48], by rw [List.length_append] at ho2; exact ho2, by simp; omega, HT3⟩
              case measure => simp [lenOfV]; omega
            · have hq2 : decide ((out.length : Int) < 4) = false := by simp only [decide_eq_false_iff_not]; omega
              have hp := HT.out
              rw [padL_end out h2] at hp
              have HP := Lib.hid (show Ending.returned (strV out) = .returned (strV (padL R)) by rw [hp])
              have hown := HOw.out.1
              rw [flatB] at hown
              have hconv := run_convert_owned (P := Tryz.prog) out hown Tryz.underlying84 Tryz.underlying5 Tryz.underlying9
              clear hp hown HT
              go_wp2_with fail
              go_ret
              exact ⟨HP.out, HOw.out.2⟩
/-- the sound of a text -/
def sndFirst : List (List UInt8) → List UInt8
  | [] => []
  | t :: _ => soundT t
def soundL (l : List UInt8) : List UInt8 := sndFirst (toks l)
set_option maxHeartbeats 1000000 in
theorem sndkey_any (l : List UInt8) (w : World) (h : ascii l) (hl : l.length ≤ 1000) : Calls Tryz.prog 73 #[strV l] w fun e w' => e = .returned (strV (soundL l)) ∧ Below w.heap.size w w' := by
  have hc : (toks l).length ≤ 1000000 := by have := (toksA_len l []).2.1; unfold toks; omega
  have hts : ∀ t ∈ toks l, t.length ≤ 1000000 := fun t ht => by have := toks_le l [] t ht; simp at this; omega
  obtain ⟨T, hT⟩ : ∃ T, toks l = T := ⟨_, rfl⟩
  have htk := tokens_any l
  obtain ⟨res, hres⟩ : ∃ res, soundL l = res := ⟨_, rfl⟩
  have hr2 : sndFirst T = res := by rw [← hT]; exact hres
  rw [hT] at hc htk hts
  rw [hres]
  have HTk := Lib.hid htk
  clear hT htk hres
  go_enter Tryz.func73, Tryz.ntmps73
  go_wp2_with fail
  refine (HTk.out _ h (by omega)).mono ?_
  rintro e w1 ⟨A, rfl, hA, ho, hb⟩
  have HV := Lib.hid (Vec.owns (k := 1) (enc := encS) (S := Any1) (fun _ => rfl) ho (fun _ _ _ => trivial))
  have HB := Lib.hid hb
  clear ho hb
  cases T with
  | nil =>
    have hr3 : [] = res := hr2
    subst hr3
    clear hr2
    go_wp2_with fail
    go_ret
    exact ⟨rfl, HB.out⟩
  | cons t T =>
    have HR := Lib.hid (show soundT t = res from hr2)
    have htl := hts t (by simp)
    have d0 : (((t :: T).length : Int) == 0) = false := by simp; omega
    obtain ⟨b, off, e0, lb, hc0⟩ := HV.out.get 0 (by simp)
    cases e0
    have c0 := hc0 0 _ rfl
    rw [Nat.zero_mul, Nat.add_zero] at c0
    have c0 : w1.cell? ⟨A, 0, none⟩ = some (strV t) := c0
    have hl0 : (0 : Int) < ((t :: T).length : Int) := by simp
    clear hr2 hts hc0
    go_wp2_with fail
    refine (sound_any t _ htl).mono ?_
    rw [HR.out]
    rintro e w2 ⟨rfl, hb⟩
    go_wp2_with fail
    go_ret
    exact ⟨rfl, HB.out.trans (hb.mono HB.out.size)⟩
end Go.Proofs.YtdckkggmmakfiaaGreatDoor
end
section
/- blocking, the program's: the part of a record that a component takes. (printed by gen_part.py) -/
set_option linter.unusedSimpArgs false
set_option linter.unusedVariables false
set_option maxRecDepth 100000
namespace Go.Proofs.YtdckkggmmakfiaaGreatDoor
open Go.RowKit
attribute [local go_sem] toList_mk mk_size
/-- what a transform makes of a value -/
def transN (t : Int) (v : List UInt8) : List UInt8 := if t = 1 then v else if t = 2 then soundL v else if t = 3 then v.take 1 else if t = 4 then v.take 4 else numL v
def partN (t : Int) (v : List UInt8) : List UInt8 := if v = [] then [] else transN t v
set_option maxHeartbeats 4000000 in
theorem part_none (f : Nat) (t i ver : Int) (sv : Value) (vals : List (List UInt8)) (w : World) (h : Vec w Any1 1 encS sv vals) (hf : f < vals.length) (hn : vals.length ≤ 1000000) (h0 : vals.getD f [] = []) :
    Calls Tryz.prog 31 #[.agg #[.int .i64 f, .int .i64 t], .agg #[.int .i64 i, .int .i64 ver, sv]] w fun e w' => e = .returned (strV []) ∧ Below w.heap.size w w' := by
  obtain ⟨a, cap, rfl⟩ := h.slice
  obtain ⟨b, off, rfl, lb, hc⟩ := h.get f hf
  have c0 := hc 0 _ rfl
  rw [Nat.mul_one, Nat.add_zero] at c0
  have hx : vals[f] = [] := by rw [← h0, List.getD, List.getElem?_eq_getElem hf]; rfl
  rw [hx] at c0
  have hfi : (f : Int) < (vals.length : Int) := by omega
  clear h hc h0 hx
  go_enter Tryz.func31, Tryz.ntmps31
  go_wp2_with fail
  go_ret
  exact ⟨rfl, ((Below.refl w.heap.size w).alloc (Nat.le_refl _) _).alloc (by simp) _⟩
set_option maxHeartbeats 4000000 in
theorem part_1 (f : Nat) (i ver : Int) (sv : Value) (vals : List (List UInt8)) (w : World) (h : Vec w Any1 1 encS sv vals) (hf : f < vals.length) (hn : vals.length ≤ 1000000) (h0 : vals.getD f [] ≠ []) (hs : (vals.getD f []).length ≤ 1000) :
    Calls Tryz.prog 31 #[.agg #[.int .i64 f, .int .i64 1], .agg #[.int .i64 i, .int .i64 ver, sv]] w fun e w' => e = .returned (strV (transN 1 (vals.getD f []))) ∧ Below w.heap.size w w' := by
  obtain ⟨a, cap, rfl⟩ := h.slice
  obtain ⟨b, off, rfl, lb, hc⟩ := h.get f hf
  have c0 := hc 0 _ rfl
  rw [Nat.mul_one, Nat.add_zero] at c0
  obtain ⟨x, hx⟩ : ∃ x, vals.getD f [] = x := ⟨_, rfl⟩
  have hx2 : vals[f] = x := by rw [← hx, List.getD, List.getElem?_eq_getElem hf]; rfl
  rw [hx2] at c0
  rw [hx] at h0 hs ⊢
  obtain ⟨y, hy⟩ : ∃ y, transN 1 x = y := ⟨_, rfl⟩
  have hy2 : x = y := by rw [← hy]; rfl
  rw [hy]
  have hex : x.isEmpty = false := by simpa using h0
  have hfi : (f : Int) < (vals.length : Int) := by omega
  have HY := Lib.hid (show Ending.returned (strV (x)) = .returned (strV y) by rw [hy2])
  clear h hc h0 hx hx2 hy hy2
  go_enter Tryz.func31, Tryz.ntmps31
  go_wp2_with fail
  refine wp_world (fun W hW => ?_)
  have hb0 : Below w.heap.size w W := by rw [hW]; exact ((Below.refl w.heap.size w).alloc (Nat.le_refl _) _).alloc (by simp) _
  have hp0 : W.heap[w.heap.size]? = some (.cells #[.int .i64 f, .int .i64 1] 48 (0, 0)) := by rw [hW]; exact blk_old (blk_new rfl)
  have hq0 : W.heap[w.heap.size + 1]? = some (.cells #[.int .i64 i, .int .i64 ver, .slice (some ⟨b, off, none⟩) vals.length cap] 45 (0, 0)) := by rw [hW]; exact blk_new (by simp)
  clear hW
  have x1 := (hb0.cell (p := ⟨b, off + f, none⟩) lb).trans c0
  have lb1 : b < W.heap.size := Nat.lt_of_lt_of_le lb hb0.size
  obtain ⟨p0, p1⟩ := cells2K hp0; obtain ⟨q0, q1, q2⟩ := cells3 hq0
  have lp := lt_of_blk hp0; have lq := lt_of_blk hq0
  have HB0 := Lib.hid hb0
  clear hp0 hq0 hb0 c0
  have bD : Below W.heap.size W W.drew := (Below.refl _ _).drew
  refine wp_region_noPanic ?_
  refine wp_region_held_drew (S := (fun w' => w'.cell? ⟨w.heap.size, 0, none⟩ = some (.int .i64 f) ∧ w'.cell? ⟨w.heap.size, 1, none⟩ = some (.int .i64 1) ∧ w'.cell? ⟨w.heap.size + 1, 2, none⟩ = some (.slice (some ⟨b, off, none⟩) vals.length cap) ∧ w'.cell? ⟨b, off + f, none⟩ = some (strV x))) (by kernel_rfl) (⟨p0, p1, q2, x1⟩) (fun hHeld => ?_)
  refine wpAnyH_take (i := 1) (v := ?_) rfl (by kernel_rfl) (by kernel_rfl) (by kernel_rfl) (fun _ _ _ h => h) (Or.inl ⟨by rfl, ?_⟩) (by assumption) ?_
  rotate_left 1
  · (intro wS hSw; (try dsimp only at hSw); go_simp; try with_reducible rfl)
  try simp only [List.getElem_toArray, List.getElem_cons_zero, List.getElem_cons_succ, Act.put, List.setIfInBounds_toArray, List.set_cons_zero, List.set_cons_succ]
  refine wpAnyH_take (i := 2) (v := ?_) rfl (by kernel_rfl) (by kernel_rfl) (by kernel_rfl) (fun _ _ _ h => h) (Or.inl ⟨by rfl, ?_⟩) (by assumption) ?_
  rotate_left 1
  · (intro wS hSw; (try dsimp only at hSw); go_simp; try with_reducible rfl)
  try simp only [List.getElem_toArray, List.getElem_cons_zero, List.getElem_cons_succ, Act.put, List.setIfInBounds_toArray, List.set_cons_zero, List.set_cons_succ]
  refine wpAnyH_take (i := 4) (v := ?_) rfl (by kernel_rfl) (by kernel_rfl) (by kernel_rfl) (fun _ _ _ h => h) (Or.inl ⟨by rfl, ?_⟩) (by assumption) ?_
  rotate_left 1
  · (intro wS hSw; (try dsimp only at hSw); go_simp; try with_reducible rfl)
  try simp only [List.getElem_toArray, List.getElem_cons_zero, List.getElem_cons_succ, Act.put, List.setIfInBounds_toArray, List.set_cons_zero, List.set_cons_succ]
  refine wpAnyH_take (i := 5) (v := ?_) rfl (by kernel_rfl) (by kernel_rfl) (by kernel_rfl) (fun _ _ _ h => h) (Or.inl ⟨by rfl, ?_⟩) (by assumption) ?_
  rotate_left 1
  · (intro wS hSw; (try dsimp only at hSw); go_simp; try with_reducible rfl)
  try simp only [List.getElem_toArray, List.getElem_cons_zero, List.getElem_cons_succ, Act.put, List.setIfInBounds_toArray, List.set_cons_zero, List.set_cons_succ]
  refine wpAnyH_take (i := 6) (v := ?_) rfl (by kernel_rfl) (by kernel_rfl) (by kernel_rfl) (fun _ _ _ h => h) (Or.inl ⟨by rfl, ?_⟩) (by assumption) ?_
  rotate_left 1
  · (intro wS hSw; (try dsimp only at hSw); go_simp; try with_reducible rfl)
  try simp only [List.getElem_toArray, List.getElem_cons_zero, List.getElem_cons_succ, Act.put, List.setIfInBounds_toArray, List.set_cons_zero, List.set_cons_succ]
  refine wpAnyH_take (i := 7) (v := ?_) rfl (by kernel_rfl) (by kernel_rfl) (by kernel_rfl) (fun _ _ _ h => h) (Or.inl ⟨by rfl, ?_⟩) (by assumption) ?_
  rotate_left 1
  · (intro wS hSw; (try dsimp only at hSw); go_simp; try with_reducible rfl)
  try simp only [List.getElem_toArray, List.getElem_cons_zero, List.getElem_cons_succ, Act.put, List.setIfInBounds_toArray, List.set_cons_zero, List.set_cons_succ]
  refine wpAnyH_take (i := 8) (v := ?_) rfl (by kernel_rfl) (by kernel_rfl) (by kernel_rfl) (fun _ _ _ h => h) (Or.inl ⟨by rfl, ?_⟩) (by assumption) ?_
  rotate_left 1
  · (intro wS hSw; (try dsimp only at hSw); go_simp; try with_reducible rfl)
  try simp only [List.getElem_toArray, List.getElem_cons_zero, List.getElem_cons_succ, Act.put, List.setIfInBounds_toArray, List.set_cons_zero, List.set_cons_succ]
  refine wpAnyH_take (i := 9) (v := ?_) rfl (by kernel_rfl) (by kernel_rfl) (by kernel_rfl) (fun _ _ _ h => h) (Or.inl ⟨by rfl, ?_⟩) (by assumption) ?_
  rotate_left 1
  · (intro wS hSw; (try dsimp only at hSw); go_simp; try with_reducible rfl)
  try simp only [List.getElem_toArray, List.getElem_cons_zero, List.getElem_cons_succ, Act.put, List.setIfInBounds_toArray, List.set_cons_zero, List.set_cons_succ]
  refine wpAnyH_ready (rs := [0]) (by kernel_rfl) (by simp) ?_
  refine AllReadyH.cons rfl (fun K hK => ?_) AllReadyH.nil
  go_simp
  refine (trans_any _).mono ?_; rintro e w2 ⟨mb, rfl, hmb, hmz, hb⟩; have b2 := bD.trans hb; clear hb
  refine hK.out _ _ (⟨(b2.cell (p := ⟨w.heap.size, 0, none⟩) lp).trans p0, (b2.cell (p := ⟨w.heap.size, 1, none⟩) lp).trans p1, (b2.cell (p := ⟨w.heap.size + 1, 2, none⟩) lq).trans q2, (b2.cell (p := ⟨b, off + f, none⟩) lb1).trans x1⟩) (fun hHeld => ?_)
  clear hK K
  try simp only [List.getElem_toArray, List.getElem_cons_zero, List.getElem_cons_succ, Act.put, List.setIfInBounds_toArray, List.set_cons_zero, List.set_cons_succ]
  have hlk := look_int (P := Tryz.prog) (i := 0) 1 (.func (.func 72) #[] #[]) Tryz.underlying101 Tryz.underlying3 hmb rfl
  refine wpAnyH_ready (rs := [3]) (by kernel_rfl) (by simp) ?_
  refine AllReadyH.cons rfl (fun K hK => ?_) AllReadyH.nil
  go_simp
  refine hK.out _ _ hHeld (fun hHeld => ?_)
  clear hK K hlk
  try simp only [List.getElem_toArray, List.getElem_cons_zero, List.getElem_cons_succ, Act.put, List.setIfInBounds_toArray, List.set_cons_zero, List.set_cons_succ]
  refine wpAnyH_ready (rs := [10]) (by kernel_rfl) (by simp) ?_
  refine AllReadyH.cons rfl (fun K hK => ?_) AllReadyH.nil
  go_simp
  refine (t1_any x _).mono ?_; rintro e wq ⟨rfl, rfl⟩; have b3 := b2
  refine hK.out _ _ (⟨(b3.cell (p := ⟨w.heap.size, 0, none⟩) lp).trans p0, (b3.cell (p := ⟨w.heap.size, 1, none⟩) lp).trans p1, (b3.cell (p := ⟨w.heap.size + 1, 2, none⟩) lq).trans q2, (b3.cell (p := ⟨b, off + f, none⟩) lb1).trans x1⟩) (fun hHeld => ?_)
  clear hK K
  try simp only [List.getElem_toArray, List.getElem_cons_zero, List.getElem_cons_succ, Act.put, List.setIfInBounds_toArray, List.set_cons_zero, List.set_cons_succ]
  refine wpAnyH_take (i := 11) (v := ?_) rfl (by kernel_rfl) (by kernel_rfl) (by kernel_rfl) (fun _ _ _ h => h) (Or.inl ⟨by rfl, ?_⟩) (by assumption) ?_
  rotate_left 1
  · (intro wS hSw; (try dsimp only at hSw); go_simp; try with_reducible rfl)
  try simp only [List.getElem_toArray, List.getElem_cons_zero, List.getElem_cons_succ, Act.put, List.setIfInBounds_toArray, List.set_cons_zero, List.set_cons_succ]
  refine wpAnyH_done (by kernel_rfl) ?_ _
  refine NoPanic.normal ?_
  go_wp2_with fail
  go_ret
  exact ⟨HY.out, HB0.out.trans (b3.mono HB0.out.size)⟩
set_option maxHeartbeats 4000000 in
theorem part_2 (f : Nat) (i ver : Int) (sv : Value) (vals : List (List UInt8)) (w : World) (h : Vec w Any1 1 encS sv vals) (hf : f < vals.length) (hn : vals.length ≤ 1000000) (h0 : vals.getD f [] ≠ []) (hs : (vals.getD f []).length ≤ 1000) (has : ascii (vals.getD f [])) :
    Calls Tryz.prog 31 #[.agg #[.int .i64 f, .int .i64 2], .agg #[.int .i64 i, .int .i64 ver, sv]] w fun e w' => e = .returned (strV (transN 2 (vals.getD f []))) ∧ Below w.heap.size w w' := by
  obtain ⟨a, cap, rfl⟩ := h.slice
  obtain ⟨b, off, rfl, lb, hc⟩ := h.get f hf
  have c0 := hc 0 _ rfl
  rw [Nat.mul_one, Nat.add_zero] at c0
  obtain ⟨x, hx⟩ : ∃ x, vals.getD f [] = x := ⟨_, rfl⟩
  have hx2 : vals[f] = x := by rw [← hx, List.getD, List.getElem?_eq_getElem hf]; rfl
  rw [hx2] at c0
  rw [hx] at h0 hs has ⊢
  obtain ⟨y, hy⟩ : ∃ y, transN 2 x = y := ⟨_, rfl⟩
  have hy2 : soundL x = y := by rw [← hy]; rfl
  rw [hy]
  have hex : x.isEmpty = false := by simpa using h0
  have hfi : (f : Int) < (vals.length : Int) := by omega
  have HAs := Lib.hid has; have HY := Lib.hid (show Ending.returned (strV (soundL x)) = .returned (strV y) by rw [hy2])
  clear h hc h0 hx hx2 has hy hy2
  go_enter Tryz.func31, Tryz.ntmps31
  go_wp2_with fail
  refine wp_world (fun W hW => ?_)
  have hb0 : Below w.heap.size w W := by rw [hW]; exact ((Below.refl w.heap.size w).alloc (Nat.le_refl _) _).alloc (by simp) _
  have hp0 : W.heap[w.heap.size]? = some (.cells #[.int .i64 f, .int .i64 2] 48 (0, 0)) := by rw [hW]; exact blk_old (blk_new rfl)
  have hq0 : W.heap[w.heap.size + 1]? = some (.cells #[.int .i64 i, .int .i64 ver, .slice (some ⟨b, off, none⟩) vals.length cap] 45 (0, 0)) := by rw [hW]; exact blk_new (by simp)
  clear hW
  have x1 := (hb0.cell (p := ⟨b, off + f, none⟩) lb).trans c0
  have lb1 : b < W.heap.size := Nat.lt_of_lt_of_le lb hb0.size
  obtain ⟨p0, p1⟩ := cells2K hp0; obtain ⟨q0, q1, q2⟩ := cells3 hq0
  have lp := lt_of_blk hp0; have lq := lt_of_blk hq0
  have HB0 := Lib.hid hb0
  clear hp0 hq0 hb0 c0
  have bD : Below W.heap.size W W.drew := (Below.refl _ _).drew
  refine wp_region_noPanic ?_
  refine wp_region_held_drew (S := (fun w' => w'.cell? ⟨w.heap.size, 0, none⟩ = some (.int .i64 f) ∧ w'.cell? ⟨w.heap.size, 1, none⟩ = some (.int .i64 2) ∧ w'.cell? ⟨w.heap.size + 1, 2, none⟩ = some (.slice (some ⟨b, off, none⟩) vals.length cap) ∧ w'.cell? ⟨b, off + f, none⟩ = some (strV x))) (by kernel_rfl) (⟨p0, p1, q2, x1⟩) (fun hHeld => ?_)
  refine wpAnyH_take (i := 1) (v := ?_) rfl (by kernel_rfl) (by kernel_rfl) (by kernel_rfl) (fun _ _ _ h => h) (Or.inl ⟨by rfl, ?_⟩) (by assumption) ?_
  rotate_left 1
  · (intro wS hSw; (try dsimp only at hSw); go_simp; try with_reducible rfl)
  try simp only [List.getElem_toArray, List.getElem_cons_zero, List.getElem_cons_succ, Act.put, List.setIfInBounds_toArray, List.set_cons_zero, List.set_cons_succ]
  refine wpAnyH_take (i := 2) (v := ?_) rfl (by kernel_rfl) (by kernel_rfl) (by kernel_rfl) (fun _ _ _ h => h) (Or.inl ⟨by rfl, ?_⟩) (by assumption) ?_
  rotate_left 1
  · (intro wS hSw; (try dsimp only at hSw); go_simp; try with_reducible rfl)
  try simp only [List.getElem_toArray, List.getElem_cons_zero, List.getElem_cons_succ, Act.put, List.setIfInBounds_toArray, List.set_cons_zero, List.set_cons_succ]
  refine wpAnyH_take (i := 4) (v := ?_) rfl (by kernel_rfl) (by kernel_rfl) (by kernel_rfl) (fun _ _ _ h => h) (Or.inl ⟨by rfl, ?_⟩) (by assumption) ?_
  rotate_left 1
  · (intro wS hSw; (try dsimp only at hSw); go_simp; try with_reducible rfl)
  try simp only [List.getElem_toArray, List.getElem_cons_zero, List.getElem_cons_succ, Act.put, List.setIfInBounds_toArray, List.set_cons_zero, List.set_cons_succ]
  refine wpAnyH_take (i := 5) (v := ?_) rfl (by kernel_rfl) (by kernel_rfl) (by kernel_rfl) (fun _ _ _ h => h) (Or.inl ⟨by rfl, ?_⟩) (by assumption) ?_
  rotate_left 1
  · (intro wS hSw; (try dsimp only at hSw); go_simp; try with_reducible rfl)
  try simp only [List.getElem_toArray, List.getElem_cons_zero, List.getElem_cons_succ, Act.put, List.setIfInBounds_toArray, List.set_cons_zero, List.set_cons_succ]
  refine wpAnyH_take (i := 6) (v := ?_) rfl (by kernel_rfl) (by kernel_rfl) (by kernel_rfl) (fun _ _ _ h => h) (Or.inl ⟨by rfl, ?_⟩) (by assumption) ?_
  rotate_left 1
  · (intro wS hSw; (try dsimp only at hSw); go_simp; try with_reducible rfl)
  try simp only [List.getElem_toArray, List.getElem_cons_zero, List.getElem_cons_succ, Act.put, List.setIfInBounds_toArray, List.set_cons_zero, List.set_cons_succ]
  refine wpAnyH_take (i := 7) (v := ?_) rfl (by kernel_rfl) (by kernel_rfl) (by kernel_rfl) (fun _ _ _ h => h) (Or.inl ⟨by rfl, ?_⟩) (by assumption) ?_
  rotate_left 1
  · (intro wS hSw; (try dsimp only at hSw); go_simp; try with_reducible rfl)
  try simp only [List.getElem_toArray, List.getElem_cons_zero, List.getElem_cons_succ, Act.put, List.setIfInBounds_toArray, List.set_cons_zero, List.set_cons_succ]
  refine wpAnyH_take (i := 8) (v := ?_) rfl (by kernel_rfl) (by kernel_rfl) (by kernel_rfl) (fun _ _ _ h => h) (Or.inl ⟨by rfl, ?_⟩) (by assumption) ?_
  rotate_left 1
  · (intro wS hSw; (try dsimp only at hSw); go_simp; try with_reducible rfl)
  try simp only [List.getElem_toArray, List.getElem_cons_zero, List.getElem_cons_succ, Act.put, List.setIfInBounds_toArray, List.set_cons_zero, List.set_cons_succ]
  refine wpAnyH_take (i := 9) (v := ?_) rfl (by kernel_rfl) (by kernel_rfl) (by kernel_rfl) (fun _ _ _ h => h) (Or.inl ⟨by rfl, ?_⟩) (by assumption) ?_
  rotate_left 1
  · (intro wS hSw; (try dsimp only at hSw); go_simp; try with_reducible rfl)
  try simp only [List.getElem_toArray, List.getElem_cons_zero, List.getElem_cons_succ, Act.put, List.setIfInBounds_toArray, List.set_cons_zero, List.set_cons_succ]
  refine wpAnyH_ready (rs := [0]) (by kernel_rfl) (by simp) ?_
  refine AllReadyH.cons rfl (fun K hK => ?_) AllReadyH.nil
  go_simp
  refine (trans_any _).mono ?_; rintro e w2 ⟨mb, rfl, hmb, hmz, hb⟩; have b2 := bD.trans hb; clear hb
  refine hK.out _ _ (⟨(b2.cell (p := ⟨w.heap.size, 0, none⟩) lp).trans p0, (b2.cell (p := ⟨w.heap.size, 1, none⟩) lp).trans p1, (b2.cell (p := ⟨w.heap.size + 1, 2, none⟩) lq).trans q2, (b2.cell (p := ⟨b, off + f, none⟩) lb1).trans x1⟩) (fun hHeld => ?_)
  clear hK K
  try simp only [List.getElem_toArray, List.getElem_cons_zero, List.getElem_cons_succ, Act.put, List.setIfInBounds_toArray, List.set_cons_zero, List.set_cons_succ]
  have hlk := look_int (P := Tryz.prog) (i := 1) 2 (.func (.func 73) #[] #[]) Tryz.underlying101 Tryz.underlying3 hmb rfl
  refine wpAnyH_ready (rs := [3]) (by kernel_rfl) (by simp) ?_
  refine AllReadyH.cons rfl (fun K hK => ?_) AllReadyH.nil
  go_simp
  refine hK.out _ _ hHeld (fun hHeld => ?_)
  clear hK K hlk
  try simp only [List.getElem_toArray, List.getElem_cons_zero, List.getElem_cons_succ, Act.put, List.setIfInBounds_toArray, List.set_cons_zero, List.set_cons_succ]
  refine wpAnyH_ready (rs := [10]) (by kernel_rfl) (by simp) ?_
  refine AllReadyH.cons rfl (fun K hK => ?_) AllReadyH.nil
  go_simp
  refine (sndkey_any x _ HAs.out (by omega)).mono ?_; rintro e wq ⟨rfl, hb⟩; have b3 := b2.trans (hb.mono b2.size); clear hb
  refine hK.out _ _ (⟨(b3.cell (p := ⟨w.heap.size, 0, none⟩) lp).trans p0, (b3.cell (p := ⟨w.heap.size, 1, none⟩) lp).trans p1, (b3.cell (p := ⟨w.heap.size + 1, 2, none⟩) lq).trans q2, (b3.cell (p := ⟨b, off + f, none⟩) lb1).trans x1⟩) (fun hHeld => ?_)
  clear hK K
  try simp only [List.getElem_toArray, List.getElem_cons_zero, List.getElem_cons_succ, Act.put, List.setIfInBounds_toArray, List.set_cons_zero, List.set_cons_succ]
  refine wpAnyH_take (i := 11) (v := ?_) rfl (by kernel_rfl) (by kernel_rfl) (by kernel_rfl) (fun _ _ _ h => h) (Or.inl ⟨by rfl, ?_⟩) (by assumption) ?_
  rotate_left 1
  · (intro wS hSw; (try dsimp only at hSw); go_simp; try with_reducible rfl)
  try simp only [List.getElem_toArray, List.getElem_cons_zero, List.getElem_cons_succ, Act.put, List.setIfInBounds_toArray, List.set_cons_zero, List.set_cons_succ]
  refine wpAnyH_done (by kernel_rfl) ?_ _
  refine NoPanic.normal ?_
  go_wp2_with fail
  go_ret
  exact ⟨HY.out, HB0.out.trans (b3.mono HB0.out.size)⟩
set_option maxHeartbeats 4000000 in
theorem part_3 (f : Nat) (i ver : Int) (sv : Value) (vals : List (List UInt8)) (w : World) (h : Vec w Any1 1 encS sv vals) (hf : f < vals.length) (hn : vals.length ≤ 1000000) (h0 : vals.getD f [] ≠ []) (hs : (vals.getD f []).length ≤ 1000) :
    Calls Tryz.prog 31 #[.agg #[.int .i64 f, .int .i64 3], .agg #[.int .i64 i, .int .i64 ver, sv]] w fun e w' => e = .returned (strV (transN 3 (vals.getD f []))) ∧ Below w.heap.size w w' := by
  obtain ⟨a, cap, rfl⟩ := h.slice
  obtain ⟨b, off, rfl, lb, hc⟩ := h.get f hf
  have c0 := hc 0 _ rfl
  rw [Nat.mul_one, Nat.add_zero] at c0
  obtain ⟨x, hx⟩ : ∃ x, vals.getD f [] = x := ⟨_, rfl⟩
  have hx2 : vals[f] = x := by rw [← hx, List.getD, List.getElem?_eq_getElem hf]; rfl
  rw [hx2] at c0
  rw [hx] at h0 hs ⊢
  obtain ⟨y, hy⟩ : ∃ y, transN 3 x = y := ⟨_, rfl⟩
  have hy2 : x.take 1 = y := by rw [← hy]; rfl
  rw [hy]
  have hex : x.isEmpty = false := by simpa using h0
  have hfi : (f : Int) < (vals.length : Int) := by omega
  have HY := Lib.hid (show Ending.returned (strV (x.take 1)) = .returned (strV y) by rw [hy2])
  clear h hc h0 hx hx2 hy hy2
  go_enter Tryz.func31, Tryz.ntmps31
  go_wp2_with fail
  refine wp_world (fun W hW => ?_)
  have hb0 : Below w.heap.size w W := by rw [hW]; exact ((Below.refl w.heap.size w).alloc (Nat.le_refl _) _).alloc (by simp) _
  have hp0 : W.heap[w.heap.size]? = some (.cells #[.int .i64 f, .int .i64 3] 48 (0, 0)) := by rw [hW]; exact blk_old (blk_new rfl)
  have hq0 : W.heap[w.heap.size + 1]? = some (.cells #[.int .i64 i, .int .i64 ver, .slice (some ⟨b, off, none⟩) vals.length cap] 45 (0, 0)) := by rw [hW]; exact blk_new (by simp)
  clear hW
  have x1 := (hb0.cell (p := ⟨b, off + f, none⟩) lb).trans c0
  have lb1 : b < W.heap.size := Nat.lt_of_lt_of_le lb hb0.size
  obtain ⟨p0, p1⟩ := cells2K hp0; obtain ⟨q0, q1, q2⟩ := cells3 hq0
  have lp := lt_of_blk hp0; have lq := lt_of_blk hq0
  have HB0 := Lib.hid hb0
  clear hp0 hq0 hb0 c0
  have bD : Below W.heap.size W W.drew := (Below.refl _ _).drew
  refine wp_region_noPanic ?_
  refine wp_region_held_drew (S := (fun w' => w'.cell? ⟨w.heap.size, 0, none⟩ = some (.int .i64 f) ∧ w'.cell? ⟨w.heap.size, 1, none⟩ = some (.int .i64 3) ∧ w'.cell? ⟨w.heap.size + 1, 2, none⟩ = some (.slice (some ⟨b, off, none⟩) vals.length cap) ∧ w'.cell? ⟨b, off + f, none⟩ = some (strV x))) (by kernel_rfl) (⟨p0, p1, q2, x1⟩) (fun hHeld => ?_)
  refine wpAnyH_take (i := 1) (v := ?_) rfl (by kernel_rfl) (by kernel_rfl) (by kernel_rfl) (fun _ _ _ h => h) (Or.inl ⟨by rfl, ?_⟩) (by assumption) ?_
  rotate_left 1
  · (intro wS hSw; (try dsimp only at hSw); go_simp; try with_reducible rfl)
  try simp only [List.getElem_toArray, List.getElem_cons_zero, List.getElem_cons_succ, Act.put, List.setIfInBounds_toArray, List.set_cons_zero, List.set_cons_succ]
  refine wpAnyH_take (i := 2) (v := ?_) rfl (by kernel_rfl) (by kernel_rfl) (by kernel_rfl) (fun _ _ _ h => h) (Or.inl ⟨by rfl, ?_⟩) (by assumption) ?_
  rotate_left 1
  · (intro wS hSw; (try dsimp only at hSw); go_simp; try with_reducible rfl)
  try simp only [List.getElem_toArray, List.getElem_cons_zero, List.getElem_cons_succ, Act.put, List.setIfInBounds_toArray, List.set_cons_zero, List.set_cons_succ]
  refine wpAnyH_take (i := 4) (v := ?_) rfl (by kernel_rfl) (by kernel_rfl) (by kernel_rfl) (fun _ _ _ h => h) (Or.inl ⟨by rfl, ?_⟩) (by assumption) ?_
  rotate_left 1
  · (intro wS hSw; (try dsimp only at hSw); go_simp; try with_reducible rfl)
  try simp only [List.getElem_toArray, List.getElem_cons_zero, List.getElem_cons_succ, Act.put, List.setIfInBounds_toArray, List.set_cons_zero, List.set_cons_succ]
  refine wpAnyH_take (i := 5) (v := ?_) rfl (by kernel_rfl) (by kernel_rfl) (by kernel_rfl) (fun _ _ _ h => h) (Or.inl ⟨by rfl, ?_⟩) (by assumption) ?_
  rotate_left 1
  · (intro wS hSw; (try dsimp only at hSw); go_simp; try with_reducible rfl)
  try simp only [List.getElem_toArray, List.getElem_cons_zero, List.getElem_cons_succ, Act.put, List.setIfInBounds_toArray, List.set_cons_zero, List.set_cons_succ]
  refine wpAnyH_take (i := 6) (v := ?_) rfl (by kernel_rfl) (by kernel_rfl) (by kernel_rfl) (fun _ _ _ h => h) (Or.inl ⟨by rfl, ?_⟩) (by assumption) ?_
  rotate_left 1
  · (intro wS hSw; (try dsimp only at hSw); go_simp; try with_reducible rfl)
  try simp only [List.getElem_toArray, List.getElem_cons_zero, List.getElem_cons_succ, Act.put, List.setIfInBounds_toArray, List.set_cons_zero, List.set_cons_succ]
  refine wpAnyH_take (i := 7) (v := ?_) rfl (by kernel_rfl) (by kernel_rfl) (by kernel_rfl) (fun _ _ _ h => h) (Or.inl ⟨by rfl, ?_⟩) (by assumption) ?_
  rotate_left 1
  · (intro wS hSw; (try dsimp only at hSw); go_simp; try with_reducible rfl)
  try simp only [List.getElem_toArray, List.getElem_cons_zero, List.getElem_cons_succ, Act.put, List.setIfInBounds_toArray, List.set_cons_zero, List.set_cons_succ]
  refine wpAnyH_take (i := 8) (v := ?_) rfl (by kernel_rfl) (by kernel_rfl) (by kernel_rfl) (fun _ _ _ h => h) (Or.inl ⟨by rfl, ?_⟩) (by assumption) ?_
  rotate_left 1
  · (intro wS hSw; (try dsimp only at hSw); go_simp; try with_reducible rfl)
  try simp only [List.getElem_toArray, List.getElem_cons_zero, List.getElem_cons_succ, Act.put, List.setIfInBounds_toArray, List.set_cons_zero, List.set_cons_succ]
  refine wpAnyH_take (i := 9) (v := ?_) rfl (by kernel_rfl) (by kernel_rfl) (by kernel_rfl) (fun _ _ _ h => h) (Or.inl ⟨by rfl, ?_⟩) (by assumption) ?_
  rotate_left 1
  · (intro wS hSw; (try dsimp only at hSw); go_simp; try with_reducible rfl)
  try simp only [List.getElem_toArray, List.getElem_cons_zero, List.getElem_cons_succ, Act.put, List.setIfInBounds_toArray, List.set_cons_zero, List.set_cons_succ]
  refine wpAnyH_ready (rs := [0]) (by kernel_rfl) (by simp) ?_
  refine AllReadyH.cons rfl (fun K hK => ?_) AllReadyH.nil
  go_simp
  refine (trans_any _).mono ?_; rintro e w2 ⟨mb, rfl, hmb, hmz, hb⟩; have b2 := bD.trans hb; clear hb
  refine hK.out _ _ (⟨(b2.cell (p := ⟨w.heap.size, 0, none⟩) lp).trans p0, (b2.cell (p := ⟨w.heap.size, 1, none⟩) lp).trans p1, (b2.cell (p := ⟨w.heap.size + 1, 2, none⟩) lq).trans q2, (b2.cell (p := ⟨b, off + f, none⟩) lb1).trans x1⟩) (fun hHeld => ?_)
  clear hK K
  try simp only [List.getElem_toArray, List.getElem_cons_zero, List.getElem_cons_succ, Act.put, List.setIfInBounds_toArray, List.set_cons_zero, List.set_cons_succ]
  have hlk := look_int (P := Tryz.prog) (i := 2) 3 (.func (.func 74) #[] #[]) Tryz.underlying101 Tryz.underlying3 hmb rfl
  refine wpAnyH_ready (rs := [3]) (by kernel_rfl) (by simp) ?_
  refine AllReadyH.cons rfl (fun K hK => ?_) AllReadyH.nil
  go_simp
  refine hK.out _ _ hHeld (fun hHeld => ?_)
  clear hK K hlk
  try simp only [List.getElem_toArray, List.getElem_cons_zero, List.getElem_cons_succ, Act.put, List.setIfInBounds_toArray, List.set_cons_zero, List.set_cons_succ]
  refine wpAnyH_ready (rs := [10]) (by kernel_rfl) (by simp) ?_
  refine AllReadyH.cons rfl (fun K hK => ?_) AllReadyH.nil
  go_simp
  refine (t2_any x _ (by omega)).mono ?_; rintro e wq ⟨rfl, rfl⟩; have b3 := b2
  refine hK.out _ _ (⟨(b3.cell (p := ⟨w.heap.size, 0, none⟩) lp).trans p0, (b3.cell (p := ⟨w.heap.size, 1, none⟩) lp).trans p1, (b3.cell (p := ⟨w.heap.size + 1, 2, none⟩) lq).trans q2, (b3.cell (p := ⟨b, off + f, none⟩) lb1).trans x1⟩) (fun hHeld => ?_)
  clear hK K
  try simp only [List.getElem_toArray, List.getElem_cons_zero, List.getElem_cons_succ, Act.put, List.setIfInBounds_toArray, List.set_cons_zero, List.set_cons_succ]
  refine wpAnyH_take (i := 11) (v := ?_) rfl (by kernel_rfl) (by kernel_rfl) (by kernel_rfl) (fun _ _ _ h => h) (Or.inl ⟨by rfl, ?_⟩) (by assumption) ?_
  rotate_left 1
  · (intro wS hSw; (try dsimp only at hSw); go_simp; try with_reducible rfl)
  try simp only [List.getElem_toArray, List.getElem_cons_zero, List.getElem_cons_succ, Act.put, List.setIfInBounds_toArray, List.set_cons_zero, List.set_cons_succ]
  refine wpAnyH_done (by kernel_rfl) ?_ _
  refine NoPanic.normal ?_
  go_wp2_with fail
  go_ret
  exact ⟨HY.out, HB0.out.trans (b3.mono HB0.out.size)⟩
set_option maxHeartbeats 4000000 in
theorem part_4 (f : Nat) (i ver : Int) (sv : Value) (vals : List (List UInt8)) (w : World) (h : Vec w Any1 1 encS sv vals) (hf : f < vals.length) (hn : vals.length ≤ 1000000) (h0 : vals.getD f [] ≠ []) (hs : (vals.getD f []).length ≤ 1000) :
    Calls Tryz.prog 31 #[.agg #[.int .i64 f, .int .i64 4], .agg #[.int .i64 i, .int .i64 ver, sv]] w fun e w' => e = .returned (strV (transN 4 (vals.getD f []))) ∧ Below w.heap.size w w' := by
  obtain ⟨a, cap, rfl⟩ := h.slice
  obtain ⟨b, off, rfl, lb, hc⟩ := h.get f hf
  have c0 := hc 0 _ rfl
  rw [Nat.mul_one, Nat.add_zero] at c0
  obtain ⟨x, hx⟩ : ∃ x, vals.getD f [] = x := ⟨_, rfl⟩
  have hx2 : vals[f] = x := by rw [← hx, List.getD, List.getElem?_eq_getElem hf]; rfl
  rw [hx2] at c0
  rw [hx] at h0 hs ⊢
  obtain ⟨y, hy⟩ : ∃ y, transN 4 x = y := ⟨_, rfl⟩
  have hy2 : x.take 4 = y := by rw [← hy]; rfl
  rw [hy]
  have hex : x.isEmpty = false := by simpa using h0
  have hfi : (f : Int) < (vals.length : Int) := by omega
  have HY := Lib.hid (show Ending.returned (strV (x.take 4)) = .returned (strV y) by rw [hy2])
  clear h hc h0 hx hx2 hy hy2
  go_enter Tryz.func31, Tryz.ntmps31
  go_wp2_with fail
  refine wp_world (fun W hW => ?_)
  have hb0 : Below w.heap.size w W := by rw [hW]; exact ((Below.refl w.heap.size w).alloc (Nat.le_refl _) _).alloc (by simp) _
  have hp0 : W.heap[w.heap.size]? = some (.cells #[.int .i64 f, .int .i64 4] 48 (0, 0)) := by rw [hW]; exact blk_old (blk_new rfl)
  have hq0 : W.heap[w.heap.size + 1]? = some (.cells #[.int .i64 i, .int .i64 ver, .slice (some ⟨b, off, none⟩) vals.length cap] 45 (0, 0)) := by rw [hW]; exact blk_new (by simp)
  clear hW
  have x1 := (hb0.cell (p := ⟨b, off + f, none⟩) lb).trans c0
  have lb1 : b < W.heap.size := Nat.lt_of_lt_of_le lb hb0.size
  obtain ⟨p0, p1⟩ := cells2K hp0; obtain ⟨q0, q1, q2⟩ := cells3 hq0
  have lp := lt_of_blk hp0; have lq := lt_of_blk hq0
  have HB0 := Lib.hid hb0
  clear hp0 hq0 hb0 c0
  have bD : Below W.heap.size W W.drew := (Below.refl _ _).drew
  refine wp_region_noPanic ?_
  refine wp_region_held_drew (S := (fun w' => w'.cell? ⟨w.heap.size, 0, none⟩ = some (.int .i64 f) ∧ w'.cell? ⟨w.heap.size, 1, none⟩ = some (.int .i64 4) ∧ w'.cell? ⟨w.heap.size + 1, 2, none⟩ = some (.slice (some ⟨b, off, none⟩) vals.length cap) ∧ w'.cell? ⟨b, off + f, none⟩ = some (strV x))) (by kernel_rfl) (⟨p0, p1, q2, x1⟩) (fun hHeld => ?_)
  refine wpAnyH_take (i := 1) (v := ?_) rfl (by kernel_rfl) (by kernel_rfl) (by kernel_rfl) (fun _ _ _ h => h) (Or.inl ⟨by rfl, ?_⟩) (by assumption) ?_
  rotate_left 1
  · (intro wS hSw; (try dsimp only at hSw); go_simp; try with_reducible rfl)
  try simp only [List.getElem_toArray, List.getElem_cons_zero, List.getElem_cons_succ, Act.put, List.setIfInBounds_toArray, List.set_cons_zero, List.set_cons_succ]
  refine wpAnyH_take (i := 2) (v := ?_) rfl (by kernel_rfl) (by kernel_rfl) (by kernel_rfl) (fun _ _ _ h => h) (Or.inl ⟨by rfl, ?_⟩) (by assumption) ?_
  rotate_left 1
  · (intro wS hSw; (try dsimp only at hSw); go_simp; try with_reducible rfl)
  try simp only [List.getElem_toArray, List.getElem_cons_zero, List.getElem_cons_succ, Act.put, List.setIfInBounds_toArray, List.set_cons_zero, List.set_cons_succ]
  refine wpAnyH_take (i := 4) (v := ?_) rfl (by kernel_rfl) (by kernel_rfl) (by kernel_rfl) (fun _ _ _ h => h) (Or.inl ⟨by rfl, ?_⟩) (by assumption) ?_
  rotate_left 1
  · (intro wS hSw; (try dsimp only at hSw); go_simp; try with_reducible rfl)
  try simp only [List.getElem_toArray, List.getElem_cons_zero, List.getElem_cons_succ, Act.put, List.setIfInBounds_toArray, List.set_cons_zero, List.set_cons_succ]
  refine wpAnyH_take (i := 5) (v := ?_) rfl (by kernel_rfl) (by kernel_rfl) (by kernel_rfl) (fun _ _ _ h => h) (Or.inl ⟨by rfl, ?_⟩) (by assumption) ?_
  rotate_left 1
  · (intro wS hSw; (try dsimp only at hSw); go_simp; try with_reducible rfl)
  try simp only [List.getElem_toArray, List.getElem_cons_zero, List.getElem_cons_succ, Act.put, List.setIfInBounds_toArray, List.set_cons_zero, List.set_cons_succ]
  refine wpAnyH_take (i := 6) (v := ?_) rfl (by kernel_rfl) (by kernel_rfl) (by kernel_rfl) (fun _ _ _ h => h) (Or.inl ⟨by rfl, ?_⟩) (by assumption) ?_
  rotate_left 1
  · (intro wS hSw; (try dsimp only at hSw); go_simp; try with_reducible rfl)
  try simp only [List.getElem_toArray, List.getElem_cons_zero, List.getElem_cons_succ, Act.put, List.setIfInBounds_toArray, List.set_cons_zero, List.set_cons_succ]
  refine wpAnyH_take (i := 7) (v := ?_) rfl (by kernel_rfl) (by kernel_rfl) (by kernel_rfl) (fun _ _ _ h => h) (Or.inl ⟨by rfl, ?_⟩) (by assumption) ?_
  rotate_left 1
  · (intro wS hSw; (try dsimp only at hSw); go_simp; try with_reducible rfl)
  try simp only [List.getElem_toArray, List.getElem_cons_zero, List.getElem_cons_succ, Act.put, List.setIfInBounds_toArray, List.set_cons_zero, List.set_cons_succ]
  refine wpAnyH_take (i := 8) (v := ?_) rfl (by kernel_rfl) (by kernel_rfl) (by kernel_rfl) (fun _ _ _ h => h) (Or.inl ⟨by rfl, ?_⟩) (by assumption) ?_
  rotate_left 1
  · (intro wS hSw; (try dsimp only at hSw); go_simp; try with_reducible rfl)
  try simp only [List.getElem_toArray, List.getElem_cons_zero, List.getElem_cons_succ, Act.put, List.setIfInBounds_toArray, List.set_cons_zero, List.set_cons_succ]
  refine wpAnyH_take (i := 9) (v := ?_) rfl (by kernel_rfl) (by kernel_rfl) (by kernel_rfl) (fun _ _ _ h => h) (Or.inl ⟨by rfl, ?_⟩) (by assumption) ?_
  rotate_left 1
  · (intro wS hSw; (try dsimp only at hSw); go_simp; try with_reducible rfl)
  try simp only [List.getElem_toArray, List.getElem_cons_zero, List.getElem_cons_succ, Act.put, List.setIfInBounds_toArray, List.set_cons_zero, List.set_cons_succ]
  refine wpAnyH_ready (rs := [0]) (by kernel_rfl) (by simp) ?_
  refine AllReadyH.cons rfl (fun K hK => ?_) AllReadyH.nil
  go_simp
  refine (trans_any _).mono ?_; rintro e w2 ⟨mb, rfl, hmb, hmz, hb⟩; have b2 := bD.trans hb; clear hb
  refine hK.out _ _ (⟨(b2.cell (p := ⟨w.heap.size, 0, none⟩) lp).trans p0, (b2.cell (p := ⟨w.heap.size, 1, none⟩) lp).trans p1, (b2.cell (p := ⟨w.heap.size + 1, 2, none⟩) lq).trans q2, (b2.cell (p := ⟨b, off + f, none⟩) lb1).trans x1⟩) (fun hHeld => ?_)
  clear hK K
  try simp only [List.getElem_toArray, List.getElem_cons_zero, List.getElem_cons_succ, Act.put, List.setIfInBounds_toArray, List.set_cons_zero, List.set_cons_succ]
  have hlk := look_int (P := Tryz.prog) (i := 3) 4 (.func (.func 76) #[] #[]) Tryz.underlying101 Tryz.underlying3 hmb rfl
  refine wpAnyH_ready (rs := [3]) (by kernel_rfl) (by simp) ?_
  refine AllReadyH.cons rfl (fun K hK => ?_) AllReadyH.nil
  go_simp
  refine hK.out _ _ hHeld (fun hHeld => ?_)
  clear hK K hlk
  try simp only [List.getElem_toArray, List.getElem_cons_zero, List.getElem_cons_succ, Act.put, List.setIfInBounds_toArray, List.set_cons_zero, List.set_cons_succ]
  refine wpAnyH_ready (rs := [10]) (by kernel_rfl) (by simp) ?_
  refine AllReadyH.cons rfl (fun K hK => ?_) AllReadyH.nil
  go_simp
  refine (t3_any x _ (by omega)).mono ?_; rintro e wq ⟨rfl, rfl⟩; have b3 := b2
  refine hK.out _ _ (⟨(b3.cell (p := ⟨w.heap.size, 0, none⟩) lp).trans p0, (b3.cell (p := ⟨w.heap.size, 1, none⟩) lp).trans p1, (b3.cell (p := ⟨w.heap.size + 1, 2, none⟩) lq).trans q2, (b3.cell (p := ⟨b, off + f, none⟩) lb1).trans x1⟩) (fun hHeld => ?_)
  clear hK K
  try simp only [List.getElem_toArray, List.getElem_cons_zero, List.getElem_cons_succ, Act.put, List.setIfInBounds_toArray, List.set_cons_zero, List.set_cons_succ]
  refine wpAnyH_take (i := 11) (v := ?_) rfl (by kernel_rfl) (by kernel_rfl) (by kernel_rfl) (fun _ _ _ h => h) (Or.inl ⟨by rfl, ?_⟩) (by assumption) ?_
  rotate_left 1
  · (intro wS hSw; (try dsimp only at hSw); go_simp; try with_reducible rfl)
  try simp only [List.getElem_toArray, List.getElem_cons_zero, List.getElem_cons_succ, Act.put, List.setIfInBounds_toArray, List.set_cons_zero, List.set_cons_succ]
  refine wpAnyH_done (by kernel_rfl) ?_ _
  refine NoPanic.normal ?_
  go_wp2_with fail
  go_ret
  exact ⟨HY.out, HB0.out.trans (b3.mono HB0.out.size)⟩
set_option maxHeartbeats 4000000 in
theorem part_5 (f : Nat) (i ver : Int) (sv : Value) (vals : List (List UInt8)) (w : World) (h : Vec w Any1 1 encS sv vals) (hf : f < vals.length) (hn : vals.length ≤ 1000000) (h0 : vals.getD f [] ≠ []) (hs : (vals.getD f []).length ≤ 1000) (has : ascii (vals.getD f [])) :
    Calls Tryz.prog 31 #[.agg #[.int .i64 f, .int .i64 5], .agg #[.int .i64 i, .int .i64 ver, sv]] w fun e w' => e = .returned (strV (transN 5 (vals.getD f []))) ∧ Below w.heap.size w w' := by
  obtain ⟨a, cap, rfl⟩ := h.slice
  obtain ⟨b, off, rfl, lb, hc⟩ := h.get f hf
  have c0 := hc 0 _ rfl
  rw [Nat.mul_one, Nat.add_zero] at c0
  obtain ⟨x, hx⟩ : ∃ x, vals.getD f [] = x := ⟨_, rfl⟩
  have hx2 : vals[f] = x := by rw [← hx, List.getD, List.getElem?_eq_getElem hf]; rfl
  rw [hx2] at c0
  rw [hx] at h0 hs has ⊢
  obtain ⟨y, hy⟩ : ∃ y, transN 5 x = y := ⟨_, rfl⟩
  have hy2 : numL x = y := by rw [← hy]; rfl
  rw [hy]
  have hex : x.isEmpty = false := by simpa using h0
  have hfi : (f : Int) < (vals.length : Int) := by omega
  have HAs := Lib.hid has; have HY := Lib.hid (show Ending.returned (strV (numL x)) = .returned (strV y) by rw [hy2])
  clear h hc h0 hx hx2 has hy hy2
  go_enter Tryz.func31, Tryz.ntmps31
  go_wp2_with fail
  refine wp_world (fun W hW => ?_)
  have hb0 : Below w.heap.size w W := by rw [hW]; exact ((Below.refl w.heap.size w).alloc (Nat.le_refl _) _).alloc (by simp) _
  have hp0 : W.heap[w.heap.size]? = some (.cells #[.int .i64 f, .int .i64 5] 48 (0, 0)) := by rw [hW]; exact blk_old (blk_new rfl)
  have hq0 : W.heap[w.heap.size + 1]? = some (.cells #[.int .i64 i, .int .i64 ver, .slice (some ⟨b, off, none⟩) vals.length cap] 45 (0, 0)) := by rw [hW]; exact blk_new (by simp)
  clear hW
  have x1 := (hb0.cell (p := ⟨b, off + f, none⟩) lb).trans c0
  have lb1 : b < W.heap.size := Nat.lt_of_lt_of_le lb hb0.size
  obtain ⟨p0, p1⟩ := cells2K hp0; obtain ⟨q0, q1, q2⟩ := cells3 hq0
  have lp := lt_of_blk hp0; have lq := lt_of_blk hq0
  have HB0 := Lib.hid hb0
  clear hp0 hq0 hb0 c0
  have bD : Below W.heap.size W W.drew := (Below.refl _ _).drew
  refine wp_region_noPanic ?_
  refine wp_region_held_drew (S := (fun w' => w'.cell? ⟨w.heap.size, 0, none⟩ = some (.int .i64 f) ∧ w'.cell? ⟨w.heap.size, 1, none⟩ = some (.int .i64 5) ∧ w'.cell? ⟨w.heap.size + 1, 2, none⟩ = some (.slice (some ⟨b, off, none⟩) vals.length cap) ∧ w'.cell? ⟨b, off + f, none⟩ = some (strV x))) (by kernel_rfl) (⟨p0, p1, q2, x1⟩) (fun hHeld => ?_)
  refine wpAnyH_take (i := 1) (v := ?_) rfl (by kernel_rfl) (by kernel_rfl) (by kernel_rfl) (fun _ _ _ h => h) (Or.inl ⟨by rfl, ?_⟩) (by assumption) ?_
  rotate_left 1
  · (intro wS hSw; (try dsimp only at hSw); go_simp; try with_reducible rfl)
  try simp only [List.getElem_toArray, List.getElem_cons_zero, List.getElem_cons_succ, Act.put, List.setIfInBounds_toArray, List.set_cons_zero, List.set_cons_succ]
  refine wpAnyH_take (i := 2) (v := ?_) rfl (by kernel_rfl) (by kernel_rfl) (by kernel_rfl) (fun _ _ _ h => h) (Or.inl ⟨by rfl, ?_⟩) (by assumption) ?_
  rotate_left 1
  · (intro wS hSw; (try dsimp only at hSw); go_simp; try with_reducible rfl)
  try simp only [List.getElem_toArray, List.getElem_cons_zero, List.getElem_cons_succ, Act.put, List.setIfInBounds_toArray, List.set_cons_zero, List.set_cons_succ]
  refine wpAnyH_take (i := 4) (v := ?_) rfl (by kernel_rfl) (by kernel_rfl) (by kernel_rfl) (fun _ _ _ h => h) (Or.inl ⟨by rfl, ?_⟩) (by assumption) ?_
  rotate_left 1
  · (intro wS hSw; (try dsimp only at hSw); go_simp; try with_reducible rfl)
  try simp only [List.getElem_toArray, List.getElem_cons_zero, List.getElem_cons_succ, Act.put, List.setIfInBounds_toArray, List.set_cons_zero, List.set_cons_succ]
  refine wpAnyH_take (i := 5) (v := ?_) rfl (by kernel_rfl) (by kernel_rfl) (by kernel_rfl) (fun _ _ _ h => h) (Or.inl ⟨by rfl, ?_⟩) (by assumption) ?_
  rotate_left 1
  · (intro wS hSw; (try dsimp only at hSw); go_simp; try with_reducible rfl)
  try simp only [List.getElem_toArray, List.getElem_cons_zero, List.getElem_cons_succ, Act.put, List.setIfInBounds_toArray, List.set_cons_zero, List.set_cons_succ]
  refine wpAnyH_take (i := 6) (v := ?_) rfl (by kernel_rfl) (by kernel_rfl) (by kernel_rfl) (fun _ _ _ h => h) (Or.inl ⟨by rfl, ?_⟩) (by assumption) ?_
  rotate_left 1
  · (intro wS hSw; (try dsimp only at hSw); go_simp; try with_reducible rfl)
  try simp only [List.getElem_toArray, List.getElem_cons_zero, List.getElem_cons_succ, Act.put, List.setIfInBounds_toArray, List.set_cons_zero, List.set_cons_succ]
  refine wpAnyH_take (i := 7) (v := ?_) rfl (by kernel_rfl) (by kernel_rfl) (by kernel_rfl) (fun _ _ _ h => h) (Or.inl ⟨by rfl, ?_⟩) (by assumption) ?_
  rotate_left 1
  · (intro wS hSw; (try dsimp only at hSw); go_simp; try with_reducible rfl)
  try simp only [List.getElem_toArray, List.getElem_cons_zero, List.getElem_cons_succ, Act.put, List.setIfInBounds_toArray, List.set_cons_zero, List.set_cons_succ]
  refine wpAnyH_take (i := 8) (v := ?_) rfl (by kernel_rfl) (by kernel_rfl) (by kernel_rfl) (fun _ _ _ h => h) (Or.inl ⟨by rfl, ?_⟩) (by assumption) ?_
  rotate_left 1
  · (intro wS hSw; (try dsimp only at hSw); go_simp; try with_reducible rfl)
  try simp only [List.getElem_toArray, List.getElem_cons_zero, List.getElem_cons_succ, Act.put, List.setIfInBounds_toArray, List.set_cons_zero, List.set_cons_succ]
  refine wpAnyH_take (i := 9) (v := ?_) rfl (by kernel_rfl) (by kernel_rfl) (by kernel_rfl) (fun _ _ _ h => h) (Or.inl ⟨by rfl, ?_⟩) (by assumption) ?_
  rotate_left 1
  · (intro wS hSw; (try dsimp only at hSw); go_simp; try with_reducible rfl)
  try simp only [List.getElem_toArray, List.getElem_cons_zero, List.getElem_cons_succ, Act.put, List.setIfInBounds_toArray, List.set_cons_zero, List.set_cons_succ]
  refine wpAnyH_ready (rs := [0]) (by kernel_rfl) (by simp) ?_
  refine AllReadyH.cons rfl (fun K hK => ?_) AllReadyH.nil
  go_simp
  refine (trans_any _).mono ?_; rintro e w2 ⟨mb, rfl, hmb, hmz, hb⟩; have b2 := bD.trans hb; clear hb
  refine hK.out _ _ (⟨(b2.cell (p := ⟨w.heap.size, 0, none⟩) lp).trans p0, (b2.cell (p := ⟨w.heap.size, 1, none⟩) lp).trans p1, (b2.cell (p := ⟨w.heap.size + 1, 2, none⟩) lq).trans q2, (b2.cell (p := ⟨b, off + f, none⟩) lb1).trans x1⟩) (fun hHeld => ?_)
  clear hK K
  try simp only [List.getElem_toArray, List.getElem_cons_zero, List.getElem_cons_succ, Act.put, List.setIfInBounds_toArray, List.set_cons_zero, List.set_cons_succ]
  have hlk := look_int (P := Tryz.prog) (i := 4) 5 (.func (.func 77) #[] #[]) Tryz.underlying101 Tryz.underlying3 hmb rfl
  refine wpAnyH_ready (rs := [3]) (by kernel_rfl) (by simp) ?_
  refine AllReadyH.cons rfl (fun K hK => ?_) AllReadyH.nil
  go_simp
  refine hK.out _ _ hHeld (fun hHeld => ?_)
  clear hK K hlk
  try simp only [List.getElem_toArray, List.getElem_cons_zero, List.getElem_cons_succ, Act.put, List.setIfInBounds_toArray, List.set_cons_zero, List.set_cons_succ]
  refine wpAnyH_ready (rs := [10]) (by kernel_rfl) (by simp) ?_
  refine AllReadyH.cons rfl (fun K hK => ?_) AllReadyH.nil
  go_simp
  refine (anum_any x _ HAs.out (by omega)).mono ?_; rintro e wq ⟨rfl, hb⟩; have b3 := b2.trans (hb.mono b2.size); clear hb
  refine hK.out _ _ (⟨(b3.cell (p := ⟨w.heap.size, 0, none⟩) lp).trans p0, (b3.cell (p := ⟨w.heap.size, 1, none⟩) lp).trans p1, (b3.cell (p := ⟨w.heap.size + 1, 2, none⟩) lq).trans q2, (b3.cell (p := ⟨b, off + f, none⟩) lb1).trans x1⟩) (fun hHeld => ?_)
  clear hK K
  try simp only [List.getElem_toArray, List.getElem_cons_zero, List.getElem_cons_succ, Act.put, List.setIfInBounds_toArray, List.set_cons_zero, List.set_cons_succ]
  refine wpAnyH_take (i := 11) (v := ?_) rfl (by kernel_rfl) (by kernel_rfl) (by kernel_rfl) (fun _ _ _ h => h) (Or.inl ⟨by rfl, ?_⟩) (by assumption) ?_
  rotate_left 1
  · (intro wS hSw; (try dsimp only at hSw); go_simp; try with_reducible rfl)
  try simp only [List.getElem_toArray, List.getElem_cons_zero, List.getElem_cons_succ, Act.put, List.setIfInBounds_toArray, List.set_cons_zero, List.set_cons_succ]
  refine wpAnyH_done (by kernel_rfl) ?_ _
  refine NoPanic.normal ?_
  go_wp2_with fail
  go_ret
  exact ⟨HY.out, HB0.out.trans (b3.mono HB0.out.size)⟩
theorem part_yes (f : Nat) (t i ver : Int) (sv : Value) (vals : List (List UInt8)) (w : World) (h : Vec w Any1 1 encS sv vals) (hf : f < vals.length) (hn : vals.length ≤ 1000000) (ht : 1 ≤ t ∧ t ≤ 5) (hs : (vals.getD f []).length ≤ 1000) (has : t = 2 ∨ t = 5 → ascii (vals.getD f [])) :
    Calls Tryz.prog 31 #[.agg #[.int .i64 f, .int .i64 t], .agg #[.int .i64 i, .int .i64 ver, sv]] w fun e w' => e = .returned (strV (partN t (vals.getD f []))) ∧ Below w.heap.size w w' := by
  unfold partN
  by_cases h0 : vals.getD f [] = []
  · rw [if_pos h0]; exact part_none f t i ver sv vals w h hf hn h0
  · rw [if_neg h0]
    obtain ⟨t1, t2⟩ := ht
    rcases (by omega : t = 1 ∨ t = 2 ∨ t = 3 ∨ t = 4 ∨ t = 5) with rfl | rfl | rfl | rfl | rfl
    · exact part_1 f i ver sv vals w h hf hn h0 hs
    · exact part_2 f i ver sv vals w h hf hn h0 hs (has (.inl rfl))
    · exact part_3 f i ver sv vals w h hf hn h0 hs
    · exact part_4 f i ver sv vals w h hf hn h0 hs
    · exact part_5 f i ver sv vals w h hf hn h0 hs (has (.inr rfl))
end Go.Proofs.YtdckkggmmakfiaaGreatDoor
end
section
/- Plain: comparing arrays and encoded records; which are valid. -/
set_option linter.unusedSimpArgs false
set_option linter.unusedVariables false
namespace Go.Proofs.YtdckkggmmakfiaaGreatDoor
open Go.RowKit
theorem getD_at {α : Type} (l : List α) (d : α) {i : Nat} (h : i < l.length) : l.getD i d = l[i] := by rw [List.getD, List.getElem?_eq_getElem h]; rfl
def cmp3 (x y : Int) : Int := if x < y then -1 else if y < x then 1 else 0
theorem cmp3_self (x : Int) : cmp3 x x = 0 := by unfold cmp3; simp
theorem cmp3_eq {x y : Int} (h : cmp3 x y = 0) : x = y := by
  unfold cmp3 at h
  split at h
  · simp at h
  · split at h
    · simp at h
    · omega
def cmpW : List Int → List Int → Int
  | [], [] => 0
  | [], _ :: _ => -1
  | _ :: _, [] => 1
  | x :: a, y :: b => if cmp3 x y = 0 then cmpW a b else cmp3 x y
theorem cmpW_self : ∀ a : List Int, cmpW a a = 0
  | [] => rfl
  | x :: a => by unfold cmpW; rw [if_pos (cmp3_self x)]; exact cmpW_self a
theorem cmpW_eq : ∀ a b : List Int, cmpW a b = 0 → a = b
  | [], [], _ => rfl
  | [], _ :: _, h => by simp [cmpW] at h
  | _ :: _, [], h => by simp [cmpW] at h
  | x :: a, y :: b, h => by
    unfold cmpW at h
    split at h
    next h1 => rw [cmp3_eq h1, cmpW_eq a b h]
    next h1 => exact absurd h h1
theorem cmpW_nilr : ∀ a : List Int, cmpW a [] = if a.length = 0 then 0 else 1
  | [] => rfl
  | _ :: _ => rfl
theorem cmpW_nill : ∀ b : List Int, cmpW [] b = if b.length = 0 then 0 else -1
  | [] => rfl
  | _ :: _ => rfl
theorem cmpW_drop {a b : List Int} {k : Nat} (h1 : k < a.length) (h2 : k < b.length) : cmpW (a.drop k) (b.drop k) = if cmp3 (a.getD k 0) (b.getD k 0) = 0 then cmpW (a.drop (k + 1)) (b.drop (k + 1)) else cmp3 (a.getD k 0) (b.getD k 0) := by
  rw [List.drop_eq_getElem_cons h1, List.drop_eq_getElem_cons h2, getD_at _ _ h1, getD_at _ _ h2]; rfl
/-- the first that is not zero -/
def orN : List Int → Int
  | [] => 0
  | x :: l => if x = 0 then orN l else x
def cmpB (a b : BitsL) : Int := orN [cmp3 a.len b.len, cmp3 a.words.length b.words.length, cmpW a.words b.words]
theorem cmpB_self (a : BitsL) : cmpB a a = 0 := by simp [cmpB, orN, cmp3_self, cmpW_self]
theorem orN_zero : ∀ {l : List Int}, orN l = 0 → ∀ x ∈ l, x = 0
  | [], _, x, h => by simp at h
  | y :: l, h, x, hx => by
    unfold orN at h
    split at h
    next h1 =>
      rcases List.mem_cons.1 hx with rfl | hx
      · exact h1
      · exact orN_zero h x hx
    next h1 => exact absurd h h1
theorem cmpB_eq {a b : BitsL} (h : cmpB a b = 0) : a = b := by
  obtain ⟨n, u⟩ := a; obtain ⟨m, v⟩ := b
  have h1 := orN_zero h (cmp3 n m) (by simp)
  have h2 := orN_zero h (cmpW u v) (by simp)
  rw [cmp3_eq h1, cmpW_eq _ _ h2]
/-- two lists of arrays are equal -/
def sameAt (A B : List BitsL) (j : Nat) : Bool := decide (cmpB (A.getD j noBits) (B.getD j noBits) = 0)
def sameF (A B : List BitsL) : Bool := decide (A.length = B.length) && (List.range A.length).all (sameAt A B)
def sameE (a b : EncL) : Bool := decide (a.id = b.id) && (decide (a.ver = b.ver) && sameF a.fields b.fields)
theorem sameF_self (A : List BitsL) : sameF A A = true := by simp [sameF, sameAt, cmpB_self]
theorem sameE_self (a : EncL) : sameE a a = true := by simp [sameE, sameF_self]
def noneB (b : BitsL) : Bool := decide (b.len = 0) && decide (b.words.length = 0)
def badB (b : BitsL) : Bool := !noneB b && !validB b
def evalidB (e : EncL) : Bool := decide (1 ≤ e.id) && decide (e.id ≤ 1048576) && decide (1 ≤ e.ver) && decide (e.ver ≤ 1048576) && decide (1 ≤ e.fields.length) && decide (e.fields.length ≤ 5) && !(e.fields.any badB)
end Go.Proofs.YtdckkggmmakfiaaGreatDoor
end
section
/- bitset.Compare, the program's; cmp.Compare, cmp.Or, slices.Compare at what it uses. -/
set_option linter.unusedSimpArgs false
set_option linter.unusedVariables false
set_option maxRecDepth 100000
namespace Go.Proofs.YtdckkggmmakfiaaGreatDoor
open Go.RowKit
theorem nanU_any (x : Int) (w : World) : Calls Tryz.prog 82 #[.int .u64 x] w fun e w' => e = .returned (.bool false) ∧ w = w' := by
  have h1 : (x != x) = false := by simp
  go_enter Tryz.func82, Tryz.ntmps82
  go_wp2_with fail
  go_ret
  exact ⟨by simp, rfl⟩
theorem nanI_any (x : Int) (w : World) : Calls Tryz.prog 124 #[.int .i64 x] w fun e w' => e = .returned (.bool false) ∧ w = w' := by
  have h1 : (x != x) = false := by simp
  go_enter Tryz.func124, Tryz.ntmps124
  go_wp2_with fail
  go_ret
  exact ⟨by simp, rfl⟩
set_option maxHeartbeats 1000000 in
theorem cmpU_any (x y : Int) (w : World) : Calls Tryz.prog 54 #[.int .u64 x, .int .u64 y] w fun e w' => e = .returned (.int .i64 (cmp3 x y)) ∧ w = w' := by
  obtain ⟨c, hc⟩ : ∃ c, cmp3 x y = c := ⟨_, rfl⟩
  rw [hc]
  unfold cmp3 at hc
  go_enter Tryz.func54, Tryz.ntmps54
  go_wp2_with fail
  refine (nanU_any x _).mono ?_
  rintro e w1 ⟨rfl, rfl⟩
  go_wp2_with fail
  refine (nanU_any y _).mono ?_
  rintro e w1 ⟨rfl, rfl⟩
  by_cases h1 : x < y
  · have d1 : decide (x < y) = true := by simpa using h1
    rw [if_pos h1] at hc; subst hc
    go_wp2_with fail
    go_ret
    exact ⟨rfl, rfl⟩
  · have d1 : decide (x < y) = false := by simpa using h1
    rw [if_neg h1] at hc
    by_cases h2 : y < x
    · have d2 : decide (y < x) = true := by simpa using h2
      rw [if_pos h2] at hc; subst hc
      go_wp2_with fail
      go_ret
      exact ⟨rfl, rfl⟩
    · have d2 : decide (y < x) = false := by simpa using h2
      rw [if_neg h2] at hc; subst hc
      go_wp2_with fail
      go_ret
      exact ⟨rfl, rfl⟩
set_option maxHeartbeats 1000000 in
theorem cmpI_any (x y : Int) (w : World) : Calls Tryz.prog 93 #[.int .i64 x, .int .i64 y] w fun e w' => e = .returned (.int .i64 (cmp3 x y)) ∧ w = w' := by
  obtain ⟨c, hc⟩ : ∃ c, cmp3 x y = c := ⟨_, rfl⟩
  rw [hc]
  unfold cmp3 at hc
  go_enter Tryz.func93, Tryz.ntmps93
  go_wp2_with fail
  refine (nanI_any x _).mono ?_
  rintro e w1 ⟨rfl, rfl⟩
  go_wp2_with fail
  refine (nanI_any y _).mono ?_
  rintro e w1 ⟨rfl, rfl⟩
  by_cases h1 : x < y
  · have d1 : decide (x < y) = true := by simpa using h1
    rw [if_pos h1] at hc; subst hc
    go_wp2_with fail
    go_ret
    exact ⟨rfl, rfl⟩
  · have d1 : decide (x < y) = false := by simpa using h1
    rw [if_neg h1] at hc
    by_cases h2 : y < x
    · have d2 : decide (y < x) = true := by simpa using h2
      rw [if_pos h2] at hc; subst hc
      go_wp2_with fail
      go_ret
      exact ⟨rfl, rfl⟩
    · have d2 : decide (y < x) = false := by simpa using h2
      rw [if_neg h2] at hc; subst hc
      go_wp2_with fail
      go_ret
      exact ⟨rfl, rfl⟩
/-- numbers of a slice of ints -/
abbrev encZ (x : Int) : List Value := [.int .i64 x]
set_option maxHeartbeats 1000000 in
theorem orI_any (v : Value) (L : List Int) (w : World) (h : Vec w Any1 1 encZ v L) (hn : L.length ≤ 1000000) :
    Calls Tryz.prog 92 #[v] w fun e w' => e = .returned (.int .i64 (orN L)) ∧ w = w' := by
  obtain ⟨a, cap, rfl⟩ := h.slice
  have HV := Lib.hid h; clear h
  obtain ⟨r, hr⟩ : ∃ r, orN L = r := ⟨_, rfl⟩
  rw [hr]
  have HR := Lib.hid hr; clear hr
  go_enter Tryz.func92, Tryz.ntmps92
  go_wp2_with fail
  go_loopw [8] (fun i wr => wr = w ∧ ∃ k : Nat, i = .int .i64 k ∧ k ≤ L.length ∧ Hid (orN (L.drop k) = r)) (fun i _ => L.length - (intOf i).toNat)
  case atStart => exact ⟨rfl, 0, rfl, by omega, Lib.hid HR.out⟩
  case round =>
    obtain ⟨rfl, k, rfl, hk, HT⟩ := hrel
    by_cases hlt : k < L.length
    · have hq : decide ((k : Int) < L.length) = true := by simp; omega
      obtain ⟨b, off, rfl, hb, hc⟩ := HV.out.get k hlt
      have c0 := hc 0 _ rfl
      rw [Nat.mul_one, Nat.add_zero] at c0
      have hd := List.drop_eq_getElem_cons hlt
      have ht := HT.out
      rw [hd] at ht
      obtain ⟨x, hx⟩ : ∃ x, L[k] = x := ⟨_, rfl⟩
      rw [hx] at c0 ht
      clear HT hd hx hc
      by_cases h0 : x = 0
      · subst h0
        unfold orN at ht
        rw [if_pos rfl] at ht
        have HT := Lib.hid ht; clear ht
        have d0 : ((0 : Int) != 0) = false := rfl
        go_wp2_with fail
        go_roundw
        case rel => exact ⟨trivial, k + 1, by go_num, by omega, HT⟩
        case measure => simp [intOf]; omega
      · have d0 : (x != (0 : Int)) = true := by simpa using h0
        unfold orN at ht
        rw [if_neg h0] at ht
        subst ht
        go_wp2_with fail
        go_ret
        exact ⟨rfl, rfl⟩
    · have hq : decide ((k : Int) < L.length) = false := by simp; omega
      have ht := HT.out
      rw [List.drop_eq_nil_of_le (by omega)] at ht
      unfold orN at ht
      subst ht
      clear HT
      go_wp2_with fail
      go_ret
      exact ⟨rfl, rfl⟩
end Go.Proofs.YtdckkggmmakfiaaGreatDoor
end
section
/- blocking, the program's: which components are right, their order. -/
set_option linter.unusedSimpArgs false
set_option linter.unusedVariables false
set_option maxRecDepth 100000
namespace Go.Proofs.YtdckkggmmakfiaaGreatDoor
open Go.RowKit
def fitsB (t k : Int) : Bool := if t = 1 ∨ t = 3 then true else if t = 2 then decide (k = 1) else if t = 4 then decide (k = 2) else if t = 5 then decide (k = 4) else false
theorem beq_dec (x y : Int) : (x == y) = decide (x = y) := by by_cases h : x = y <;> simp [h]
set_option maxHeartbeats 2000000 in
theorem fits_any (t k : Int) (w : World) : Calls Tryz.prog 45 #[.int .i64 t, .int .i64 k] w fun e w' => e = .returned (.bool (fitsB t k)) ∧ w = w' := by
  obtain ⟨r, hr⟩ : ∃ r, fitsB t k = r := ⟨_, rfl⟩
  rw [hr]
  unfold fitsB at hr
  have b1 := beq_dec k 1; have b2 := beq_dec k 2; have b4 := beq_dec k 4
  by_cases h1 : t = 1
  · subst h1
    have hr2 : true = r := hr
    subst hr2; clear hr
    go_enter Tryz.func45, Tryz.ntmps45
    go_wp2_with fail
    go_ret
    exact ⟨rfl, rfl⟩
  by_cases h3 : t = 3
  · subst h3
    have hr2 : true = r := hr
    subst hr2; clear hr
    go_enter Tryz.func45, Tryz.ntmps45
    go_wp2_with fail
    go_ret
    exact ⟨rfl, rfl⟩
  rw [if_neg (by omega)] at hr
  have d1 : (t == (1 : Int)) = false := by simpa using h1
  have d3 : (t == (3 : Int)) = false := by simpa using h3
  by_cases h2 : t = 2
  · subst h2
    have hr2 : decide (k = 1) = r := hr
    have HR := Lib.hid (show Ending.returned (.bool (k == 1)) = .returned (.bool r) by rw [b1, hr2])
    clear hr hr2 b1 b2 b4
    go_enter Tryz.func45, Tryz.ntmps45
    go_wp2_with fail
    go_ret
    exact ⟨HR.out, rfl⟩
  rw [if_neg h2] at hr
  have d2 : (t == (2 : Int)) = false := by simpa using h2
  by_cases h4 : t = 4
  · subst h4
    have hr2 : decide (k = 2) = r := hr
    have HR := Lib.hid (show Ending.returned (.bool (k == 2)) = .returned (.bool r) by rw [b2, hr2])
    clear hr hr2 b1 b2 b4
    go_enter Tryz.func45, Tryz.ntmps45
    go_wp2_with fail
    go_ret
    exact ⟨HR.out, rfl⟩
  rw [if_neg h4] at hr
  have d4 : (t == (4 : Int)) = false := by simpa using h4
  by_cases h5 : t = 5
  · subst h5
    have hr2 : decide (k = 4) = r := hr
    have HR := Lib.hid (show Ending.returned (.bool (k == 4)) = .returned (.bool r) by rw [b4, hr2])
    clear hr hr2 b1 b2 b4
    go_enter Tryz.func45, Tryz.ntmps45
    go_wp2_with fail
    go_ret
    exact ⟨HR.out, rfl⟩
  rw [if_neg h5] at hr
  have d5 : (t == (5 : Int)) = false := by simpa using h5
  subst hr
  clear b1 b2 b4 h1 h2 h3 h4 h5
  go_enter Tryz.func45, Tryz.ntmps45
  go_wp2_with fail
  go_ret
  exact ⟨rfl, rfl⟩
set_option maxHeartbeats 4000000 in
/-- of a field that there is -/
theorem right_in (S : Nat → Prop) (vf vt vn vs : Value) (F : List F2) (f : Nat) (t : Int) (w : World) (h : Vec w S 2 encF vf F) (hf : f < F.length) (hn : F.length ≤ 1000000) :
    Calls Tryz.prog 30 #[.agg #[vf, vt, vn, vs], .agg #[.int .i64 f, .int .i64 t]] w fun e w' => e = .returned (.bool (fitsB t (F.getD f default).2)) ∧ Below w.heap.size w w' := by
  obtain ⟨a, cap, rfl⟩ := h.slice
  obtain ⟨b, off, rfl, lb, hc⟩ := h.get f hf
  have c1 := hc 1 _ rfl
  obtain ⟨kk, hk⟩ : ∃ kk, (F.getD f default).2 = kk := ⟨_, rfl⟩
  have hk2 : F[f].2 = kk := by rw [← hk, List.getD, List.getElem?_eq_getElem hf]; rfl
  rw [hk2] at c1
  rw [hk]
  have d0 : decide ((0 : Int) ≤ (f : Int)) = true := by simp
  have hfi : decide ((f : Int) < (F.length : Int)) = true := by simp; omega
  have hfi2 : (f : Int) < (F.length : Int) := by omega
  clear h hc hk hk2
  go_enter Tryz.func30, Tryz.ntmps30
  go_wp2_with fail
  refine wp_world (fun W hW => ?_)
  have hb0 : Below w.heap.size w W := by rw [hW]; exact ((Below.refl w.heap.size w).alloc (Nat.le_refl _) _).alloc (by simp) _
  have hs0 : W.heap[w.heap.size]? = some (.cells #[.slice (some ⟨b, off, none⟩) F.length cap, vt, vn, vs] 33 (0, 0)) := by rw [hW]; exact blk_old (blk_new rfl)
  have hq0 : W.heap[w.heap.size + 1]? = some (.cells #[.int .i64 f, .int .i64 t] 48 (0, 0)) := by rw [hW]; exact blk_new (by simp)
  clear hW
  have x1 := (hb0.cell (p := ⟨b, off + f * 2 + 1, none⟩) lb).trans c1
  obtain ⟨s0, s1, s2, s3⟩ := cellsS hs0; obtain ⟨q0, q1⟩ := cells2K hq0
  have HB0 := Lib.hid hb0
  clear hs0 hq0 hb0 c1
  refine wp_region_noPanic ?_
  refine wp_region_held_drew (S := (fun w' => w'.cell? ⟨w.heap.size, 0, none⟩ = some (.slice (some ⟨b, off, none⟩) F.length cap) ∧ w'.cell? ⟨w.heap.size + 1, 0, none⟩ = some (.int .i64 f) ∧ w'.cell? ⟨w.heap.size + 1, 1, none⟩ = some (.int .i64 t) ∧ w'.cell? ⟨b, off + f * 2 + 1, none⟩ = some (.int .i64 kk))) (by kernel_rfl) (⟨s0, q0, q1, x1⟩) (fun hHeld => ?_)
  refine wpAnyH_take (i := 0) (v := ?_) rfl (by kernel_rfl) (by kernel_rfl) (by kernel_rfl) (fun _ _ _ h => h) (Or.inl ⟨by rfl, ?_⟩) (by assumption) ?_
  rotate_left 1
  · (intro wS hSw; (try dsimp only at hSw); go_simp; try with_reducible rfl)
  try simp only [List.getElem_toArray, List.getElem_cons_zero, List.getElem_cons_succ, Act.put, List.setIfInBounds_toArray, List.set_cons_zero, List.set_cons_succ]
  refine wpAnyH_take (i := 1) (v := ?_) rfl (by kernel_rfl) (by kernel_rfl) (by kernel_rfl) (fun _ _ _ h => h) (Or.inl ⟨by rfl, ?_⟩) (by assumption) ?_
  rotate_left 1
  · (intro wS hSw; (try dsimp only at hSw); go_simp; try with_reducible rfl)
  try simp only [List.getElem_toArray, List.getElem_cons_zero, List.getElem_cons_succ, Act.put, List.setIfInBounds_toArray, List.set_cons_zero, List.set_cons_succ]
  refine wpAnyH_take (i := 2) (v := ?_) rfl (by kernel_rfl) (by kernel_rfl) (by kernel_rfl) (fun _ _ _ h => h) (Or.inl ⟨by rfl, ?_⟩) (by assumption) ?_
  rotate_left 1
  · (intro wS hSw; (try dsimp only at hSw); go_simp; try with_reducible rfl)
  try simp only [List.getElem_toArray, List.getElem_cons_zero, List.getElem_cons_succ, Act.put, List.setIfInBounds_toArray, List.set_cons_zero, List.set_cons_succ]
  refine wpAnyH_take (i := 3) (v := ?_) rfl (by kernel_rfl) (by kernel_rfl) (by kernel_rfl) (fun _ _ _ h => h) (Or.inl ⟨by rfl, ?_⟩) (by assumption) ?_
  rotate_left 1
  · (intro wS hSw; (try dsimp only at hSw); go_simp; try with_reducible rfl)
  try simp only [List.getElem_toArray, List.getElem_cons_zero, List.getElem_cons_succ, Act.put, List.setIfInBounds_toArray, List.set_cons_zero, List.set_cons_succ]
  refine wpAnyH_take (i := 4) (v := ?_) rfl (by kernel_rfl) (by kernel_rfl) (by kernel_rfl) (fun _ _ _ h => h) (Or.inl ⟨by rfl, ?_⟩) (by assumption) ?_
  rotate_left 1
  · (intro wS hSw; (try dsimp only at hSw); go_simp; try with_reducible rfl)
  try simp only [List.getElem_toArray, List.getElem_cons_zero, List.getElem_cons_succ, Act.put, List.setIfInBounds_toArray, List.set_cons_zero, List.set_cons_succ]
  refine wpAnyH_take (i := 5) (v := ?_) rfl (by kernel_rfl) (by kernel_rfl) (by kernel_rfl) (fun _ _ _ h => h) (Or.inl ⟨by rfl, ?_⟩) (by assumption) ?_
  rotate_left 1
  · (intro wS hSw; (try dsimp only at hSw); go_simp; try with_reducible rfl)
  try simp only [List.getElem_toArray, List.getElem_cons_zero, List.getElem_cons_succ, Act.put, List.setIfInBounds_toArray, List.set_cons_zero, List.set_cons_succ]
  refine wpAnyH_take (i := 6) (v := ?_) rfl (by kernel_rfl) (by kernel_rfl) (by kernel_rfl) (fun _ _ _ h => h) (Or.inl ⟨by rfl, ?_⟩) (by assumption) ?_
  rotate_left 1
  · (intro wS hSw; (try dsimp only at hSw); go_simp; try with_reducible rfl)
  try simp only [List.getElem_toArray, List.getElem_cons_zero, List.getElem_cons_succ, Act.put, List.setIfInBounds_toArray, List.set_cons_zero, List.set_cons_succ]
  refine wpAnyH_take (i := 7) (v := ?_) rfl (by kernel_rfl) (by kernel_rfl) (by kernel_rfl) (fun _ _ _ h => h) (Or.inl ⟨by rfl, ?_⟩) (by assumption) ?_
  rotate_left 1
  · (intro wS hSw; (try dsimp only at hSw); go_simp; try with_reducible rfl)
  try simp only [List.getElem_toArray, List.getElem_cons_zero, List.getElem_cons_succ, Act.put, List.setIfInBounds_toArray, List.set_cons_zero, List.set_cons_succ]
  refine wpAnyH_take (i := 8) (v := ?_) rfl (by kernel_rfl) (by kernel_rfl) (by kernel_rfl) (fun _ _ _ h => h) (Or.inl ⟨by rfl, ?_⟩) (by assumption) ?_
  rotate_left 1
  · (intro wS hSw; (try dsimp only at hSw); go_simp; try with_reducible rfl)
  try simp only [List.getElem_toArray, List.getElem_cons_zero, List.getElem_cons_succ, Act.put, List.setIfInBounds_toArray, List.set_cons_zero, List.set_cons_succ]
  refine wpAnyH_take (i := 9) (v := ?_) rfl (by kernel_rfl) (by kernel_rfl) (by kernel_rfl) (fun _ _ _ h => h) (Or.inl ⟨by rfl, ?_⟩) (by assumption) ?_
  rotate_left 1
  · (intro wS hSw; (try dsimp only at hSw); go_simp; try with_reducible rfl)
  try simp only [List.getElem_toArray, List.getElem_cons_zero, List.getElem_cons_succ, Act.put, List.setIfInBounds_toArray, List.set_cons_zero, List.set_cons_succ]
  refine wpAnyH_take (i := 10) (v := ?_) rfl (by kernel_rfl) (by kernel_rfl) (by kernel_rfl) (fun _ _ _ h => h) (Or.inl ⟨by rfl, ?_⟩) (by assumption) ?_
  rotate_left 1
  · (intro wS hSw; (try dsimp only at hSw); go_simp; try with_reducible rfl)
  try simp only [List.getElem_toArray, List.getElem_cons_zero, List.getElem_cons_succ, Act.put, List.setIfInBounds_toArray, List.set_cons_zero, List.set_cons_succ]
  refine wpAnyH_take (i := 11) (v := ?_) rfl (by kernel_rfl) (by kernel_rfl) (by kernel_rfl) (fun _ _ _ h => h) (Or.inl ⟨by rfl, ?_⟩) (by assumption) ?_
  rotate_left 1
  · (intro wS hSw; (try dsimp only at hSw); go_simp; try with_reducible rfl)
  try simp only [List.getElem_toArray, List.getElem_cons_zero, List.getElem_cons_succ, Act.put, List.setIfInBounds_toArray, List.set_cons_zero, List.set_cons_succ]
  refine wpAnyH_take (i := 12) (v := ?_) rfl (by kernel_rfl) (by kernel_rfl) (by kernel_rfl) (fun _ _ _ h => h) (Or.inl ⟨by rfl, ?_⟩) (by assumption) ?_
  rotate_left 1
  · (intro wS hSw; (try dsimp only at hSw); go_simp; try with_reducible rfl)
  try simp only [List.getElem_toArray, List.getElem_cons_zero, List.getElem_cons_succ, Act.put, List.setIfInBounds_toArray, List.set_cons_zero, List.set_cons_succ]
  refine wpAnyH_take (i := 13) (v := ?_) rfl (by kernel_rfl) (by kernel_rfl) (by kernel_rfl) (fun _ _ _ h => h) (Or.inl ⟨by rfl, ?_⟩) (by assumption) ?_
  rotate_left 1
  · (intro wS hSw; (try dsimp only at hSw); go_simp; try with_reducible rfl)
  try simp only [List.getElem_toArray, List.getElem_cons_zero, List.getElem_cons_succ, Act.put, List.setIfInBounds_toArray, List.set_cons_zero, List.set_cons_succ]
  refine wpAnyH_take (i := 14) (v := ?_) rfl (by kernel_rfl) (by kernel_rfl) (by kernel_rfl) (fun _ _ _ h => h) (Or.inl ⟨by rfl, ?_⟩) (by assumption) ?_
  rotate_left 1
  · (intro wS hSw; (try dsimp only at hSw); go_simp; try with_reducible rfl)
  try simp only [List.getElem_toArray, List.getElem_cons_zero, List.getElem_cons_succ, Act.put, List.setIfInBounds_toArray, List.set_cons_zero, List.set_cons_succ]
  refine wpAnyH_take (i := 15) (v := ?_) rfl (by kernel_rfl) (by kernel_rfl) (by kernel_rfl) (fun _ _ _ h => h) (Or.inl ⟨by rfl, ?_⟩) (by assumption) ?_
  rotate_left 1
  · (intro wS hSw; (try dsimp only at hSw); go_simp; try with_reducible rfl)
  try simp only [List.getElem_toArray, List.getElem_cons_zero, List.getElem_cons_succ, Act.put, List.setIfInBounds_toArray, List.set_cons_zero, List.set_cons_succ]
  refine wpAnyH_take (i := 16) (v := ?_) rfl (by kernel_rfl) (by kernel_rfl) (by kernel_rfl) (fun _ _ _ h => h) (Or.inl ⟨by rfl, ?_⟩) (by assumption) ?_
  rotate_left 1
  · (intro wS hSw; (try dsimp only at hSw); go_simp; try with_reducible rfl)
  try simp only [List.getElem_toArray, List.getElem_cons_zero, List.getElem_cons_succ, Act.put, List.setIfInBounds_toArray, List.set_cons_zero, List.set_cons_succ]
  refine wpAnyH_take (i := 17) (v := ?_) rfl (by kernel_rfl) (by kernel_rfl) (by kernel_rfl) (fun _ _ _ h => h) (Or.inl ⟨by rfl, ?_⟩) (by assumption) ?_
  rotate_left 1
  · (intro wS hSw; (try dsimp only at hSw); go_simp; try with_reducible rfl)
  try simp only [List.getElem_toArray, List.getElem_cons_zero, List.getElem_cons_succ, Act.put, List.setIfInBounds_toArray, List.set_cons_zero, List.set_cons_succ]
  refine wpAnyH_take (i := 18) (v := ?_) rfl (by kernel_rfl) (by kernel_rfl) (by kernel_rfl) (fun _ _ _ h => h) (Or.inl ⟨by rfl, ?_⟩) (by assumption) ?_
  rotate_left 1
  · (intro wS hSw; (try dsimp only at hSw); go_simp; try with_reducible rfl)
  try simp only [List.getElem_toArray, List.getElem_cons_zero, List.getElem_cons_succ, Act.put, List.setIfInBounds_toArray, List.set_cons_zero, List.set_cons_succ]
  refine wpAnyH_take (i := 19) (v := ?_) rfl (by kernel_rfl) (by kernel_rfl) (by kernel_rfl) (fun _ _ _ h => h) (Or.inl ⟨by rfl, ?_⟩) (by assumption) ?_
  rotate_left 1
  · (intro wS hSw; (try dsimp only at hSw); go_simp; try with_reducible rfl)
  try simp only [List.getElem_toArray, List.getElem_cons_zero, List.getElem_cons_succ, Act.put, List.setIfInBounds_toArray, List.set_cons_zero, List.set_cons_succ]
  refine wpAnyH_take (i := 20) (v := ?_) rfl (by kernel_rfl) (by kernel_rfl) (by kernel_rfl) (fun _ _ _ h => h) (Or.inl ⟨by rfl, ?_⟩) (by assumption) ?_
  rotate_left 1
  · (intro wS hSw; (try dsimp only at hSw); go_simp; try with_reducible rfl)
  try simp only [List.getElem_toArray, List.getElem_cons_zero, List.getElem_cons_succ, Act.put, List.setIfInBounds_toArray, List.set_cons_zero, List.set_cons_succ]
  refine wpAnyH_ready (rs := [21]) (by kernel_rfl) (by simp) ?_
  refine AllReadyH.cons rfl (fun K hK => ?_) AllReadyH.nil
  go_simp
  refine (fits_any _ _ _).mono ?_; rintro e wq ⟨rfl, rfl⟩
  refine hK.out _ _ (⟨s0, q0, q1, x1⟩) (fun hHeld => ?_)
  clear hK K
  try simp only [List.getElem_toArray, List.getElem_cons_zero, List.getElem_cons_succ, Act.put, List.setIfInBounds_toArray, List.set_cons_zero, List.set_cons_succ]
  refine wpAnyH_take (i := 22) (v := ?_) rfl (by kernel_rfl) (by kernel_rfl) (by kernel_rfl) (fun _ _ _ h => h) (Or.inl ⟨by rfl, ?_⟩) (by assumption) ?_
  rotate_left 1
  · (intro wS hSw; (try dsimp only at hSw); go_simp; try with_reducible rfl)
  try simp only [List.getElem_toArray, List.getElem_cons_zero, List.getElem_cons_succ, Act.put, List.setIfInBounds_toArray, List.set_cons_zero, List.set_cons_succ]
  refine wpAnyH_take (i := 23) (v := ?_) rfl (by kernel_rfl) (by kernel_rfl) (by kernel_rfl) (fun _ _ _ h => h) (Or.inl ⟨by rfl, ?_⟩) (by assumption) ?_
  rotate_left 1
  · (intro wS hSw; (try dsimp only at hSw); go_simp; try with_reducible rfl)
  try simp only [List.getElem_toArray, List.getElem_cons_zero, List.getElem_cons_succ, Act.put, List.setIfInBounds_toArray, List.set_cons_zero, List.set_cons_succ]
  refine wpAnyH_done (by kernel_rfl) ?_ _
  refine NoPanic.normal ?_
  go_wp2_with fail
  go_ret
  exact ⟨rfl, HB0.out.drew⟩
def orderC (a b : Int × Int) : Int := orN [cmp3 a.1 b.1, cmp3 a.2 b.2]
set_option maxHeartbeats 4000000 in
theorem order_any (a b : Int × Int) (w : World) :
    Calls Tryz.prog 60 #[.agg #[.int .i64 a.1, .int .i64 a.2], .agg #[.int .i64 b.1, .int .i64 b.2]] w fun e w' => e = .returned (.int .i64 (orderC a b)) ∧ Below w.heap.size w w' := by
  obtain ⟨x, hx⟩ : ∃ x, cmp3 a.1 b.1 = x := ⟨_, rfl⟩
  obtain ⟨y, hy⟩ : ∃ y, cmp3 a.2 b.2 = y := ⟨_, rfl⟩
  obtain ⟨r, hr⟩ : ∃ r, orderC a b = r := ⟨_, rfl⟩
  have hr2 : orN [x, y] = r := by rw [← hr, ← hx, ← hy]; rfl
  rw [hr]
  have HX := Lib.hid hx; have HY := Lib.hid hy; have HR := Lib.hid hr2
  clear hx hy hr hr2
  go_enter Tryz.func60, Tryz.ntmps60
  go_wp2_with fail
  refine wp_world (fun W hW => ?_)
  have hb0 : Below w.heap.size w W := by rw [hW]; exact ((Below.refl w.heap.size w).alloc (Nat.le_refl _) _).alloc (by simp) _
  have ha0 : W.heap[w.heap.size]? = some (.cells #[.int .i64 a.1, .int .i64 a.2] 48 (0, 0)) := by rw [hW]; exact blk_old (blk_new rfl)
  have he0 : W.heap[w.heap.size + 1]? = some (.cells #[.int .i64 b.1, .int .i64 b.2] 48 (0, 0)) := by rw [hW]; exact blk_new (by simp)
  clear hW
  have HB0 := Lib.hid hb0
  obtain ⟨a0, a1⟩ := cells2K ha0; obtain ⟨b0, b1⟩ := cells2K he0
  have hwz := lt_of_blk he0
  clear ha0 he0 hb0
  refine wp_region_noPanic ?_
  refine wp_region_held_drew (S := (fun w' => w'.cell? ⟨w.heap.size, 0, none⟩ = some (.int .i64 a.1) ∧ w'.cell? ⟨w.heap.size, 1, none⟩ = some (.int .i64 a.2) ∧ w'.cell? ⟨w.heap.size + 1, 0, none⟩ = some (.int .i64 b.1) ∧ w'.cell? ⟨w.heap.size + 1, 1, none⟩ = some (.int .i64 b.2))) (by kernel_rfl) (⟨a0, a1, b0, b1⟩) (fun hHeld => ?_)
  refine wpAnyH_take (i := 0) (v := ?_) rfl (by kernel_rfl) (by kernel_rfl) (by kernel_rfl) (fun _ _ _ h => h) (Or.inl ⟨by rfl, ?_⟩) (by assumption) ?_
  rotate_left 1
  · (intro wS hSw; (try dsimp only at hSw); go_simp; try with_reducible rfl)
  try simp only [List.getElem_toArray, List.getElem_cons_zero, List.getElem_cons_succ, Act.put, List.setIfInBounds_toArray, List.set_cons_zero, List.set_cons_succ]
  refine wpAnyH_take (i := 1) (v := ?_) rfl (by kernel_rfl) (by kernel_rfl) (by kernel_rfl) (fun _ _ _ h => h) (Or.inl ⟨by rfl, ?_⟩) (by assumption) ?_
  rotate_left 1
  · (intro wS hSw; (try dsimp only at hSw); go_simp; try with_reducible rfl)
  try simp only [List.getElem_toArray, List.getElem_cons_zero, List.getElem_cons_succ, Act.put, List.setIfInBounds_toArray, List.set_cons_zero, List.set_cons_succ]
  refine wpAnyH_take (i := 2) (v := ?_) rfl (by kernel_rfl) (by kernel_rfl) (by kernel_rfl) (fun _ _ _ h => h) (Or.inl ⟨by rfl, ?_⟩) (by assumption) ?_
  rotate_left 1
  · (intro wS hSw; (try dsimp only at hSw); go_simp; try with_reducible rfl)
  try simp only [List.getElem_toArray, List.getElem_cons_zero, List.getElem_cons_succ, Act.put, List.setIfInBounds_toArray, List.set_cons_zero, List.set_cons_succ]
  refine wpAnyH_take (i := 3) (v := ?_) rfl (by kernel_rfl) (by kernel_rfl) (by kernel_rfl) (fun _ _ _ h => h) (Or.inl ⟨by rfl, ?_⟩) (by assumption) ?_
  rotate_left 1
  · (intro wS hSw; (try dsimp only at hSw); go_simp; try with_reducible rfl)
  try simp only [List.getElem_toArray, List.getElem_cons_zero, List.getElem_cons_succ, Act.put, List.setIfInBounds_toArray, List.set_cons_zero, List.set_cons_succ]
  refine wpAnyH_take (i := 5) (v := ?_) rfl (by kernel_rfl) (by kernel_rfl) (by kernel_rfl) (fun _ _ _ h => h) (Or.inl ⟨by rfl, ?_⟩) (by assumption) ?_
  rotate_left 1
  · (intro wS hSw; (try dsimp only at hSw); go_simp; try with_reducible rfl)
  try simp only [List.getElem_toArray, List.getElem_cons_zero, List.getElem_cons_succ, Act.put, List.setIfInBounds_toArray, List.set_cons_zero, List.set_cons_succ]
  refine wpAnyH_take (i := 6) (v := ?_) rfl (by kernel_rfl) (by kernel_rfl) (by kernel_rfl) (fun _ _ _ h => h) (Or.inl ⟨by rfl, ?_⟩) (by assumption) ?_
  rotate_left 1
  · (intro wS hSw; (try dsimp only at hSw); go_simp; try with_reducible rfl)
  try simp only [List.getElem_toArray, List.getElem_cons_zero, List.getElem_cons_succ, Act.put, List.setIfInBounds_toArray, List.set_cons_zero, List.set_cons_succ]
  refine wpAnyH_take (i := 7) (v := ?_) rfl (by kernel_rfl) (by kernel_rfl) (by kernel_rfl) (fun _ _ _ h => h) (Or.inl ⟨by rfl, ?_⟩) (by assumption) ?_
  rotate_left 1
  · (intro wS hSw; (try dsimp only at hSw); go_simp; try with_reducible rfl)
  try simp only [List.getElem_toArray, List.getElem_cons_zero, List.getElem_cons_succ, Act.put, List.setIfInBounds_toArray, List.set_cons_zero, List.set_cons_succ]
  refine wpAnyH_take (i := 8) (v := ?_) rfl (by kernel_rfl) (by kernel_rfl) (by kernel_rfl) (fun _ _ _ h => h) (Or.inl ⟨by rfl, ?_⟩) (by assumption) ?_
  rotate_left 1
  · (intro wS hSw; (try dsimp only at hSw); go_simp; try with_reducible rfl)
  try simp only [List.getElem_toArray, List.getElem_cons_zero, List.getElem_cons_succ, Act.put, List.setIfInBounds_toArray, List.set_cons_zero, List.set_cons_succ]
  refine wpAnyH_ready (rs := [4]) (by kernel_rfl) (by simp) ?_
  refine AllReadyH.cons rfl (fun K hK => ?_) AllReadyH.nil
  go_simp
  refine (cmpI_any _ _ _).mono ?_; rw [HX.out]; rintro e w1 ⟨rfl, rfl⟩
  refine hK.out _ _ (⟨a0, a1, b0, b1⟩) (fun hHeld => ?_)
  clear hK K
  try simp only [List.getElem_toArray, List.getElem_cons_zero, List.getElem_cons_succ, Act.put, List.setIfInBounds_toArray, List.set_cons_zero, List.set_cons_succ]
  refine wpAnyH_ready (rs := [9]) (by kernel_rfl) (by simp) ?_
  refine AllReadyH.cons rfl (fun K hK => ?_) AllReadyH.nil
  go_simp
  refine (cmpI_any _ _ _).mono ?_; rw [HY.out]; rintro e w1 ⟨rfl, rfl⟩
  refine hK.out _ _ (⟨a0, a1, b0, b1⟩) (fun hHeld => ?_)
  clear hK K
  try simp only [List.getElem_toArray, List.getElem_cons_zero, List.getElem_cons_succ, Act.put, List.setIfInBounds_toArray, List.set_cons_zero, List.set_cons_succ]
  refine wpAnyH_ready (rs := [10]) (by kernel_rfl) (by simp) ?_
  refine AllReadyH.cons rfl (fun K hK => ?_) AllReadyH.nil
  go_simp
  refine hK.out _ _ (⟨((Below.refl W.heap.size W).drew.alloc (Nat.le_refl _) _).cell (p := ⟨w.heap.size, 0, none⟩) (by show w.heap.size < _; omega) |>.trans a0, ((Below.refl W.heap.size W).drew.alloc (Nat.le_refl _) _).cell (p := ⟨w.heap.size, 1, none⟩) (by show w.heap.size < _; omega) |>.trans a1, ((Below.refl W.heap.size W).drew.alloc (Nat.le_refl _) _).cell (p := ⟨w.heap.size + 1, 0, none⟩) hwz |>.trans b0, ((Below.refl W.heap.size W).drew.alloc (Nat.le_refl _) _).cell (p := ⟨w.heap.size + 1, 1, none⟩) hwz |>.trans b1⟩) (fun hHeld => ?_)
  clear hK K
  try simp only [List.getElem_toArray, List.getElem_cons_zero, List.getElem_cons_succ, Act.put, List.setIfInBounds_toArray, List.set_cons_zero, List.set_cons_succ]
  refine wph_name (fun W1 hW1 => ?_)
  have hb1 : Below w.heap.size w W1 := by rw [hW1]; exact HB0.out.drew.alloc (by have := HB0.out.size; simpa using this) _
  have hv1 : Vec W1 Any1 1 encZ (.slice (some ⟨W.heap.size, 0, none⟩) 2 2) [x, y] := by rw [hW1]; exact blockVec (k := 1) (enc := encZ) (L := [x, y]) (S := Any1) (A := W.heap.size) (fun _ => rfl) (blk_new rfl) trivial 2 rfl
  have hHeld2 := hHeld
  rw [← hW1] at hHeld2
  clear hHeld hW1
  have hHeld := hHeld2; clear hHeld2
  have HV1 := Lib.hid hv1; have HB1 := Lib.hid hb1
  clear hv1 hb1
  refine wpAnyH_ready (rs := [11]) (by kernel_rfl) (by simp) ?_
  refine AllReadyH.cons rfl (fun K hK => ?_) AllReadyH.nil
  go_simp
  refine (orI_any _ [x, y] _ HV1.out (by simp)).mono ?_; rw [HR.out]; rintro e w1 ⟨rfl, rfl⟩
  refine hK.out _ _ (hHeld) (fun hHeld => ?_)
  clear hK K
  try simp only [List.getElem_toArray, List.getElem_cons_zero, List.getElem_cons_succ, Act.put, List.setIfInBounds_toArray, List.set_cons_zero, List.set_cons_succ]
  refine wpAnyH_take (i := 12) (v := ?_) rfl (by kernel_rfl) (by kernel_rfl) (by kernel_rfl) (fun _ _ _ h => h) (Or.inl ⟨by rfl, ?_⟩) (by assumption) ?_
  rotate_left 1
  · (intro wS hSw; (try dsimp only at hSw); go_simp; try with_reducible rfl)
  try simp only [List.getElem_toArray, List.getElem_cons_zero, List.getElem_cons_succ, Act.put, List.setIfInBounds_toArray, List.set_cons_zero, List.set_cons_succ]
  refine wpAnyH_done (by kernel_rfl) ?_ _
  refine NoPanic.normal ?_
  go_wp2_with fail
  go_ret
  exact ⟨rfl, HB1.out⟩
end Go.Proofs.YtdckkggmmakfiaaGreatDoor
end
section
/- blocking, the program's: key, Check, check of valid block keys. -/
set_option linter.unusedSimpArgs false
set_option linter.unusedVariables false
set_option maxRecDepth 100000
namespace Go.Proofs.YtdckkggmmakfiaaGreatDoor
open Go.RowKit
/-- the cells of a component -/
abbrev encC (c : Int × Int) : List Value := [.int .i64 c.1, .int .i64 c.2]
structure KeyOk (F : List F2) (K : List (Int × Int)) : Prop where
  len1 : 1 ≤ K.length
  len2 : K.length ≤ 3
  fit : ∀ c ∈ K, 0 ≤ c.1 ∧ c.1 < F.length ∧ fitsB c.2 (F.getD c.1.toNat default).2 = true
  asc : ∀ i, i + 1 < K.length → orderC (K.getD i (0, 0)) (K.getD (i + 1) (0, 0)) < 0
set_option maxHeartbeats 8000000 in
theorem bkey_yes (S T : Nat → Prop) (vf vt vn vs kv : Value) (F : List F2) (K : List (Int × Int)) (w : World) (h : Vec w S 2 encF vf F) (hk : Vec w T 2 encC kv K) (hn : F.length ≤ 1000000) (ok : KeyOk F K) :
    Calls Tryz.prog 38 #[.agg #[vf, vt, vn, vs], .agg #[kv]] w fun e w' => e = .returned (.int .i64 0) ∧ Below w.heap.size w w' := by
  obtain ⟨ak, ck, rfl⟩ := hk.slice
  have HF := Lib.hid h; have HK := Lib.hid hk; have HOk := Lib.hid ok
  have l1 := ok.len1; have l2 := ok.len2
  have d1 : decide ((K.length : Int) < 1) = false := by simp; omega
  have d2 : decide ((3 : Int) < (K.length : Int)) = false := by simp; omega
  clear h hk ok
  go_enter Tryz.func38, Tryz.ntmps38
  go_wp2_with fail
  refine wp_world (fun W hW => ?_)
  have hb0 : Below w.heap.size w W := by rw [hW]; exact ((Below.refl w.heap.size w).alloc (Nat.le_refl _) _).alloc (by simp) _
  have hs0 : W.heap[w.heap.size]? = some (.cells #[vf, vt, vn, vs] 33 (0, 0)) := by rw [hW]; exact blk_old (blk_new rfl)
  have hq0 : W.heap[w.heap.size + 1]? = some (.cells #[.slice ak K.length ck] 43 (0, 0)) := by rw [hW]; exact blk_new (by simp)
  clear hW
  have HB0 := Lib.hid hb0; have HS0 := Lib.hid hs0; have HQ0 := Lib.hid hq0
  clear hb0 hs0 hq0 d1 d2
  go_loopw [20] (fun i wr => ∃ j : Nat, i = .int .i64 j ∧ j ≤ K.length ∧ Below W.heap.size W wr) (fun i _ => K.length - (intOf i).toNat)
  case atStart => exact ⟨0, rfl, by omega, Below.refl _ _⟩
  case round =>
    obtain ⟨j, rfl, hj, hbw⟩ := hrel
    have HBW := Lib.hid hbw
    by_cases hlt : j < K.length
    · have hq : decide ((j : Int) < (K.length : Int)) = true := by simp; omega
      have hji : (j : Int) < (K.length : Int) := by omega
      have hbw0 := HB0.out.trans (hbw.mono HB0.out.size)
      obtain ⟨b, off, rfl, lb, hc⟩ := (HK.out.below hbw0).get j hlt
      have c0 := hc 0 _ rfl; have c1 := hc 1 _ rfl
      obtain ⟨⟨f, t⟩, hx⟩ : ∃ x, K[j] = x := ⟨_, rfl⟩
      have hfit := HOk.out.fit K[j] (List.getElem_mem hlt)
      rw [hx] at c0 c1 hfit
      obtain ⟨hf0, hfF, hft⟩ := hfit
      dsimp only at c0 c1 hf0 hfF hft
      rw [Nat.add_zero] at c0
      obtain ⟨fn, rfl⟩ : ∃ fn : Nat, f = fn := ⟨f.toNat, by omega⟩
      have hft2 : fitsB t (F.getD fn default).2 = true := hft
      have HFT := Lib.hid hft2
      have hs1 := blk_below hbw (lt_of_blk HS0.out) HS0.out; have hq1 := blk_below hbw (lt_of_blk HQ0.out) HQ0.out
      clear hbw hc hft hft2
      go_wp2_with fail
      refine wp_world (fun Wc hWc => ?_)
      have hbc : Below wr.heap.size wr Wc := by rw [hWc]; exact (Below.refl wr.heap.size wr).alloc (Nat.le_refl _) _
      have hc0 : Wc.heap[wr.heap.size]? = some (.cells #[.int .i64 fn, .int .i64 t] 48 (0, 0)) := by rw [hWc]; exact blk_new rfl
      clear hWc
      have hs2 := blk_below hbc (lt_of_blk hs1) hs1; have hq2 := blk_below hbc (lt_of_blk hq1) hq1
      obtain ⟨s0, s1, s2, s3⟩ := cellsS hs2; obtain ⟨k0, k1⟩ := cells2K hc0
      have q0 : Wc.cell? ⟨w.heap.size + 1, 0, none⟩ = some (.slice (some ⟨b, off, none⟩) K.length ck) := by rw [cell_of_row _ _ _ _ _ _ hq2]; rfl
      have ls := lt_of_blk hs2; have lq := lt_of_blk hq2; have lc := lt_of_blk hc0
      have HFC := Lib.hid (HF.out.below (hbw0.trans (hbc.mono hbw0.size)))
      have HBC := Lib.hid hbc
      have bD : Below Wc.heap.size Wc Wc.drew := (Below.refl _ _).drew
      by_cases hj0 : j = 0
      · have g0 : decide ((0 : Int) < (j : Int)) = false := by simp; omega
        have g0n : decide (0 < j) = false := by simp; omega
        clear hs1 hq1 hc0 hs2 hq2 hbc c0 c1 hj0
        refine wp_region_noPanic ?_
        refine wp_region_held_drew (S := (fun w' => w'.cell? ⟨w.heap.size, 0, none⟩ = some (vf) ∧ w'.cell? ⟨w.heap.size, 1, none⟩ = some (vt) ∧ w'.cell? ⟨w.heap.size, 2, none⟩ = some (vn) ∧ w'.cell? ⟨w.heap.size, 3, none⟩ = some (vs) ∧ w'.cell? ⟨w.heap.size + 1, 0, none⟩ = some (.slice (some ⟨b, off, none⟩) K.length ck) ∧ w'.cell? ⟨wr.heap.size, 0, none⟩ = some (.int .i64 fn) ∧ w'.cell? ⟨wr.heap.size, 1, none⟩ = some (.int .i64 t))) (by kernel_rfl) (⟨s0, s1, s2, s3, q0, k0, k1⟩) (fun hHeld => ?_)
        refine wpAnyH_take (i := 0) (v := ?_) rfl (by kernel_rfl) (by kernel_rfl) (by kernel_rfl) (fun _ _ _ h => h) (Or.inl ⟨by rfl, ?_⟩) (by assumption) ?_
        rotate_left 1
        · (intro wS hSw; (try dsimp only at hSw); go_simp; try with_reducible rfl)
        try simp only [List.getElem_toArray, List.getElem_cons_zero, List.getElem_cons_succ, Act.put, List.setIfInBounds_toArray, List.set_cons_zero, List.set_cons_succ]
        refine wpAnyH_take (i := 1) (v := ?_) rfl (by kernel_rfl) (by kernel_rfl) (by kernel_rfl) (fun _ _ _ h => h) (Or.inl ⟨by rfl, ?_⟩) (by assumption) ?_
        rotate_left 1
        · (intro wS hSw; (try dsimp only at hSw); go_simp; try with_reducible rfl)
        try simp only [List.getElem_toArray, List.getElem_cons_zero, List.getElem_cons_succ, Act.put, List.setIfInBounds_toArray, List.set_cons_zero, List.set_cons_succ]
        refine wpAnyH_ready (rs := [2]) (by kernel_rfl) (by simp) ?_
        refine AllReadyH.cons rfl (fun K hK => ?_) AllReadyH.nil
        go_simp
        refine (right_in S _ _ _ _ F fn t _ (HFC.out.below bD) (by omega) hn).mono ?_; rw [HFT.out]; rintro e w2 ⟨rfl, hb⟩; have b2 := bD.trans hb; clear hb
        refine hK.out _ _ (⟨(b2.cell (p := ⟨w.heap.size, 0, none⟩) ls).trans s0, (b2.cell (p := ⟨w.heap.size, 1, none⟩) ls).trans s1, (b2.cell (p := ⟨w.heap.size, 2, none⟩) ls).trans s2, (b2.cell (p := ⟨w.heap.size, 3, none⟩) ls).trans s3, (b2.cell (p := ⟨w.heap.size + 1, 0, none⟩) lq).trans q0, (b2.cell (p := ⟨wr.heap.size, 0, none⟩) lc).trans k0, (b2.cell (p := ⟨wr.heap.size, 1, none⟩) lc).trans k1⟩) (fun hHeld => ?_)
        clear hK K
        try simp only [List.getElem_toArray, List.getElem_cons_zero, List.getElem_cons_succ, Act.put, List.setIfInBounds_toArray, List.set_cons_zero, List.set_cons_succ]
        refine wpAnyH_take (i := 3) (v := ?_) rfl (by kernel_rfl) (by kernel_rfl) (by kernel_rfl) (fun _ _ _ h => h) (Or.inl ⟨by rfl, ?_⟩) (by assumption) ?_
        rotate_left 1
        · (intro wS hSw; (try dsimp only at hSw); go_simp; try with_reducible rfl)
        try simp only [List.getElem_toArray, List.getElem_cons_zero, List.getElem_cons_succ, Act.put, List.setIfInBounds_toArray, List.set_cons_zero, List.set_cons_succ]
        refine wpAnyH_take (i := 4) (v := ?_) rfl (by kernel_rfl) (by kernel_rfl) (by kernel_rfl) (fun _ _ _ h => h) (Or.inl ⟨by rfl, ?_⟩) (by assumption) ?_
        rotate_left 1
        · (intro wS hSw; (try dsimp only at hSw); go_simp; try with_reducible rfl)
        try simp only [List.getElem_toArray, List.getElem_cons_zero, List.getElem_cons_succ, Act.put, List.setIfInBounds_toArray, List.set_cons_zero, List.set_cons_succ]
        refine wpAnyH_take (i := 5) (v := ?_) rfl (by kernel_rfl) (by kernel_rfl) (by kernel_rfl) (fun _ _ _ h => h) (Or.inl ⟨by rfl, ?_⟩) (by assumption) ?_
        rotate_left 1
        · (intro wS hSw; (try dsimp only at hSw); go_simp; try with_reducible rfl)
        try simp only [List.getElem_toArray, List.getElem_cons_zero, List.getElem_cons_succ, Act.put, List.setIfInBounds_toArray, List.set_cons_zero, List.set_cons_succ]
        refine wpAnyH_take (i := 6) (v := ?_) rfl (by kernel_rfl) (by kernel_rfl) (by kernel_rfl) (fun _ _ _ h => h) (Or.inl ⟨by rfl, ?_⟩) (by assumption) ?_
        rotate_left 1
        · (intro wS hSw; (try dsimp only at hSw); go_simp; try with_reducible rfl)
        try simp only [List.getElem_toArray, List.getElem_cons_zero, List.getElem_cons_succ, Act.put, List.setIfInBounds_toArray, List.set_cons_zero, List.set_cons_succ]
        refine wpAnyH_take (i := 7) (v := ?_) rfl (by kernel_rfl) (by kernel_rfl) (by kernel_rfl) (fun _ _ _ h => h) (Or.inl ⟨by rfl, ?_⟩) (by assumption) ?_
        rotate_left 1
        · (intro wS hSw; (try dsimp only at hSw); go_simp; try with_reducible rfl)
        try simp only [List.getElem_toArray, List.getElem_cons_zero, List.getElem_cons_succ, Act.put, List.setIfInBounds_toArray, List.set_cons_zero, List.set_cons_succ]
        refine wpAnyH_take (i := 8) (v := undef) rfl (by kernel_rfl) (by kernel_rfl) (by kernel_rfl) (fun _ _ _ h => h) (Or.inr ⟨by rfl, rfl⟩) (by assumption) ?_
        try simp only [List.getElem_toArray, List.getElem_cons_zero, List.getElem_cons_succ, Act.put, List.setIfInBounds_toArray, List.set_cons_zero, List.set_cons_succ]
        refine wpAnyH_take (i := 9) (v := undef) rfl (by kernel_rfl) (by kernel_rfl) (by kernel_rfl) (fun _ _ _ h => h) (Or.inr ⟨by rfl, rfl⟩) (by assumption) ?_
        try simp only [List.getElem_toArray, List.getElem_cons_zero, List.getElem_cons_succ, Act.put, List.setIfInBounds_toArray, List.set_cons_zero, List.set_cons_succ]
        refine wpAnyH_take (i := 10) (v := undef) rfl (by kernel_rfl) (by kernel_rfl) (by kernel_rfl) (fun _ _ _ h => h) (Or.inr ⟨by rfl, rfl⟩) (by assumption) ?_
        try simp only [List.getElem_toArray, List.getElem_cons_zero, List.getElem_cons_succ, Act.put, List.setIfInBounds_toArray, List.set_cons_zero, List.set_cons_succ]
        refine wpAnyH_take (i := 11) (v := undef) rfl (by kernel_rfl) (by kernel_rfl) (by kernel_rfl) (fun _ _ _ h => h) (Or.inr ⟨by rfl, rfl⟩) (by assumption) ?_
        try simp only [List.getElem_toArray, List.getElem_cons_zero, List.getElem_cons_succ, Act.put, List.setIfInBounds_toArray, List.set_cons_zero, List.set_cons_succ]
        refine wpAnyH_take (i := 12) (v := undef) rfl (by kernel_rfl) (by kernel_rfl) (by kernel_rfl) (fun _ _ _ h => h) (Or.inr ⟨by rfl, rfl⟩) (by assumption) ?_
        try simp only [List.getElem_toArray, List.getElem_cons_zero, List.getElem_cons_succ, Act.put, List.setIfInBounds_toArray, List.set_cons_zero, List.set_cons_succ]
        refine wpAnyH_take (i := 13) (v := undef) rfl (by kernel_rfl) (by kernel_rfl) (by kernel_rfl) (fun _ _ _ h => h) (Or.inr ⟨by rfl, rfl⟩) (by assumption) ?_
        try simp only [List.getElem_toArray, List.getElem_cons_zero, List.getElem_cons_succ, Act.put, List.setIfInBounds_toArray, List.set_cons_zero, List.set_cons_succ]
        refine wpAnyH_take (i := 14) (v := undef) rfl (by kernel_rfl) (by kernel_rfl) (by kernel_rfl) (fun _ _ _ h => h) (Or.inr ⟨by rfl, rfl⟩) (by assumption) ?_
        try simp only [List.getElem_toArray, List.getElem_cons_zero, List.getElem_cons_succ, Act.put, List.setIfInBounds_toArray, List.set_cons_zero, List.set_cons_succ]
        refine wpAnyH_take (i := 15) (v := undef) rfl (by kernel_rfl) (by kernel_rfl) (by kernel_rfl) (fun _ _ _ h => h) (Or.inr ⟨by rfl, rfl⟩) (by assumption) ?_
        try simp only [List.getElem_toArray, List.getElem_cons_zero, List.getElem_cons_succ, Act.put, List.setIfInBounds_toArray, List.set_cons_zero, List.set_cons_succ]
        refine wpAnyH_take (i := 16) (v := undef) rfl (by kernel_rfl) (by kernel_rfl) (by kernel_rfl) (fun _ _ _ h => h) (Or.inr ⟨by rfl, rfl⟩) (by assumption) ?_
        try simp only [List.getElem_toArray, List.getElem_cons_zero, List.getElem_cons_succ, Act.put, List.setIfInBounds_toArray, List.set_cons_zero, List.set_cons_succ]
        refine wpAnyH_take (i := 17) (v := ?_) rfl (by kernel_rfl) (by kernel_rfl) (by kernel_rfl) (fun _ _ _ h => h) (Or.inl ⟨by rfl, ?_⟩) (by assumption) ?_
        rotate_left 1
        · (intro wS hSw; (try dsimp only at hSw); go_simp; try with_reducible rfl)
        try simp only [List.getElem_toArray, List.getElem_cons_zero, List.getElem_cons_succ, Act.put, List.setIfInBounds_toArray, List.set_cons_zero, List.set_cons_succ]
        refine wpAnyH_take (i := 18) (v := ?_) rfl (by kernel_rfl) (by kernel_rfl) (by kernel_rfl) (fun _ _ _ h => h) (Or.inl ⟨by rfl, ?_⟩) (by assumption) ?_
        rotate_left 1
        · (intro wS hSw; (try dsimp only at hSw); go_simp; try with_reducible rfl)
        try simp only [List.getElem_toArray, List.getElem_cons_zero, List.getElem_cons_succ, Act.put, List.setIfInBounds_toArray, List.set_cons_zero, List.set_cons_succ]
        refine wpAnyH_done (by kernel_rfl) ?_ _
        refine NoPanic.normal ?_
        go_wp2_with fail
        go_roundw
        case rel => exact ⟨j + 1, by go_num, by omega, HBW.out.trans ((HBC.out.trans (b2.mono HBC.out.size)).mono HBW.out.size)⟩
        case measure => simp [intOf]; omega
      · obtain ⟨p, hp⟩ : ∃ p, j = p + 1 := ⟨j - 1, by omega⟩
        have g0 : decide ((0 : Int) < (j : Int)) = true := by simp; omega
        have g0n : decide (0 < j) = true := by simp; omega
        have hw1 : IntKind.i64.wrap ((j : Int) - 1) = (p : Int) := by rw [IntKind.wrap_i64]; omega
        have hpi : (p : Int) < (K.length : Int) := by omega
        obtain ⟨b2', off2, e2, -, hcp⟩ := (HK.out.below (hbw0.trans (hbc.mono hbw0.size))).get p (by omega)
        cases e2
        have y0 := hcp 0 _ rfl; have y1 := hcp 1 _ rfl
        rw [Nat.add_zero] at y0
        have hasc := HOk.out.asc p (by omega)
        obtain ⟨⟨f', t'⟩, hx'⟩ : ∃ x, K.getD p (0, 0) = x := ⟨_, rfl⟩
        have hx'' : K[p]'(by omega) = (f', t') := by rw [← hx', List.getD, List.getElem?_eq_getElem (by omega)]; rfl
        have hxc : K.getD (p + 1) (0, 0) = ((fn : Int), t) := by rw [← hx, List.getD, List.getElem?_eq_getElem (by omega)]; simp only [hp]; rfl
        rw [hx', hxc] at hasc
        rw [hx''] at y0 y1
        dsimp only at y0 y1
        obtain ⟨oc, hoc⟩ : ∃ o, orderC (f', t') ((fn : Int), t) = o := ⟨_, rfl⟩
        rw [hoc] at hasc
        have hge : decide ((0 : Int) ≤ oc) = false := by simp; omega
        have HOc := Lib.hid hoc
        have lbc : b < Wc.heap.size := Nat.lt_of_lt_of_le lb hbc.size
        clear hs1 hq1 hc0 hs2 hq2 hbc c0 c1 hj0 hcp hx hx' hx'' hxc hoc hp hasc
        refine wp_region_noPanic ?_
        refine wp_region_held_drew (S := (fun w' => w'.cell? ⟨w.heap.size, 0, none⟩ = some (vf) ∧ w'.cell? ⟨w.heap.size, 1, none⟩ = some (vt) ∧ w'.cell? ⟨w.heap.size, 2, none⟩ = some (vn) ∧ w'.cell? ⟨w.heap.size, 3, none⟩ = some (vs) ∧ w'.cell? ⟨w.heap.size + 1, 0, none⟩ = some (.slice (some ⟨b, off, none⟩) K.length ck) ∧ w'.cell? ⟨wr.heap.size, 0, none⟩ = some (.int .i64 fn) ∧ w'.cell? ⟨wr.heap.size, 1, none⟩ = some (.int .i64 t) ∧ w'.cell? ⟨b, off + p * 2, none⟩ = some (.int .i64 f') ∧ w'.cell? ⟨b, off + p * 2 + 1, none⟩ = some (.int .i64 t'))) (by kernel_rfl) (⟨s0, s1, s2, s3, q0, k0, k1, y0, y1⟩) (fun hHeld => ?_)
        refine wpAnyH_take (i := 0) (v := ?_) rfl (by kernel_rfl) (by kernel_rfl) (by kernel_rfl) (fun _ _ _ h => h) (Or.inl ⟨by rfl, ?_⟩) (by assumption) ?_
        rotate_left 1
        · (intro wS hSw; (try dsimp only at hSw); go_simp; try with_reducible rfl)
        try simp only [List.getElem_toArray, List.getElem_cons_zero, List.getElem_cons_succ, Act.put, List.setIfInBounds_toArray, List.set_cons_zero, List.set_cons_succ]
        refine wpAnyH_take (i := 1) (v := ?_) rfl (by kernel_rfl) (by kernel_rfl) (by kernel_rfl) (fun _ _ _ h => h) (Or.inl ⟨by rfl, ?_⟩) (by assumption) ?_
        rotate_left 1
        · (intro wS hSw; (try dsimp only at hSw); go_simp; try with_reducible rfl)
        try simp only [List.getElem_toArray, List.getElem_cons_zero, List.getElem_cons_succ, Act.put, List.setIfInBounds_toArray, List.set_cons_zero, List.set_cons_succ]
        refine wpAnyH_ready (rs := [2]) (by kernel_rfl) (by simp) ?_
        refine AllReadyH.cons rfl (fun K hK => ?_) AllReadyH.nil
        go_simp
        refine (right_in S _ _ _ _ F fn t _ (HFC.out.below bD) (by omega) hn).mono ?_; rw [HFT.out]; rintro e w2 ⟨rfl, hb⟩; have b2 := bD.trans hb; clear hb
        refine hK.out _ _ (⟨(b2.cell (p := ⟨w.heap.size, 0, none⟩) ls).trans s0, (b2.cell (p := ⟨w.heap.size, 1, none⟩) ls).trans s1, (b2.cell (p := ⟨w.heap.size, 2, none⟩) ls).trans s2, (b2.cell (p := ⟨w.heap.size, 3, none⟩) ls).trans s3, (b2.cell (p := ⟨w.heap.size + 1, 0, none⟩) lq).trans q0, (b2.cell (p := ⟨wr.heap.size, 0, none⟩) lc).trans k0, (b2.cell (p := ⟨wr.heap.size, 1, none⟩) lc).trans k1, (b2.cell (p := ⟨b, off + p * 2, none⟩) lbc).trans y0, (b2.cell (p := ⟨b, off + p * 2 + 1, none⟩) lbc).trans y1⟩) (fun hHeld => ?_)
        clear hK K
        try simp only [List.getElem_toArray, List.getElem_cons_zero, List.getElem_cons_succ, Act.put, List.setIfInBounds_toArray, List.set_cons_zero, List.set_cons_succ]
        refine wpAnyH_take (i := 3) (v := ?_) rfl (by kernel_rfl) (by kernel_rfl) (by kernel_rfl) (fun _ _ _ h => h) (Or.inl ⟨by rfl, ?_⟩) (by assumption) ?_
        rotate_left 1
        · (intro wS hSw; (try dsimp only at hSw); go_simp; try with_reducible rfl)
        try simp only [List.getElem_toArray, List.getElem_cons_zero, List.getElem_cons_succ, Act.put, List.setIfInBounds_toArray, List.set_cons_zero, List.set_cons_succ]
        refine wpAnyH_take (i := 4) (v := ?_) rfl (by kernel_rfl) (by kernel_rfl) (by kernel_rfl) (fun _ _ _ h => h) (Or.inl ⟨by rfl, ?_⟩) (by assumption) ?_
        rotate_left 1
        · (intro wS hSw; (try dsimp only at hSw); go_simp; try with_reducible rfl)
        try simp only [List.getElem_toArray, List.getElem_cons_zero, List.getElem_cons_succ, Act.put, List.setIfInBounds_toArray, List.set_cons_zero, List.set_cons_succ]
        refine wpAnyH_take (i := 5) (v := ?_) rfl (by kernel_rfl) (by kernel_rfl) (by kernel_rfl) (fun _ _ _ h => h) (Or.inl ⟨by rfl, ?_⟩) (by assumption) ?_
        rotate_left 1
        · (intro wS hSw; (try dsimp only at hSw); go_simp; try with_reducible rfl)
        try simp only [List.getElem_toArray, List.getElem_cons_zero, List.getElem_cons_succ, Act.put, List.setIfInBounds_toArray, List.set_cons_zero, List.set_cons_succ]
        refine wpAnyH_take (i := 6) (v := ?_) rfl (by kernel_rfl) (by kernel_rfl) (by kernel_rfl) (fun _ _ _ h => h) (Or.inl ⟨by rfl, ?_⟩) (by assumption) ?_
        rotate_left 1
        · (intro wS hSw; (try dsimp only at hSw); go_simp; try with_reducible rfl)
        try simp only [List.getElem_toArray, List.getElem_cons_zero, List.getElem_cons_succ, Act.put, List.setIfInBounds_toArray, List.set_cons_zero, List.set_cons_succ]
        refine wpAnyH_take (i := 7) (v := ?_) rfl (by kernel_rfl) (by kernel_rfl) (by kernel_rfl) (fun _ _ _ h => h) (Or.inl ⟨by rfl, ?_⟩) (by assumption) ?_
        rotate_left 1
        · (intro wS hSw; (try dsimp only at hSw); go_simp; try with_reducible rfl)
        try simp only [List.getElem_toArray, List.getElem_cons_zero, List.getElem_cons_succ, Act.put, List.setIfInBounds_toArray, List.set_cons_zero, List.set_cons_succ]
        refine wpAnyH_take (i := 8) (v := ?_) rfl (by kernel_rfl) (by kernel_rfl) (by kernel_rfl) (fun _ _ _ h => h) (Or.inl ⟨by rfl, ?_⟩) (by assumption) ?_
        rotate_left 1
        · (intro wS hSw; (try dsimp only at hSw); go_simp; try with_reducible rfl)
        try simp only [List.getElem_toArray, List.getElem_cons_zero, List.getElem_cons_succ, Act.put, List.setIfInBounds_toArray, List.set_cons_zero, List.set_cons_succ]
        refine wpAnyH_take (i := 9) (v := ?_) rfl (by kernel_rfl) (by kernel_rfl) (by kernel_rfl) (fun _ _ _ h => h) (Or.inl ⟨by rfl, ?_⟩) (by assumption) ?_
        rotate_left 1
        · (intro wS hSw; (try dsimp only at hSw); go_simp; try with_reducible rfl)
        try simp only [List.getElem_toArray, List.getElem_cons_zero, List.getElem_cons_succ, Act.put, List.setIfInBounds_toArray, List.set_cons_zero, List.set_cons_succ]
        refine wpAnyH_take (i := 10) (v := ?_) rfl (by kernel_rfl) (by kernel_rfl) (by kernel_rfl) (fun _ _ _ h => h) (Or.inl ⟨by rfl, ?_⟩) (by assumption) ?_
        rotate_left 1
        · (intro wS hSw; (try dsimp only at hSw); go_simp; try with_reducible rfl)
        try simp only [List.getElem_toArray, List.getElem_cons_zero, List.getElem_cons_succ, Act.put, List.setIfInBounds_toArray, List.set_cons_zero, List.set_cons_succ]
        refine wpAnyH_take (i := 11) (v := ?_) rfl (by kernel_rfl) (by kernel_rfl) (by kernel_rfl) (fun _ _ _ h => h) (Or.inl ⟨by rfl, ?_⟩) (by assumption) ?_
        rotate_left 1
        · (intro wS hSw; (try dsimp only at hSw); go_simp; try with_reducible rfl)
        try simp only [List.getElem_toArray, List.getElem_cons_zero, List.getElem_cons_succ, Act.put, List.setIfInBounds_toArray, List.set_cons_zero, List.set_cons_succ]
        refine wpAnyH_take (i := 12) (v := ?_) rfl (by kernel_rfl) (by kernel_rfl) (by kernel_rfl) (fun _ _ _ h => h) (Or.inl ⟨by rfl, ?_⟩) (by assumption) ?_
        rotate_left 1
        · (intro wS hSw; (try dsimp only at hSw); go_simp; try with_reducible rfl)
        try simp only [List.getElem_toArray, List.getElem_cons_zero, List.getElem_cons_succ, Act.put, List.setIfInBounds_toArray, List.set_cons_zero, List.set_cons_succ]
        refine wpAnyH_take (i := 13) (v := ?_) rfl (by kernel_rfl) (by kernel_rfl) (by kernel_rfl) (fun _ _ _ h => h) (Or.inl ⟨by rfl, ?_⟩) (by assumption) ?_
        rotate_left 1
        · (intro wS hSw; (try dsimp only at hSw); go_simp; try with_reducible rfl)
        try simp only [List.getElem_toArray, List.getElem_cons_zero, List.getElem_cons_succ, Act.put, List.setIfInBounds_toArray, List.set_cons_zero, List.set_cons_succ]
        refine wpAnyH_take (i := 14) (v := ?_) rfl (by kernel_rfl) (by kernel_rfl) (by kernel_rfl) (fun _ _ _ h => h) (Or.inl ⟨by rfl, ?_⟩) (by assumption) ?_
        rotate_left 1
        · (intro wS hSw; (try dsimp only at hSw); go_simp; try with_reducible rfl)
        try simp only [List.getElem_toArray, List.getElem_cons_zero, List.getElem_cons_succ, Act.put, List.setIfInBounds_toArray, List.set_cons_zero, List.set_cons_succ]
        refine wpAnyH_ready (rs := [15]) (by kernel_rfl) (by simp) ?_
        refine AllReadyH.cons rfl (fun K hK => ?_) AllReadyH.nil
        go_simp
        refine (order_any (f', t') ((fn : Int), t) _).mono ?_; rw [HOc.out]; rintro e w3 ⟨rfl, hb⟩; have b3 := b2.trans (hb.mono b2.size); clear hb
        refine hK.out _ _ (⟨(b3.cell (p := ⟨w.heap.size, 0, none⟩) ls).trans s0, (b3.cell (p := ⟨w.heap.size, 1, none⟩) ls).trans s1, (b3.cell (p := ⟨w.heap.size, 2, none⟩) ls).trans s2, (b3.cell (p := ⟨w.heap.size, 3, none⟩) ls).trans s3, (b3.cell (p := ⟨w.heap.size + 1, 0, none⟩) lq).trans q0, (b3.cell (p := ⟨wr.heap.size, 0, none⟩) lc).trans k0, (b3.cell (p := ⟨wr.heap.size, 1, none⟩) lc).trans k1, (b3.cell (p := ⟨b, off + p * 2, none⟩) lbc).trans y0, (b3.cell (p := ⟨b, off + p * 2 + 1, none⟩) lbc).trans y1⟩) (fun hHeld => ?_)
        clear hK K
        try simp only [List.getElem_toArray, List.getElem_cons_zero, List.getElem_cons_succ, Act.put, List.setIfInBounds_toArray, List.set_cons_zero, List.set_cons_succ]
        refine wpAnyH_take (i := 16) (v := ?_) rfl (by kernel_rfl) (by kernel_rfl) (by kernel_rfl) (fun _ _ _ h => h) (Or.inl ⟨by rfl, ?_⟩) (by assumption) ?_
        rotate_left 1
        · (intro wS hSw; (try dsimp only at hSw); go_simp; try with_reducible rfl)
        try simp only [List.getElem_toArray, List.getElem_cons_zero, List.getElem_cons_succ, Act.put, List.setIfInBounds_toArray, List.set_cons_zero, List.set_cons_succ]
        refine wpAnyH_take (i := 17) (v := ?_) rfl (by kernel_rfl) (by kernel_rfl) (by kernel_rfl) (fun _ _ _ h => h) (Or.inl ⟨by rfl, ?_⟩) (by assumption) ?_
        rotate_left 1
        · (intro wS hSw; (try dsimp only at hSw); go_simp; try with_reducible rfl)
        try simp only [List.getElem_toArray, List.getElem_cons_zero, List.getElem_cons_succ, Act.put, List.setIfInBounds_toArray, List.set_cons_zero, List.set_cons_succ]
        refine wpAnyH_take (i := 18) (v := ?_) rfl (by kernel_rfl) (by kernel_rfl) (by kernel_rfl) (fun _ _ _ h => h) (Or.inl ⟨by rfl, ?_⟩) (by assumption) ?_
        rotate_left 1
        · (intro wS hSw; (try dsimp only at hSw); go_simp; try with_reducible rfl)
        try simp only [List.getElem_toArray, List.getElem_cons_zero, List.getElem_cons_succ, Act.put, List.setIfInBounds_toArray, List.set_cons_zero, List.set_cons_succ]
        refine wpAnyH_done (by kernel_rfl) ?_ _
        refine NoPanic.normal ?_
        go_wp2_with fail
        go_roundw
        case rel => exact ⟨j + 1, by go_num, by omega, HBW.out.trans ((HBC.out.trans (b3.mono HBC.out.size)).mono HBW.out.size)⟩
        case measure => simp [intOf]; omega
    · have hq : decide ((j : Int) < (K.length : Int)) = false := by simp; omega
      go_wp2_with fail
      go_ret
      exact ⟨rfl, HB0.out.trans (hbw.mono HB0.out.size)⟩
end Go.Proofs.YtdckkggmmakfiaaGreatDoor
end
section
/- bloom, the program's: Encode. -/
set_option linter.unusedSimpArgs false
set_option linter.unusedVariables false
set_option maxRecDepth 100000
namespace Go.Proofs.YtdckkggmmakfiaaGreatDoor
open Go.RowKit
theorem fl_u : ∀ l : List Int, l.flatMap encU = l.map (Value.int .u64) := by
  intro l; induction l with
  | nil => rfl
  | cons a l ih => simp only [List.flatMap_cons, List.map_cons, ih]; rfl
theorem word_cell {w : World} {g : Nat} {t : TypeId} {fr : Nat × Nat} {W : List Int} (h : w.heap[g]? = some (.cells (W.flatMap encU).toArray t fr)) (q : Nat) (hq : q < W.length) : w.cell? ⟨g, q, none⟩ = some (.int .u64 (W.getD q 0)) := by
  rw [cell_of_row _ _ _ _ _ _ h, fl_u, List.getElem?_toArray, List.getElem?_map, List.getElem?_eq_getElem hq, List.getD, List.getElem?_eq_getElem hq]; rfl
theorem word_set (W : List Int) (q : Nat) (x : Int) : ((W.flatMap encU).toArray).setIfInBounds q (.int .u64 x) = ((W.set q x).flatMap encU).toArray := by
  rw [fl_u, fl_u, List.setIfInBounds_toArray, List.map_set]
theorem fun_cellU {w : World} {gb : Nat} {t : TypeId} {fr : Nat × Nat} {L : List Int} (hr : w.heap[gb]? = some (.cells (L.flatMap encU).toArray t fr)) {i : Nat} {x : Int} (hi : L[i]? = some x) {u : Nat} {v : Value} (hu : (encU x)[u]? = some v) : w.cell? ⟨gb, 0 + i * 1 + u, none⟩ = some v := by
  rw [cell_of_row _ _ _ _ _ _ hr, Nat.zero_add, List.getElem?_toArray]
  have hul : u < 1 := (List.getElem?_eq_some_iff.1 hu).1
  rw [flat_get (enc := encU) (fun _ => rfl) L i x hi u hul]; exact hu
def EncodePost (b : BitsL) (w : World) (e : Ending) (w' : World) : Prop := ∃ v, e = .returned (.tuple #[v, .int .i64 0]) ∧ BitsAt w' (fun x => w.heap.size ≤ x) v b ∧ Below w.heap.size w w'
end Go.Proofs.YtdckkggmmakfiaaGreatDoor
end
section
/-
  DERIVED: THE SHELF's CONTRACTS AT THIS DUMP, IN PLAIN WORDS (tools/lay-plain.mjs out of 'TryzShelf.lean', which tools/lay-shelf.mjs wrote): THE SAME DECLARATIONS UNDER THE SAME NAMES: 'import', 'namespace', 'open', 'def', 'theorem' AND NOTHING ELSE: no command of the shelf's: FOR A HAND-IN. Each laying: the table of numbers ('.._ren') and one theorem, a field a fact of the dump's own or the kernel's comparison; each contract: ONE APPLICATION.
-/
namespace Go.Proofs
open Go.Shelf
def Tryz.lays171_ren : Go.Shelf.Ren := ⟨fun | 171 => 50 | 243 => 80 | 246 => 118 | 283 => 136 | 284 => 137 | 285 => 138 | 286 => 139 | 129 => 157 | 317 => 156 | 318 => 158 | 319 => 159 | 320 => 160 | 337 => 171 | 338 => 172 | n => n, fun | 3 => 3 | 9 => 9 | 2 => 2 | 4 => 4 | 171 => 166 | 0 => 0 | 53 => 37 | 37 => 84 | 5 => 5 | 173 => 169 | 212 => 176 | 51 => 177 | 20 => 20 | 213 => 178 | 46 => 85 | 232 => 205 | 233 => 206 | n => n, fun | 17 => 0 | 18 => 1 | 19 => 2 | n => n⟩
theorem Tryz.lays171 : Go.Proofs.Lays.n171 Tryz.prog Tryz.lays171_ren := {
  mixed := by kernel_rfl
  f129 := Tryz.func157.trans (congrArg some (by kernel_rfl))
  f171 := Tryz.func50.trans (congrArg some (by kernel_rfl))
  f243 := Tryz.func80.trans (congrArg some (by kernel_rfl))
  f246 := Tryz.func118.trans (congrArg some (by kernel_rfl))
  f283 := Tryz.func136.trans (congrArg some (by kernel_rfl))
  f284 := Tryz.func137.trans (congrArg some (by kernel_rfl))
  f285 := Tryz.func138.trans (congrArg some (by kernel_rfl))
  f286 := Tryz.func139.trans (congrArg some (by kernel_rfl))
  f317 := Tryz.func156.trans (congrArg some (by kernel_rfl))
  f318 := Tryz.func158.trans (congrArg some (by kernel_rfl))
  f319 := Tryz.func159.trans (congrArg some (by kernel_rfl))
  f320 := Tryz.func160.trans (congrArg some (by kernel_rfl))
  f337 := Tryz.func171.trans (congrArg some (by kernel_rfl))
  f338 := Tryz.func172.trans (congrArg some (by kernel_rfl))
  t0 := Tryz.underlying0
  a0 := Tryz.isAgg0
  z0 := Tryz.sizeOf0
  v0 := Tryz.zeroValue0
  t2 := Tryz.underlying2
  a2 := Tryz.isAgg2
  z2 := Tryz.sizeOf2
  v2 := Tryz.zeroValue2
  t3 := Tryz.underlying3
  a3 := Tryz.isAgg3
  z3 := Tryz.sizeOf3
  v3 := Tryz.zeroValue3
  t4 := Tryz.underlying4
  a4 := Tryz.isAgg4
  z4 := Tryz.sizeOf4
  v4 := Tryz.zeroValue4
  t5 := Tryz.underlying5
  a5 := Tryz.isAgg5
  z5 := Tryz.sizeOf5
  v5 := Tryz.zeroValue5
  t9 := Tryz.underlying9
  a9 := Tryz.isAgg9
  z9 := Tryz.sizeOf9
  v9 := Tryz.zeroValue9
  t20 := Tryz.underlying20
  a20 := Tryz.isAgg20
  z20 := Tryz.sizeOf20
  v20 := Tryz.zeroValue20
  t37 := Tryz.underlying84
  a37 := Tryz.isAgg84
  z37 := Tryz.sizeOf84
  v37 := Tryz.zeroValue84
  t46 := Tryz.underlying85
  a46 := Tryz.isAgg85
  z46 := Tryz.sizeOf85
  v46 := Tryz.zeroValue85
  t51 := Tryz.underlying177
  a51 := Tryz.isAgg177
  z51 := Tryz.sizeOf177
  v51 := Tryz.zeroValue177
  t53 := Tryz.underlying37
  a53 := Tryz.isAgg37
  z53 := Tryz.sizeOf37
  v53 := Tryz.zeroValue37
  t171 := Tryz.underlying166
  a171 := Tryz.isAgg166
  z171 := Tryz.sizeOf166
  v171 := Tryz.zeroValue166
  t173 := Tryz.underlying169
  a173 := Tryz.isAgg169
  z173 := Tryz.sizeOf169
  v173 := Tryz.zeroValue169
  t212 := Tryz.underlying176
  a212 := Tryz.isAgg176
  z212 := Tryz.sizeOf176
  v212 := Tryz.zeroValue176
  t213 := Tryz.underlying178
  a213 := Tryz.isAgg178
  z213 := Tryz.sizeOf178
  t232 := Tryz.underlying205
  a232 := Tryz.isAgg205
  z232 := Tryz.sizeOf205
  v232 := Tryz.zeroValue205
  t233 := Tryz.underlying206
  a233 := Tryz.isAgg206
  z233 := Tryz.sizeOf206
  v233 := Tryz.zeroValue206
  g17 := by kernel_rfl
  g18 := by kernel_rfl
  g19 := by kernel_rfl }
open Go.RowKit Go.Sort Go.Lib in
/-- THE ROAD WITHOUT THE TABLE: 0 <= i < 100: NO PREMISE ON THE WORLD, AND THE WORLD IS AS IT WAS: a row that keeps its argument in that range need list no table ('laid = []'). (LAID: no walk: one application.) -/
theorem Tryz.strconv_Itoa_small (i : Nat) (hi : i < 100) (w : World) :
    Calls Tryz.prog 50 #[.int .i64 i] w fun e w' => e = .returned (.string ⟨(Lib.decDigits i).toArray⟩) ∧ w' = w := Any.strconv_Itoa_small Tryz.lays171 i hi w
end Go.Proofs
end
section
/- encode, the program's: the key of a field. -/
set_option linter.unusedSimpArgs false
set_option linter.unusedVariables false
set_option maxRecDepth 100000
namespace Go.Proofs.YtdckkggmmakfiaaGreatDoor
open Go.RowKit
attribute [local go_sem] toList_mk mk_size str_append
theorem digs_len (i : Nat) (h : i < 100) : (Lib.decDigits i).length ≤ 2 := by
  have : ∀ j : Fin 100, (Lib.decDigits j).length ≤ 2 := by decide +kernel
  exact this ⟨i, h⟩
def optC (i : Int) (b : Bool) (s : List UInt8) : Array Value := #[.int .i64 i, .bool b, strV s]
end Go.Proofs.YtdckkggmmakfiaaGreatDoor
end
section
/- encode, the program's: the array of a field. -/
set_option linter.unusedSimpArgs false
set_option linter.unusedVariables false
set_option maxRecDepth 100000
namespace Go.Proofs.YtdckkggmmakfiaaGreatDoor
open Go.RowKit Cal
attribute [local go_sem] toList_mk mk_size str_append
theorem vec_str {w : World} {S : Nat → Prop} {a : Option Addr} {n cap : Nat} {L : List (List UInt8)} (h : Vec w S 1 encS (.slice a n cap) L) (j : Nat) (hj : j < L.length) : ∃ b off, a = some ⟨b, off, none⟩ ∧ b < w.heap.size ∧ w.cell? ⟨b, off + j, none⟩ = some (strV (L.getD j [])) := by
  obtain ⟨b, off, e, hb, hc⟩ := h.get j hj
  refine ⟨b, off, e, hb, ?_⟩
  have := hc 0 _ rfl
  rw [Nat.mul_one, Nat.add_zero] at this
  rw [List.getD, List.getElem?_eq_getElem hj]; exact this
def FieldPost (b : BitsL) (w : World) (e : Ending) (w' : World) : Prop := ∃ v, e = .returned (.tuple #[v, .int .i64 0]) ∧ BitsAt w' (fun x => w.heap.size ≤ x) v b ∧ Below w.heap.size w w'
end Go.Proofs.YtdckkggmmakfiaaGreatDoor
end
section
/- encode, the program's: the arrays of a record. -/
set_option linter.unusedSimpArgs false
set_option linter.unusedVariables false
set_option maxRecDepth 100000
namespace Go.Proofs.YtdckkggmmakfiaaGreatDoor
open Go.RowKit Cal
attribute [local go_sem] toList_mk mk_size str_append
/-- where the function stands that encoded hands on: what it has captured -/
structure CapAt (sb kb rb : Nat) (vf vt vn vs : Value) (s : SchemaL) (k : Int × Int) (id ver : Int) (sv : Value) (vals : List (List UInt8)) (w : World) : Prop where
  bs : w.heap[sb]? = some (.cells #[vf, vt, vn, vs] 33 (0, 0))
  bk : w.heap[kb]? = some (.cells #[.int .u64 k.1, .int .u64 k.2] 39 (0, 0))
  br : w.heap[rb]? = some (.cells #[.int .i64 id, .int .i64 ver, sv] 45 (0, 0))
  sch : SchemaAt w Any1 vf vt vn vs s
  val : Vec w Any1 1 encS sv vals
theorem CapAt.below {sb kb rb : Nat} {vf vt vn vs : Value} {s : SchemaL} {k : Int × Int} {id ver : Int} {sv : Value} {vals : List (List UInt8)} {w w' : World} (h : CapAt sb kb rb vf vt vn vs s k id ver sv vals w) (hb : Below w.heap.size w w') : CapAt sb kb rb vf vt vn vs s k id ver sv vals w' :=
  ⟨blk_below hb (lt_of_blk h.bs) h.bs, blk_below hb (lt_of_blk h.bk) h.bk, blk_below hb (lt_of_blk h.br) h.br, h.sch.below hb, h.val.below hb⟩
/-- the cells of parameters; of an array -/
abbrev encPar (p : ParL) : List Value := [.int .i64 p.len, .int .i64 p.hashes, .int .i64 p.salt]
structure BV where
  len : Int
  a : Option Addr
  n : Nat
  c : Nat
abbrev encBV (x : BV) : List Value := [.int .i64 x.len, .slice x.a x.n x.c]
/-- arrays whose words lie in blocks of S -/
def BitsAll (w : World) (S : Nat → Prop) (C : List BV) (L : List BitsL) : Prop := C.length = L.length ∧ ∀ n (h1 : n < C.length) (h2 : n < L.length), BitsAt w S (.agg (encBV C[n]).toArray) L[n]
theorem BitsAt.below {w w' : World} {S : Nat → Prop} {v : Value} {b : BitsL} (h : BitsAt w S v b) (hb : Below w.heap.size w w') : BitsAt w' S v b := by
  obtain ⟨s, rfl, hv⟩ := h; exact ⟨s, rfl, hv.below hb⟩
theorem BitsAll.below {w w' : World} {S : Nat → Prop} {C : List BV} {L : List BitsL} (h : BitsAll w S C L) (hb : Below w.heap.size w w') : BitsAll w' S C L := ⟨h.1, fun n h1 h2 => (h.2 n h1 h2).below hb⟩
theorem BitsAll.snoc {w : World} {S : Nat → Prop} {C : List BV} {L : List BitsL} {c : BV} {b : BitsL} (h : BitsAll w S C L) (hc : BitsAt w S (.agg (encBV c).toArray) b) : BitsAll w S (C ++ [c]) (L ++ [b]) := by
  refine ⟨by simp [h.1], fun n h1 h2 => ?_⟩
  by_cases hn : n < C.length
  · rw [List.getElem_append_left hn, List.getElem_append_left (by rw [← h.1]; exact hn)]; exact h.2 n _ _
  · have : n = C.length := by simp at h1; omega
    subst this
    rw [List.getElem_append_right (Nat.le_refl _), List.getElem_append_right (by rw [h.1]; exact Nat.le_refl _)]
    simpa using hc
theorem one_encBV : ∀ (x : BV), ∀ u ∈ encBV x, u.oneCell' = true := by
  intro x u hu; simp at hu; rcases hu with rfl | rfl <;> rfl
theorem BitsAt.form {w : World} {S : Nat → Prop} {v : Value} {b : BitsL} (h : BitsAt w S v b) : ∃ c : BV, v = .agg (encBV c).toArray ∧ BitsAt w S (.agg (encBV c).toArray) b := by
  obtain ⟨s, rfl, hv⟩ := h
  obtain ⟨a, cap, rfl⟩ := hv.slice
  exact ⟨⟨b.len, a, _, cap⟩, rfl, _, rfl, hv⟩
theorem BitsAt.weaken {w : World} {S T : Nat → Prop} {v : Value} {b : BitsL} (h : BitsAt w S v b) (hS : ∀ x, S x → T x) : BitsAt w T v b := by
  obtain ⟨s, rfl, hv⟩ := h
  exact ⟨s, rfl, hv.move (Nat.le_refl _) fun x _ hx => ⟨rfl, hS x hx⟩⟩
theorem BitsAt.move {w w' : World} {S : Nat → Prop} {v : Value} {b : BitsL} (h : BitsAt w S v b) (hz : w.heap.size ≤ w'.heap.size) (hS : ∀ x, x < w.heap.size → S x → w'.heap[x]? = w.heap[x]?) : BitsAt w' S v b := by
  obtain ⟨s, rfl, hv⟩ := h
  exact ⟨s, rfl, hv.move hz fun x h1 h2 => ⟨hS x h1 h2, h2⟩⟩
theorem BitsAll.weaken {w : World} {S T : Nat → Prop} {C : List BV} {L : List BitsL} (h : BitsAll w S C L) (hS : ∀ x, S x → T x) : BitsAll w T C L := ⟨h.1, fun n h1 h2 => (h.2 n h1 h2).weaken hS⟩
theorem BitsAll.move {w w' : World} {S T : Nat → Prop} {C : List BV} {L : List BitsL} (h : BitsAll w S C L) (hz : w.heap.size ≤ w'.heap.size) (hS : ∀ x, x < w.heap.size → S x → w'.heap[x]? = w.heap[x]? ∧ T x) : BitsAll w' T C L :=
  ⟨h.1, fun n h1 h2 => by obtain ⟨s, e, hv⟩ := h.2 n h1 h2; exact ⟨s, e, hv.move hz hS⟩⟩
/-- fields' arrays from field j on -/
def fieldsN (s : SchemaL) (P : List ParL) (k : Int × Int) (vals : List (List UInt8)) (n : Nat) : List BitsL := (List.range n).map fun i => fieldN s (P.getD i default) k vals i
theorem fieldsN_succ (s : SchemaL) (P : List ParL) (k : Int × Int) (vals : List (List UInt8)) (n : Nat) : fieldsN s P k vals (n + 1) = fieldsN s P k vals n ++ [fieldN s (P.getD n default) k vals n] := by
  unfold fieldsN; rw [List.range_succ, List.map_append]; rfl
/-- a slice of arrays -/
def BitsVec (w : World) (S : Nat → Prop) (v : Value) (L : List BitsL) : Prop := ∃ C, Vec w S 2 encBV v C ∧ BitsAll w S C L
def EachPost (L : List BitsL) (w : World) (e : Ending) (w' : World) : Prop := ∃ v, e = .returned (.tuple #[v, .int .i64 0]) ∧ BitsVec w' (fun x => w.heap.size ≤ x) v L ∧ Below w.heap.size w w'
end Go.Proofs.YtdckkggmmakfiaaGreatDoor
end
