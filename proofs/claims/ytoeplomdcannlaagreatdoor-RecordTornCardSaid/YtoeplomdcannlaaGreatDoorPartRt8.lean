/- Parts of one proof: EbVars, FilePlain, HexNum, Shelf4, PhonB, HexA, RecSum, RecFile, RecNum, HexB, EncI, EncJ, RecParse, RecTake, RoundRegion, ReadInv. -/
import Derived.Test.YtoeplomdcannlaaGreatDoorPartRt7
import Derived.Lib.AtoiTie
import Derived.Lib.LaidTab
import Derived.Lib.AtoiErrMem
import Derived.WalkArith
import Derived.Laws.IdiomStrings
import Derived.MapKept
import Derived.WideMake
import Derived.Shelf.Strings.SlTrimAscii
import Derived.OrdersIn
import Derived.TacticsIn
set_option linter.unusedSimpArgs false
set_option linter.unusedVariables false
namespace Go.Proofs.YtoeplomdcannlaaGreatDoor
section
set_option maxRecDepth 100000
open Go.RowKit
def IfaceAt (w : World) (g : Nat) : Prop := ∃ ev, w.cell? ⟨g, 0, none⟩ = some ev ∧ (ev = .nilIface ∨ ∃ te pe, ev = .iface te pe)
theorem IfaceAt.old {w w' : World} {g : Nat} (h : IfaceAt w g) (hb : Below w.heap.size w w') : IfaceAt w' g := by
  obtain ⟨ev, h1, h2⟩ := h
  exact ⟨ev, (hb.cell (p := ⟨g, 0, none⟩) (World.block_lt_of_cell? _ ⟨_, 0, none⟩ h1)).trans h1, h2⟩
/-- what the library's variables hold -/
structure VarsAt (w : World) : Prop where
  tab : Lib.TabIs Tryz.prog w "internal/strconv.uint64pow10" .u64 Lib.pow10Tab
  e0 : IfaceAt w (Tryz.laysC172_ren.g 15)
  e1 : IfaceAt w (Tryz.laysC172_ren.g 16)
  m : MaxAt w
theorem tab_old {w w' : World} {n : String} {k : IntKind} {zs : List Int} (h : Lib.TabIs Tryz.prog w n k zs) (hb : Below w.heap.size w w') : Lib.TabIs Tryz.prog w' n k zs := by
  unfold Lib.TabIs World.var? at h ⊢
  cases hg : Tryz.prog.globalNamed n with
  | none => simp [hg] at h
  | some g =>
    simp only [hg, Option.bind_some] at h ⊢
    rw [← h]
    have hlt : g < w.heap.size := by
      rcases Nat.lt_or_ge g w.heap.size with h' | h'
      · exact h'
      · simp [Array.getElem?_eq_none h'] at h
    rw [hb.block g hlt]
theorem VarsAt.old {w w' : World} (h : VarsAt w) (hb : Below w.heap.size w w') : VarsAt w' := ⟨tab_old h.tab hb, h.e0.old hb, h.e1.old hb, h.m.old hb⟩
theorem below_growR (w : World) (k : Nat) (os : Array Obj) : Below w.heap.size w (Sort.grow (w.drewN k) os) := by
  refine ((below_drewN (Below.refl _ w) k).trans ?_)
  exact ⟨rfl, rfl, rfl, by simp [Sort.grow, World.drewN], fun i hi => by
    have hi' : i < (w.drewN k).heap.size := by simpa [World.drewN] using hi
    simp only [Sort.grow]
    rw [Array.getElem?_append_left hi']⟩
/-- Itoa at a number that is not negative -/
theorem itoa_any (n : Nat) (hn : n ≤ 9223372036854775807) (w : World) (hv : VarsAt w) : Calls Tryz.prog 50 #[.int .i64 n] w fun e w' => e = .returned (strV (Lib.decDigits n)) ∧ Below w.heap.size w w' := by
  refine (Tryz.strconv_Itoa (n : Int) (by omega) (by omega) w hv.tab).mono ?_
  rintro e w' ⟨rfl, k, os, rfl⟩
  refine ⟨by rw [Lib.itoa_nonneg], below_growR _ _ _⟩
def atoiV (t : List UInt8) : Int := match Lib.atoiAll t with
  | .ok v => v
  | .range => Lib.atoiSat t
  | _ => 0
theorem atoiV_digits {n : Nat} (h : n < 10000000) : atoiV (Lib.decDigits n) = n := by
  have hl : (Lib.decDigits n).length ≤ 18 := Nat.le_trans (dec_most (k := 7) (by decide) (by simpa using h)) (by decide)
  unfold atoiV
  rw [Lib.atoiAll_short _ hl, atoi_digits]
  rfl
end
section
set_option maxRecDepth 100000
open Go.RowKit Cal
/-- the line of a record -/
def lineR (r : RecL) : List UInt8 := joinC 9 (Lib.decDigits r.id.toNat :: Lib.decDigits r.ver.toNat :: r.vals)
/-- the checksum's digits -/
def sumT (t : List UInt8) : List UInt8 := hexN 16 (partsP 0 0 [t]).toNat
def rowR (r : RecL) : List UInt8 := lineR r ++ 9 :: sumT (lineR r)
def endS : List UInt8 := [101, 110, 100, 32]
def endR (n : Nat) : List UInt8 := endS ++ Lib.decDigits n
/-- rows, each with its line feed -/
def rowsT (X : List (List UInt8)) : List UInt8 := X.flatMap fun x => x ++ [10]
def fileR (R : List RecL) : List UInt8 := rowsT (R.map rowR ++ [endR R.length])
/-- a text is the number that Atoi reads of it -/
def isNum (t : List UInt8) : Bool := match Lib.atoiAll t with
  | .ok _ => true
  | _ => false
def numOk (t : List UInt8) : Bool := isNum t && (decide (t.length ≤ 7) && (decide (0 ≤ atoiV t) && (Lib.decDigits (atoiV t).toNat == t)))
def recW (W : List (List UInt8)) : RecL := ⟨atoiV (W.getD 0 []), atoiV (W.getD 1 []), W.drop 2⟩
/-- the record with a line, and the error -/
def parseW (s : SchemaL) (W : List (List UInt8)) : RecL × Int :=
  if W.length = s.fields.length + 2 then
    (if (numOk (W.getD 0 []) && numOk (W.getD 1 [])) = true then (if checkI s (recW W) = 0 then (recW W, 0) else (noRec, checkI s (recW W))) else (noRec, 14))
  else (noRec, 14)
def parseR (s : SchemaL) (t : List UInt8) : RecL × Int := parseW s (splC 9 [] t)
/-- a text cut at the last byte c -/
def cutLast (c : UInt8) : List UInt8 → Option (List UInt8 × List UInt8)
  | [] => none
  | x :: r => match cutLast c r with
    | some (a, b) => some (x :: a, b)
    | none => if x = c then some ([], r) else none
def digB (t : List UInt8) : Bool := (t.length == 16) && t.all fun c => (valH c).isSome
def lastId (l : List RecL) : Option Int := l.getLast?.map (·.id)
/-- the record of a row behind others, and the error -/
def takeN (s : SchemaL) (l : List RecL) (row : List UInt8) : RecL × Int :=
  match cutLast 9 row with
  | none => (noRec, 14)
  | some (a, b) =>
    if digB b = true then
      (if b = sumT a then
        (if (parseR s a).2 = 0 then
          (if l.length = 64 then (noRec, 1) else if notB (lastId l) (parseR s a).1.id = true then (noRec, 12) else ((parseR s a).1, 0))
        else (noRec, (parseR s a).2))
      else (noRec, 16))
    else (noRec, 14)
def isEnd (row : List UInt8) : Bool := decide (endS.length ≤ row.length) && (row.take endS.length == endS)
/-- what is read of rows, n bytes in all, behind records l that have at bytes -/
def readA (s : SchemaL) (n : Nat) : List RecL → Nat → List (List UInt8 × List UInt8) → List RecL × Nat × Int
  | l, at', [] => (l, at', 15)
  | l, at', (row, rest) :: q =>
    if isEnd row = true then (if row = endR l.length ∧ rest = [] then (l, n, 0) else (l, at', 14))
    else if (takeN s l row).2 = 0 then readA s n (l ++ [(takeN s l row).1]) (n - rest.length) q else (l, at', (takeN s l row).2)
def freadN (s : SchemaL) (t : List UInt8) : List RecL × Nat × Int := if checkS s = 0 then readA s t.length [] 0 (rowsL t) else ([], 0, checkS s)
theorem cutLast_no (c : UInt8) : ∀ b : List UInt8, c ∉ b → cutLast c b = none
  | [], _ => rfl
  | x :: r, h => by
    rw [cutLast, cutLast_no c r (fun e => h (List.mem_cons_of_mem _ e))]
    exact if_neg fun e => h (by rw [e]; exact List.mem_cons_self)
theorem cutLast_at (c : UInt8) (b : List UInt8) (h : c ∉ b) : ∀ a, cutLast c (a ++ c :: b) = some (a, b)
  | [] => by rw [List.nil_append, cutLast, cutLast_no c b h]; exact if_pos rfl
  | x :: a => by rw [List.cons_append, cutLast, cutLast_at c b h a]
theorem cutLast_some {c : UInt8} : ∀ {t a b : List UInt8}, cutLast c t = some (a, b) → t = a ++ c :: b ∧ c ∉ b
  | [], a, b, h => by cases h
  | x :: r, a, b, h => by
    rw [cutLast] at h
    split at h
    · next a' b' e =>
      cases h
      obtain ⟨h1, h2⟩ := cutLast_some e
      exact ⟨by rw [h1]; rfl, h2⟩
    · next e =>
      split at h
      · next hx =>
        cases h
        refine ⟨by rw [hx]; rfl, fun hm => ?_⟩
        obtain ⟨p, q, e1, h3⟩ : ∃ p q, r = p ++ c :: q ∧ c ∉ q := by
          clear e hx
          induction r with
          | nil => cases hm
          | cons y r ih =>
            by_cases hr : c ∈ r
            · obtain ⟨p, q, e1, h3⟩ := ih hr
              exact ⟨y :: p, q, by rw [e1]; rfl, h3⟩
            · rcases List.mem_cons.1 hm with h1 | h1
              · exact ⟨[], r, by rw [h1]; rfl, hr⟩
              · exact absurd h1 hr
        rw [e1, cutLast_at c q h3] at e
        cases e
      · cases h
theorem cutLast_none {c : UInt8} {t : List UInt8} (h : cutLast c t = none) : c ∉ t := by
  intro hm
  induction t with
  | nil => cases hm
  | cons x r ih =>
    rw [cutLast] at h
    split at h
    · cases h
    · next e =>
      split at h
      · cases h
      · next hx =>
        rcases List.mem_cons.1 hm with h1 | h1
        · exact hx h1.symm
        · exact ih e h1
theorem hexN_low (k : Nat) : ∀ n, ∀ c ∈ hexN k n, 48 ≤ c.toNat ∧ c.toNat ≤ 102 := by
  induction k with
  | zero => intro n c h; simp [hexN] at h
  | succ k ih =>
    intro n c h
    rw [hexN] at h
    rcases List.mem_append.1 h with h1 | h1
    · exact ih _ c h1
    · simp at h1; subst h1
      have : ∀ m : Fin 16, 48 ≤ (digH m.val).toNat ∧ (digH m.val).toNat ≤ 102 := by decide
      exact this ⟨n % 16, Nat.mod_lt _ (by decide)⟩
theorem hexN_dig (k : Nat) : ∀ n, (hexN k n).all (fun c => (valH c).isSome) = true := by
  induction k with
  | zero => intro n; rfl
  | succ k ih =>
    intro n
    rw [hexN, List.all_append, ih, Bool.true_and, List.all_cons, List.all_nil, Bool.and_true, valH_dig _ (Nat.mod_lt _ (by decide))]; rfl
theorem sumT_len (t : List UInt8) : (sumT t).length = 16 := hexN_len 16 _
theorem sumT_dig (t : List UInt8) : digB (sumT t) = true := by unfold digB; rw [sumT_len, Bool.and_eq_true]; exact ⟨rfl, hexN_dig 16 _⟩
theorem sumT_no {t : List UInt8} {c : UInt8} (hc : c.toNat < 48) : c ∉ sumT t := fun h => by have := hexN_low 16 _ c h; omega
theorem dec_no {n : Nat} {c : UInt8} (hc : c.toNat < 48) : c ∉ Lib.decDigits n := fun h => by have := dec_digit h; omega
/-- bytes of values in normal form -/
def inkB (c : UInt8) : Prop := 32 ≤ c.toNat
theorem okB_ink {c : UInt8} (h : okB c = true) : inkB c := by
  unfold inkB
  unfold okB isLow isDgt at h
  simp only [Bool.or_eq_true, Bool.and_eq_true, decide_eq_true_eq, beq_iff_eq, UInt8.le_iff_toNat_le] at h
  rcases h with (⟨h1, _⟩ | ⟨h1, _⟩) | h1
  · have : (97 : UInt8).toNat = 97 := rfl
    omega
  · have : (48 : UInt8).toNat = 48 := rfl
    omega
  · subst h1; decide
theorem numFrom_ink : ∀ (l : List UInt8) (n m : Int), numFrom n l = some m → ∀ c ∈ l, inkB c
  | [], n, m, _, c, hc => by cases hc
  | x :: l, n, m, h, c, hc => by
    rw [numFrom] at h
    split at h
    · next hx =>
      rcases List.mem_cons.1 hc with rfl | h1
      · unfold inkB; omega
      · exact numFrom_ink l _ m h c h1
    · cases h
theorem numI_ink {l : List UInt8} (h : 0 ≤ numI l) : ∀ c ∈ l, inkB c := by
  unfold numI at h
  cases e : numFrom 0 l with
  | none => rw [e] at h; simp at h
  | some m => exact numFrom_ink l 0 m e
theorem readB_ink {l : List UInt8} (h : readB l = true) : ∀ c ∈ l, inkB c := by
  unfold readB at h
  cases hd : decide (l.length = 8)
  · rw [hd] at h; cases h
  · rw [hd] at h
    have hv : vldB (numI (l.take 4)) (numI ((l.drop 4).take 2)) (numI ((l.drop 6).take 2)) = true := h
    unfold vldB at hv
    simp only [decide_eq_true_eq] at hv
    have hl : l.length = 8 := by simpa using hd
    intro c hc
    have e : l = l.take 4 ++ ((l.drop 4).take 2 ++ (l.drop 6).take 2) := by
      have h1 : (l.drop 6).take 2 = l.drop 6 := List.take_of_length_le (by simp; omega)
      have h2 : l.drop 4 = (l.drop 4).take 2 ++ l.drop 6 := by
        have := (List.take_append_drop 2 (l.drop 4)).symm
        rwa [List.drop_drop] at this
      rw [h1, ← h2, List.take_append_drop]
    rw [e] at hc
    rcases List.mem_append.1 hc with h1 | h1
    · exact numI_ink (by omega) c h1
    · rcases List.mem_append.1 h1 with h2 | h2
      · exact numI_ink (by omega) c h2
      · exact numI_ink (by omega) c h2
theorem own_ink {k : Int} {r : RulesL} {l : List UInt8} (h : ownK k r l = true) (hk : k = 1 ∨ k = 2 ∨ k = 3 ∨ k = 4) : ∀ c ∈ l, inkB c := by
  unfold ownK at h
  rcases hk with rfl | rfl | rfl | rfl
  · obtain ⟨_, h2⟩ := own_small (show isOwn (nameN r l) l = true from h) (nameN_form r l)
    obtain ⟨M, g1, g2, _⟩ := nameN_toks h2
    intro c hc
    rw [g2] at hc
    exact okB_ink (join_ok M g1 c hc)
  · exact readB_ink (show readB l = true from h)
  · obtain ⟨_, h2⟩ := own_small (show isOwn (codeN l) l = true from h) (codeN_form l)
    unfold codeN at h2
    split at h2
    · split at h2
      · cases h2
      · have e : (toks (foldL l)).flatten = l := congrArg Prod.fst h2
        intro c hc
        rw [← e] at hc
        obtain ⟨t, ht, hct⟩ := List.mem_flatten.1 hc
        exact okB_ink ((toks_ok l t ht).2 c hct).1
    · cases h2
  · obtain ⟨_, h2⟩ := own_small (show isOwn (addrN r l) l = true from h) (addrN_form r l)
    obtain ⟨M, g1, g2, _⟩ := addrN_toks h2
    intro c hc
    rw [g2] at hc
    exact okB_ink (join_ok M g1 c hc)
theorem normal_ink {s : SchemaL} {f : Int} {l : List UInt8} (h : normalB s f l = true) : l.length ≤ 64 ∧ ∀ c ∈ l, inkB c := by
  unfold normalB at h
  split at h
  · next h0 =>
    split at h
    · next h1 => subst h1; exact ⟨by simp, fun c hc => by cases hc⟩
    · exact ⟨(own_facts h (findN_kind h0)).1, own_ink h (findN_kind h0)⟩
  · cases h
theorem normA_ink {s : SchemaL} {V : List (List UInt8)} {i : Nat} (h : normA s i V = true) : ∀ t ∈ V, t.length ≤ 64 ∧ ∀ c ∈ t, inkB c := by
  intro t ht
  obtain ⟨j, hj, rfl⟩ := List.getElem_of_mem ht
  have := normA_get s V i h j hj
  have e : V.getD j [] = V[j] := by simp [List.getD, List.getElem?_eq_getElem hj]
  rw [e] at this
  exact normal_ink this
theorem checkI_ok {s : SchemaL} {r : RecL} (h : checkI s r = 0) : (1 ≤ r.id ∧ r.id ≤ 1048576 ∧ 1 ≤ r.ver ∧ r.ver ≤ 1048576) ∧ r.vals.length = s.fields.length ∧ ∀ t ∈ r.vals, t.length ≤ 64 ∧ ∀ c ∈ t, inkB c := by
  unfold checkI at h
  split at h
  · next h1 =>
    simp only [Bool.and_eq_true, beq_iff_eq] at h1
    have h2 := h1.1.1
    unfold numberedB at h2
    simp only [Bool.and_eq_true, decide_eq_true_eq] at h2
    exact ⟨by omega, h1.1.2, normA_ink h1.2⟩
  · cases h
theorem ink_no {t : List UInt8} {c : UInt8} (h : ∀ c ∈ t, inkB c) (hc : c.toNat < 32) : c ∉ t := fun e => by have := h c e; unfold inkB at this; omega
/-- the words of a record's line -/
def lineWs (r : RecL) : List (List UInt8) := Lib.decDigits r.id.toNat :: Lib.decDigits r.ver.toNat :: r.vals
theorem lineWs_no {s : SchemaL} {r : RecL} (h : checkI s r = 0) {c : UInt8} (hc : c.toNat < 32) : ∀ t ∈ lineWs r, c ∉ t := by
  obtain ⟨_, _, h3⟩ := checkI_ok h
  intro t ht
  unfold lineWs at ht
  rcases List.mem_cons.1 ht with rfl | h1
  · exact dec_no (by omega)
  · rcases List.mem_cons.1 h1 with rfl | h2
    · exact dec_no (by omega)
    · exact ink_no (h3 t h2).2 hc
theorem line_split {s : SchemaL} {r : RecL} (h : checkI s r = 0) : splC 9 [] (lineR r) = lineWs r := splC_join 9 _ (by simp) (lineWs_no h (by decide))
theorem numOk_dec {n : Nat} (h : n < 10000000) : numOk (Lib.decDigits n) = true := by
  have hl : (Lib.decDigits n).length ≤ 7 := dec_most (k := 7) (by decide) (by simpa using h)
  have hv := atoiV_digits h
  unfold numOk
  rw [hv]
  have hi : isNum (Lib.decDigits n) = true := by
    unfold isNum
    rw [Lib.atoiAll_short _ (by omega), atoi_digits]; rfl
  rw [hi, decide_eq_true hl]
  simp
/-- a line leads back to its record -/
theorem parse_lineR {s : SchemaL} {r : RecL} (h : checkI s r = 0) : parseR s (lineR r) = (r, 0) := by
  obtain ⟨h1, h2, _⟩ := checkI_ok h
  unfold parseR
  rw [line_split h]
  unfold parseW
  rw [if_pos (by unfold lineWs; simp [h2])]
  have e : recW (lineWs r) = r := by
    unfold recW
    have e1 : (lineWs r).getD 0 [] = Lib.decDigits r.id.toNat := rfl
    have e2 : (lineWs r).getD 1 [] = Lib.decDigits r.ver.toNat := rfl
    have e3 : (lineWs r).drop 2 = r.vals := rfl
    rw [e1, e2, e3, atoiV_digits (by omega), atoiV_digits (by omega)]
    obtain ⟨i, j, V⟩ := r
    dsimp only at h1 ⊢
    rw [Int.toNat_of_nonneg (by omega), Int.toNat_of_nonneg (by omega)]
  rw [e, h, if_pos rfl, if_pos]
  have e1 : (lineWs r).getD 0 [] = Lib.decDigits r.id.toNat := rfl
  have e2 : (lineWs r).getD 1 [] = Lib.decDigits r.ver.toNat := rfl
  rw [e1, e2, numOk_dec (by omega), numOk_dec (by omega)]; rfl
theorem joinC_mem (d : UInt8) : ∀ (L : List (List UInt8)) (c : UInt8), c ∈ joinC d L → c = d ∨ ∃ t ∈ L, c ∈ t
  | [], c, h => by cases h
  | [a], c, h => .inr ⟨a, List.mem_cons_self, h⟩
  | a :: b :: r, c, h => by
    rw [joinC] at h
    rcases List.mem_append.1 h with h1 | h1
    · exact .inr ⟨a, List.mem_cons_self, h1⟩
    · rcases List.mem_cons.1 h1 with h2 | h2
      · exact .inl h2
      · rcases joinC_mem d (b :: r) c h2 with h3 | ⟨t, ht, h3⟩
        · exact .inl h3
        · exact .inr ⟨t, List.mem_cons_of_mem _ ht, h3⟩
theorem lineR_no {s : SchemaL} {r : RecL} (h : checkI s r = 0) : (10 : UInt8) ∉ lineR r := by
  intro hm
  rcases joinC_mem 9 _ _ hm with h1 | ⟨t, ht, h1⟩
  · revert h1; decide
  · exact lineWs_no h (by decide) t ht h1
theorem rowR_no {s : SchemaL} {r : RecL} (h : checkI s r = 0) : (10 : UInt8) ∉ rowR r := by
  intro hm
  unfold rowR at hm
  rcases List.mem_append.1 hm with h1 | h1
  · exact lineR_no h h1
  · rcases List.mem_cons.1 h1 with h2 | h2
    · revert h2; decide
    · exact sumT_no (by decide) h2
theorem endR_no (n : Nat) : (10 : UInt8) ∉ endR n := by
  intro hm
  unfold endR at hm
  rcases List.mem_append.1 hm with h1 | h1
  · revert h1; decide
  · exact dec_no (by decide) h1
theorem rowR_not (r : RecL) : isEnd (rowR r) = false := by
  unfold isEnd
  rw [Bool.and_eq_false_iff]
  right
  rw [beq_eq_false_iff_ne]
  intro e
  unfold rowR lineR at e
  rw [joinC] at e
  cases hd : Lib.decDigits r.id.toNat with
  | nil => exact absurd hd (dec_ne _)
  | cons c l =>
    rw [hd] at e
    have h1 : c = 101 := by
      have := congrArg List.head? e
      simpa [endS] using this
    have := dec_digit (c := c) (n := r.id.toNat) (by rw [hd]; exact List.mem_cons_self)
    rw [h1] at this
    revert this; decide
/-- a row of a record behind others gives the record -/
theorem take_row {s : SchemaL} {l : List RecL} {r : RecL} (h : checkI s r = 0) (hl : l.length < 64) (hn : notB (lastId l) r.id = false) : takeN s l (rowR r) = (r, 0) := by
  unfold takeN rowR
  rw [cutLast_at 9 _ (sumT_no (by decide))]
  dsimp only
  rw [if_pos (sumT_dig _), if_pos rfl, parse_lineR h, if_pos rfl, if_neg (by omega), hn]
  rfl
theorem lastId_snoc (l : List RecL) (r : RecL) : lastId (l ++ [r]) = some r.id := by unfold lastId; simp
/-- records that may follow others -/
def Follows (s : SchemaL) : Option Int → List RecL → Prop
  | _, [] => True
  | p, r :: R => checkI s r = 0 ∧ notB p r.id = false ∧ Follows s (some r.id) R
theorem follows_of {s : SchemaL} : ∀ (R : List RecL) (p : Option Int), allA s p R = 0 → Follows s p R
  | [], p, _ => trivial
  | r :: R, p, h => by
    rw [allA_cons] at h
    split at h
    · next h1 =>
      split at h
      · cases h
      · next h2 => exact ⟨h1, by simpa using h2, follows_of R _ h⟩
    · next h1 => exact absurd h h1
theorem Follows.check {s : SchemaL} : ∀ {R : List RecL} {p : Option Int}, Follows s p R → ∀ r ∈ R, checkI s r = 0
  | [], p, _, r, hr => by cases hr
  | x :: R, p, h, r, hr => by
    rcases List.mem_cons.1 hr with rfl | h1
    · exact h.1
    · exact h.2.2.check r h1
/-- whole rows of records are read -/
theorem readA_rows {s : SchemaL} {n : Nat} : ∀ (R : List RecL) (l : List RecL) (k : Nat) (q q2 : List (List UInt8 × List UInt8)), Follows s (lastId l) R → l.length + R.length ≤ 64 → q.map Prod.fst = R.map rowR →
    ∃ k2, (k ≤ n → k2 ≤ n) ∧ readA s n l k (q ++ q2) = readA s n (l ++ R) k2 q2
  | [], l, k, q, q2, _, _, hq => by
    have : q = [] := by simpa using hq
    subst this
    exact ⟨k, id, by simp⟩
  | r :: R, l, k, [], q2, _, _, hq => by simp at hq
  | r :: R, l, k, (row, rest) :: q, q2, hf, hl, hq => by
    rw [List.map_cons, List.map_cons, List.cons.injEq] at hq
    obtain ⟨h1, h2⟩ := hq
    have h1 : row = rowR r := h1
    subst h1
    rw [List.length_cons] at hl
    obtain ⟨k2, g1, g2⟩ := readA_rows R (l ++ [r]) (n - rest.length) q q2 (by rw [lastId_snoc]; exact hf.2.2) (by simp; omega) h2
    refine ⟨k2, fun _ => g1 (Nat.sub_le _ _), ?_⟩
    rw [List.cons_append, readA, rowR_not, if_neg (by simp), take_row hf.1 (by omega) hf.2.1, if_pos rfl, g2, List.append_assoc]; rfl
theorem rowsT_cons (x : List UInt8) (X : List (List UInt8)) (t : List UInt8) : rowsT (x :: X) ++ t = x ++ 10 :: (rowsT X ++ t) := by unfold rowsT; simp
/-- the rows of a text that begins with whole rows -/
theorem rowsL_rows : ∀ (X : List (List UInt8)) (t : List UInt8), (∀ x ∈ X, (10 : UInt8) ∉ x) → ∃ q, q.map Prod.fst = X ∧ rowsL (rowsT X ++ t) = q ++ rowsL t
  | [], t, _ => ⟨[], rfl, rfl⟩
  | x :: X, t, h => by
    obtain ⟨q, h1, h2⟩ := rowsL_rows X t fun y hy => h y (List.mem_cons_of_mem _ hy)
    refine ⟨(x, rowsT X ++ t) :: q, by simp [h1], ?_⟩
    rw [rowsT_cons, rowsL_at (h x List.mem_cons_self), h2]; rfl
theorem rowsT_append (X Y : List (List UInt8)) : rowsT (X ++ Y) = rowsT X ++ rowsT Y := by unfold rowsT; rw [List.flatMap_append]
theorem rowsT_one (x : List UInt8) : rowsT [x] = x ++ [10] := by unfold rowsT; simp
/-- the rows before a byte, of whole rows -/
theorem take_rows : ∀ (X : List (List UInt8)) (k : Nat), (∀ x ∈ X, (10 : UInt8) ∉ x) → k < (rowsT X).length → ∃ j u, j < X.length ∧ (rowsT X).take k = rowsT (X.take j) ++ u ∧ (10 : UInt8) ∉ u ∧ j = ((rowsT X).take k).count 10
  | [], k, _, h => by simp [rowsT] at h
  | x :: X, k, h, hk => by
    have hx := h x List.mem_cons_self
    have e : rowsT (x :: X) = x ++ 10 :: rowsT X := by have := rowsT_cons x X []; simpa using this
    rw [e] at hk ⊢
    by_cases hkx : k ≤ x.length
    · have e2 : (x ++ 10 :: rowsT X).take k = x.take k := by rw [List.take_append_of_le_length hkx]
      refine ⟨0, x.take k, by simp, by rw [e2]; rfl, fun hm => hx (List.mem_of_mem_take hm), ?_⟩
      rw [e2]
      exact (List.count_eq_zero.2 fun hm => hx (List.mem_of_mem_take hm)).symm
    · have hk2 : k - x.length - 1 < (rowsT X).length := by simp at hk; omega
      obtain ⟨j, u, h1, h2, h3, h4⟩ := take_rows X (k - x.length - 1) (fun y hy => h y (List.mem_cons_of_mem _ hy)) hk2
      have e2 : (x ++ 10 :: rowsT X).take k = x ++ 10 :: (rowsT X).take (k - x.length - 1) := by
        rw [List.take_append, List.take_of_length_le (by omega), show k - x.length = (k - x.length - 1) + 1 by omega, List.take_succ_cons]; rfl
      refine ⟨j + 1, u, by simpa using h1, ?_, h3, ?_⟩
      · rw [e2, h2, List.take_succ_cons, rowsT_cons]
      · rw [e2, List.count_append, List.count_cons, ← h4, List.count_eq_zero.2 hx]; simp
/-- a file that is cut off -/
theorem read_torn {s : SchemaL} {R : List RecL} (h : allN s R = 0) {k : Nat} (hk : k < (fileR R).length) :
    ∃ n, n ≤ k ∧ ((fileR R).take k).count 10 ≤ R.length ∧ freadN s ((fileR R).take k) = (R.take (((fileR R).take k).count 10), n, 15) := by
  have h0 : checkS s = 0 ∧ R.length ≤ 64 ∧ allA s none R = 0 := by
    unfold allN at h
    split at h
    · next h1 =>
      split at h
      · next h2 => exact ⟨h1, h2, h⟩
      · cases h
    · next h1 => exact absurd h h1
  obtain ⟨h1, h2, h3⟩ := h0
  have hf := follows_of R none h3
  have hno : ∀ x ∈ R.map rowR ++ [endR R.length], (10 : UInt8) ∉ x := fun x hx => by
    rcases List.mem_append.1 hx with h | h
    · obtain ⟨r, hr, rfl⟩ := List.mem_map.1 h
      exact rowR_no (hf.check r hr)
    · simp at h; subst h; exact endR_no _
  obtain ⟨j, u, g1, g2, g3, g4⟩ := take_rows _ k hno hk
  have hj : j ≤ R.length := by simp at g1; omega
  have e : (R.map rowR ++ [endR R.length]).take j = (R.take j).map rowR := by
    rw [List.take_append_of_le_length (by simpa using hj), List.map_take]
  rw [e] at g2
  have hlen : ((fileR R).take k).length = k := by rw [List.length_take]; omega
  have g4' : ((fileR R).take k).count 10 = j := g4.symm
  rw [g4']
  have g2' : (fileR R).take k = rowsT ((R.take j).map rowR) ++ u := g2
  have hfj : Follows s (lastId []) (R.take j) := by
    have key : ∀ (R : List RecL) (p : Option Int) (j : Nat), Follows s p R → Follows s p (R.take j) := by
      intro R
      induction R with
      | nil => intro p j _; simp [Follows]
      | cons r R ih =>
        intro p j h
        cases j with
        | zero => trivial
        | succ j => exact ⟨h.1, h.2.1, ih _ j h.2.2⟩
    exact key R none j hf
  obtain ⟨q, q1, q2⟩ := rowsL_rows ((R.take j).map rowR) u fun x hx => by
    obtain ⟨r, hr, rfl⟩ := List.mem_map.1 hx
    exact rowR_no (hf.check r (List.mem_of_mem_take hr))
  obtain ⟨k2, p1, p2⟩ := readA_rows (n := k) (R.take j) [] 0 q (rowsL u) hfj (by rw [List.length_take]; simp; omega) q1
  refine ⟨k2, p1 (Nat.zero_le _), hj, ?_⟩
  unfold freadN
  rw [if_pos h1, hlen, g2', q2, p2, rowsL_no g3, List.nil_append, readA]
theorem lineR_len {s : SchemaL} {r : RecL} (h : checkI s r = 0) (h5 : s.fields.length ≤ 5) : (lineR r).length ≤ 500 := by
  obtain ⟨h1, h2, h3⟩ := checkI_ok h
  have key : ∀ (L : List (List UInt8)), (∀ x ∈ L, x.length ≤ 64) → (joinC 9 L).length ≤ L.length * 65 := by
    intro L
    induction L with
    | nil => simp [joinC]
    | cons a L ih =>
      intro h
      cases L with
      | nil => have := h a (by simp); simp [joinC]; omega
      | cons b L =>
        have g1 := h a (by simp)
        have g2 := ih fun x hx => h x (List.mem_cons_of_mem _ hx)
        simp only [joinC, List.length_append, List.length_cons] at *
        omega
  have := key (lineWs r) fun t ht => by
    unfold lineWs at ht
    rcases List.mem_cons.1 ht with rfl | h4
    · have := dec_most (n := r.id.toNat) (k := 7) (by decide) (by omega); omega
    · rcases List.mem_cons.1 h4 with rfl | h5
      · have := dec_most (n := r.ver.toNat) (k := 7) (by decide) (by omega); omega
      · exact (h3 t h5).1
  have hl : (lineWs r).length = r.vals.length + 2 := by unfold lineWs; simp
  rw [hl] at this
  show (joinC 9 (lineWs r)).length ≤ 500
  omega
end
section
set_option maxRecDepth 100000
open Go.RowKit
attribute [local go_sem] toList_mk mk_size
/-- the library's variable math/bits.deBruijn64tab, as far as it is read -/
def DbAt (w : World) : Prop := w.cell? ⟨7, 15, none⟩ = some (.int .u8 4)
theorem DbAt.old {w w' : World} (h : DbAt w) (hb : Below w.heap.size w w') : DbAt w' :=
  (hb.cell (p := ⟨7, 15, none⟩) (World.block_lt_of_cell? _ ⟨_, 15, none⟩ h)).trans h
theorem hexN_front (m : Nat) : ∀ x, hexN (m + 1) x = digH (x / 16 ^ m % 16) :: hexN m x := by
  induction m with
  | zero => intro x; simp [hexN]
  | succ m ih =>
    intro x
    rw [hexN, ih (x / 16), Nat.div_div_eq_div_mul, ← Nat.pow_succ']
    rw [hexN]; rfl
theorem hexN_zero (j : Nat) : hexN j 0 = List.replicate j 48 := by
  induction j with
  | zero => rfl
  | succ j ih => rw [hexN, Nat.zero_div, ih, List.replicate_succ']; rfl
theorem hexN_add (j : Nat) : ∀ (k x : Nat), hexN (j + k) x = hexN j (x / 16 ^ k) ++ hexN k x := by
  intro k
  induction k with
  | zero => intro x; simp [hexN]
  | succ k ih =>
    intro x
    rw [← Nat.add_assoc, hexN, ih, Nat.div_div_eq_div_mul, ← Nat.pow_succ', hexN, List.append_assoc]
/-- filled with zeros -/
theorem hexN_pad {k x : Nat} (hk : k ≤ 16) (hx : x < 16 ^ k) : List.replicate (16 - k) 48 ++ hexN k x = hexN 16 x := by
  have e : 16 = (16 - k) + k := by omega
  conv => rhs; rw [e]
  rw [hexN_add, Nat.div_eq_of_lt hx, hexN_zero]
set_option maxHeartbeats 400000 in
theorem tz_any (w : World) (h : DbAt w) : Calls Tryz.prog 273 #[.int .u64 16] w fun e w' => e = .returned (.int .i64 4) ∧ w = w' := by
  unfold DbAt at h
  have hq : IntKind.u64.wrap (bits .and .u64 16 (IntKind.u64.wrap (-16)) * 285870213051353865) / 288230376151711744 = 15 := by decide +kernel
  go_enter Tryz.func273, Tryz.ntmps273
  go_wp2_with fail
  go_ret
  exact ⟨rfl, rfl⟩
set_option maxHeartbeats 400000 in
theorem tz2_any (w : World) (h : DbAt w) : Calls Tryz.prog 244 #[.int .u64 16] w fun e w' => e = .returned (.int .i64 4) ∧ w = w' := by
  have H := Lib.hid h; clear h
  go_enter Tryz.func244, Tryz.ntmps244
  go_wp2_with fail
  refine (tz_any _ H.out).mono ?_
  rintro e w1 ⟨rfl, rfl⟩
  go_wp2_with fail
  go_ret
  exact ⟨rfl, rfl⟩
set_option maxHeartbeats 400000 in
theorem pow2_any (w : World) : Calls Tryz.prog 243 #[.int .i64 16] w fun e w' => e = .returned (.bool true) ∧ w = w' := by
  have hb : bits .and .i64 16 15 = 0 := by decide +kernel
  go_enter Tryz.func243, Tryz.ntmps243
  go_wp2_with fail
  go_ret
  exact ⟨rfl, rfl⟩
def digs36 : List UInt8 := [48, 49, 50, 51, 52, 53, 54, 55, 56, 57, 97, 98, 99, 100, 101, 102, 103, 104, 105, 106, 107, 108, 109, 110, 111, 112, 113, 114, 115, 116, 117, 118, 119, 120, 121, 122]
theorem digs36_get (d : Nat) (h : d < 16) (h' : d < (⟨digs36.toArray⟩ : ByteArray).size) : (⟨digs36.toArray⟩ : ByteArray)[d]'h' = digH d := by
  show digs36.toArray[d] = _
  rw [List.getElem_toArray]
  have h1 : ∀ k : Fin 16, digs36.getD k.val 0 = digH k.val := by decide
  have h2 := h1 ⟨d, h⟩
  rw [List.getD, List.getElem?_eq_getElem (show d < digs36.length by show d < 36; omega)] at h2
  exact h2
theorem and_15n (m : Nat) (h : m < 18446744073709551616) : bits .and .u64 (m : Int) 15 = ((m % 16 : Nat) : Int) := by
  unfold bits
  rw [IntKind.wrap_u64]
  have e1 : (BitVec.ofInt 64 (m : Int)).toNat = m := by rw [BitVec.toNat_ofInt]; simp; omega
  have e2 : (BitVec.ofInt 64 15).toNat = 15 := by decide
  have e3 : ((BitVec.ofInt 64 (m : Int)) &&& (BitVec.ofInt 64 15)).toNat = m % 16 := by
    rw [BitVec.toNat_and, e1, e2]
    exact Nat.and_two_pow_sub_one_eq_mod m 4
  show ((((BitVec.ofInt 64 (m : Int)) &&& (BitVec.ofInt 64 15)).toNat : Nat) : Int) % _ = _
  rw [e3]; omega
/-- the last m cells hold the last m digits -/
def DigAt (w : World) (B : Nat) (x m : Nat) : Prop := ∃ cs : Array Value, w.heap[B]? = some (.cells cs 254 (0, 0)) ∧ cs.size = 65 ∧ ∀ i, i < m → cs[65 - m + i]? = ((hexN m x)[i]?).map byteV
theorem DigAt.set {w : World} {B x m : Nat} (h : DigAt w B x m) (hm : m < 65) {d : Nat} (hd : x / 16 ^ m % 16 = d) : DigAt (w.setCell ⟨B, 64 - m, none⟩ (byteV (digH d))) B x (m + 1) := by
  obtain ⟨cs, h1, h2, h3⟩ := h
  refine ⟨_, blk_set h1, by simp [h2], fun i hi => ?_⟩
  rw [hexN_front, hd, Array.getElem?_setIfInBounds]
  cases i with
  | zero =>
    rw [if_pos (by omega), if_pos (by omega)]; rfl
  | succ i =>
    rw [if_neg (by omega), List.getElem?_cons_succ, ← h3 i (by omega)]
    congr 1; omega
theorem dig_conv {w : World} {B x m c : Nat} (h : DigAt w B x (m + 1)) : (convert 55 9 (.slice (some ⟨B, 64 - m, none⟩) (m + 1) c)).run Tryz.prog w = .ok (strV (hexN (m + 1) x)) w := by
  obtain ⟨cs, h1, h2, h3⟩ := h
  have hl : (hexN (m + 1) x).length = m + 1 := hexN_len _ _
  have := run_convert_bytes_back (P := Tryz.prog) w _ _ _ ⟨B, 64 - m, none⟩ c (hexN (m + 1) x) Tryz.underlying55 Tryz.underlying5 Tryz.underlying9 (fun j hj => by
    rw [add_plain, cell_of_row _ _ _ _ _ _ h1]
    have := h3 j (by omega)
    rw [show 65 - (m + 1) + j = 64 - m + j by omega, List.getElem?_eq_getElem hj] at this
    exact this)
  rw [hl] at this
  exact this
set_option maxHeartbeats 4000000 in
theorem fbits_any (x : Nat) (hx : x < 18446744073709551616) (w : World) (hdb : DbAt w) :
    Calls Tryz.prog 192 #[.slice none 0 0, .int .u64 x, .int .i64 16, .bool false, .bool false] w fun e w' => (∃ k, 1 ≤ k ∧ k ≤ 16 ∧ x < 16 ^ k ∧ e = .returned (.tuple #[.slice none 0 0, strV (hexN k x)])) ∧ Below w.heap.size w w' := by
  have HD := Lib.hid hdb; have HX := Lib.hid hx; clear hdb
  go_enter Tryz.func192, Tryz.ntmps192
  go_wp2_with fail
  refine wp_calls_world (fun W hW => ?_)
  have hb0 : Below w.heap.size w W := by rw [hW]; exact (Below.refl w.heap.size w).alloc (Nat.le_refl _) _
  have hd0 : DigAt W w.heap.size x 0 := by rw [hW]; refine ⟨_, blk_new rfl, ?_, fun i hi => by omega⟩; kernel_rfl
  clear hW
  have HD0 := Lib.hid hd0; have HB0 := Lib.hid hb0; have HDb := Lib.hid (HD.out.old hb0)
  clear hd0 hb0
  refine (pow2_any W).mono ?_
  rintro e w1 ⟨rfl, rfl⟩
  go_wp2_with fail
  refine (tz2_any W HDb.out).mono ?_
  rintro e w1 ⟨rfl, rfl⟩
  go_wp2_with fail
  go_loopw [1, 13] (fun u i wr => ∃ m q : Nat, m ≤ 15 ∧ i = .int .i64 (65 - (m : Int)) ∧ u = .int .u64 (q : Int) ∧ Hid (x / 16 ^ m = q) ∧ Hid (DigAt wr w.heap.size x m) ∧ Hid (Below w.heap.size w wr)) (fun u _ _ => (intOf u).toNat)
  case atStart => exact ⟨0, x, by omega, rfl, rfl, Lib.hid (by simp), HD0, HB0⟩
  case round =>
    obtain ⟨m, q, hm, rfl, rfl, HQ, HDg, HBw⟩ := hrel
    have hq64 : q < 18446744073709551616 := by rw [← HQ.out]; exact Nat.lt_of_le_of_lt (Nat.div_le_self _ _) HX.out
    by_cases hq : 16 ≤ q
    · have d1 : decide ((16 : Int) ≤ (q : Int)) = true := decide_eq_true (by omega)
      have hm14 : m ≤ 14 := by
        rcases Nat.lt_or_ge m 15 with h | h
        · omega
        · have hm15 : m = 15 := by omega
          subst hm15
          have h1 := HQ.out
          have h2 : x / 16 ^ 15 < 16 := by
            rw [Nat.div_lt_iff_lt_mul (by decide)]
            exact HX.out
          omega
      obtain ⟨d, hd⟩ : ∃ d, q % 16 = d := ⟨_, rfl⟩
      have hd16 : d < 16 := by omega
      have hand : bits .and .u64 (q : Int) 15 = (d : Int) := by rw [and_15n q hq64, hd]
      obtain ⟨q2, hq2⟩ : ∃ q2, q / 16 = q2 := ⟨_, rfl⟩
      have hshr : (q : Int) / 16 = (q2 : Int) := by omega
      have hgd : ∀ h : d < (⟨#[48, 49, 50, 51, 52, 53, 54, 55, 56, 57, 97, 98, 99, 100, 101, 102, 103, 104, 105, 106, 107, 108, 109, 110, 111, 112, 113, 114, 115, 116, 117, 118, 119, 120, 121, 122]⟩ : ByteArray).size, (⟨#[48, 49, 50, 51, 52, 53, 54, 55, 56, 57, 97, 98, 99, 100, 101, 102, 103, 104, 105, 106, 107, 108, 109, 110, 111, 112, 113, 114, 115, 116, 117, 118, 119, 120, 121, 122]⟩ : ByteArray)[d]'h = digH d := fun h => digs36_get d hd16 h
      have hset := HDg.out.set (d := d) (by omega) (by rw [HQ.out, hd])
      obtain ⟨cs, g1, g2, g3⟩ := HDg.out
      have hcl : ∃ v, wr.cell? ⟨w.heap.size, 64 - m, none⟩ = some v := by
        rw [cell_of_row _ _ _ _ _ _ g1]
        exact ⟨_, Array.getElem?_eq_getElem (by omega)⟩
      obtain ⟨v, hcl⟩ := hcl
      have hfz := frozen_of_row _ _ (64 - m) _ _ g1
      have hz1 := lt_of_blk g1
      have hwi : IntKind.i64.wrap (65 - (m : Int) - 1) = ((64 - m : Nat) : Int) := by rw [IntKind.wrap_i64]; omega
      have hwj : 65 - (m : Int) - 1 = ((64 - m : Nat) : Int) := by omega
      have hwl : ((64 - m : Nat) : Int) < 65 := by omega
      have HSt := Lib.hid hset
      have HQ2 := Lib.hid (show x / 16 ^ (m + 1) = q2 by rw [Nat.pow_succ, ← Nat.div_div_eq_div_mul, HQ.out, hq2])
      have HB2 := Lib.hid (HBw.out.setCell (p := ⟨w.heap.size, 64 - m, none⟩) (Nat.le_refl _) (byteV (digH d)))
      have hq2lt : q2 < q := by omega
      clear hset g1 g2 g3 hm hd hq2
      go_wp2_with fail
      go_roundw
      case rel => exact ⟨m + 1, q2, by omega, by congr 1; omega, rfl, HQ2, HSt, HB2⟩
      case measure => simp [intOf]; omega
    · have d1 : decide ((16 : Int) ≤ (q : Int)) = false := decide_eq_false (by omega)
      have hd : q % 16 = q := Nat.mod_eq_of_lt (by omega)
      have hgd : ∀ h : q < (⟨#[48, 49, 50, 51, 52, 53, 54, 55, 56, 57, 97, 98, 99, 100, 101, 102, 103, 104, 105, 106, 107, 108, 109, 110, 111, 112, 113, 114, 115, 116, 117, 118, 119, 120, 121, 122]⟩ : ByteArray).size, (⟨#[48, 49, 50, 51, 52, 53, 54, 55, 56, 57, 97, 98, 99, 100, 101, 102, 103, 104, 105, 106, 107, 108, 109, 110, 111, 112, 113, 114, 115, 116, 117, 118, 119, 120, 121, 122]⟩ : ByteArray)[q]'h = digH q := fun h => digs36_get q (by omega) h
      have hset := HDg.out.set (d := q) (by omega) (by rw [HQ.out, hd])
      obtain ⟨cs, g1, g2, g3⟩ := HDg.out
      have hcl : ∃ v, wr.cell? ⟨w.heap.size, 64 - m, none⟩ = some v := by
        rw [cell_of_row _ _ _ _ _ _ g1]
        exact ⟨_, Array.getElem?_eq_getElem (by omega)⟩
      obtain ⟨v, hcl⟩ := hcl
      have hfz := frozen_of_row _ _ (64 - m) _ _ g1
      have hz1 := lt_of_blk g1
      have hwi : IntKind.i64.wrap (65 - (m : Int) - 1) = ((64 - m : Nat) : Int) := by rw [IntKind.wrap_i64]; omega
      have hwj : 65 - (m : Int) - 1 = ((64 - m : Nat) : Int) := by omega
      have hwl : ((64 - m : Nat) : Int) < 65 := by omega
      have hwl2 : ((64 - m : Nat) : Int) ≤ 65 := by omega
      have hq15 : q ≤ 15 := by omega
      have hxk : x < 16 ^ (m + 1) := by
        have h1 := HQ.out
        rw [Nat.pow_succ, Nat.mul_comm]
        exact (Nat.div_lt_iff_lt_mul (Nat.pow_pos (by decide))).1 (by omega)
      have HSt := Lib.hid hset; have HXk := Lib.hid hxk
      have HB2 := Lib.hid (HBw.out.setCell (p := ⟨w.heap.size, 64 - m, none⟩) (Nat.le_refl _) (byteV (digH q)))
      have hcv := dig_conv (c := m + 1) hset
      rw [show m + 1 = 65 - (64 - m) by omega] at hcv
      unfold byteV at hcv
      clear hset g1 g2 g3 hd hxk
      go_wp2_with fail
      go_ret2
      exact ⟨⟨m + 1, by omega, by omega, HXk.out, by rw [show 65 - (64 - m) = m + 1 by omega]; rfl⟩, HB2.out⟩
set_option maxHeartbeats 1000000 in
theorem fuint_any (x : Nat) (hx : x < 18446744073709551616) (w : World) (hdb : DbAt w) :
    Calls Tryz.prog 121 #[.int .u64 x, .int .i64 16] w fun e w' => (∃ k, 1 ≤ k ∧ k ≤ 16 ∧ x < 16 ^ k ∧ e = .returned (strV (hexN k x))) ∧ Below w.heap.size w w' := by
  have HD := Lib.hid hdb; clear hdb
  have inner : ∀ w, DbAt w → Calls Tryz.prog 171 #[.int .u64 x, .int .i64 16] w fun e w' => (∃ k, 1 ≤ k ∧ k ≤ 16 ∧ x < 16 ^ k ∧ e = .returned (strV (hexN k x))) ∧ Below w.heap.size w w' := by
    intro w hdb
    have HD := Lib.hid hdb; clear hdb
    go_enter Tryz.func171, Tryz.ntmps171
    go_wp2_with fail
    refine (fbits_any x hx _ HD.out).mono ?_
    rintro e w1 ⟨⟨k, h1, h2, h3, rfl⟩, hb⟩
    have HB := Lib.hid hb; clear hb
    go_wp2_with fail
    go_ret
    exact ⟨⟨k, h1, h2, h3, rfl⟩, HB.out⟩
  have HI := Lib.hid inner; clear inner
  go_enter Tryz.func121, Tryz.ntmps121
  go_wp2_with fail
  refine (HI.out _ HD.out).mono ?_
  rintro e w1 ⟨⟨k, h1, h2, h3, rfl⟩, hb⟩
  have HB := Lib.hid hb; clear hb
  go_wp2_with fail
  go_ret
  exact ⟨⟨k, h1, h2, h3, rfl⟩, HB.out⟩
end
end Go.Proofs.YtoeplomdcannlaaGreatDoor
section
namespace Go.Proofs
open Go.Shelf
def Tryz.lays160_ren : Go.Shelf.Ren := ⟨fun | 160 => 164 | 232 => 209 | 231 => 208 | 227 => 210 | 234 => 212 | 233 => 211 | 236 => 214 | 235 => 213 | 228 => 255 | 271 => 257 | 151 => 256 | 197 => 195 | 120 => 277 | 152 => 276 | 260 => 245 | 137 => 291 | 119 => 292 | 224 => 248 | 225 => 247 | 217 => 246 | 266 => 274 | n => n, fun | 9 => 9 | 4 => 4 | 3 => 3 | 5 => 5 | 117 => 237 | 116 => 236 | 0 => 0 | 124 => 240 | 21 => 21 | 105 => 221 | 46 => 92 | 119 => 267 | 139 => 270 | 138 => 269 | n => n, fun | 3 => 4 | 4 => 5 | n => n⟩
theorem Tryz.lays160 : Go.Proofs.Lays.n160 Tryz.prog Tryz.lays160_ren := {
  mixed := by kernel_rfl
  f119 := Tryz.func292.trans (congrArg some (by kernel_rfl))
  f120 := Tryz.func277.trans (congrArg some (by kernel_rfl))
  f137 := Tryz.func291.trans (congrArg some (by kernel_rfl))
  f151 := Tryz.func256.trans (congrArg some (by kernel_rfl))
  f152 := Tryz.func276.trans (congrArg some (by kernel_rfl))
  f160 := Tryz.func164.trans (congrArg some (by kernel_rfl))
  f197 := Tryz.func195.trans (congrArg some (by kernel_rfl))
  f217 := Tryz.func246.trans (congrArg some (by kernel_rfl))
  f224 := Tryz.func248.trans (congrArg some (by kernel_rfl))
  f225 := Tryz.func247.trans (congrArg some (by kernel_rfl))
  f227 := Tryz.func210.trans (congrArg some (by kernel_rfl))
  f228 := Tryz.func255.trans (congrArg some (by kernel_rfl))
  f231 := Tryz.func208.trans (congrArg some (by kernel_rfl))
  f232 := Tryz.func209.trans (congrArg some (by kernel_rfl))
  f233 := Tryz.func211.trans (congrArg some (by kernel_rfl))
  f234 := Tryz.func212.trans (congrArg some (by kernel_rfl))
  f235 := Tryz.func213.trans (congrArg some (by kernel_rfl))
  f236 := Tryz.func214.trans (congrArg some (by kernel_rfl))
  f260 := Tryz.func245.trans (congrArg some (by kernel_rfl))
  f266 := Tryz.func274.trans (congrArg some (by kernel_rfl))
  f271 := Tryz.func257.trans (congrArg some (by kernel_rfl))
  t0 := Tryz.underlying0
  a0 := Tryz.isAgg0
  z0 := Tryz.sizeOf0
  v0 := Tryz.zeroValue0
  t3 := Tryz.underlying3
  a3 := Tryz.isAgg3
  z3 := Tryz.sizeOf3
  v3 := Tryz.zeroValue3
  t4 := Tryz.underlying4
  a4 := Tryz.isAgg4
  z4 := Tryz.sizeOf4
  v4 := Tryz.zeroValue4
  t5 := Tryz.underlying5
  a5 := Tryz.isAgg5
  z5 := Tryz.sizeOf5
  v5 := Tryz.zeroValue5
  t9 := Tryz.underlying9
  a9 := Tryz.isAgg9
  z9 := Tryz.sizeOf9
  v9 := Tryz.zeroValue9
  t21 := Tryz.underlying21
  a21 := Tryz.isAgg21
  z21 := Tryz.sizeOf21
  v21 := Tryz.zeroValue21
  t46 := Tryz.underlying92
  a46 := Tryz.isAgg92
  z46 := Tryz.sizeOf92
  v46 := Tryz.zeroValue92
  t105 := Tryz.underlying221
  a105 := Tryz.isAgg221
  z105 := Tryz.sizeOf221
  v105 := Tryz.zeroValue221
  t116 := Tryz.underlying236
  a116 := Tryz.isAgg236
  z116 := Tryz.sizeOf236
  t117 := Tryz.underlying237
  a117 := Tryz.isAgg237
  z117 := Tryz.sizeOf237
  v117 := Tryz.zeroValue237
  t119 := Tryz.underlying267
  a119 := Tryz.isAgg267
  z119 := Tryz.sizeOf267
  t124 := Tryz.underlying240
  a124 := Tryz.isAgg240
  z124 := Tryz.sizeOf240
  v124 := Tryz.zeroValue240
  t138 := Tryz.underlying269
  a138 := Tryz.isAgg269
  z138 := Tryz.sizeOf269
  v138 := Tryz.zeroValue269
  t139 := Tryz.underlying270
  a139 := Tryz.isAgg270
  z139 := Tryz.sizeOf270
  v139 := Tryz.zeroValue270
  g3 := by kernel_rfl
  g4 := by kernel_rfl }
open Go.RowKit in
def Tryz.lays149_ren : Go.Shelf.Ren := ⟨fun | 149 => 116 | 222 => 163 | n => n, fun | 9 => 9 | 5 => 5 | 3 => 3 | 4 => 4 | n => n, fun | n => n⟩
theorem Tryz.lays149 : Go.Proofs.Lays.n149 Tryz.prog Tryz.lays149_ren := {
  mixed := by kernel_rfl
  f149 := Tryz.func116.trans (congrArg some (by kernel_rfl))
  f222 := Tryz.func163.trans (congrArg some (by kernel_rfl))
  t3 := Tryz.underlying3
  a3 := Tryz.isAgg3
  z3 := Tryz.sizeOf3
  v3 := Tryz.zeroValue3
  t4 := Tryz.underlying4
  a4 := Tryz.isAgg4
  z4 := Tryz.sizeOf4
  v4 := Tryz.zeroValue4
  t5 := Tryz.underlying5
  a5 := Tryz.isAgg5
  z5 := Tryz.sizeOf5
  v5 := Tryz.zeroValue5
  t9 := Tryz.underlying9
  a9 := Tryz.isAgg9
  z9 := Tryz.sizeOf9
  v9 := Tryz.zeroValue9 }
open Go.RowKit Go.Lib in
/-- strings.LastIndexByte: "LastIndexByte returns the index of the last instance of c in s, or -1 if c is not present in s." (LAID: no walk: one application.) -/
theorem Tryz.strings_LastIndexByte (s : ByteArray) (c : Int) (hs : s.size < 4611686018427387904) (w : World) :
    Calls Tryz.prog 116 #[.string s, .int .u8 c] w fun e w' => e = .returned (.int .i64 (Lib.lastIndexByte s c)) ∧ w' = w := Any.strings_LastIndexByte Tryz.lays149 s c hs w
def Tryz.lays105_ren : Go.Shelf.Ren := ⟨fun | 105 => 123 | 212 => 173 | 99 => 66 | 165 => 98 | 166 => 70 | 170 => 174 | 169 => 73 | 263 => 218 | 264 => 219 | 206 => 115 | 240 => 120 | 241 => 143 | 276 => 170 | 277 => 193 | n => n, fun | 9 => 9 | 3 => 3 | 4 => 4 | 20 => 20 | 0 => 0 | 46 => 92 | 109 => 199 | 5 => 5 | 72 => 120 | 76 => 98 | 51 => 245 | 146 => 246 | 53 => 43 | 148 => 248 | 70 => 118 | 37 => 55 | 75 => 97 | 127 => 161 | 164 => 197 | 80 => 121 | n => n, fun | n => n⟩
theorem Tryz.lays105 : Go.Proofs.Lays.n105 Tryz.prog Tryz.lays105_ren := {
  mixed := by kernel_rfl
  f99 := Tryz.func66.trans (congrArg some (by kernel_rfl))
  f105 := Tryz.func123.trans (congrArg some (by kernel_rfl))
  f165 := Tryz.func98.trans (congrArg some (by kernel_rfl))
  f166 := Tryz.func70.trans (congrArg some (by kernel_rfl))
  f169 := Tryz.func73.trans (congrArg some (by kernel_rfl))
  f170 := Tryz.func174.trans (congrArg some (by kernel_rfl))
  f206 := Tryz.func115.trans (congrArg some (by kernel_rfl))
  f212 := Tryz.func173.trans (congrArg some (by kernel_rfl))
  f240 := Tryz.func120.trans (congrArg some (by kernel_rfl))
  f241 := Tryz.func143.trans (congrArg some (by kernel_rfl))
  f263 := Tryz.func218.trans (congrArg some (by kernel_rfl))
  f264 := Tryz.func219.trans (congrArg some (by kernel_rfl))
  f276 := Tryz.func170.trans (congrArg some (by kernel_rfl))
  f277 := Tryz.func193.trans (congrArg some (by kernel_rfl))
  t0 := Tryz.underlying0
  a0 := Tryz.isAgg0
  z0 := Tryz.sizeOf0
  v0 := Tryz.zeroValue0
  t3 := Tryz.underlying3
  a3 := Tryz.isAgg3
  z3 := Tryz.sizeOf3
  v3 := Tryz.zeroValue3
  t4 := Tryz.underlying4
  a4 := Tryz.isAgg4
  z4 := Tryz.sizeOf4
  v4 := Tryz.zeroValue4
  t5 := Tryz.underlying5
  a5 := Tryz.isAgg5
  z5 := Tryz.sizeOf5
  v5 := Tryz.zeroValue5
  t9 := Tryz.underlying9
  a9 := Tryz.isAgg9
  z9 := Tryz.sizeOf9
  v9 := Tryz.zeroValue9
  t20 := Tryz.underlying20
  a20 := Tryz.isAgg20
  z20 := Tryz.sizeOf20
  v20 := Tryz.zeroValue20
  t37 := Tryz.underlying55
  a37 := Tryz.isAgg55
  z37 := Tryz.sizeOf55
  v37 := Tryz.zeroValue55
  t46 := Tryz.underlying92
  a46 := Tryz.isAgg92
  z46 := Tryz.sizeOf92
  v46 := Tryz.zeroValue92
  t51 := Tryz.underlying245
  a51 := Tryz.isAgg245
  z51 := Tryz.sizeOf245
  v51 := Tryz.zeroValue245
  t53 := Tryz.underlying43
  a53 := Tryz.isAgg43
  z53 := Tryz.sizeOf43
  v53 := Tryz.zeroValue43
  t70 := Tryz.underlying118
  a70 := Tryz.isAgg118
  z70 := Tryz.sizeOf118
  v70 := Tryz.zeroValue118
  t72 := Tryz.underlying120
  a72 := Tryz.isAgg120
  z72 := Tryz.sizeOf120
  v72 := Tryz.zeroValue120
  t75 := Tryz.underlying97
  a75 := Tryz.isAgg97
  z75 := Tryz.sizeOf97
  v75 := Tryz.zeroValue97
  t76 := Tryz.underlying98
  a76 := Tryz.isAgg98
  z76 := Tryz.sizeOf98
  v76 := Tryz.zeroValue98
  t109 := Tryz.underlying199
  a109 := Tryz.isAgg199
  z109 := Tryz.sizeOf199
  v109 := Tryz.zeroValue199
  t127 := Tryz.underlying161
  a127 := Tryz.isAgg161
  z127 := Tryz.sizeOf161
  v127 := Tryz.zeroValue161
  t146 := Tryz.underlying246
  a146 := Tryz.isAgg246
  z146 := Tryz.sizeOf246
  v146 := Tryz.zeroValue246
  t148 := Tryz.underlying248
  a148 := Tryz.isAgg248
  z148 := Tryz.sizeOf248
  v148 := Tryz.zeroValue248
  t164 := Tryz.underlying197
  a164 := Tryz.isAgg197
  z164 := Tryz.sizeOf197
  v164 := Tryz.zeroValue197 }
theorem Tryz.Builder_Extra_105 : Builder.Extra Tryz.prog Tryz.lays105_ren := {
  sizeBuilder := by kernel_rfl
  liesBuilder := by kernel_rfl
  t5 := Tryz.underlying5
  a5 := Tryz.isAgg5
  z5 := Tryz.sizeOf5
  v5 := Tryz.zeroValue5
  infoByte := by kernel_rfl
  cellsByte := by kernel_rfl
  sizeByte := by kernel_rfl
  neB5 := by decide }
open Go.RowKit Go.Lib in
/-- **strings.Repeat: count ≥ 0, the result within one allocation: count copies of s.** (LAID: no walk: one application.) -/
theorem Tryz.strings_Repeat (s : ByteArray) (c : Nat) (w : World) (hc : c ≤ 9223372036854775807) (hlen : s.size * c ≤ 140737488355328) :
    Calls Tryz.prog 123 #[.string s, .int .i64 c] w fun e w' => e = .returned (.string ⟨(Lib.repeatL s.data.toList c).toArray⟩) ∧ Below w.heap.size w w' := Any.strings_Repeat Tryz.lays105 Tryz.Builder_Extra_105 s c w hc hlen
end Go.Proofs
end
namespace Go.Proofs.YtoeplomdcannlaaGreatDoor
section
set_option maxRecDepth 100000
open Go.RowKit
attribute [local go_sem] toList_mk mk_size
@[local go_sem] theorem get_zeroP (c : UInt8) (l : List UInt8) (h : 0 < (⟨(c :: l).toArray⟩ : ByteArray).size) : (⟨(c :: l).toArray⟩ : ByteArray)[0]'h = c := rfl
end
section
set_option maxRecDepth 100000
open Go.RowKit
attribute [local go_sem] toList_mk mk_size
theorem hexN_more {k n : Nat} (h : k < 16) : (hexN 16 n).take (k + 1) = (hexN 16 n).take k ++ [digH (n / 16 ^ (15 - k) % 16)] := by
  rw [List.take_add_one, hexN_get 16 n k h]; rfl
theorem bits_range (op : BinOp) (x y : Int) : 0 ≤ bits op .u64 x y ∧ bits op .u64 x y < 18446744073709551616 := by
  unfold bits
  rw [IntKind.wrap_u64]
  constructor <;> omega
theorem and_15 (m : Nat) (h : m < 18446744073709551616) : bits .and .u64 (m : Int) 15 = ((m % 16 : Nat) : Int) := by
  unfold bits
  rw [IntKind.wrap_u64]
  have e1 : (BitVec.ofInt 64 (m : Int)).toNat = m := by rw [BitVec.toNat_ofInt]; simp; omega
  have e2 : (BitVec.ofInt 64 15).toNat = 15 := by decide
  have e3 : ((BitVec.ofInt 64 (m : Int)) &&& (BitVec.ofInt 64 15)).toNat = m % 16 := by
    rw [BitVec.toNat_and, e1, e2]
    exact Nat.and_two_pow_sub_one_eq_mod m 4
  show ((((BitVec.ofInt 64 (m : Int)) &&& (BitVec.ofInt 64 15)).toNat : Nat) : Int) % _ = _
  rw [e3]; omega
theorem nib_at (n k : Nat) (h : n < 18446744073709551616) (hk : k < 16) : bits .and .u64 ((n : Int) / 2 ^ (60 - 4 * k)) 15 = ((n / 16 ^ (15 - k) % 16 : Nat) : Int) := by
  have e : ((n : Int) / 2 ^ (60 - 4 * k)) = ((n / 2 ^ (60 - 4 * k) : Nat) : Int) := by simp
  rw [e, and_15 _ (Nat.lt_of_le_of_lt (Nat.div_le_self _ _) h)]
  have e2 : 2 ^ (60 - 4 * k) = 16 ^ (15 - k) := by
    rw [show 60 - 4 * k = 4 * (15 - k) by omega, Nat.pow_mul]
  rw [e2]
end
section
set_option maxRecDepth 100000
open Go.RowKit
attribute [local go_sem] toList_mk mk_size str_append
theorem partsP_range (ka kb : Int) (L : List (List UInt8)) : 0 ≤ partsP ka kb L ∧ partsP ka kb L < 18446744073709551616 := by
  unfold partsP sumP
  exact bits_range _ _ _
theorem repeat_zero (n : Nat) : Lib.repeatL [48] n = List.replicate n 48 := by
  induction n with
  | zero => rfl
  | succ n ih => rw [Lib.repeatL, ih]; rfl
theorem repeat_any (n : Nat) (hn : n ≤ 1000) (w : World) : Calls Tryz.prog 123 #[.string ⟨#[48]⟩, .int .i64 n] w fun e w' => e = .returned (strV (List.replicate n 48)) ∧ Below w.heap.size w w' := by
  refine (Tryz.strings_Repeat ⟨#[48]⟩ n w (by omega) (by show 1 * n ≤ _; omega)).mono ?_
  rintro e w' ⟨rfl, hb⟩
  refine ⟨?_, hb⟩
  rw [show (⟨#[48]⟩ : ByteArray).data.toList = [48] from rfl, repeat_zero]
set_option maxHeartbeats 4000000 in
theorem rsum_any' (t : List UInt8) (w : World) (ht : t.length ≤ 60000) (hdb : DbAt w) :
    Calls Tryz.prog 72 #[strV t] w fun e w' => e = .returned (strV (sumT t)) ∧ Below w.heap.size w w' := by
  obtain ⟨q, hq⟩ : ∃ q : Nat, partsP 0 0 [t] = q := Int.eq_ofNat_of_zero_le (partsP_range 0 0 [t]).1
  have hq2 : q < 18446744073709551616 := by have := (partsP_range 0 0 [t]).2; omega
  have hs : sumT t = hexN 16 q := by unfold sumT; rw [hq]; rfl
  rw [hs]
  have HD := Lib.hid hdb; have HQ := Lib.hid hq
  clear hdb hq hs
  go_enter Tryz.func72, Tryz.ntmps72
  go_wp2_with fail
  refine wp_calls_world (fun W hW => ?_)
  have hb0 : Below w.heap.size w W := by rw [hW]; exact (Below.refl w.heap.size w).alloc (Nat.le_refl _) _
  have hv : Vec W Any1 1 encS (.slice (some ⟨w.heap.size, 0, none⟩) 1 1) [t] := by rw [hW]; exact blockVec (k := 1) (enc := encS) (L := [t]) (S := Any1) (fun _ => rfl) (blk_new rfl) trivial 1 rfl
  clear hW
  refine (sparts_any Any1 0 0 _ [t] W hv (fun x hx => by simp at hx; subst hx; exact ht) (by simp)).mono ?_
  rw [HQ.out]
  rintro e w1 ⟨rfl, hb⟩
  have HB1 := Lib.hid (hb0.trans (hb.mono hb0.size))
  clear hb hb0 hv
  go_wp2_with fail
  refine (fuint_any q hq2 w1 (HD.out.old HB1.out)).mono ?_
  rintro e w2 ⟨⟨k, k1, k2, hk, rfl⟩, hb⟩
  have HB2 := Lib.hid (HB1.out.trans (hb.mono HB1.out.size))
  have hpad := hexN_pad k2 hk
  have hlen := hexN_len k q
  obtain ⟨z, hz⟩ : ∃ z, hexN k q = z := ⟨_, rfl⟩
  rw [hz] at hpad hlen ⊢
  obtain ⟨j, hj⟩ : ∃ j, 16 - k = j := ⟨_, rfl⟩
  have hwl : IntKind.i64.wrap (16 - (z.length : Int)) = (j : Int) := by rw [hlen, IntKind.wrap_i64]; omega
  have hzl : z.length ≤ 16 := by omega
  rw [hj] at hpad
  have hj16 : j ≤ 16 := by omega
  have hl1 : (List.replicate j (48 : UInt8)).length = j := List.length_replicate
  obtain ⟨y, hy⟩ : ∃ y, List.replicate j (48 : UInt8) = y := ⟨_, rfl⟩
  have hrep := fun w => repeat_any j (by omega) w
  rw [hy] at hl1 hrep hpad
  have hyl : y.length ≤ 16 := by omega
  have HRp := Lib.hid hrep; have HP := Lib.hid hpad; have HW := Lib.hid hwl
  have hno : ¬ 9223372036854775807 < y.length + z.length := by omega
  clear hb hpad hz hj hy hrep hk k1 k2 hlen hl1 hwl
  have hwl := HW.out
  go_wp2_with fail
  clear hwl
  refine (HRp.out _).mono ?_
  rintro e w3 ⟨rfl, hb⟩
  have HB3 := Lib.hid (HB2.out.trans (hb.mono HB2.out.size))
  clear hb
  go_wp2_with fail
  go_ret
  exact ⟨by rw [← HP.out]; rfl, HB3.out⟩
theorem hex_cut (c : UInt8) : hexD.contains c = (valH c).isSome := by
  have : ∀ n : Fin 256, hexD.contains (UInt8.ofNat n.val) = (valH (UInt8.ofNat n.val)).isSome := by decide +kernel
  have h := this ⟨c.toNat, c.toNat_lt⟩
  simpa using h
theorem drop_all {p : UInt8 → Bool} : ∀ (l : List UInt8), l.dropWhile p = [] ↔ l.all p = true
  | [] => by simp
  | x :: l => by
    rw [List.dropWhile_cons, List.all_cons]
    cases hp : p x
    · simp
    · simp [drop_all l]
theorem trim_all (t : List UInt8) : (Lib.trimS t hexD == []) = t.all fun c => (valH c).isSome := by
  have hp : (fun c => hexD.contains c) = fun c => (valH c).isSome := funext hex_cut
  have h1 : Lib.trimS t hexD = [] ↔ t.all (fun c => (valH c).isSome) = true := by
    unfold Lib.trimS Lib.trimLeftS Lib.trimRightS
    rw [← hp]
    constructor
    · intro h
      have h2 := (drop_all _).1 h
      rw [List.all_eq_true] at h2 ⊢
      intro x hx
      by_cases hd : (t.reverse.dropWhile fun c => hexD.contains c) = []
      · have := (drop_all _).1 hd
        rw [List.all_eq_true] at this
        exact this x (List.mem_reverse.2 hx)
      · exfalso
        have h3 : ∀ y ∈ t.reverse.dropWhile (fun c => hexD.contains c), hexD.contains y = true := fun y hy => h2 y (List.mem_reverse.2 hy)
        have h4 := List.head_dropWhile_not (p := fun c => hexD.contains c) (l := t.reverse) hd
        have h5 := h3 _ (List.head_mem hd)
        rw [h5] at h4
        cases h4
    · intro h
      have h2 : t.reverse.dropWhile (fun c => hexD.contains c) = [] := (drop_all _).2 (by rw [List.all_reverse]; exact h)
      rw [h2]; rfl
  rw [Bool.eq_iff_iff, beq_iff_eq]
  exact h1
theorem trim_any (t : List UInt8) (w : World) (ht : t.length ≤ 1000000000) : Calls Tryz.prog 164 #[strV t, .string ⟨#[48, 49, 50, 51, 52, 53, 54, 55, 56, 57, 97, 98, 99, 100, 101, 102]⟩] w fun e w' => e = .returned (strV (Lib.trimS t hexD)) ∧ Below w.heap.size w w' := by
  have h := Any.strings_Trim_laid Tryz.lays160 (by kernel_rfl) ⟨t.toArray⟩ ⟨hexD.toArray⟩ w (by rw [mk_size]; omega) (by decide) (fun j b hb => by
    have : ∀ b ∈ hexD, b.toNat < 128 := by decide
    exact this b (List.mem_of_getElem? hb))
  exact h
set_option maxHeartbeats 1000000 in
theorem digits_any (t : List UInt8) (w : World) (ht : t.length ≤ 1000000000) : Calls Tryz.prog 117 #[strV t] w fun e w' => e = .returned (.bool (digB t)) ∧ Below w.heap.size w w' := by
  unfold digB
  by_cases h : t.length = 16
  · have d1 : ((t.length : Int) == 16) = true := by simp; omega
    have e1 : (t.length == 16) = true := by simpa using h
    have ht2 := trim_all t
    rw [e1, Bool.true_and, ← ht2]
    clear ht2 e1 h
    go_enter Tryz.func117, Tryz.ntmps117
    go_wp2_with fail
    refine (trim_any t _ ht).mono ?_
    rintro e w1 ⟨rfl, hb⟩
    have HB := Lib.hid hb; clear hb
    obtain ⟨z, hz⟩ : ∃ z, Lib.trimS t hexD = z := ⟨_, rfl⟩
    rw [hz]
    go_wp2_with fail
    go_ret
    exact ⟨by rw [hz]; simp, HB.out⟩
  · have d1 : ((t.length : Int) == 16) = false := by simp; omega
    have e1 : (t.length == 16) = false := by simpa using h
    rw [e1, Bool.false_and]
    clear e1 h
    go_enter Tryz.func117, Tryz.ntmps117
    go_wp2_with fail
    go_ret
    exact ⟨rfl, Below.refl _ _⟩
theorem lastI_at (a b : List UInt8) (h : (9 : UInt8) ∉ b) : Lib.lastIndexByte ⟨(a ++ 9 :: b).toArray⟩ 9 = (a.length : Int) := by
  have hb : ∀ (j : Nat) (hj : j < (a ++ 9 :: b).length), (⟨(a ++ 9 :: b).toArray⟩ : ByteArray).data[j]! = (a ++ 9 :: b)[j] := fun j hj => by
    show (a ++ 9 :: b).toArray[j]! = _
    rw [getElem!_pos _ _ (by simpa using hj)]; simp
  have hsz : (⟨(a ++ 9 :: b).toArray⟩ : ByteArray).size = a.length + 1 + b.length := by rw [mk_size]; simp; omega
  rcases Lib.lastIndexByte_spec ⟨(a ++ 9 :: b).toArray⟩ 9 with ⟨_, hn⟩ | ⟨i, hi, e, hc, hn⟩
  · have := hn a.length (by rw [hsz]; omega)
    rw [hb a.length (by simp)] at this
    simp at this
  · rw [e]
    rw [hsz] at hi
    rcases Nat.lt_trichotomy i a.length with h1 | h1 | h1
    · have := hn a.length h1 (by rw [hsz]; omega)
      rw [hb a.length (by simp)] at this
      simp at this
    · rw [h1]
    · exfalso
      rw [hb i (by simp; omega)] at hc
      rw [List.getElem_append_right (by omega)] at hc
      obtain ⟨k, hk⟩ : ∃ k, i - a.length = k + 1 := ⟨i - a.length - 1, by omega⟩
      have hkb : k < b.length := by omega
      have e2 : (9 :: b)[i - a.length]'(by simp; omega) = b[k] := by simp [hk]
      rw [e2] at hc
      apply h
      have : b[k] = 9 := UInt8.toNat.inj (by simpa using Int.ofNat.inj (by simpa using hc))
      rw [← this]; exact List.getElem_mem _
theorem lastI_no (t : List UInt8) (h : (9 : UInt8) ∉ t) : Lib.lastIndexByte ⟨t.toArray⟩ 9 = -1 := by
  rcases Lib.lastIndexByte_spec ⟨t.toArray⟩ 9 with ⟨e, _⟩ | ⟨i, hi, e, hc, hn⟩
  · exact e
  · exfalso
    have hi' : i < t.length := by simpa [mk_size] using hi
    have hb : (⟨t.toArray⟩ : ByteArray).data[i]! = t[i] := by
      show t.toArray[i]! = _
      rw [getElem!_pos _ _ (by simpa using hi')]; simp
    rw [hb] at hc
    apply h
    have : t[i] = 9 := UInt8.toNat.inj (by simpa using Int.ofNat.inj (by simpa using hc))
    rw [← this]; exact List.getElem_mem _
end
section
set_option maxRecDepth 100000
open Go.RowKit Cal
attribute [local go_sem] toList_mk mk_size str_append
theorem rowR_len {s : SchemaL} {r : RecL} (h : checkI s r = 0) (h5 : s.fields.length ≤ 5) : (rowR r).length ≤ 520 := by
  have := lineR_len h h5
  unfold rowR
  rw [List.length_append, List.length_cons, sumT_len]
  omega
theorem rowsT_len : ∀ (X : List (List UInt8)) (m : Nat), (∀ x ∈ X, x.length ≤ m) → (rowsT X).length ≤ X.length * (m + 1)
  | [], m, _ => by simp [rowsT]
  | x :: X, m, h => by
    have h1 := h x List.mem_cons_self
    have h2 := rowsT_len X m fun y hy => h y (List.mem_cons_of_mem _ hy)
    have e : rowsT (x :: X) = x ++ 10 :: rowsT X := by have := rowsT_cons x X []; simpa using this
    rw [e, List.length_append, List.length_cons, List.length_cons, Nat.add_mul, Nat.one_mul]
    omega
theorem follows_len {s : SchemaL} {R : List RecL} (h : allN s R = 0) (h5 : s.fields.length ≤ 5) (j : Nat) : (rowsT ((R.take j).map rowR)).length ≤ 64 * 521 := by
  obtain ⟨h0, h1, h2⟩ := allN_ok h
  have := rowsT_len ((R.take j).map rowR) 520 fun x hx => by
    obtain ⟨r, hr, rfl⟩ := List.mem_map.1 hx
    have := h2 r (List.mem_of_mem_take hr)
    unfold checkN at this
    rw [if_pos h0] at this
    exact rowR_len this h5
  rw [List.length_map, List.length_take] at this
  have : min j R.length ≤ 64 := by omega
  omega
end
section
set_option maxRecDepth 100000
open Go.RowKit
attribute [local go_sem] toList_mk mk_size str_append
/-- the error that goes with a text: none exactly if it is a number -/
def ErrIs (b : Bool) (er : Value) : Prop := if b = true then er = .nilIface else ∃ te pe, er = .iface te pe
theorem atoi_full (t : List UInt8) (ht : t.length ≤ 1000000000) (w : World) (hv : VarsAt w) : Calls Tryz.prog 54 #[strV t] w fun e w' => (∃ er, e = .returned (.tuple #[.int .i64 (atoiV t), er]) ∧ ErrIs (isNum t) er) ∧ Below w.heap.size w w' := by
  have hsz : (⟨t.toArray⟩ : ByteArray).size = t.length := by simp [ByteArray.size]
  have hd : (⟨t.toArray⟩ : ByteArray).data.toList = t := by simp
  unfold atoiV isNum ErrIs
  cases h : Lib.atoiAll t with
  | ok v =>
    refine (Tryz.strconv_Atoi_ok ⟨t.toArray⟩ (by rw [hsz]; omega) v (by rw [hd]; exact h) w).mono ?_
    rintro e w' ⟨rfl, hw⟩
    refine ⟨⟨_, rfl, rfl⟩, ?_⟩
    rcases hw with rfl | ⟨t, rfl⟩
    · exact Below.refl _ _
    · exact Lib.bytesWorld_below _ _ _
  | range =>
    obtain ⟨ev, h1, h2⟩ := hv.e1
    refine (Tryz.strconv_Atoi_range ⟨t.toArray⟩ (by rw [hsz]; omega) (by rw [hd]; exact h) ev w h1 h2).mono ?_
    rintro e w' ⟨N, rfl, -, -, hb⟩
    rw [hd]
    exact ⟨⟨_, rfl, _, _, rfl⟩, hb⟩
  | _ =>
    obtain ⟨ev, h1, h2⟩ := hv.e0
    refine (Tryz.strconv_Atoi_syntax ⟨t.toArray⟩ (by rw [hsz]; omega) (by rw [hd]; exact h) ev w h1 h2).mono ?_
    rintro e w' ⟨N, rfl, -, -, hb⟩
    exact ⟨⟨_, rfl, _, _, rfl⟩, hb⟩
theorem atoiAll_big : ∀ (t : List UInt8) (v : Int), Lib.atoiAll t = .ok v → v ≤ 9223372036854775807
  | [], v, h => by cases h
  | c :: r, v, h => by
    unfold Lib.atoiAll at h
    dsimp only at h
    generalize Lib.parseMag (if c.toNat = 43 ∨ c.toNat = 45 then r else c :: r) = m at h
    cases m with
    | ok u =>
      dsimp only at h
      by_cases g1 : ¬ c.toNat = 45 ∧ 9223372036854775808 ≤ u
      · rw [if_pos g1] at h; cases h
      · rw [if_neg g1] at h
        by_cases g2 : c.toNat = 45 ∧ 9223372036854775808 < u
        · rw [if_pos g2] at h; cases h
        · rw [if_neg g2] at h
          have e := Lib.NumEnd.ok.inj h
          by_cases g3 : c.toNat = 45
          · rw [if_pos g3] at e; omega
          · rw [if_neg g3] at e; omega
    | range => cases h
    | _ => cases h
theorem atoiV_big {t : List UInt8} (h : isNum t = true) : atoiV t ≤ 9223372036854775807 := by
  unfold isNum at h
  cases h1 : Lib.atoiAll t with
  | ok v =>
    unfold atoiV
    rw [h1]
    exact atoiAll_big t v h1
  | range => rw [h1] at h; cases h
  | _ => rw [h1] at h; cases h
set_option maxHeartbeats 4000000 in
theorem rnum_any (t : List UInt8) (w : World) (ht : t.length ≤ 1000000000) (hv : VarsAt w) :
    Calls Tryz.prog 124 #[strV t] w fun e w' => e = .returned (.tuple #[.int .i64 (atoiV t), .bool (numOk t)]) ∧ Below w.heap.size w w' := by
  have HV := Lib.hid hv
  have hat := fun w hw => atoi_full t ht w hw
  have hbig := @atoiV_big t
  obtain ⟨z, hz⟩ : ∃ z, atoiV t = z := ⟨_, rfl⟩
  unfold numOk
  rw [hz] at hat hbig ⊢
  clear hv hz
  cases hn : isNum t
  · rw [hn] at hat
    have HA := Lib.hid hat
    rw [Bool.false_and]
    clear hat hn hbig
    go_enter Tryz.func124, Tryz.ntmps124
    go_wp2_with fail
    refine (HA.out _ HV.out).mono ?_
    rintro e w1 ⟨⟨er, rfl, te, pe, rfl⟩, hb⟩
    have HB := Lib.hid hb
    clear hb
    go_wp2_with fail
    go_ret2
    exact ⟨rfl, HB.out⟩
  · rw [hn] at hat
    have hzb := hbig hn
    have HA := Lib.hid hat
    rw [Bool.true_and]
    clear hat hn hbig
    by_cases h7 : t.length ≤ 7
    · have d7 : decide ((t.length : Int) ≤ 7) = true := decide_eq_true (by omega)
      rw [decide_eq_true h7, Bool.true_and]
      by_cases h0 : 0 ≤ z
      · have d0 : decide ((0 : Int) ≤ z) = true := decide_eq_true h0
        rw [d0, Bool.true_and]
        obtain ⟨n, rfl⟩ := Int.eq_ofNat_of_zero_le h0
        have hit := fun w hw => itoa_any n (by omega) w hw
        rw [Int.toNat_natCast]
        obtain ⟨y, hy⟩ : ∃ y, Lib.decDigits n = y := ⟨_, rfl⟩
        rw [hy] at hit ⊢
        have HI := Lib.hid hit
        clear hit hy h0 h7
        go_enter Tryz.func124, Tryz.ntmps124
        go_wp2_with fail
        refine (HA.out _ HV.out).mono ?_
        rintro e w1 ⟨⟨er, rfl, her⟩, hb⟩
        have her' : er = .nilIface := her
        subst her'
        have HB := Lib.hid hb
        clear hb her
        go_wp2_with fail
        refine (HI.out _ (HV.out.old HB.out)).mono ?_
        rintro e w2 ⟨rfl, hb⟩
        have HB2 := Lib.hid (HB.out.trans (hb.mono HB.out.size))
        clear hb
        go_wp2_with fail
        go_ret2
        exact ⟨rfl, HB2.out⟩
      · have d0 : decide ((0 : Int) ≤ z) = false := decide_eq_false h0
        rw [d0, Bool.false_and]
        clear h0 h7
        go_enter Tryz.func124, Tryz.ntmps124
        go_wp2_with fail
        refine (HA.out _ HV.out).mono ?_
        rintro e w1 ⟨⟨er, rfl, her⟩, hb⟩
        have her' : er = .nilIface := her
        subst her'
        have HB := Lib.hid hb
        clear hb her
        go_wp2_with fail
        go_ret2
        exact ⟨rfl, HB.out⟩
    · have d7 : decide ((t.length : Int) ≤ 7) = false := decide_eq_false (by omega)
      rw [decide_eq_false h7, Bool.false_and]
      clear h7
      go_enter Tryz.func124, Tryz.ntmps124
      go_wp2_with fail
      refine (HA.out _ HV.out).mono ?_
      rintro e w1 ⟨⟨er, rfl, her⟩, hb⟩
      have her' : er = .nilIface := her
      subst her'
      have HB := Lib.hid hb
      clear hb her
      go_wp2_with fail
      go_ret2
      exact ⟨rfl, HB.out⟩
end
section
set_option maxRecDepth 100000
open Go.RowKit
attribute [local go_sem] toList_mk mk_size
theorem BitsAt.none (w : World) (S : Nat → Prop) : BitsAt w S (.agg #[.int .i64 0, .slice none 0 0]) noBits := ⟨_, rfl, Vec.nil _ _ _ _⟩
end
section
set_option maxRecDepth 100000
open Go.RowKit Cal
attribute [local go_sem] toList_mk mk_size str_append
theorem BitsVec.nil (w : World) (S : Nat → Prop) : BitsVec w S (.slice none 0 0) [] := ⟨[], Vec.nil _ _ _ _, rfl, fun n h1 _ => by simp at h1⟩
end
section
set_option maxRecDepth 100000
open Go.RowKit Cal
attribute [local go_sem] toList_mk mk_size str_append
def noEnc : EncL := ⟨0, 0, []⟩
theorem splC_mem (c : UInt8) : ∀ (l p : List UInt8) (t : List UInt8), t ∈ splC c p l → t.length ≤ p.length + l.length
  | [], p, t, h => by simp [splC] at h; subst h; simp
  | x :: r, p, t, h => by
    rw [splC] at h
    split at h
    · rcases List.mem_cons.1 h with rfl | h1
      · simp
      · have := splC_mem c r [] t h1; simp at this; simp; omega
    · have := splC_mem c r (p ++ [x]) t h; simp at this; simp; omega
theorem splC_few (c : UInt8) : ∀ (l p : List UInt8), (splC c p l).length ≤ l.length + 1
  | [], p => by simp [splC]
  | x :: r, p => by
    rw [splC]
    split
    · have := splC_few c r []; simp; omega
    · have := splC_few c r (p ++ [x]); simp; omega
theorem EncVal.none (w : World) (S : Nat → Prop) : EncVal w S (.agg #[.int .i64 0, .int .i64 0, .slice none 0 0]) noEnc := ⟨_, rfl, BitsVec.nil _ _⟩
end
section
set_option maxRecDepth 100000
open Go.RowKit Cal
attribute [local go_sem] toList_mk mk_size str_append
theorem RecVal.none (w : World) (S : Nat → Prop) : RecVal w S (.agg #[.int .i64 0, .int .i64 0, .slice none 0 0]) noRec := ⟨_, rfl, Vec.nil _ _ _ _⟩
/-- the words behind the first two, in blocks of S -/
theorem RowB.from2S {w : World} {S : Nat → Prop} {A : Nat} {L : List (List UInt8)} (h : RowB w A L) (hS : S A) (h2 : 2 < L.length) (c : Nat) (hc : L.length - 2 ≤ c) : Vec w S 1 encS (.slice (some ⟨A, 2, none⟩) (L.length - 2) c) (L.drop 2) := by
  refine ⟨_, c, by rw [List.length_drop], by rw [List.length_drop]; exact hc, fun h0 => ⟨A, 2, rfl, hS, lt_of_blk h, fun j x hj i u hu => ?_⟩⟩
  have hi : i = 0 ∧ u = strV x := by
    cases i with
    | zero => exact ⟨rfl, by simpa [encS] using hu.symm⟩
    | succ i => simp [encS] at hu
  obtain ⟨rfl, rfl⟩ := hi
  rw [List.getElem?_drop] at hj
  have hlt : 2 + j < L.length := (List.getElem?_eq_some_iff.1 hj).1
  have := RowB.cell h (2 + j) hlt
  rw [show L.getD (2 + j) [] = x by simp [List.getD, hj]] at this
  rw [Nat.mul_one, Nat.add_zero]; exact this
def RecParsed (p : RecL × Int) (w : World) (e : Ending) (w' : World) : Prop := ∃ v, e = .returned (.tuple #[v, .int .i64 p.2]) ∧ RecVal w' (fun b => w.heap.size ≤ b) v p.1 ∧ Below w.heap.size w w'
theorem checkI_two (s : SchemaL) (r : RecL) : checkI s r = 0 ∨ checkI s r = 7 := by unfold checkI; split; exact .inl rfl; exact .inr rfl
theorem RecParsed.bad {w w6 : World} {er : Int} (hb : Below w.heap.size w w6) {z : Nat} (hz : w.heap.size ≤ z) : RecParsed (noRec, er) w (.returned (.tuple #[.agg #[.int .i64 0, .int .i64 0, .slice none 0 0], .int .i64 er])) (((w6.setCell ⟨z, 0, none⟩ (.int .i64 0)).setCell ⟨z, 1, none⟩ (.int .i64 0)).setCell ⟨z, 2, none⟩ (.slice none 0 0)) :=
  ⟨_, rfl, RecVal.none _ _, ((hb.setCell (p := ⟨z, 0, none⟩) hz _).setCell (p := ⟨z, 1, none⟩) hz _).setCell (p := ⟨z, 2, none⟩) hz _⟩
set_option maxHeartbeats 16000000 in
theorem precparse_any (S : Nat → Prop) (vf vt vn vs : Value) (s : SchemaL) (t : List UInt8) (w : World) (h : SchemaAt w S vf vt vn vs s) (hc : checkS s = 0) (hvr : VarsAt w) (ht : t.length ≤ 100000) :
    Calls Tryz.prog 74 #[.agg #[vf, vt, vn, vs], strV t] w (RecParsed (parseR s t) w) := by
  have hsz := fun x hx => splC_mem 9 t [] x hx
  have hfw := splC_few 9 t []
  have h5 := (check_fields hc).1.2
  have h15 := (check_fields hc).1.1
  obtain ⟨R, hR⟩ : ∃ R, parseR s t = R := ⟨_, rfl⟩
  obtain ⟨L, hL⟩ : ∃ L, splC 9 [] t = L := ⟨_, rfl⟩
  rw [hR]
  unfold parseR parseW at hR
  rw [hL] at hR hsz hfw
  obtain ⟨af, cf, rfl⟩ := h.1.slice
  obtain ⟨n, hn⟩ : ∃ n, L.length = n := ⟨_, rfl⟩
  obtain ⟨N, hN⟩ : ∃ N, s.fields.length = N := ⟨_, rfl⟩
  rw [hn] at hR hfw
  rw [hN] at hR h5 h15 h
  rw [hN]
  have Hn := Lib.hid hn; have HNN := Lib.hid hN
  clear hn hN
  have HSc := Lib.hid h; have HVr := Lib.hid hvr; have HL := Lib.hid hL; have HSz := Lib.hid hsz; have HR := Lib.hid hR
  clear hvr hL hsz hR h hc
  go_enter Tryz.func74, Tryz.ntmps74
  go_wp2_with fail
  refine wp_calls_world (fun W hW => ?_)
  have hb0 : Below w.heap.size w W := by rw [hW]; exact ((Below.refl w.heap.size w).alloc (Nat.le_refl _) _).alloc (by simp) _
  have hs0 : W.heap[w.heap.size]? = some (.cells #[.slice af N cf, vt, vn, vs] 33 (0, 0)) := by rw [hW]; exact blk_old (blk_new rfl)
  have hz0 : W.heap[w.heap.size + 1]? = some (.cells #[.int .i64 0, .int .i64 0, .slice none 0 0] 48 (0, 0)) := by rw [hW]; exact blk_new (by simp)
  clear hW
  refine (split_any 9 t W (HVr.out.old hb0).m (by omega)).mono ?_
  rw [HL.out, Hn.out]
  rintro e w1 ⟨rfl, hrow, hb⟩
  have hz1 := blk_below hb (lt_of_blk hz0) hz0; have hs1 := blk_below hb (lt_of_blk hs0) hs0
  have HB1 := Lib.hid (hb0.trans (hb.mono hb0.size)); have HZ1 := Lib.hid hz1; have HS1 := Lib.hid hs1; have HRow := Lib.hid hrow
  have zW := hb0.size; have zh := lt_of_blk hz0
  obtain ⟨s0, s1, s2, s3⟩ := cellsS hs1
  obtain ⟨z0, z1, z2⟩ := cells3 hz1
  have f0 := frozen_of_row _ _ 0 _ _ hz1; have f1 := frozen_of_row _ _ 1 _ _ hz1; have f2 := frozen_of_row _ _ 2 _ _ hz1
  have lz := lt_of_blk hz1
  clear hb hb0 hz0 hz1 hrow hs0 hs1
  have hwl : IntKind.i64.wrap ((N : Int) + 2) = (N : Int) + 2 := by rw [IntKind.wrap_i64]; omega
  by_cases hl : n = N + 2
  · have d2 : ((n : Int) != (N : Int) + 2) = false := by simp; omega
    have hRn := HR.out
    rw [if_pos hl] at hRn
    have c0 := RowB.cell HRow.out 0 (by rw [Hn.out]; omega)
    have c1 := RowB.cell HRow.out 1 (by rw [Hn.out]; omega)
    obtain ⟨x, hx⟩ : ∃ x, L.getD 0 [] = x := ⟨_, rfl⟩
    obtain ⟨y, hy⟩ : ∃ y, L.getD 1 [] = y := ⟨_, rfl⟩
    have hxl : x.length ≤ 1000000000 := by have := HSz.out (L.getD 0 []) (by rw [getD_at _ _ (show 0 < L.length by rw [Hn.out]; omega)]; exact List.getElem_mem _); rw [hx] at this; simp at this; omega
    have hyl : y.length ≤ 1000000000 := by have := HSz.out (L.getD 1 []) (by rw [getD_at _ _ (show 1 < L.length by rw [Hn.out]; omega)]; exact List.getElem_mem _); rw [hy] at this; simp at this; omega
    have hrw : recW L = ⟨atoiV x, atoiV y, L.drop 2⟩ := by unfold recW; rw [hx, hy]
    rw [hx, hy, hrw] at hRn
    rw [hx] at c0; rw [hy] at c1
    have i0 : (0 : Int) < (n : Int) := by omega
    have i1 : (1 : Int) < (n : Int) := by omega
    have i2 : (2 : Int) ≤ (n : Int) := by omega
    have hv1 := HVr.out.old HB1.out
    have lrow := lt_of_blk HRow.out
    obtain ⟨bx, hbx⟩ : ∃ b, numOk x = b := ⟨_, rfl⟩
    obtain ⟨by_, hby⟩ : ∃ b, numOk y = b := ⟨_, rfl⟩
    have hn1 := fun w hw => rnum_any x w hxl hw
    have hn2 := fun w hw => rnum_any y w hyl hw
    rw [hbx] at hn1 hRn; rw [hby] at hn2 hRn
    have HN1 := Lib.hid hn1; have HN2 := Lib.hid hn2; have HRn := Lib.hid hRn; have HLl := Lib.hid hl
    have hl3 : 2 < n := by omega
    have hn7 : n ≤ 7 := by omega
    clear hx hy HR hn1 hn2 hbx hby hRn hrw hl
    go_wp2_with fail
    refine (HN1.out _ hv1).mono ?_
    rintro e w2 ⟨rfl, hb2⟩
    have c1' := (hb2.cell (p := ⟨W.heap.size, 1, none⟩) lrow).trans c1
    have HZ2 := Lib.hid (blk_below hb2 (lt_of_blk HZ1.out) HZ1.out); have HS2 := Lib.hid (blk_below hb2 (lt_of_blk HS1.out) HS1.out)
    have HRow2 := Lib.hid (show RowB w2 W.heap.size L from blk_below hb2 lrow HRow.out)
    have HB2 := Lib.hid (HB1.out.trans (hb2.mono HB1.out.size))
    have hv2 := HVr.out.old HB2.out
    have lrow2 := lt_of_blk HRow2.out
    clear hb2 hv1 c0 c1 HZ1 HRow HS1 s0 s1 s2 s3 z0 z1 z2 f0 f1 f2
    go_wp2_with fail
    refine (HN2.out _ hv2).mono ?_
    rintro e w3 ⟨rfl, hb3⟩
    have HZ3 := Lib.hid (blk_below hb3 (lt_of_blk HZ2.out) HZ2.out); have HS3 := Lib.hid (blk_below hb3 (lt_of_blk HS2.out) HS2.out)
    have HRow3 := Lib.hid (show RowB w3 W.heap.size L from blk_below hb3 lrow2 HRow2.out)
    have HB3 := Lib.hid (HB2.out.trans (hb3.mono HB2.out.size))
    have hz1 := HZ3.out
    obtain ⟨z0, z1, z2⟩ := cells3 hz1
    have f0 := frozen_of_row _ _ 0 _ _ hz1; have f1 := frozen_of_row _ _ 1 _ _ hz1; have f2 := frozen_of_row _ _ 2 _ _ hz1
    have lz3 := lt_of_blk hz1
    have hrow3 := lt_of_blk HRow3.out
    clear hb3 hv2 c1' HZ2 HRow2 HS2 hz1
    have hbad : ∀ b, b = false → (bx && by_) = b → R = (noRec, 14) := fun b h1 h2 => by
      have h3 := HRn.out
      rw [h2, h1] at h3
      simpa using h3.symm
    cases hbx : bx
    · have HRe := Lib.hid (hbad false rfl (by rw [hbx]; rfl))
      subst hbx
      clear hbad HRn
      go_wp2_with fail
      rw [HRe.out]
      exact bodyPost_row2 rfl rfl (blk_set (i := 2) (v := .slice none 0 0) (blk_set (i := 1) (v := .int .i64 0) (blk_set (i := 0) (v := .int .i64 0) HZ3.out))) Tryz.underlying48 rfl (by kernel_rfl) (RecParsed.bad HB3.out (Nat.le_succ _))
    cases hby : by_
    · have HRe := Lib.hid (hbad false rfl (by rw [hbx, hby]; rfl))
      subst hbx hby
      clear hbad HRn
      go_wp2_with fail
      rw [HRe.out]
      exact bodyPost_row2 rfl rfl (blk_set (i := 2) (v := .slice none 0 0) (blk_set (i := 1) (v := .int .i64 0) (blk_set (i := 0) (v := .int .i64 0) HZ3.out))) Tryz.underlying48 rfl (by kernel_rfl) (RecParsed.bad HB3.out (Nat.le_succ _))
    subst hbx hby
    have hRn := HRn.out
    rw [if_pos (by rfl)] at hRn
    obtain ⟨Z, hZ⟩ : ∃ Z : RecL, (⟨atoiV x, atoiV y, L.drop 2⟩ : RecL) = Z := ⟨_, rfl⟩
    rw [hZ] at hRn
    have HRf := Lib.hid hRn; have HZZ := Lib.hid hZ
    have hdl : ∀ u ∈ L.drop 2, u.length ≤ 1000000 := fun u hu => by have := HSz.out u (List.mem_of_mem_drop hu); simp at this; omega
    have hdn : (L.drop 2).length ≤ 5 := by rw [List.length_drop, Hn.out]; omega
    have HDl := Lib.hid hdl; have HDn := Lib.hid hdn
    clear hbad HRn hRn hZ hdl hdn
    have hs3 := HS3.out
    have hvec : Vec w3 (fun b => w.heap.size + 1 < b) 1 encS (.slice (some ⟨W.heap.size, 2, none⟩) (n - 2) (n - 2)) (L.drop 2) := by have := HRow3.out.from2S (S := fun b => w.heap.size + 1 < b) (by omega) (by rw [Hn.out]; omega) (L.length - 2) (Nat.le_refl _); rwa [Hn.out] at this
    have HVec := Lib.hid hvec
    obtain ⟨s0, s1, s2, s3⟩ := cellsS hs3
    have ls3 := lt_of_blk hs3
    have hb3' := HB3.out.size
    clear hvec hs3
    go_wp2_with fail
    refine wp_calls_world (fun W5 hW5 => ?_)
    have hb5 : Below w3.heap.size w3 W5 := by rw [hW5]; exact (Below.refl w3.heap.size w3).alloc (Nat.le_refl _) _
    have hx5 : W5.heap[w3.heap.size]? = some (.cells #[.int .i64 (atoiV x), .int .i64 (atoiV y), .slice (some ⟨W.heap.size, 2, none⟩) (n - 2) (n - 2)] 48 (0, 0)) := by rw [hW5]; exact blk_new rfl
    clear hW5
    have hck := rchk_any S (.slice af N cf) vt vn vs s Z (.slice (some ⟨W.heap.size, 2, none⟩) (n - 2) (n - 2)) W5 (HSc.out.below (HB3.out.trans (hb5.mono HB3.out.size))) (by rw [← HZZ.out]; exact (HVec.out.below hb5).any) (by rw [← HZZ.out]; exact HDl.out) (by rw [← HZZ.out]; show (L.drop 2).length ≤ _; have := HDn.out; omega)
    rw [← HZZ.out] at hck
    dsimp only at hck
    rw [HZZ.out] at hck
    refine hck.mono ?_
    rintro e w6 ⟨rfl, hb⟩
    have hx6 := blk_below hb (lt_of_blk hx5) hx5
    have hz5 := blk_below hb5 (lt_of_blk HZ3.out) HZ3.out
    have hz6 := blk_below hb (lt_of_blk hz5) hz5
    have HB6 := Lib.hid ((HB3.out.trans (hb5.mono HB3.out.size)).trans (hb.mono (Nat.le_trans HB3.out.size hb5.size)))
    have HV6 := Lib.hid ((HVec.out.below hb5).below hb)
    have HX6 := Lib.hid hx6; have HZ6 := Lib.hid hz6
    obtain ⟨x0, x1, x2⟩ := cells3 hx6
    obtain ⟨z0, z1, z2⟩ := cells3 hz6
    have f0 := frozen_of_row _ _ 0 _ _ hz6; have f1 := frozen_of_row _ _ 1 _ _ hz6; have f2 := frozen_of_row _ _ 2 _ _ hz6
    have lz6 := lt_of_blk hz6; have lx := lt_of_blk hx6
    clear hb hb5 hx5 hx6 hz5 hz6 hck s0 s1 s2 s3
    rcases checkI_two s Z with h0 | h7
    · have hRf := HRf.out
      rw [if_pos h0] at hRf
      have HRe := Lib.hid hRf
      rw [h0]
      have d00 : ((0 : Int) != 0) = false := rfl
      clear h0 hRf HRf
      go_wp2_with fail
      rw [← HRe.out, ← HZZ.out]
      refine bodyPost_row2 rfl rfl (blk_set (i := 2) (v := .slice (some ⟨W.heap.size, 2, none⟩) (n - 2) (n - 2)) (blk_set (i := 1) (v := .int .i64 (atoiV y)) (blk_set (i := 0) (v := .int .i64 (atoiV x)) HZ6.out))) Tryz.underlying48 rfl (by kernel_rfl) ?_
      refine ⟨_, rfl, ⟨_, rfl, ?_⟩, ((HB6.out.setCell (p := ⟨w.heap.size + 1, 0, none⟩) (Nat.le_succ _) _).setCell (p := ⟨w.heap.size + 1, 1, none⟩) (Nat.le_succ _) _).setCell (p := ⟨w.heap.size + 1, 2, none⟩) (Nat.le_succ _) _⟩
      refine HV6.out.move (by simp [World.setCell]) fun b hb hs => ?_
      have hs' : w.heap.size + 1 < b := hs
      exact ⟨((heap_setCell_other _ _ _ _ (by show b ≠ w.heap.size + 1; omega)).trans (heap_setCell_other _ _ _ _ (by show b ≠ w.heap.size + 1; omega))).trans (heap_setCell_other _ _ _ _ (by show b ≠ w.heap.size + 1; omega)), by show w.heap.size ≤ b; omega⟩
    · have hRf := HRf.out
      rw [if_neg (by rw [h7]; decide), h7] at hRf
      have HRe := Lib.hid hRf
      rw [h7]
      have d77 : ((7 : Int) != 0) = true := rfl
      clear h7 hRf HRf
      go_wp2_with fail
      rw [← HRe.out]
      exact bodyPost_row2 rfl rfl (blk_set (i := 2) (v := .slice none 0 0) (blk_set (i := 1) (v := .int .i64 0) (blk_set (i := 0) (v := .int .i64 0) HZ6.out))) Tryz.underlying48 rfl (by kernel_rfl) (RecParsed.bad HB6.out (Nat.le_succ _))
  · have d2 : ((n : Int) != (N : Int) + 2) = true := by simp; omega
    have hRn := HR.out
    rw [if_neg hl] at hRn
    subst hRn
    clear hl
    go_wp2_with fail
    exact bodyPost_row2 rfl rfl (blk_set (i := 2) (v := .slice none 0 0) (blk_set (i := 1) (v := .int .i64 0) (blk_set (i := 0) (v := .int .i64 0) HZ1.out))) Tryz.underlying48 rfl (by kernel_rfl) (RecParsed.bad HB1.out (Nat.le_succ _))
end
section
set_option maxRecDepth 100000
open Go.RowKit Cal
attribute [local go_sem] toList_mk mk_size str_append
theorem ext_drop (a b : List UInt8) (n : Nat) (hn : n = (a ++ 9 :: b).length) : (⟨(a ++ 9 :: b).toArray⟩ : ByteArray).extract (a.length + 1) n = ⟨b.toArray⟩ := by
  subst hn
  apply ByteArray.ext
  rw [ByteArray.data_extract]
  simp
  exact List.take_of_length_le (by omega)
theorem lastIx_any (t : List UInt8) (w : World) (ht : t.length ≤ 1000000000) : Calls Tryz.prog 116 #[strV t, .int .u8 9] w fun e w' => e = .returned (.int .i64 (Lib.lastIndexByte ⟨t.toArray⟩ 9)) ∧ w' = w := Tryz.strings_LastIndexByte ⟨t.toArray⟩ 9 (by rw [mk_size]; omega) w
set_option maxHeartbeats 16000000 in
theorem rtake_any (S T : Nat → Prop) (vf vt vn vs lv : Value) (s : SchemaL) (l : List RecL) (row : List UInt8) (w : World) (h : SchemaAt w S vf vt vn vs s) (hc : checkS s = 0) (hl : RecsVec w T lv l) (hl6 : l.length ≤ 64) (hvr : VarsAt w) (hdb : DbAt w) (ht : row.length ≤ 50000) :
    Calls Tryz.prog 67 #[.agg #[vf, vt, vn, vs], lv, strV row] w (RecParsed (takeN s l row) w) := by
  obtain ⟨R, hR⟩ : ∃ R, takeN s l row = R := ⟨_, rfl⟩
  rw [hR]
  unfold takeN at hR
  obtain ⟨al, cl, rfl⟩ := hl.slice
  have HSc := Lib.hid h; have HVr := Lib.hid hvr; have HDb := Lib.hid hdb; have HC := Lib.hid hc; have HL := Lib.hid hl
  clear hvr h hc hdb hl
  cases hcut : cutLast 9 row with
  | none =>
    rw [hcut] at hR
    have hR : (noRec, 14) = R := hR
    subst hR
    have hix := lastI_no row (cutLast_none hcut)
    have hcall := fun w => lastIx_any row w (by omega)
    rw [hix] at hcall
    have HI := Lib.hid hcall
    clear hcut hix hcall
    go_enter Tryz.func67, Tryz.ntmps67
    go_wp2_with fail
    refine (HI.out _).mono ?_
    rintro e w1 ⟨rfl, rfl⟩
    go_wp2_with fail
    refine bodyPost_row2 rfl rfl (blk_new (by simp)) Tryz.underlying48 rfl (by kernel_rfl) ⟨_, rfl, RecVal.none _ _, ?_⟩
    exact ((Below.refl w.heap.size w).alloc (Nat.le_refl _) _).alloc (by simp) _
  | some ab =>
    obtain ⟨a, b⟩ := ab
    obtain ⟨hrow, hno⟩ := cutLast_some hcut
    rw [hcut] at hR
    dsimp only at hR
    subst hrow
    have hix := lastI_at a b hno
    have hcall := fun w => lastIx_any (a ++ 9 :: b) w (by omega)
    rw [hix] at hcall
    have hlen : a.length + 1 + b.length ≤ 50000 := by simp at ht; omega
    have hx1 := ext_drop a b (a.length + 1 + b.length) (by simp; omega)
    have hx2 := extract_take (a ++ 9 :: b) a.length
    rw [List.take_left] at hx2
    obtain ⟨row, hrw⟩ : ∃ row, a ++ 9 :: b = row := ⟨_, rfl⟩
    have hrl : row.length = a.length + 1 + b.length := by rw [← hrw]; simp; omega
    have hw1 : IntKind.i64.wrap ((a.length : Int) + 1) = (a.length : Int) + 1 := by rw [IntKind.wrap_i64]; omega
    have hq1 : (0 : Int) ≤ (a.length : Int) + 1 := by omega
    have hq2 : (a.length : Int) + 1 ≤ (a.length : Int) + 1 + (b.length : Int) := by omega
    have hq3 : (a.length : Int) ≤ (a.length : Int) + 1 + (b.length : Int) := by omega
    have hq4 : ((a.length : Int) + 1).toNat = a.length + 1 := by omega
    rw [hrw] at hcall hx1 hx2 ⊢
    have HI := Lib.hid hcall; have HR := Lib.hid hR
    clear hcut hix hcall hno hrw ht hR
    go_enter Tryz.func67, Tryz.ntmps67
    go_wp2_with fail
    refine wp_calls_world (fun W hW => ?_)
    have hb0 : Below w.heap.size w W := by rw [hW]; exact ((Below.refl w.heap.size w).alloc (Nat.le_refl _) _).alloc (by simp) _
    have hs0 : W.heap[w.heap.size]? = some (.cells #[vf, vt, vn, vs] 33 (0, 0)) := by rw [hW]; exact blk_old (blk_new rfl)
    have hz0 : W.heap[w.heap.size + 1]? = some (.cells #[.int .i64 0, .int .i64 0, .slice none 0 0] 48 (0, 0)) := by rw [hW]; exact blk_new (by simp)
    clear hW
    have HB0 := Lib.hid hb0; have HS0 := Lib.hid hs0; have HZ0 := Lib.hid hz0
    clear hb0 hs0 hz0
    refine (HI.out _).mono ?_
    rintro e w1 ⟨rfl, rfl⟩
    go_wp2_with fail
    refine (digits_any b w1 (by omega)).mono ?_
    rintro e w2 ⟨rfl, hb⟩
    have HB2 := Lib.hid (HB0.out.trans (hb.mono HB0.out.size)); have HS2 := Lib.hid (blk_below hb (lt_of_blk HS0.out) HS0.out); have HZ2 := Lib.hid (blk_below hb (lt_of_blk HZ0.out) HZ0.out)
    clear hb HS0 HZ0 HB0
    have hR := HR.out
    cases hdg : digB b
    · rw [hdg] at hR
      have hR : (noRec, 14) = R := hR
      have HRe := Lib.hid hR
      obtain ⟨z0, z1, z2⟩ := cells3 HZ2.out
      have f0 := frozen_of_row _ _ 0 _ _ HZ2.out; have f1 := frozen_of_row _ _ 1 _ _ HZ2.out; have f2 := frozen_of_row _ _ 2 _ _ HZ2.out
      have lz := lt_of_blk HZ2.out
      clear hR HR hdg
      go_wp2_with fail
      rw [← HRe.out]
      exact bodyPost_row2 rfl rfl (blk_set (i := 2) (v := .slice none 0 0) (blk_set (i := 1) (v := .int .i64 0) (blk_set (i := 0) (v := .int .i64 0) HZ2.out))) Tryz.underlying48 rfl (by kernel_rfl) (RecParsed.bad HB2.out (Nat.le_succ _))
    · rw [hdg, if_pos rfl] at hR
      have hsum := fun w hw => rsum_any' a w (by omega) hw
      obtain ⟨z, hz⟩ : ∃ z, sumT a = z := ⟨_, rfl⟩
      rw [hz] at hsum hR
      have HSm := Lib.hid hsum
      clear hsum hz hdg
      have bD : Below w2.heap.size w2 w2.drew := (Below.refl _ _).drew
      have hdb2 := (HDb.out.old HB2.out).old bD
      by_cases hs : b = z
      · have dz : (b == z) = true := by simpa using hs
        rw [if_pos hs] at hR
        have HR2 := Lib.hid hR
        clear hR HR hs
        go_wp2_with fail
        refine wp_region_noPanic ?_
        refine wp_region_held_drew (S := (fun _ => True)) (by kernel_rfl) (trivial) (fun hHeld => ?_)
        refine tH 0 (h := ?_)
        try simp only [List.getElem_toArray, List.getElem_cons_zero, List.getElem_cons_succ, Act.put, List.setIfInBounds_toArray, List.set_cons_zero, List.set_cons_succ]
        refine tH 1 (h := ?_)
        try simp only [List.getElem_toArray, List.getElem_cons_zero, List.getElem_cons_succ, Act.put, List.setIfInBounds_toArray, List.set_cons_zero, List.set_cons_succ]
        refine tH 2 (h := ?_)
        try simp only [List.getElem_toArray, List.getElem_cons_zero, List.getElem_cons_succ, Act.put, List.setIfInBounds_toArray, List.set_cons_zero, List.set_cons_succ]
        refine tH 3 (h := ?_)
        try simp only [List.getElem_toArray, List.getElem_cons_zero, List.getElem_cons_succ, Act.put, List.setIfInBounds_toArray, List.set_cons_zero, List.set_cons_succ]
        refine tH 4 (h := ?_)
        try simp only [List.getElem_toArray, List.getElem_cons_zero, List.getElem_cons_succ, Act.put, List.setIfInBounds_toArray, List.set_cons_zero, List.set_cons_succ]
        refine tH 5 (h := ?_)
        try simp only [List.getElem_toArray, List.getElem_cons_zero, List.getElem_cons_succ, Act.put, List.setIfInBounds_toArray, List.set_cons_zero, List.set_cons_succ]
        refine tH 6 (h := ?_)
        try simp only [List.getElem_toArray, List.getElem_cons_zero, List.getElem_cons_succ, Act.put, List.setIfInBounds_toArray, List.set_cons_zero, List.set_cons_succ]
        refine wpAnyH_ready (rs := [7]) (by kernel_rfl) (by simp) ?_
        refine AllReadyH.cons rfl (fun K hK => ?_) AllReadyH.nil
        go_simp
        refine (HSm.out _ hdb2).mono ?_; rintro e w3 ⟨rfl, hb⟩; have b3 := bD.trans (hb.mono bD.size); clear hb
        refine hK.out _ _ (trivial) (fun hHeld => ?_)
        clear hK K
        try simp only [List.getElem_toArray, List.getElem_cons_zero, List.getElem_cons_succ, Act.put, List.setIfInBounds_toArray, List.set_cons_zero, List.set_cons_succ]
        refine tH 8 (h := ?_)
        try simp only [List.getElem_toArray, List.getElem_cons_zero, List.getElem_cons_succ, Act.put, List.setIfInBounds_toArray, List.set_cons_zero, List.set_cons_succ]
        refine tH 9 (h := ?_)
        try simp only [List.getElem_toArray, List.getElem_cons_zero, List.getElem_cons_succ, Act.put, List.setIfInBounds_toArray, List.set_cons_zero, List.set_cons_succ]
        refine wpAnyH_done (by kernel_rfl) ?_ _
        refine NoPanic.normal ?_
        have HB3 := Lib.hid (HB2.out.trans (b3.mono HB2.out.size)); have HS3 := Lib.hid (blk_below b3 (lt_of_blk HS2.out) HS2.out); have HZ3 := Lib.hid (blk_below b3 (lt_of_blk HZ2.out) HZ2.out)
        clear b3 HS2 HZ2 bD hdb2 hHeld HSm dz
        obtain ⟨⟨r1, er⟩, hp⟩ : ∃ p, parseR s a = p := ⟨_, rfl⟩
        have hcall := fun w h1 h2 => precparse_any S vf vt vn vs s a w h1 HC.out h2 (by omega)
        rw [hp] at hcall
        have hR3 := HR2.out
        rw [hp] at hR3
        dsimp only at hR3
        have HP := Lib.hid hcall; have HR3 := Lib.hid hR3
        obtain ⟨s0, s1, s2, s3⟩ := cellsS HS3.out
        have ls := lt_of_blk HS3.out
        have lz3 := lt_of_blk HZ3.out
        have bD : Below w3.heap.size w3 w3.drew := (Below.refl _ _).drew
        clear hcall hR3 hp HR2
        go_wp2_with fail
        go_cut [9, 10] (fun s9 s10 wx => ∃ (xb : Nat) (sv : Value), s9 = .pointer (some ⟨xb, 0, none⟩) ∧ s10 = .int .i64 er ∧ wx.heap[xb]? = some (.cells #[.int .i64 r1.id, .int .i64 r1.ver, sv] 48 (0, 0)) ∧ Vec wx (fun b => w.heap.size + 1 < b ∧ b ≠ xb) 1 encS sv r1.vals ∧ Below w3.heap.size w3 wx ∧ w.heap.size + 1 < xb)
        case first =>
          refine wp_region_noPanic ?_
          refine wp_region_held_drew (S := (fun w' => w'.cell? ⟨w.heap.size, 0, none⟩ = some vf ∧ w'.cell? ⟨w.heap.size, 1, none⟩ = some vt ∧ w'.cell? ⟨w.heap.size, 2, none⟩ = some vn ∧ w'.cell? ⟨w.heap.size, 3, none⟩ = some vs)) (by kernel_rfl) (⟨s0, s1, s2, s3⟩) (fun hHeld => ?_)
          refine tH 0 (h := ?_)
          try simp only [List.getElem_toArray, List.getElem_cons_zero, List.getElem_cons_succ, Act.put, List.setIfInBounds_toArray, List.set_cons_zero, List.set_cons_succ]
          refine tH 1 (h := ?_)
          try simp only [List.getElem_toArray, List.getElem_cons_zero, List.getElem_cons_succ, Act.put, List.setIfInBounds_toArray, List.set_cons_zero, List.set_cons_succ]
          refine tH 2 (h := ?_)
          try simp only [List.getElem_toArray, List.getElem_cons_zero, List.getElem_cons_succ, Act.put, List.setIfInBounds_toArray, List.set_cons_zero, List.set_cons_succ]
          refine tH 3 (h := ?_)
          try simp only [List.getElem_toArray, List.getElem_cons_zero, List.getElem_cons_succ, Act.put, List.setIfInBounds_toArray, List.set_cons_zero, List.set_cons_succ]
          refine wpAnyH_ready (rs := [4, 8]) (by kernel_rfl) (by simp) ?_
          refine AllReadyH.cons rfl (fun K hK => ?_) (AllReadyH.cons rfl (fun K hK => ?_) (AllReadyH.nil))
          focus
            go_simp
            refine (HP.out _ ((HSc.out.below HB3.out).below bD) ((HVr.out.old HB3.out).old bD)).mono ?_
            rintro e V1 ⟨_, rfl, ⟨sv, rfl, hv⟩, hb⟩
            have b1 := bD.trans (hb.mono bD.size)
            have hv := hv.move (w' := V1) (S' := fun b => w.heap.size + 1 < b) (Nat.le_refl _) fun b hb' hs => ⟨rfl, by have h1 : w3.heap.size ≤ b := hs; show w.heap.size + 1 < b; omega⟩
            clear hb
            refine hK.out _ _ (⟨(b1.cell (p := ⟨w.heap.size, 0, none⟩) ls).trans s0, (b1.cell (p := ⟨w.heap.size, 1, none⟩) ls).trans s1, (b1.cell (p := ⟨w.heap.size, 2, none⟩) ls).trans s2, (b1.cell (p := ⟨w.heap.size, 3, none⟩) ls).trans s3⟩) (fun hHeld => ?_)
            clear hK K
            try simp only [List.getElem_toArray, List.getElem_cons_zero, List.getElem_cons_succ, Act.put, List.setIfInBounds_toArray, List.set_cons_zero, List.set_cons_succ]
            refine tH 5 (h := ?_)
            try simp only [List.getElem_toArray, List.getElem_cons_zero, List.getElem_cons_succ, Act.put, List.setIfInBounds_toArray, List.set_cons_zero, List.set_cons_succ]
            refine tH 6 (h := ?_)
            try simp only [List.getElem_toArray, List.getElem_cons_zero, List.getElem_cons_succ, Act.put, List.setIfInBounds_toArray, List.set_cons_zero, List.set_cons_succ]
            refine tH 7 (h := ?_)
            try simp only [List.getElem_toArray, List.getElem_cons_zero, List.getElem_cons_succ, Act.put, List.setIfInBounds_toArray, List.set_cons_zero, List.set_cons_succ]
            refine wpAnyH_ready (rs := [8]) (by kernel_rfl) (by simp) ?_
            refine AllReadyH.cons rfl (fun K hK => ?_) (AllReadyH.nil)
            go_simp
            refine hK.out _ _ (⟨((b1.alloc b1.size (.cells #[.int .i64 0, .int .i64 0, .slice none 0 0] 48)).cell (p := ⟨w.heap.size, 0, none⟩) ls).trans s0, ((b1.alloc b1.size (.cells #[.int .i64 0, .int .i64 0, .slice none 0 0] 48)).cell (p := ⟨w.heap.size, 1, none⟩) ls).trans s1, ((b1.alloc b1.size (.cells #[.int .i64 0, .int .i64 0, .slice none 0 0] 48)).cell (p := ⟨w.heap.size, 2, none⟩) ls).trans s2, ((b1.alloc b1.size (.cells #[.int .i64 0, .int .i64 0, .slice none 0 0] 48)).cell (p := ⟨w.heap.size, 3, none⟩) ls).trans s3⟩) (fun hHeld => ?_)
            clear hK K
            try simp only [List.getElem_toArray, List.getElem_cons_zero, List.getElem_cons_succ, Act.put, List.setIfInBounds_toArray, List.set_cons_zero, List.set_cons_succ]
            refine wph_name (fun V2 hV => ?_)
            have b2 : Below w3.heap.size w3 V2 := by rw [hV]; exact b1.alloc b1.size (.cells #[.int .i64 0, .int .i64 0, .slice none 0 0] 48)
            have gx : V2.heap[V1.heap.size]? = some (.cells #[.int .i64 0, .int .i64 0, .slice none 0 0] 48 (0, 0)) := by rw [hV]; exact blk_new rfl
            have hrx : w3.heap.size ≤ V1.heap.size := b1.size
            have hv := hv.move (w' := V2) (S' := fun b => w.heap.size + 1 < b ∧ b ≠ V1.heap.size) (by rw [hV]; simp) fun b hb' hs => ⟨by rw [hV]; exact heap_alloc_old _ _ hb', hs, by omega⟩
            clear hV hHeld
            have hHeld : V2.cell? ⟨w.heap.size, 0, none⟩ = some vf ∧ V2.cell? ⟨w.heap.size, 1, none⟩ = some vt ∧ V2.cell? ⟨w.heap.size, 2, none⟩ = some vn ∧ V2.cell? ⟨w.heap.size, 3, none⟩ = some vs := ⟨(b2.cell (p := ⟨w.heap.size, 0, none⟩) ls).trans s0, (b2.cell (p := ⟨w.heap.size, 1, none⟩) ls).trans s1, (b2.cell (p := ⟨w.heap.size, 2, none⟩) ls).trans s2, (b2.cell (p := ⟨w.heap.size, 3, none⟩) ls).trans s3⟩
          rotate_left 1
          focus
            go_simp
            refine hK.out _ _ (⟨((bD.alloc bD.size (.cells #[.int .i64 0, .int .i64 0, .slice none 0 0] 48)).cell (p := ⟨w.heap.size, 0, none⟩) ls).trans s0, ((bD.alloc bD.size (.cells #[.int .i64 0, .int .i64 0, .slice none 0 0] 48)).cell (p := ⟨w.heap.size, 1, none⟩) ls).trans s1, ((bD.alloc bD.size (.cells #[.int .i64 0, .int .i64 0, .slice none 0 0] 48)).cell (p := ⟨w.heap.size, 2, none⟩) ls).trans s2, ((bD.alloc bD.size (.cells #[.int .i64 0, .int .i64 0, .slice none 0 0] 48)).cell (p := ⟨w.heap.size, 3, none⟩) ls).trans s3⟩) (fun hHeld => ?_)
            clear hK K
            try simp only [List.getElem_toArray, List.getElem_cons_zero, List.getElem_cons_succ, Act.put, List.setIfInBounds_toArray, List.set_cons_zero, List.set_cons_succ]
            refine wph_name (fun V1 hV => ?_)
            have b1 : Below w3.heap.size w3 V1 := by rw [hV]; exact bD.alloc bD.size (.cells #[.int .i64 0, .int .i64 0, .slice none 0 0] 48)
            have gx : V1.heap[w3.heap.size]? = some (.cells #[.int .i64 0, .int .i64 0, .slice none 0 0] 48 (0, 0)) := by rw [hV]; exact blk_new rfl
            have hrx : w3.heap.size ≤ w3.heap.size := Nat.le_refl _
            clear hV hHeld
            have hHeld : V1.cell? ⟨w.heap.size, 0, none⟩ = some vf ∧ V1.cell? ⟨w.heap.size, 1, none⟩ = some vt ∧ V1.cell? ⟨w.heap.size, 2, none⟩ = some vn ∧ V1.cell? ⟨w.heap.size, 3, none⟩ = some vs := ⟨(b1.cell (p := ⟨w.heap.size, 0, none⟩) ls).trans s0, (b1.cell (p := ⟨w.heap.size, 1, none⟩) ls).trans s1, (b1.cell (p := ⟨w.heap.size, 2, none⟩) ls).trans s2, (b1.cell (p := ⟨w.heap.size, 3, none⟩) ls).trans s3⟩
            refine wpAnyH_ready (rs := [4]) (by kernel_rfl) (by simp) ?_
            refine AllReadyH.cons rfl (fun K hK => ?_) (AllReadyH.nil)
            go_simp
            refine (HP.out _ ((HSc.out.below HB3.out).below b1) ((HVr.out.old HB3.out).old b1)).mono ?_
            rintro e V2 ⟨_, rfl, ⟨sv, rfl, hv⟩, hb⟩
            have b2 := b1.trans (hb.mono b1.size)
            have lx := lt_of_blk gx
            have gx := blk_below hb lx gx
            have hv := hv.move (w' := V2) (S' := fun b => w.heap.size + 1 < b ∧ b ≠ w3.heap.size) (Nat.le_refl _) fun b hb' hs => ⟨rfl, by have h1 : V1.heap.size ≤ b := hs; have h2 := b1.size; omega⟩
            clear hb
            refine hK.out _ _ (⟨(b2.cell (p := ⟨w.heap.size, 0, none⟩) ls).trans s0, (b2.cell (p := ⟨w.heap.size, 1, none⟩) ls).trans s1, (b2.cell (p := ⟨w.heap.size, 2, none⟩) ls).trans s2, (b2.cell (p := ⟨w.heap.size, 3, none⟩) ls).trans s3⟩) (fun hHeld => ?_)
            clear hK K
            try simp only [List.getElem_toArray, List.getElem_cons_zero, List.getElem_cons_succ, Act.put, List.setIfInBounds_toArray, List.set_cons_zero, List.set_cons_succ]
            refine tH 5 (h := ?_)
            try simp only [List.getElem_toArray, List.getElem_cons_zero, List.getElem_cons_succ, Act.put, List.setIfInBounds_toArray, List.set_cons_zero, List.set_cons_succ]
            refine tH 6 (h := ?_)
            try simp only [List.getElem_toArray, List.getElem_cons_zero, List.getElem_cons_succ, Act.put, List.setIfInBounds_toArray, List.set_cons_zero, List.set_cons_succ]
            refine tH 7 (h := ?_)
            try simp only [List.getElem_toArray, List.getElem_cons_zero, List.getElem_cons_succ, Act.put, List.setIfInBounds_toArray, List.set_cons_zero, List.set_cons_succ]
          all_goals
            obtain ⟨av, cv, rfl⟩ := hv.slice
            have lx := lt_of_blk gx; obtain ⟨y0, y1, y2⟩ := cells3 gx; have fx0 := frozen_of_row _ _ 0 _ _ gx; have fx1 := frozen_of_row _ _ 1 _ _ gx; have fx2 := frozen_of_row _ _ 2 _ _ gx
            have ms := ((b2.setCell (p := ⟨_, 0, none⟩) hrx (.int .i64 r1.id)).setCell (p := ⟨_, 1, none⟩) hrx (.int .i64 r1.ver)).setCell (p := ⟨_, 2, none⟩) hrx (.slice av r1.vals.length cv)
            refine wpAnyH_ready (rs := [9]) (by kernel_rfl) (by simp) ?_
            refine AllReadyH.cons rfl (fun K hK => ?_) AllReadyH.nil
            go_simp
            refine hK.out _ _ (⟨(ms.cell (p := ⟨w.heap.size, 0, none⟩) ls).trans s0, (ms.cell (p := ⟨w.heap.size, 1, none⟩) ls).trans s1, (ms.cell (p := ⟨w.heap.size, 2, none⟩) ls).trans s2, (ms.cell (p := ⟨w.heap.size, 3, none⟩) ls).trans s3⟩) (fun hHeld => ?_)
            clear hK K
            try simp only [List.getElem_toArray, List.getElem_cons_zero, List.getElem_cons_succ, Act.put, List.setIfInBounds_toArray, List.set_cons_zero, List.set_cons_succ]
            refine tH 10 (h := ?_)
            try simp only [List.getElem_toArray, List.getElem_cons_zero, List.getElem_cons_succ, Act.put, List.setIfInBounds_toArray, List.set_cons_zero, List.set_cons_succ]
            refine wpAnyH_done (by kernel_rfl) ?_ _
            refine NoPanic.normal ?_
            go_wp2_with fail
            go_meet
            exact ⟨_, _, rfl, rfl, blk_set (blk_set (blk_set gx)), ((hv.far (fun b hb => hb.2)).far (fun b hb => hb.2)).far (fun b hb => hb.2), ms, by omega⟩
        case rest =>
          obtain ⟨wu, hwu⟩ : ∃ u, u = wc := ⟨_, rfl⟩
          subst hwu
          obtain ⟨xb, sv, rfl, rfl, gx, hv, bq, hxb⟩ := hcut
          obtain ⟨av, cv, rfl⟩ := hv.slice
          have HB4 := Lib.hid (HB3.out.trans (bq.mono HB3.out.size)); have HZ4 := Lib.hid (blk_below bq lz3 HZ3.out)
          have HGx := Lib.hid gx; have HVx := Lib.hid hv
          obtain ⟨z0, z1, z2⟩ := cells3 HZ4.out
          have f0 := frozen_of_row _ _ 0 _ _ HZ4.out; have f1 := frozen_of_row _ _ 1 _ _ HZ4.out; have f2 := frozen_of_row _ _ 2 _ _ HZ4.out
          have lz4 := lt_of_blk HZ4.out
          obtain ⟨x0, x1, x2⟩ := cells3 gx
          have lx := lt_of_blk gx
          have hR4 := HR3.out
          clear bq gx hv s0 s1 s2 s3 ls lz3 HZ3 HS3 bD HR3 HP hw1 hq1 hq2 hq3 hq4 hx1 hx2
          by_cases he : er = 0
          · subst he
            have dz : ((0 : Int) != 0) = false := rfl
            rw [if_pos rfl] at hR4
            by_cases h64 : l.length = 64
            · have d64 : ((l.length : Int) == 64) = true := by simp; omega
              rw [if_pos h64] at hR4
              have HRe := Lib.hid hR4
              clear hR4 h64
              go_wp2_with fail
              rw [← HRe.out]
              exact bodyPost_row2 rfl rfl (blk_set (i := 2) (v := .slice none 0 0) (blk_set (i := 1) (v := .int .i64 0) (blk_set (i := 0) (v := .int .i64 0) HZ4.out))) Tryz.underlying48 rfl (by kernel_rfl) (RecParsed.bad HB4.out (Nat.le_succ _))
            · have d64 : ((l.length : Int) == 64) = false := by simp; omega
              rw [if_neg h64] at hR4
              have hfin : ∀ b, notB (lastId l) r1.id = b → R = if b = true then (noRec, 12) else (r1, 0) := fun b h => by rw [← hR4, h]
              have HFin := Lib.hid hfin
              clear hR4 h64 hfin
              by_cases h0 : l.length = 0
              · have hl0 : l = [] := List.length_eq_zero_iff.1 h0
                have hRe : R = (r1, 0) := HFin.out false (by rw [hl0]; rfl)
                have HRe := Lib.hid hRe
                have d0 : decide ((0 : Int) < (l.length : Int)) = false := by simp; omega
                have d0n : decide (0 < l.length) = false := by simp; omega
                clear hRe hl0 HFin h0
                go_wp2_with fail
                go_big_quiet (fail)
                go_wp2_with fail
                rw [HRe.out]
                refine bodyPost_row2 rfl rfl (blk_set (i := 2) (v := .slice av r1.vals.length cv) (blk_set (i := 1) (v := .int .i64 r1.ver) (blk_set (i := 0) (v := .int .i64 r1.id) HZ4.out))) Tryz.underlying48 rfl (by kernel_rfl) ?_
                refine ⟨_, rfl, ⟨_, rfl, ?_⟩, (((below_drewN HB4.out _).setCell (p := ⟨w.heap.size + 1, 0, none⟩) (Nat.le_succ _) _).setCell (p := ⟨w.heap.size + 1, 1, none⟩) (Nat.le_succ _) _).setCell (p := ⟨w.heap.size + 1, 2, none⟩) (Nat.le_succ _) _⟩
                refine HVx.out.move (by simp [World.setCell]) fun b hb hs => ?_
                have hs' : w.heap.size + 1 < b ∧ b ≠ xb := hs
                exact ⟨((heap_setCell_other _ _ _ _ (by show b ≠ w.heap.size + 1; omega)).trans (heap_setCell_other _ _ _ _ (by show b ≠ w.heap.size + 1; omega))).trans (heap_setCell_other _ _ _ _ (by show b ≠ w.heap.size + 1; omega)), by show w.heap.size ≤ b; omega⟩
              · obtain ⟨m, hm⟩ : ∃ m, l.length - 1 = m := ⟨_, rfl⟩
                have hml : m < l.length := by omega
                have d0 : decide ((0 : Int) < (l.length : Int)) = true := by simp; omega
                have d0n : decide (0 < l.length) = true := by simp; omega
                have hwm : IntKind.i64.wrap ((l.length : Int) - 1) = (m : Int) := by rw [IntKind.wrap_i64]; omega
                have hmi : (m : Int) < (l.length : Int) := by omega
                obtain ⟨bb, oo, id, ver, aa, nn, cc, vals, eb, lb, c0, c1, c2, hRj, -⟩ := (HL.out.below HB4.out).at m hml
                cases eb
                have hlast : lastId l = some id := by
                  unfold lastId
                  rw [List.getLast?_eq_getElem?, hm, List.getElem?_eq_getElem hml, hRj]; rfl
                have hnb : notB (lastId l) r1.id = decide (r1.id ≤ id) := by rw [hlast]; rfl
                by_cases hle : r1.id ≤ id
                · have dle : decide (r1.id ≤ id) = true := decide_eq_true hle
                  have hRe : R = (noRec, 12) := HFin.out true (by rw [hnb, dle])
                  have HRe := Lib.hid hRe
                  clear hRe hlast hnb HFin h0 hRj hm
                  go_wp2_with fail
                  go_big_quiet (fail)
                  go_wp2_with fail
                  rw [HRe.out]
                  exact bodyPost_row2 rfl rfl (blk_set (i := 2) (v := .slice none 0 0) (blk_set (i := 1) (v := .int .i64 0) (blk_set (i := 0) (v := .int .i64 0) HZ4.out))) Tryz.underlying48 rfl (by kernel_rfl) (RecParsed.bad (below_drewN HB4.out _) (Nat.le_succ _))
                · have dle : decide (r1.id ≤ id) = false := decide_eq_false hle
                  have hRe : R = (r1, 0) := HFin.out false (by rw [hnb, dle])
                  have HRe := Lib.hid hRe
                  clear hRe hlast hnb HFin h0 hRj hm
                  go_wp2_with fail
                  go_big_quiet (fail)
                  go_wp2_with fail
                  rw [HRe.out]
                  refine bodyPost_row2 rfl rfl (blk_set (i := 2) (v := .slice av r1.vals.length cv) (blk_set (i := 1) (v := .int .i64 r1.ver) (blk_set (i := 0) (v := .int .i64 r1.id) HZ4.out))) Tryz.underlying48 rfl (by kernel_rfl) ?_
                  refine ⟨_, rfl, ⟨_, rfl, ?_⟩, (((below_drewN HB4.out _).setCell (p := ⟨w.heap.size + 1, 0, none⟩) (Nat.le_succ _) _).setCell (p := ⟨w.heap.size + 1, 1, none⟩) (Nat.le_succ _) _).setCell (p := ⟨w.heap.size + 1, 2, none⟩) (Nat.le_succ _) _⟩
                  refine HVx.out.move (by simp [World.setCell]) fun b hb hs => ?_
                  have hs' : w.heap.size + 1 < b ∧ b ≠ xb := hs
                  exact ⟨((heap_setCell_other _ _ _ _ (by show b ≠ w.heap.size + 1; omega)).trans (heap_setCell_other _ _ _ _ (by show b ≠ w.heap.size + 1; omega))).trans (heap_setCell_other _ _ _ _ (by show b ≠ w.heap.size + 1; omega)), by show w.heap.size ≤ b; omega⟩
          · have dz : (er != 0) = true := by simpa using he
            rw [if_neg he] at hR4
            have HRe := Lib.hid hR4
            clear hR4 he
            go_wp2_with fail
            rw [← HRe.out]
            exact bodyPost_row2 rfl rfl (blk_set (i := 2) (v := .slice none 0 0) (blk_set (i := 1) (v := .int .i64 0) (blk_set (i := 0) (v := .int .i64 0) HZ4.out))) Tryz.underlying48 rfl (by kernel_rfl) (RecParsed.bad HB4.out (Nat.le_succ _))
      · have dz : (b == z) = false := by simpa using hs
        rw [if_neg hs] at hR
        have HRe := Lib.hid hR
        clear hR HR hs
        go_wp2_with fail
        refine wp_region_noPanic ?_
        refine wp_region_held_drew (S := (fun _ => True)) (by kernel_rfl) (trivial) (fun hHeld => ?_)
        refine tH 0 (h := ?_)
        try simp only [List.getElem_toArray, List.getElem_cons_zero, List.getElem_cons_succ, Act.put, List.setIfInBounds_toArray, List.set_cons_zero, List.set_cons_succ]
        refine tH 1 (h := ?_)
        try simp only [List.getElem_toArray, List.getElem_cons_zero, List.getElem_cons_succ, Act.put, List.setIfInBounds_toArray, List.set_cons_zero, List.set_cons_succ]
        refine tH 2 (h := ?_)
        try simp only [List.getElem_toArray, List.getElem_cons_zero, List.getElem_cons_succ, Act.put, List.setIfInBounds_toArray, List.set_cons_zero, List.set_cons_succ]
        refine tH 3 (h := ?_)
        try simp only [List.getElem_toArray, List.getElem_cons_zero, List.getElem_cons_succ, Act.put, List.setIfInBounds_toArray, List.set_cons_zero, List.set_cons_succ]
        refine tH 4 (h := ?_)
        try simp only [List.getElem_toArray, List.getElem_cons_zero, List.getElem_cons_succ, Act.put, List.setIfInBounds_toArray, List.set_cons_zero, List.set_cons_succ]
        refine tH 5 (h := ?_)
        try simp only [List.getElem_toArray, List.getElem_cons_zero, List.getElem_cons_succ, Act.put, List.setIfInBounds_toArray, List.set_cons_zero, List.set_cons_succ]
        refine tH 6 (h := ?_)
        try simp only [List.getElem_toArray, List.getElem_cons_zero, List.getElem_cons_succ, Act.put, List.setIfInBounds_toArray, List.set_cons_zero, List.set_cons_succ]
        refine wpAnyH_ready (rs := [7]) (by kernel_rfl) (by simp) ?_
        refine AllReadyH.cons rfl (fun K hK => ?_) AllReadyH.nil
        go_simp
        refine (HSm.out _ hdb2).mono ?_; rintro e w3 ⟨rfl, hb⟩; have b3 := bD.trans (hb.mono bD.size); clear hb
        refine hK.out _ _ (trivial) (fun hHeld => ?_)
        clear hK K
        try simp only [List.getElem_toArray, List.getElem_cons_zero, List.getElem_cons_succ, Act.put, List.setIfInBounds_toArray, List.set_cons_zero, List.set_cons_succ]
        refine tH 8 (h := ?_)
        try simp only [List.getElem_toArray, List.getElem_cons_zero, List.getElem_cons_succ, Act.put, List.setIfInBounds_toArray, List.set_cons_zero, List.set_cons_succ]
        refine tH 9 (h := ?_)
        try simp only [List.getElem_toArray, List.getElem_cons_zero, List.getElem_cons_succ, Act.put, List.setIfInBounds_toArray, List.set_cons_zero, List.set_cons_succ]
        refine wpAnyH_done (by kernel_rfl) ?_ _
        refine NoPanic.normal ?_
        have HB3 := Lib.hid (HB2.out.trans (b3.mono HB2.out.size)); have HZ3 := Lib.hid (blk_below b3 (lt_of_blk HZ2.out) HZ2.out)
        obtain ⟨z0, z1, z2⟩ := cells3 HZ3.out
        have f0 := frozen_of_row _ _ 0 _ _ HZ3.out; have f1 := frozen_of_row _ _ 1 _ _ HZ3.out; have f2 := frozen_of_row _ _ 2 _ _ HZ3.out
        have lz := lt_of_blk HZ3.out
        clear b3 HZ2 HS2 bD hdb2 hHeld
        go_wp2_with fail
        rw [← HRe.out]
        exact bodyPost_row2 rfl rfl (blk_set (i := 2) (v := .slice none 0 0) (blk_set (i := 1) (v := .int .i64 0) (blk_set (i := 0) (v := .int .i64 0) HZ3.out))) Tryz.underlying48 rfl (by kernel_rfl) (RecParsed.bad HB3.out (Nat.le_succ _))
end
section
open Go
section
variable {P : Program} {ops : Array Oper} {l n : Nat}
/-- to the end, or not at all -/
def OnlyN (Q : Exit → Act → World → Prop) : Exit → Act → World → Prop
  | .normal, a, w => Q .normal a w
  | _, _, _ => False
theorem onlyN_shut {Q : Exit → Act → World → Prop} : ¬ LetsOut (OnlyN Q) := by
  rintro ⟨a, w, h⟩
  exact h
theorem oper_in {o : Oper} (hnd : ∀ c, o.op ≠ .defer c) {Q K K' : _} {a : Act} {w : World} (hK : ∀ a w, K a w → K' a w) (h : o.wp P a w K Q) : o.wpIn (Fence.wide.inRound l) n P a w K' Q := by
  refine ⟨fun f _ => trivial, ?_⟩
  rw [Fence.inRound_round, Oper.semAt_some l _ o hnd]
  unfold Oper.wp at h
  generalize (execOp a.eval o).run P w = r at *
  cases r with
  | ok x w' =>
    cases x <;> simp only [Oper.upon, Oper.uponIn] at h ⊢
    case value v => exact hK _ _ h
    case skip => exact hK _ _ h
    case defer d => exact hK _ _ h
    case enter f args =>
      refine ⟨fun h => by simp [Fence.wide] at h, CallsIn.inRound l (callsIn_wide.2 (h.mono fun e w'' he => ?_))⟩
      cases e with
      | returned u => exact hK _ _ he
      | panicked c => exact he
      | outgrown => exact he
    case row row args =>
      refine ⟨fun h => by simp [Fence.wide] at h, fun c cs _ => ?_⟩
      obtain ⟨v, w', r, s⟩ := h c cs
      exact ⟨v, w', hK _ _ r, stepsIn_wide.2 s⟩
  | halt x w' => cases x <;> simp only [Oper.upon, Oper.uponIn] at h ⊢ <;> exact h
theorem ops_in {Q : Exit → Act → World → Prop} (hlo : ¬ LetsOut Q) (hnd : ∀ (i : Nat) (o : Oper), ops[i]? = some o → ∀ c, o.op ≠ .defer c) : ∀ (L : List Nat) (a : Act) (w : World), wpOps P ops Q L a w → wpOpsIn (Fence.wide.inRound l) n P ops Q L a w
  | [], a, w, h => h
  | i :: rest, a, w, h => by
    unfold wpOps at h
    unfold wpOpsIn
    cases ho : ops[i]? with
    | none => rw [ho] at h; exact ops_in hlo hnd rest a w h
    | some o =>
      rw [ho] at h
      dsimp only at h ⊢
      split at h
      · next hw =>
        rw [if_pos hw]
        rcases h with h | ⟨_, h⟩
        · exact oper_in (hnd i o ho) (fun a w h => ops_in hlo hnd rest a w h) h
        · exact absurd h hlo
      · next hw =>
        rw [if_neg hw]
        exact ⟨fun f _ => trivial, ops_in hlo hnd rest _ w h⟩
theorem wpIn_region_k {id : Nat} {a : Act} {w : World} {Q : Exit → Act → World → Prop} (hm : P.follows .mixedOrders = true) (hnd : (ops.toList.all fun o => match o.op with | .defer _ => false | _ => true) = true) (S : World → Prop) (k : Nat) (hS : S w.drew)
    (h : S w.drew → wpAnyK P .any ops (OnlyN Q) S k ops.size (Array.replicate ops.size false) a w.drew) : (Code.region id ops true).wpIn (Fence.wide.inRound l) n P Q a w := by
  have hnd' : ∀ (i : Nat) (o : Oper), ops[i]? = some o → ∀ c, o.op ≠ .defer c := fun i o ho c hc => by
    have h1 := List.all_eq_true.1 hnd o (by rw [← Array.getElem?_toList] at ho; exact List.mem_of_getElem? ho)
    rw [hc] at h1; cases h1
  have hr : (Code.region id ops true).wpIn (Fence.wide.inRound l) n P (OnlyN Q) a w := wpIn_region_draw fun t => by
    simp only [Region.schedule, hm, Bool.true_or, if_true]
    exact ops_in onlyN_shut hnd' _ _ _ (wpAny_sound ops.size t _ a _ (wpAny_of_k _ _ _ _ (h hS)))
  exact wpIn_mono hr fun e a w h => by cases e <;> first | exact h | exact h.elim
end
end
section
set_option maxRecDepth 100000
open Go.RowKit Go.Shelf Cal
/-- blocks of cells stay -/
structure CellsKept (A C : World) : Prop where
  size : A.heap.size ≤ C.heap.size
  same : ∀ (x : Nat) (o : Obj), A.heap[x]? = some o → o.isCells = true → C.heap[x]? = some o
theorem CellsKept.of {A C : World} {B : Nat} {row : Option Nat} (hg : A.grownBy C row) (hr : ∀ r, row = some r → B ≤ r ∧ ∃ o : Obj, A.heap[r]? = some o ∧ o.isCells = false) : CellsKept A C :=
  ⟨hg.size, fun x o hx hc => (grownBy_keeps_cells hg (fun r e => (hr r e).2) hx hc).trans hx⟩
theorem Vec.kept {α : Type} {A C : World} {S : Nat → Prop} {k : Nat} {enc : α → List Value} {v : Value} {L : List α} (h : Vec A S k enc v L) (hk : CellsKept A C) : Vec C S k enc v L := by
  obtain ⟨a, cap, h1, h2, h3⟩ := h
  refine ⟨a, cap, h1, h2, fun h0 => ?_⟩
  obtain ⟨b, off, h4, h5, h6, h7⟩ := h3 h0
  refine ⟨b, off, h4, h5, Nat.lt_of_lt_of_le h6 hk.size, fun j x hj i u hu => ?_⟩
  have hc := h7 j x hj i u hu
  obtain ⟨o, ho, hoc⟩ := cells_of_cell hc
  exact (World.cell?_of_block (w := A) (a := ⟨b, off + j * k + i, none⟩) ((hk.same _ _ ho hoc).trans ho.symm)).trans hc
/-- records that are the call's own: their row, the rows of their values; all behind block z -/
structure RecsIn (z : Nat) (v : Value) (C : List RV) (wr : World) : Prop where
  own : wr.ownsRow (z + 1) 48 3 v C.length (C.flatMap encRV)
  vals : ∀ x ∈ C, Vec wr (fun b => z < b ∧ some b ≠ v.ownBlock) 1 encS (.slice x.a x.n x.c) x.vals
theorem RecsIn.same {A C : World} {z : Nat} {v : Value} {L : List RV} (h : RecsIn z v L A) (hz : A.heap.size ≤ C.heap.size) (hs : ∀ (x : Nat) (o : Obj), z < x → A.heap[x]? = some o → o.isCells = true → C.heap[x]? = some o) : RecsIn z v L C := by
  refine ⟨⟨h.own.1, ?_⟩, fun x hx => ?_⟩
  · rcases h.own.2 with h0 | ⟨g, cap, cur, hv, hg, hh, rest⟩
    · exact .inl h0
    · exact .inr ⟨g, cap, cur, hv, hg, hs _ _ (by omega) hh rfl, rest⟩
  · obtain ⟨a, cap, h1, h2, h3⟩ := h.vals x hx
    refine ⟨a, cap, h1, h2, fun h0 => ?_⟩
    obtain ⟨b, off, h4, h5, h6, h7⟩ := h3 h0
    refine ⟨b, off, h4, h5, Nat.lt_of_lt_of_le h6 hz, fun j y hj i u hu => ?_⟩
    have hc := h7 j y hj i u hu
    obtain ⟨o, ho, hoc⟩ := cells_of_cell hc
    exact (World.cell?_of_block (w := A) (a := ⟨b, off + j * 1 + i, none⟩) ((hs _ _ h5.1 ho hoc).trans ho.symm)).trans hc
theorem RecsIn.kept {A C : World} {z : Nat} {v : Value} {L : List RV} (h : RecsIn z v L A) (hk : CellsKept A C) : RecsIn z v L C := h.same hk.size fun x o _ hx ho => hk.same x o hx ho
theorem RecsIn.below {A C : World} {z : Nat} {v : Value} {L : List RV} (h : RecsIn z v L A) (hb : Below A.heap.size A C) : RecsIn z v L C := h.same hb.size fun x o _ hx _ => blk_below hb (lt_of_blk hx) hx
theorem RecsIn.far {A : World} {z : Nat} {v : Value} {L : List RV} (h : RecsIn z v L A) {a : Addr} {u : Value} (ha : a.block ≤ z) : RecsIn z v L (A.setCell a u) :=
  h.same (by simp [World.setCell]) fun x o hx ho _ => blk_far ho (by omega)
theorem RecsIn.vec {w A : World} {z : Nat} {v : Value} {L : List RV} (h : RecsIn z v L A) (hz : w.heap.size ≤ z) : RecsVec A (fun b => w.heap.size ≤ b) v (L.map pR) :=
  ⟨L, Vec.owns (enc := encRV) (S := fun b => w.heap.size ≤ b) (fun _ => rfl) h.own (fun b hb _ => by show w.heap.size ≤ b; omega), rfl, fun x hx => (h.vals x hx).move (Nat.le_refl _) fun b _ hb => ⟨rfl, by omega⟩⟩
theorem RecsIn.nil (A : World) (z : Nat) : RecsIn z (.slice none 0 0) [] A := ⟨⟨by simp, .inl ⟨rfl, rfl⟩⟩, fun x h => by simp at h⟩
/-- the schema, the text, the results as they were at first; the records' cell, the number's -/
structure RdCells (b k : Nat) (vf vt vn vs : Value) (t : List UInt8) (lv : Value) (at' : Nat) (W : World) : Prop where
  s : W.heap[b]? = some (.cells #[vf, vt, vn, vs] 33 (0, 0))
  t : W.heap[b + 1]? = some (.cells #[strV t] 9 (0, 0))
  r1 : W.heap[b + 1 + 1]? = some (.cells #[.slice none 0 0] 58 (0, 0))
  r2 : W.heap[b + 1 + 1 + 1]? = some (.cells #[.int .i64 0] 3 (0, 0))
  r3 : W.heap[b + 1 + 1 + 1 + 1]? = some (.cells #[.int .i64 0] 38 (0, 0))
  l : W.heap[k]? = some (.cells #[lv] 58 (0, 0))
  n : W.heap[k + 1]? = some (.cells #[.int .i64 at'] 3 (0, 0))
theorem RdCells.same {b k : Nat} {vf vt vn vs : Value} {t : List UInt8} {lv : Value} {at' : Nat} {W W' : World} (h : RdCells b k vf vt vn vs t lv at' W) (hs : ∀ x o, (x ≤ b + 1 + 1 + 1 + 1 ∨ x = k ∨ x = k + 1) → W.heap[x]? = some o → o.isCells = true → W'.heap[x]? = some o) : RdCells b k vf vt vn vs t lv at' W' :=
  ⟨hs _ _ (.inl (by omega)) h.s rfl, hs _ _ (.inl (by omega)) h.t rfl, hs _ _ (.inl (by omega)) h.r1 rfl, hs _ _ (.inl (by omega)) h.r2 rfl, hs _ _ (.inl (by omega)) h.r3 rfl, hs _ _ (.inr (.inl rfl)) h.l rfl, hs _ _ (.inr (.inr rfl)) h.n rfl⟩
/-- what stands between two rounds, or when the loop is left -/
def IRead (w : World) (b k : Nat) (vf vt vn vs : Value) (s : SchemaL) (t : List UInt8) : Option Code → List (List UInt8 × List UInt8) → World → Prop
  | none, pre, W => ∃ (lv : Value) (C : List RV) (at' : Nat), RdCells b k vf vt vn vs t lv at' W ∧ RecsIn (k + 2) lv C W ∧ Below w.heap.size w W ∧ k + 2 < W.heap.size ∧ C.length ≤ 64 ∧ at' ≤ t.length ∧ ∀ q, rowsL t = pre ++ q → readA s t.length [] 0 (rowsL t) = readA s t.length (C.map pR) at' q
  | some c, _, W => c = .ret ∧ ∃ (lv : Value) (C : List RV) (m : Nat) (er : Int), W.heap[b + 1 + 1]? = some (.cells #[lv] 58 (0, 0)) ∧ W.heap[b + 1 + 1 + 1]? = some (.cells #[.int .i64 m] 3 (0, 0)) ∧ W.heap[b + 1 + 1 + 1 + 1]? = some (.cells #[.int .i64 er] 38 (0, 0)) ∧ RecsIn (k + 2) lv C W ∧ Below w.heap.size w W ∧ readA s t.length [] 0 (rowsL t) = (C.map pR, m, er)
theorem IRead.own {w : World} {b k B : Nat} {vf vt vn vs : Value} {s : SchemaL} {t : List UInt8} (hB : w.heap.size ≤ B) (j : Option Code) : OwnFrom B (IRead w b k vf vt vn vs s t j) := by
  cases j with
  | none =>
    rintro p A C row ⟨lv, L, at', h1, h2, h3, h4, h5⟩ hg hr
    have hk := CellsKept.of hg hr
    have hb := ownFrom_below (β := Unit) (Nat.le_refl _) hB () A C row h3 hg hr
    exact ⟨lv, L, at', h1.same fun x o _ hx hc => hk.same x o hx hc, h2.kept hk, hb, Nat.lt_of_lt_of_le h4 hk.size, h5⟩
  | some c =>
    rintro p A C row ⟨hc, lv, L, m, er, h1, h2, h3, h4, h5, h6⟩ hg hr
    have hk := CellsKept.of hg hr
    have hb := ownFrom_below (β := Unit) (Nat.le_refl _) hB () A C row h5 hg hr
    exact ⟨hc, lv, L, m, er, hk.same _ _ h1 rfl, hk.same _ _ h2 rfl, hk.same _ _ h3 rfl, h4.kept hk, hb, h6⟩
theorem IRead.box {w : World} {b k : Nat} {vf vt vn vs : Value} {s : SchemaL} {t : List UInt8} (hb : b + 1 + 1 + 1 + 1 < k) (hw : w.heap.size ≤ k) (j : Option Code) (p : List (List UInt8 × List UInt8)) (A : World) (v : Value) (h : IRead w b k vf vt vn vs s t j p A) : IRead w b k vf vt vn vs s t j p (A.setCell ⟨k + 2, 0, none⟩ v) := by
  cases j with
  | none =>
    obtain ⟨lv, L, at', h1, h2, h3, h4, h5⟩ := h
    exact ⟨lv, L, at', h1.same fun x o hx ho _ => blk_far ho (by show x ≠ k + 2; omega), h2.far (Nat.le_refl _), h3.setCell (p := ⟨k + 2, 0, none⟩) (by show w.heap.size ≤ k + 2; omega) _, by simpa [World.setCell] using h4, h5⟩
  | some c =>
    obtain ⟨hc, lv, L, m, er, h1, h2, h3, h4, h5, h6⟩ := h
    exact ⟨hc, lv, L, m, er, blk_far h1 (by show b + 1 + 1 ≠ k + 2; omega), blk_far h2 (by show b + 1 + 1 + 1 ≠ k + 2; omega), blk_far h3 (by show b + 1 + 1 + 1 + 1 ≠ k + 2; omega), h4.far (Nat.le_refl _), h5.setCell (p := ⟨k + 2, 0, none⟩) (by show w.heap.size ≤ k + 2; omega) _, h6⟩
/-- the results laid -/
theorem read_out {w W : World} {b k : Nat} {vf vt vn vs : Value} {t : List UInt8} {lv : Value} {at' : Nat} {C : List RV} (h : RdCells b k vf vt vn vs t lv at' W) (hr : RecsIn (k + 2) lv C W) (hb : Below w.heap.size w W) (hw : w.heap.size ≤ b) (hk : b + 1 + 1 + 1 + 1 < k) (m er : Int) :
    let F := ((W.setCell ⟨b + 1 + 1, 0, none⟩ lv).setCell ⟨b + 1 + 1 + 1, 0, none⟩ (.int .i64 m)).setCell ⟨b + 1 + 1 + 1 + 1, 0, none⟩ (.int .i64 er)
    F.heap[b + 1 + 1]? = some (.cells #[lv] 58 (0, 0)) ∧ F.heap[b + 1 + 1 + 1]? = some (.cells #[.int .i64 m] 3 (0, 0)) ∧ F.heap[b + 1 + 1 + 1 + 1]? = some (.cells #[.int .i64 er] 38 (0, 0)) ∧ RecsIn (k + 2) lv C F ∧ Below w.heap.size w F := by
  have n1 : b + 1 + 1 ≠ b + 1 + 1 + 1 := by omega
  have n2 : b + 1 + 1 ≠ b + 1 + 1 + 1 + 1 := by omega
  have n3 : b + 1 + 1 + 1 ≠ b + 1 + 1 + 1 + 1 := by omega
  refine ⟨blk_far (a := ⟨b + 1 + 1 + 1 + 1, 0, none⟩) (blk_far (a := ⟨b + 1 + 1 + 1, 0, none⟩) (blk_set (i := 0) (v := lv) h.r1) n1) n2,
    blk_far (a := ⟨b + 1 + 1 + 1 + 1, 0, none⟩) (blk_set (i := 0) (v := .int .i64 m) (blk_far (a := ⟨b + 1 + 1, 0, none⟩) h.r2 n1.symm)) n3,
    blk_set (i := 0) (v := .int .i64 er) (blk_far (a := ⟨b + 1 + 1 + 1, 0, none⟩) (blk_far (a := ⟨b + 1 + 1, 0, none⟩) h.r3 n2.symm) n3.symm), ?_, ?_⟩
  · exact ((hr.far (a := ⟨b + 1 + 1, 0, none⟩) (by show b + 1 + 1 ≤ k + 2; omega)).far (a := ⟨b + 1 + 1 + 1, 0, none⟩) (by show b + 1 + 1 + 1 ≤ k + 2; omega)).far (a := ⟨b + 1 + 1 + 1 + 1, 0, none⟩) (by show b + 1 + 1 + 1 + 1 ≤ k + 2; omega)
  · exact ((hb.setCell (p := ⟨b + 1 + 1, 0, none⟩) (by show w.heap.size ≤ b + 1 + 1; omega) _).setCell (p := ⟨b + 1 + 1 + 1, 0, none⟩) (by show w.heap.size ≤ b + 1 + 1 + 1; omega) _).setCell (p := ⟨b + 1 + 1 + 1 + 1, 0, none⟩) (by show w.heap.size ≤ b + 1 + 1 + 1 + 1; omega) _
end
end Go.Proofs.YtoeplomdcannlaaGreatDoor
