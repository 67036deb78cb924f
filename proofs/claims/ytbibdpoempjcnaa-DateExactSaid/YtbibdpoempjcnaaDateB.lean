/- Contracts of date.made, date.Read, date.Parse: for every text. -/
import Derived.Test.YtbibdpoempjcnaaDateA
import Derived.Deep.RegionHeld3
import Derived.StillTailTactics
set_option linter.unusedSimpArgs false
set_option linter.unusedVariables false
namespace Go.Proofs.Ytbibdpoempjcnaa
open Go.RowKit Cal
/-- (date, code) as a result: the date and 0, or the zero date and e -/
def pk (v : Bool) (y : Int) : Int := bif v then y else 0
def cd (v : Bool) (e : Int) : Int := bif v then 0 else e
theorem pk_false (y : Int) : pk false y = 0 := rfl
theorem pk_true (y : Int) : pk true y = y := rfl
theorem cd_false (y : Int) : cd false y = y := rfl
theorem cd_true (y : Int) : cd true y = 0 := rfl
abbrev dateV (v : Bool) (y m d : Int) (e : Int) : Value := .tuple #[.agg #[.int .i64 (pk v y), .int .i64 (pk v m), .int .i64 (pk v d)], .int .i64 (cd v e)]
abbrev dateR (y m d : Int) (e : Int) : Value := dateV (vldB y m d) y m d e
set_option maxHeartbeats 1000000 in
theorem made_any (a b c : ByteArray) (w : World) (ha : a.size ≤ 4) (hb : b.size ≤ 4) (hc : c.size ≤ 4) :
    Calls Try.prog 37 #[.string a, .string b, .string c] w fun e w' => e = .returned (dateR (numI a.data.toList) (numI b.data.toList) (numI c.data.toList) 4) ∧ Below w.heap.size w w' := by
  unfold dateR dateV
  cases hv : vldB (numI a.data.toList) (numI b.data.toList) (numI c.data.toList)
  all_goals
    simp only [pk, cd, cond_true, cond_false]
    have HV := Lib.hid hv; clear hv
    go_enter Try.func37, Try.ntmps37
    go_wp2_with fail
    refine (number_any _ _ ha).mono ?_; rintro e w' ⟨rfl, rfl⟩
    go_wp2_with fail
    refine (number_any _ _ hb).mono ?_; rintro e w' ⟨rfl, rfl⟩
    go_wp2_with fail
    refine (number_any _ _ hc).mono ?_; rintro e w' ⟨rfl, rfl⟩
    go_wp2_with fail
    first | refine (valid_yes _ _ _ _ HV.out).mono ?_ | refine (valid_no _ _ _ _ HV.out).mono ?_
    rintro e w1 ⟨rfl, hb1⟩
    obtain ⟨hc1, hf1⟩ := bcell hb1
    have hz1 : w.heap.size + 1 < w1.heap.size := by have := hb1.size; simp at this; omega
    go_wp2
  all_goals
    have hg : w1.heap[w.heap.size]? = some (.cells #[.int .i64 0, .int .i64 0, .int .i64 0] 28 (0, 0)) := blk_below hb1 (by simp; omega) (heap_alloc2_old _ _ _)
    exact bodyPost_row2 rfl rfl (blk_set (blk_set (blk_set hg))) Try.underlying28 rfl rfl ⟨rfl, ((((((Below.refl _ _).alloc (Nat.le_refl _) _).alloc (by simp) _).trans (hb1.mono (by simp; omega))).setCell (by simp) _).setCell (by simp) _).setCell (by simp) _⟩

/-- the arm at a call of made inside a region: one struct cell of the call's own below -/
abbrev dateL (y m d : List UInt8) : Value := dateR (numI y) (numI m) (numI d) 4
set_option maxHeartbeats 1000000 in
theorem read_any (s : ByteArray) (w : World) :
    Calls Try.prog 18 #[.string s] w fun e w' => e = .returned (bif decide (s.size = 8) then dateL (s.data.toList.take 4) ((s.data.toList.drop 4).take 2) ((s.data.toList.drop 6).take 2) else dateV false 0 0 0 4) ∧ Below w.heap.size w w' := by
  by_cases h : s.size = 8
  · have hs : ((s.size : Int) == 8) = true := by simp; omega
    simp only [h, decide_true, cond_true]
    go_enter Try.func18, Try.ntmps18
    go_wp2
    go_region_held3 (fun _ => True) (trivial) (first | (go_at_call 37; refine (made_any _ _ _ _ (by simp; omega) (by simp; omega) (by simp; omega)).mono ?_; rintro e w1 ⟨rfl, hb1⟩; obtain ⟨hc1, hf1⟩ := bcell hb1; have hz1 : w.heap.size < w1.heap.size := (by have := hb1.size; simp at this; omega)))
    go_wp2
    have hg : w1.heap[w.heap.size]? = some (.cells #[.int .i64 0, .int .i64 0, .int .i64 0] 28 (0, 0)) := blk_below hb1 (by simp) (heap_alloc_new _ _)
    exact bodyPost_row2 rfl rfl (blk_set (blk_set (blk_set hg))) Try.underlying28 rfl rfl ⟨rfl, (((((Below.refl _ _).alloc (Nat.le_refl _) _).drew.trans (hb1.mono (by simp))).setCell (by simp) _).setCell (by simp) _).setCell (by simp) _⟩
  · have hs : ((s.size : Int) == 8) = false := by simp; omega
    simp only [h, decide_false, cond_false]
    go_enter Try.func18, Try.ntmps18
    go_wp2
    exact bodyPost_row2 rfl rfl (heap_alloc_new _ _) Try.underlying28 rfl rfl ⟨rfl, ((Below.refl _ _).alloc (Nat.le_refl _) _)⟩

def byteAt (s : ByteArray) (i : Nat) : Int := ((s.data.toList.getD i 0).toNat : Int)
def parseV (s : ByteArray) : Value :=
  if s.size = 10 then
    if byteAt s 4 = 45 ∧ byteAt s 7 = 45 then dateL (s.data.toList.take 4) ((s.data.toList.drop 5).take 2) ((s.data.toList.drop 8).take 2)
    else if byteAt s 2 = 46 ∧ byteAt s 5 = 46 then dateL ((s.data.toList.drop 6).take 4) ((s.data.toList.drop 3).take 2) (s.data.toList.take 2)
    else if byteAt s 2 = 47 ∧ byteAt s 5 = 47 then dateL ((s.data.toList.drop 6).take 4) (s.data.toList.take 2) ((s.data.toList.drop 3).take 2)
    else dateV false 0 0 0 4
  else dateV false 0 0 0 4
theorem byteAt_get (s : ByteArray) (i : Nat) (h : i < s.size) : byteAt s i = (s[i].toNat : Int) := by
  have : i < s.data.toList.length := by simpa using h
  simp only [byteAt, List.getD_eq_getElem?_getD, List.getElem?_eq_getElem this]; rfl
set_option maxHeartbeats 4000000 in
theorem parse_ten (s : ByteArray) (w : World) (h : s.size = 10) :
    Calls Try.prog 16 #[.string s] w fun e w' => e = .returned (parseV s) ∧ Below w.heap.size w w' := by
  have hs : ((s.size : Int) == 10) = true := by simp; omega
  go_enter Try.func16, Try.ntmps16
  go_wp2
  all_goals
    have e2 := byteAt_get s 2 (by omega)
    have e4 := byteAt_get s 4 (by omega)
    have e5 := byteAt_get s 5 (by omega)
    have e7 := byteAt_get s 7 (by omega)
  all_goals
    first
    | exact bodyPost_row2 rfl rfl (heap_alloc_new _ _) Try.underlying28 rfl rfl ⟨congrArg Ending.returned (by (try simp only [beq_iff_eq, beq_eq_false_iff_ne, ne_eq] at *); simp [parseV, pk_false, cd_false, *]; try rfl), ((Below.refl _ _).alloc (Nat.le_refl _) _)⟩
    | (clear e2 e4 e5 e7
       go_region_held3 (fun _ => True) (trivial) (first | (go_at_call 37; refine (made_any _ _ _ _ (by simp; omega) (by simp; omega) (by simp; omega)).mono ?_; rintro e w1 ⟨rfl, hb1⟩; obtain ⟨hc1, hf1⟩ := bcell hb1; have hz1 : w.heap.size < w1.heap.size := (by have := hb1.size; simp at this; omega)))
       go_wp2
       have hg : w1.heap[w.heap.size]? = some (.cells #[.int .i64 0, .int .i64 0, .int .i64 0] 28 (0, 0)) := blk_below hb1 (by simp) (heap_alloc_new _ _)
       have e2 := byteAt_get s 2 (by omega)
       have e4 := byteAt_get s 4 (by omega)
       have e5 := byteAt_get s 5 (by omega)
       have e7 := byteAt_get s 7 (by omega)
       exact bodyPost_row2 rfl rfl (blk_set (blk_set (blk_set hg))) Try.underlying28 rfl rfl ⟨congrArg Ending.returned (by (try simp only [beq_iff_eq, beq_eq_false_iff_ne, ne_eq] at *); simp [parseV, pk_false, cd_false, *]; try rfl), (((((Below.refl _ _).alloc (Nat.le_refl _) _).drew.trans (hb1.mono (by simp))).setCell (by simp) _).setCell (by simp) _).setCell (by simp) _⟩)
theorem parse_any (s : ByteArray) (w : World) :
    Calls Try.prog 16 #[.string s] w fun e w' => e = .returned (parseV s) ∧ Below w.heap.size w w' := by
  by_cases h : s.size = 10
  · exact parse_ten s w h
  · have hs : ((s.size : Int) == 10) = false := by simp; omega
    rw [parseV, if_neg h]
    go_enter Try.func16, Try.ntmps16
    go_wp2
    exact bodyPost_row2 rfl rfl (heap_alloc_new _ _) Try.underlying28 rfl rfl ⟨rfl, ((Below.refl _ _).alloc (Nat.le_refl _) _)⟩
end Go.Proofs.Ytbibdpoempjcnaa
