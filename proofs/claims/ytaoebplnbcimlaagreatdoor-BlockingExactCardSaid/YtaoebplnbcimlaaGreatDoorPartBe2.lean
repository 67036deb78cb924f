/- Parts of one proof: SipB, TextA, DatePlain, DateA, DateB, DateC, TextB, TextC, Shelf, TextD, MakeQ, SipC, BlkMap, Extract, TextE, TextF, NameA, NameB, NameC, NameD, NameE. -/
import Derived.Test.YtaoebplnbcimlaaGreatDoorPartBe1
import Derived.Lib.AppendStr
import Derived.Deep.Light
import Derived.Below
import Derived.StillTailTactics
import Derived.Lib.FieldsP
import Derived.Lib.Join
import Derived.Shelf.Strings.Builder1
import Derived.Shelf.Strings.Builder2
import Derived.Shelf.Strings.OnBuilder
import Derived.Shelf.Strings.Trim
import Derived.Shelf.Small.Utf8
import Derived.Shelf.Small.Bits
import Derived.Shelf.Small.Strs
import Derived.Shelf.Strings.BuilderF
import Derived.Shelf.Strings.BuilderK
import Derived.Shelf.Strconv.Atoi
import Derived.Shelf.Strconv.Itoa0
import Derived.Shelf.Strconv.Itoa1
import Derived.Shelf.LaysM
import Derived.Shelf.Strconv.Itoa2
import Derived.Shelf.Strconv.Itoa3
import Derived.Shelf.Strconv.AtoiErrFast
import Derived.Shelf.Strconv.ParseIntEmpty
import Derived.Shelf.Strconv.AtoiFail
import Derived.Shelf.Strconv.Clone
import Derived.Shelf.Strconv.SyntaxError
import Derived.Shelf.LaysC
import Derived.Shelf.Strconv.ToError
import Derived.Shelf.Strconv.Lower
import Derived.Shelf.Strconv.ParseUint10
import Derived.Shelf.Strconv.ParseUint10Empty
import Derived.Shelf.Strconv.ParseUint10Any
import Derived.Shelf.Strconv.ParseInt10
import Derived.Shelf.Strconv.AtoiLong
import Derived.Shelf.Strconv.AtoiInnerAll
import Derived.Shelf.Strconv.RangeError
import Derived.Shelf.Strconv.ToErrorRange
import Derived.Shelf.Strconv.AtoiAll
import Derived.Shelf.Strings.Search1
import Derived.Shelf.Strings.Search2
import Derived.Shelf.Strings.Search3
import Derived.Shelf.Strings.Count
import Derived.Shelf.Strings.Shaped
import Derived.Shelf.Sort.Plain
import Derived.Shelf.Strings.Split
import Derived.Shelf.Strings.SplitShaped
import Derived.Shelf.Unicode.Decode
import Derived.Shelf.Strings.Runes
import Derived.Shelf.Strings.RuneCount
import Derived.Shelf.Strings.AsciiSet
import Derived.Shelf.Strings.Explode
import Derived.Shelf.Unicode.DecodeSlow
import Derived.Shelf.Strings.FieldsFuncAny
import Derived.Shelf.Slices.Turned
import Derived.Shelf.Slices.In.SortNone
import Derived.Test.YtaoebplnbcimlaaGreatDoorProg
import Derived.Ground.SlgfProg
import Derived.Shelf.SlicesQ.IndexFunc
import Derived.Deep.WholeRow
import Derived.Deep.CutBlock
import Derived.Great.BuildSlice
import Derived.MapKept
import Derived.WideMake
import Derived.Lib.QuietBelow
set_option linter.unusedSimpArgs false
set_option linter.unusedVariables false
namespace Go.Proofs.YtaoebplnbcimlaaGreatDoor
section
set_option maxRecDepth 100000
open Go.RowKit

theorem infoBy : (Tryz.prog.info? 5).map (fun i => (i.zero, i.size, i.bytes)) = some (some (.int .u8 0), 1, 1) := by kernel_rfl
/-- all but the first m elements of a row -/
theorem Vec.dropped {α : Type} {w : World} {S : Nat → Prop} {enc : α → List Value} {b off n cap : Nat} {L : List α} (h : Vec w S 1 enc (.slice (some ⟨b, off, none⟩) n cap) L) (m : Nat) (hm : m ≤ L.length) (p : Prop) [Decidable p] (hp : p → m = L.length) (c : Nat) (hc : L.length - m ≤ c) :
    Vec w S 1 enc (.slice (if p then some ⟨b, off, none⟩ else some ⟨b, off + m, none⟩) (L.length - m) c) (L.drop m) := by
  obtain ⟨a', cap', h1, h2, h3⟩ := h
  cases h1
  refine ⟨_, c, by rw [List.length_drop], by rw [List.length_drop]; exact hc, fun h0 => ?_⟩
  rw [List.length_drop] at h0
  have hnp : ¬ p := fun hp' => by have := hp hp'; omega
  rw [if_neg hnp]
  obtain ⟨b', off', e, hS, hb, hcell⟩ := h3 (by omega)
  cases e
  refine ⟨b, off + m, rfl, hS, hb, fun j x hj i u hu => ?_⟩
  have := hcell (m + j) x (by rw [List.getElem?_drop] at hj; exact hj) i u hu
  rw [Nat.mul_one] at this ⊢
  rwa [← Nat.add_assoc] at this
theorem Vec.taken {α : Type} {w : World} {S : Nat → Prop} {k : Nat} {enc : α → List Value} {a : Option Addr} {n cap : Nat} {L : List α} (h : Vec w S k enc (.slice a n cap) L) (m c : Nat) (hm : m ≤ L.length) (hc : m ≤ c) : Vec w S k enc (.slice a m c) (L.take m) := by
  obtain ⟨a', cap', h1, h2, h3⟩ := h
  cases h1
  refine ⟨a, c, by rw [List.length_take, Nat.min_eq_left hm], by rw [List.length_take]; omega, fun h0 => ?_⟩
  rw [List.length_take] at h0
  obtain ⟨b, off, h4, h5, h5', h6⟩ := h3 (by omega)
  refine ⟨b, off, h4, h5, h5', fun j x hj => h6 j x ?_⟩
  rw [List.getElem?_take] at hj
  split at hj
  · exact hj
  · cases hj
theorem Vec.grown {α : Type} {w w' : World} {S : Nat → Prop} {k : Nat} {enc : α → List Value} {v : Value} {L : List α} {b : Nat} (h : Vec w S k enc v L) (hS : ∀ x, S x → x ≠ b) (g : w.grownBy w' (some b)) : Vec w' S k enc v L :=
  h.move g.size fun x hx hs => ⟨g.block x hx (by have := hS x hs; simp; omega), hs⟩
def lenOfV : Value → Nat
  | .slice _ n _ => n
  | _ => 0
theorem SipAt.base {w W w' : World} {b B : Nat} {s : Sip} (h : SipAt W b s w') (hb : Below B w W) (hB : B ≤ b) (hW : B ≤ W.heap.size) : Below B w w' :=
  hb.trans ⟨h.2.os, h.2.tape, h.2.output, h.2.size, fun k hk => h.2.block k (by omega) (by simp; omega)⟩
theorem eachP_step (s : Sip) (l : List UInt8) (n : Nat) : eachP s l (n + 1) = eachP (wordP s (numP 0 0 (l.take 8))) (l.drop 8) n := rfl
theorem eachP_more (s : Sip) (l : List UInt8) (h : 8 ≤ l.length) : eachP s l (l.length / 8) = eachP (wordP s (numP 0 0 (l.take 8))) (l.drop 8) ((l.drop 8).length / 8) := by
  rw [show l.length / 8 = (l.drop 8).length / 8 + 1 by rw [List.length_drop]; omega, eachP_step]
theorem eachP_end (s : Sip) (l : List UInt8) (h : l.length < 8) : eachP s l (l.length / 8) = (s, l) := by
  rw [show l.length / 8 = 0 by omega]; rfl
theorem sumP_of (ka kb : Int) (l : List UInt8) (s : Sip) (r : List UInt8) (h : eachP ⟨xr ka 8317987319222330741, xr kb 7237128888997146477, xr ka 7816392313619706465, xr kb 8387220255154660723⟩ l (l.length / 8) = (s, r)) (u : Sip)
    (hu : wordP s (bits .or .u64 (numP 0 0 r) (IntKind.u64.wrap ((l.length : Int) * 72057594037927936))) = u) (v : Sip) (hv : rndI 4 ⟨u.a, u.b, xr u.c 255, u.d⟩ = v) : xr (xr (xr v.a v.b) v.c) v.d = sumP ka kb l := by
  unfold sumP
  rw [h]
  dsimp only
  rw [hu, ← hv]; rfl
set_option maxHeartbeats 4000000 in
theorem ssum_any (S : Nat → Prop) (ka kb : Int) (v : Value) (l : List UInt8) (w : World) (h : Vec w S 1 encB v l) (hl : l.length ≤ 1000000000) :
    Calls Tryz.prog 180 #[.agg #[.int .u64 ka, .int .u64 kb], v] w fun e w' => e = .returned (.int .u64 (sumP ka kb l)) ∧ Below w.heap.size w w' := by
  obtain ⟨a, cap, rfl⟩ := h.slice
  have HV := Lib.hid (h.any.move (S' := fun b => b < w.heap.size) (w' := w) (Nat.le_refl _) fun b hb _ => ⟨rfl, hb⟩); clear h
  go_enter Tryz.func180, Tryz.ntmps180
  go_wp2_with fail
  refine wp_world (fun W hW => ?_)
  have hb0 : Below w.heap.size w W := by rw [hW]; exact ((Below.refl _ _).alloc (Nat.le_refl _) _).alloc (by simp) _
  have hs0 : SipAt W (w.heap.size + 1) ⟨xr ka 8317987319222330741, xr kb 7237128888997146477, xr ka 7816392313619706465, xr kb 8387220255154660723⟩ W := by rw [hW]; exact ⟨blk_new (by simp), grown_refl _ _⟩
  have hv0 := HV.out.below hb0
  clear hW HV
  have HB0 := Lib.hid hb0; have HS0 := Lib.hid hs0; have HV0 := Lib.hid hv0
  clear hb0 hs0 hv0
  go_loopw [1] (fun v wr => ∃ (r : List UInt8) (s : Sip), Vec wr (fun b => b < w.heap.size) 1 encB v r ∧ SipAt W (w.heap.size + 1) s wr ∧ Hid (eachP s r (r.length / 8) = eachP ⟨xr ka 8317987319222330741, xr kb 7237128888997146477, xr ka 7816392313619706465, xr kb 8387220255154660723⟩ l (l.length / 8)) ∧ r.length ≤ l.length) (fun v _ => lenOfV v)
  case atStart => exact ⟨l, _, HV0.out, HS0.out, Lib.hid rfl, Nat.le_refl _⟩
  case round =>
    obtain ⟨r, s, hv, hs, HE, hrl⟩ := hrel
    obtain ⟨ar, cr, rfl⟩ := hv.slice
    have HV := Lib.hid hv; have HS := Lib.hid hs
    have hcr : r.length ≤ cr := hv.len.2
    clear hv hs
    by_cases hlt : 8 ≤ r.length
    · have hq : decide ((8 : Int) ≤ r.length) = true := by simp; omega
      have hc8 : (8 : Int) ≤ (cr : Int) := by omega
      obtain ⟨ba, oa, rfl, _, _⟩ := HV.out.get 0 (by omega)
      go_wp2_with fail
      refine (snumber_any _ _ (r.take 8) _ (HV.out.taken 8 cr hlt (by omega)) (by simp; omega)).mono ?_
      rintro e wq ⟨rfl, rfl⟩
      go_wp2_with fail
      refine (sword_any _ s _ _ HS.out.1).mono ?_
      rintro e w1 ⟨rfl, hs1⟩
      have HV1 := Lib.hid (HV.out.grown (b := w.heap.size + 1) (fun x hx => by omega) hs1.2)
      have HS1 := Lib.hid (show SipAt W (w.heap.size + 1) (wordP s (numP 0 0 (r.take 8))) w1 from ⟨hs1.1, grown_trans HS.out.2 hs1.2⟩)
      clear hs1 HS HV
      go_wp2_with fail
      go_roundw
      case rel => exact ⟨r.drop 8, _, HV1.out.dropped 8 hlt (cr = 8) (fun h => by omega) (cr - 8) (by omega), HS1.out, Lib.hid (by rw [← HE.out, eachP_more s r hlt]), by rw [List.length_drop]; omega⟩
      case measure => simp only [lenOfV]; omega
    · have hq : decide ((8 : Int) ≤ r.length) = false := by simp; omega
      have hE := HE.out
      rw [eachP_end s r (by omega)] at hE
      have HE2 := Lib.hid hE.symm
      clear hE HE
      go_wp2_with fail
      refine (snumber_any _ _ r _ HV.out (by omega)).mono ?_
      rintro e wq ⟨rfl, rfl⟩
      go_wp2_with fail
      refine (sword_any _ s _ _ HS.out.1).mono ?_
      rintro e w1 ⟨rfl, hs1⟩
      obtain ⟨u, hu⟩ : ∃ u, wordP s (bits .or .u64 (numP 0 0 r) (IntKind.u64.wrap ((l.length : Int) * 72057594037927936))) = u := ⟨_, rfl⟩
      rw [hu] at hs1
      have HU := Lib.hid hu
      have HS1 := Lib.hid (show SipAt W (w.heap.size + 1) u w1 from ⟨hs1.1, grown_trans HS.out.2 hs1.2⟩)
      clear hs1 HS HV hu
      obtain ⟨⟨c0, c1, c2, c3⟩, f0, f1, f2, f3⟩ := HS1.out.read
      go_wp2_with fail
      have hs2 : SipAt W (w.heap.size + 1) ⟨u.a, u.b, xr u.c 255, u.d⟩ (w1.setCell ⟨w.heap.size + 1, 2, none⟩ (.int .u64 (xr u.c 255))) := HS1.out.set (n := 0) rfl
      refine (rounds_any _ ⟨u.a, u.b, xr u.c 255, u.d⟩ 4 _ hs2.1 (by omega)).mono ?_
      rintro e w2 ⟨rfl, hs3⟩
      obtain ⟨v, hv⟩ : ∃ v, rndI 4 ⟨u.a, u.b, xr u.c 255, u.d⟩ = v := ⟨_, rfl⟩
      rw [hv] at hs3
      have HVv := Lib.hid hv
      have HS3 := Lib.hid (show SipAt W (w.heap.size + 1) v w2 from ⟨hs3.1, grown_trans hs2.2 hs3.2⟩)
      clear hs2 hs3 hv HS1 c0 c1 c2 c3 f0 f1 f2 f3
      obtain ⟨⟨c0, c1, c2, c3⟩, f0, f1, f2, f3⟩ := HS3.out.read
      go_wp2_with fail
      go_ret
      refine ⟨?_, HS3.out.base HB0.out (by omega) HB0.out.size⟩
      rw [← sumP_of ka kb l s r HE2.out u HU.out v HVv.out]
      rfl
end
section
open Go.RowKit
theorem low_iff (b : UInt8) : isLow b = decide (97 ≤ (b.toNat : Int) ∧ (b.toNat : Int) ≤ 122) := by
  unfold isLow; rw [Bool.eq_iff_iff]; simp [UInt8.le_iff_toNat_le]; try omega
theorem up_iff (b : UInt8) : isUp b = decide (65 ≤ (b.toNat : Int) ∧ (b.toNat : Int) ≤ 90) := by
  unfold isUp; rw [Bool.eq_iff_iff]; simp [UInt8.le_iff_toNat_le]; try omega
theorem dig_iff (b : UInt8) : isDgt b = decide (48 ≤ (b.toNat : Int) ∧ (b.toNat : Int) ≤ 57) := by
  unfold isDgt; rw [Bool.eq_iff_iff]; simp [UInt8.le_iff_toNat_le]; try omega
theorem ok_iff (b : UInt8) : okByte b = decide (32 ≤ (b.toNat : Int) ∧ (b.toNat : Int) ≤ 126) := by
  unfold okByte; rw [Bool.eq_iff_iff]; simp [UInt8.le_iff_toNat_le]; try omega
set_option maxHeartbeats 400000 in
theorem letter_any (b : UInt8) (w : World) :
    Calls Tryz.prog 210 #[.int .u8 b.toNat] w fun e w' => e = .returned (.bool (isLow b)) ∧ w = w' := by
  rw [low_iff]
  have hb := b.toNat_lt
  by_cases h1 : 97 ≤ (b.toNat : Int) <;> by_cases h2 : (b.toNat : Int) ≤ 122
  all_goals
    go_enter Tryz.func210, Tryz.ntmps210
    go_wp2
    go_ret
    exact ⟨ret_bool (by simp; try omega), rfl⟩
set_option maxHeartbeats 400000 in
theorem digit_any (b : UInt8) (w : World) :
    Calls Tryz.prog 312 #[.int .u8 b.toNat] w fun e w' => e = .returned (.bool (isDgt b)) ∧ w = w' := by
  rw [dig_iff]
  have hb := b.toNat_lt
  by_cases h1 : 48 ≤ (b.toNat : Int) <;> by_cases h2 : (b.toNat : Int) ≤ 57
  all_goals
    go_enter Tryz.func312, Tryz.ntmps312
    go_wp2
    go_ret
    exact ⟨ret_bool (by simp; try omega), rfl⟩
/-- does a pair begin at the head of a list -/
def pairAt : List UInt8 → Bool
  | a :: b :: _ => isPair a b
  | _ => false
theorem pair_iff (a b : UInt8) : isPair a b = decide ((a.toNat : Int) = 195 ∧ 128 ≤ (b.toNat : Int) ∧ (b.toNat : Int) ≤ 191) := by
  unfold isPair; rw [Bool.eq_iff_iff]; simp [UInt8.le_iff_toNat_le, ← UInt8.toNat_inj]; try omega
theorem drop_two (s : ByteArray) (i : Nat) (h : i + 1 < s.size) : s.data.toList.drop i = s[i] :: s[i + 1] :: s.data.toList.drop (i + 2) := by
  have hl : s.data.toList.length = s.size := by simp
  rw [List.drop_eq_getElem_cons (by omega), List.drop_eq_getElem_cons (by omega)]; rfl
theorem drop_last (s : ByteArray) (i : Nat) (h : i + 1 = s.size) : s.data.toList.drop i = [s[i]] := by
  have hl : s.data.toList.length = s.size := by simp
  rw [List.drop_eq_getElem_cons (by omega), List.drop_eq_nil_of_le (by omega)]
  rfl
set_option maxHeartbeats 400000 in
theorem pair_any (s : ByteArray) (i : Nat) (w : World) (hi : i < s.size) (hs : s.size ≤ 9223372036854775807) :
    Calls Tryz.prog 303 #[.string s, .int .i64 i] w fun e w' => e = .returned (.bool (pairAt (s.data.toList.drop i))) ∧ w = w' := by
  by_cases h2 : i + 1 < s.size
  · have H := Lib.hid (drop_two s i h2)
    go_enter Tryz.func303, Tryz.ntmps303
    go_wp2
    all_goals
      go_ret
      refine ⟨ret_bool ?_, rfl⟩
      go_light
      rw [H.out]
      simp only [pairAt]
      rw [pair_iff]
      clear H
      simp_all
      try omega
  · have H := Lib.hid (drop_last s i (by omega))
    have hd : decide ((i : Int) + 1 < s.size) = false := by simp; omega
    go_enter Tryz.func303, Tryz.ntmps303
    go_wp2
    all_goals
      go_ret
      refine ⟨ret_bool ?_, rfl⟩
      rw [H.out]
      rfl
end
end Go.Proofs.YtaoebplnbcimlaaGreatDoor
section
namespace Go.Proofs.YtaoebplnbcimlaaGreatDoor
namespace Cal

def leapB (y : Int) : Bool := decide (y % 4 = 0) && (decide (y % 100 ≠ 0) || decide (y % 400 = 0))
def dim (y m : Int) : Int :=
  if m = 2 then (if leapB y = true then 29 else 28) else if m = 4 ∨ m = 6 ∨ m = 9 ∨ m = 11 then 30 else 31
def vldB (y m d : Int) : Bool := decide (1800 ≤ y ∧ y ≤ 2199 ∧ 1 ≤ m ∧ m ≤ 12 ∧ 1 ≤ d ∧ d ≤ dim y m)
theorem dim_lo (y m : Int) : 28 ≤ dim y m ∧ dim y m ≤ 31 := by unfold dim; (repeat' split) <;> omega
theorem vld_iff (y m d : Int) : vldB y m d = true ↔ (1800 ≤ y ∧ y ≤ 2199 ∧ 1 ≤ m ∧ m ≤ 12 ∧ 1 ≤ d ∧ d ≤ dim y m) := by unfold vldB; simp
theorem vld_bd {y m d : Int} (h : vldB y m d = true) : 1800 ≤ y ∧ y ≤ 2199 ∧ 1 ≤ m ∧ m ≤ 12 ∧ 1 ≤ d ∧ d ≤ 31 := by
  have := (vld_iff y m d).1 h; have := dim_lo y m; omega
/-- decimal digits read on from n -/
def numFrom : Int → List UInt8 → Option Int
  | n, [] => some n
  | n, c :: cs => if 48 ≤ (c.toNat : Int) ∧ (c.toNat : Int) ≤ 57 then numFrom (10 * n + ((c.toNat : Int) - 48)) cs else none
theorem numFrom_append (l r : List UInt8) : ∀ n, numFrom n (l ++ r) = (numFrom n l).bind fun m => numFrom m r := by
  induction l with
  | nil => intro n; rfl
  | cons c cs ih => intro n; simp only [List.cons_append, numFrom]; split <;> simp [ih]
theorem take_snoc (s : ByteArray) (k : Nat) (h : k < s.size) : s.data.toList.take (k + 1) = s.data.toList.take k ++ [s[k]] := by
  rw [List.take_succ_eq_append_getElem (by simpa using h)]; rfl
theorem numFrom_snoc (s : ByteArray) (k : Nat) (h : k < s.size) (N : Int) (hN : numFrom 0 (s.data.toList.take k) = some N) :
    numFrom 0 (s.data.toList.take (k + 1)) = if 48 ≤ (s[k].toNat : Int) ∧ (s[k].toNat : Int) ≤ 57 then some (10 * N + ((s[k].toNat : Int) - 48)) else none := by
  rw [take_snoc s k h, numFrom_append, hN]; simp [numFrom]
theorem numFrom_bad (s : ByteArray) (k : Nat) (h : k < s.size) (N : Int) (hN : numFrom 0 (s.data.toList.take k) = some N) (hb : ¬ (48 ≤ (s[k].toNat : Int) ∧ (s[k].toNat : Int) ≤ 57)) :
    numFrom 0 s.data.toList = none := by
  have e : s.data.toList = s.data.toList.take (k + 1) ++ s.data.toList.drop (k + 1) := (List.take_append_drop _ _).symm
  rw [e, numFrom_append, numFrom_snoc s k h N hN, if_neg hb]; rfl
def numI (l : List UInt8) : Int := (numFrom 0 l).getD (-1)
end Cal
end Go.Proofs.YtaoebplnbcimlaaGreatDoor
end
namespace Go.Proofs.YtaoebplnbcimlaaGreatDoor
section
open Go.RowKit Cal
theorem sz3 : ∀ w, (Go.sizeOf 3).run Tryz.prog w = .ok 1 w := fun _ => by kernel_rfl
theorem idx12 {k : Int} {cs : Array Value} {v : Value} (h0 : 0 ≤ k) (h1 : k < 12) (hv : cs[k.toNat]? = some v) (w : World) :
    (Instr.index 314 (.agg cs) (.int .i64 k)).run Tryz.prog w = .ok v w :=
  run_index_arr Tryz.underlying314 (by kernel_rfl) sz3 h0 h1 hv w

set_option maxHeartbeats 400000 in
theorem leap_any (y : Int) (w : World) (h : 0 ≤ y) :
    Calls Tryz.prog 324 #[.int .i64 y] w fun e w' => e = .returned (.bool (leapB y)) ∧ w = w' := by
  go_enter Tryz.func324, Tryz.ntmps324
  go_wp2
  all_goals go_ret
  all_goals exact ⟨ret_bool (by simp [leapB, *, Bool.beq_eq_decide_eq]), rfl⟩

theorem leap_yes (y : Int) (w : World) (h : 0 ≤ y) (hl : leapB y = true) :
    Calls Tryz.prog 324 #[.int .i64 y] w fun e w' => e = .returned (.bool true) ∧ w = w' := by
  have := leap_any y w h; rwa [hl] at this
theorem leap_no (y : Int) (w : World) (h : 0 ≤ y) (hl : leapB y = false) :
    Calls Tryz.prog 324 #[.int .i64 y] w fun e w' => e = .returned (.bool false) ∧ w = w' := by
  have := leap_any y w h; rwa [hl] at this

set_option maxHeartbeats 400000 in
theorem days_feb (y : Int) (w : World) (h : 0 ≤ y) :
    Calls Tryz.prog 316 #[.int .i64 y, .int .i64 2] w fun e w' => e = .returned (.int .i64 (dim y 2)) ∧ w = w' := by
  cases hl : leapB y with
  | true =>
    have e : dim y 2 = 29 := by simp [dim, hl]
    rw [e]; clear e
    have i0 := fun w cs v hv => @idx12 1 cs v (by decide) (by decide) hv w
    go_enter Tryz.func316, Tryz.ntmps316
    go_wp2_with (go_at_call 324; refine (leap_yes _ _ h hl).mono ?_; rintro e w' ⟨rfl, rfl⟩)
    go_ret
    exact ⟨rfl, rfl⟩
  | false =>
    have e : dim y 2 = 28 := by simp [dim, hl]
    rw [e]; clear e
    have i0 := fun w cs v hv => @idx12 1 cs v (by decide) (by decide) hv w
    go_enter Tryz.func316, Tryz.ntmps316
    go_wp2_with (go_at_call 324; refine (leap_no _ _ h hl).mono ?_; rintro e w' ⟨rfl, rfl⟩)
    go_ret
    exact ⟨rfl, rfl⟩
theorem tbl12 (m : Int) (h1 : 1 ≤ m) (h2 : m ≤ 12) (h : m ≠ 2) (y : Int) (w : World) :
    (Instr.index 314 (.agg #[.int .i64 31, .int .i64 28, .int .i64 31, .int .i64 30, .int .i64 31, .int .i64 30, .int .i64 31, .int .i64 31, .int .i64 30, .int .i64 31, .int .i64 30, .int .i64 31]) (.int .i64 (m - 1))).run Tryz.prog w = .ok (.int .i64 (dim y m)) w := by
  refine idx12 (by omega) (by omega) ?_ w
  have : m = 1 ∨ m = 3 ∨ m = 4 ∨ m = 5 ∨ m = 6 ∨ m = 7 ∨ m = 8 ∨ m = 9 ∨ m = 10 ∨ m = 11 ∨ m = 12 := by omega
  rcases this with rfl | rfl | rfl | rfl | rfl | rfl | rfl | rfl | rfl | rfl | rfl <;> rfl
set_option maxHeartbeats 1000000 in
theorem days_any (y m : Int) (w : World) (h : 0 ≤ y) (h1 : 1 ≤ m) (h2 : m ≤ 12) :
    Calls Tryz.prog 316 #[.int .i64 y, .int .i64 m] w fun e w' => e = .returned (.int .i64 (dim y m)) ∧ w = w' := by
  by_cases hm : m = 2
  · subst hm; exact days_feb y w h
  have i0 := fun w => tbl12 m h1 h2 hm y w
  have hb : ((m : Int) == 2) = false := by simpa using hm
  clear hm
  go_enter Tryz.func316, Tryz.ntmps316
  go_wp2
  go_ret
  exact ⟨rfl, rfl⟩

set_option maxHeartbeats 1000000 in
theorem valid_no (y m d : Int) (w : World) (hv : vldB y m d = false) :
    Calls Tryz.prog 308 #[.agg #[.int .i64 y, .int .i64 m, .int .i64 d]] w fun e w' => e = .returned (.bool false) ∧ Below w.heap.size w w' := by
  have hh : decide (1800 ≤ y) = false ∨ (1800 ≤ y ∧ decide (y ≤ 2199) = false) ∨ (1800 ≤ y ∧ y ≤ 2199 ∧ decide (1 ≤ m) = false) ∨ (1800 ≤ y ∧ y ≤ 2199 ∧ 1 ≤ m ∧ decide (m ≤ 12) = false) ∨ (1800 ≤ y ∧ y ≤ 2199 ∧ 1 ≤ m ∧ m ≤ 12 ∧ decide (1 ≤ d) = false) ∨ (1800 ≤ y ∧ y ≤ 2199 ∧ 1 ≤ m ∧ m ≤ 12 ∧ 1 ≤ d ∧ decide (d ≤ dim y m) = false) := by
    have := vld_iff y m d
    rw [hv] at this
    simp at this ⊢
    omega
  clear hv
  rcases hh with h | ⟨_, h⟩ | ⟨_, _, h⟩ | ⟨_, _, _, h⟩ | ⟨_, _, _, _, h⟩ | ⟨_, _, _, _, _, h⟩
  iterate 5
    · go_enter Tryz.func308, Tryz.ntmps308
      go_wp2
      go_quiet (fail)
      go_wp2
      go_ret
      exact ⟨rfl, below_drewN ((Below.refl _ _).alloc (Nat.le_refl _) _) _⟩
  go_enter Tryz.func308, Tryz.ntmps308
  go_wp2
  go_quiet ((go_at_call 316; exact quiet_eq (days_any _ _ _ (by omega) (by omega) (by omega))))
  go_wp2
  go_ret
  exact ⟨rfl, below_drewN ((Below.refl _ _).alloc (Nat.le_refl _) _) _⟩
set_option maxHeartbeats 1000000 in
theorem valid_yes (y m d : Int) (w : World) (hv : vldB y m d = true) :
    Calls Tryz.prog 308 #[.agg #[.int .i64 y, .int .i64 m, .int .i64 d]] w fun e w' => e = .returned (.bool true) ∧ Below w.heap.size w w' := by
  obtain ⟨h1, h2, h3, h4, h5, h6⟩ := (vld_iff y m d).1 hv
  clear hv
  go_enter Tryz.func308, Tryz.ntmps308
  go_wp2
  go_quiet ((go_at_call 316; exact quiet_eq (days_any _ _ _ (by omega) (by omega) (by omega))))
  go_wp2
  go_ret
  exact ⟨rfl, below_drewN ((Below.refl _ _).alloc (Nat.le_refl _) _) _⟩
set_option maxHeartbeats 400000 in
theorem number_any (s : ByteArray) (w : World) (hs : s.size ≤ 4) :
    Calls Tryz.prog 310 #[.string s] w fun e w' => e = .returned (.int .i64 (numI s.data.toList)) ∧ w = w' := by
  go_enter Tryz.func310, Tryz.ntmps310
  go_wp2
  go_loop [3, 4, 7] (fun n _ i => ∃ (k : Nat) (N : Int), k ≤ s.size ∧ i = .int .i64 k ∧ n = .int .i64 N ∧ numFrom 0 (s.data.toList.take k) = some N ∧ 0 ≤ N ∧ N < 10 ^ k) (fun _ _ i => s.size - (intOf i).toNat)
  case atStart => exact ⟨0, 0, Nat.zero_le _, rfl, rfl, rfl, by decide, by decide⟩
  case round =>
    obtain ⟨k, N, hk, rfl, rfl, hN, h0, h1⟩ := hrel
    have HN := Lib.hid hN; clear hN
    have hp : (10 : Int) ^ k ≤ 10000 := by
      have : k = 0 ∨ k = 1 ∨ k = 2 ∨ k = 3 ∨ k = 4 := by omega
      rcases this with rfl | rfl | rfl | rfl | rfl <;> decide
    have hN4 : N < 10000 := by omega
    have H1 := Lib.hid h1; clear h1 hp
    by_cases hlt : k < s.size
    · go_wp2
      · go_ret
        exact ⟨ret_int (by have := numFrom_bad s k hlt N HN.out (by omega); simp [numI, this]), rfl⟩
      · have hs := numFrom_snoc s k hlt N HN.out
        rw [if_pos ‹_›] at hs
        have h1 := H1.out
        have e1 : (10 : Int) ^ (k + 1) = 10 ^ k * 10 := by rw [Int.pow_succ]
        go_round
        case rel => exact ⟨k + 1, _, by omega, by go_num, rfl, hs, by omega, by omega⟩
        case measure => simp [intOf]; omega
      · go_ret
        exact ⟨ret_int (by have := numFrom_bad s k hlt N HN.out (by omega); simp [numI, this]), rfl⟩
    · go_wp2
      go_ret
      obtain rfl : k = s.size := by omega
      exact ⟨ret_int (by have := HN.out; rw [List.take_of_length_le (by simp)] at this; simp [numI, this]), rfl⟩
end
section
open Go.RowKit Cal
/-- (date, code) as a result: the date and 0, or the zero date and e -/
def pk (v : Bool) (y : Int) : Int := bif v then y else 0
def cd (v : Bool) (e : Int) : Int := bif v then 0 else e
theorem pk_false (y : Int) : pk false y = 0 := rfl
theorem cd_false (y : Int) : cd false y = y := rfl
theorem cd_true (y : Int) : cd true y = 0 := rfl
abbrev dateV (v : Bool) (y m d : Int) (e : Int) : Value := .tuple #[.agg #[.int .i64 (pk v y), .int .i64 (pk v m), .int .i64 (pk v d)], .int .i64 (cd v e)]
abbrev dateR (y m d : Int) (e : Int) : Value := dateV (vldB y m d) y m d e
set_option maxHeartbeats 1000000 in
theorem made_any (a b c : ByteArray) (w : World) (ha : a.size ≤ 4) (hb : b.size ≤ 4) (hc : c.size ≤ 4) :
    Calls Tryz.prog 298 #[.string a, .string b, .string c] w fun e w' => e = .returned (dateR (numI a.data.toList) (numI b.data.toList) (numI c.data.toList) 4) ∧ Below w.heap.size w w' := by
  unfold dateR dateV
  cases hv : vldB (numI a.data.toList) (numI b.data.toList) (numI c.data.toList)
  all_goals
    simp only [pk, cd, cond_true, cond_false]
    have HV := Lib.hid hv; clear hv
    go_enter Tryz.func298, Tryz.ntmps298
    go_wp2_with fail
    refine (number_any _ _ ha).mono ?_; rintro e w' ⟨rfl, rfl⟩
    go_wp2_with fail
    refine (number_any _ _ hb).mono ?_; rintro e w' ⟨rfl, rfl⟩
    go_wp2_with fail
    refine (number_any _ _ hc).mono ?_; rintro e w' ⟨rfl, rfl⟩
    go_wp2_with fail
    first | refine (valid_yes _ _ _ _ HV.out).mono ?_ | refine (valid_no _ _ _ _ HV.out).mono ?_
    rintro e w1 ⟨rfl, hb1⟩
    obtain ⟨hc1, hf1⟩ := bcell hb1
    have hz1 : w.heap.size + 1 < w1.heap.size := by have := hb1.size; simp at this; omega
    go_wp2
  all_goals
    have hg : w1.heap[w.heap.size]? = some (.cells #[.int .i64 0, .int .i64 0, .int .i64 0] 165 (0, 0)) := blk_below hb1 (by simp; omega) (heap_alloc2_old _ _ _)
    exact bodyPost_row2 rfl rfl (blk_set (blk_set (blk_set hg))) Tryz.underlying165 rfl (by kernel_rfl) ⟨rfl, ((((((Below.refl _ _).alloc (Nat.le_refl _) _).alloc (by simp) _).trans (hb1.mono (by simp; omega))).setCell (by simp) _).setCell (by simp) _).setCell (by simp) _⟩

/-- the arm at a call of made inside a region: one struct cell of the call's own below -/
abbrev dateL (y m d : List UInt8) : Value := dateR (numI y) (numI m) (numI d) 4
set_option maxHeartbeats 1000000 in
theorem read_any (s : ByteArray) (w : World) :
    Calls Tryz.prog 278 #[.string s] w fun e w' => e = .returned (bif decide (s.size = 8) then dateL (s.data.toList.take 4) ((s.data.toList.drop 4).take 2) ((s.data.toList.drop 6).take 2) else dateV false 0 0 0 4) ∧ Below w.heap.size w w' := by
  by_cases h : s.size = 8
  · have hs : ((s.size : Int) == 8) = true := by simp; omega
    simp only [h, decide_true, cond_true]
    go_enter Tryz.func278, Tryz.ntmps278
    go_wp2
    go_region_held3 (fun _ => True) (trivial) (first | (go_at_call 298; refine (made_any _ _ _ _ (by simp; omega) (by simp; omega) (by simp; omega)).mono ?_; rintro e w1 ⟨rfl, hb1⟩; obtain ⟨hc1, hf1⟩ := bcell hb1; have hz1 : w.heap.size < w1.heap.size := (by have := hb1.size; simp at this; omega)))
    go_wp2
    have hg : w1.heap[w.heap.size]? = some (.cells #[.int .i64 0, .int .i64 0, .int .i64 0] 165 (0, 0)) := blk_below hb1 (by simp) (heap_alloc_new _ _)
    exact bodyPost_row2 rfl rfl (blk_set (blk_set (blk_set hg))) Tryz.underlying165 rfl (by kernel_rfl) ⟨rfl, (((((Below.refl _ _).alloc (Nat.le_refl _) _).drew.trans (hb1.mono (by simp))).setCell (by simp) _).setCell (by simp) _).setCell (by simp) _⟩
  · have hs : ((s.size : Int) == 8) = false := by simp; omega
    simp only [h, decide_false, cond_false]
    go_enter Tryz.func278, Tryz.ntmps278
    go_wp2
    exact bodyPost_row2 rfl rfl (heap_alloc_new _ _) Tryz.underlying165 rfl (by kernel_rfl) ⟨rfl, ((Below.refl _ _).alloc (Nat.le_refl _) _)⟩

def byteAt (s : ByteArray) (i : Nat) : Int := ((s.data.toList.getD i 0).toNat : Int)
def parseV (s : ByteArray) : Value :=
  if s.size = 10 then
    if byteAt s 4 = 45 ∧ byteAt s 7 = 45 then dateL (s.data.toList.take 4) ((s.data.toList.drop 5).take 2) ((s.data.toList.drop 8).take 2)
    else if byteAt s 2 = 46 ∧ byteAt s 5 = 46 then dateL ((s.data.toList.drop 6).take 4) ((s.data.toList.drop 3).take 2) (s.data.toList.take 2)
    else if byteAt s 2 = 47 ∧ byteAt s 5 = 47 then dateL ((s.data.toList.drop 6).take 4) (s.data.toList.take 2) ((s.data.toList.drop 3).take 2)
    else dateV false 0 0 0 4
  else dateV false 0 0 0 4
theorem byteAt_get (s : ByteArray) (i : Nat) (h : i < s.size) : byteAt s i = (s[i].toNat : Int) := by
  have : i < s.data.toList.length := by simpa using h
  simp only [byteAt, List.getD_eq_getElem?_getD, List.getElem?_eq_getElem this]; rfl
end
section
set_option maxRecDepth 100000
open Go.RowKit Cal
/-- n digits of a number, the lowest last -/
def dg : Int → Nat → List UInt8
  | _, 0 => []
  | n, k + 1 => dg (n / 10) k ++ [UInt8.ofNat (48 + (n % 10).toNat)]
theorem infoB : (Tryz.prog.info? 5).map (fun i => (i.zero, i.size, i.bytes)) = some (some (.int .u8 0), 1, 1) := by kernel_rfl
/-- the eight digits of a date -/
def digits8 (y m d : Int) : List UInt8 := dg y 4 ++ dg m 2 ++ dg d 2
end
section
set_option maxRecDepth 20000
open Go.RowKit
theorem drop_one (s : ByteArray) (i : Nat) (h : i < s.size) : s.data.toList.drop i = s[i] :: s.data.toList.drop (i + 1) := by
  have hl : s.data.toList.length = s.size := by simp
  rw [List.drop_eq_getElem_cons (by omega)]; rfl
theorem pairAt_lt (s : ByteArray) (i : Nat) (hi : i < s.size) (h : pairAt (s.data.toList.drop i) = true) : i + 1 < s.size := by
  rcases Nat.lt_or_ge (i + 1) s.size with h' | h'
  · exact h'
  · rw [drop_last s i (by omega)] at h; cases h
theorem valid_two (s : ByteArray) (i : Nat) (hi : i < s.size) (h : pairAt (s.data.toList.drop i) = true) : validL (s.data.toList.drop i) = validL (s.data.toList.drop (i + 2)) := by
  have h2 := pairAt_lt s i hi h
  rw [drop_two s i h2] at h ⊢
  simp only [pairAt] at h
  simp only [validL, h, if_true]
theorem valid_one (s : ByteArray) (i : Nat) (hi : i < s.size) (h : pairAt (s.data.toList.drop i) = false) : validL (s.data.toList.drop i) = (okByte s[i] && validL (s.data.toList.drop (i + 1))) := by
  by_cases h2 : i + 1 < s.size
  · rw [drop_two s i h2] at h ⊢
    simp only [pairAt] at h
    rw [validL, h, drop_one s (i + 1) h2]
    simp
  · have hl : s.data.toList.length = s.size := by simp
    rw [drop_last s i (by omega), List.drop_eq_nil_of_le (by omega)]
    simp [validL]
theorem raw_two (s : ByteArray) (i : Nat) (hi : i + 1 < s.size) (h : pairAt (s.data.toList.drop i) = true) : rawL (s.data.toList.drop i) = replB s[i + 1] ++ rawL (s.data.toList.drop (i + 2)) := by
  rw [drop_two s i hi] at h ⊢
  simp only [pairAt] at h
  simp only [rawL, h, if_true]
theorem raw_one (s : ByteArray) (i : Nat) (hi : i < s.size) (h : pairAt (s.data.toList.drop i) = false) : rawL (s.data.toList.drop i) = plainB s[i] ++ rawL (s.data.toList.drop (i + 1)) := by
  by_cases h2 : i + 1 < s.size
  · rw [drop_two s i h2] at h ⊢
    simp only [pairAt] at h
    rw [rawL, h, drop_one s (i + 1) h2]
    simp
  · have hl : s.data.toList.length = s.size := by simp
    rw [drop_last s i (by omega), List.drop_eq_nil_of_le (by omega)]
    simp [rawL]
set_option maxHeartbeats 400000 in
theorem tvalid_any (s : ByteArray) (w : World) (hs : s.size ≤ 9223372036854775000) :
    Calls Tryz.prog 301 #[.string s] w fun e w' => e = .returned (.bool (foldV s.data.toList)) ∧ w = w' := by
  have hl : s.data.toList.length = s.size := by simp
  have HL := Lib.hid hl; clear hl
  unfold foldV
  go_enter Tryz.func301, Tryz.ntmps301
  go_wp2_with fail
  go_loop [3] (fun i => ∃ k : Nat, k ≤ s.size ∧ i = .int .i64 k ∧ Hid (validL s.data.toList = validL (s.data.toList.drop k))) (fun i => s.size - (intOf i).toNat)
  case atStart => exact ⟨0, by omega, rfl, Lib.hid rfl⟩
  case round =>
    obtain ⟨k, hk, rfl, HV⟩ := hrel
    by_cases hlt : k < s.size
    · have hq : decide ((k : Int) < s.size) = true := by simp; omega
      go_wp2_with fail
      refine (pair_any s k _ hlt (by omega)).mono ?_; rintro e w' ⟨rfl, rfl⟩
      cases hp : pairAt (s.data.toList.drop k)
      · have hv := Lib.hid (valid_one s k hlt hp); rw [ok_iff] at hv
        have HP := Lib.hid hp; clear hp
        go_wp2_with fail
        all_goals first
          | (go_ret; refine ⟨ret_bool ?_, rfl⟩; go_light; rw [HV.out, hv.out, decide_eq_false (by omega)]; rfl)
          | skip
        go_round
        case rel => exact ⟨k + 1, by omega, by go_num, Lib.hid (HV.out.trans (by rw [hv.out, decide_eq_true (by omega)]; rfl))⟩
        case measure => simp [intOf]; omega
      · have h2 := pairAt_lt s k hlt hp
        have hv := Lib.hid (valid_two s k hlt hp)
        have HP := Lib.hid hp; clear hp
        go_wp2_with fail
        go_round
        case rel => exact ⟨k + 2, by omega, by go_num, Lib.hid (HV.out.trans hv.out)⟩
        case measure => simp [intOf]; omega
    · go_wp2_with fail
      go_ret
      obtain rfl : k = s.size := by omega
      refine ⟨ret_bool ?_, rfl⟩
      rw [HV.out, List.drop_eq_nil_of_le (by rw [HL.out]; omega)]
      simp [validL]; omega
theorem enc_one (n : Nat) (h : n < 128) : Utf8.encode (n : Int) = ⟨[UInt8.ofNat n].toArray⟩ := by
  have v : Utf8.valid (n : Int) = true := by simp [Utf8.valid]; omega
  simp [Utf8.encode, v, h]
theorem enc_byte (b : UInt8) (n : Int) (h0 : 0 ≤ n) (h : n < 128) (hb : (b.toNat : Int) = n) : Utf8.encode n = ⟨[b].toArray⟩ := by
  subst hb; rw [enc_one _ (by omega)]; congr 3; simp
theorem ret_val {a b : Value} (h : a = b) : Ending.returned a = .returned b := by rw [h]
theorem str_eq {a b : ByteArray} (h : a = b) : Value.string a = Value.string b := by rw [h]
set_option maxHeartbeats 1000000 in
theorem plain_any (b : UInt8) (w : World) :
    Calls Tryz.prog 304 #[.int .u8 b.toNat] w fun e w' => e = .returned (strV (plainB b)) ∧ w = w' := by
  have hb := b.toNat_lt
  cases hu : isUp b
  · have hu' := hu
    rw [up_iff, decide_eq_false_iff_not] at hu'
    have hc : (65 ≤ (b.toNat : Int) ∧ 90 < (b.toNat : Int)) ∨ (b.toNat : Int) < 65 := by omega
    clear hu'
    have HU := Lib.hid hu; clear hu
    cases hlo : isLow b
    · have HL := Lib.hid hlo; clear hlo
      cases hdi : isDgt b
      · have HD := Lib.hid hdi; clear hdi
        cases ha : ((b.toNat : Int) == 39)
        · have this : (b == 39) = false := by simp at ha ⊢; intro h; subst h; simp at ha
          have HP := Lib.hid (show plainB b = [32] by simp [plainB, HU.out, HL.out, HD.out, this]); clear this
          rcases hc with ⟨hc1, hc2⟩ | hc1
          all_goals
            go_enter Tryz.func304, Tryz.ntmps304
            go_wp2_with fail
            refine (letter_any b _).mono ?_; rw [HL.out]; rintro e w' ⟨rfl, rfl⟩
            go_wp2_with fail
            refine (digit_any b _).mono ?_; rw [HD.out]; rintro e w' ⟨rfl, rfl⟩
            go_wp2_with fail
            go_ret
            exact ⟨ret_val (by rw [HP.out]; rfl), rfl⟩
        · have this : (b == 39) = true := by simp [← UInt8.toNat_inj] at ha ⊢; omega
          have HP := Lib.hid (show plainB b = [] by simp [plainB, HU.out, HL.out, HD.out, this]); clear this
          rcases hc with ⟨hc1, hc2⟩ | hc1
          all_goals
            go_enter Tryz.func304, Tryz.ntmps304
            go_wp2_with fail
            refine (letter_any b _).mono ?_; rw [HL.out]; rintro e w' ⟨rfl, rfl⟩
            go_wp2_with fail
            refine (digit_any b _).mono ?_; rw [HD.out]; rintro e w' ⟨rfl, rfl⟩
            go_wp2_with fail
            go_ret
            exact ⟨ret_val (by rw [HP.out]; rfl), rfl⟩
      · have KL := Lib.hid (fun w => by have := letter_any b w; rw [HL.out] at this; exact this : ∀ w, Calls Tryz.prog 210 #[.int .u8 b.toNat] w fun e w' => e = .returned (.bool false) ∧ w = w')
        have KD := Lib.hid (fun w => by have := digit_any b w; rw [hdi] at this; exact this : ∀ w, Calls Tryz.prog 312 #[.int .u8 b.toNat] w fun e w' => e = .returned (.bool true) ∧ w = w')
        have hd' := hdi
        rw [dig_iff, decide_eq_true_iff] at hd'
        obtain ⟨hd1, hd2⟩ := hd'
        have HD := Lib.hid hdi; clear hdi
        have HP := Lib.hid (show plainB b = [b] by simp [plainB, HU.out, HL.out, HD.out])
        have HE := Lib.hid (enc_byte b _ (by omega) (by omega) rfl)
        clear HL HD HU
        have hb0 : 0 ≤ (b.toNat : Int) := by omega
        have hb1 : (b.toNat : Int) < 256 := by omega
        clear hb
        generalize (b.toNat : Int) = n at *
        have hc1 : n < 65 := by omega
        clear hc
        all_goals
          go_enter Tryz.func304, Tryz.ntmps304
          go_wp2_with fail
          refine (KL.out _).mono ?_; rintro e w' ⟨rfl, rfl⟩
          go_wp2_with fail
          refine (KD.out _).mono ?_; rintro e w' ⟨rfl, rfl⟩
          go_wp2_with fail
          go_ret
          exact ⟨ret_val (by rw [HP.out]; exact str_eq HE.out), rfl⟩
    · have KL := Lib.hid (fun w => by have := letter_any b w; rw [hlo] at this; exact this : ∀ w, Calls Tryz.prog 210 #[.int .u8 b.toNat] w fun e w' => e = .returned (.bool true) ∧ w = w')
      have hl' := hlo
      rw [low_iff, decide_eq_true_iff] at hl'
      obtain ⟨hl1, hl2⟩ := hl'
      have HL := Lib.hid hlo; clear hlo
      have HP := Lib.hid (show plainB b = [b] by simp [plainB, HU.out, HL.out])
      have HE := Lib.hid (enc_byte b _ (by omega) (by omega) rfl)
      clear HL HU
      have hb0 : 0 ≤ (b.toNat : Int) := by omega
      have hb1 : (b.toNat : Int) < 256 := by omega
      clear hb
      generalize (b.toNat : Int) = n at *
      have hc1 : 65 ≤ n := by omega
      have hc2 : 90 < n := by omega
      clear hc
      all_goals
        go_enter Tryz.func304, Tryz.ntmps304
        go_wp2_with fail
        refine (KL.out _).mono ?_; rintro e w' ⟨rfl, rfl⟩
        go_wp2_with fail
        go_ret
        exact ⟨ret_val (by rw [HP.out]; exact str_eq HE.out), rfl⟩
  · have hu' := hu
    rw [up_iff, decide_eq_true_iff] at hu'
    obtain ⟨h1, h2⟩ := hu'
    have HP := Lib.hid (show plainB b = [b + 32] by simp [plainB, hu])
    have HU := Lib.hid hu; clear hu
    go_enter Tryz.func304, Tryz.ntmps304
    go_wp2_with fail
    go_ret
    exact ⟨ret_val (by rw [HP.out]; exact str_eq (enc_byte _ _ (by omega) (by omega) (by simp; omega))), rfl⟩
theorem take_snoc' (s : ByteArray) (k : Nat) (h : k < s.size) : s.data.toList.take (k + 1) = s.data.toList.take k ++ [s[k]] := by
  rw [List.take_succ_eq_append_getElem (by simpa using h)]; rfl
theorem letters_no (l : List UInt8) (b : UInt8) (h : isLow b = false) : lettersL (l ++ [b]) = lettersL l := by simp [lettersL, h]
theorem letters_yes (l : List UInt8) (b : UInt8) (h : isLow b = true) : lettersL (l ++ [b]) = lettersL l ++ [b] := by simp [lettersL, h]
theorem letters_len (l : List UInt8) : (lettersL l).length ≤ l.length := List.length_filter_le _ _
set_option maxHeartbeats 1000000 in
theorem letters_any (s : ByteArray) (w : World) (hs : s.size ≤ 1000000) :
    Calls Tryz.prog 155 #[.string s] w fun e w' => e = .returned (strV (lettersL s.data.toList)) ∧ Below w.heap.size w w' := by
  have hl : s.data.toList.length = s.size := by simp
  have HL := Lib.hid hl; clear hl
  obtain ⟨i0, hi, hz0, hz1, hz2⟩ := info_parts infoB
  go_enter Tryz.func155, Tryz.ntmps155
  go_wp2_with fail
  go_loopw [3, 7] (fun b i wr => ∃ k : Nat, k ≤ s.size ∧ i = .int .i64 k ∧ wr.ownsRow w.heap.size 5 1 b (lettersL (s.data.toList.take k)).length ((lettersL (s.data.toList.take k)).map byteV) ∧ Below w.heap.size w wr) (fun _ i _ => s.size - (intOf i).toNat)
  case atStart => exact ⟨0, by omega, rfl, ⟨by simp [lettersL], .inl ⟨rfl, by simp [lettersL]⟩⟩, Below.refl _ _⟩
  case round =>
    obtain ⟨k, hk, rfl, ho, hb⟩ := hrel
    have HO := Lib.hid ho; clear ho
    have HBw := Lib.hid hb; clear hb
    by_cases hlt : k < s.size
    · have hq : decide ((k : Int) < s.size) = true := by simp; omega
      have ht := Lib.hid (take_snoc' s k hlt)
      go_wp2_with fail
      refine (letter_any s[k] _).mono ?_
      cases hlo : isLow s[k]
      · have HL2 := Lib.hid (letters_no (s.data.toList.take k) s[k] hlo); clear hlo
        rintro e w' ⟨rfl, rfl⟩
        go_wp2_with fail
        go_roundw
        case rel => exact ⟨k + 1, by omega, by go_num, by rw [ht.out, HL2.out]; exact HO.out, HBw.out⟩
        case measure => simp [intOf]; omega
      · have HL2 := Lib.hid (letters_yes (s.data.toList.take k) s[k] hlo); clear hlo
        have hlen : (lettersL (s.data.toList.take k)).length < 1099511627776 := by have := letters_len (s.data.toList.take k); have := List.length_take_le k s.data.toList; omega
        rintro e w' ⟨rfl, rfl⟩
        go_wp2_with (at_builtin; refine wpList_append_new rfl _ _ 183 rfl w.heap.size 5 1 1 (.int .u8 0) Tryz.underlying183 infoB rfl (by decide) (by decide) _ _ _ rfl HO.out #[.int .u8 s[k].toNat] 1 rfl rfl (by simp [Value.oneCell']) hlen HBw.out.size ?_; intro v2 w2 ho2 hw2)
        go_roundw
        case rel => exact ⟨k + 1, by omega, by go_num, by rw [ht.out, HL2.out]; simpa [byteV] using ho2, hw2 _ HBw.out⟩
        case measure => simp [intOf]; omega
    · obtain rfl : k = s.size := by omega
      have hq : decide ((s.size : Int) < s.size) = false := by simp
      rw [List.take_of_length_le (by rw [HL.out]; omega)] at HO
      have hcv := run_convert_owned (P := Tryz.prog) (src := 183) (dst := 9) _ HO.out Tryz.underlying183 Tryz.underlying5 Tryz.underlying9
      go_wp2_with fail
      go_ret
      exact ⟨rfl, HBw.out⟩
end
section
open Go.RowKit
def ascii (l : List UInt8) : Prop := ∀ b ∈ l, b.toNat < 128
theorem decode_ascii (l : List UInt8) (h : ascii l) (pos : Nat) (hp : pos < l.length) : Utf8.decode ⟨l.toArray⟩ pos = (l[pos].toNat, 1) := by
  have hb := h _ (List.getElem_mem hp)
  have e : (ByteArray.get! ⟨l.toArray⟩ (pos + 0)) = l[pos] := by
    show l.toArray[pos]! = _
    rw [getElem!_pos l.toArray pos (by simpa using hp)]; simp
  unfold Utf8.decode
  simp only [e]
  rw [if_pos (by simpa using hb)]
def isSp (r : Nat) : Bool := r == 32
def curL (l : List UInt8) : Option Nat → Nat → List UInt8
  | none, _ => []
  | some a, pos => (l.take pos).drop a
def mkS (l : List UInt8) : ByteArray := ⟨l.toArray⟩
theorem ext_mk (l : List UInt8) (a b : Nat) (hb : b ≤ l.length) : (mkS l).extract a b = mkS ((l.take b).drop a) := by
  apply ByteArray.ext
  simp [mkS, ByteArray.data_extract, List.drop_take]
theorem toksA_end (p : List UInt8) (h : p ≠ []) : toksA p [] = [p] := by simp [toksA, h]
theorem toksA_sp0 (r : List UInt8) : toksA [] (32 :: r) = toksA [] r := by simp [toksA]
theorem toksA_sp (p r : List UInt8) (h : p ≠ []) : toksA p (32 :: r) = p :: toksA [] r := by simp [toksA, h]
theorem toksA_ch (p r : List UInt8) (c : UInt8) (h : c ≠ 32) : toksA p (c :: r) = toksA (p ++ [c]) r := by simp [toksA, h]
theorem cur_ne {l : List UInt8} {a pos : Nat} (h : a < pos) (h2 : pos ≤ l.length) : (l.take pos).drop a ≠ [] := by
  intro e; have := congrArg List.length e; simp at this; omega
theorem fields_aux (l : List UInt8) (h : ascii l) : ∀ f pos st acc, l.length ≤ pos + f → pos ≤ l.length → (∀ a, st = some a → a < pos) →
    ((Lib.closeSpans (mkS l) (Lib.spansFromP isSp (mkS l) f pos st acc)).map fun x => (mkS l).extract x.1 x.2) = (acc.map fun x => (mkS l).extract x.1 x.2) ++ (toksA (curL l st pos) (l.drop pos)).map mkS := by
  have hsz : (mkS l).size = l.length := by simp [mkS, ByteArray.size]
  have hfin : ∀ pos st (acc : List (Nat × Nat)), l.length ≤ pos → pos ≤ l.length → (∀ a, st = some a → a < pos) →
      ((Lib.closeSpans (mkS l) (acc, st)).map fun x => (mkS l).extract x.1 x.2) = (acc.map fun x => (mkS l).extract x.1 x.2) ++ (toksA (curL l st pos) (l.drop pos)).map mkS := by
    intro pos st acc h1 h2 h3
    rw [List.drop_eq_nil_of_le h1]
    cases st with
    | none => simp [Lib.closeSpans, curL, toksA]
    | some a =>
      have hn := cur_ne (l := l) (h3 a rfl) h2
      simp only [Lib.closeSpans, curL, toksA_end _ hn, List.map_append, List.map_cons, List.map_nil, hsz]
      rw [ext_mk l _ _ (Nat.le_refl _), List.take_of_length_le (Nat.le_refl _), List.take_of_length_le h1]
  intro f
  induction f with
  | zero =>
    intro pos st acc h1 h2 h3
    exact hfin pos st acc h1 h2 h3
  | succ f ih =>
    intro pos st acc h1 h2 h3
    by_cases hlt : pos < l.length
    · obtain ⟨c, hd, hdr, htk⟩ : ∃ c : UInt8, Utf8.decode (mkS l) pos = (c.toNat, 1) ∧ l.drop pos = c :: l.drop (pos + 1) ∧ l.take (pos + 1) = l.take pos ++ [c] :=
        ⟨l[pos], decode_ascii l h pos hlt, List.drop_eq_getElem_cons hlt, List.take_succ_eq_append_getElem hlt⟩
      have hlt' : pos < (mkS l).size := by rw [hsz]; exact hlt
      rw [hdr]
      by_cases hc : c = 32
      · have hp : isSp c.toNat = true := by rw [hc]; rfl
        cases st with
        | none =>
          simp only [Lib.spansFromP, hlt', if_true, hd]
          rw [if_pos hp]
          rw [ih (pos + 1) none acc (by omega) (by omega) (by simp), hc]
          simp only [curL, toksA_sp0]
        | some a =>
          have hn := cur_ne (l := l) (h3 a rfl) h2
          simp only [Lib.spansFromP, hlt', if_true, hd]
          rw [if_pos hp]
          rw [ih (pos + 1) none _ (by omega) (by omega) (by simp), hc]
          simp only [curL, toksA_sp _ _ hn, List.map_append, List.map_cons, List.map_nil, List.append_assoc, List.cons_append, List.nil_append]
          rw [ext_mk l _ _ (by omega)]
      · have hp : isSp c.toNat = false := by
          cases e : isSp c.toNat
          · rfl
          · exfalso; apply hc; unfold isSp at e; rw [← UInt8.toNat_inj]; simpa using e
        cases st with
        | none =>
          simp only [Lib.spansFromP, hlt', if_true, hd]
          rw [if_neg (by rw [hp]; exact Bool.false_ne_true)]
          rw [ih (pos + 1) (some pos) acc (by omega) (by omega) (by simp)]
          congr 2
          simp only [curL, toksA_ch _ _ _ hc, List.nil_append]
          rw [htk, List.drop_append_of_le_length (by simp; omega), List.drop_eq_nil_of_le (by simp; omega)]
          rfl
        | some a =>
          have hap := h3 a rfl
          simp only [Lib.spansFromP, hlt', if_true, hd]
          rw [if_neg (by rw [hp]; exact Bool.false_ne_true)]
          rw [ih (pos + 1) (some a) acc (by omega) (by omega) (by intro b hb; cases hb; omega)]
          congr 2
          simp only [curL, toksA_ch _ _ _ hc]
          rw [htk, List.drop_append_of_le_length (by simp; omega)]
    · rw [Lib.spansFromP_end _ _ _ _ _ _ (by rw [hsz]; exact hlt)]
      exact hfin pos st acc (by omega) h2 h3
theorem fields_toks (l : List UInt8) (h : ascii l) : Lib.goFieldsP isSp (mkS l) = (toks l).map mkS := by
  have hsz : (mkS l).size = l.length := by simp [mkS, ByteArray.size]
  have := fields_aux l h l.length 0 none [] (by omega) (by omega) (by simp)
  unfold Lib.goFieldsP Lib.spansOfP
  rw [hsz]
  exact this
theorem join_toks (L : List (List UInt8)) : Lib.join L [32] = joinL L := by
  induction L with
  | nil => rfl
  | cons a L ih =>
    cases L with
    | nil => rw [Lib.join_one]; rfl
    | cons b L =>
      rw [Lib.join_cons] at *
      simp only [Lib.joinTail, List.map_cons, List.flatten_cons, joinL] at *
      rw [← ih]
      simp
end
end Go.Proofs.YtaoebplnbcimlaaGreatDoor
section
namespace Go.Proofs
open Go.Shelf
def Tryz.lays169_ren : Go.Shelf.Ren := ⟨fun | 169 => 144 | n => n, fun | 70 => 184 | 9 => 9 | 0 => 0 | 72 => 186 | 37 => 183 | 127 => 216 | 3 => 3 | 5 => 5 | n => n, fun | n => n⟩
theorem Tryz.lays169 : Go.Proofs.Lays.n169 Tryz.prog Tryz.lays169_ren := {
  mixed := by kernel_rfl
  f169 := Tryz.func144.trans (congrArg some (by kernel_rfl))
  t0 := Tryz.underlying0
  a0 := Tryz.isAgg0
  z0 := Tryz.sizeOf0
  v0 := Tryz.zeroValue0
  t3 := Tryz.underlying3
  a3 := Tryz.isAgg3
  z3 := Tryz.sizeOf3
  v3 := Tryz.zeroValue3
  t9 := Tryz.underlying9
  a9 := Tryz.isAgg9
  z9 := Tryz.sizeOf9
  v9 := Tryz.zeroValue9
  t37 := Tryz.underlying183
  a37 := Tryz.isAgg183
  z37 := Tryz.sizeOf183
  v37 := Tryz.zeroValue183
  t70 := Tryz.underlying184
  a70 := Tryz.isAgg184
  z70 := Tryz.sizeOf184
  v70 := Tryz.zeroValue184
  t72 := Tryz.underlying186
  a72 := Tryz.isAgg186
  z72 := Tryz.sizeOf186
  v72 := Tryz.zeroValue186
  t127 := Tryz.underlying216
  a127 := Tryz.isAgg216
  z127 := Tryz.sizeOf216
  v127 := Tryz.zeroValue216 }
theorem Tryz.Builder_Extra_169 : Builder.Extra Tryz.prog Tryz.lays169_ren := {
  sizeBuilder := by kernel_rfl
  liesBuilder := by kernel_rfl
  t5 := Tryz.underlying5
  a5 := Tryz.isAgg5
  z5 := Tryz.sizeOf5
  v5 := Tryz.zeroValue5
  infoByte := by kernel_rfl
  cellsByte := by kernel_rfl
  sizeByte := by kernel_rfl
  neB5 := by decide }
open Go.RowKit in
/-- (*strings.Builder).String: "String returns the accumulated string.": WHATEVER THE BUILDER HOLDS. (LAID: no walk: one application.) -/
theorem Tryz.Builder_String_any (B b : Nat) (l : List UInt8) (w : World) (h : Lib.IsBuilder 186 5 B b (Lib.byteCells l) w) (hBw : B ≤ w.heap.size) :
    Calls Tryz.prog 144 #[.pointer (some ⟨b, 0, none⟩)] w fun e w' => e = .returned (.string ⟨l.toArray⟩) ∧ Below B w w' := Any.Builder_String_any Tryz.lays169 Tryz.Builder_Extra_169 B b l w h hBw
def Tryz.lays156_ren : Go.Shelf.Ren := ⟨fun | 156 => 86 | 165 => 142 | 166 => 143 | 169 => 144 | 240 => 199 | 241 => 200 | 276 => 238 | 277 => 239 | n => n, fun | 31 => 27 | 9 => 9 | 3 => 3 | 4 => 4 | 0 => 0 | 20 => 20 | 72 => 186 | 76 => 138 | 70 => 184 | 37 => 183 | 75 => 137 | 127 => 216 | 164 => 249 | 5 => 5 | 80 => 188 | n => n, fun | n => n⟩
theorem Tryz.lays156 : Go.Proofs.Lays.n156 Tryz.prog Tryz.lays156_ren := {
  mixed := by kernel_rfl
  f156 := Tryz.func86.trans (congrArg some (by kernel_rfl))
  f165 := Tryz.func142.trans (congrArg some (by kernel_rfl))
  f166 := Tryz.func143.trans (congrArg some (by kernel_rfl))
  f169 := Tryz.func144.trans (congrArg some (by kernel_rfl))
  f240 := Tryz.func199.trans (congrArg some (by kernel_rfl))
  f241 := Tryz.func200.trans (congrArg some (by kernel_rfl))
  f276 := Tryz.func238.trans (congrArg some (by kernel_rfl))
  f277 := Tryz.func239.trans (congrArg some (by kernel_rfl))
  t0 := Tryz.underlying0
  a0 := Tryz.isAgg0
  z0 := Tryz.sizeOf0
  v0 := Tryz.zeroValue0
  t3 := Tryz.underlying3
  a3 := Tryz.isAgg3
  z3 := Tryz.sizeOf3
  v3 := Tryz.zeroValue3
  t4 := Tryz.underlying4
  a4 := Tryz.isAgg4
  z4 := Tryz.sizeOf4
  v4 := Tryz.zeroValue4
  t9 := Tryz.underlying9
  a9 := Tryz.isAgg9
  z9 := Tryz.sizeOf9
  v9 := Tryz.zeroValue9
  t20 := Tryz.underlying20
  a20 := Tryz.isAgg20
  z20 := Tryz.sizeOf20
  v20 := Tryz.zeroValue20
  t31 := Tryz.underlying27
  a31 := Tryz.isAgg27
  z31 := Tryz.sizeOf27
  v31 := Tryz.zeroValue27
  t37 := Tryz.underlying183
  a37 := Tryz.isAgg183
  z37 := Tryz.sizeOf183
  v37 := Tryz.zeroValue183
  t70 := Tryz.underlying184
  a70 := Tryz.isAgg184
  z70 := Tryz.sizeOf184
  v70 := Tryz.zeroValue184
  t72 := Tryz.underlying186
  a72 := Tryz.isAgg186
  z72 := Tryz.sizeOf186
  v72 := Tryz.zeroValue186
  t75 := Tryz.underlying137
  a75 := Tryz.isAgg137
  z75 := Tryz.sizeOf137
  v75 := Tryz.zeroValue137
  t76 := Tryz.underlying138
  a76 := Tryz.isAgg138
  z76 := Tryz.sizeOf138
  v76 := Tryz.zeroValue138
  t127 := Tryz.underlying216
  a127 := Tryz.isAgg216
  z127 := Tryz.sizeOf216
  v127 := Tryz.zeroValue216
  t164 := Tryz.underlying249
  a164 := Tryz.isAgg249
  z164 := Tryz.sizeOf249
  v164 := Tryz.zeroValue249 }
theorem Tryz.Builder_Extra_156 : Builder.Extra Tryz.prog Tryz.lays156_ren := {
  sizeBuilder := by kernel_rfl
  liesBuilder := by kernel_rfl
  t5 := Tryz.underlying5
  a5 := Tryz.isAgg5
  z5 := Tryz.sizeOf5
  v5 := Tryz.zeroValue5
  infoByte := by kernel_rfl
  cellsByte := by kernel_rfl
  sizeByte := by kernel_rfl
  neB5 := by decide }
open Go.RowKit in
/-- No element: the empty string; the world is as it was. (Whatever the slice's address and capacity: a nil slice too.) (LAID: no walk: one application.) -/
theorem Tryz.strings_Join_none (a : Option Addr) (c : Nat) (sep : ByteArray) (w : World) :
    Calls Tryz.prog 86 #[.slice a 0 c, .string sep] w fun e w' => e = .returned (.string ⟨#[]⟩) ∧ w' = w := Any.strings_Join_none Tryz.lays156 Tryz.Builder_Extra_156 a c sep w
open Go.RowKit in
/-- strings.Join: "Join concatenates the elements of its first argument to create a single string. The separator string sep is placed between elements in the resulting string.": HOWEVER MANY ELEMENTS. Below the heap's end the world is as it was. (LAID: no walk: one application.) -/
theorem Tryz.strings_Join (bk o c : Nat) (xs : List ByteArray) (sep : ByteArray) (w : World) (hcells : ∀ (j : Nat) x, xs[j]? = some x → w.cell? ⟨bk, o + j, none⟩ = some (.string x)) (hbk : bk < w.heap.size) (hN : xs.length ≤ 140737488355328) (hcap : xs.length ≤ c) (hlen : (Lib.join (xs.map (·.data.toList)) sep.data.toList).length ≤ 140737488355328) :
    Calls Tryz.prog 86 #[.slice (some ⟨bk, o, none⟩) xs.length c, .string sep] w fun e w' => e = .returned (.string ⟨(Lib.join (xs.map (·.data.toList)) sep.data.toList).toArray⟩) ∧ Below w.heap.size w w' := Any.strings_Join Tryz.lays156 Tryz.Builder_Extra_156 bk o c xs sep w hcells hbk hN hcap hlen
def Tryz.lays161_ren : Go.Shelf.Ren := ⟨fun | 161 => 311 | 231 => 317 | 227 => 318 | 233 => 319 | 235 => 320 | 228 => 325 | 197 => 241 | 151 => 326 | 260 => 266 | 152 => 337 | 137 => 344 | 119 => 345 | 224 => 269 | 225 => 268 | 217 => 267 | 266 => 290 | n => n, fun | 9 => 9 | 4 => 4 | 3 => 3 | 5 => 5 | 117 => 308 | 116 => 307 | 0 => 0 | 124 => 311 | 105 => 252 | 21 => 21 | 119 => 283 | 46 => 99 | 139 => 286 | 138 => 285 | n => n, fun | 3 => 4 | 4 => 5 | n => n⟩
theorem Tryz.lays161 : Go.Proofs.Lays.n161 Tryz.prog Tryz.lays161_ren := {
  mixed := by kernel_rfl
  f119 := Tryz.func345.trans (congrArg some (by kernel_rfl))
  f137 := Tryz.func344.trans (congrArg some (by kernel_rfl))
  f151 := Tryz.func326.trans (congrArg some (by kernel_rfl))
  f152 := Tryz.func337.trans (congrArg some (by kernel_rfl))
  f161 := Tryz.func311.trans (congrArg some (by kernel_rfl))
  f197 := Tryz.func241.trans (congrArg some (by kernel_rfl))
  f217 := Tryz.func267.trans (congrArg some (by kernel_rfl))
  f224 := Tryz.func269.trans (congrArg some (by kernel_rfl))
  f225 := Tryz.func268.trans (congrArg some (by kernel_rfl))
  f227 := Tryz.func318.trans (congrArg some (by kernel_rfl))
  f228 := Tryz.func325.trans (congrArg some (by kernel_rfl))
  f231 := Tryz.func317.trans (congrArg some (by kernel_rfl))
  f233 := Tryz.func319.trans (congrArg some (by kernel_rfl))
  f235 := Tryz.func320.trans (congrArg some (by kernel_rfl))
  f260 := Tryz.func266.trans (congrArg some (by kernel_rfl))
  f266 := Tryz.func290.trans (congrArg some (by kernel_rfl))
  t0 := Tryz.underlying0
  a0 := Tryz.isAgg0
  z0 := Tryz.sizeOf0
  v0 := Tryz.zeroValue0
  t3 := Tryz.underlying3
  a3 := Tryz.isAgg3
  z3 := Tryz.sizeOf3
  v3 := Tryz.zeroValue3
  t4 := Tryz.underlying4
  a4 := Tryz.isAgg4
  z4 := Tryz.sizeOf4
  v4 := Tryz.zeroValue4
  t5 := Tryz.underlying5
  a5 := Tryz.isAgg5
  z5 := Tryz.sizeOf5
  v5 := Tryz.zeroValue5
  t9 := Tryz.underlying9
  a9 := Tryz.isAgg9
  z9 := Tryz.sizeOf9
  v9 := Tryz.zeroValue9
  t21 := Tryz.underlying21
  a21 := Tryz.isAgg21
  z21 := Tryz.sizeOf21
  v21 := Tryz.zeroValue21
  t46 := Tryz.underlying99
  a46 := Tryz.isAgg99
  z46 := Tryz.sizeOf99
  v46 := Tryz.zeroValue99
  t105 := Tryz.underlying252
  a105 := Tryz.isAgg252
  z105 := Tryz.sizeOf252
  v105 := Tryz.zeroValue252
  t116 := Tryz.underlying307
  a116 := Tryz.isAgg307
  z116 := Tryz.sizeOf307
  t117 := Tryz.underlying308
  a117 := Tryz.isAgg308
  z117 := Tryz.sizeOf308
  v117 := Tryz.zeroValue308
  t119 := Tryz.underlying283
  a119 := Tryz.isAgg283
  z119 := Tryz.sizeOf283
  t124 := Tryz.underlying311
  a124 := Tryz.isAgg311
  z124 := Tryz.sizeOf311
  v124 := Tryz.zeroValue311
  t138 := Tryz.underlying285
  a138 := Tryz.isAgg285
  z138 := Tryz.sizeOf285
  v138 := Tryz.zeroValue285
  t139 := Tryz.underlying286
  a139 := Tryz.isAgg286
  z139 := Tryz.sizeOf286
  v139 := Tryz.zeroValue286
  g3 := by kernel_rfl
  g4 := by kernel_rfl }
open Go.RowKit in
/-- strings.TrimLeft: "TrimLeft returns a slice of the string s with all leading Unicode code points contained in cutset removed.": AT A cutset OF ONE ASCII BYTE. The world is as it was. (LAID: no walk: one application.) -/
theorem Tryz.strings_TrimLeft_one (s : ByteArray) (c : UInt8) (hc : c.toNat < 128) (w : World) :
    Calls Tryz.prog 311 #[.string s, .string ⟨#[c]⟩] w fun e w' => e = .returned (.string ⟨(Lib.trimLeftB s.data.toList c).toArray⟩) ∧ w' = w := Any.strings_TrimLeft_one Tryz.lays161 s c hc w
open Go.RowKit Go.Lib in
def Tryz.lays229_ren : Go.Shelf.Ren := ⟨fun | 229 => 256 | n => n, fun | 9 => 9 | 40 => 268 | 31 => 27 | 152 => 279 | 3 => 3 | 0 => 0 | 4 => 4 | 21 => 21 | 154 => 281 | n => n, fun | n => n⟩
theorem Tryz.lays229 : Go.Proofs.Lays.n229 Tryz.prog Tryz.lays229_ren := {
  mixed := by kernel_rfl
  f229 := Tryz.func256.trans (congrArg some (by kernel_rfl))
  t0 := Tryz.underlying0
  a0 := Tryz.isAgg0
  z0 := Tryz.sizeOf0
  v0 := Tryz.zeroValue0
  t3 := Tryz.underlying3
  a3 := Tryz.isAgg3
  z3 := Tryz.sizeOf3
  v3 := Tryz.zeroValue3
  t4 := Tryz.underlying4
  a4 := Tryz.isAgg4
  z4 := Tryz.sizeOf4
  v4 := Tryz.zeroValue4
  t9 := Tryz.underlying9
  a9 := Tryz.isAgg9
  z9 := Tryz.sizeOf9
  v9 := Tryz.zeroValue9
  t21 := Tryz.underlying21
  a21 := Tryz.isAgg21
  z21 := Tryz.sizeOf21
  v21 := Tryz.zeroValue21
  t31 := Tryz.underlying27
  a31 := Tryz.isAgg27
  z31 := Tryz.sizeOf27
  v31 := Tryz.zeroValue27
  t40 := Tryz.underlying268
  a40 := Tryz.isAgg268
  z40 := Tryz.sizeOf268
  v40 := Tryz.zeroValue268
  t152 := Tryz.underlying279
  a152 := Tryz.isAgg279
  z152 := Tryz.sizeOf279
  v152 := Tryz.zeroValue279
  t154 := Tryz.underlying281
  a154 := Tryz.isAgg281
  z154 := Tryz.sizeOf281
  v154 := Tryz.zeroValue281 }
open Go.RowKit Go.Lib in
/-- .. over a hand of the authors' house's premise as it stands. (LAID: no walk: one application.) -/
theorem Tryz.strings_FieldsFunc (g : Nat) (lb : Array Value) (eg : ∀ args w, (callFunc g args).run Tryz.prog w = .ok (.enter g args) w) (p : Nat → Bool) (s : ByteArray) (w : World) (hs : s.size ≤ 4294967296) (hp : PredAt Tryz.prog g lb encR p w) :
    Calls Tryz.prog 256 #[.string s, .func (.func g) #[] lb] w fun e w' => ∃ A, e = .returned (.slice (some ⟨A, 0, none⟩) (Lib.goFieldsP p s).length (Lib.goFieldsP p s).length) ∧ w.heap.size ≤ A ∧
      w'.ownsRow w.heap.size 9 1 (.slice (some ⟨A, 0, none⟩) (Lib.goFieldsP p s).length (Lib.goFieldsP p s).length) (Lib.goFieldsP p s).length ((Lib.goFieldsP p s).map Value.string) ∧ Below w.heap.size w w' := Any.strings_FieldsFunc Tryz.lays229 g lb eg p s w hs hp (by kernel_rfl) (by kernel_rfl)
def Tryz.lays110_ren : Go.Shelf.Ren := ⟨fun | 110 => 120 | 109 => 179 | n => n, fun | 31 => 27 | 9 => 9 | 4 => 4 | 3 => 3 | 0 => 0 | n => n, fun | n => n⟩
theorem Tryz.lays110 : Go.Proofs.Lays.n110 Tryz.prog Tryz.lays110_ren := {
  mixed := by kernel_rfl
  f109 := Tryz.func179.trans (congrArg some (by kernel_rfl))
  f110 := Tryz.func120.trans (congrArg some (by kernel_rfl))
  t0 := Tryz.underlying0
  a0 := Tryz.isAgg0
  z0 := Tryz.sizeOf0
  v0 := Tryz.zeroValue0
  t3 := Tryz.underlying3
  a3 := Tryz.isAgg3
  z3 := Tryz.sizeOf3
  v3 := Tryz.zeroValue3
  t4 := Tryz.underlying4
  a4 := Tryz.isAgg4
  z4 := Tryz.sizeOf4
  v4 := Tryz.zeroValue4
  t9 := Tryz.underlying9
  a9 := Tryz.isAgg9
  z9 := Tryz.sizeOf9
  v9 := Tryz.zeroValue9
  t31 := Tryz.underlying27
  a31 := Tryz.isAgg27
  z31 := Tryz.sizeOf27
  v31 := Tryz.zeroValue27 }
open Go.Lib in
/-- slices.Contains at []string: "Contains reports whether v is present in s.": IT RETURNS 'Lib.containsS (the elements) v', which is true just where v is among them ('Lib.containsS_iff'); the world is as it was. ITS CALLEE slices.Index IS MET BY ITS OWN CONTRACT OFF THE SHELF (lay that first): no loop is walked here. (LAID: no walk: one application.) -/
theorem Tryz.slices_Contains_string (b off n c : Nat) (zs : List ByteArray) (x : ByteArray) (w : World) (hz : n ≤ zs.length) (hbig : n ≤ 9223372036854775807) (hc : ∀ j, j < zs.length → w.cell? ⟨b, off + j, none⟩ = some (.string (zs.getD j ByteArray.empty))) :
    Calls Tryz.prog 120 #[.slice (some ⟨b, off, none⟩) n c, .string x] w fun e w' => e = .returned (.bool (Lib.containsS (zs.take n) x)) ∧ w' = w := Any.slices_Contains_string Tryz.lays110 b off n c zs x w hz hbig hc
open Go.Lib in
/-- The same at a slice of length 0, a nil one too. (LAID: no walk: one application.) -/
theorem Tryz.slices_Contains_string_empty (a : Option Addr) (c : Nat) (x : ByteArray) (w : World) :
    Calls Tryz.prog 120 #[.slice a 0 c, .string x] w fun e w' => e = .returned (.bool false) ∧ w' = w := Any.slices_Contains_string_empty Tryz.lays110 a c x w
def Tryz.laysCF_ren : Go.Shelf.Ren := ⟨fun | 8 => 103 | 6 => 154 | n => n, fun | 22 => 38 | 23 => 91 | 25 => 153 | 4 => 4 | 3 => 3 | 0 => 0 | n => n, fun | n => n⟩
theorem Tryz.laysCF : Go.Proofs.SlLaysH0.n8 Tryz.prog Tryz.laysCF_ren := {
  mixed := by kernel_rfl
  f6 := ⟨Tryz.f154.name, by decide, Tryz.func154.trans (congrArg some (by kernel_rfl))⟩
  f8 := ⟨Tryz.f103.name, by decide, Tryz.func103.trans (congrArg some (by kernel_rfl))⟩
  t0 := Tryz.underlying0
  a0 := Tryz.isAgg0
  z0 := Tryz.sizeOf0
  v0 := Tryz.zeroValue0
  t3 := Tryz.underlying3
  a3 := Tryz.isAgg3
  z3 := Tryz.sizeOf3
  v3 := Tryz.zeroValue3
  t4 := Tryz.underlying4
  a4 := Tryz.isAgg4
  z4 := Tryz.sizeOf4
  v4 := Tryz.zeroValue4
  t22 := Tryz.underlying38
  a22 := Tryz.isAgg38
  z22 := Tryz.sizeOf38
  v22 := Tryz.zeroValue38
  t25 := Tryz.underlying153
  a25 := Tryz.isAgg153
  z25 := Tryz.sizeOf153
  v25 := Tryz.zeroValue153 }
def Tryz.laysCP_ren : Go.Shelf.Ren := ⟨fun | 8 => 158 | 6 => 213 | n => n, fun | 22 => 39 | 23 => 151 | 25 => 201 | 4 => 4 | 3 => 3 | 0 => 0 | n => n, fun | n => n⟩
theorem Tryz.laysCP : Go.Proofs.SlLaysH0.n8 Tryz.prog Tryz.laysCP_ren := {
  mixed := by kernel_rfl
  f6 := ⟨Tryz.f213.name, by decide, Tryz.func213.trans (congrArg some (by kernel_rfl))⟩
  f8 := ⟨Tryz.f158.name, by decide, Tryz.func158.trans (congrArg some (by kernel_rfl))⟩
  t0 := Tryz.underlying0
  a0 := Tryz.isAgg0
  z0 := Tryz.sizeOf0
  v0 := Tryz.zeroValue0
  t3 := Tryz.underlying3
  a3 := Tryz.isAgg3
  z3 := Tryz.sizeOf3
  v3 := Tryz.zeroValue3
  t4 := Tryz.underlying4
  a4 := Tryz.isAgg4
  z4 := Tryz.sizeOf4
  v4 := Tryz.zeroValue4
  t22 := Tryz.underlying39
  a22 := Tryz.isAgg39
  z22 := Tryz.sizeOf39
  v22 := Tryz.zeroValue39
  t25 := Tryz.underlying201
  a25 := Tryz.isAgg201
  z25 := Tryz.sizeOf201
  v25 := Tryz.zeroValue201 }
def Tryz.laysIP_ren : Go.Shelf.Ren := ⟨fun | 6 => 213 | n => n, fun | 22 => 39 | 23 => 151 | 25 => 201 | 3 => 3 | 0 => 0 | 4 => 4 | n => n, fun | n => n⟩
theorem Tryz.laysIP : Go.Proofs.SlLaysH0.n6 Tryz.prog Tryz.laysIP_ren := {
  mixed := by kernel_rfl
  f6 := ⟨Tryz.f213.name, by decide, Tryz.func213.trans (congrArg some (by kernel_rfl))⟩
  t0 := Tryz.underlying0
  a0 := Tryz.isAgg0
  z0 := Tryz.sizeOf0
  v0 := Tryz.zeroValue0
  t3 := Tryz.underlying3
  a3 := Tryz.isAgg3
  z3 := Tryz.sizeOf3
  v3 := Tryz.zeroValue3
  t4 := Tryz.underlying4
  a4 := Tryz.isAgg4
  z4 := Tryz.sizeOf4
  v4 := Tryz.zeroValue4
  t22 := Tryz.underlying39
  a22 := Tryz.isAgg39
  z22 := Tryz.sizeOf39
  v22 := Tryz.zeroValue39
  t25 := Tryz.underlying201
  a25 := Tryz.isAgg201
  z25 := Tryz.sizeOf201
  v25 := Tryz.zeroValue201 }
end Go.Proofs
end
namespace Go.Proofs.YtaoebplnbcimlaaGreatDoor
section
set_option maxRecDepth 100000
open Go.RowKit
def tblV : Array Value := (replT.map strV).toArray
set_option maxHeartbeats 1000000 in
theorem repl_any (w : World) :
    Calls Tryz.prog 302 #[] w fun e w' => e = .returned (.agg tblV) ∧ Below w.heap.size w w' := by
  go_enter Tryz.func302, Tryz.ntmps302
  go_upto_region 1 with (fail)
  rename_i hK
  refine wp_region_list ?_
  refine wpList_buildTo rfl 291 _ rfl (some 1) rfl tblV (by kernel_rfl) ?_
  refine wpList_store_row rfl 291 _ _ rfl w.heap.size tblV rfl rfl 291 _ (heap_alloc_new w _) (by kernel_rfl) (by kernel_rfl) (by kernel_rfl) ?_
  refine wpList_nil ?_
  rw [World.setRow_alloc_new]
  refine hK _ _ ?_
  go_wp2_with fail
  exact bodyPost_row1 rfl rfl (heap_alloc_new w _) Tryz.underlying291 rfl (by kernel_rfl) ⟨rfl, (Below.refl _ _).alloc (Nat.le_refl _) _⟩
theorem wstr_any (B b : Nat) (bs : List Value) (s : ByteArray) (w : World) (h : Lib.IsBuilder 186 5 B b bs w) (hlen : bs.length + s.size ≤ 140737488355328) (hBw : B ≤ w.heap.size) :
    Calls Tryz.prog 143 #[.pointer (some ⟨b, 0, none⟩), .string s] w fun e w' => e = .returned (.tuple #[.int .i64 s.size, .nilIface]) ∧ (Lib.BuilderAt 186 5 B b (.pointer (some ⟨b, 0, none⟩)) (bs ++ Lib.strCells s) w' ∧ Below B w w') :=
  Any.Builder_WriteString { Tryz.lays156 with } Tryz.Builder_Extra_156 B b bs s w h hlen hBw
theorem bstr_any (B b : Nat) (l : List UInt8) (w : World) (h : Lib.IsBuilder 186 5 B b (Lib.byteCells l) w) (hBw : B ≤ w.heap.size) :
    Calls Tryz.prog 144 #[.pointer (some ⟨b, 0, none⟩)] w fun e w' => e = .returned (.string ⟨l.toArray⟩) ∧ Below B w w' := Tryz.Builder_String_any B b l w h hBw
theorem tok_pred (w : World) : PredAt Tryz.prog 257 #[] encR isSp w := fun W r _ => by
  unfold FnGives
  have e : isSp r = ((r : Int) == 32) := by unfold isSp; rw [Bool.eq_iff_iff]; simp; omega
  have E := Lib.hid e; clear e
  go_enter Tryz.func257, Tryz.ntmps257
  go_wp2
  go_ret
  exact ⟨ret_bool E.out.symm, 0, rfl⟩
/-- the cells of a text in a slice of texts -/
abbrev encS (l : List UInt8) : List Value := [strV l]
def StrsPost (L : List (List UInt8)) (w : World) (e : Ending) (w' : World) : Prop := ∃ A, e = .returned (.slice (some ⟨A, 0, none⟩) L.length L.length) ∧ w.heap.size ≤ A ∧ w'.ownsRow w.heap.size 9 1 (.slice (some ⟨A, 0, none⟩) L.length L.length) L.length (L.flatMap encS) ∧ Below w.heap.size w w'
theorem flat_str (L : List (List UInt8)) : (L.map mkS).map Value.string = L.flatMap encS := by
  induction L with
  | nil => rfl
  | cons a L ih => simp only [List.map_cons, List.flatMap_cons, ih]; rfl
set_option maxHeartbeats 400000 in
theorem tokens_any (l : List UInt8) (w : World) (h : ascii l) (hl : l.length ≤ 1000000) :
    Calls Tryz.prog 229 #[strV l] w (StrsPost (toks l) w) := by
  have hsz : (mkS l).size = l.length := by simp [mkS, ByteArray.size]
  have hc := Lib.hid (Tryz.strings_FieldsFunc 257 #[] (enters_of Tryz.func257 (by kernel_rfl) rfl) isSp (mkS l) w (by omega) (tok_pred w))
  go_enter Tryz.func229, Tryz.ntmps229
  go_wp2_with fail
  refine hc.out.mono ?_
  rintro e w1 ⟨A, rfl, hA, ho, hb⟩
  rw [fields_toks l h, List.length_map] at *
  have HO := Lib.hid ho; clear ho
  go_wp2_with fail
  go_ret
  exact ⟨A, rfl, hA, by rw [← flat_str]; exact HO.out, hb⟩
set_option maxHeartbeats 400000 in
/-- the texts of a slice, joined by single spaces -/
theorem join_any (S : Nat → Prop) (v : Value) (L : List (List UInt8)) (w : World) (h : Vec w S 1 encS v L) (hn : L.length ≤ 1000000) (hj : (joinL L).length ≤ 1000000000) :
    Calls Tryz.prog 294 #[v] w fun e w' => e = .returned (strV (joinL L)) ∧ Below w.heap.size w w' := by
  obtain ⟨a, cap, rfl, hcap, h0⟩ := h
  have hjj : Lib.join ((L.map mkS).map (·.data.toList)) [32] = joinL L := by
    rw [List.map_map, ← join_toks]; congr 1; conv => rhs; rw [← List.map_id L]
    exact List.map_congr_left fun x _ => by simp [mkS]
  have key : Calls Tryz.prog 86 #[.slice a L.length cap, .string ⟨#[32]⟩] w fun e w' => e = .returned (strV (joinL L)) ∧ Below w.heap.size w w' := by
    by_cases hz : L = []
    · subst hz
      exact (Tryz.strings_Join_none a cap ⟨#[32]⟩ w).mono fun e w' ⟨he, hw⟩ => ⟨he, by rw [hw]; exact Below.refl _ _⟩
    · obtain ⟨b, off, rfl, _, hb, hc⟩ := h0 (List.length_pos_iff.2 hz)
      have := Tryz.strings_Join b off cap (L.map mkS) ⟨#[32]⟩ w (fun j x hx => by
        rw [List.getElem?_map] at hx
        obtain ⟨y, hy, rfl⟩ := Option.map_eq_some_iff.1 hx
        have := hc j y hy 0 _ rfl
        simpa [mkS] using this) hb (by simp; omega) (by simpa using hcap) (by rw [show (⟨#[32]⟩ : ByteArray).data.toList = [32] from rfl, hjj]; omega)
      rw [show (⟨#[32]⟩ : ByteArray).data.toList = [32] from rfl, hjj, List.length_map] at this
      exact this
  have KEY := Lib.hid key
  clear key hjj h0
  go_enter Tryz.func294, Tryz.ntmps294
  go_wp2_with fail
  refine KEY.out.mono ?_
  rintro e w1 ⟨rfl, hb⟩
  go_wp2_with fail
  go_ret
  exact ⟨rfl, hb⟩
end
section
open Go.RowKit
variable {α : Type}
/-- v is a row of elements of type e, in blocks made since wA; what lay in wA is as it was, but for the deck in block D -/
def OwnM (D e size : Nat) (enc : α → List Value) (wA : World) (v : Value) (L : List α) (w : World) : Prop :=
  w.ownsRow wA.heap.size e size v L.length (L.flatMap enc) ∧ Moved D wA w
theorem OwnM.moved {D e size : Nat} {enc : α → List Value} {wA w w' : World} {v : Value} {L : List α} (h : OwnM D e size enc wA v L w) (m : Moved D w w') : OwnM D e size enc wA v L w' := by
  refine ⟨⟨h.1.1, ?_⟩, h.2.trans m⟩
  rcases h.1.2 with h0 | ⟨g, cap, cur, hv, hg, hh, rest⟩
  · exact .inl h0
  · exact .inr ⟨g, cap, cur, hv, hg, m.blk (by have := h.2.lt; omega) hh, rest⟩
theorem OwnM.below {D e size : Nat} {enc : α → List Value} {wA w w' : World} {v : Value} {L : List α} (h : OwnM D e size enc wA v L w) (hb : Below w.heap.size w w') : OwnM D e size enc wA v L w' :=
  h.moved ((Moved.start h.2.deck).below hb)
theorem OwnM.nil {D e size : Nat} {enc : α → List Value} {wA w : World} (m : Moved D wA w) : OwnM D e size enc wA (.slice none 0 0) [] w := ⟨⟨by simp, .inl ⟨rfl, rfl⟩⟩, m⟩
theorem OwnM.vec {D e size : Nat} {enc : α → List Value} (hk : ∀ x, (enc x).length = size) {wA w : World} {v : Value} {L : List α} (h : OwnM D e size enc wA v L w) : Vec w (fun b => wA.heap.size ≤ b) size enc v L :=
  Vec.owns hk h.1 fun b hb _ => hb
theorem Moved.grown' {D : Nat} {wA w w' : World} {row : Option Nat} (h : Moved D wA w) (hg : w.grownBy w' row) (hr : ∀ k, row = some k → wA.heap.size ≤ k) : Moved D wA w' := by
  have hlt := h.lt
  refine ⟨⟨hg.os.trans h.grown.os, hg.tape.trans h.grown.tape, hg.output.trans h.grown.output, Nat.le_trans h.size hg.size, fun k hk hne => ?_⟩, h.deck.same fun k hk => hg.block k (by have := h.size; omega) (fun e => by have := hr k e.symm; omega), hlt⟩
  rw [hg.block k (by have := h.size; omega) (fun e => by have := hr k e.symm; omega)]
  exact h.grown.block k hk hne
section
variable {P : Program} {w : World} {o : Oper} {a : Act} {K : Act → World → Prop} {Q : Exit → Act → World → Prop}
theorem wp_append_m (s x : Operand) (t : TypeId) (ho : o.op = .call { callee := .builtin .append, args := #[s, x], argTypes := #[t, t] })
    (D e : Nat) (z : Value) (size bytes : Nat) (enc : α → List Value) (hk : ∀ x, (enc x).length = size) (h1 : ∀ x, ∀ u ∈ enc x, u.oneCell' = true) (ht : P.underlying t = some (.slice e)) (hinfo : (P.info? e).map (fun i => (i.zero, i.size, i.bytes)) = some (some z, size, bytes))
    (hzs : z.cells.size = size) (hsz : 0 < size) (hby : bytes ≤ 128) {wA : World} {v u : Value} {A B : List α} (hs : a.eval s = v) (hown : OwnM D e size enc wA v A w) (hx : a.eval x = u) (hr : Reads w size u B.length (B.flatMap enc)) (hn : A.length + B.length ≤ 1000000000)
    (h : ∀ v' w', OwnM D e size enc wA v' (A ++ B) w' → (∀ k o, some k ≠ v.ownBlock → w.heap[k]? = some o → w'.heap[k]? = some o) → K (a.put o.dst v') w') : Oper.wp P o a w K Q := by
  refine wp_append_reads s x t ho wA.heap.size e z size bytes ht hinfo hzs hsz v A.length (A.flatMap enc) hs hown.1 u B.length (B.flatMap enc) hx hr (fun u hu => ?_) (by unfold maxLen; omega) ?_ hown.2.size ?_
  · obtain ⟨y, _, hy⟩ := List.mem_flatMap.1 hu
    exact h1 y u hy
  · exact Nat.le_trans (Nat.mul_le_mul hn hby) (by decide)
  · intro v' w' ho' hg hat
    refine h v' w' ⟨by rw [List.length_append, List.flatMap_append]; exact ho', hown.2.grown' hg fun k hk => ?_⟩ (fun k o hk hko => (hg.block k (lt_of_blk hko) hk).trans hko)
    rcases hown.1.2 with ⟨rfl, _⟩ | ⟨g, cap, cur, rfl, hg1, _⟩
    · simp [Value.ownBlock] at hk
    · have : g = k := by simpa [Value.ownBlock] using hk
      omega
theorem wpList_append_m {ops : Array Oper} {rest : List Oper} (hgd : o.guard = none) (s x : Operand) (t : TypeId) (ho : o.op = .call { callee := .builtin .append, args := #[s, x], argTypes := #[t, t] })
    (D e : Nat) (z : Value) (size bytes : Nat) (enc : α → List Value) (hk : ∀ x, (enc x).length = size) (h1 : ∀ x, ∀ u ∈ enc x, u.oneCell' = true) (ht : P.underlying t = some (.slice e)) (hinfo : (P.info? e).map (fun i => (i.zero, i.size, i.bytes)) = some (some z, size, bytes))
    (hzs : z.cells.size = size) (hsz : 0 < size) (hby : bytes ≤ 128) {wA : World} {v u : Value} {A B : List α} (hs : a.eval s = v) (hown : OwnM D e size enc wA v A w) (hx : a.eval x = u) (hr : Reads w size u B.length (B.flatMap enc)) (hn : A.length + B.length ≤ 1000000000)
    (h : ∀ v' w', OwnM D e size enc wA v' (A ++ B) w' → (∀ k o, some k ≠ v.ownBlock → w.heap[k]? = some o → w'.heap[k]? = some o) → wpList P ops Q rest (a.put o.dst v') w') : wpList P ops Q (o :: rest) a w :=
  wpList_plain hgd fun _ hK => wp_append_m s x t ho D e z size bytes enc hk h1 ht hinfo hzs hsz hby hs hown hx hr hn fun v' w' h2 h3 => hK _ _ (h v' w' h2 h3)
theorem wpList_append_v {ops : Array Oper} {rest : List Oper} (hgd : o.guard = none) (s x : Operand) (t : TypeId) (ho : o.op = .call { callee := .builtin .append, args := #[s, x], argTypes := #[t, t] })
    (e : TypeId) (z : Value) (size bytes : Nat) (enc : α → List Value) (hk : ∀ x, (enc x).length = size) (h1 : ∀ x, ∀ u ∈ enc x, u.oneCell' = true) (ht : P.underlying t = some (.slice e)) (hinfo : (P.info? e).map (fun i => (i.zero, i.size, i.bytes)) = some (some z, size, bytes))
    (hzs : z.cells.size = size) (hsz : 0 < size) (hby : bytes ≤ 128) {w0 : World} {v u : Value} {A B : List α} (hs : a.eval s = v) (hown : OwnV e size enc w0 v A w) (hx : a.eval x = u) (hr : Reads w size u B.length (B.flatMap enc)) (hn : A.length + B.length ≤ 1000000000)
    (h : ∀ v' w', OwnV e size enc w0 v' (A ++ B) w' → (∀ k o, some k ≠ v.ownBlock → w.heap[k]? = some o → w'.heap[k]? = some o) → w.heap.size ≤ w'.heap.size → wpList P ops Q rest (a.put o.dst v') w') : wpList P ops Q (o :: rest) a w :=
  wpList_plain hgd fun _ hK => wp_append_v s x t ho e z size bytes enc hk h1 ht hinfo hzs hsz hby hs hown hx hr hn fun v' w' h2 h3 h4 => hK _ _ (h v' w' h2 h3 h4)
end
end
section
set_option maxRecDepth 100000
open Go.RowKit
theorem flatB (l : List UInt8) : l.flatMap encB = l.map byteV := by
  induction l with
  | nil => rfl
  | cons a l ih => simp only [List.flatMap_cons, List.map_cons, ih]; rfl
theorem strCells_mk (l : List UInt8) : Lib.strCells ⟨l.toArray⟩ = l.flatMap encB := by rw [flatB]; simp [Lib.strCells, byteV]
theorem partP_short (t : List UInt8) (h : t.length ≤ 60000) : partP t = [UInt8.ofNat (t.length / 256), UInt8.ofNat t.length] ++ t := by
  unfold partP
  rw [Nat.min_eq_left (by omega), List.take_of_length_le (by omega)]; rfl
theorem sparts_len (L : List (List UInt8)) (h : ∀ t ∈ L, t.length ≤ 60000) : (L.flatMap partP).length ≤ 60002 * L.length := by
  induction L with
  | nil => simp
  | cons a L ih =>
    have h1 := h a (by simp)
    have h2 := ih fun t ht => h t (by simp [ht])
    rw [List.flatMap_cons, List.length_append, partP_short a h1]
    simp only [List.length_append, List.length_cons, List.length_nil]; omega
theorem reads_row {w : World} {g : Nat} {t : TypeId} {fr : Nat × Nat} {c n : Nat} {xs : List Value} (h : w.heap[g]? = some (.cells xs.toArray t fr)) (hn : n = xs.length) : Reads w 1 (.slice (some ⟨g, 0, none⟩) n c) n xs := by
  subst hn
  exact ⟨_, c, rfl, by omega, fun _ => ⟨_, rfl, fun j u hj => by rw [add_plain, cell_of_row _ _ _ _ _ _ h, Nat.zero_add]; simpa using hj⟩⟩
theorem extract_all (t : List UInt8) : (⟨t.toArray⟩ : ByteArray).extract 0 t.length = ⟨t.toArray⟩ := by
  apply ByteArray.ext; simp [ByteArray.data_extract]
theorem one_encB : ∀ (x : UInt8), ∀ u ∈ encB x, u.oneCell' = true := by intro x u hu; simp [byteV] at hu; subst hu; rfl
theorem cells2K {w : World} {b : Nat} {x y : Value} {t : TypeId} {fr : Nat × Nat} (h : w.heap[b]? = some (.cells #[x, y] t fr)) : w.cell? ⟨b, 0, none⟩ = some x ∧ w.cell? ⟨b, 1, none⟩ = some y := by
  refine ⟨?_, ?_⟩ <;> (rw [cell_of_row _ _ _ _ _ _ h]; rfl)
section
variable {P : Program} {w : World} {ops : Array Oper} {rest : List Oper} {o : Oper} {a : Act} {Q : Exit → Act → World → Prop}
/-- append of a text to a row of bytes -/
theorem wpList_append_s (hgd : o.guard = none) (sl x : Operand) (t u : TypeId) (ho : o.op = .call { callee := .builtin .append, args := #[sl, x], argTypes := #[t, u] })
    (e : TypeId) (ht : P.underlying t = some (.slice e)) (hu : P.underlying u = some .string) (hinfo : (P.info? e).map (fun i => (i.zero, i.size, i.bytes)) = some (some (.int .u8 0), 1, 1)) {w0 : World} {v : Value} {A : List UInt8} (l : List UInt8) (hs : a.eval sl = v)
    (hown : OwnV e 1 encB w0 v A w) (hx : a.eval x = strV l) (hn : A.length + l.length ≤ 1000000000)
    (h : ∀ v' w', OwnV e 1 encB w0 v' (A ++ l) w' → w.heap.size ≤ w'.heap.size → wpList P ops Q rest (a.put o.dst v') w') : wpList P ops Q (o :: rest) a w := by
  obtain ⟨i, hi, hz, h2, h3⟩ := info_parts hinfo
  have hsz : (⟨l.toArray⟩ : ByteArray).size = l.length := by simp [ByteArray.size]
  refine Lib.wpList_append_own_string w hgd sl x t u ho w0.heap.size e i ht hu hi hz h2 h3 v A.length (A.flatMap encB) hs hown.1 ⟨l.toArray⟩ hx (by unfold maxLen; omega) (by omega) hown.2.size ?_
  intro v' w' ho' hg _
  rw [hsz, strCells_mk] at ho'
  refine h v' w' ⟨by rw [List.length_append, List.flatMap_append]; exact ho', hown.2.grown hg hown.2.size fun k hk => ?_⟩ hg.size
  rcases hown.1.2 with ⟨rfl, _⟩ | ⟨g, cap, cur, rfl, hg1, _⟩
  · simp [Value.ownBlock] at hk
  · have : g = k := by simpa [Value.ownBlock] using hk
    omega
end
set_option maxHeartbeats 4000000 in
theorem sparts_any (S : Nat → Prop) (ka kb : Int) (v : Value) (L : List (List UInt8)) (w : World) (h : Vec w S 1 encS v L) (hl : ∀ t ∈ L, t.length ≤ 60000) (hn : L.length ≤ 1000) :
    Calls Tryz.prog 121 #[.agg #[.int .u64 ka, .int .u64 kb], v] w fun e w' => e = .returned (.int .u64 (partsP ka kb L)) ∧ Below w.heap.size w w' := by
  obtain ⟨a, cap, rfl⟩ := h.slice
  have HV := Lib.hid h.any; clear h
  have HL := Lib.hid hl; clear hl
  go_enter Tryz.func121, Tryz.ntmps121
  go_wp2_with fail
  refine wp_world (fun W hW => ?_)
  have hb0 : Below w.heap.size w W := by rw [hW]; exact (Below.refl _ _).alloc (Nat.le_refl _) _
  have hk : W.heap[w.heap.size]? = some (.cells #[.int .u64 ka, .int .u64 kb] 26 (0, 0)) := by rw [hW]; exact blk_new rfl
  have HV0 := Lib.hid (HV.out.below hb0)
  have HB0 := Lib.hid hb0; have HK := Lib.hid hk
  clear hW hb0 hk HV
  go_loopw [5, 7, 10] (fun v _ i wr => ∃ k : Nat, i = .int .i64 k ∧ k ≤ L.length ∧ OwnV 5 1 encB W v ((L.take k).flatMap partP) wr) (fun _ _ i _ => L.length - (intOf i).toNat)
  case atStart => exact ⟨0, rfl, by omega, OwnV.start _ _ _ _⟩
  case round =>
    obtain ⟨k, rfl, hk, ho⟩ := hrel
    have HO := Lib.hid ho; clear ho
    by_cases hlt : k < L.length
    · have hq : decide ((k : Int) < L.length) = true := by simp; omega
      obtain ⟨t, ht⟩ : ∃ t, L[k] = t := ⟨_, rfl⟩
      have htl : t.length ≤ 60000 := HL.out t (by rw [← ht]; exact List.getElem_mem _)
      obtain ⟨b, off, rfl, hb, hc⟩ := (HV0.out.below HO.out.2).get k hlt
      have c0 := hc 0 _ rfl
      rw [Nat.mul_one, Nat.add_zero, ht] at c0
      clear hc
      have hm : min (t.length : Int) 65535 = (t.length : Int) := by omega
      have hx := extract_all t
      obtain ⟨x, ex⟩ : ∃ x, UInt8.ofNat (t.length / 256) = x := ⟨_, rfl⟩
      obtain ⟨y, ey⟩ : ∃ y, UInt8.ofNat t.length = y := ⟨_, rfl⟩
      have hxa : (t.length : Int) / 256 = (x.toNat : Int) := by rw [← ex, UInt8.toNat_ofNat']; omega
      have hya : (t.length : Int) % 256 = (y.toNat : Int) := by rw [← ey, UInt8.toNat_ofNat']; omega
      have hp := partP_short t htl
      rw [ex, ey] at hp
      have hts : L.take (k + 1) = L.take k ++ [t] := by rw [List.take_succ_eq_append_getElem hlt, ht]
      have htk := sparts_len (L.take k) fun u hu => HL.out u (List.mem_of_mem_take hu)
      rw [List.length_take] at htk
      have HP := Lib.hid hp; have HTs := Lib.hid hts
      clear hp hts ex ey
      obtain ⟨P, hP⟩ : ∃ P, (L.take k).flatMap partP = P := ⟨_, rfl⟩
      rw [hP] at HO htk
      have HPP := Lib.hid hP; clear hP
      have HO1 := Lib.hid (HO.out.below ((Below.refl _ _).alloc (Nat.le_refl _) (.cells #[.int .u8 (x.toNat : Int), .int .u8 (y.toNat : Int)] 5)))
      have HR1 := Lib.hid (reads_row (xs := [x, y].flatMap encB) (n := 2) (c := 2) (heap_alloc_new wr (.cells #[.int .u8 (x.toNat : Int), .int .u8 (y.toNat : Int)] 5)) rfl)
      have hz0 := HO.out.2.size
      have hlen : P.length + ([x, y] : List UInt8).length ≤ 1000000000 := by simp only [List.length_cons, List.length_nil]; omega
      have hlen2 : (P ++ [x, y]).length + t.length ≤ 1000000000 := by rw [List.length_append]; simp only [List.length_cons, List.length_nil]; omega
      go_wp2_with (at_builtin; first | (refine wpList_append_v rfl (.tmp 19) (.tmp 27) 183 rfl 5 (.int .u8 0) 1 1 encB (fun _ => rfl) one_encB Tryz.underlying183 infoBy rfl (by decide) (by decide) (w0 := W) (v := u5) (A := P) (B := [x, y]) rfl HO1.out rfl HR1.out hlen ?_; intro v2 w2 ho2 hk2 hz2) | (refine wpList_append_s rfl (.tmp 29) (.tmp 30) 183 9 rfl 5 Tryz.underlying183 Tryz.underlying9 infoBy (w0 := W) (v := v2) (A := P ++ [x, y]) t rfl ho2 rfl hlen2 ?_; intro v3 w3 ho3 hz3))
      go_roundw
      case rel => exact ⟨k + 1, by go_num, by omega, by rw [HTs.out, List.flatMap_append, HPP.out, List.flatMap_cons, List.flatMap_nil, List.append_nil, HP.out, ← List.append_assoc]; exact ho3⟩
      case measure => simp [intOf]; omega
    · have hq : decide ((k : Int) < L.length) = false := by simp; omega
      have htk := sparts_len L fun u hu => HL.out u hu
      rw [List.take_of_length_le (by omega)] at HO
      have hz0 := HO.out.2.size
      have hk2 : wr.heap[w.heap.size]? = some (.cells #[.int .u64 ka, .int .u64 kb] 26 (0, 0)) := blk_below HO.out.2 (lt_of_blk HK.out) HK.out
      obtain ⟨k0, k1⟩ := cells2K hk2
      go_wp2_with fail
      refine (ssum_any _ ka kb _ (L.flatMap partP) _ (OwnV.vec (size := 1) (enc := encB) (fun _ => rfl) HO.out) (by omega)).mono ?_
      rintro e w2 ⟨rfl, hb2⟩
      go_wp2_with fail
      go_ret
      exact ⟨rfl, HB0.out.trans ((HO.out.2.mono HB0.out.size).trans (hb2.mono (by have := HB0.out.size; omega)))⟩
theorem wpk_name {P : Program} {md : Region.Mode} {ops : Array Oper} {Q : Exit → Act → World → Prop} {S : World → Prop} {k fuel : Nat} {listed : Array Bool} {a : Act} {W : World} (h : ∀ w', w' = W → wpAnyK P md ops Q S k fuel listed a w') : wpAnyK P md ops Q S k fuel listed a W := h W rfl
/-- two texts that lie in one block -/
theorem sparts_two (ka kb : Int) (x y : List UInt8) (hx : x.length ≤ 60000) (hy : y.length ≤ 60000) (w : World) (g : Nat) (h : w.heap[g]? = some (.cells #[strV x, strV y] 9 (0, 0))) :
    Calls Tryz.prog 121 #[.agg #[.int .u64 ka, .int .u64 kb], .slice (some ⟨g, 0, none⟩) 2 2] w fun e w' => e = .returned (.int .u64 (partsP ka kb [x, y])) ∧ Below w.heap.size w w' := by
  refine sparts_any Any1 ka kb _ [x, y] w ⟨_, 2, rfl, by simp, fun _ => ⟨g, 0, rfl, trivial, lt_of_blk h, fun j z hj i u hu => ?_⟩⟩ (by intro t ht; simp at ht; rcases ht with rfl | rfl <;> omega) (by simp)
  rw [cell_of_row _ _ _ _ _ _ h]
  match j, i, hj, hu with
  | 0, 0, hj, hu => simp at hj; subst hj; simpa using hu
  | 1, 0, hj, hu => simp at hj; subst hj; simpa using hu
  | 0, i + 1, hj, hu => simp at hu
  | 1, i + 1, hj, hu => simp at hu
  | j + 2, _, hj, _ => simp at hj
set_option maxHeartbeats 4000000 in
theorem sderive_any (ka kb : Int) (l : List UInt8) (w : World) (hl : l.length ≤ 60000) :
    Calls Tryz.prog 122 #[.agg #[.int .u64 ka, .int .u64 kb], strV l] w fun e w' => e = .returned (.agg #[.int .u64 (deriveP ka kb l).1, .int .u64 (deriveP ka kb l).2]) ∧ Below w.heap.size w w' := by
  obtain ⟨p, hp⟩ : ∃ p, partsP ka kb [l, [97]] = p := ⟨_, rfl⟩
  obtain ⟨q, hq⟩ : ∃ q, partsP ka kb [l, [98]] = q := ⟨_, rfl⟩
  have hpq : deriveP ka kb l = (p, q) := by rw [← hp, ← hq]; rfl
  rw [hpq]
  have HP := Lib.hid hp; have HQ := Lib.hid hq
  clear hp hq hpq
  go_enter Tryz.func122, Tryz.ntmps122
  go_wp2_with fail
  refine wp_world (fun W hW => ?_)
  have hb0 : Below w.heap.size w W := by rw [hW]; exact ((Below.refl _ _).alloc (Nat.le_refl _) _).alloc (by simp) _
  have hk0 : W.heap[w.heap.size]? = some (.cells #[.int .u64 ka, .int .u64 kb] 26 (0, 0)) := by rw [hW]; exact blk_old (blk_new rfl)
  have hz0 : W.heap[w.heap.size + 1]? = some (.cells #[.int .u64 0, .int .u64 0] 26 (0, 0)) := by rw [hW]; exact blk_new (by simp)
  have hW0 := lt_of_blk hk0
  obtain ⟨k0, k1⟩ := cells2K hk0
  clear hW
  have bD : Below W.heap.size W W.drew := (Below.refl _ _).drew
  refine wp_region_noPanic ?_
  refine wp_region_k (by kernel_rfl) (fun w' => w'.cell? ⟨w.heap.size, 0, none⟩ = some (.int .u64 ka) ∧ w'.cell? ⟨w.heap.size, 1, none⟩ = some (.int .u64 kb)) 9 (⟨k0, k1⟩) (fun hHeld => ?_)
  refine tK 0 (h := ?_)
  refine tK 1 (h := ?_)
  refine tK 4 (h := ?_)
  refine tK 5 (h := ?_)
  refine wpAnyK_ready (rs := [2, 6]) (by kernel_rfl) (by simp) ?_
  refine AllReadyK.cons rfl (fun K hK => ?_) (AllReadyK.cons rfl (fun K hK => ?_) AllReadyK.nil)
  focus
    go_simp
    refine shutK hK (⟨((bD.alloc bD.size _).cell (p := ⟨w.heap.size, 0, none⟩) hW0).trans k0, ((bD.alloc bD.size _).cell (p := ⟨w.heap.size, 1, none⟩) hW0).trans k1⟩) (fun hHeld => ?_)
    clear hK K
    try simp only [List.getElem_toArray, List.getElem_cons_zero, List.getElem_cons_succ, Act.put, List.setIfInBounds_toArray, List.set_cons_zero, List.set_cons_succ]
    refine wpk_name (fun W1 hW1 => ?_)
    have b1 : Below W.heap.size W W1 := by rw [hW1]; exact bD.alloc bD.size (.cells #[strV l, strV [97]] 9)
    have g1 : W1.heap[W.heap.size]? = some (.cells #[strV l, strV [97]] 9 (0, 0)) := by rw [hW1]; exact blk_new rfl
    clear hW1
    refine wpAnyK_ready (rs := [3, 6]) (by kernel_rfl) (by simp) ?_
    refine AllReadyK.cons rfl (fun K hK => ?_) (AllReadyK.cons rfl (fun K hK => ?_) AllReadyK.nil)
    focus
      go_simp
      refine (sparts_two ka kb l [97] hl (by decide) _ _ g1).mono ?_
      rintro e w2 ⟨rfl, hb⟩
      have b2 := b1.trans (hb.mono b1.size)
      clear hb
      refine shutK hK (⟨(b2.cell (p := ⟨w.heap.size, 0, none⟩) hW0).trans k0, (b2.cell (p := ⟨w.heap.size, 1, none⟩) hW0).trans k1⟩) (fun hHeld => ?_)
      clear hK K
      try simp only [List.getElem_toArray, List.getElem_cons_zero, List.getElem_cons_succ, Act.put, List.setIfInBounds_toArray, List.set_cons_zero, List.set_cons_succ]
      refine wpAnyK_ready (rs := [6]) (by kernel_rfl) (by simp) ?_
      refine AllReadyK.cons rfl (fun K hK => ?_) AllReadyK.nil
      go_simp
      refine shutK hK (⟨((b2.alloc b2.size _).cell (p := ⟨w.heap.size, 0, none⟩) hW0).trans k0, ((b2.alloc b2.size _).cell (p := ⟨w.heap.size, 1, none⟩) hW0).trans k1⟩) (fun hHeld => ?_)
      clear hK K
      try simp only [List.getElem_toArray, List.getElem_cons_zero, List.getElem_cons_succ, Act.put, List.setIfInBounds_toArray, List.set_cons_zero, List.set_cons_succ]
      refine wpk_name (fun W3 hW3 => ?_)
      have b3 : Below W.heap.size W W3 := by rw [hW3]; exact b2.alloc b2.size (.cells #[strV l, strV [98]] 9)
      have g3 : W3.heap[w2.heap.size]? = some (.cells #[strV l, strV [98]] 9 (0, 0)) := by rw [hW3]; exact blk_new rfl
      clear hW3
    rotate_left 1
    focus
      go_simp
      refine shutK hK (⟨((b1.alloc b1.size _).cell (p := ⟨w.heap.size, 0, none⟩) hW0).trans k0, ((b1.alloc b1.size _).cell (p := ⟨w.heap.size, 1, none⟩) hW0).trans k1⟩) (fun hHeld => ?_)
      clear hK K
      try simp only [List.getElem_toArray, List.getElem_cons_zero, List.getElem_cons_succ, Act.put, List.setIfInBounds_toArray, List.set_cons_zero, List.set_cons_succ]
      refine wpk_name (fun W2 hW2 => ?_)
      have b2 : Below W.heap.size W W2 := by rw [hW2]; exact b1.alloc b1.size (.cells #[strV l, strV [98]] 9)
      have g3 : W2.heap[W1.heap.size]? = some (.cells #[strV l, strV [98]] 9 (0, 0)) := by rw [hW2]; exact blk_new rfl
      have g1' : W2.heap[W.heap.size]? = some (.cells #[strV l, strV [97]] 9 (0, 0)) := by rw [hW2]; exact blk_old g1
      clear hW2
      refine wpAnyK_ready (rs := [3]) (by kernel_rfl) (by simp) ?_
      refine AllReadyK.cons rfl (fun K hK => ?_) AllReadyK.nil
      go_simp
      refine (sparts_two ka kb l [97] hl (by decide) _ _ g1').mono ?_
      rintro e W3 ⟨rfl, hb⟩
      have b3 := b2.trans (hb.mono b2.size)
      have g3 := blk_below hb (lt_of_blk g3) g3
      clear hb
      refine shutK hK (⟨(b3.cell (p := ⟨w.heap.size, 0, none⟩) hW0).trans k0, (b3.cell (p := ⟨w.heap.size, 1, none⟩) hW0).trans k1⟩) (fun hHeld => ?_)
      clear hK K
      try simp only [List.getElem_toArray, List.getElem_cons_zero, List.getElem_cons_succ, Act.put, List.setIfInBounds_toArray, List.set_cons_zero, List.set_cons_succ]
  rotate_left 2
  focus
    go_simp
    refine shutK hK (⟨((bD.alloc bD.size _).cell (p := ⟨w.heap.size, 0, none⟩) hW0).trans k0, ((bD.alloc bD.size _).cell (p := ⟨w.heap.size, 1, none⟩) hW0).trans k1⟩) (fun hHeld => ?_)
    clear hK K
    try simp only [List.getElem_toArray, List.getElem_cons_zero, List.getElem_cons_succ, Act.put, List.setIfInBounds_toArray, List.set_cons_zero, List.set_cons_succ]
    refine wpk_name (fun W1 hW1 => ?_)
    have b1 : Below W.heap.size W W1 := by rw [hW1]; exact bD.alloc bD.size (.cells #[strV l, strV [98]] 9)
    have g3 : W1.heap[W.heap.size]? = some (.cells #[strV l, strV [98]] 9 (0, 0)) := by rw [hW1]; exact blk_new rfl
    clear hW1
    refine wpAnyK_ready (rs := [2]) (by kernel_rfl) (by simp) ?_
    refine AllReadyK.cons rfl (fun K hK => ?_) AllReadyK.nil
    go_simp
    refine shutK hK (⟨((b1.alloc b1.size _).cell (p := ⟨w.heap.size, 0, none⟩) hW0).trans k0, ((b1.alloc b1.size _).cell (p := ⟨w.heap.size, 1, none⟩) hW0).trans k1⟩) (fun hHeld => ?_)
    clear hK K
    try simp only [List.getElem_toArray, List.getElem_cons_zero, List.getElem_cons_succ, Act.put, List.setIfInBounds_toArray, List.set_cons_zero, List.set_cons_succ]
    refine wpk_name (fun W2 hW2 => ?_)
    have b2 : Below W.heap.size W W2 := by rw [hW2]; exact b1.alloc b1.size (.cells #[strV l, strV [97]] 9)
    have g1 : W2.heap[W1.heap.size]? = some (.cells #[strV l, strV [97]] 9 (0, 0)) := by rw [hW2]; exact blk_new rfl
    have g3' : W2.heap[W.heap.size]? = some (.cells #[strV l, strV [98]] 9 (0, 0)) := by rw [hW2]; exact blk_old g3
    clear hW2
    refine wpAnyK_ready (rs := [3]) (by kernel_rfl) (by simp) ?_
    refine AllReadyK.cons rfl (fun K hK => ?_) AllReadyK.nil
    go_simp
    refine (sparts_two ka kb l [97] hl (by decide) _ _ g1).mono ?_
    rintro e W3 ⟨rfl, hb⟩
    have b3 := b2.trans (hb.mono b2.size)
    have g3 := blk_below hb (lt_of_blk g3') g3'
    clear hb
    refine shutK hK (⟨(b3.cell (p := ⟨w.heap.size, 0, none⟩) hW0).trans k0, (b3.cell (p := ⟨w.heap.size, 1, none⟩) hW0).trans k1⟩) (fun hHeld => ?_)
    clear hK K
    try simp only [List.getElem_toArray, List.getElem_cons_zero, List.getElem_cons_succ, Act.put, List.setIfInBounds_toArray, List.set_cons_zero, List.set_cons_succ]
  all_goals
    refine wpAnyK_ready (rs := [7]) (by kernel_rfl) (by simp) ?_
    refine AllReadyK.cons rfl (fun K hK => ?_) AllReadyK.nil
    go_simp
    refine (sparts_two ka kb l [98] hl (by decide) _ _ g3).mono ?_; rintro e w4 ⟨rfl, hb⟩; have b4 := b3.trans (hb.mono b3.size); clear hb; rw [HP.out, HQ.out]
    refine shutK hK (⟨(b4.cell (p := ⟨w.heap.size, 0, none⟩) hW0).trans k0, (b4.cell (p := ⟨w.heap.size, 1, none⟩) hW0).trans k1⟩) (fun hHeld => ?_)
    clear hK K
    try simp only [List.getElem_toArray, List.getElem_cons_zero, List.getElem_cons_succ, Act.put, List.setIfInBounds_toArray, List.set_cons_zero, List.set_cons_succ]
    refine tK 8 (h := ?_)
    have hz4 := blk_below b4 (lt_of_blk hz0) hz0
    have hz5 := lt_of_blk hz4
    obtain ⟨z0, z1⟩ := cells2K hz4
    have y0 := frozen_of_row _ _ 0 _ _ hz4
    have y1 := frozen_of_row _ _ 1 _ _ hz4
    refine wpAnyK_ready (rs := [9]) (by kernel_rfl) (by simp) ?_
    refine AllReadyK.cons rfl (fun K hK => ?_) AllReadyK.nil
    go_simp
    refine shutK_off hK (by decide) ?_
    clear hK K
    try simp only [List.getElem_toArray, List.getElem_cons_zero, List.getElem_cons_succ, Act.put, List.setIfInBounds_toArray, List.set_cons_zero, List.set_cons_succ]
    refine wpAnyK_done (by kernel_rfl) ?_ _
    refine NoPanic.normal ?_
    go_wp2_with fail
    exact bodyPost_row1 rfl rfl (blk_set (i := 1) (v := .int .u64 q) (blk_set (i := 0) (v := .int .u64 p) hz4)) Tryz.underlying26 rfl (by kernel_rfl)
      ⟨rfl, ((hb0.trans (b4.mono hb0.size)).setCell (p := ⟨w.heap.size + 1, 0, none⟩) (Nat.le_succ _) _).setCell (p := ⟨w.heap.size + 1, 1, none⟩) (Nat.le_succ _) _⟩
end
section
set_option maxRecDepth 100000
open Go.RowKit
theorem ins_int {P : Program} {w : World} {mty kt et : TypeId} {r : Nat} {es : Array MapEntry} {clock : Nat} (k : Int) (v : Value) (hm : P.underlying mty = some (.map kt et)) (hd : P.underlying kt = some (.int .i64)) (hb : w.heap[r]? = some (.map es clock)) (h1 : Instr.findNow (.int .i64) (.int .i64 k) es.toList 0 = some none) :
    ∃ w', (Instr.mapUpdate mty (.map (some r)) (.int .i64 k) v).run P w = .ok () w' ∧ w'.heap[r]? = some (.map (es.push { key := .int .i64 k, val := v, born := clock }) (clock + 1)) ∧ w.grownBy w' (some r) := by
  refine ⟨{ w with heap := w.heap.setIfInBounds r (.map (es.push { key := .int .i64 k, val := v, born := clock }) (clock + 1)) }, ?_, (MapKept.heap_set hb).1, ?_⟩
  · simp [Instr.mapUpdate, run_underlying hm, MapKept.run_getObj_map hb, MapKept.run_checkKey hd (k := .int .i64 k) (by simp [MapKept.IsKey]), MapKept.run_findKey hd h1, MapKept.run_setObj_map _ hb, Result.andThen]
  · exact ⟨rfl, rfl, rfl, by simp, fun i _ hi => (MapKept.heap_set hb).2 i (fun e => hi (by rw [e]))⟩
theorem look_int {P : Program} {w : World} {mty kt et : TypeId} {r i : Nat} {es : Array MapEntry} {clock : Nat} (k : Int) (v : Value) (hm : P.underlying mty = some (.map kt et)) (hd : P.underlying kt = some (.int .i64)) (hb : w.heap[r]? = some (.map es clock)) (h1 : Instr.findNow (.int .i64) (.int .i64 k) es.toList 0 = some (some (i, v))) :
    (Instr.lookup mty (.map (some r)) (.int .i64 k) false).run P w = .ok v w := by
  simp [Instr.lookup, run_underlying hm, MapKept.run_getObj_map hb, MapKept.run_checkKey hd (k := .int .i64 k) (by simp [MapKept.IsKey]), MapKept.run_findKey hd h1, Result.andThen]
def funV (f : FuncId) : Value := .func (.func f) #[] #[]
def transE : Array MapEntry := #[{ key := .int .i64 1, val := funV 185, born := 0 }, { key := .int .i64 2, val := funV 186, born := 1 }, { key := .int .i64 3, val := funV 187, born := 2 }, { key := .int .i64 4, val := funV 189, born := 3 }, { key := .int .i64 5, val := funV 190, born := 4 }]
def TransPost (w : World) (e : Ending) (w' : World) : Prop := ∃ b, e = .returned (.map (some b)) ∧ w'.heap[b]? = some (.map transE 5) ∧ w.heap.size ≤ b ∧ Below w.heap.size w w'
theorem trans_any (w : World) : Calls Tryz.prog 125 #[] w (TransPost w) := by
  go_enter Tryz.func125, Tryz.ntmps125
  go_wp2_with fail
  rw [run_makeMap_plain]
  go_wp2_with fail
  have g0 : (w.alloc (.map #[] 0)).heap[w.heap.size]? = some (.map #[] 0) := blk_new rfl
  have m0 : Below w.heap.size w (w.alloc (.map #[] 0)) := (Below.refl _ _).alloc (Nat.le_refl _) _
  obtain ⟨w1, e1, g1, r1⟩ := ins_int (P := Tryz.prog) 1 (.func (.func 185) #[] #[]) Tryz.underlying170 Tryz.underlying3 g0 rfl
  rw [e1]
  have m1 : Below w.heap.size w w1 := m0.grown r1 (by have := m0.size; exact this) (by intro x hx; cases hx; exact Nat.le_refl _)
  clear e1 r1
  go_wp2_with fail
  obtain ⟨w2, e2, g2, r2⟩ := ins_int (P := Tryz.prog) 2 (.func (.func 186) #[] #[]) Tryz.underlying170 Tryz.underlying3 g1 rfl
  rw [e2]
  have m2 : Below w.heap.size w w2 := m1.grown r2 (by have := m1.size; exact this) (by intro x hx; cases hx; exact Nat.le_refl _)
  clear e2 r2
  go_wp2_with fail
  obtain ⟨w3, e3, g3, r3⟩ := ins_int (P := Tryz.prog) 3 (.func (.func 187) #[] #[]) Tryz.underlying170 Tryz.underlying3 g2 rfl
  rw [e3]
  have m3 : Below w.heap.size w w3 := m2.grown r3 (by have := m2.size; exact this) (by intro x hx; cases hx; exact Nat.le_refl _)
  clear e3 r3
  go_wp2_with fail
  obtain ⟨w4, e4, g4, r4⟩ := ins_int (P := Tryz.prog) 4 (.func (.func 189) #[] #[]) Tryz.underlying170 Tryz.underlying3 g3 rfl
  rw [e4]
  have m4 : Below w.heap.size w w4 := m3.grown r4 (by have := m3.size; exact this) (by intro x hx; cases hx; exact Nat.le_refl _)
  clear e4 r4
  go_wp2_with fail
  obtain ⟨w5, e5, g5, r5⟩ := ins_int (P := Tryz.prog) 5 (.func (.func 190) #[] #[]) Tryz.underlying170 Tryz.underlying3 g4 rfl
  rw [e5]
  have m5 : Below w.heap.size w w5 := m4.grown r5 (by have := m4.size; exact this) (by intro x hx; cases hx; exact Nat.le_refl _)
  clear e5 r5
  go_wp2_with fail
  go_ret
  exact ⟨_, rfl, g5, Nat.le_refl _, m5⟩
end
section
theorem extract_take (t : List UInt8) (m : Nat) : (⟨t.toArray⟩ : ByteArray).extract 0 m = ⟨(t.take m).toArray⟩ := by
  apply ByteArray.ext
  simp [ByteArray.data_extract]
theorem beq_dec (x y : Int) : (x == y) = decide (x = y) := by by_cases h : x = y <;> simp [h]
end
section
set_option maxRecDepth 100000
open Go.RowKit
/-- a byte of a folded text -/
def okB (b : UInt8) : Bool := isLow b || isDgt b || b == 32
theorem replT_ok : (replT.all fun x => x.all okB && decide (x.length ≤ 2)) = true := by decide
theorem replB_get (n : Nat) (h : n < 64) : replT[n]? = some (replT.getD n []) := by
  have : n < replT.length := h
  rw [List.getElem?_eq_getElem this]; simp [List.getD, List.getElem?_eq_getElem this]
theorem replB_ok (b : UInt8) : (∀ c ∈ replB b, okB c = true) ∧ (replB b).length ≤ 2 := by
  unfold replB
  by_cases h : b.toNat - 128 < replT.length
  · have hm : replT.getD (b.toNat - 128) [] ∈ replT := by
      simp only [List.getD, List.getElem?_eq_getElem h, Option.getD_some]; exact List.getElem_mem h
    have := List.all_eq_true.1 replT_ok _ hm
    rw [Bool.and_eq_true, List.all_eq_true, decide_eq_true_iff] at this
    exact this
  · have : replT.getD (b.toNat - 128) [] = [] := by simp [List.getD, List.getElem?_eq_none (Nat.le_of_not_lt h)]
    rw [this]; simp
theorem plainB_ok (b : UInt8) : (∀ c ∈ plainB b, okB c = true) ∧ (plainB b).length ≤ 1 := by
  unfold plainB
  split
  · rename_i h
    refine ⟨fun c hc => ?_, by simp⟩
    simp at hc; subst hc
    have : isLow (b + 32) = true := by
      rw [up_iff, decide_eq_true_iff] at h
      rw [low_iff, decide_eq_true_iff]
      have := b.toNat_lt
      have e : (b + 32).toNat = b.toNat + 32 := by rw [UInt8.toNat_add]; simp; omega
      rw [e]; omega
    simp [okB, this]
  · split
    · rename_i h
      refine ⟨fun c hc => ?_, by simp⟩
      simp at hc; subst hc
      simp at h; simp [okB, h]
    · split
      · simp
      · exact ⟨fun c hc => by simp at hc; subst hc; rfl, by simp⟩
theorem raw_ok (l : List UInt8) : (∀ c ∈ rawL l, okB c = true) ∧ (rawL l).length ≤ l.length := by
  induction l using rawL.induct with
  | case1 => simp [rawL]
  | case2 a => simp only [rawL]; exact ⟨(plainB_ok a).1, by simpa using (plainB_ok a).2⟩
  | case3 a b r h ih =>
    simp only [rawL, h, if_true]
    refine ⟨fun c hc => ?_, by have := (replB_ok b).2; simp; omega⟩
    rcases List.mem_append.1 hc with hc | hc
    · exact (replB_ok b).1 c hc
    · exact ih.1 c hc
  | case4 a b r h ih =>
    simp only [rawL, h]
    refine ⟨fun c hc => ?_, by have := (plainB_ok a).2; have := ih.2; simp at *; omega⟩
    simp only [Bool.false_eq_true, if_false] at hc
    rcases List.mem_append.1 hc with hc | hc
    · exact (plainB_ok a).1 c hc
    · exact ih.1 c hc
theorem okB_lt {b : UInt8} (h : okB b = true) : b.toNat < 128 := by
  unfold okB at h
  simp only [Bool.or_eq_true, low_iff, dig_iff, decide_eq_true_iff, beq_iff_eq] at h
  rcases h with (h | h) | h
  · omega
  · omega
  · subst h; decide
theorem raw_ascii (l : List UInt8) : ascii (rawL l) := fun b hb => okB_lt ((raw_ok l).1 b hb)
/-- the bytes of tokens are those of the text, less the spaces -/
theorem toksA_mem (l : List UInt8) : ∀ p, ∀ t ∈ toksA p l, ∀ b ∈ t, b ∈ p ∨ (b ∈ l ∧ b ≠ 32) := by
  induction l with
  | nil =>
    intro p t ht b hb
    simp only [toksA] at ht
    split at ht
    · simp at ht
    · simp at ht; subst ht; exact .inl hb
  | cons c l ih =>
    intro p t ht b hb
    by_cases hc : c = 32
    · subst hc
      by_cases hp : p = []
      · subst hp
        rw [toksA_sp0] at ht
        rcases ih [] t ht b hb with h | h
        · simp at h
        · exact .inr ⟨List.mem_cons_of_mem _ h.1, h.2⟩
      · rw [toksA_sp _ _ hp] at ht
        rcases List.mem_cons.1 ht with rfl | ht
        · exact .inl hb
        · rcases ih [] t ht b hb with h | h
          · simp at h
          · exact .inr ⟨List.mem_cons_of_mem _ h.1, h.2⟩
    · rw [toksA_ch _ _ _ hc] at ht
      rcases ih _ t ht b hb with h | h
      · rcases List.mem_append.1 h with h | h
        · exact .inl h
        · simp at h; subst h; exact .inr ⟨List.mem_cons_self, hc⟩
      · exact .inr ⟨List.mem_cons_of_mem _ h.1, h.2⟩
theorem join_cons_ne (t : List UInt8) (L : List (List UInt8)) (h : L ≠ []) : joinL (t :: L) = t ++ [32] ++ joinL L := by
  cases L with
  | nil => exact absurd rfl h
  | cons b r => rfl
theorem toksA_len (l : List UInt8) : ∀ p, (joinL (toksA p l)).length ≤ p.length + l.length ∧ (toksA p l).length ≤ l.length + 1 ∧ (p = [] → l.length = 0 → toksA p l = []) := by
  induction l with
  | nil =>
    intro p
    simp only [toksA]
    split <;> simp_all [joinL]
  | cons c l ih =>
    intro p
    by_cases hc : c = 32
    · subst hc
      by_cases hp : p = []
      · subst hp
        rw [toksA_sp0]
        have := ih []
        simp at *; omega
      · rw [toksA_sp _ _ hp]
        have := ih []
        by_cases hq : toksA [] l = []
        · rw [hq]; simp [joinL]; try omega
        · rw [join_cons_ne _ _ hq]; simp at *; omega
    · rw [toksA_ch _ _ _ hc]
      have := ih (p ++ [c])
      simp at *; omega
theorem fold_len (l : List UInt8) : (foldL l).length ≤ l.length := by
  have h1 := (toksA_len (rawL l) []).1
  have h2 := (raw_ok l).2
  unfold foldL toks
  simp at h1; omega
end
section
set_option maxRecDepth 100000
open Go.RowKit
theorem tbl_cell {w : World} {b : Nat} (h : w.heap[b]? = some (.cells tblV 291 (0, 0))) (c : UInt8) (n : Nat) (hn : c.toNat = 128 + n) (h64 : n < 64) : w.cell? ⟨b, n, none⟩ = some (strV (replB c)) := by
  rw [cell_of_row w b n tblV _ _ h]
  unfold tblV replB
  rw [hn, Nat.add_sub_cancel_left, List.getElem?_toArray, List.getElem?_map, replB_get n h64]
  rfl
theorem pairAt_snd (s : ByteArray) (i : Nat) (hi : i + 1 < s.size) (h : pairAt (s.data.toList.drop i) = true) : ∃ n : Nat, s[i + 1].toNat = 128 + n ∧ n < 64 := by
  rw [drop_two s i hi] at h
  simp only [pairAt, pair_iff, decide_eq_true_iff] at h
  exact ⟨s[i + 1].toNat - 128, by omega, by omega⟩
theorem mk_size (l : List UInt8) : (⟨l.toArray⟩ : ByteArray).size = l.length := by simp [ByteArray.size]
theorem put_len {acc x : List UInt8} {n : Nat} (h : acc.length ≤ n) (hn : n ≤ 1000000) (hx : x.length ≤ 2) : (Lib.byteCells acc).length + (⟨x.toArray⟩ : ByteArray).size ≤ 140737488355328 := by
  rw [Lib.byteCells_length, mk_size]; omega
/-- what the loop of Fold holds -/
def FoldAt (w w1 : World) (l : List UInt8) (k : Nat) (wr : World) : Prop := ∃ acc : List UInt8, acc ++ rawL (l.drop k) = rawL l ∧
  Lib.IsBuilder 186 5 (w1.heap.size + 1) (w1.heap.size + 1) (Lib.byteCells acc) wr ∧ wr.heap[w1.heap.size]? = some (.cells tblV 291 (0, 0)) ∧ Below w.heap.size w wr ∧ w1.heap.size + 1 ≤ wr.heap.size
theorem FoldAt.len {w w1 : World} {l : List UInt8} {k : Nat} {wr : World} {acc : List UInt8} (h : acc ++ rawL (l.drop k) = rawL l) : acc.length ≤ l.length := by
  have := congrArg List.length h
  have h2 := (raw_ok l).2
  simp at this; omega
theorem FoldAt.step {w w1 wr w2 : World} {l acc x : List UInt8} {k k' : Nat} (hacc : acc ++ rawL (l.drop k) = rawL l) (hx : rawL (l.drop k) = x ++ rawL (l.drop k')) (ht : wr.heap[w1.heap.size]? = some (.cells tblV 291 (0, 0))) (hbw : Below w.heap.size w wr) (hz : w1.heap.size + 1 ≤ wr.heap.size) (hz1 : w.heap.size ≤ w1.heap.size)
    (hB : Lib.BuilderAt 186 5 (w1.heap.size + 1) (w1.heap.size + 1) (.pointer (some ⟨w1.heap.size + 1, 0, none⟩)) (Lib.byteCells acc ++ Lib.strCells ⟨x.toArray⟩) w2) (hb2 : Below (w1.heap.size + 1) wr w2) : FoldAt w w1 l k' w2 := by
  refine ⟨acc ++ x, by rw [List.append_assoc, ← hx]; exact hacc, .inr ?_, (hb2.block _ (by omega)).trans ht, hbw.trans (hb2.mono (by omega)), Nat.le_trans hz hb2.size⟩
  rw [Lib.byteCells_append]
  exact hB
set_option maxHeartbeats 4000000 in
theorem fold_yes (s : ByteArray) (w : World) (hs : s.size ≤ 100000) (hv : foldV s.data.toList = true) :
    Calls Tryz.prog 292 #[.string s] w fun e w' => e = .returned (.tuple #[strV (foldL s.data.toList), .int .i64 0]) ∧ Below w.heap.size w w' := by
  have hl : s.data.toList.length = s.size := by simp
  have HL := Lib.hid hl; clear hl
  have HV := Lib.hid hv; clear hv
  go_enter Tryz.func292, Tryz.ntmps292
  go_wp2_with fail
  refine (tvalid_any s _ (by omega)).mono ?_; rw [HV.out]; rintro e w' ⟨rfl, rfl⟩
  go_wp2_with fail
  refine (repl_any _).mono ?_; rintro e w1 ⟨rfl, hb1⟩
  have HB1 := Lib.hid hb1; clear hb1
  go_wp2_with (refine wpList_store_row rfl 291 (.tmp 4) (.tmp 10) rfl w1.heap.size tblV rfl rfl 291 _ (heap_alloc_new w1 _) (by kernel_rfl) (by kernel_rfl) (by kernel_rfl) ?_; rw [World.setRow_alloc_new])
  have hbz : w.heap.size ≤ w1.heap.size := HB1.out.size
  go_loopw [6] (fun i wr => ∃ k : Nat, k ≤ s.size ∧ i = .int .i64 k ∧ FoldAt w w1 s.data.toList k wr) (fun i _ => s.size - (intOf i).toNat)
  case atStart =>
    refine ⟨0, by omega, rfl, [], rfl, .inl ⟨Nat.le_refl _, _, by rw [show w1.heap.size + 1 = (w1.alloc (.cells tblV 291)).heap.size by simp]; exact heap_alloc_new _ _, ⟨rfl, .inl ⟨rfl, rfl⟩⟩, by simp [Value.ownBlock]⟩, blk_old (blk_new rfl), (HB1.out.alloc hbz _).alloc (by simp; omega) _, by simp⟩
  case round =>
    obtain ⟨k, hk, rfl, HF⟩ := hrel
    have HF' := Lib.hid HF; clear HF
    by_cases hlt : k < s.size
    · have hq : decide ((k : Int) < s.size) = true := by simp; omega
      go_wp2_with fail
      refine (pair_any s k _ hlt (by omega)).mono ?_; rintro e w' ⟨rfl, rfl⟩
      cases hp : pairAt (s.data.toList.drop k)
      · have HR := Lib.hid (raw_one s k hlt hp)
        clear hp
        obtain ⟨acc, hacc, hB, ht, hbw, hz⟩ := HF'.out
        have hal := FoldAt.len (w := w) (w1 := w1) (wr := wr) hacc
        have HA := Lib.hid hacc; have HT := Lib.hid ht; have HW := Lib.hid hbw; have HB := Lib.hid hB
        clear hacc ht hbw hB HF'
        go_wp2_with fail
        refine (plain_any s[k] _).mono ?_; rintro e w' ⟨rfl, rfl⟩
        have hpl := (plainB_ok s[k]).2
        go_wp2_with fail
        refine (wstr_any (w1.heap.size + 1) (w1.heap.size + 1) (Lib.byteCells acc) ⟨(plainB s[k]).toArray⟩ _ HB.out (put_len hal (by rw [HL.out]; omega) (by omega)) hz).mono ?_
        rintro e w2 ⟨rfl, hB2, hb2⟩
        have HF2 := Lib.hid (FoldAt.step HA.out HR.out HT.out HW.out hz hbz hB2 hb2)
        clear hB2 hb2
        go_wp2_with fail
        go_roundw
        case rel => exact ⟨k + 1, by omega, by go_num, HF2.out⟩
        case measure => simp [intOf]; omega
      · have h2 := pairAt_lt s k hlt hp
        have HR := Lib.hid (raw_two s k h2 hp)
        obtain ⟨n, hn, hn64⟩ := pairAt_snd s k h2 hp
        clear hp
        obtain ⟨acc, hacc, hB, ht, hbw, hz⟩ := HF'.out
        have hal := FoldAt.len (w := w) (w1 := w1) (wr := wr) hacc
        have hcell := tbl_cell ht s[k + 1] n hn hn64
        have hn' : (s[k + 1].toNat : Int) = 128 + (n : Int) := by omega
        have HA := Lib.hid hacc; have HT := Lib.hid ht; have HW := Lib.hid hbw; have HB := Lib.hid hB
        clear hacc ht hbw hB HF' hn
        go_wp2_with fail
        have hpl := (replB_ok s[k + 1]).2
        refine (wstr_any (w1.heap.size + 1) (w1.heap.size + 1) (Lib.byteCells acc) ⟨(replB s[k + 1]).toArray⟩ _ HB.out (put_len hal (by rw [HL.out]; omega) hpl) hz).mono ?_
        rintro e w2 ⟨rfl, hB2, hb2⟩
        have HF2 := Lib.hid (FoldAt.step HA.out HR.out HT.out HW.out hz hbz hB2 hb2)
        clear hB2 hb2
        go_wp2_with fail
        go_roundw
        case rel => exact ⟨k + 2, by omega, by go_num, HF2.out⟩
        case measure => simp [intOf]; omega
    · have hq : decide ((k : Int) < s.size) = false := by simp; omega
      obtain ⟨acc, hacc, hB, ht, hbw, hz⟩ := HF'.out
      rw [List.drop_eq_nil_of_le (by rw [HL.out]; omega)] at hacc
      have hacc' : acc = rawL s.data.toList := by simpa [rawL] using hacc
      subst hacc'
      have HW := Lib.hid hbw; have HB := Lib.hid hB
      clear hacc ht hbw hB HF'
      go_wp2_with fail
      refine (bstr_any (w1.heap.size + 1) (w1.heap.size + 1) _ _ HB.out hz).mono ?_
      rintro e w2 ⟨rfl, hb2⟩
      have HW2 := Lib.hid (HW.out.trans (hb2.mono (by omega))); clear hb2
      go_wp2_with fail
      have hrl := (raw_ok s.data.toList).2
      refine (tokens_any (rawL s.data.toList) _ (raw_ascii _) (by rw [HL.out] at hrl; omega)).mono ?_
      rintro e w3 ⟨A, rfl, hA, ho, hb3⟩
      have hV := Lib.hid (Vec.owns (S := Any1) (k := 1) (enc := encS) (fun _ => rfl) ho (fun _ _ _ => trivial))
      have HW3 := Lib.hid (HW2.out.trans (hb3.mono HW2.out.size)); clear hb3 ho
      go_wp2_with fail
      refine (join_any Any1 _ (toks (rawL s.data.toList)) _ hV.out (by have := (toksA_len (rawL s.data.toList) []).2.1; unfold toks; rw [HL.out] at hrl; omega) (by have := fold_len s.data.toList; unfold foldL at this; rw [HL.out] at this; omega)).mono ?_
      rintro e w4 ⟨rfl, hb4⟩
      have HW4 := Lib.hid (HW3.out.trans (hb4.mono HW3.out.size)); clear hb4
      go_wp2_with fail
      go_ret2
      exact ⟨rfl, HW4.out⟩
set_option maxHeartbeats 400000 in
theorem fold_no (s : ByteArray) (w : World) (hs : s.size ≤ 9223372036854775000) (hv : foldV s.data.toList = false) :
    Calls Tryz.prog 292 #[.string s] w fun e w' => e = .returned (.tuple #[strV [], .int .i64 3]) ∧ Below w.heap.size w w' := by
  have HV := Lib.hid hv; clear hv
  go_enter Tryz.func292, Tryz.ntmps292
  go_wp2_with fail
  refine (tvalid_any s _ (by omega)).mono ?_; rw [HV.out]; rintro e w' ⟨rfl, rfl⟩
  go_wp2_with fail
  go_ret2
  exact ⟨rfl, Below.refl _ _⟩
end
section
set_option maxRecDepth 100000
open Go.RowKit
@[local go_sem] theorem toList_mk (l : List UInt8) : (⟨l.toArray⟩ : ByteArray).toList = l := by
  rw [Lib.toList_data]
attribute [local go_sem] mk_size
def tokenB (l : List UInt8) : Bool := bif l.isEmpty then false else bif decide (l.length ≤ 64) then lettersL l == l else false
set_option maxHeartbeats 400000 in
theorem token_any (l : List UInt8) (w : World) :
    Calls Tryz.prog 211 #[strV l] w fun e w' => e = .returned (.bool (tokenB l)) ∧ Below w.heap.size w w' := by
  unfold tokenB
  by_cases h0 : l = []
  · subst h0
    go_enter Tryz.func211, Tryz.ntmps211
    go_wp2
    go_ret
    exact ⟨rfl, Below.refl _ _⟩
  · have h1 : l.isEmpty = false := by simpa using h0
    have h2 : (l == []) = false := by simpa using h0
    rw [h1]
    by_cases h3 : l.length ≤ 64
    · have h4 : decide (l.length ≤ 64) = true := by simpa using h3
      have h5 : decide ((l.length : Int) ≤ 64) = true := by simp; omega
      rw [h4]
      clear h0 h4
      go_enter Tryz.func211, Tryz.ntmps211
      go_wp2_with fail
      refine (letters_any ⟨l.toArray⟩ _ (by rw [mk_size]; omega)).mono ?_
      rintro e w1 ⟨rfl, hb⟩
      go_wp2_with fail
      go_ret
      exact ⟨rfl, hb⟩
    · have h4 : decide (l.length ≤ 64) = false := by simpa using h3
      have h5 : decide ((l.length : Int) ≤ 64) = false := by simp; omega
      rw [h4]
      clear h0 h4
      go_enter Tryz.func211, Tryz.ntmps211
      go_wp2_with fail
      go_ret
      exact ⟨rfl, Below.refl _ _⟩
end
section
set_option maxRecDepth 100000
open Go.RowKit
attribute [local go_sem] toList_mk mk_size
abbrev P2 := List UInt8 × List UInt8
/-- the two cells of a rule -/
def encP (x : P2) : List Value := [strV x.1, strV x.2]
theorem pred_find (s : List UInt8) (B : Nat) (w : World) (hB : B < w.heap.size) (hcell : w.cell? ⟨B, 0, none⟩ = some (strV s)) :
    PredBelow Tryz.prog 247 #[.pointer (some ⟨B, 0, none⟩)] (fun x => .agg (encP x).toArray) (fun x => x.1 == s) w := fun W x hb => by
  have hc : W.cell? ⟨B, 0, none⟩ = some (strV s) := (hb.cell (p := ⟨B, 0, none⟩) hB).trans hcell
  have hBW : B < W.heap.size := Nat.lt_of_lt_of_le hB hb.size
  have hne : B ≠ W.heap.size := by omega
  have HBb := Lib.hid hb; clear hb hcell
  show Calls Tryz.prog 247 #[.agg #[strV x.1, strV x.2], .pointer (some ⟨B, 0, none⟩)] W _
  go_enter Tryz.func247, Tryz.ntmps247
  go_wp2
  go_ret
  exact ⟨rfl, HBb.out.alloc HBb.out.size _⟩
set_option maxHeartbeats 400000 in
theorem idxP_nil (a : Option Addr) (c : Nat) (f : Value) (w : World) :
    Calls Tryz.prog 213 #[.slice a 0 c, f] w fun e w' => e = .returned (.int .i64 (-1)) ∧ w = w' := by
  go_enter Tryz.func213, Tryz.ntmps213
  go_wp2
  refine wp_loop_rounds 1 ?_; rw [rounds_succ]
  go_wp2
  go_ret
  exact ⟨rfl, rfl⟩
def findI (L : List P2) (s : List UInt8) : Int := Lib.idxBy (fun _ (y : P2) => y.1 == s) L default
set_option maxHeartbeats 1000000 in
theorem find_any (S : Nat → Prop) (v : Value) (L : List P2) (s : List UInt8) (w : World) (h : Vec w S 2 encP v L) (hn : L.length ≤ 1000000) :
    Calls Tryz.prog 212 #[v, strV s] w fun e w' => e = .returned (.int .i64 (findI L s)) ∧ Below w.heap.size w w' := by
  obtain ⟨a, cap, rfl, hcap, h0⟩ := h
  by_cases hz : L = []
  · subst hz
    clear h0
    go_enter Tryz.func212, Tryz.ntmps212
    go_wp2_with fail
    refine (idxP_nil a cap _ _).mono ?_
    rintro e w1 ⟨rfl, rfl⟩
    go_wp2_with fail
    go_ret
    exact ⟨rfl, (Below.refl _ _).alloc (Nat.le_refl _) _⟩
  · obtain ⟨b, off, rfl, _, hb, hc⟩ := h0 (List.length_pos_iff.2 hz)
    have eg : ∀ args w, (callFunc 247 args).run Tryz.prog w = .ok (.enter 247 args) w := enters_of Tryz.func247 (by kernel_rfl) rfl
    have hcon := AnyQ.slices_IndexFunc Tryz.laysIP 2 Tryz.isAgg151 Tryz.sizeOf151 encP (fun _ => rfl) (fun x => x.1 == s) 247 #[.pointer (some ⟨w.heap.size, 0, none⟩)] eg b off L.length cap L (w.alloc (.cells #[strV s] 9))
      (pred_find s w.heap.size _ (by simp) (by simp)) (Nat.le_refl _) (by omega) (by simp; omega) (fun j hj i u hi => by
        refine Lib.cell?_alloc_some _ ?_
        have e : L[j]? = some L[j]! := by rw [List.getElem?_eq_getElem hj, getElem!_pos L j hj]
        exact hc j _ e i u hi)
    rw [List.take_of_length_le (Nat.le_refl _)] at hcon
    have HC := Lib.hid hcon
    clear hcon hc h0
    go_enter Tryz.func212, Tryz.ntmps212
    go_wp2_with fail
    refine HC.out.mono ?_
    rintro e w1 ⟨rfl, hb1⟩
    go_wp2_with fail
    go_ret
    exact ⟨rfl, ((Below.refl _ w).alloc (Nat.le_refl _) _).trans (hb1.mono (by simp))⟩
end
section
set_option maxRecDepth 100000
open Go.RowKit
attribute [local go_sem] toList_mk mk_size
def ltB (a b : List UInt8) : Bool := Op.bytesLess a b
/-- entry j is right, and greater than the one before -/
def titleAt (L : List (List UInt8)) (j : Nat) : Bool := tokenB (L.getD j []) && (decide (j = 0) || ltB (L.getD (j - 1) []) (L.getD j []))
def titlesB (L : List (List UInt8)) : Bool := (List.range L.length).all (titleAt L)
def pairAtB (L : List P2) (j : Nat) : Bool := tokenB (L.getD j default).1 && tokenB (L.getD j default).2 && (decide (j = 0) || ltB (L.getD (j - 1) default).1 (L.getD j default).1) && decide (findI L (L.getD j default).2 < 0)
def pairsB (L : List P2) : Bool := (List.range L.length).all (pairAtB L)
theorem all_false {n : Nat} {p : Nat → Bool} {k : Nat} (hk : k < n) (h : p k = false) : (List.range n).all p = false := by
  rw [List.all_eq_false]; exact ⟨k, List.mem_range.2 hk, by simp [h]⟩
theorem all_true {n : Nat} {p : Nat → Bool} (h : ∀ j, j < n → p j = true) : (List.range n).all p = true := by
  rw [List.all_eq_true]; intro j hj; exact h j (List.mem_range.1 hj)
theorem vec_cell1 {w : World} {S : Nat → Prop} {a : Option Addr} {n cap : Nat} {L : List (List UInt8)} (h : Vec w S 1 encS (.slice a n cap) L) (h0 : 0 < L.length) : ∃ b off, a = some ⟨b, off, none⟩ ∧ S b ∧ b < w.heap.size ∧ ∀ j, j < L.length → w.cell? ⟨b, off + j, none⟩ = some (strV (L.getD j [])) := by
  obtain ⟨a', cap', h1, h2, h3⟩ := h
  cases h1
  obtain ⟨b, off, h4, hS, h5, h6⟩ := h3 h0
  refine ⟨b, off, h4, hS, h5, fun j hj => ?_⟩
  have := h6 j L[j] (List.getElem?_eq_getElem hj) 0 _ rfl
  rw [List.getD, List.getElem?_eq_getElem hj]
  simpa using this
set_option maxHeartbeats 1000000 in
theorem titles_any (S : Nat → Prop) (v : Value) (L : List (List UInt8)) (w : World) (h : Vec w S 1 encS v L) (hn : L.length ≤ 1000000) :
    Calls Tryz.prog 156 #[v] w fun e w' => e = .returned (.bool (titlesB L)) ∧ Below w.heap.size w w' := by
  obtain ⟨a, cap, rfl⟩ := h.slice
  by_cases hz : L = []
  · subst hz
    clear h
    go_enter Tryz.func156, Tryz.ntmps156
    go_wp2
    refine wp_loop_rounds 1 ?_; rw [rounds_succ]
    go_wp2
    go_ret
    exact ⟨rfl, Below.refl _ _⟩
  · obtain ⟨b, off, rfl, _, hb, hc⟩ := vec_cell1 h (List.length_pos_iff.2 hz)
    have HC := Lib.hid hc; clear hc h hz
    go_enter Tryz.func156, Tryz.ntmps156
    go_wp2_with fail
    go_loopw [7] (fun i wr => ∃ k : Nat, k ≤ L.length ∧ i = .int .i64 k ∧ Below w.heap.size w wr ∧ ∀ j, j < k → titleAt L j = true) (fun i _ => L.length - (intOf i).toNat)
    case atStart => exact ⟨0, by omega, rfl, Below.refl _ _, fun j hj => by omega⟩
    case round =>
      obtain ⟨k, hk, rfl, hbw, ha⟩ := hrel
      have HA := Lib.hid ha; clear ha
      by_cases hlt : k < L.length
      · have hq : decide ((k : Int) < L.length) = true := by simp; omega
        have hi : (k : Int) < (L.length : Int) := by omega
        have c1 : wr.cell? ⟨b, off + k, none⟩ = some (strV (L.getD k [])) := (hbw.cell (p := ⟨b, off + k, none⟩) hb).trans (HC.out k hlt)
        have HW := Lib.hid hbw; clear hbw
        obtain ⟨x, hx⟩ : ∃ x, L.getD k [] = x := ⟨_, rfl⟩
        rw [hx] at c1
        have HX := Lib.hid hx; clear hx
        go_wp2_with fail
        refine (token_any x _).mono ?_
        rintro e w2 ⟨rfl, hb2⟩
        have HW2 := Lib.hid (HW.out.trans (hb2.mono HW.out.size)); clear hb2 HW c1
        cases ht : tokenB x
        · have HT := Lib.hid (show titleAt L k = false by simp only [titleAt]; rw [HX.out, ht]; rfl); clear ht
          go_wp2_with fail
          go_ret
          exact ⟨ret_bool (by rw [titlesB, all_false hlt HT.out]), HW2.out⟩
        · by_cases hk0 : k = 0
          · subst hk0
            have HT := Lib.hid (show titleAt L 0 = true by simp only [titleAt]; rw [HX.out, ht]; rfl)
            clear ht
            go_wp2_with fail
            go_roundw
            case rel => exact ⟨1, by omega, by go_num, HW2.out, fun j hj => by (obtain rfl : j = 0 := by omega); exact HT.out⟩
            case measure => simp [intOf]; omega
          · obtain ⟨m, rfl⟩ : ∃ m, k = m + 1 := ⟨k - 1, by omega⟩
            have c2 : w2.cell? ⟨b, off + m, none⟩ = some (strV (L.getD m [])) := (HW2.out.cell (p := ⟨b, off + m, none⟩) hb).trans (HC.out m (by omega))
            obtain ⟨y, hy⟩ : ∃ y, L.getD m [] = y := ⟨_, rfl⟩
            rw [hy] at c2
            have HT := Lib.hid (show titleAt L (m + 1) = Op.bytesLess y x by simp only [titleAt, Nat.add_sub_cancel]; rw [HX.out, hy, ht]; simp [ltB])
            clear ht hy hk0
            cases hl : Op.bytesLess y x
            · rw [hl] at HT
              go_wp2_with fail
              go_ret
              exact ⟨ret_bool (by rw [titlesB, all_false hlt HT.out]), HW2.out⟩
            · rw [hl] at HT
              go_wp2_with fail
              go_roundw
              case rel => exact ⟨m + 2, by omega, by go_num, HW2.out, fun j hj => by
                by_cases e : j = m + 1
                · subst e; exact HT.out
                · exact HA.out j (by omega)⟩
              case measure => simp [intOf]; omega
      · have hq : decide ((k : Int) < L.length) = false := by simp; omega
        have HW := Lib.hid hbw; clear hbw
        go_wp2_with fail
        go_ret
        exact ⟨ret_bool (by rw [titlesB, all_true fun j hj => HA.out j (by omega)]), HW.out⟩
theorem vec_cell2 {α : Type} [Inhabited α] {enc : α → List Value} {w : World} {S : Nat → Prop} {a : Option Addr} {n cap : Nat} {L : List α} (h : Vec w S 2 enc (.slice a n cap) L) (h0 : 0 < L.length) : ∃ b off, a = some ⟨b, off, none⟩ ∧ S b ∧ b < w.heap.size ∧ ∀ j, j < L.length → ∀ i u, (enc (L.getD j default))[i]? = some u → w.cell? ⟨b, off + j * 2 + i, none⟩ = some u := by
  obtain ⟨a', cap', h1, h2, h3⟩ := h
  cases h1
  obtain ⟨b, off, h4, hS, h5, h6⟩ := h3 h0
  refine ⟨b, off, h4, hS, h5, fun j hj i u hu => ?_⟩
  rw [List.getD, List.getElem?_eq_getElem hj] at hu
  exact h6 j L[j] (List.getElem?_eq_getElem hj) i u hu
/-- a contract that makes memory alone, in whatever world behind w -/
theorem in_regrown {P : Program} {f : FuncId} {args : Array Value} {v : Value} (w : World) (h : ∀ W, Below w.heap.size w W → Calls P f args W fun e w' => e = .returned v ∧ Below W.heap.size W w') :
    ∀ d os, Calls P f args (Sort.grow (redrawn w d) os) fun e w'' => e = .returned v ∧ ∃ p : Regrown, w'' = Sort.grow (redrawn w p.d) p.os := fun d os => Calls.regrown_of (h _ (below_regrown w d os))
theorem find_in (v : Value) (L : List P2) (s : List UInt8) (w : World) (h : Vec w Any1 2 encP v L) (hn : L.length ≤ 1000000) (W : World) (hb : Below w.heap.size w W) : Calls Tryz.prog 212 #[v, strV s] W fun e w' => e = .returned (.int .i64 (findI L s)) ∧ Below W.heap.size W w' :=
  find_any Any1 v L s W (h.below hb) hn
set_option maxHeartbeats 4000000 in
theorem pairs_any (S : Nat → Prop) (v : Value) (L : List P2) (w : World) (h : Vec w S 2 encP v L) (hn : L.length ≤ 1000000) :
    Calls Tryz.prog 157 #[v] w fun e w' => e = .returned (.bool (pairsB L)) ∧ Below w.heap.size w w' := by
  obtain ⟨a, cap, rfl⟩ := h.slice
  by_cases hz : L = []
  · subst hz
    clear h
    go_enter Tryz.func157, Tryz.ntmps157
    go_wp2
    refine wp_loop_rounds 1 ?_; rw [rounds_succ]
    go_wp2
    go_ret
    exact ⟨rfl, Below.refl _ _⟩
  · have HV := Lib.hid h.any
    obtain ⟨b, off, rfl, _, hb, hc⟩ := vec_cell2 h (List.length_pos_iff.2 hz)
    have HC := Lib.hid hc; clear hc h hz
    go_enter Tryz.func157, Tryz.ntmps157
    go_wp2_with fail
    go_loopw [7] (fun i wr => ∃ k : Nat, k ≤ L.length ∧ i = .int .i64 k ∧ Below w.heap.size w wr ∧ ∀ j, j < k → pairAtB L j = true) (fun i _ => L.length - (intOf i).toNat)
    case atStart => exact ⟨0, by omega, rfl, Below.refl _ _, fun j hj => by omega⟩
    case round =>
      obtain ⟨k, hk, rfl, hbw, ha⟩ := hrel
      have HA := Lib.hid ha; clear ha
      by_cases hlt : k < L.length
      · have hq : decide ((k : Int) < L.length) = true := by simp; omega
        have hi : (k : Int) < (L.length : Int) := by omega
        obtain ⟨x, hx⟩ : ∃ x, L.getD k default = x := ⟨_, rfl⟩
        have hc := HC.out k hlt
        rw [hx] at hc
        have c0 : wr.cell? ⟨b, off + k * 2, none⟩ = some (strV x.1) := (hbw.cell (p := ⟨b, off + k * 2, none⟩) hb).trans (hc 0 _ rfl)
        have c1 : wr.cell? ⟨b, off + k * 2 + 1, none⟩ = some (strV x.2) := (hbw.cell (p := ⟨b, off + k * 2 + 1, none⟩) hb).trans (hc 1 _ rfl)
        have HX := Lib.hid hx; clear hx hc
        have HW := Lib.hid hbw; clear hbw
        go_wp2_with fail
        refine wp_world (fun wS hS => ?_)
        obtain ⟨xf, xt⟩ := x
        have bS : Below wr.heap.size wr wS := by rw [hS]; exact (Below.refl _ _).alloc (Nat.le_refl _) _
        have k0 := cell_regrown (show wS.cell? ⟨wr.heap.size, 0, none⟩ = some (strV xf) by rw [hS]; simp)
        have k1 := cell_regrown (show wS.cell? ⟨wr.heap.size, 1, none⟩ = some (strV xt) by rw [hS]; simp)
        have HWS := Lib.hid (HW.out.trans (bS.mono HW.out.size))
        clear bS hS c0 c1 HW
        have cT1 := in_regrown wS (fun W _ => token_any xf W)
        have cT2 := in_regrown wS (fun W _ => token_any xt W)
        have cF := in_regrown wS (find_in _ L xt wS (HV.out.below HWS.out) hn)
        have hpa : pairAtB L k = (tokenB xf && tokenB xt && (decide (k = 0) || ltB (L.getD (k - 1) default).1 xf) && decide (findI L xt < 0)) := by simp only [pairAtB]; rw [HX.out]
        generalize findI L xt = n at *
        cases ht1 : tokenB xf
        · rw [ht1] at cT1 hpa
          have HF := Lib.hid (show pairAtB L k = false by rw [hpa]; rfl)
          clear ht1 hpa
          go_wp2_with fail
          refine wp_region_quiet_below (by kernel_rfl) (by kernel_rfl) ?_
          repeat (go_big_quiet_step (first | with_reducible exact cT1 _ _ | with_reducible exact cT2 _ _ | with_reducible exact cF _ _))
          refine wpQuiet_nil ?_
          intro _ hw'
          obtain ⟨⟨dq, osq⟩, hw''⟩ := hw'
          subst hw''
          have HW3 := Lib.hid (HWS.out.trans ((below_regrown wS dq osq).mono HWS.out.size))
          go_wp2_with fail
          go_ret
          exact ⟨ret_bool (by rw [pairsB, all_false hlt HF.out]), HW3.out⟩
        · rw [ht1] at cT1 hpa
          clear ht1
          cases ht2 : tokenB xt
          · rw [ht2] at cT2 hpa
            have HF := Lib.hid (show pairAtB L k = false by rw [hpa]; rfl)
            clear ht2 hpa
            go_wp2_with fail
            refine wp_region_quiet_below (by kernel_rfl) (by kernel_rfl) ?_
            repeat (go_big_quiet_step (first | with_reducible exact cT1 _ _ | with_reducible exact cT2 _ _ | with_reducible exact cF _ _))
            refine wpQuiet_nil ?_
            intro _ hw'
            obtain ⟨⟨dq, osq⟩, hw''⟩ := hw'
            subst hw''
            have HW3 := Lib.hid (HWS.out.trans ((below_regrown wS dq osq).mono HWS.out.size))
            go_wp2_with fail
            go_ret
            exact ⟨ret_bool (by rw [pairsB, all_false hlt HF.out]), HW3.out⟩
          · rw [ht2] at cT2 hpa
            clear ht2
            by_cases hk0 : k = 0
            · subst hk0
              by_cases hneg : n < 0
              · have HF := Lib.hid (show pairAtB L 0 = true by rw [hpa]; simp [hneg])
                clear hpa
                go_wp2_with fail
                refine wp_region_quiet_below (by kernel_rfl) (by kernel_rfl) ?_
                repeat (go_big_quiet_step (first | with_reducible exact cT1 _ _ | with_reducible exact cT2 _ _ | with_reducible exact cF _ _))
                refine wpQuiet_nil ?_
                intro _ hw'
                obtain ⟨⟨dq, osq⟩, hw''⟩ := hw'
                subst hw''
                have HW3 := Lib.hid (HWS.out.trans ((below_regrown wS dq osq).mono HWS.out.size))
                go_wp2_with fail
                go_roundw
                case rel => exact ⟨1, by omega, by go_num, HW3.out, fun j hj => by
                  by_cases e : j = 0
                  · subst e; exact HF.out
                  · exact HA.out j (by omega)⟩
                case measure => simp [intOf]; omega
              · have HF := Lib.hid (show pairAtB L 0 = false by rw [hpa]; simp [hneg])
                have hnn : 0 ≤ n := by omega
                clear hpa
                go_wp2_with fail
                refine wp_region_quiet_below (by kernel_rfl) (by kernel_rfl) ?_
                repeat (go_big_quiet_step (first | with_reducible exact cT1 _ _ | with_reducible exact cT2 _ _ | with_reducible exact cF _ _))
                refine wpQuiet_nil ?_
                intro _ hw'
                obtain ⟨⟨dq, osq⟩, hw''⟩ := hw'
                subst hw''
                have HW3 := Lib.hid (HWS.out.trans ((below_regrown wS dq osq).mono HWS.out.size))
                go_wp2_with fail
                go_ret
                exact ⟨ret_bool (by rw [pairsB, all_false hlt HF.out]), HW3.out⟩
            · obtain ⟨m, rfl⟩ : ∃ m, k = m + 1 := ⟨k - 1, by omega⟩
              obtain ⟨y, hy⟩ : ∃ y, L.getD m default = y := ⟨_, rfl⟩
              have hcy := HC.out m (by omega)
              rw [hy] at hcy
              have k2 := cell_regrown (show wS.cell? ⟨b, off + m * 2, none⟩ = some (strV y.1) from (HWS.out.cell (p := ⟨b, off + m * 2, none⟩) hb).trans (hcy 0 _ rfl))
              rw [Nat.add_sub_cancel, hy] at hpa
              clear hcy hy hk0
              obtain ⟨yf, yt⟩ := y
              dsimp only at k2 hpa
              unfold ltB at hpa
              cases hl : Op.bytesLess yf xf
              · rw [hl] at hpa
                have HF := Lib.hid (show pairAtB L (m + 1) = false by rw [hpa]; simp)
                clear hpa
                go_wp2_with fail
                refine wp_region_quiet_below (by kernel_rfl) (by kernel_rfl) ?_
                repeat (go_big_quiet_step (first | with_reducible exact cT1 _ _ | with_reducible exact cT2 _ _ | with_reducible exact cF _ _))
                refine wpQuiet_nil ?_
                intro _ hw'
                obtain ⟨⟨dq, osq⟩, hw''⟩ := hw'
                subst hw''
                have HW3 := Lib.hid (HWS.out.trans ((below_regrown wS dq osq).mono HWS.out.size))
                go_wp2_with fail
                go_ret
                exact ⟨ret_bool (by rw [pairsB, all_false hlt HF.out]), HW3.out⟩
              · rw [hl] at hpa
                by_cases hneg : n < 0
                · have HF := Lib.hid (show pairAtB L (m + 1) = true by rw [hpa]; simp [hneg])
                  clear hpa
                  go_wp2_with fail
                  refine wp_region_quiet_below (by kernel_rfl) (by kernel_rfl) ?_
                  repeat (go_big_quiet_step (first | with_reducible exact cT1 _ _ | with_reducible exact cT2 _ _ | with_reducible exact cF _ _))
                  refine wpQuiet_nil ?_
                  intro _ hw'
                  obtain ⟨⟨dq, osq⟩, hw''⟩ := hw'
                  subst hw''
                  have HW3 := Lib.hid (HWS.out.trans ((below_regrown wS dq osq).mono HWS.out.size))
                  go_wp2_with fail
                  go_roundw
                  case rel => exact ⟨m + 2, by omega, by go_num, HW3.out, fun j hj => by
                    by_cases e : j = m + 1
                    · subst e; exact HF.out
                    · exact HA.out j (by omega)⟩
                  case measure => simp [intOf]; omega
                · have HF := Lib.hid (show pairAtB L (m + 1) = false by rw [hpa]; simp [hneg])
                  have hnn : 0 ≤ n := by omega
                  clear hpa
                  go_wp2_with fail
                  refine wp_region_quiet_below (by kernel_rfl) (by kernel_rfl) ?_
                  repeat (go_big_quiet_step (first | with_reducible exact cT1 _ _ | with_reducible exact cT2 _ _ | with_reducible exact cF _ _))
                  refine wpQuiet_nil ?_
                  intro _ hw'
                  obtain ⟨⟨dq, osq⟩, hw''⟩ := hw'
                  subst hw''
                  have HW3 := Lib.hid (HWS.out.trans ((below_regrown wS dq osq).mono HWS.out.size))
                  go_wp2_with fail
                  go_ret
                  exact ⟨ret_bool (by rw [pairsB, all_false hlt HF.out]), HW3.out⟩
      · have hq : decide ((k : Int) < L.length) = false := by simp; omega
        have HW := Lib.hid hbw; clear hbw
        go_wp2_with fail
        go_ret
        exact ⟨ret_bool (by rw [pairsB, all_true fun j hj => HA.out j (by omega)]), HW.out⟩
end
section
set_option maxRecDepth 100000
open Go.RowKit
attribute [local go_sem] toList_mk mk_size
structure RulesL where
  titles : List (List UInt8)
  nicks : List P2
  streets : List P2
def RulesAt (w : World) (S : Nat → Prop) (vt vn vs : Value) (r : RulesL) : Prop := Vec w S 1 encS vt r.titles ∧ Vec w S 2 encP vn r.nicks ∧ Vec w S 2 encP vs r.streets
theorem RulesAt.below {w w' : World} {S : Nat → Prop} {vt vn vs : Value} {r : RulesL} (h : RulesAt w S vt vn vs r) (hb : Below w.heap.size w w') : RulesAt w' S vt vn vs r := ⟨h.1.below hb, h.2.1.below hb, h.2.2.below hb⟩
theorem RulesAt.any {w : World} {S : Nat → Prop} {vt vn vs : Value} {r : RulesL} (h : RulesAt w S vt vn vs r) : RulesAt w Any1 vt vn vs r := ⟨h.1.any, h.2.1.any, h.2.2.any⟩
def hasB (L : List (List UInt8)) (s : List UInt8) : Bool := L.any fun x => x == s
theorem mkS_inj {a b : List UInt8} (h : mkS a = mkS b) : a = b := by
  have := congrArg (fun s : ByteArray => s.data.toList) h
  simpa [mkS] using this
theorem contains_has (L : List (List UInt8)) (s : List UInt8) : Lib.containsS (L.map mkS) (mkS s) = hasB L s := by
  rw [Bool.eq_iff_iff, Lib.containsS_iff]
  unfold hasB
  rw [List.any_eq_true]
  constructor
  · intro h
    obtain ⟨x, hx, he⟩ := List.mem_map.1 h
    have : x = s := mkS_inj he
    subst this
    exact ⟨x, hx, by simp⟩
  · rintro ⟨x, hx, he⟩
    have : x = s := by simpa using he
    subst this
    exact List.mem_map.2 ⟨x, hx, rfl⟩
theorem contains_any (S : Nat → Prop) (v : Value) (L : List (List UInt8)) (s : List UInt8) (w : World) (h : Vec w S 1 encS v L) (hn : L.length ≤ 1000000) :
    Calls Tryz.prog 120 #[v, strV s] w fun e w' => e = .returned (.bool (hasB L s)) ∧ w = w' := by
  obtain ⟨a, cap, rfl⟩ := h.slice
  by_cases hz : L = []
  · subst hz
    exact (Tryz.slices_Contains_string_empty a cap (mkS s) w).mono fun e w' ⟨he, hw⟩ => ⟨he, hw.symm⟩
  · obtain ⟨b, off, rfl, _, hb, hc⟩ := vec_cell1 h (List.length_pos_iff.2 hz)
    have := Tryz.slices_Contains_string b off L.length cap (L.map mkS) (mkS s) w (by simp) (by omega) (fun j hj => by
      have hj' : j < L.length := by simpa using hj
      rw [hc j hj', List.getD, List.getD, List.getElem?_map, List.getElem?_eq_getElem hj']; rfl)
    rw [List.take_of_length_le (by simp), contains_has] at this
    exact this.mono fun e w' ⟨he, hw⟩ => ⟨he, hw.symm⟩
set_option maxHeartbeats 400000 in
theorem dropped_any (S : Nat → Prop) (vt vn vs : Value) (L : List (List UInt8)) (s : List UInt8) (w : World) (h : Vec w S 1 encS vt L) (hn : L.length ≤ 1000000) :
    Calls Tryz.prog 160 #[.agg #[vt, vn, vs], strV s] w fun e w' => e = .returned (.bool (hasB L s)) ∧ Below w.heap.size w w' := by
  have HV := Lib.hid h; clear h
  go_enter Tryz.func160, Tryz.ntmps160
  go_wp2_with fail
  refine (contains_any S vt L s _ (HV.out.below ((Below.refl _ _).alloc (Nat.le_refl _) _)) hn).mono ?_
  rintro e w1 ⟨rfl, rfl⟩
  go_wp2_with fail
  go_ret
  exact ⟨rfl, (Below.refl _ _).alloc (Nat.le_refl _) _⟩
theorem pred_check (vt vn vs : Value) (L : List (List UInt8)) (B : Nat) (w : World) (hL : Vec w Any1 1 encS vt L) (hn : L.length ≤ 1000000) (hB : B < w.heap.size) (h0 : w.cell? ⟨B, 0, none⟩ = some vt) (h1 : w.cell? ⟨B, 1, none⟩ = some vn) (h2 : w.cell? ⟨B, 2, none⟩ = some vs) :
    PredBelow Tryz.prog 159 #[.pointer (some ⟨B, 0, none⟩)] (fun x => .agg (encP x).toArray) (fun x => hasB L x.2) w := fun W x hb => by
  have c0 : W.cell? ⟨B, 0, none⟩ = some vt := (hb.cell (p := ⟨B, 0, none⟩) hB).trans h0
  have c1 : W.cell? ⟨B, 1, none⟩ = some vn := (hb.cell (p := ⟨B, 1, none⟩) hB).trans h1
  have c2 : W.cell? ⟨B, 2, none⟩ = some vs := (hb.cell (p := ⟨B, 2, none⟩) hB).trans h2
  have hBW : B < W.heap.size := Nat.lt_of_lt_of_le hB hb.size
  have hne : B ≠ W.heap.size := by omega
  have HV := Lib.hid (hL.below hb)
  have HBb := Lib.hid hb; clear hb h0 h1 h2 hL
  obtain ⟨xf, xt⟩ := x
  show Calls Tryz.prog 159 #[.agg #[strV xf, strV xt], .pointer (some ⟨B, 0, none⟩)] W _
  go_enter Tryz.func159, Tryz.ntmps159
  go_wp2_with fail
  refine (dropped_any Any1 vt vn vs L xt _ (HV.out.below ((Below.refl _ _).alloc (Nat.le_refl _) _)) hn).mono ?_
  rintro e w1 ⟨rfl, hb1⟩
  go_wp2_with fail
  go_ret
  exact ⟨rfl, (HBb.out.alloc HBb.out.size _).trans (hb1.mono (by have := HBb.out.size; simp; omega))⟩
set_option maxHeartbeats 400000 in
theorem contP_nil (a : Option Addr) (c : Nat) (f : Value) (w : World) :
    Calls Tryz.prog 158 #[.slice a 0 c, f] w fun e w' => e = .returned (.bool false) ∧ w = w' := by
  go_enter Tryz.func158, Tryz.ntmps158
  go_wp2_with fail
  refine (idxP_nil a c _ _).mono ?_
  rintro e w1 ⟨rfl, rfl⟩
  go_wp2_with fail
  go_ret
  exact ⟨rfl, rfl⟩
theorem contP_any (p : P2 → Bool) (g : Nat) (lb : Array Value) (eg : ∀ args w, (callFunc g args).run Tryz.prog w = .ok (.enter g args) w) (S : Nat → Prop) (v : Value) (L : List P2) (w : World) (h : Vec w S 2 encP v L) (hn : L.length ≤ 1000000) (hp : PredBelow Tryz.prog g lb (fun x => .agg (encP x).toArray) p w) :
    Calls Tryz.prog 158 #[v, .func (.func g) #[] lb] w fun e w' => e = .returned (.bool (L.any p)) ∧ Below w.heap.size w w' := by
  obtain ⟨a, cap, rfl, hcap, h0⟩ := h
  by_cases hz : L = []
  · subst hz
    exact (contP_nil a cap _ w).mono fun e w' ⟨he, hw⟩ => ⟨he, by rw [← hw]; exact Below.refl _ _⟩
  · obtain ⟨b, off, rfl, _, hb, hc⟩ := h0 (List.length_pos_iff.2 hz)
    have hcon := AnyQ.slices_ContainsFunc Tryz.laysCP 2 Tryz.isAgg151 Tryz.sizeOf151 encP (fun _ => rfl) p g lb eg b off L.length cap L w hp (Nat.le_refl _) (by omega) hb (fun j hj i u hi => by
        have e : L[j]? = some L[j]! := by rw [List.getElem?_eq_getElem hj, getElem!_pos L j hj]
        exact hc j _ e i u hi)
    rw [List.take_of_length_le (Nat.le_refl _)] at hcon
    exact hcon
def checkR (r : RulesL) : Int :=
  if 32 < r.titles.length ∨ 32 < r.nicks.length ∨ 32 < r.streets.length then 1
  else if titlesB r.titles = true ∧ pairsB r.nicks = true ∧ pairsB r.streets = true then (if (r.nicks.any fun x => hasB r.titles x.2) = true then 5 else 0) else 5
set_option maxHeartbeats 2000000 in
theorem rcheck_any (S : Nat → Prop) (vt vn vs : Value) (r : RulesL) (w : World) (h : RulesAt w S vt vn vs r) :
    Calls Tryz.prog 106 #[.agg #[vt, vn, vs]] w fun e w' => e = .returned (.int .i64 (checkR r)) ∧ Below w.heap.size w w' := by
  obtain ⟨lt, ln, ls⟩ := r
  obtain ⟨h1, h2, h3⟩ := h
  dsimp only at h1 h2 h3
  obtain ⟨at1, ct, rfl⟩ := h1.slice
  obtain ⟨an, cn, rfl⟩ := h2.slice
  obtain ⟨as', cs, rfl⟩ := h3.slice
  have H1 := Lib.hid h1.any; have H2 := Lib.hid h2.any; have H3 := Lib.hid h3.any
  clear h1 h2 h3
  have hfin : ∀ n : Int, checkR ⟨lt, ln, ls⟩ = n → Ending.returned (.int .i64 n) = .returned (.int .i64 (checkR ⟨lt, ln, ls⟩)) := fun n h => by rw [h]
  have HF := Lib.hid hfin; clear hfin
  by_cases g1 : 32 < lt.length
  · have e1 : decide ((32 : Int) < lt.length) = true := by simp; omega
    go_enter Tryz.func106, Tryz.ntmps106
    go_wp2_with fail
    go_ret
    exact ⟨HF.out 1 (by unfold checkR; rw [if_pos (.inl g1)]), (Below.refl _ _).alloc (Nat.le_refl _) _⟩
  · have e1 : decide ((32 : Int) < lt.length) = false := by simp; omega
    by_cases g2 : 32 < ln.length
    · have e2 : decide ((32 : Int) < ln.length) = true := by simp; omega
      go_enter Tryz.func106, Tryz.ntmps106
      go_wp2_with fail
      go_ret
      exact ⟨HF.out 1 (by unfold checkR; rw [if_pos (.inr (.inl g2))]), (Below.refl _ _).alloc (Nat.le_refl _) _⟩
    · have e2 : decide ((32 : Int) < ln.length) = false := by simp; omega
      by_cases g3 : 32 < ls.length
      · have e3 : decide ((32 : Int) < ls.length) = true := by simp; omega
        go_enter Tryz.func106, Tryz.ntmps106
        go_wp2_with fail
        go_ret
        exact ⟨HF.out 1 (by unfold checkR; rw [if_pos (.inr (.inr g3))]), (Below.refl _ _).alloc (Nat.le_refl _) _⟩
      · have e3 : decide ((32 : Int) < ls.length) = false := by simp; omega
        go_enter Tryz.func106, Tryz.ntmps106
        go_wp2_with fail
        clear e1 e2 e3
        refine (titles_any Any1 _ lt _ (H1.out.below ((Below.refl _ _).alloc (Nat.le_refl _) _)) (by omega)).mono ?_
        rintro e w1 ⟨rfl, hb1⟩
        have X1 : w1.heap[w.heap.size]? = some (.cells #[.slice at1 lt.length ct, .slice an ln.length cn, .slice as' ls.length cs] 41 (0, 0)) := blk_below hb1 (by simp) (blk_new rfl)
        obtain ⟨p0, p1, p2⟩ := cells3 X1
        have z1 := lt_of_blk X1
        have HB1 := Lib.hid (((Below.refl w.heap.size w).alloc (Nat.le_refl _) _).trans (hb1.mono (by simp)))
        have HX1 := Lib.hid X1; clear X1 hb1
        cases ht : titlesB lt
        · have HT := Lib.hid ht; clear ht
          go_wp2_with fail
          go_ret
          exact ⟨HF.out 5 (by unfold checkR; rw [if_neg (show ¬ (32 < lt.length ∨ 32 < ln.length ∨ 32 < ls.length) by omega), HT.out]; simp), HB1.out⟩
        · have HT := Lib.hid ht; clear ht
          go_wp2_with fail
          refine (pairs_any Any1 _ ln _ (H2.out.below HB1.out) (by omega)).mono ?_
          rintro e w2 ⟨rfl, hb2⟩
          clear p0 p1 p2
          have X2 := blk_below hb2 z1 HX1.out
          obtain ⟨p0, p1, p2⟩ := cells3 X2
          have z2 := lt_of_blk X2
          have HB2 := Lib.hid (HB1.out.trans (hb2.mono HB1.out.size))
          have HX2 := Lib.hid X2; clear X2 hb2 HX1 HB1
          cases hp : pairsB ln
          · have HP := Lib.hid hp; clear hp
            go_wp2_with fail
            go_ret
            exact ⟨HF.out 5 (by unfold checkR; rw [if_neg (show ¬ (32 < lt.length ∨ 32 < ln.length ∨ 32 < ls.length) by omega), HP.out]; simp), HB2.out⟩
          · have HP := Lib.hid hp; clear hp
            go_wp2_with fail
            refine (pairs_any Any1 _ ls _ (H3.out.below HB2.out) (by omega)).mono ?_
            rintro e w3 ⟨rfl, hb3⟩
            clear p0 p1 p2
            have X3 := blk_below hb3 z2 HX2.out
            obtain ⟨p0, p1, p2⟩ := cells3 X3
            have z3 := lt_of_blk X3
            have HB3 := Lib.hid (HB2.out.trans (hb3.mono HB2.out.size))
            have HX3 := Lib.hid X3; clear X3 hb3 HX2 HB2
            cases hq : pairsB ls
            · have HQ := Lib.hid hq; clear hq
              go_wp2_with fail
              go_ret
              exact ⟨HF.out 5 (by unfold checkR; rw [if_neg (show ¬ (32 < lt.length ∨ 32 < ln.length ∨ 32 < ls.length) by omega), HQ.out]; simp), HB3.out⟩
            · have HQ := Lib.hid hq; clear hq
              go_wp2_with fail
              have eg : ∀ args w, (callFunc 159 args).run Tryz.prog w = .ok (.enter 159 args) w := enters_of Tryz.func159 (by kernel_rfl) rfl
              refine (contP_any (fun x => hasB lt x.2) 159 #[.pointer (some ⟨w.heap.size, 0, none⟩)] eg Any1 _ ln _ (H2.out.below HB3.out) (by omega) (pred_check _ _ _ lt w.heap.size _ (H1.out.below HB3.out) (by omega) z3 p0 p1 p2)).mono ?_
              rintro e w4 ⟨rfl, hb4⟩
              have HB4 := Lib.hid (HB3.out.trans (hb4.mono HB3.out.size))
              clear hb4 eg p0 p1 p2
              cases hr : ln.any fun x => hasB lt x.2
              · have HR := Lib.hid hr; clear hr
                go_wp2_with fail
                go_ret
                exact ⟨HF.out 0 (by unfold checkR; rw [if_neg (show ¬ (32 < lt.length ∨ 32 < ln.length ∨ 32 < ls.length) by omega), if_pos ⟨HT.out, HP.out, HQ.out⟩, if_neg (by rw [HR.out]; simp)]), HB4.out⟩
              · have HR := Lib.hid hr; clear hr
                go_wp2_with fail
                go_ret
                exact ⟨HF.out 5 (by unfold checkR; rw [if_neg (show ¬ (32 < lt.length ∨ 32 < ln.length ∨ 32 < ls.length) by omega), if_pos ⟨HT.out, HP.out, HQ.out⟩, if_pos HR.out]), HB4.out⟩
end
section
set_option maxRecDepth 100000
open Go.RowKit
attribute [local go_sem] toList_mk mk_size
/-- what a token becomes by rules -/
def canonL : List P2 → List UInt8 → List UInt8
  | [], s => s
  | p :: L, s => if p.1 == s then p.2 else canonL L s
theorem canon_from (s : List UInt8) : ∀ (L : List P2) (i : Nat), (Lib.idxByFrom (fun _ (y : P2) => y.1 == s) default L i < 0 ∧ canonL L s = s) ∨ (∃ k, k < L.length ∧ Lib.idxByFrom (fun _ (y : P2) => y.1 == s) default L i = ((i + k : Nat) : Int) ∧ (L.getD k default).2 = canonL L s) := by
  intro L
  induction L with
  | nil => intro i; left; simp [Lib.idxByFrom, canonL]
  | cons p L ih =>
    intro i
    cases h : p.1 == s
    · simp only [Lib.idxByFrom, canonL, h]
      rcases ih (i + 1) with ⟨h1, h2⟩ | ⟨k, h1, h2, h3⟩
      · left; exact ⟨by simpa using h1, by simpa using h2⟩
      · right
        refine ⟨k + 1, by simp; omega, ?_, by simpa using h3⟩
        simp only [Bool.false_eq_true, if_false]
        rw [h2]; congr 1; omega
    · right
      exact ⟨0, by simp, by simp [Lib.idxByFrom, h], by simp [canonL, h]⟩
theorem canon_find (L : List P2) (s : List UInt8) : (findI L s < 0 ∧ canonL L s = s) ∨ (∃ k, k < L.length ∧ findI L s = (k : Int) ∧ (L.getD k default).2 = canonL L s) := by
  have := canon_from s L 0
  simpa [findI, Lib.idxBy] using this
set_option maxHeartbeats 1000000 in
theorem canonical_any (S : Nat → Prop) (vt vn vs : Value) (L : List P2) (s : List UInt8) (w : World) (h : Vec w S 2 encP vn L) (hn : L.length ≤ 1000000) :
    Calls Tryz.prog 293 #[.agg #[vt, vn, vs], strV s] w fun e w' => e = .returned (strV (canonL L s)) ∧ Below w.heap.size w w' := by
  obtain ⟨an, cn, rfl⟩ := h.slice
  have HV := Lib.hid h; clear h
  have hcf := canon_find L s
  go_enter Tryz.func293, Tryz.ntmps293
  go_wp2_with fail
  refine (find_any S _ L s _ (HV.out.below ((Below.refl _ _).alloc (Nat.le_refl _) _)) hn).mono ?_
  rintro e w1 ⟨rfl, hb1⟩
  have X1 : w1.heap[w.heap.size]? = some (.cells #[vt, .slice an L.length cn, vs] 41 (0, 0)) := blk_below hb1 (by simp) (blk_new rfl)
  obtain ⟨p0, p1, p2⟩ := cells3 X1
  have HB1 := Lib.hid (((Below.refl w.heap.size w).alloc (Nat.le_refl _) _).trans (hb1.mono (by simp)))
  clear X1 hb1
  rcases hcf with ⟨h1, h2⟩ | ⟨k, hk, h1, h2⟩
  · have H2 := Lib.hid h2; clear h2
    generalize findI L s = n at *
    go_wp2_with fail
    go_ret
    exact ⟨by rw [H2.out]; rfl, HB1.out⟩
  · rw [h1]
    obtain ⟨b, off, rfl, _, hb, hc⟩ := vec_cell2 HV.out (by omega)
    have hc1 := hc k hk 1 _ rfl
    rw [h2] at hc1
    have c1 : w1.cell? ⟨b, off + k * 2 + 1, none⟩ = some (strV (canonL L s)) := (HB1.out.cell (p := ⟨b, off + k * 2 + 1, none⟩) hb).trans hc1
    clear hc hc1 h1 h2
    have hk' : (k : Int) < (L.length : Int) := by omega
    obtain ⟨y, hy⟩ : ∃ y, canonL L s = y := ⟨_, rfl⟩
    rw [hy] at c1
    have HY := Lib.hid hy; clear hy
    go_wp2_with fail
    go_ret
    exact ⟨by rw [HY.out]; rfl, HB1.out⟩
theorem infoS : (Tryz.prog.info? 9).map (fun i => (i.zero, i.size, i.bytes)) = some (some (.string ⟨#[]⟩), 1, 16) := by kernel_rfl
/-- what becomes of a token: nothing, or one -/
def normTok (r : RulesL) (t : List UInt8) : List (List UInt8) := if (lettersL t).isEmpty || hasB r.titles (lettersL t) then [] else [canonL r.nicks (lettersL t)]
def nameToks (r : RulesL) (L : List (List UInt8)) : List (List UInt8) := L.flatMap (normTok r)
/-- the normal form of a name, and the error -/
def nameN (r : RulesL) (l : List UInt8) : List UInt8 × Int :=
  if checkR r = 0 then (if foldV l = true then (if 6 < (nameToks r (toks (foldL l))).length ∨ 64 < (joinL (nameToks r (toks (foldL l)))).length then ([], 1) else (joinL (nameToks r (toks (foldL l))), 0)) else ([], 3)) else ([], checkR r)
def pairV (p : List UInt8 × Int) : Value := .tuple #[strV p.1, .int .i64 p.2]
theorem nameToks_snoc (r : RulesL) (L : List (List UInt8)) (t : List UInt8) : nameToks r (L ++ [t]) = nameToks r L ++ normTok r t := by simp [nameToks]
theorem normTok_len (r : RulesL) (t : List UInt8) : (normTok r t).length ≤ 1 := by unfold normTok; split <;> simp
theorem nameToks_len (r : RulesL) (L : List (List UInt8)) : (nameToks r L).length ≤ L.length := by
  induction L with
  | nil => simp [nameToks]
  | cons t L ih =>
    have := normTok_len r t
    simp only [nameToks, List.flatMap_cons, List.length_append, List.length_cons] at *
    omega
theorem check_zero {r : RulesL} (h : checkR r = 0) : (r.titles.length ≤ 32 ∧ r.nicks.length ≤ 32 ∧ r.streets.length ≤ 32) ∧ titlesB r.titles = true ∧ pairsB r.nicks = true ∧ pairsB r.streets = true ∧ (r.nicks.any fun x => hasB r.titles x.2) = false := by
  unfold checkR at h
  split at h
  · omega
  · split at h
    · rename_i h1 h2
      split at h
      · omega
      · rename_i h3
        exact ⟨by omega, h2.1, h2.2.1, h2.2.2, by simpa using h3⟩
    · omega
theorem pairs_at {L : List P2} (h : pairsB L = true) (j : Nat) (hj : j < L.length) : pairAtB L j = true := List.all_eq_true.1 h j (List.mem_range.2 hj)
theorem token_len {t : List UInt8} (h : tokenB t = true) : t.length ≤ 64 := by
  unfold tokenB at h
  cases h1 : t.isEmpty <;> simp [h1] at h
  exact h.1
theorem canon_len {L : List P2} (h : pairsB L = true) (s : List UInt8) (hs : s.length ≤ 64) : (canonL L s).length ≤ 64 := by
  rcases canon_find L s with ⟨_, h2⟩ | ⟨k, hk, _, h3⟩
  · rw [h2]; exact hs
  · rw [← h3]
    have := pairs_at h k hk
    unfold pairAtB at this
    simp only [Bool.and_eq_true] at this
    exact token_len this.1.1.2
theorem join_le {m : Nat} : ∀ (L : List (List UInt8)), (∀ t ∈ L, t.length ≤ m) → (joinL L).length ≤ L.length * (m + 1) := by
  intro L
  induction L with
  | nil => intro _; simp [joinL]
  | cons t L ih =>
    intro h
    have h1 := ih fun t ht => h t (List.mem_cons_of_mem _ ht)
    have h2 := h t List.mem_cons_self
    by_cases hL : L = []
    · subst hL; simp [joinL]; omega
    · rw [join_cons_ne _ _ hL]
      simp only [List.length_append, List.length_cons, List.length_nil, Nat.succ_mul] at *
      omega
theorem toks_le (l : List UInt8) : ∀ p, ∀ t ∈ toksA p l, t.length ≤ p.length + l.length := by
  induction l with
  | nil =>
    intro p t ht
    simp only [toksA] at ht
    split at ht
    · simp at ht
    · simp at ht; subst ht; simp
  | cons c l ih =>
    intro p t ht
    by_cases hc : c = 32
    · subst hc
      by_cases hp : p = []
      · subst hp
        rw [toksA_sp0] at ht
        have := ih [] t ht
        simp at *; omega
      · rw [toksA_sp _ _ hp] at ht
        rcases List.mem_cons.1 ht with rfl | ht
        · simp
        · have := ih [] t ht
          simp at *; omega
    · rw [toksA_ch _ _ _ hc] at ht
      have := ih _ t ht
      simp at *; omega
theorem nameToks_le {r : RulesL} (h : pairsB r.nicks = true) {L : List (List UInt8)} (hL : ∀ t ∈ L, t.length ≤ 64) : ∀ t ∈ nameToks r L, t.length ≤ 64 := by
  intro t ht
  obtain ⟨x, hx, ht⟩ := List.mem_flatMap.1 ht
  unfold normTok at ht
  split at ht
  · simp at ht
  · simp at ht; subst ht
    exact canon_len h _ (Nat.le_trans (letters_len x) (hL x hx))
end
end Go.Proofs.YtaoebplnbcimlaaGreatDoor
