/- Parts of one proof: Shelf4, PhonB, HexA, RecSum, RecFile, RecNum, HexB, EncI, EncJ, RecParse, RecFront, RecTake, RoundRegion, ReadInv. -/
import Derived.Test.YthnfmolkppbbpaaGreatDoorPartRb8
import Derived.MapKept
import Derived.WideMake
import Derived.Shelf.Strings.SlTrimAscii
import Derived.OrdersIn
import Derived.TacticsIn
set_option linter.unusedSimpArgs false
set_option linter.unusedVariables false
section
namespace Go.Proofs
open Go.Shelf
def Tryz.lays160_ren : Go.Shelf.Ren := ⟨fun | 160 => 115 | 232 => 153 | 231 => 152 | 227 => 154 | 234 => 156 | 233 => 155 | 236 => 158 | 235 => 157 | 228 => 197 | 271 => 200 | 151 => 199 | 197 => 198 | 120 => 227 | 152 => 226 | 260 => 225 | 137 => 244 | 119 => 245 | 224 => 195 | 225 => 194 | 217 => 193 | 266 => 223 | n => n, fun | 9 => 9 | 4 => 4 | 3 => 3 | 5 => 5 | 117 => 176 | 116 => 175 | 0 => 0 | 124 => 179 | 21 => 21 | 105 => 193 | 46 => 87 | 119 => 229 | 139 => 232 | 138 => 231 | n => n, fun | 3 => 6 | 4 => 7 | n => n⟩
theorem Tryz.lays160 : Go.Proofs.Lays.n160 Tryz.prog Tryz.lays160_ren := {
  mixed := by kernel_rfl
  f119 := Tryz.func245.trans (congrArg some (by kernel_rfl))
  f120 := Tryz.func227.trans (congrArg some (by kernel_rfl))
  f137 := Tryz.func244.trans (congrArg some (by kernel_rfl))
  f151 := Tryz.func199.trans (congrArg some (by kernel_rfl))
  f152 := Tryz.func226.trans (congrArg some (by kernel_rfl))
  f160 := Tryz.func115.trans (congrArg some (by kernel_rfl))
  f197 := Tryz.func198.trans (congrArg some (by kernel_rfl))
  f217 := Tryz.func193.trans (congrArg some (by kernel_rfl))
  f224 := Tryz.func195.trans (congrArg some (by kernel_rfl))
  f225 := Tryz.func194.trans (congrArg some (by kernel_rfl))
  f227 := Tryz.func154.trans (congrArg some (by kernel_rfl))
  f228 := Tryz.func197.trans (congrArg some (by kernel_rfl))
  f231 := Tryz.func152.trans (congrArg some (by kernel_rfl))
  f232 := Tryz.func153.trans (congrArg some (by kernel_rfl))
  f233 := Tryz.func155.trans (congrArg some (by kernel_rfl))
  f234 := Tryz.func156.trans (congrArg some (by kernel_rfl))
  f235 := Tryz.func157.trans (congrArg some (by kernel_rfl))
  f236 := Tryz.func158.trans (congrArg some (by kernel_rfl))
  f260 := Tryz.func225.trans (congrArg some (by kernel_rfl))
  f266 := Tryz.func223.trans (congrArg some (by kernel_rfl))
  f271 := Tryz.func200.trans (congrArg some (by kernel_rfl))
  t0 := Tryz.underlying0
  a0 := Tryz.isAgg0
  z0 := Tryz.sizeOf0
  v0 := Tryz.zeroValue0
  t3 := Tryz.underlying3
  a3 := Tryz.isAgg3
  z3 := Tryz.sizeOf3
  v3 := Tryz.zeroValue3
  t4 := Tryz.underlying4
  a4 := Tryz.isAgg4
  z4 := Tryz.sizeOf4
  v4 := Tryz.zeroValue4
  t5 := Tryz.underlying5
  a5 := Tryz.isAgg5
  z5 := Tryz.sizeOf5
  v5 := Tryz.zeroValue5
  t9 := Tryz.underlying9
  a9 := Tryz.isAgg9
  z9 := Tryz.sizeOf9
  v9 := Tryz.zeroValue9
  t21 := Tryz.underlying21
  a21 := Tryz.isAgg21
  z21 := Tryz.sizeOf21
  v21 := Tryz.zeroValue21
  t46 := Tryz.underlying87
  a46 := Tryz.isAgg87
  z46 := Tryz.sizeOf87
  v46 := Tryz.zeroValue87
  t105 := Tryz.underlying193
  a105 := Tryz.isAgg193
  z105 := Tryz.sizeOf193
  v105 := Tryz.zeroValue193
  t116 := Tryz.underlying175
  a116 := Tryz.isAgg175
  z116 := Tryz.sizeOf175
  t117 := Tryz.underlying176
  a117 := Tryz.isAgg176
  z117 := Tryz.sizeOf176
  v117 := Tryz.zeroValue176
  t119 := Tryz.underlying229
  a119 := Tryz.isAgg229
  z119 := Tryz.sizeOf229
  t124 := Tryz.underlying179
  a124 := Tryz.isAgg179
  z124 := Tryz.sizeOf179
  v124 := Tryz.zeroValue179
  t138 := Tryz.underlying231
  a138 := Tryz.isAgg231
  z138 := Tryz.sizeOf231
  v138 := Tryz.zeroValue231
  t139 := Tryz.underlying232
  a139 := Tryz.isAgg232
  z139 := Tryz.sizeOf232
  v139 := Tryz.zeroValue232
  g3 := by kernel_rfl
  g4 := by kernel_rfl }
open Go.RowKit in
def Tryz.lays149_ren : Go.Shelf.Ren := ⟨fun | 149 => 79 | 222 => 114 | n => n, fun | 9 => 9 | 5 => 5 | 3 => 3 | 4 => 4 | n => n, fun | n => n⟩
theorem Tryz.lays149 : Go.Proofs.Lays.n149 Tryz.prog Tryz.lays149_ren := {
  mixed := by kernel_rfl
  f149 := Tryz.func79.trans (congrArg some (by kernel_rfl))
  f222 := Tryz.func114.trans (congrArg some (by kernel_rfl))
  t3 := Tryz.underlying3
  a3 := Tryz.isAgg3
  z3 := Tryz.sizeOf3
  v3 := Tryz.zeroValue3
  t4 := Tryz.underlying4
  a4 := Tryz.isAgg4
  z4 := Tryz.sizeOf4
  v4 := Tryz.zeroValue4
  t5 := Tryz.underlying5
  a5 := Tryz.isAgg5
  z5 := Tryz.sizeOf5
  v5 := Tryz.zeroValue5
  t9 := Tryz.underlying9
  a9 := Tryz.isAgg9
  z9 := Tryz.sizeOf9
  v9 := Tryz.zeroValue9 }
open Go.RowKit Go.Lib in
/-- strings.LastIndexByte: "LastIndexByte returns the index of the last instance of c in s, or -1 if c is not present in s." (LAID: no walk: one application.) -/
theorem Tryz.strings_LastIndexByte (s : ByteArray) (c : Int) (hs : s.size < 4611686018427387904) (w : World) :
    Calls Tryz.prog 79 #[.string s, .int .u8 c] w fun e w' => e = .returned (.int .i64 (Lib.lastIndexByte s c)) ∧ w' = w := Any.strings_LastIndexByte Tryz.lays149 s c hs w
def Tryz.lays105_ren : Go.Shelf.Ren := ⟨fun | 105 => 70 | 212 => 103 | 99 => 43 | 165 => 100 | 166 => 36 | 170 => 104 | 169 => 40 | 263 => 144 | 264 => 145 | 206 => 78 | 240 => 66 | 241 => 136 | 276 => 99 | 277 => 184 | n => n, fun | 9 => 9 | 3 => 3 | 4 => 4 | 20 => 20 | 0 => 0 | 46 => 87 | 109 => 134 | 5 => 5 | 72 => 71 | 76 => 74 | 51 => 164 | 146 => 165 | 53 => 63 | 148 => 167 | 70 => 68 | 37 => 69 | 75 => 73 | 127 => 110 | 164 => 130 | 80 => 78 | n => n, fun | n => n⟩
theorem Tryz.lays105 : Go.Proofs.Lays.n105 Tryz.prog Tryz.lays105_ren := {
  mixed := by kernel_rfl
  f99 := Tryz.func43.trans (congrArg some (by kernel_rfl))
  f105 := Tryz.func70.trans (congrArg some (by kernel_rfl))
  f165 := Tryz.func100.trans (congrArg some (by kernel_rfl))
  f166 := Tryz.func36.trans (congrArg some (by kernel_rfl))
  f169 := Tryz.func40.trans (congrArg some (by kernel_rfl))
  f170 := Tryz.func104.trans (congrArg some (by kernel_rfl))
  f206 := Tryz.func78.trans (congrArg some (by kernel_rfl))
  f212 := Tryz.func103.trans (congrArg some (by kernel_rfl))
  f240 := Tryz.func66.trans (congrArg some (by kernel_rfl))
  f241 := Tryz.func136.trans (congrArg some (by kernel_rfl))
  f263 := Tryz.func144.trans (congrArg some (by kernel_rfl))
  f264 := Tryz.func145.trans (congrArg some (by kernel_rfl))
  f276 := Tryz.func99.trans (congrArg some (by kernel_rfl))
  f277 := Tryz.func184.trans (congrArg some (by kernel_rfl))
  t0 := Tryz.underlying0
  a0 := Tryz.isAgg0
  z0 := Tryz.sizeOf0
  v0 := Tryz.zeroValue0
  t3 := Tryz.underlying3
  a3 := Tryz.isAgg3
  z3 := Tryz.sizeOf3
  v3 := Tryz.zeroValue3
  t4 := Tryz.underlying4
  a4 := Tryz.isAgg4
  z4 := Tryz.sizeOf4
  v4 := Tryz.zeroValue4
  t5 := Tryz.underlying5
  a5 := Tryz.isAgg5
  z5 := Tryz.sizeOf5
  v5 := Tryz.zeroValue5
  t9 := Tryz.underlying9
  a9 := Tryz.isAgg9
  z9 := Tryz.sizeOf9
  v9 := Tryz.zeroValue9
  t20 := Tryz.underlying20
  a20 := Tryz.isAgg20
  z20 := Tryz.sizeOf20
  v20 := Tryz.zeroValue20
  t37 := Tryz.underlying69
  a37 := Tryz.isAgg69
  z37 := Tryz.sizeOf69
  v37 := Tryz.zeroValue69
  t46 := Tryz.underlying87
  a46 := Tryz.isAgg87
  z46 := Tryz.sizeOf87
  v46 := Tryz.zeroValue87
  t51 := Tryz.underlying164
  a51 := Tryz.isAgg164
  z51 := Tryz.sizeOf164
  v51 := Tryz.zeroValue164
  t53 := Tryz.underlying63
  a53 := Tryz.isAgg63
  z53 := Tryz.sizeOf63
  v53 := Tryz.zeroValue63
  t70 := Tryz.underlying68
  a70 := Tryz.isAgg68
  z70 := Tryz.sizeOf68
  v70 := Tryz.zeroValue68
  t72 := Tryz.underlying71
  a72 := Tryz.isAgg71
  z72 := Tryz.sizeOf71
  v72 := Tryz.zeroValue71
  t75 := Tryz.underlying73
  a75 := Tryz.isAgg73
  z75 := Tryz.sizeOf73
  v75 := Tryz.zeroValue73
  t76 := Tryz.underlying74
  a76 := Tryz.isAgg74
  z76 := Tryz.sizeOf74
  v76 := Tryz.zeroValue74
  t109 := Tryz.underlying134
  a109 := Tryz.isAgg134
  z109 := Tryz.sizeOf134
  v109 := Tryz.zeroValue134
  t127 := Tryz.underlying110
  a127 := Tryz.isAgg110
  z127 := Tryz.sizeOf110
  v127 := Tryz.zeroValue110
  t146 := Tryz.underlying165
  a146 := Tryz.isAgg165
  z146 := Tryz.sizeOf165
  v146 := Tryz.zeroValue165
  t148 := Tryz.underlying167
  a148 := Tryz.isAgg167
  z148 := Tryz.sizeOf167
  v148 := Tryz.zeroValue167
  t164 := Tryz.underlying130
  a164 := Tryz.isAgg130
  z164 := Tryz.sizeOf130
  v164 := Tryz.zeroValue130 }
theorem Tryz.Builder_Extra_105 : Builder.Extra Tryz.prog Tryz.lays105_ren := {
  sizeBuilder := by kernel_rfl
  liesBuilder := by kernel_rfl
  t5 := Tryz.underlying5
  a5 := Tryz.isAgg5
  z5 := Tryz.sizeOf5
  v5 := Tryz.zeroValue5
  infoByte := by kernel_rfl
  cellsByte := by kernel_rfl
  sizeByte := by kernel_rfl
  neB5 := by decide }
open Go.RowKit Go.Lib in
/-- **strings.Repeat: count ≥ 0, the result within one allocation: count copies of s.** (LAID: no walk: one application.) -/
theorem Tryz.strings_Repeat (s : ByteArray) (c : Nat) (w : World) (hc : c ≤ 9223372036854775807) (hlen : s.size * c ≤ 140737488355328) :
    Calls Tryz.prog 70 #[.string s, .int .i64 c] w fun e w' => e = .returned (.string ⟨(Lib.repeatL s.data.toList c).toArray⟩) ∧ Below w.heap.size w w' := Any.strings_Repeat Tryz.lays105 Tryz.Builder_Extra_105 s c w hc hlen
end Go.Proofs
end
namespace Go.Proofs.YthnfmolkppbbpaaGreatDoor
section
set_option maxRecDepth 100000
open Go.RowKit
attribute [local go_sem] toList_mk mk_size
@[local go_sem] theorem get_zeroP (c : UInt8) (l : List UInt8) (h : 0 < (⟨(c :: l).toArray⟩ : ByteArray).size) : (⟨(c :: l).toArray⟩ : ByteArray)[0]'h = c := rfl
end
section
set_option maxRecDepth 100000
open Go.RowKit
attribute [local go_sem] toList_mk mk_size
theorem bits_range (op : BinOp) (x y : Int) : 0 ≤ bits op .u64 x y ∧ bits op .u64 x y < 18446744073709551616 := by
  unfold bits
  rw [IntKind.wrap_u64]
  constructor <;> omega
end
section
set_option maxRecDepth 100000
open Go.RowKit
attribute [local go_sem] toList_mk mk_size str_append
theorem partsP_range (ka kb : Int) (L : List (List UInt8)) : 0 ≤ partsP ka kb L ∧ partsP ka kb L < 18446744073709551616 := by
  unfold partsP sumP
  exact bits_range _ _ _
theorem repeat_zero (n : Nat) : Lib.repeatL [48] n = List.replicate n 48 := by
  induction n with
  | zero => rfl
  | succ n ih => rw [Lib.repeatL, ih]; rfl
theorem repeat_any (n : Nat) (hn : n ≤ 1000) (w : World) : Calls Tryz.prog 70 #[.string ⟨#[48]⟩, .int .i64 n] w fun e w' => e = .returned (strV (List.replicate n 48)) ∧ Below w.heap.size w w' := by
  refine (Tryz.strings_Repeat ⟨#[48]⟩ n w (by omega) (by show 1 * n ≤ _; omega)).mono ?_
  rintro e w' ⟨rfl, hb⟩
  refine ⟨?_, hb⟩
  rw [show (⟨#[48]⟩ : ByteArray).data.toList = [48] from rfl, repeat_zero]
set_option maxHeartbeats 4000000 in
theorem rsum_any' (t : List UInt8) (w : World) (ht : t.length ≤ 60000) (hdb : DbAt w) :
    Calls Tryz.prog 38 #[strV t] w fun e w' => e = .returned (strV (sumT t)) ∧ Below w.heap.size w w' := by
  obtain ⟨q, hq⟩ : ∃ q : Nat, partsP 0 0 [t] = q := Int.eq_ofNat_of_zero_le (partsP_range 0 0 [t]).1
  have hq2 : q < 18446744073709551616 := by have := (partsP_range 0 0 [t]).2; omega
  have hs : sumT t = hexN 16 q := by unfold sumT; rw [hq]; rfl
  rw [hs]
  have HD := Lib.hid hdb; have HQ := Lib.hid hq
  clear hdb hq hs
  go_enter Tryz.func38, Tryz.ntmps38
  go_wp2_with fail
  refine wp_calls_world (fun W hW => ?_)
  have hb0 : Below w.heap.size w W := by rw [hW]; exact (Below.refl w.heap.size w).alloc (Nat.le_refl _) _
  have hv : Vec W Any1 1 encS (.slice (some ⟨w.heap.size, 0, none⟩) 1 1) [t] := by rw [hW]; exact blockVec (k := 1) (enc := encS) (L := [t]) (S := Any1) (fun _ => rfl) (blk_new rfl) trivial 1 rfl
  clear hW
  refine (sparts_any Any1 0 0 _ [t] W hv (fun x hx => by simp at hx; subst hx; exact ht) (by simp)).mono ?_
  rw [HQ.out]
  rintro e w1 ⟨rfl, hb⟩
  have HB1 := Lib.hid (hb0.trans (hb.mono hb0.size))
  clear hb hb0 hv
  go_wp2_with fail
  refine (fuint_any q hq2 w1 (HD.out.old HB1.out)).mono ?_
  rintro e w2 ⟨⟨k, k1, k2, hk, rfl⟩, hb⟩
  have HB2 := Lib.hid (HB1.out.trans (hb.mono HB1.out.size))
  have hpad := hexN_pad k2 hk
  have hlen := hexN_len k q
  obtain ⟨z, hz⟩ : ∃ z, hexN k q = z := ⟨_, rfl⟩
  rw [hz] at hpad hlen ⊢
  obtain ⟨j, hj⟩ : ∃ j, 16 - k = j := ⟨_, rfl⟩
  have hwl : IntKind.i64.wrap (16 - (z.length : Int)) = (j : Int) := by rw [hlen, IntKind.wrap_i64]; omega
  have hzl : z.length ≤ 16 := by omega
  rw [hj] at hpad
  have hj16 : j ≤ 16 := by omega
  have hl1 : (List.replicate j (48 : UInt8)).length = j := List.length_replicate
  obtain ⟨y, hy⟩ : ∃ y, List.replicate j (48 : UInt8) = y := ⟨_, rfl⟩
  have hrep := fun w => repeat_any j (by omega) w
  rw [hy] at hl1 hrep hpad
  have hyl : y.length ≤ 16 := by omega
  have HRp := Lib.hid hrep; have HP := Lib.hid hpad; have HW := Lib.hid hwl
  have hno : ¬ 9223372036854775807 < y.length + z.length := by omega
  clear hb hpad hz hj hy hrep hk k1 k2 hlen hl1 hwl
  have hwl := HW.out
  go_wp2_with fail
  clear hwl
  refine (HRp.out _).mono ?_
  rintro e w3 ⟨rfl, hb⟩
  have HB3 := Lib.hid (HB2.out.trans (hb.mono HB2.out.size))
  clear hb
  go_wp2_with fail
  go_ret
  exact ⟨by rw [← HP.out]; rfl, HB3.out⟩
theorem hex_cut (c : UInt8) : hexD.contains c = (valH c).isSome := by
  have : ∀ n : Fin 256, hexD.contains (UInt8.ofNat n.val) = (valH (UInt8.ofNat n.val)).isSome := by decide +kernel
  have h := this ⟨c.toNat, c.toNat_lt⟩
  simpa using h
theorem drop_all {p : UInt8 → Bool} : ∀ (l : List UInt8), l.dropWhile p = [] ↔ l.all p = true
  | [] => by simp
  | x :: l => by
    rw [List.dropWhile_cons, List.all_cons]
    cases hp : p x
    · simp
    · simp [drop_all l]
theorem trim_all (t : List UInt8) : (Lib.trimS t hexD == []) = t.all fun c => (valH c).isSome := by
  have hp : (fun c => hexD.contains c) = fun c => (valH c).isSome := funext hex_cut
  have h1 : Lib.trimS t hexD = [] ↔ t.all (fun c => (valH c).isSome) = true := by
    unfold Lib.trimS Lib.trimLeftS Lib.trimRightS
    rw [← hp]
    constructor
    · intro h
      have h2 := (drop_all _).1 h
      rw [List.all_eq_true] at h2 ⊢
      intro x hx
      by_cases hd : (t.reverse.dropWhile fun c => hexD.contains c) = []
      · have := (drop_all _).1 hd
        rw [List.all_eq_true] at this
        exact this x (List.mem_reverse.2 hx)
      · exfalso
        have h3 : ∀ y ∈ t.reverse.dropWhile (fun c => hexD.contains c), hexD.contains y = true := fun y hy => h2 y (List.mem_reverse.2 hy)
        have h4 := List.head_dropWhile_not (p := fun c => hexD.contains c) (l := t.reverse) hd
        have h5 := h3 _ (List.head_mem hd)
        rw [h5] at h4
        cases h4
    · intro h
      have h2 : t.reverse.dropWhile (fun c => hexD.contains c) = [] := (drop_all _).2 (by rw [List.all_reverse]; exact h)
      rw [h2]; rfl
  rw [Bool.eq_iff_iff, beq_iff_eq]
  exact h1
theorem trim_any (t : List UInt8) (w : World) (ht : t.length ≤ 1000000000) : Calls Tryz.prog 115 #[strV t, .string ⟨#[48, 49, 50, 51, 52, 53, 54, 55, 56, 57, 97, 98, 99, 100, 101, 102]⟩] w fun e w' => e = .returned (strV (Lib.trimS t hexD)) ∧ Below w.heap.size w w' := by
  have h := Any.strings_Trim_laid Tryz.lays160 (by kernel_rfl) ⟨t.toArray⟩ ⟨hexD.toArray⟩ w (by rw [mk_size]; omega) (by decide) (fun j b hb => by
    have : ∀ b ∈ hexD, b.toNat < 128 := by decide
    exact this b (List.mem_of_getElem? hb))
  exact h
set_option maxHeartbeats 1000000 in
theorem digits_any (t : List UInt8) (w : World) (ht : t.length ≤ 1000000000) : Calls Tryz.prog 80 #[strV t] w fun e w' => e = .returned (.bool (digB t)) ∧ Below w.heap.size w w' := by
  unfold digB
  by_cases h : t.length = 16
  · have d1 : ((t.length : Int) == 16) = true := by simp; omega
    have e1 : (t.length == 16) = true := by simpa using h
    have ht2 := trim_all t
    rw [e1, Bool.true_and, ← ht2]
    clear ht2 e1 h
    go_enter Tryz.func80, Tryz.ntmps80
    go_wp2_with fail
    refine (trim_any t _ ht).mono ?_
    rintro e w1 ⟨rfl, hb⟩
    have HB := Lib.hid hb; clear hb
    obtain ⟨z, hz⟩ : ∃ z, Lib.trimS t hexD = z := ⟨_, rfl⟩
    rw [hz]
    go_wp2_with fail
    go_ret
    exact ⟨by rw [hz]; simp, HB.out⟩
  · have d1 : ((t.length : Int) == 16) = false := by simp; omega
    have e1 : (t.length == 16) = false := by simpa using h
    rw [e1, Bool.false_and]
    clear e1 h
    go_enter Tryz.func80, Tryz.ntmps80
    go_wp2_with fail
    go_ret
    exact ⟨rfl, Below.refl _ _⟩
theorem lastI_at (a b : List UInt8) (h : (9 : UInt8) ∉ b) : Lib.lastIndexByte ⟨(a ++ 9 :: b).toArray⟩ 9 = (a.length : Int) := by
  have hb : ∀ (j : Nat) (hj : j < (a ++ 9 :: b).length), (⟨(a ++ 9 :: b).toArray⟩ : ByteArray).data[j]! = (a ++ 9 :: b)[j] := fun j hj => by
    show (a ++ 9 :: b).toArray[j]! = _
    rw [getElem!_pos _ _ (by simpa using hj)]; simp
  have hsz : (⟨(a ++ 9 :: b).toArray⟩ : ByteArray).size = a.length + 1 + b.length := by rw [mk_size]; simp; omega
  rcases Lib.lastIndexByte_spec ⟨(a ++ 9 :: b).toArray⟩ 9 with ⟨_, hn⟩ | ⟨i, hi, e, hc, hn⟩
  · have := hn a.length (by rw [hsz]; omega)
    rw [hb a.length (by simp)] at this
    simp at this
  · rw [e]
    rw [hsz] at hi
    rcases Nat.lt_trichotomy i a.length with h1 | h1 | h1
    · have := hn a.length h1 (by rw [hsz]; omega)
      rw [hb a.length (by simp)] at this
      simp at this
    · rw [h1]
    · exfalso
      rw [hb i (by simp; omega)] at hc
      rw [List.getElem_append_right (by omega)] at hc
      obtain ⟨k, hk⟩ : ∃ k, i - a.length = k + 1 := ⟨i - a.length - 1, by omega⟩
      have hkb : k < b.length := by omega
      have e2 : (9 :: b)[i - a.length]'(by simp; omega) = b[k] := by simp [hk]
      rw [e2] at hc
      apply h
      have : b[k] = 9 := UInt8.toNat.inj (by simpa using Int.ofNat.inj (by simpa using hc))
      rw [← this]; exact List.getElem_mem _
theorem lastI_no (t : List UInt8) (h : (9 : UInt8) ∉ t) : Lib.lastIndexByte ⟨t.toArray⟩ 9 = -1 := by
  rcases Lib.lastIndexByte_spec ⟨t.toArray⟩ 9 with ⟨e, _⟩ | ⟨i, hi, e, hc, hn⟩
  · exact e
  · exfalso
    have hi' : i < t.length := by simpa [mk_size] using hi
    have hb : (⟨t.toArray⟩ : ByteArray).data[i]! = t[i] := by
      show t.toArray[i]! = _
      rw [getElem!_pos _ _ (by simpa using hi')]; simp
    rw [hb] at hc
    apply h
    have : t[i] = 9 := UInt8.toNat.inj (by simpa using Int.ofNat.inj (by simpa using hc))
    rw [← this]; exact List.getElem_mem _
end
section
set_option maxRecDepth 100000
open Go.RowKit Cal
attribute [local go_sem] toList_mk mk_size str_append
theorem strC (l : List UInt8) : Lib.strCells ⟨l.toArray⟩ = Lib.byteCells l := rfl
theorem rowR_len {s : SchemaL} {r : RecL} (h : checkI s r = 0) (h5 : s.fields.length ≤ 5) : (rowR r).length ≤ 520 := by
  have := lineR_len h h5
  unfold rowR
  rw [List.length_append, List.length_cons, sumT_len]
  omega
theorem rowsT_len : ∀ (X : List (List UInt8)) (m : Nat), (∀ x ∈ X, x.length ≤ m) → (rowsT X).length ≤ X.length * (m + 1)
  | [], m, _ => by simp [rowsT]
  | x :: X, m, h => by
    have h1 := h x List.mem_cons_self
    have h2 := rowsT_len X m fun y hy => h y (List.mem_cons_of_mem _ hy)
    have e : rowsT (x :: X) = x ++ 10 :: rowsT X := by have := rowsT_cons x X []; simpa using this
    rw [e, List.length_append, List.length_cons, List.length_cons, Nat.add_mul, Nat.one_mul]
    omega
set_option maxHeartbeats 4000000 in
/-- the line of a record, where the library's variables hold what they hold -/
theorem rlineV_yes (S : Nat → Prop) (r : RecL) (sv : Value) (w : World) (hv : Vec w S 1 encS sv r.vals) (hvr : VarsAt w) (hi : 1 ≤ r.id ∧ r.id ≤ 1048576 ∧ 1 ≤ r.ver ∧ r.ver ≤ 1048576) (hs : ∀ t ∈ r.vals, t.length ≤ 64) (hn : r.vals.length ≤ 5) :
    Calls Tryz.prog 37 #[.agg #[.int .i64 r.id, .int .i64 r.ver, sv]] w fun e w' => e = .returned (strV (lineR r)) ∧ Below w.heap.size w w' := by
  obtain ⟨a, cap, rfl⟩ := hv.slice
  obtain ⟨id, ver, vals⟩ := r
  dsimp only at hv hi hs hn ⊢
  obtain ⟨i, rfl⟩ : ∃ i : Nat, id = i := Int.eq_ofNat_of_zero_le (by omega)
  obtain ⟨j, rfl⟩ : ∃ j : Nat, ver = j := Int.eq_ofNat_of_zero_le (by omega)
  have hx : (Lib.decDigits i).length ≤ 7 := dec_most (k := 7) (by decide) (by omega)
  have hy : (Lib.decDigits j).length ≤ 7 := dec_most (k := 7) (by decide) (by omega)
  have hit1 := fun w hw => itoa_any i (by omega) w hw
  have hit2 := fun w hw => itoa_any j (by omega) w hw
  have hln : lineR ⟨(i : Int), (j : Int), vals⟩ = joinC 9 (Lib.decDigits i :: Lib.decDigits j :: vals) := rfl
  rw [hln]
  obtain ⟨x, ex⟩ : ∃ x, Lib.decDigits i = x := ⟨_, rfl⟩
  obtain ⟨y, ey⟩ : ∃ y, Lib.decDigits j = y := ⟨_, rfl⟩
  rw [ex] at hx hit1 ⊢; rw [ey] at hy hit2 ⊢
  have hjl : (joinC 9 (x :: y :: vals)).length ≤ 1000000000 := by
    have := joinC_len 9 1000 (x :: y :: vals) (fun t ht => by
      rcases List.mem_cons.1 ht with rfl | h
      · omega
      · rcases List.mem_cons.1 h with rfl | h
        · omega
        · have := hs t h; omega)
    simp only [List.length_cons] at this
    omega
  have HV := Lib.hid hv.any; have HX := Lib.hid hit1; have HY := Lib.hid hit2; have HJ := Lib.hid hjl; have HN := Lib.hid hn; have HVr := Lib.hid hvr
  clear hv hx hy hs hjl hn hit1 hit2 ex ey hln hvr hi
  go_enter Tryz.func37, Tryz.ntmps37
  go_wp2_with fail
  refine wp_world (fun W hW => ?_)
  have hb0 : Below w.heap.size w W := by rw [hW]; exact (Below.refl w.heap.size w).alloc (Nat.le_refl _) _
  have hr0 : W.heap[w.heap.size]? = some (.cells #[.int .i64 i, .int .i64 j, .slice a vals.length cap] 44 (0, 0)) := by rw [hW]; exact blk_new rfl
  clear hW
  obtain ⟨c0, c1, c2⟩ := cells3 hr0
  have lr := lt_of_blk hr0
  have HB0 := Lib.hid hb0
  have HVr0 := Lib.hid (HVr.out.old hb0)
  clear hb0 hr0
  have bD : Below W.heap.size W W.drew := (Below.refl _ _).drew
  refine wp_region_noPanic ?_
  refine wp_region_k (by kernel_rfl) (fun w' => w'.cell? ⟨w.heap.size, 0, none⟩ = some (.int .i64 i) ∧ w'.cell? ⟨w.heap.size, 1, none⟩ = some (.int .i64 j) ∧ w'.cell? ⟨w.heap.size, 2, none⟩ = some (.slice a vals.length cap)) 9 (⟨c0, c1, c2⟩) (fun hHeld => ?_)
  refine tK 0 (h := ?_)
  try simp only [List.getElem_toArray, List.getElem_cons_zero, List.getElem_cons_succ, Act.put, List.setIfInBounds_toArray, List.set_cons_zero, List.set_cons_succ]
  refine tK 1 (h := ?_)
  try simp only [List.getElem_toArray, List.getElem_cons_zero, List.getElem_cons_succ, Act.put, List.setIfInBounds_toArray, List.set_cons_zero, List.set_cons_succ]
  refine tK 3 (h := ?_)
  try simp only [List.getElem_toArray, List.getElem_cons_zero, List.getElem_cons_succ, Act.put, List.setIfInBounds_toArray, List.set_cons_zero, List.set_cons_succ]
  refine tK 4 (h := ?_)
  try simp only [List.getElem_toArray, List.getElem_cons_zero, List.getElem_cons_succ, Act.put, List.setIfInBounds_toArray, List.set_cons_zero, List.set_cons_succ]
  refine tK 7 (h := ?_)
  try simp only [List.getElem_toArray, List.getElem_cons_zero, List.getElem_cons_succ, Act.put, List.setIfInBounds_toArray, List.set_cons_zero, List.set_cons_succ]
  refine tK 8 (h := ?_)
  try simp only [List.getElem_toArray, List.getElem_cons_zero, List.getElem_cons_succ, Act.put, List.setIfInBounds_toArray, List.set_cons_zero, List.set_cons_succ]
  refine wpAnyK_ready (rs := [2]) (by kernel_rfl) (by simp) ?_
  refine AllReadyK.cons rfl (fun K hK => ?_) AllReadyK.nil
  go_simp
  refine (HX.out _ (HVr0.out.old bD)).mono ?_; rintro e w1 ⟨rfl, hb⟩; have b1 := bD.trans (hb.mono bD.size); clear hb
  refine shutK hK (⟨(b1.cell (p := ⟨w.heap.size, 0, none⟩) lr).trans c0, (b1.cell (p := ⟨w.heap.size, 1, none⟩) lr).trans c1, (b1.cell (p := ⟨w.heap.size, 2, none⟩) lr).trans c2⟩) (fun hHeld => ?_)
  clear hK K
  try simp only [List.getElem_toArray, List.getElem_cons_zero, List.getElem_cons_succ, Act.put, List.setIfInBounds_toArray, List.set_cons_zero, List.set_cons_succ]
  refine wpAnyK_ready (rs := [5]) (by kernel_rfl) (by simp) ?_
  refine AllReadyK.cons rfl (fun K hK => ?_) AllReadyK.nil
  go_simp
  refine (HY.out _ (HVr0.out.old b1)).mono ?_; rintro e w2 ⟨rfl, hb⟩; have b2 := b1.trans (hb.mono b1.size); clear hb
  refine shutK hK (⟨(b2.cell (p := ⟨w.heap.size, 0, none⟩) lr).trans c0, (b2.cell (p := ⟨w.heap.size, 1, none⟩) lr).trans c1, (b2.cell (p := ⟨w.heap.size, 2, none⟩) lr).trans c2⟩) (fun hHeld => ?_)
  clear hK K
  try simp only [List.getElem_toArray, List.getElem_cons_zero, List.getElem_cons_succ, Act.put, List.setIfInBounds_toArray, List.set_cons_zero, List.set_cons_succ]
  have b3 := b2.alloc b2.size (.cells ([x, y].flatMap encS).toArray 9)
  refine wpAnyK_ready (rs := [6]) (by kernel_rfl) (by simp) ?_
  refine AllReadyK.cons rfl (fun K hK => ?_) AllReadyK.nil
  go_simp
  skip
  refine shutK hK (⟨(b3.cell (p := ⟨w.heap.size, 0, none⟩) lr).trans c0, (b3.cell (p := ⟨w.heap.size, 1, none⟩) lr).trans c1, (b3.cell (p := ⟨w.heap.size, 2, none⟩) lr).trans c2⟩) (fun hHeld => ?_)
  clear hK K
  try simp only [List.getElem_toArray, List.getElem_cons_zero, List.getElem_cons_succ, Act.put, List.setIfInBounds_toArray, List.set_cons_zero, List.set_cons_succ]
  have ho : OwnV 9 1 encS w (.slice (some ⟨w2.heap.size, 0, none⟩) 2 2) [x, y] (w2.alloc (.cells ([x, y].flatMap encS).toArray 9)) := own_new (HB0.out.trans (b3.mono HB0.out.size)) (Nat.le_trans HB0.out.size b2.size) (blk_new rfl) rfl (by simp) rfl
  have hrd := Vec.reads (k := 1) (enc := encS) (fun _ => rfl) (HV.out.below (HB0.out.trans (b3.mono HB0.out.size)))
  have HO := Lib.hid ho; have HRd := Lib.hid hrd
  have hbd : ([x, y] : List (List UInt8)).length + vals.length ≤ 1000000000 := by have := HN.out; simp; omega
  clear ho hrd b1 b2 b3 bD
  refine wpAnyK_ready (rs := [9]) (by kernel_rfl) (by simp) ?_
  refine AllReadyK.cons rfl (fun K hK => ?_) AllReadyK.nil
  refine wp_append_v (.tmp 9) (.tmp 11) 28 (by rfl) 9 (.string ⟨#[]⟩) 1 16 encS (fun _ => rfl) encS_one Tryz.underlying28 infoS rfl (by decide) (by decide) (w0 := w) (v := .slice (some ⟨w2.heap.size, 0, none⟩) 2 2) (A := [x, y]) (B := vals) (by rfl) HO.out (by rfl) HRd.out hbd ?_; intro v5 w5 ho5 hk5 hz5
  refine shutK_off hK (by decide) ?_
  clear hK K
  try simp only [List.getElem_toArray, List.getElem_cons_zero, List.getElem_cons_succ, Act.put, List.setIfInBounds_toArray, List.set_cons_zero, List.set_cons_succ]
  have HO5 := Lib.hid ho5
  clear ho5 hk5 hz5
  refine wpAnyK_ready (rs := [10]) (by kernel_rfl) (by simp) ?_
  refine AllReadyK.cons rfl (fun K hK => ?_) AllReadyK.nil
  go_simp
  refine (joinc_any 9 _ v5 ([x, y] ++ vals) w5 (OwnV.vec (enc := encS) (fun _ => rfl) HO5.out) (by have := HN.out; simp; omega) HJ.out).mono ?_; rintro e w6 ⟨rfl, hb⟩; have HB6 := Lib.hid (HO5.out.2.trans (hb.mono HO5.out.2.size)); clear hb
  refine shutK_off hK (by decide) ?_
  clear hK K
  try simp only [List.getElem_toArray, List.getElem_cons_zero, List.getElem_cons_succ, Act.put, List.setIfInBounds_toArray, List.set_cons_zero, List.set_cons_succ]
  refine wpAnyK_ready (rs := [11]) (by kernel_rfl) (by simp) ?_
  refine AllReadyK.cons rfl (fun K hK => ?_) AllReadyK.nil
  go_simp
  skip
  refine shutK_off hK (by decide) ?_
  clear hK K
  try simp only [List.getElem_toArray, List.getElem_cons_zero, List.getElem_cons_succ, Act.put, List.setIfInBounds_toArray, List.set_cons_zero, List.set_cons_succ]
  refine wpAnyK_done (by kernel_rfl) ?_ _
  refine NoPanic.normal ?_
  go_wp2_with fail
  go_ret
  exact ⟨rfl, HB6.out⟩
theorem follows_len {s : SchemaL} {R : List RecL} (h : allN s R = 0) (h5 : s.fields.length ≤ 5) (j : Nat) : (rowsT ((R.take j).map rowR)).length ≤ 64 * 521 := by
  obtain ⟨h0, h1, h2⟩ := allN_ok h
  have := rowsT_len ((R.take j).map rowR) 520 fun x hx => by
    obtain ⟨r, hr, rfl⟩ := List.mem_map.1 hx
    have := h2 r (List.mem_of_mem_take hr)
    unfold checkN at this
    rw [if_pos h0] at this
    exact rowR_len this h5
  rw [List.length_map, List.length_take] at this
  have : min j R.length ≤ 64 := by omega
  omega
set_option maxHeartbeats 8000000 in
/-- the file of a valid list -/
theorem rfile_yes (S T : Nat → Prop) (vf vt vn vs rv : Value) (s : SchemaL) (R : List RecL) (w : World) (h : SchemaAt w S vf vt vn vs s) (hr : RecsVec w T rv R) (hR : allN s R = 0) (hvr : VarsAt w) (hdb : DbAt w) :
    Calls Tryz.prog 10 #[.agg #[vf, vt, vn, vs], rv] w fun e w' => e = .returned (.tuple #[strV (fileR R), .int .i64 0]) ∧ Below w.heap.size w w' := by
  obtain ⟨hc, hl64, hck⟩ := allN_ok hR
  have hckI : ∀ r ∈ R, checkI s r = 0 := fun r hr => by have := hck r hr; unfold checkN at this; rwa [if_pos hc] at this
  have h5 := (check_fields hc).1.2
  have hlenj := follows_len hR h5
  obtain ⟨ar, cr, rfl⟩ := hr.slice
  have hsm := recs_of_all hR
  have hit := fun w hw => itoa_any R.length (by omega) w hw
  have hdl : (Lib.decDigits R.length).length ≤ 7 := dec_most (k := 7) (by decide) (by omega)
  have hfr : fileR R = rowsT (R.map rowR) ++ ([101, 110, 100, 32] ++ Lib.decDigits R.length ++ [10]) := by unfold fileR; rw [rowsT_append, rowsT_one]; rfl
  rw [hfr]
  obtain ⟨d, hd⟩ : ∃ d, Lib.decDigits R.length = d := ⟨_, rfl⟩
  rw [hd] at hit hdl ⊢
  have HS := Lib.hid h; have HRV := Lib.hid hr; have HR0 := Lib.hid hR; have HCk := Lib.hid hckI; have HSm := Lib.hid hsm; have HIt := Lib.hid hit; have HLen := Lib.hid hlenj; have HVr := Lib.hid hvr; have HDb := Lib.hid hdb; have HH5 := Lib.hid h5
  have dz : ((0 : Int) != 0) = false := rfl
  clear h hr hR hckI hsm hit hlenj hvr hdb hck hc hd hfr
  go_enter Tryz.func10, Tryz.ntmps10
  go_wp2_with fail
  refine wp_calls_world (fun W hW => ?_)
  have hb0 : Below w.heap.size w W := by rw [hW]; exact (Below.refl w.heap.size w).alloc (Nat.le_refl _) _
  clear hW
  have HB0 := Lib.hid hb0
  clear hb0
  refine (rall_any S T _ _ _ _ _ s R W (HS.out.below HB0.out) (HRV.out.below HB0.out) (fun r hr x hx => by have := HSm.out.short r hr x hx; omega) (fun r hr => by have h1 := (checkI_ok (HCk.out r hr)).2.1; have h2 := HH5.out; omega) (by omega)).mono ?_
  rw [HR0.out]
  rintro e w1 ⟨rfl, hb⟩
  have HB1 := Lib.hid (HB0.out.trans (hb.mono HB0.out.size))
  clear hb HB0
  go_wp2_with fail
  refine wp_world (fun W2 hW2 => ?_)
  have hb2 : Below w1.heap.size w1 W2 := by rw [hW2]; exact (Below.refl w1.heap.size w1).alloc (Nat.le_refl _) _
  have hh2 : HoldsB w1.heap.size w1.heap.size [] W2 := by rw [hW2]; exact ⟨.inl ⟨Nat.le_refl _, _, blk_new rfl, ⟨rfl, .inl ⟨rfl, rfl⟩⟩, by simp [Value.ownBlock]⟩, by simp⟩
  have HT2 := Lib.hid (show TextAt w1 [] W2 from ⟨hh2, hb2⟩)
  have HRV1 := Lib.hid (HRV.out.below HB1.out); have HVr1 := Lib.hid (HVr.out.old HB1.out); have HDb1 := Lib.hid (HDb.out.old HB1.out)
  clear hW2 hb2 hh2 HRV
  go_loopw [9, 18] (fun _ i wr => ∃ j : Nat, i = .int .i64 j ∧ j ≤ R.length ∧ Hid (TextAt w1 (rowsT ((R.take j).map rowR)) wr)) (fun _ i _ => R.length - (intOf i).toNat)
  case atStart => exact ⟨0, rfl, by omega, HT2⟩
  case round =>
    obtain ⟨j, rfl, hj, HT⟩ := hrel
    by_cases hlt : j < R.length
    · have hq : decide ((j : Int) < (R.length : Int)) = true := by simp; omega
      have hji : (j : Int) < (R.length : Int) := by omega
      obtain ⟨bb, oo, id, ver, aa, nn, cc, vals, eb, lb, c0, c1, c2, hRj, hvv⟩ := (HRV1.out.below HT.out.2).at j hlt
      cases eb
      have hr1 := HCk.out R[j] (List.getElem_mem hlt)
      have hsh := HSm.out.short R[j] (List.getElem_mem hlt)
      have hacc := HLen.out j
      have hmore : rowsT ((R.take (j + 1)).map rowR) = rowsT ((R.take j).map rowR) ++ (rowR R[j] ++ [10]) := by
        rw [List.take_succ_eq_append_getElem hlt, List.map_append, rowsT_append]
        simp [rowsT]
      rw [hRj] at hr1 hsh hmore
      have hci := checkI_ok hr1
      have hl5 := lineR_len hr1 HH5.out
      have hln := fun w h1 h2 => rlineV_yes T ⟨id, ver, vals⟩ (.slice aa nn cc) w h1 h2 hci.1 hsh (by have h1 := hci.2.1; have h2 := HH5.out; omega)
      have hsum := fun w hw => rsum_any' (lineR ⟨id, ver, vals⟩) w (by omega) hw
      have hsl := sumT_len (lineR ⟨id, ver, vals⟩)
      rw [show rowR ⟨id, ver, vals⟩ = lineR ⟨id, ver, vals⟩ ++ 9 :: sumT (lineR ⟨id, ver, vals⟩) from rfl] at hmore
      obtain ⟨x, hx⟩ : ∃ x, lineR ⟨id, ver, vals⟩ = x := ⟨_, rfl⟩
      rw [hx] at hl5 hln hsum hsl hmore
      obtain ⟨z, hz⟩ : ∃ z, sumT x = z := ⟨_, rfl⟩
      rw [hz] at hsum hsl hmore
      obtain ⟨acc, hac⟩ : ∃ acc, rowsT ((R.take j).map rowR) = acc := ⟨_, rfl⟩
      have HT1 := Lib.hid (show TextAt w1 acc wr by rw [← hac]; exact HT.out)
      rw [hac] at hmore hacc
      have HMo := Lib.hid hmore; have HLn := Lib.hid hln; have HSu := Lib.hid hsum; have HVv := Lib.hid hvv
      have hzl : z.length ≤ 16 := by omega
      have hk1 : ¬ 9223372036854775807 < x.length + 1 := by omega
      have hk2 : ¬ 9223372036854775807 < x.length + 1 + z.length := by omega
      have hk3 : ¬ 9223372036854775807 < x.length + (z.length + 1) := by omega
      have hk4 : ¬ 9223372036854775807 < x.length + 1 + z.length + 1 := by omega
      have hk5 : ¬ 9223372036854775807 < x.length + (z.length + 1) + 1 := by omega
      have hk6 : ¬ 9223372036854775807 < x.length + (z.length + 1 + 1) := by omega
      clear hr1 hsh hmore hci hln hsum hx hz hac hRj hvv HT hsl
      go_wp2_with fail
      refine wp_world (fun W3 hW3 => ?_)
      have hb3 : Below wr.heap.size wr W3 := by rw [hW3]; exact (Below.refl wr.heap.size wr).alloc (Nat.le_refl _) _
      have hx3 : W3.heap[wr.heap.size]? = some (.cells #[.int .i64 id, .int .i64 ver, .slice aa nn cc] 44 (0, 0)) := by rw [hW3]; exact blk_new rfl
      have HT3 := Lib.hid (HT1.out.below hb3); have HV3 := Lib.hid (HVv.out.below hb3)
      have HVr3 := Lib.hid (HVr1.out.old (HT1.out.2.trans (hb3.mono HT1.out.2.size))); have HDb3 := Lib.hid (HDb1.out.old (HT1.out.2.trans (hb3.mono HT1.out.2.size)))
      obtain ⟨x0, x1, x2⟩ := cells3 hx3
      have lx := lt_of_blk hx3
      have bD : Below W3.heap.size W3 W3.drew := (Below.refl _ _).drew
      clear hW3 hx3 hb3 c0 c1 c2 HVv
      refine wp_region_noPanic ?_
      refine wp_region_k (by kernel_rfl) (fun w' => w'.cell? ⟨wr.heap.size, 0, none⟩ = some (.int .i64 id) ∧ w'.cell? ⟨wr.heap.size, 1, none⟩ = some (.int .i64 ver) ∧ w'.cell? ⟨wr.heap.size, 2, none⟩ = some (.slice aa nn cc)) 8 (⟨x0, x1, x2⟩) (fun hHeld => ?_)
      refine tK 0 (h := ?_)
      try simp only [List.getElem_toArray, List.getElem_cons_zero, List.getElem_cons_succ, Act.put, List.setIfInBounds_toArray, List.set_cons_zero, List.set_cons_succ]
      refine tK 3 (h := ?_)
      try simp only [List.getElem_toArray, List.getElem_cons_zero, List.getElem_cons_succ, Act.put, List.setIfInBounds_toArray, List.set_cons_zero, List.set_cons_succ]
      refine wpAnyK_ready (rs := [1]) (by kernel_rfl) (by simp) ?_
      refine AllReadyK.cons rfl (fun K hK => ?_) AllReadyK.nil
      go_simp
      refine (HLn.out _ (HV3.out.below bD) (HVr3.out.old bD)).mono ?_; rintro e V1 ⟨rfl, hb⟩; have b1 := bD.trans (hb.mono bD.size); clear hb
      refine shutK hK (⟨(b1.cell (p := ⟨wr.heap.size, 0, none⟩) lx).trans x0, (b1.cell (p := ⟨wr.heap.size, 1, none⟩) lx).trans x1, (b1.cell (p := ⟨wr.heap.size, 2, none⟩) lx).trans x2⟩) (fun hHeld => ?_)
      clear hK K
      try simp only [List.getElem_toArray, List.getElem_cons_zero, List.getElem_cons_succ, Act.put, List.setIfInBounds_toArray, List.set_cons_zero, List.set_cons_succ]
      refine tK 2 (h := ?_)
      try simp only [List.getElem_toArray, List.getElem_cons_zero, List.getElem_cons_succ, Act.put, List.setIfInBounds_toArray, List.set_cons_zero, List.set_cons_succ]
      refine wpAnyK_ready (rs := [4]) (by kernel_rfl) (by simp) ?_
      refine AllReadyK.cons rfl (fun K hK => ?_) AllReadyK.nil
      go_simp
      refine (HLn.out _ (HV3.out.below b1) (HVr3.out.old b1)).mono ?_; rintro e V2 ⟨rfl, hb⟩; have b2 := b1.trans (hb.mono b1.size); clear hb
      refine shutK hK (⟨(b2.cell (p := ⟨wr.heap.size, 0, none⟩) lx).trans x0, (b2.cell (p := ⟨wr.heap.size, 1, none⟩) lx).trans x1, (b2.cell (p := ⟨wr.heap.size, 2, none⟩) lx).trans x2⟩) (fun hHeld => ?_)
      clear hK K
      try simp only [List.getElem_toArray, List.getElem_cons_zero, List.getElem_cons_succ, Act.put, List.setIfInBounds_toArray, List.set_cons_zero, List.set_cons_succ]
      refine wpAnyK_ready (rs := [5]) (by kernel_rfl) (by simp) ?_
      refine AllReadyK.cons rfl (fun K hK => ?_) AllReadyK.nil
      go_simp
      refine (HSu.out _ (HDb3.out.old b2)).mono ?_; rintro e V3 ⟨rfl, hb⟩; have b3 := b2.trans (hb.mono b2.size); clear hb
      refine shutK hK (⟨(b3.cell (p := ⟨wr.heap.size, 0, none⟩) lx).trans x0, (b3.cell (p := ⟨wr.heap.size, 1, none⟩) lx).trans x1, (b3.cell (p := ⟨wr.heap.size, 2, none⟩) lx).trans x2⟩) (fun hHeld => ?_)
      clear hK K
      try simp only [List.getElem_toArray, List.getElem_cons_zero, List.getElem_cons_succ, Act.put, List.setIfInBounds_toArray, List.set_cons_zero, List.set_cons_succ]
      refine tK 6 (h := ?_)
      try simp only [List.getElem_toArray, List.getElem_cons_zero, List.getElem_cons_succ, Act.put, List.setIfInBounds_toArray, List.set_cons_zero, List.set_cons_succ]
      refine tK 7 (h := ?_)
      try simp only [List.getElem_toArray, List.getElem_cons_zero, List.getElem_cons_succ, Act.put, List.setIfInBounds_toArray, List.set_cons_zero, List.set_cons_succ]
      have HT4 := Lib.hid (HT3.out.below b3)
      have hlt4 : (Lib.byteCells acc).length + (⟨(x ++ 9 :: (z ++ [10])).toArray⟩ : ByteArray).size ≤ 140737488355328 := by rw [Lib.byteCells_length, mk_size]; simp; omega
      have HWs := Lib.hid (wstr_k w1.heap.size w1.heap.size (Lib.byteCells acc) ⟨(x ++ 9 :: (z ++ [10])).toArray⟩ V3 HT4.out.1.1 hlt4 HT4.out.1.2)
      refine wpAnyK_ready (rs := [8]) (by kernel_rfl) (by simp) ?_
      refine AllReadyK.cons rfl (fun K hK => ?_) AllReadyK.nil
      go_simp
      refine HWs.out.mono ?_; rintro e V4 ⟨rfl, h4, hb4, -⟩
      refine shutK_off hK (by decide) ?_
      clear hK K
      try simp only [List.getElem_toArray, List.getElem_cons_zero, List.getElem_cons_succ, Act.put, List.setIfInBounds_toArray, List.set_cons_zero, List.set_cons_succ]
      refine wpAnyK_done (by kernel_rfl) ?_ _
      refine NoPanic.normal ?_
      rw [strC, ← Lib.byteCells_append] at h4
      have HT5 := Lib.hid (show TextAt w1 (rowsT ((R.take (j + 1)).map rowR)) V4 from ⟨⟨.inr (by rw [HMo.out, show x ++ 9 :: z ++ [10] = x ++ 9 :: (z ++ [10]) by simp]; exact h4), Nat.le_trans HT4.out.1.2 hb4.size⟩, HT4.out.2.trans hb4⟩)
      clear h4 hb4 bD b1 b2 b3 x0 x1 x2
      go_wp2_with fail
      go_roundw
      case rel => exact ⟨j + 1, by go_num, by omega, HT5⟩
      case measure => simp [intOf]; omega
    · have hq : decide ((j : Int) < (R.length : Int)) = false := by simp; omega
      obtain rfl : j = R.length := by omega
      have hT := HT.out
      have hacc := HLen.out R.length
      rw [List.take_length] at hT hacc
      obtain ⟨acc, hac⟩ : ∃ acc, rowsT (R.map rowR) = acc := ⟨_, rfl⟩
      rw [hac] at hT hacc
      have HT1 := Lib.hid hT; have HAc := Lib.hid hac
      have HVr3 := Lib.hid (HVr1.out.old HT1.out.2)
      clear hT HT hac
      go_wp2_with fail
      refine (HIt.out _ HVr3.out).mono ?_
      rintro e w3 ⟨rfl, hb⟩
      have HT3 := Lib.hid (HT1.out.below hb)
      have hn1 : ¬ 9223372036854775807 < 4 + d.length := by omega
      have hn2 : ¬ 9223372036854775807 < d.length + 4 := by omega
      have hn3 : ¬ 9223372036854775807 < d.length + 1 + 1 + 1 + 1 + 1 := by omega
      have hn4 : ¬ 9223372036854775807 < d.length + 1 + 1 + 1 + 1 := by omega
      clear hb
      go_wp2_with fail
      refine (wstr_k w1.heap.size w1.heap.size (Lib.byteCells acc) ⟨(101 :: 110 :: 100 :: 32 :: (d ++ [10])).toArray⟩ _ HT3.out.1.1 (by rw [Lib.byteCells_length, mk_size]; simp; omega) HT3.out.1.2).mono ?_
      rintro e w4 ⟨rfl, h4, hb4, -⟩
      rw [strC, ← Lib.byteCells_append] at h4
      have H4 := Lib.hid h4; have HB4 := Lib.hid (HT3.out.2.trans hb4)
      have hz4 := HB4.out.size
      clear h4 hb4
      go_wp2_with fail
      refine (bstr_k w1.heap.size w1.heap.size _ _ (.inr H4.out) hz4).mono ?_
      rintro e w5 ⟨rfl, hb5⟩
      have HB5 := Lib.hid (HB1.out.trans ((HB4.out.trans hb5).mono HB1.out.size))
      clear hb5
      go_wp2_with fail
      go_ret2
      refine ⟨?_, HB5.out⟩
      rw [HAc.out]
      simp
end
section
set_option maxRecDepth 100000
open Go.RowKit
attribute [local go_sem] toList_mk mk_size str_append
/-- the error that goes with a text: none exactly if it is a number -/
def ErrIs (b : Bool) (er : Value) : Prop := if b = true then er = .nilIface else ∃ te pe, er = .iface te pe
theorem atoi_full (t : List UInt8) (ht : t.length ≤ 1000000000) (w : World) (hv : VarsAt w) : Calls Tryz.prog 117 #[strV t] w fun e w' => (∃ er, e = .returned (.tuple #[.int .i64 (atoiV t), er]) ∧ ErrIs (isNum t) er) ∧ Below w.heap.size w w' := by
  have hsz : (⟨t.toArray⟩ : ByteArray).size = t.length := by simp [ByteArray.size]
  have hd : (⟨t.toArray⟩ : ByteArray).data.toList = t := by simp
  unfold atoiV isNum ErrIs
  cases h : Lib.atoiAll t with
  | ok v =>
    refine (Tryz.strconv_Atoi_ok ⟨t.toArray⟩ (by rw [hsz]; omega) v (by rw [hd]; exact h) w).mono ?_
    rintro e w' ⟨rfl, hw⟩
    refine ⟨⟨_, rfl, rfl⟩, ?_⟩
    rcases hw with rfl | ⟨t, rfl⟩
    · exact Below.refl _ _
    · exact Lib.bytesWorld_below _ _ _
  | range =>
    obtain ⟨ev, h1, h2⟩ := hv.e1
    refine (Tryz.strconv_Atoi_range ⟨t.toArray⟩ (by rw [hsz]; omega) (by rw [hd]; exact h) ev w h1 h2).mono ?_
    rintro e w' ⟨N, rfl, -, -, hb⟩
    rw [hd]
    exact ⟨⟨_, rfl, _, _, rfl⟩, hb⟩
  | _ =>
    obtain ⟨ev, h1, h2⟩ := hv.e0
    refine (Tryz.strconv_Atoi_syntax ⟨t.toArray⟩ (by rw [hsz]; omega) (by rw [hd]; exact h) ev w h1 h2).mono ?_
    rintro e w' ⟨N, rfl, -, -, hb⟩
    exact ⟨⟨_, rfl, _, _, rfl⟩, hb⟩
theorem atoiAll_big : ∀ (t : List UInt8) (v : Int), Lib.atoiAll t = .ok v → v ≤ 9223372036854775807
  | [], v, h => by cases h
  | c :: r, v, h => by
    unfold Lib.atoiAll at h
    dsimp only at h
    generalize Lib.parseMag (if c.toNat = 43 ∨ c.toNat = 45 then r else c :: r) = m at h
    cases m with
    | ok u =>
      dsimp only at h
      by_cases g1 : ¬ c.toNat = 45 ∧ 9223372036854775808 ≤ u
      · rw [if_pos g1] at h; cases h
      · rw [if_neg g1] at h
        by_cases g2 : c.toNat = 45 ∧ 9223372036854775808 < u
        · rw [if_pos g2] at h; cases h
        · rw [if_neg g2] at h
          have e := Lib.NumEnd.ok.inj h
          by_cases g3 : c.toNat = 45
          · rw [if_pos g3] at e; omega
          · rw [if_neg g3] at e; omega
    | range => cases h
    | _ => cases h
theorem atoiV_big {t : List UInt8} (h : isNum t = true) : atoiV t ≤ 9223372036854775807 := by
  unfold isNum at h
  cases h1 : Lib.atoiAll t with
  | ok v =>
    unfold atoiV
    rw [h1]
    exact atoiAll_big t v h1
  | range => rw [h1] at h; cases h
  | _ => rw [h1] at h; cases h
set_option maxHeartbeats 4000000 in
theorem rnum_any (t : List UInt8) (w : World) (ht : t.length ≤ 1000000000) (hv : VarsAt w) :
    Calls Tryz.prog 82 #[strV t] w fun e w' => e = .returned (.tuple #[.int .i64 (atoiV t), .bool (numOk t)]) ∧ Below w.heap.size w w' := by
  have HV := Lib.hid hv
  have hat := fun w hw => atoi_full t ht w hw
  have hbig := @atoiV_big t
  obtain ⟨z, hz⟩ : ∃ z, atoiV t = z := ⟨_, rfl⟩
  unfold numOk
  rw [hz] at hat hbig ⊢
  clear hv hz
  cases hn : isNum t
  · rw [hn] at hat
    have HA := Lib.hid hat
    rw [Bool.false_and]
    clear hat hn hbig
    go_enter Tryz.func82, Tryz.ntmps82
    go_wp2_with fail
    refine (HA.out _ HV.out).mono ?_
    rintro e w1 ⟨⟨er, rfl, te, pe, rfl⟩, hb⟩
    have HB := Lib.hid hb
    clear hb
    go_wp2_with fail
    go_ret2
    exact ⟨rfl, HB.out⟩
  · rw [hn] at hat
    have hzb := hbig hn
    have HA := Lib.hid hat
    rw [Bool.true_and]
    clear hat hn hbig
    by_cases h7 : t.length ≤ 7
    · have d7 : decide ((t.length : Int) ≤ 7) = true := decide_eq_true (by omega)
      rw [decide_eq_true h7, Bool.true_and]
      by_cases h0 : 0 ≤ z
      · have d0 : decide ((0 : Int) ≤ z) = true := decide_eq_true h0
        rw [d0, Bool.true_and]
        obtain ⟨n, rfl⟩ := Int.eq_ofNat_of_zero_le h0
        have hit := fun w hw => itoa_any n (by omega) w hw
        rw [Int.toNat_natCast]
        obtain ⟨y, hy⟩ : ∃ y, Lib.decDigits n = y := ⟨_, rfl⟩
        rw [hy] at hit ⊢
        have HI := Lib.hid hit
        clear hit hy h0 h7
        go_enter Tryz.func82, Tryz.ntmps82
        go_wp2_with fail
        refine (HA.out _ HV.out).mono ?_
        rintro e w1 ⟨⟨er, rfl, her⟩, hb⟩
        have her' : er = .nilIface := her
        subst her'
        have HB := Lib.hid hb
        clear hb her
        go_wp2_with fail
        refine (HI.out _ (HV.out.old HB.out)).mono ?_
        rintro e w2 ⟨rfl, hb⟩
        have HB2 := Lib.hid (HB.out.trans (hb.mono HB.out.size))
        clear hb
        go_wp2_with fail
        go_ret2
        exact ⟨rfl, HB2.out⟩
      · have d0 : decide ((0 : Int) ≤ z) = false := decide_eq_false h0
        rw [d0, Bool.false_and]
        clear h0 h7
        go_enter Tryz.func82, Tryz.ntmps82
        go_wp2_with fail
        refine (HA.out _ HV.out).mono ?_
        rintro e w1 ⟨⟨er, rfl, her⟩, hb⟩
        have her' : er = .nilIface := her
        subst her'
        have HB := Lib.hid hb
        clear hb her
        go_wp2_with fail
        go_ret2
        exact ⟨rfl, HB.out⟩
    · have d7 : decide ((t.length : Int) ≤ 7) = false := decide_eq_false (by omega)
      rw [decide_eq_false h7, Bool.false_and]
      clear h7
      go_enter Tryz.func82, Tryz.ntmps82
      go_wp2_with fail
      refine (HA.out _ HV.out).mono ?_
      rintro e w1 ⟨⟨er, rfl, her⟩, hb⟩
      have her' : er = .nilIface := her
      subst her'
      have HB := Lib.hid hb
      clear hb her
      go_wp2_with fail
      go_ret2
      exact ⟨rfl, HB.out⟩
end
section
set_option maxRecDepth 100000
open Go.RowKit
attribute [local go_sem] toList_mk mk_size
theorem BitsAt.none (w : World) (S : Nat → Prop) : BitsAt w S (.agg #[.int .i64 0, .slice none 0 0]) noBits := ⟨_, rfl, Vec.nil _ _ _ _⟩
end
section
set_option maxRecDepth 100000
open Go.RowKit Cal
attribute [local go_sem] toList_mk mk_size str_append
theorem BitsVec.nil (w : World) (S : Nat → Prop) : BitsVec w S (.slice none 0 0) [] := ⟨[], Vec.nil _ _ _ _, rfl, fun n h1 _ => by simp at h1⟩
end
section
set_option maxRecDepth 100000
open Go.RowKit Cal
attribute [local go_sem] toList_mk mk_size str_append
def noEnc : EncL := ⟨0, 0, []⟩
theorem splC_mem (c : UInt8) : ∀ (l p : List UInt8) (t : List UInt8), t ∈ splC c p l → t.length ≤ p.length + l.length
  | [], p, t, h => by simp [splC] at h; subst h; simp
  | x :: r, p, t, h => by
    rw [splC] at h
    split at h
    · rcases List.mem_cons.1 h with rfl | h1
      · simp
      · have := splC_mem c r [] t h1; simp at this; simp; omega
    · have := splC_mem c r (p ++ [x]) t h; simp at this; simp; omega
theorem splC_few (c : UInt8) : ∀ (l p : List UInt8), (splC c p l).length ≤ l.length + 1
  | [], p => by simp [splC]
  | x :: r, p => by
    rw [splC]
    split
    · have := splC_few c r []; simp; omega
    · have := splC_few c r (p ++ [x]); simp; omega
theorem EncVal.none (w : World) (S : Nat → Prop) : EncVal w S (.agg #[.int .i64 0, .int .i64 0, .slice none 0 0]) noEnc := ⟨_, rfl, BitsVec.nil _ _⟩
end
section
set_option maxRecDepth 100000
open Go.RowKit Cal
attribute [local go_sem] toList_mk mk_size str_append
theorem RecVal.none (w : World) (S : Nat → Prop) : RecVal w S (.agg #[.int .i64 0, .int .i64 0, .slice none 0 0]) noRec := ⟨_, rfl, Vec.nil _ _ _ _⟩
/-- the words behind the first two, in blocks of S -/
theorem RowB.from2S {w : World} {S : Nat → Prop} {A : Nat} {L : List (List UInt8)} (h : RowB w A L) (hS : S A) (h2 : 2 < L.length) (c : Nat) (hc : L.length - 2 ≤ c) : Vec w S 1 encS (.slice (some ⟨A, 2, none⟩) (L.length - 2) c) (L.drop 2) := by
  refine ⟨_, c, by rw [List.length_drop], by rw [List.length_drop]; exact hc, fun h0 => ⟨A, 2, rfl, hS, lt_of_blk h, fun j x hj i u hu => ?_⟩⟩
  have hi : i = 0 ∧ u = strV x := by
    cases i with
    | zero => exact ⟨rfl, by simpa [encS] using hu.symm⟩
    | succ i => simp [encS] at hu
  obtain ⟨rfl, rfl⟩ := hi
  rw [List.getElem?_drop] at hj
  have hlt : 2 + j < L.length := (List.getElem?_eq_some_iff.1 hj).1
  have := RowB.cell h (2 + j) hlt
  rw [show L.getD (2 + j) [] = x by simp [List.getD, hj]] at this
  rw [Nat.mul_one, Nat.add_zero]; exact this
def RecParsed (p : RecL × Int) (w : World) (e : Ending) (w' : World) : Prop := ∃ v, e = .returned (.tuple #[v, .int .i64 p.2]) ∧ RecVal w' (fun b => w.heap.size ≤ b) v p.1 ∧ Below w.heap.size w w'
theorem checkI_two (s : SchemaL) (r : RecL) : checkI s r = 0 ∨ checkI s r = 7 := by unfold checkI; split; exact .inl rfl; exact .inr rfl
theorem RecParsed.bad {w w6 : World} {er : Int} (hb : Below w.heap.size w w6) {z : Nat} (hz : w.heap.size ≤ z) : RecParsed (noRec, er) w (.returned (.tuple #[.agg #[.int .i64 0, .int .i64 0, .slice none 0 0], .int .i64 er])) (((w6.setCell ⟨z, 0, none⟩ (.int .i64 0)).setCell ⟨z, 1, none⟩ (.int .i64 0)).setCell ⟨z, 2, none⟩ (.slice none 0 0)) :=
  ⟨_, rfl, RecVal.none _ _, ((hb.setCell (p := ⟨z, 0, none⟩) hz _).setCell (p := ⟨z, 1, none⟩) hz _).setCell (p := ⟨z, 2, none⟩) hz _⟩
set_option maxHeartbeats 16000000 in
theorem precparse_any (S : Nat → Prop) (vf vt vn vs : Value) (s : SchemaL) (t : List UInt8) (w : World) (h : SchemaAt w S vf vt vn vs s) (hc : checkS s = 0) (hvr : VarsAt w) (ht : t.length ≤ 100000) :
    Calls Tryz.prog 45 #[.agg #[vf, vt, vn, vs], strV t] w (RecParsed (parseR s t) w) := by
  have hsz := fun x hx => splC_mem 9 t [] x hx
  have hfw := splC_few 9 t []
  have h5 := (check_fields hc).1.2
  have h15 := (check_fields hc).1.1
  obtain ⟨R, hR⟩ : ∃ R, parseR s t = R := ⟨_, rfl⟩
  obtain ⟨L, hL⟩ : ∃ L, splC 9 [] t = L := ⟨_, rfl⟩
  rw [hR]
  unfold parseR parseW at hR
  rw [hL] at hR hsz hfw
  obtain ⟨af, cf, rfl⟩ := h.1.slice
  obtain ⟨n, hn⟩ : ∃ n, L.length = n := ⟨_, rfl⟩
  obtain ⟨N, hN⟩ : ∃ N, s.fields.length = N := ⟨_, rfl⟩
  rw [hn] at hR hfw
  rw [hN] at hR h5 h15 h
  rw [hN]
  have Hn := Lib.hid hn; have HNN := Lib.hid hN
  clear hn hN
  have HSc := Lib.hid h; have HVr := Lib.hid hvr; have HL := Lib.hid hL; have HSz := Lib.hid hsz; have HR := Lib.hid hR
  clear hvr hL hsz hR h hc
  go_enter Tryz.func45, Tryz.ntmps45
  go_wp2_with fail
  refine wp_calls_world (fun W hW => ?_)
  have hb0 : Below w.heap.size w W := by rw [hW]; exact ((Below.refl w.heap.size w).alloc (Nat.le_refl _) _).alloc (by simp) _
  have hs0 : W.heap[w.heap.size]? = some (.cells #[.slice af N cf, vt, vn, vs] 33 (0, 0)) := by rw [hW]; exact blk_old (blk_new rfl)
  have hz0 : W.heap[w.heap.size + 1]? = some (.cells #[.int .i64 0, .int .i64 0, .slice none 0 0] 44 (0, 0)) := by rw [hW]; exact blk_new (by simp)
  clear hW
  refine (split_any 9 t W (HVr.out.old hb0).m (by omega)).mono ?_
  rw [HL.out, Hn.out]
  rintro e w1 ⟨rfl, hrow, hb⟩
  have hz1 := blk_below hb (lt_of_blk hz0) hz0; have hs1 := blk_below hb (lt_of_blk hs0) hs0
  have HB1 := Lib.hid (hb0.trans (hb.mono hb0.size)); have HZ1 := Lib.hid hz1; have HS1 := Lib.hid hs1; have HRow := Lib.hid hrow
  have zW := hb0.size; have zh := lt_of_blk hz0
  obtain ⟨s0, s1, s2, s3⟩ := cellsS hs1
  obtain ⟨z0, z1, z2⟩ := cells3 hz1
  have f0 := frozen_of_row _ _ 0 _ _ hz1; have f1 := frozen_of_row _ _ 1 _ _ hz1; have f2 := frozen_of_row _ _ 2 _ _ hz1
  have lz := lt_of_blk hz1
  clear hb hb0 hz0 hz1 hrow hs0 hs1
  have hwl : IntKind.i64.wrap ((N : Int) + 2) = (N : Int) + 2 := by rw [IntKind.wrap_i64]; omega
  by_cases hl : n = N + 2
  · have d2 : ((n : Int) != (N : Int) + 2) = false := by simp; omega
    have hRn := HR.out
    rw [if_pos hl] at hRn
    have c0 := RowB.cell HRow.out 0 (by rw [Hn.out]; omega)
    have c1 := RowB.cell HRow.out 1 (by rw [Hn.out]; omega)
    obtain ⟨x, hx⟩ : ∃ x, L.getD 0 [] = x := ⟨_, rfl⟩
    obtain ⟨y, hy⟩ : ∃ y, L.getD 1 [] = y := ⟨_, rfl⟩
    have hxl : x.length ≤ 1000000000 := by have := HSz.out (L.getD 0 []) (by rw [getD_at _ _ (show 0 < L.length by rw [Hn.out]; omega)]; exact List.getElem_mem _); rw [hx] at this; simp at this; omega
    have hyl : y.length ≤ 1000000000 := by have := HSz.out (L.getD 1 []) (by rw [getD_at _ _ (show 1 < L.length by rw [Hn.out]; omega)]; exact List.getElem_mem _); rw [hy] at this; simp at this; omega
    have hrw : recW L = ⟨atoiV x, atoiV y, L.drop 2⟩ := by unfold recW; rw [hx, hy]
    rw [hx, hy, hrw] at hRn
    rw [hx] at c0; rw [hy] at c1
    have i0 : (0 : Int) < (n : Int) := by omega
    have i1 : (1 : Int) < (n : Int) := by omega
    have i2 : (2 : Int) ≤ (n : Int) := by omega
    have hv1 := HVr.out.old HB1.out
    have lrow := lt_of_blk HRow.out
    obtain ⟨bx, hbx⟩ : ∃ b, numOk x = b := ⟨_, rfl⟩
    obtain ⟨by_, hby⟩ : ∃ b, numOk y = b := ⟨_, rfl⟩
    have hn1 := fun w hw => rnum_any x w hxl hw
    have hn2 := fun w hw => rnum_any y w hyl hw
    rw [hbx] at hn1 hRn; rw [hby] at hn2 hRn
    have HN1 := Lib.hid hn1; have HN2 := Lib.hid hn2; have HRn := Lib.hid hRn; have HLl := Lib.hid hl
    have hl3 : 2 < n := by omega
    have hn7 : n ≤ 7 := by omega
    clear hx hy HR hn1 hn2 hbx hby hRn hrw hl
    go_wp2_with fail
    refine (HN1.out _ hv1).mono ?_
    rintro e w2 ⟨rfl, hb2⟩
    have c1' := (hb2.cell (p := ⟨W.heap.size, 1, none⟩) lrow).trans c1
    have HZ2 := Lib.hid (blk_below hb2 (lt_of_blk HZ1.out) HZ1.out); have HS2 := Lib.hid (blk_below hb2 (lt_of_blk HS1.out) HS1.out)
    have HRow2 := Lib.hid (show RowB w2 W.heap.size L from blk_below hb2 lrow HRow.out)
    have HB2 := Lib.hid (HB1.out.trans (hb2.mono HB1.out.size))
    have hv2 := HVr.out.old HB2.out
    have lrow2 := lt_of_blk HRow2.out
    clear hb2 hv1 c0 c1 HZ1 HRow HS1 s0 s1 s2 s3 z0 z1 z2 f0 f1 f2
    go_wp2_with fail
    refine (HN2.out _ hv2).mono ?_
    rintro e w3 ⟨rfl, hb3⟩
    have HZ3 := Lib.hid (blk_below hb3 (lt_of_blk HZ2.out) HZ2.out); have HS3 := Lib.hid (blk_below hb3 (lt_of_blk HS2.out) HS2.out)
    have HRow3 := Lib.hid (show RowB w3 W.heap.size L from blk_below hb3 lrow2 HRow2.out)
    have HB3 := Lib.hid (HB2.out.trans (hb3.mono HB2.out.size))
    have hz1 := HZ3.out
    obtain ⟨z0, z1, z2⟩ := cells3 hz1
    have f0 := frozen_of_row _ _ 0 _ _ hz1; have f1 := frozen_of_row _ _ 1 _ _ hz1; have f2 := frozen_of_row _ _ 2 _ _ hz1
    have lz3 := lt_of_blk hz1
    have hrow3 := lt_of_blk HRow3.out
    clear hb3 hv2 c1' HZ2 HRow2 HS2 hz1
    have hbad : ∀ b, b = false → (bx && by_) = b → R = (noRec, 14) := fun b h1 h2 => by
      have h3 := HRn.out
      rw [h2, h1] at h3
      simpa using h3.symm
    cases hbx : bx
    · have HRe := Lib.hid (hbad false rfl (by rw [hbx]; rfl))
      subst hbx
      clear hbad HRn
      go_wp2_with fail
      rw [HRe.out]
      exact bodyPost_row2 rfl rfl (blk_set (i := 2) (v := .slice none 0 0) (blk_set (i := 1) (v := .int .i64 0) (blk_set (i := 0) (v := .int .i64 0) HZ3.out))) Tryz.underlying44 rfl (by kernel_rfl) (RecParsed.bad HB3.out (Nat.le_succ _))
    cases hby : by_
    · have HRe := Lib.hid (hbad false rfl (by rw [hbx, hby]; rfl))
      subst hbx hby
      clear hbad HRn
      go_wp2_with fail
      rw [HRe.out]
      exact bodyPost_row2 rfl rfl (blk_set (i := 2) (v := .slice none 0 0) (blk_set (i := 1) (v := .int .i64 0) (blk_set (i := 0) (v := .int .i64 0) HZ3.out))) Tryz.underlying44 rfl (by kernel_rfl) (RecParsed.bad HB3.out (Nat.le_succ _))
    subst hbx hby
    have hRn := HRn.out
    rw [if_pos (by rfl)] at hRn
    obtain ⟨Z, hZ⟩ : ∃ Z : RecL, (⟨atoiV x, atoiV y, L.drop 2⟩ : RecL) = Z := ⟨_, rfl⟩
    rw [hZ] at hRn
    have HRf := Lib.hid hRn; have HZZ := Lib.hid hZ
    have hdl : ∀ u ∈ L.drop 2, u.length ≤ 1000000 := fun u hu => by have := HSz.out u (List.mem_of_mem_drop hu); simp at this; omega
    have hdn : (L.drop 2).length ≤ 5 := by rw [List.length_drop, Hn.out]; omega
    have HDl := Lib.hid hdl; have HDn := Lib.hid hdn
    clear hbad HRn hRn hZ hdl hdn
    have hs3 := HS3.out
    have hvec : Vec w3 (fun b => w.heap.size + 1 < b) 1 encS (.slice (some ⟨W.heap.size, 2, none⟩) (n - 2) (n - 2)) (L.drop 2) := by have := HRow3.out.from2S (S := fun b => w.heap.size + 1 < b) (by omega) (by rw [Hn.out]; omega) (L.length - 2) (Nat.le_refl _); rwa [Hn.out] at this
    have HVec := Lib.hid hvec
    obtain ⟨s0, s1, s2, s3⟩ := cellsS hs3
    have ls3 := lt_of_blk hs3
    have hb3' := HB3.out.size
    clear hvec hs3
    go_wp2_with fail
    refine wp_calls_world (fun W5 hW5 => ?_)
    have hb5 : Below w3.heap.size w3 W5 := by rw [hW5]; exact (Below.refl w3.heap.size w3).alloc (Nat.le_refl _) _
    have hx5 : W5.heap[w3.heap.size]? = some (.cells #[.int .i64 (atoiV x), .int .i64 (atoiV y), .slice (some ⟨W.heap.size, 2, none⟩) (n - 2) (n - 2)] 44 (0, 0)) := by rw [hW5]; exact blk_new rfl
    clear hW5
    have hck := rchk_any S (.slice af N cf) vt vn vs s Z (.slice (some ⟨W.heap.size, 2, none⟩) (n - 2) (n - 2)) W5 (HSc.out.below (HB3.out.trans (hb5.mono HB3.out.size))) (by rw [← HZZ.out]; exact (HVec.out.below hb5).any) (by rw [← HZZ.out]; exact HDl.out) (by rw [← HZZ.out]; show (L.drop 2).length ≤ _; have := HDn.out; omega)
    rw [← HZZ.out] at hck
    dsimp only at hck
    rw [HZZ.out] at hck
    refine hck.mono ?_
    rintro e w6 ⟨rfl, hb⟩
    have hx6 := blk_below hb (lt_of_blk hx5) hx5
    have hz5 := blk_below hb5 (lt_of_blk HZ3.out) HZ3.out
    have hz6 := blk_below hb (lt_of_blk hz5) hz5
    have HB6 := Lib.hid ((HB3.out.trans (hb5.mono HB3.out.size)).trans (hb.mono (Nat.le_trans HB3.out.size hb5.size)))
    have HV6 := Lib.hid ((HVec.out.below hb5).below hb)
    have HX6 := Lib.hid hx6; have HZ6 := Lib.hid hz6
    obtain ⟨x0, x1, x2⟩ := cells3 hx6
    obtain ⟨z0, z1, z2⟩ := cells3 hz6
    have f0 := frozen_of_row _ _ 0 _ _ hz6; have f1 := frozen_of_row _ _ 1 _ _ hz6; have f2 := frozen_of_row _ _ 2 _ _ hz6
    have lz6 := lt_of_blk hz6; have lx := lt_of_blk hx6
    clear hb hb5 hx5 hx6 hz5 hz6 hck s0 s1 s2 s3
    rcases checkI_two s Z with h0 | h7
    · have hRf := HRf.out
      rw [if_pos h0] at hRf
      have HRe := Lib.hid hRf
      rw [h0]
      have d00 : ((0 : Int) != 0) = false := rfl
      clear h0 hRf HRf
      go_wp2_with fail
      rw [← HRe.out, ← HZZ.out]
      refine bodyPost_row2 rfl rfl (blk_set (i := 2) (v := .slice (some ⟨W.heap.size, 2, none⟩) (n - 2) (n - 2)) (blk_set (i := 1) (v := .int .i64 (atoiV y)) (blk_set (i := 0) (v := .int .i64 (atoiV x)) HZ6.out))) Tryz.underlying44 rfl (by kernel_rfl) ?_
      refine ⟨_, rfl, ⟨_, rfl, ?_⟩, ((HB6.out.setCell (p := ⟨w.heap.size + 1, 0, none⟩) (Nat.le_succ _) _).setCell (p := ⟨w.heap.size + 1, 1, none⟩) (Nat.le_succ _) _).setCell (p := ⟨w.heap.size + 1, 2, none⟩) (Nat.le_succ _) _⟩
      refine HV6.out.move (by simp [World.setCell]) fun b hb hs => ?_
      have hs' : w.heap.size + 1 < b := hs
      exact ⟨((heap_setCell_other _ _ _ _ (by show b ≠ w.heap.size + 1; omega)).trans (heap_setCell_other _ _ _ _ (by show b ≠ w.heap.size + 1; omega))).trans (heap_setCell_other _ _ _ _ (by show b ≠ w.heap.size + 1; omega)), by show w.heap.size ≤ b; omega⟩
    · have hRf := HRf.out
      rw [if_neg (by rw [h7]; decide), h7] at hRf
      have HRe := Lib.hid hRf
      rw [h7]
      have d77 : ((7 : Int) != 0) = true := rfl
      clear h7 hRf HRf
      go_wp2_with fail
      rw [← HRe.out]
      exact bodyPost_row2 rfl rfl (blk_set (i := 2) (v := .slice none 0 0) (blk_set (i := 1) (v := .int .i64 0) (blk_set (i := 0) (v := .int .i64 0) HZ6.out))) Tryz.underlying44 rfl (by kernel_rfl) (RecParsed.bad HB6.out (Nat.le_succ _))
  · have d2 : ((n : Int) != (N : Int) + 2) = true := by simp; omega
    have hRn := HR.out
    rw [if_neg hl] at hRn
    subst hRn
    clear hl
    go_wp2_with fail
    exact bodyPost_row2 rfl rfl (blk_set (i := 2) (v := .slice none 0 0) (blk_set (i := 1) (v := .int .i64 0) (blk_set (i := 0) (v := .int .i64 0) HZ1.out))) Tryz.underlying44 rfl (by kernel_rfl) (RecParsed.bad HB1.out (Nat.le_succ _))
end
section
set_option maxRecDepth 100000
open Go.RowKit Cal
attribute [local go_sem] toList_mk mk_size
set_option maxHeartbeats 4000000 in
theorem rLineV_yes (S : Nat → Prop) (vf vt vn vs : Value) (s : SchemaL) (r : RecL) (sv : Value) (w : World) (h : SchemaAt w S vf vt vn vs s) (hv : Vec w Any1 1 encS sv r.vals) (hc : checkN s r = 0) (hck : checkS s = 0) (hvr : VarsAt w) :
    Calls Tryz.prog 13 #[.agg #[vf, vt, vn, vs], .agg #[.int .i64 r.id, .int .i64 r.ver, sv]] w fun e w' => e = .returned (.tuple #[strV (lineR r), .int .i64 0]) ∧ Below w.heap.size w w' := by
  have hI : checkI s r = 0 := by unfold checkN at hc; rwa [if_pos hck] at hc
  obtain ⟨hid, hl, hvs⟩ := checkI_ok hI
  have h5 := (check_fields hck).1.2
  have hs : ∀ t ∈ r.vals, t.length ≤ 64 := fun t ht => (hvs t ht).1
  have hn : r.vals.length ≤ 5 := by omega
  obtain ⟨a, cap, rfl⟩ := hv.slice
  have HV := Lib.hid hv; have HS := Lib.hid h; have HC := Lib.hid hc; have HI := Lib.hid hid; have HSh := Lib.hid hs; have HVr := Lib.hid hvr
  have dz : ((0 : Int) != 0) = false := rfl
  obtain ⟨L, hL⟩ : ∃ L, lineR r = L := ⟨_, rfl⟩
  rw [hL]
  have HL := Lib.hid hL
  obtain ⟨id, ver, vals⟩ := r
  dsimp only at HV HI HSh hn ⊢
  clear hv h hc hid hs hvs hl hI hck hvr h5 hL
  go_enter Tryz.func13, Tryz.ntmps13
  go_wp2_with fail
  refine wp_calls_world (fun W hW => ?_)
  have hb0 : Below w.heap.size w W := by rw [hW]; exact ((Below.refl w.heap.size w).alloc (Nat.le_refl _) _).alloc (by simp) _
  have hr0 : W.heap[w.heap.size + 1]? = some (.cells #[.int .i64 id, .int .i64 ver, .slice a vals.length cap] 44 (0, 0)) := by rw [hW]; exact blk_new (by simp)
  clear hW
  refine (rcheck_all S _ _ _ _ s ⟨id, ver, vals⟩ _ W (HS.out.below hb0) (HV.out.below hb0) (fun t ht => by have := HSh.out t ht; omega) (by show vals.length ≤ 1000000; omega)).mono ?_
  rw [HC.out]
  rintro e w1 ⟨rfl, hb⟩
  have hr1 := blk_below hb (lt_of_blk hr0) hr0
  have HB1 := Lib.hid (hb0.trans (hb.mono hb0.size))
  obtain ⟨r0, r1, r2⟩ := cells3 hr1
  clear hb hb0 hr0 hr1
  go_wp2_with fail
  refine (rlineV_yes Any1 ⟨id, ver, vals⟩ _ w1 (HV.out.below HB1.out) (HVr.out.old HB1.out) HI.out HSh.out hn).mono ?_
  rw [HL.out]
  rintro e w2 ⟨rfl, hb⟩
  have HB2 := Lib.hid (HB1.out.trans (hb.mono HB1.out.size))
  clear hb
  go_wp2_with fail
  go_ret2
  exact ⟨rfl, HB2.out⟩
set_option maxHeartbeats 4000000 in
theorem rParse_any (S : Nat → Prop) (vf vt vn vs : Value) (s : SchemaL) (t : List UInt8) (w : World) (h : SchemaAt w S vf vt vn vs s) (hc : checkS s = 0) (hvr : VarsAt w) (ht : t.length ≤ 100000) :
    Calls Tryz.prog 14 #[.agg #[vf, vt, vn, vs], strV t] w (RecParsed (parseR s t) w) := by
  obtain ⟨⟨r, er⟩, hR⟩ : ∃ R, parseR s t = R := ⟨_, rfl⟩
  rw [hR]
  have HS := Lib.hid h; have HC := Lib.hid hc; have HVr := Lib.hid hvr; have HR := Lib.hid hR
  have dz : ((0 : Int) != 0) = false := rfl
  clear h hc hvr hR
  go_enter Tryz.func14, Tryz.ntmps14
  go_wp2_with fail
  refine wp_calls_world (fun W hW => ?_)
  have hb0 : Below w.heap.size w W := by rw [hW]; exact ((Below.refl w.heap.size w).alloc (Nat.le_refl _) _).alloc (by simp) _
  have hs0 : W.heap[w.heap.size]? = some (.cells #[vf, vt, vn, vs] 33 (0, 0)) := by rw [hW]; exact blk_old (blk_new rfl)
  have hz0 : W.heap[w.heap.size + 1]? = some (.cells #[.int .i64 0, .int .i64 0, .slice none 0 0] 44 (0, 0)) := by rw [hW]; exact blk_new (by simp)
  clear hW
  refine (scheck_any S vf vt vn vs s W (HS.out.below hb0)).mono ?_
  rw [HC.out]
  rintro e w1 ⟨rfl, hb⟩
  have hs1 := blk_below hb (lt_of_blk hs0) hs0
  have hz1 := blk_below hb (lt_of_blk hz0) hz0
  have HB1 := Lib.hid (hb0.trans (hb.mono hb0.size)); have HZ1 := Lib.hid hz1
  obtain ⟨p0, p1, p2, p3⟩ := cellsS hs1
  clear hb hb0 hs0 hs1 hz0 hz1
  go_wp2_with fail
  refine (precparse_any S vf vt vn vs s t w1 (HS.out.below HB1.out) HC.out (HVr.out.old HB1.out) ht).mono ?_
  rw [HR.out]
  rintro e w2 ⟨_, rfl, ⟨sv, rfl, hvv⟩, hb⟩
  obtain ⟨as', cs', rfl⟩ := hvv.slice
  have hz2 := blk_below hb (lt_of_blk HZ1.out) HZ1.out
  have f0 := frozen_of_row _ _ 0 _ _ hz2; have f1 := frozen_of_row _ _ 1 _ _ hz2; have f2 := frozen_of_row _ _ 2 _ _ hz2
  have lz := lt_of_blk HZ1.out
  obtain ⟨z0, z1, z2⟩ := cells3 hz2
  have HB2 := Lib.hid (HB1.out.trans (hb.mono HB1.out.size)); have HVV := Lib.hid hvv; have HB12 := Lib.hid hb; have HZ2 := Lib.hid hz2
  clear hb hvv hz2
  go_wp2_with fail
  refine bodyPost_row2 rfl rfl (blk_set (i := 2) (v := .slice as' r.vals.length cs') (blk_set (i := 1) (v := .int .i64 r.ver) (blk_set (i := 0) (v := .int .i64 r.id) HZ2.out))) Tryz.underlying44 rfl (by kernel_rfl) ?_
  refine ⟨_, rfl, ⟨_, rfl, ?_⟩, ((HB2.out.setCell (p := ⟨w.heap.size + 1, 0, none⟩) (Nat.le_succ _) _).setCell (p := ⟨w.heap.size + 1, 1, none⟩) (Nat.le_succ _) _).setCell (p := ⟨w.heap.size + 1, 2, none⟩) (Nat.le_succ _) _⟩
  have hz := lt_of_blk HZ1.out
  refine HVV.out.move (by simp [World.setCell]) fun b hb hs => ?_
  have hs' : w1.heap.size ≤ b := hs
  exact ⟨((heap_setCell_other _ _ _ _ (by show b ≠ w.heap.size + 1; omega)).trans (heap_setCell_other _ _ _ _ (by show b ≠ w.heap.size + 1; omega))).trans (heap_setCell_other _ _ _ _ (by show b ≠ w.heap.size + 1; omega)), by show w.heap.size ≤ b; omega⟩
end
section
set_option maxRecDepth 100000
open Go.RowKit Cal
attribute [local go_sem] toList_mk mk_size str_append
theorem ext_drop (a b : List UInt8) (n : Nat) (hn : n = (a ++ 9 :: b).length) : (⟨(a ++ 9 :: b).toArray⟩ : ByteArray).extract (a.length + 1) n = ⟨b.toArray⟩ := by
  subst hn
  apply ByteArray.ext
  rw [ByteArray.data_extract]
  simp
  exact List.take_of_length_le (by omega)
theorem lastIx_any (t : List UInt8) (w : World) (ht : t.length ≤ 1000000000) : Calls Tryz.prog 79 #[strV t, .int .u8 9] w fun e w' => e = .returned (.int .i64 (Lib.lastIndexByte ⟨t.toArray⟩ 9)) ∧ w' = w := Tryz.strings_LastIndexByte ⟨t.toArray⟩ 9 (by rw [mk_size]; omega) w
set_option maxHeartbeats 16000000 in
theorem rtake_any (S T : Nat → Prop) (vf vt vn vs lv : Value) (s : SchemaL) (l : List RecL) (row : List UInt8) (w : World) (h : SchemaAt w S vf vt vn vs s) (hc : checkS s = 0) (hl : RecsVec w T lv l) (hl6 : l.length ≤ 64) (hvr : VarsAt w) (hdb : DbAt w) (ht : row.length ≤ 50000) :
    Calls Tryz.prog 44 #[.agg #[vf, vt, vn, vs], lv, strV row] w (RecParsed (takeN s l row) w) := by
  obtain ⟨R, hR⟩ : ∃ R, takeN s l row = R := ⟨_, rfl⟩
  rw [hR]
  unfold takeN at hR
  obtain ⟨al, cl, rfl⟩ := hl.slice
  have HSc := Lib.hid h; have HVr := Lib.hid hvr; have HDb := Lib.hid hdb; have HC := Lib.hid hc; have HL := Lib.hid hl
  clear hvr h hc hdb hl
  cases hcut : cutLast 9 row with
  | none =>
    rw [hcut] at hR
    have hR : (noRec, 14) = R := hR
    subst hR
    have hix := lastI_no row (cutLast_none hcut)
    have hcall := fun w => lastIx_any row w (by omega)
    rw [hix] at hcall
    have HI := Lib.hid hcall
    clear hcut hix hcall
    go_enter Tryz.func44, Tryz.ntmps44
    go_wp2_with fail
    refine (HI.out _).mono ?_
    rintro e w1 ⟨rfl, rfl⟩
    go_wp2_with fail
    refine bodyPost_row2 rfl rfl (blk_new (by simp)) Tryz.underlying44 rfl (by kernel_rfl) ⟨_, rfl, RecVal.none _ _, ?_⟩
    exact ((Below.refl w.heap.size w).alloc (Nat.le_refl _) _).alloc (by simp) _
  | some ab =>
    obtain ⟨a, b⟩ := ab
    obtain ⟨hrow, hno⟩ := cutLast_some hcut
    rw [hcut] at hR
    dsimp only at hR
    subst hrow
    have hix := lastI_at a b hno
    have hcall := fun w => lastIx_any (a ++ 9 :: b) w (by omega)
    rw [hix] at hcall
    have hlen : a.length + 1 + b.length ≤ 50000 := by simp at ht; omega
    have hx1 := ext_drop a b (a.length + 1 + b.length) (by simp; omega)
    have hx2 := extract_take (a ++ 9 :: b) a.length
    rw [List.take_left] at hx2
    obtain ⟨row, hrw⟩ : ∃ row, a ++ 9 :: b = row := ⟨_, rfl⟩
    have hrl : row.length = a.length + 1 + b.length := by rw [← hrw]; simp; omega
    have hw1 : IntKind.i64.wrap ((a.length : Int) + 1) = (a.length : Int) + 1 := by rw [IntKind.wrap_i64]; omega
    have hq1 : (0 : Int) ≤ (a.length : Int) + 1 := by omega
    have hq2 : (a.length : Int) + 1 ≤ (a.length : Int) + 1 + (b.length : Int) := by omega
    have hq3 : (a.length : Int) ≤ (a.length : Int) + 1 + (b.length : Int) := by omega
    have hq4 : ((a.length : Int) + 1).toNat = a.length + 1 := by omega
    rw [hrw] at hcall hx1 hx2 ⊢
    have HI := Lib.hid hcall; have HR := Lib.hid hR
    clear hcut hix hcall hno hrw ht hR
    go_enter Tryz.func44, Tryz.ntmps44
    go_wp2_with fail
    refine wp_calls_world (fun W hW => ?_)
    have hb0 : Below w.heap.size w W := by rw [hW]; exact ((Below.refl w.heap.size w).alloc (Nat.le_refl _) _).alloc (by simp) _
    have hs0 : W.heap[w.heap.size]? = some (.cells #[vf, vt, vn, vs] 33 (0, 0)) := by rw [hW]; exact blk_old (blk_new rfl)
    have hz0 : W.heap[w.heap.size + 1]? = some (.cells #[.int .i64 0, .int .i64 0, .slice none 0 0] 44 (0, 0)) := by rw [hW]; exact blk_new (by simp)
    clear hW
    have HB0 := Lib.hid hb0; have HS0 := Lib.hid hs0; have HZ0 := Lib.hid hz0
    clear hb0 hs0 hz0
    refine (HI.out _).mono ?_
    rintro e w1 ⟨rfl, rfl⟩
    go_wp2_with fail
    refine (digits_any b w1 (by omega)).mono ?_
    rintro e w2 ⟨rfl, hb⟩
    have HB2 := Lib.hid (HB0.out.trans (hb.mono HB0.out.size)); have HS2 := Lib.hid (blk_below hb (lt_of_blk HS0.out) HS0.out); have HZ2 := Lib.hid (blk_below hb (lt_of_blk HZ0.out) HZ0.out)
    clear hb HS0 HZ0 HB0
    have hR := HR.out
    cases hdg : digB b
    · rw [hdg] at hR
      have hR : (noRec, 14) = R := hR
      have HRe := Lib.hid hR
      obtain ⟨z0, z1, z2⟩ := cells3 HZ2.out
      have f0 := frozen_of_row _ _ 0 _ _ HZ2.out; have f1 := frozen_of_row _ _ 1 _ _ HZ2.out; have f2 := frozen_of_row _ _ 2 _ _ HZ2.out
      have lz := lt_of_blk HZ2.out
      clear hR HR hdg
      go_wp2_with fail
      rw [← HRe.out]
      exact bodyPost_row2 rfl rfl (blk_set (i := 2) (v := .slice none 0 0) (blk_set (i := 1) (v := .int .i64 0) (blk_set (i := 0) (v := .int .i64 0) HZ2.out))) Tryz.underlying44 rfl (by kernel_rfl) (RecParsed.bad HB2.out (Nat.le_succ _))
    · rw [hdg, if_pos rfl] at hR
      have hsum := fun w hw => rsum_any' a w (by omega) hw
      obtain ⟨z, hz⟩ : ∃ z, sumT a = z := ⟨_, rfl⟩
      rw [hz] at hsum hR
      have HSm := Lib.hid hsum
      clear hsum hz hdg
      have bD : Below w2.heap.size w2 w2.drew := (Below.refl _ _).drew
      have hdb2 := (HDb.out.old HB2.out).old bD
      by_cases hs : b = z
      · have dz : (b == z) = true := by simpa using hs
        rw [if_pos hs] at hR
        have HR2 := Lib.hid hR
        clear hR HR hs
        go_wp2_with fail
        refine wp_region_noPanic ?_
        refine wp_region_held_drew (S := (fun _ => True)) (by kernel_rfl) (trivial) (fun hHeld => ?_)
        refine tH 0 (h := ?_)
        try simp only [List.getElem_toArray, List.getElem_cons_zero, List.getElem_cons_succ, Act.put, List.setIfInBounds_toArray, List.set_cons_zero, List.set_cons_succ]
        refine tH 1 (h := ?_)
        try simp only [List.getElem_toArray, List.getElem_cons_zero, List.getElem_cons_succ, Act.put, List.setIfInBounds_toArray, List.set_cons_zero, List.set_cons_succ]
        refine tH 2 (h := ?_)
        try simp only [List.getElem_toArray, List.getElem_cons_zero, List.getElem_cons_succ, Act.put, List.setIfInBounds_toArray, List.set_cons_zero, List.set_cons_succ]
        refine tH 3 (h := ?_)
        try simp only [List.getElem_toArray, List.getElem_cons_zero, List.getElem_cons_succ, Act.put, List.setIfInBounds_toArray, List.set_cons_zero, List.set_cons_succ]
        refine tH 4 (h := ?_)
        try simp only [List.getElem_toArray, List.getElem_cons_zero, List.getElem_cons_succ, Act.put, List.setIfInBounds_toArray, List.set_cons_zero, List.set_cons_succ]
        refine tH 5 (h := ?_)
        try simp only [List.getElem_toArray, List.getElem_cons_zero, List.getElem_cons_succ, Act.put, List.setIfInBounds_toArray, List.set_cons_zero, List.set_cons_succ]
        refine tH 6 (h := ?_)
        try simp only [List.getElem_toArray, List.getElem_cons_zero, List.getElem_cons_succ, Act.put, List.setIfInBounds_toArray, List.set_cons_zero, List.set_cons_succ]
        refine wpAnyH_ready (rs := [7]) (by kernel_rfl) (by simp) ?_
        refine AllReadyH.cons rfl (fun K hK => ?_) AllReadyH.nil
        go_simp
        refine (HSm.out _ hdb2).mono ?_; rintro e w3 ⟨rfl, hb⟩; have b3 := bD.trans (hb.mono bD.size); clear hb
        refine hK.out _ _ (trivial) (fun hHeld => ?_)
        clear hK K
        try simp only [List.getElem_toArray, List.getElem_cons_zero, List.getElem_cons_succ, Act.put, List.setIfInBounds_toArray, List.set_cons_zero, List.set_cons_succ]
        refine tH 8 (h := ?_)
        try simp only [List.getElem_toArray, List.getElem_cons_zero, List.getElem_cons_succ, Act.put, List.setIfInBounds_toArray, List.set_cons_zero, List.set_cons_succ]
        refine tH 9 (h := ?_)
        try simp only [List.getElem_toArray, List.getElem_cons_zero, List.getElem_cons_succ, Act.put, List.setIfInBounds_toArray, List.set_cons_zero, List.set_cons_succ]
        refine wpAnyH_done (by kernel_rfl) ?_ _
        refine NoPanic.normal ?_
        have HB3 := Lib.hid (HB2.out.trans (b3.mono HB2.out.size)); have HS3 := Lib.hid (blk_below b3 (lt_of_blk HS2.out) HS2.out); have HZ3 := Lib.hid (blk_below b3 (lt_of_blk HZ2.out) HZ2.out)
        clear b3 HS2 HZ2 bD hdb2 hHeld HSm dz
        obtain ⟨⟨r1, er⟩, hp⟩ : ∃ p, parseR s a = p := ⟨_, rfl⟩
        have hcall := fun w h1 h2 => precparse_any S vf vt vn vs s a w h1 HC.out h2 (by omega)
        rw [hp] at hcall
        have hR3 := HR2.out
        rw [hp] at hR3
        dsimp only at hR3
        have HP := Lib.hid hcall; have HR3 := Lib.hid hR3
        obtain ⟨s0, s1, s2, s3⟩ := cellsS HS3.out
        have ls := lt_of_blk HS3.out
        have lz3 := lt_of_blk HZ3.out
        have bD : Below w3.heap.size w3 w3.drew := (Below.refl _ _).drew
        clear hcall hR3 hp HR2
        go_wp2_with fail
        go_cut [9, 10] (fun s9 s10 wx => ∃ (xb : Nat) (sv : Value), s9 = .pointer (some ⟨xb, 0, none⟩) ∧ s10 = .int .i64 er ∧ wx.heap[xb]? = some (.cells #[.int .i64 r1.id, .int .i64 r1.ver, sv] 44 (0, 0)) ∧ Vec wx (fun b => w.heap.size + 1 < b ∧ b ≠ xb) 1 encS sv r1.vals ∧ Below w3.heap.size w3 wx ∧ w.heap.size + 1 < xb)
        case first =>
          refine wp_region_noPanic ?_
          refine wp_region_held_drew (S := (fun w' => w'.cell? ⟨w.heap.size, 0, none⟩ = some vf ∧ w'.cell? ⟨w.heap.size, 1, none⟩ = some vt ∧ w'.cell? ⟨w.heap.size, 2, none⟩ = some vn ∧ w'.cell? ⟨w.heap.size, 3, none⟩ = some vs)) (by kernel_rfl) (⟨s0, s1, s2, s3⟩) (fun hHeld => ?_)
          refine tH 0 (h := ?_)
          try simp only [List.getElem_toArray, List.getElem_cons_zero, List.getElem_cons_succ, Act.put, List.setIfInBounds_toArray, List.set_cons_zero, List.set_cons_succ]
          refine tH 1 (h := ?_)
          try simp only [List.getElem_toArray, List.getElem_cons_zero, List.getElem_cons_succ, Act.put, List.setIfInBounds_toArray, List.set_cons_zero, List.set_cons_succ]
          refine tH 2 (h := ?_)
          try simp only [List.getElem_toArray, List.getElem_cons_zero, List.getElem_cons_succ, Act.put, List.setIfInBounds_toArray, List.set_cons_zero, List.set_cons_succ]
          refine tH 3 (h := ?_)
          try simp only [List.getElem_toArray, List.getElem_cons_zero, List.getElem_cons_succ, Act.put, List.setIfInBounds_toArray, List.set_cons_zero, List.set_cons_succ]
          refine wpAnyH_ready (rs := [4, 8]) (by kernel_rfl) (by simp) ?_
          refine AllReadyH.cons rfl (fun K hK => ?_) (AllReadyH.cons rfl (fun K hK => ?_) (AllReadyH.nil))
          focus
            go_simp
            refine (HP.out _ ((HSc.out.below HB3.out).below bD) ((HVr.out.old HB3.out).old bD)).mono ?_
            rintro e V1 ⟨_, rfl, ⟨sv, rfl, hv⟩, hb⟩
            have b1 := bD.trans (hb.mono bD.size)
            have hv := hv.move (w' := V1) (S' := fun b => w.heap.size + 1 < b) (Nat.le_refl _) fun b hb' hs => ⟨rfl, by have h1 : w3.heap.size ≤ b := hs; show w.heap.size + 1 < b; omega⟩
            clear hb
            refine hK.out _ _ (⟨(b1.cell (p := ⟨w.heap.size, 0, none⟩) ls).trans s0, (b1.cell (p := ⟨w.heap.size, 1, none⟩) ls).trans s1, (b1.cell (p := ⟨w.heap.size, 2, none⟩) ls).trans s2, (b1.cell (p := ⟨w.heap.size, 3, none⟩) ls).trans s3⟩) (fun hHeld => ?_)
            clear hK K
            try simp only [List.getElem_toArray, List.getElem_cons_zero, List.getElem_cons_succ, Act.put, List.setIfInBounds_toArray, List.set_cons_zero, List.set_cons_succ]
            refine tH 5 (h := ?_)
            try simp only [List.getElem_toArray, List.getElem_cons_zero, List.getElem_cons_succ, Act.put, List.setIfInBounds_toArray, List.set_cons_zero, List.set_cons_succ]
            refine tH 6 (h := ?_)
            try simp only [List.getElem_toArray, List.getElem_cons_zero, List.getElem_cons_succ, Act.put, List.setIfInBounds_toArray, List.set_cons_zero, List.set_cons_succ]
            refine tH 7 (h := ?_)
            try simp only [List.getElem_toArray, List.getElem_cons_zero, List.getElem_cons_succ, Act.put, List.setIfInBounds_toArray, List.set_cons_zero, List.set_cons_succ]
            refine wpAnyH_ready (rs := [8]) (by kernel_rfl) (by simp) ?_
            refine AllReadyH.cons rfl (fun K hK => ?_) (AllReadyH.nil)
            go_simp
            refine hK.out _ _ (⟨((b1.alloc b1.size (.cells #[.int .i64 0, .int .i64 0, .slice none 0 0] 44)).cell (p := ⟨w.heap.size, 0, none⟩) ls).trans s0, ((b1.alloc b1.size (.cells #[.int .i64 0, .int .i64 0, .slice none 0 0] 44)).cell (p := ⟨w.heap.size, 1, none⟩) ls).trans s1, ((b1.alloc b1.size (.cells #[.int .i64 0, .int .i64 0, .slice none 0 0] 44)).cell (p := ⟨w.heap.size, 2, none⟩) ls).trans s2, ((b1.alloc b1.size (.cells #[.int .i64 0, .int .i64 0, .slice none 0 0] 44)).cell (p := ⟨w.heap.size, 3, none⟩) ls).trans s3⟩) (fun hHeld => ?_)
            clear hK K
            try simp only [List.getElem_toArray, List.getElem_cons_zero, List.getElem_cons_succ, Act.put, List.setIfInBounds_toArray, List.set_cons_zero, List.set_cons_succ]
            refine wph_name (fun V2 hV => ?_)
            have b2 : Below w3.heap.size w3 V2 := by rw [hV]; exact b1.alloc b1.size (.cells #[.int .i64 0, .int .i64 0, .slice none 0 0] 44)
            have gx : V2.heap[V1.heap.size]? = some (.cells #[.int .i64 0, .int .i64 0, .slice none 0 0] 44 (0, 0)) := by rw [hV]; exact blk_new rfl
            have hrx : w3.heap.size ≤ V1.heap.size := b1.size
            have hv := hv.move (w' := V2) (S' := fun b => w.heap.size + 1 < b ∧ b ≠ V1.heap.size) (by rw [hV]; simp) fun b hb' hs => ⟨by rw [hV]; exact heap_alloc_old _ _ hb', hs, by omega⟩
            clear hV hHeld
            have hHeld : V2.cell? ⟨w.heap.size, 0, none⟩ = some vf ∧ V2.cell? ⟨w.heap.size, 1, none⟩ = some vt ∧ V2.cell? ⟨w.heap.size, 2, none⟩ = some vn ∧ V2.cell? ⟨w.heap.size, 3, none⟩ = some vs := ⟨(b2.cell (p := ⟨w.heap.size, 0, none⟩) ls).trans s0, (b2.cell (p := ⟨w.heap.size, 1, none⟩) ls).trans s1, (b2.cell (p := ⟨w.heap.size, 2, none⟩) ls).trans s2, (b2.cell (p := ⟨w.heap.size, 3, none⟩) ls).trans s3⟩
          rotate_left 1
          focus
            go_simp
            refine hK.out _ _ (⟨((bD.alloc bD.size (.cells #[.int .i64 0, .int .i64 0, .slice none 0 0] 44)).cell (p := ⟨w.heap.size, 0, none⟩) ls).trans s0, ((bD.alloc bD.size (.cells #[.int .i64 0, .int .i64 0, .slice none 0 0] 44)).cell (p := ⟨w.heap.size, 1, none⟩) ls).trans s1, ((bD.alloc bD.size (.cells #[.int .i64 0, .int .i64 0, .slice none 0 0] 44)).cell (p := ⟨w.heap.size, 2, none⟩) ls).trans s2, ((bD.alloc bD.size (.cells #[.int .i64 0, .int .i64 0, .slice none 0 0] 44)).cell (p := ⟨w.heap.size, 3, none⟩) ls).trans s3⟩) (fun hHeld => ?_)
            clear hK K
            try simp only [List.getElem_toArray, List.getElem_cons_zero, List.getElem_cons_succ, Act.put, List.setIfInBounds_toArray, List.set_cons_zero, List.set_cons_succ]
            refine wph_name (fun V1 hV => ?_)
            have b1 : Below w3.heap.size w3 V1 := by rw [hV]; exact bD.alloc bD.size (.cells #[.int .i64 0, .int .i64 0, .slice none 0 0] 44)
            have gx : V1.heap[w3.heap.size]? = some (.cells #[.int .i64 0, .int .i64 0, .slice none 0 0] 44 (0, 0)) := by rw [hV]; exact blk_new rfl
            have hrx : w3.heap.size ≤ w3.heap.size := Nat.le_refl _
            clear hV hHeld
            have hHeld : V1.cell? ⟨w.heap.size, 0, none⟩ = some vf ∧ V1.cell? ⟨w.heap.size, 1, none⟩ = some vt ∧ V1.cell? ⟨w.heap.size, 2, none⟩ = some vn ∧ V1.cell? ⟨w.heap.size, 3, none⟩ = some vs := ⟨(b1.cell (p := ⟨w.heap.size, 0, none⟩) ls).trans s0, (b1.cell (p := ⟨w.heap.size, 1, none⟩) ls).trans s1, (b1.cell (p := ⟨w.heap.size, 2, none⟩) ls).trans s2, (b1.cell (p := ⟨w.heap.size, 3, none⟩) ls).trans s3⟩
            refine wpAnyH_ready (rs := [4]) (by kernel_rfl) (by simp) ?_
            refine AllReadyH.cons rfl (fun K hK => ?_) (AllReadyH.nil)
            go_simp
            refine (HP.out _ ((HSc.out.below HB3.out).below b1) ((HVr.out.old HB3.out).old b1)).mono ?_
            rintro e V2 ⟨_, rfl, ⟨sv, rfl, hv⟩, hb⟩
            have b2 := b1.trans (hb.mono b1.size)
            have lx := lt_of_blk gx
            have gx := blk_below hb lx gx
            have hv := hv.move (w' := V2) (S' := fun b => w.heap.size + 1 < b ∧ b ≠ w3.heap.size) (Nat.le_refl _) fun b hb' hs => ⟨rfl, by have h1 : V1.heap.size ≤ b := hs; have h2 := b1.size; omega⟩
            clear hb
            refine hK.out _ _ (⟨(b2.cell (p := ⟨w.heap.size, 0, none⟩) ls).trans s0, (b2.cell (p := ⟨w.heap.size, 1, none⟩) ls).trans s1, (b2.cell (p := ⟨w.heap.size, 2, none⟩) ls).trans s2, (b2.cell (p := ⟨w.heap.size, 3, none⟩) ls).trans s3⟩) (fun hHeld => ?_)
            clear hK K
            try simp only [List.getElem_toArray, List.getElem_cons_zero, List.getElem_cons_succ, Act.put, List.setIfInBounds_toArray, List.set_cons_zero, List.set_cons_succ]
            refine tH 5 (h := ?_)
            try simp only [List.getElem_toArray, List.getElem_cons_zero, List.getElem_cons_succ, Act.put, List.setIfInBounds_toArray, List.set_cons_zero, List.set_cons_succ]
            refine tH 6 (h := ?_)
            try simp only [List.getElem_toArray, List.getElem_cons_zero, List.getElem_cons_succ, Act.put, List.setIfInBounds_toArray, List.set_cons_zero, List.set_cons_succ]
            refine tH 7 (h := ?_)
            try simp only [List.getElem_toArray, List.getElem_cons_zero, List.getElem_cons_succ, Act.put, List.setIfInBounds_toArray, List.set_cons_zero, List.set_cons_succ]
          all_goals
            obtain ⟨av, cv, rfl⟩ := hv.slice
            have lx := lt_of_blk gx; obtain ⟨y0, y1, y2⟩ := cells3 gx; have fx0 := frozen_of_row _ _ 0 _ _ gx; have fx1 := frozen_of_row _ _ 1 _ _ gx; have fx2 := frozen_of_row _ _ 2 _ _ gx
            have ms := ((b2.setCell (p := ⟨_, 0, none⟩) hrx (.int .i64 r1.id)).setCell (p := ⟨_, 1, none⟩) hrx (.int .i64 r1.ver)).setCell (p := ⟨_, 2, none⟩) hrx (.slice av r1.vals.length cv)
            refine wpAnyH_ready (rs := [9]) (by kernel_rfl) (by simp) ?_
            refine AllReadyH.cons rfl (fun K hK => ?_) AllReadyH.nil
            go_simp
            refine hK.out _ _ (⟨(ms.cell (p := ⟨w.heap.size, 0, none⟩) ls).trans s0, (ms.cell (p := ⟨w.heap.size, 1, none⟩) ls).trans s1, (ms.cell (p := ⟨w.heap.size, 2, none⟩) ls).trans s2, (ms.cell (p := ⟨w.heap.size, 3, none⟩) ls).trans s3⟩) (fun hHeld => ?_)
            clear hK K
            try simp only [List.getElem_toArray, List.getElem_cons_zero, List.getElem_cons_succ, Act.put, List.setIfInBounds_toArray, List.set_cons_zero, List.set_cons_succ]
            refine tH 10 (h := ?_)
            try simp only [List.getElem_toArray, List.getElem_cons_zero, List.getElem_cons_succ, Act.put, List.setIfInBounds_toArray, List.set_cons_zero, List.set_cons_succ]
            refine wpAnyH_done (by kernel_rfl) ?_ _
            refine NoPanic.normal ?_
            go_wp2_with fail
            go_meet
            exact ⟨_, _, rfl, rfl, blk_set (blk_set (blk_set gx)), ((hv.far (fun b hb => hb.2)).far (fun b hb => hb.2)).far (fun b hb => hb.2), ms, by omega⟩
        case rest =>
          obtain ⟨wu, hwu⟩ : ∃ u, u = wc := ⟨_, rfl⟩
          subst hwu
          obtain ⟨xb, sv, rfl, rfl, gx, hv, bq, hxb⟩ := hcut
          obtain ⟨av, cv, rfl⟩ := hv.slice
          have HB4 := Lib.hid (HB3.out.trans (bq.mono HB3.out.size)); have HZ4 := Lib.hid (blk_below bq lz3 HZ3.out)
          have HGx := Lib.hid gx; have HVx := Lib.hid hv
          obtain ⟨z0, z1, z2⟩ := cells3 HZ4.out
          have f0 := frozen_of_row _ _ 0 _ _ HZ4.out; have f1 := frozen_of_row _ _ 1 _ _ HZ4.out; have f2 := frozen_of_row _ _ 2 _ _ HZ4.out
          have lz4 := lt_of_blk HZ4.out
          obtain ⟨x0, x1, x2⟩ := cells3 gx
          have lx := lt_of_blk gx
          have hR4 := HR3.out
          clear bq gx hv s0 s1 s2 s3 ls lz3 HZ3 HS3 bD HR3 HP hw1 hq1 hq2 hq3 hq4 hx1 hx2
          by_cases he : er = 0
          · subst he
            have dz : ((0 : Int) != 0) = false := rfl
            rw [if_pos rfl] at hR4
            by_cases h64 : l.length = 64
            · have d64 : ((l.length : Int) == 64) = true := by simp; omega
              rw [if_pos h64] at hR4
              have HRe := Lib.hid hR4
              clear hR4 h64
              go_wp2_with fail
              rw [← HRe.out]
              exact bodyPost_row2 rfl rfl (blk_set (i := 2) (v := .slice none 0 0) (blk_set (i := 1) (v := .int .i64 0) (blk_set (i := 0) (v := .int .i64 0) HZ4.out))) Tryz.underlying44 rfl (by kernel_rfl) (RecParsed.bad HB4.out (Nat.le_succ _))
            · have d64 : ((l.length : Int) == 64) = false := by simp; omega
              rw [if_neg h64] at hR4
              have hfin : ∀ b, notB (lastId l) r1.id = b → R = if b = true then (noRec, 12) else (r1, 0) := fun b h => by rw [← hR4, h]
              have HFin := Lib.hid hfin
              clear hR4 h64 hfin
              by_cases h0 : l.length = 0
              · have hl0 : l = [] := List.length_eq_zero_iff.1 h0
                have hRe : R = (r1, 0) := HFin.out false (by rw [hl0]; rfl)
                have HRe := Lib.hid hRe
                have d0 : decide ((0 : Int) < (l.length : Int)) = false := by simp; omega
                have d0n : decide (0 < l.length) = false := by simp; omega
                clear hRe hl0 HFin h0
                go_wp2_with fail
                go_big_quiet (fail)
                go_wp2_with fail
                rw [HRe.out]
                refine bodyPost_row2 rfl rfl (blk_set (i := 2) (v := .slice av r1.vals.length cv) (blk_set (i := 1) (v := .int .i64 r1.ver) (blk_set (i := 0) (v := .int .i64 r1.id) HZ4.out))) Tryz.underlying44 rfl (by kernel_rfl) ?_
                refine ⟨_, rfl, ⟨_, rfl, ?_⟩, (((below_drewN HB4.out _).setCell (p := ⟨w.heap.size + 1, 0, none⟩) (Nat.le_succ _) _).setCell (p := ⟨w.heap.size + 1, 1, none⟩) (Nat.le_succ _) _).setCell (p := ⟨w.heap.size + 1, 2, none⟩) (Nat.le_succ _) _⟩
                refine HVx.out.move (by simp [World.setCell]) fun b hb hs => ?_
                have hs' : w.heap.size + 1 < b ∧ b ≠ xb := hs
                exact ⟨((heap_setCell_other _ _ _ _ (by show b ≠ w.heap.size + 1; omega)).trans (heap_setCell_other _ _ _ _ (by show b ≠ w.heap.size + 1; omega))).trans (heap_setCell_other _ _ _ _ (by show b ≠ w.heap.size + 1; omega)), by show w.heap.size ≤ b; omega⟩
              · obtain ⟨m, hm⟩ : ∃ m, l.length - 1 = m := ⟨_, rfl⟩
                have hml : m < l.length := by omega
                have d0 : decide ((0 : Int) < (l.length : Int)) = true := by simp; omega
                have d0n : decide (0 < l.length) = true := by simp; omega
                have hwm : IntKind.i64.wrap ((l.length : Int) - 1) = (m : Int) := by rw [IntKind.wrap_i64]; omega
                have hmi : (m : Int) < (l.length : Int) := by omega
                obtain ⟨bb, oo, id, ver, aa, nn, cc, vals, eb, lb, c0, c1, c2, hRj, -⟩ := (HL.out.below HB4.out).at m hml
                cases eb
                have hlast : lastId l = some id := by
                  unfold lastId
                  rw [List.getLast?_eq_getElem?, hm, List.getElem?_eq_getElem hml, hRj]; rfl
                have hnb : notB (lastId l) r1.id = decide (r1.id ≤ id) := by rw [hlast]; rfl
                by_cases hle : r1.id ≤ id
                · have dle : decide (r1.id ≤ id) = true := decide_eq_true hle
                  have hRe : R = (noRec, 12) := HFin.out true (by rw [hnb, dle])
                  have HRe := Lib.hid hRe
                  clear hRe hlast hnb HFin h0 hRj hm
                  go_wp2_with fail
                  go_big_quiet (fail)
                  go_wp2_with fail
                  rw [HRe.out]
                  exact bodyPost_row2 rfl rfl (blk_set (i := 2) (v := .slice none 0 0) (blk_set (i := 1) (v := .int .i64 0) (blk_set (i := 0) (v := .int .i64 0) HZ4.out))) Tryz.underlying44 rfl (by kernel_rfl) (RecParsed.bad (below_drewN HB4.out _) (Nat.le_succ _))
                · have dle : decide (r1.id ≤ id) = false := decide_eq_false hle
                  have hRe : R = (r1, 0) := HFin.out false (by rw [hnb, dle])
                  have HRe := Lib.hid hRe
                  clear hRe hlast hnb HFin h0 hRj hm
                  go_wp2_with fail
                  go_big_quiet (fail)
                  go_wp2_with fail
                  rw [HRe.out]
                  refine bodyPost_row2 rfl rfl (blk_set (i := 2) (v := .slice av r1.vals.length cv) (blk_set (i := 1) (v := .int .i64 r1.ver) (blk_set (i := 0) (v := .int .i64 r1.id) HZ4.out))) Tryz.underlying44 rfl (by kernel_rfl) ?_
                  refine ⟨_, rfl, ⟨_, rfl, ?_⟩, (((below_drewN HB4.out _).setCell (p := ⟨w.heap.size + 1, 0, none⟩) (Nat.le_succ _) _).setCell (p := ⟨w.heap.size + 1, 1, none⟩) (Nat.le_succ _) _).setCell (p := ⟨w.heap.size + 1, 2, none⟩) (Nat.le_succ _) _⟩
                  refine HVx.out.move (by simp [World.setCell]) fun b hb hs => ?_
                  have hs' : w.heap.size + 1 < b ∧ b ≠ xb := hs
                  exact ⟨((heap_setCell_other _ _ _ _ (by show b ≠ w.heap.size + 1; omega)).trans (heap_setCell_other _ _ _ _ (by show b ≠ w.heap.size + 1; omega))).trans (heap_setCell_other _ _ _ _ (by show b ≠ w.heap.size + 1; omega)), by show w.heap.size ≤ b; omega⟩
          · have dz : (er != 0) = true := by simpa using he
            rw [if_neg he] at hR4
            have HRe := Lib.hid hR4
            clear hR4 he
            go_wp2_with fail
            rw [← HRe.out]
            exact bodyPost_row2 rfl rfl (blk_set (i := 2) (v := .slice none 0 0) (blk_set (i := 1) (v := .int .i64 0) (blk_set (i := 0) (v := .int .i64 0) HZ4.out))) Tryz.underlying44 rfl (by kernel_rfl) (RecParsed.bad HB4.out (Nat.le_succ _))
      · have dz : (b == z) = false := by simpa using hs
        rw [if_neg hs] at hR
        have HRe := Lib.hid hR
        clear hR HR hs
        go_wp2_with fail
        refine wp_region_noPanic ?_
        refine wp_region_held_drew (S := (fun _ => True)) (by kernel_rfl) (trivial) (fun hHeld => ?_)
        refine tH 0 (h := ?_)
        try simp only [List.getElem_toArray, List.getElem_cons_zero, List.getElem_cons_succ, Act.put, List.setIfInBounds_toArray, List.set_cons_zero, List.set_cons_succ]
        refine tH 1 (h := ?_)
        try simp only [List.getElem_toArray, List.getElem_cons_zero, List.getElem_cons_succ, Act.put, List.setIfInBounds_toArray, List.set_cons_zero, List.set_cons_succ]
        refine tH 2 (h := ?_)
        try simp only [List.getElem_toArray, List.getElem_cons_zero, List.getElem_cons_succ, Act.put, List.setIfInBounds_toArray, List.set_cons_zero, List.set_cons_succ]
        refine tH 3 (h := ?_)
        try simp only [List.getElem_toArray, List.getElem_cons_zero, List.getElem_cons_succ, Act.put, List.setIfInBounds_toArray, List.set_cons_zero, List.set_cons_succ]
        refine tH 4 (h := ?_)
        try simp only [List.getElem_toArray, List.getElem_cons_zero, List.getElem_cons_succ, Act.put, List.setIfInBounds_toArray, List.set_cons_zero, List.set_cons_succ]
        refine tH 5 (h := ?_)
        try simp only [List.getElem_toArray, List.getElem_cons_zero, List.getElem_cons_succ, Act.put, List.setIfInBounds_toArray, List.set_cons_zero, List.set_cons_succ]
        refine tH 6 (h := ?_)
        try simp only [List.getElem_toArray, List.getElem_cons_zero, List.getElem_cons_succ, Act.put, List.setIfInBounds_toArray, List.set_cons_zero, List.set_cons_succ]
        refine wpAnyH_ready (rs := [7]) (by kernel_rfl) (by simp) ?_
        refine AllReadyH.cons rfl (fun K hK => ?_) AllReadyH.nil
        go_simp
        refine (HSm.out _ hdb2).mono ?_; rintro e w3 ⟨rfl, hb⟩; have b3 := bD.trans (hb.mono bD.size); clear hb
        refine hK.out _ _ (trivial) (fun hHeld => ?_)
        clear hK K
        try simp only [List.getElem_toArray, List.getElem_cons_zero, List.getElem_cons_succ, Act.put, List.setIfInBounds_toArray, List.set_cons_zero, List.set_cons_succ]
        refine tH 8 (h := ?_)
        try simp only [List.getElem_toArray, List.getElem_cons_zero, List.getElem_cons_succ, Act.put, List.setIfInBounds_toArray, List.set_cons_zero, List.set_cons_succ]
        refine tH 9 (h := ?_)
        try simp only [List.getElem_toArray, List.getElem_cons_zero, List.getElem_cons_succ, Act.put, List.setIfInBounds_toArray, List.set_cons_zero, List.set_cons_succ]
        refine wpAnyH_done (by kernel_rfl) ?_ _
        refine NoPanic.normal ?_
        have HB3 := Lib.hid (HB2.out.trans (b3.mono HB2.out.size)); have HZ3 := Lib.hid (blk_below b3 (lt_of_blk HZ2.out) HZ2.out)
        obtain ⟨z0, z1, z2⟩ := cells3 HZ3.out
        have f0 := frozen_of_row _ _ 0 _ _ HZ3.out; have f1 := frozen_of_row _ _ 1 _ _ HZ3.out; have f2 := frozen_of_row _ _ 2 _ _ HZ3.out
        have lz := lt_of_blk HZ3.out
        clear b3 HZ2 HS2 bD hdb2 hHeld
        go_wp2_with fail
        rw [← HRe.out]
        exact bodyPost_row2 rfl rfl (blk_set (i := 2) (v := .slice none 0 0) (blk_set (i := 1) (v := .int .i64 0) (blk_set (i := 0) (v := .int .i64 0) HZ3.out))) Tryz.underlying44 rfl (by kernel_rfl) (RecParsed.bad HB3.out (Nat.le_succ _))
end
section
open Go
section
variable {P : Program} {ops : Array Oper} {l n : Nat}
/-- to the end, or not at all -/
def OnlyN (Q : Exit → Act → World → Prop) : Exit → Act → World → Prop
  | .normal, a, w => Q .normal a w
  | _, _, _ => False
theorem onlyN_shut {Q : Exit → Act → World → Prop} : ¬ LetsOut (OnlyN Q) := by
  rintro ⟨a, w, h⟩
  exact h
theorem oper_in {o : Oper} (hnd : ∀ c, o.op ≠ .defer c) {Q K K' : _} {a : Act} {w : World} (hK : ∀ a w, K a w → K' a w) (h : o.wp P a w K Q) : o.wpIn (Fence.wide.inRound l) n P a w K' Q := by
  refine ⟨fun f _ => trivial, ?_⟩
  rw [Fence.inRound_round, Oper.semAt_some l _ o hnd]
  unfold Oper.wp at h
  generalize (execOp a.eval o).run P w = r at *
  cases r with
  | ok x w' =>
    cases x <;> simp only [Oper.upon, Oper.uponIn] at h ⊢
    case value v => exact hK _ _ h
    case skip => exact hK _ _ h
    case defer d => exact hK _ _ h
    case enter f args =>
      refine ⟨fun h => by simp [Fence.wide] at h, CallsIn.inRound l (callsIn_wide.2 (h.mono fun e w'' he => ?_))⟩
      cases e with
      | returned u => exact hK _ _ he
      | panicked c => exact he
      | outgrown => exact he
    case row row args =>
      refine ⟨fun h => by simp [Fence.wide] at h, fun c cs _ => ?_⟩
      obtain ⟨v, w', r, s⟩ := h c cs
      exact ⟨v, w', hK _ _ r, stepsIn_wide.2 s⟩
  | halt x w' => cases x <;> simp only [Oper.upon, Oper.uponIn] at h ⊢ <;> exact h
theorem ops_in {Q : Exit → Act → World → Prop} (hlo : ¬ LetsOut Q) (hnd : ∀ (i : Nat) (o : Oper), ops[i]? = some o → ∀ c, o.op ≠ .defer c) : ∀ (L : List Nat) (a : Act) (w : World), wpOps P ops Q L a w → wpOpsIn (Fence.wide.inRound l) n P ops Q L a w
  | [], a, w, h => h
  | i :: rest, a, w, h => by
    unfold wpOps at h
    unfold wpOpsIn
    cases ho : ops[i]? with
    | none => rw [ho] at h; exact ops_in hlo hnd rest a w h
    | some o =>
      rw [ho] at h
      dsimp only at h ⊢
      split at h
      · next hw =>
        rw [if_pos hw]
        rcases h with h | ⟨_, h⟩
        · exact oper_in (hnd i o ho) (fun a w h => ops_in hlo hnd rest a w h) h
        · exact absurd h hlo
      · next hw =>
        rw [if_neg hw]
        exact ⟨fun f _ => trivial, ops_in hlo hnd rest _ w h⟩
theorem wpIn_region_k {id : Nat} {a : Act} {w : World} {Q : Exit → Act → World → Prop} (hm : P.follows .mixedOrders = true) (hnd : (ops.toList.all fun o => match o.op with | .defer _ => false | _ => true) = true) (S : World → Prop) (k : Nat) (hS : S w.drew)
    (h : S w.drew → wpAnyK P .any ops (OnlyN Q) S k ops.size (Array.replicate ops.size false) a w.drew) : (Code.region id ops true).wpIn (Fence.wide.inRound l) n P Q a w := by
  have hnd' : ∀ (i : Nat) (o : Oper), ops[i]? = some o → ∀ c, o.op ≠ .defer c := fun i o ho c hc => by
    have h1 := List.all_eq_true.1 hnd o (by rw [← Array.getElem?_toList] at ho; exact List.mem_of_getElem? ho)
    rw [hc] at h1; cases h1
  have hr : (Code.region id ops true).wpIn (Fence.wide.inRound l) n P (OnlyN Q) a w := wpIn_region_draw fun t => by
    simp only [Region.schedule, hm, Bool.true_or, if_true]
    exact ops_in onlyN_shut hnd' _ _ _ (wpAny_sound ops.size t _ a _ (wpAny_of_k _ _ _ _ (h hS)))
  exact wpIn_mono hr fun e a w h => by cases e <;> first | exact h | exact h.elim
end
end
section
set_option maxRecDepth 100000
open Go.RowKit Go.Shelf Cal
/-- blocks of cells stay -/
structure CellsKept (A C : World) : Prop where
  size : A.heap.size ≤ C.heap.size
  same : ∀ (x : Nat) (o : Obj), A.heap[x]? = some o → o.isCells = true → C.heap[x]? = some o
theorem CellsKept.of {A C : World} {B : Nat} {row : Option Nat} (hg : A.grownBy C row) (hr : ∀ r, row = some r → B ≤ r ∧ ∃ o : Obj, A.heap[r]? = some o ∧ o.isCells = false) : CellsKept A C :=
  ⟨hg.size, fun x o hx hc => (grownBy_keeps_cells hg (fun r e => (hr r e).2) hx hc).trans hx⟩
theorem Vec.kept {α : Type} {A C : World} {S : Nat → Prop} {k : Nat} {enc : α → List Value} {v : Value} {L : List α} (h : Vec A S k enc v L) (hk : CellsKept A C) : Vec C S k enc v L := by
  obtain ⟨a, cap, h1, h2, h3⟩ := h
  refine ⟨a, cap, h1, h2, fun h0 => ?_⟩
  obtain ⟨b, off, h4, h5, h6, h7⟩ := h3 h0
  refine ⟨b, off, h4, h5, Nat.lt_of_lt_of_le h6 hk.size, fun j x hj i u hu => ?_⟩
  have hc := h7 j x hj i u hu
  obtain ⟨o, ho, hoc⟩ := cells_of_cell hc
  exact (World.cell?_of_block (w := A) (a := ⟨b, off + j * k + i, none⟩) ((hk.same _ _ ho hoc).trans ho.symm)).trans hc
/-- records that are the call's own: their row, the rows of their values; all behind block z -/
structure RecsIn (z : Nat) (v : Value) (C : List RV) (wr : World) : Prop where
  own : wr.ownsRow (z + 1) 44 3 v C.length (C.flatMap encRV)
  vals : ∀ x ∈ C, Vec wr (fun b => z < b ∧ some b ≠ v.ownBlock) 1 encS (.slice x.a x.n x.c) x.vals
theorem RecsIn.same {A C : World} {z : Nat} {v : Value} {L : List RV} (h : RecsIn z v L A) (hz : A.heap.size ≤ C.heap.size) (hs : ∀ (x : Nat) (o : Obj), z < x → A.heap[x]? = some o → o.isCells = true → C.heap[x]? = some o) : RecsIn z v L C := by
  refine ⟨⟨h.own.1, ?_⟩, fun x hx => ?_⟩
  · rcases h.own.2 with h0 | ⟨g, cap, cur, hv, hg, hh, rest⟩
    · exact .inl h0
    · exact .inr ⟨g, cap, cur, hv, hg, hs _ _ (by omega) hh rfl, rest⟩
  · obtain ⟨a, cap, h1, h2, h3⟩ := h.vals x hx
    refine ⟨a, cap, h1, h2, fun h0 => ?_⟩
    obtain ⟨b, off, h4, h5, h6, h7⟩ := h3 h0
    refine ⟨b, off, h4, h5, Nat.lt_of_lt_of_le h6 hz, fun j y hj i u hu => ?_⟩
    have hc := h7 j y hj i u hu
    obtain ⟨o, ho, hoc⟩ := cells_of_cell hc
    exact (World.cell?_of_block (w := A) (a := ⟨b, off + j * 1 + i, none⟩) ((hs _ _ h5.1 ho hoc).trans ho.symm)).trans hc
theorem RecsIn.kept {A C : World} {z : Nat} {v : Value} {L : List RV} (h : RecsIn z v L A) (hk : CellsKept A C) : RecsIn z v L C := h.same hk.size fun x o _ hx ho => hk.same x o hx ho
theorem RecsIn.below {A C : World} {z : Nat} {v : Value} {L : List RV} (h : RecsIn z v L A) (hb : Below A.heap.size A C) : RecsIn z v L C := h.same hb.size fun x o _ hx _ => blk_below hb (lt_of_blk hx) hx
theorem RecsIn.far {A : World} {z : Nat} {v : Value} {L : List RV} (h : RecsIn z v L A) {a : Addr} {u : Value} (ha : a.block ≤ z) : RecsIn z v L (A.setCell a u) :=
  h.same (by simp [World.setCell]) fun x o hx ho _ => blk_far ho (by omega)
theorem RecsIn.vec {w A : World} {z : Nat} {v : Value} {L : List RV} (h : RecsIn z v L A) (hz : w.heap.size ≤ z) : RecsVec A (fun b => w.heap.size ≤ b) v (L.map pR) :=
  ⟨L, Vec.owns (enc := encRV) (S := fun b => w.heap.size ≤ b) (fun _ => rfl) h.own (fun b hb _ => by show w.heap.size ≤ b; omega), rfl, fun x hx => (h.vals x hx).move (Nat.le_refl _) fun b _ hb => ⟨rfl, by omega⟩⟩
theorem RecsIn.nil (A : World) (z : Nat) : RecsIn z (.slice none 0 0) [] A := ⟨⟨by simp, .inl ⟨rfl, rfl⟩⟩, fun x h => by simp at h⟩
/-- the schema, the text, the results as they were at first; the records' cell, the number's -/
structure RdCells (b k : Nat) (vf vt vn vs : Value) (t : List UInt8) (lv : Value) (at' : Nat) (W : World) : Prop where
  s : W.heap[b]? = some (.cells #[vf, vt, vn, vs] 33 (0, 0))
  t : W.heap[b + 1]? = some (.cells #[strV t] 9 (0, 0))
  r1 : W.heap[b + 1 + 1]? = some (.cells #[.slice none 0 0] 35 (0, 0))
  r2 : W.heap[b + 1 + 1 + 1]? = some (.cells #[.int .i64 0] 3 (0, 0))
  r3 : W.heap[b + 1 + 1 + 1 + 1]? = some (.cells #[.int .i64 0] 37 (0, 0))
  l : W.heap[k]? = some (.cells #[lv] 35 (0, 0))
  n : W.heap[k + 1]? = some (.cells #[.int .i64 at'] 3 (0, 0))
theorem RdCells.same {b k : Nat} {vf vt vn vs : Value} {t : List UInt8} {lv : Value} {at' : Nat} {W W' : World} (h : RdCells b k vf vt vn vs t lv at' W) (hs : ∀ x o, (x ≤ b + 1 + 1 + 1 + 1 ∨ x = k ∨ x = k + 1) → W.heap[x]? = some o → o.isCells = true → W'.heap[x]? = some o) : RdCells b k vf vt vn vs t lv at' W' :=
  ⟨hs _ _ (.inl (by omega)) h.s rfl, hs _ _ (.inl (by omega)) h.t rfl, hs _ _ (.inl (by omega)) h.r1 rfl, hs _ _ (.inl (by omega)) h.r2 rfl, hs _ _ (.inl (by omega)) h.r3 rfl, hs _ _ (.inr (.inl rfl)) h.l rfl, hs _ _ (.inr (.inr rfl)) h.n rfl⟩
/-- what stands between two rounds, or when the loop is left -/
def IRead (w : World) (b k : Nat) (vf vt vn vs : Value) (s : SchemaL) (t : List UInt8) : Option Code → List (List UInt8 × List UInt8) → World → Prop
  | none, pre, W => ∃ (lv : Value) (C : List RV) (at' : Nat), RdCells b k vf vt vn vs t lv at' W ∧ RecsIn (k + 2) lv C W ∧ Below w.heap.size w W ∧ k + 2 < W.heap.size ∧ C.length ≤ 64 ∧ at' ≤ t.length ∧ ∀ q, rowsL t = pre ++ q → readA s t.length [] 0 (rowsL t) = readA s t.length (C.map pR) at' q
  | some c, _, W => c = .ret ∧ ∃ (lv : Value) (C : List RV) (m : Nat) (er : Int), W.heap[b + 1 + 1]? = some (.cells #[lv] 35 (0, 0)) ∧ W.heap[b + 1 + 1 + 1]? = some (.cells #[.int .i64 m] 3 (0, 0)) ∧ W.heap[b + 1 + 1 + 1 + 1]? = some (.cells #[.int .i64 er] 37 (0, 0)) ∧ RecsIn (k + 2) lv C W ∧ Below w.heap.size w W ∧ readA s t.length [] 0 (rowsL t) = (C.map pR, m, er)
theorem IRead.own {w : World} {b k B : Nat} {vf vt vn vs : Value} {s : SchemaL} {t : List UInt8} (hB : w.heap.size ≤ B) (j : Option Code) : OwnFrom B (IRead w b k vf vt vn vs s t j) := by
  cases j with
  | none =>
    rintro p A C row ⟨lv, L, at', h1, h2, h3, h4, h5⟩ hg hr
    have hk := CellsKept.of hg hr
    have hb := ownFrom_below (β := Unit) (Nat.le_refl _) hB () A C row h3 hg hr
    exact ⟨lv, L, at', h1.same fun x o _ hx hc => hk.same x o hx hc, h2.kept hk, hb, Nat.lt_of_lt_of_le h4 hk.size, h5⟩
  | some c =>
    rintro p A C row ⟨hc, lv, L, m, er, h1, h2, h3, h4, h5, h6⟩ hg hr
    have hk := CellsKept.of hg hr
    have hb := ownFrom_below (β := Unit) (Nat.le_refl _) hB () A C row h5 hg hr
    exact ⟨hc, lv, L, m, er, hk.same _ _ h1 rfl, hk.same _ _ h2 rfl, hk.same _ _ h3 rfl, h4.kept hk, hb, h6⟩
theorem IRead.box {w : World} {b k : Nat} {vf vt vn vs : Value} {s : SchemaL} {t : List UInt8} (hb : b + 1 + 1 + 1 + 1 < k) (hw : w.heap.size ≤ k) (j : Option Code) (p : List (List UInt8 × List UInt8)) (A : World) (v : Value) (h : IRead w b k vf vt vn vs s t j p A) : IRead w b k vf vt vn vs s t j p (A.setCell ⟨k + 2, 0, none⟩ v) := by
  cases j with
  | none =>
    obtain ⟨lv, L, at', h1, h2, h3, h4, h5⟩ := h
    exact ⟨lv, L, at', h1.same fun x o hx ho _ => blk_far ho (by show x ≠ k + 2; omega), h2.far (Nat.le_refl _), h3.setCell (p := ⟨k + 2, 0, none⟩) (by show w.heap.size ≤ k + 2; omega) _, by simpa [World.setCell] using h4, h5⟩
  | some c =>
    obtain ⟨hc, lv, L, m, er, h1, h2, h3, h4, h5, h6⟩ := h
    exact ⟨hc, lv, L, m, er, blk_far h1 (by show b + 1 + 1 ≠ k + 2; omega), blk_far h2 (by show b + 1 + 1 + 1 ≠ k + 2; omega), blk_far h3 (by show b + 1 + 1 + 1 + 1 ≠ k + 2; omega), h4.far (Nat.le_refl _), h5.setCell (p := ⟨k + 2, 0, none⟩) (by show w.heap.size ≤ k + 2; omega) _, h6⟩
/-- the results laid -/
theorem read_out {w W : World} {b k : Nat} {vf vt vn vs : Value} {t : List UInt8} {lv : Value} {at' : Nat} {C : List RV} (h : RdCells b k vf vt vn vs t lv at' W) (hr : RecsIn (k + 2) lv C W) (hb : Below w.heap.size w W) (hw : w.heap.size ≤ b) (hk : b + 1 + 1 + 1 + 1 < k) (m er : Int) :
    let F := ((W.setCell ⟨b + 1 + 1, 0, none⟩ lv).setCell ⟨b + 1 + 1 + 1, 0, none⟩ (.int .i64 m)).setCell ⟨b + 1 + 1 + 1 + 1, 0, none⟩ (.int .i64 er)
    F.heap[b + 1 + 1]? = some (.cells #[lv] 35 (0, 0)) ∧ F.heap[b + 1 + 1 + 1]? = some (.cells #[.int .i64 m] 3 (0, 0)) ∧ F.heap[b + 1 + 1 + 1 + 1]? = some (.cells #[.int .i64 er] 37 (0, 0)) ∧ RecsIn (k + 2) lv C F ∧ Below w.heap.size w F := by
  have n1 : b + 1 + 1 ≠ b + 1 + 1 + 1 := by omega
  have n2 : b + 1 + 1 ≠ b + 1 + 1 + 1 + 1 := by omega
  have n3 : b + 1 + 1 + 1 ≠ b + 1 + 1 + 1 + 1 := by omega
  refine ⟨blk_far (a := ⟨b + 1 + 1 + 1 + 1, 0, none⟩) (blk_far (a := ⟨b + 1 + 1 + 1, 0, none⟩) (blk_set (i := 0) (v := lv) h.r1) n1) n2,
    blk_far (a := ⟨b + 1 + 1 + 1 + 1, 0, none⟩) (blk_set (i := 0) (v := .int .i64 m) (blk_far (a := ⟨b + 1 + 1, 0, none⟩) h.r2 n1.symm)) n3,
    blk_set (i := 0) (v := .int .i64 er) (blk_far (a := ⟨b + 1 + 1 + 1, 0, none⟩) (blk_far (a := ⟨b + 1 + 1, 0, none⟩) h.r3 n2.symm) n3.symm), ?_, ?_⟩
  · exact ((hr.far (a := ⟨b + 1 + 1, 0, none⟩) (by show b + 1 + 1 ≤ k + 2; omega)).far (a := ⟨b + 1 + 1 + 1, 0, none⟩) (by show b + 1 + 1 + 1 ≤ k + 2; omega)).far (a := ⟨b + 1 + 1 + 1 + 1, 0, none⟩) (by show b + 1 + 1 + 1 + 1 ≤ k + 2; omega)
  · exact ((hb.setCell (p := ⟨b + 1 + 1, 0, none⟩) (by show w.heap.size ≤ b + 1 + 1; omega) _).setCell (p := ⟨b + 1 + 1 + 1, 0, none⟩) (by show w.heap.size ≤ b + 1 + 1 + 1; omega) _).setCell (p := ⟨b + 1 + 1 + 1 + 1, 0, none⟩) (by show w.heap.size ≤ b + 1 + 1 + 1 + 1; omega) _
end
end Go.Proofs.YthnfmolkppbbpaaGreatDoor
