/- Parts of one proof: NameC, NameD, NameE, NameF, AddrA, AddrB, AddrC, AddrD, AddrE, DateDig, MakeW, SchA, SchB, SchC. -/
import Derived.Test.YtoeplomdcannlaaGreatDoorPartEb1
import Derived.Lib.QuietBelow
import Derived.Maps.AppendAt
import Derived.Laws.OwnMore
import Derived.Laws.AppendOwnNone
set_option linter.unusedSimpArgs false
set_option linter.unusedVariables false
namespace Go.Proofs.YtoeplomdcannlaaGreatDoor
section
set_option maxRecDepth 100000
open Go.RowKit
attribute [local go_sem] toList_mk mk_size
def ltB (a b : List UInt8) : Bool := Op.bytesLess a b
/-- entry j is right, and greater than the one before -/
def titleAt (L : List (List UInt8)) (j : Nat) : Bool := tokenB (L.getD j []) && (decide (j = 0) || ltB (L.getD (j - 1) []) (L.getD j []))
def titlesB (L : List (List UInt8)) : Bool := (List.range L.length).all (titleAt L)
def pairAtB (L : List P2) (j : Nat) : Bool := tokenB (L.getD j default).1 && tokenB (L.getD j default).2 && (decide (j = 0) || ltB (L.getD (j - 1) default).1 (L.getD j default).1) && decide (findI L (L.getD j default).2 < 0)
def pairsB (L : List P2) : Bool := (List.range L.length).all (pairAtB L)
theorem all_false {n : Nat} {p : Nat → Bool} {k : Nat} (hk : k < n) (h : p k = false) : (List.range n).all p = false := by
  rw [List.all_eq_false]; exact ⟨k, List.mem_range.2 hk, by simp [h]⟩
theorem all_true {n : Nat} {p : Nat → Bool} (h : ∀ j, j < n → p j = true) : (List.range n).all p = true := by
  rw [List.all_eq_true]; intro j hj; exact h j (List.mem_range.1 hj)
theorem vec_cell1 {w : World} {S : Nat → Prop} {a : Option Addr} {n cap : Nat} {L : List (List UInt8)} (h : Vec w S 1 encS (.slice a n cap) L) (h0 : 0 < L.length) : ∃ b off, a = some ⟨b, off, none⟩ ∧ S b ∧ b < w.heap.size ∧ ∀ j, j < L.length → w.cell? ⟨b, off + j, none⟩ = some (strV (L.getD j [])) := by
  obtain ⟨a', cap', h1, h2, h3⟩ := h
  cases h1
  obtain ⟨b, off, h4, hS, h5, h6⟩ := h3 h0
  refine ⟨b, off, h4, hS, h5, fun j hj => ?_⟩
  have := h6 j L[j] (List.getElem?_eq_getElem hj) 0 _ rfl
  rw [List.getD, List.getElem?_eq_getElem hj]
  simpa using this
set_option maxHeartbeats 1000000 in
theorem titles_any (S : Nat → Prop) (v : Value) (L : List (List UInt8)) (w : World) (h : Vec w S 1 encS v L) (hn : L.length ≤ 1000000) :
    Calls Tryz.prog 157 #[v] w fun e w' => e = .returned (.bool (titlesB L)) ∧ Below w.heap.size w w' := by
  obtain ⟨a, cap, rfl⟩ := h.slice
  by_cases hz : L = []
  · subst hz
    clear h
    go_enter Tryz.func157, Tryz.ntmps157
    go_wp2
    refine wp_loop_rounds 1 ?_; rw [rounds_succ]
    go_wp2
    go_ret
    exact ⟨rfl, Below.refl _ _⟩
  · obtain ⟨b, off, rfl, _, hb, hc⟩ := vec_cell1 h (List.length_pos_iff.2 hz)
    have HC := Lib.hid hc; clear hc h hz
    go_enter Tryz.func157, Tryz.ntmps157
    go_wp2_with fail
    go_loopw [7] (fun i wr => ∃ k : Nat, k ≤ L.length ∧ i = .int .i64 k ∧ Below w.heap.size w wr ∧ ∀ j, j < k → titleAt L j = true) (fun i _ => L.length - (intOf i).toNat)
    case atStart => exact ⟨0, by omega, rfl, Below.refl _ _, fun j hj => by omega⟩
    case round =>
      obtain ⟨k, hk, rfl, hbw, ha⟩ := hrel
      have HA := Lib.hid ha; clear ha
      by_cases hlt : k < L.length
      · have hq : decide ((k : Int) < L.length) = true := by simp; omega
        have hi : (k : Int) < (L.length : Int) := by omega
        have c1 : wr.cell? ⟨b, off + k, none⟩ = some (strV (L.getD k [])) := (hbw.cell (p := ⟨b, off + k, none⟩) hb).trans (HC.out k hlt)
        have HW := Lib.hid hbw; clear hbw
        obtain ⟨x, hx⟩ : ∃ x, L.getD k [] = x := ⟨_, rfl⟩
        rw [hx] at c1
        have HX := Lib.hid hx; clear hx
        go_wp2_with fail
        refine (token_any x _).mono ?_
        rintro e w2 ⟨rfl, hb2⟩
        have HW2 := Lib.hid (HW.out.trans (hb2.mono HW.out.size)); clear hb2 HW c1
        cases ht : tokenB x
        · have HT := Lib.hid (show titleAt L k = false by simp only [titleAt]; rw [HX.out, ht]; rfl); clear ht
          go_wp2_with fail
          go_ret
          exact ⟨ret_bool (by rw [titlesB, all_false hlt HT.out]), HW2.out⟩
        · by_cases hk0 : k = 0
          · subst hk0
            have HT := Lib.hid (show titleAt L 0 = true by simp only [titleAt]; rw [HX.out, ht]; rfl)
            clear ht
            go_wp2_with fail
            go_roundw
            case rel => exact ⟨1, by omega, by go_num, HW2.out, fun j hj => by (obtain rfl : j = 0 := by omega); exact HT.out⟩
            case measure => simp [intOf]; omega
          · obtain ⟨m, rfl⟩ : ∃ m, k = m + 1 := ⟨k - 1, by omega⟩
            have c2 : w2.cell? ⟨b, off + m, none⟩ = some (strV (L.getD m [])) := (HW2.out.cell (p := ⟨b, off + m, none⟩) hb).trans (HC.out m (by omega))
            obtain ⟨y, hy⟩ : ∃ y, L.getD m [] = y := ⟨_, rfl⟩
            rw [hy] at c2
            have HT := Lib.hid (show titleAt L (m + 1) = Op.bytesLess y x by simp only [titleAt, Nat.add_sub_cancel]; rw [HX.out, hy, ht]; simp [ltB])
            clear ht hy hk0
            cases hl : Op.bytesLess y x
            · rw [hl] at HT
              go_wp2_with fail
              go_ret
              exact ⟨ret_bool (by rw [titlesB, all_false hlt HT.out]), HW2.out⟩
            · rw [hl] at HT
              go_wp2_with fail
              go_roundw
              case rel => exact ⟨m + 2, by omega, by go_num, HW2.out, fun j hj => by
                by_cases e : j = m + 1
                · subst e; exact HT.out
                · exact HA.out j (by omega)⟩
              case measure => simp [intOf]; omega
      · have hq : decide ((k : Int) < L.length) = false := by simp; omega
        have HW := Lib.hid hbw; clear hbw
        go_wp2_with fail
        go_ret
        exact ⟨ret_bool (by rw [titlesB, all_true fun j hj => HA.out j (by omega)]), HW.out⟩
theorem vec_cell2 {α : Type} [Inhabited α] {enc : α → List Value} {w : World} {S : Nat → Prop} {a : Option Addr} {n cap : Nat} {L : List α} (h : Vec w S 2 enc (.slice a n cap) L) (h0 : 0 < L.length) : ∃ b off, a = some ⟨b, off, none⟩ ∧ S b ∧ b < w.heap.size ∧ ∀ j, j < L.length → ∀ i u, (enc (L.getD j default))[i]? = some u → w.cell? ⟨b, off + j * 2 + i, none⟩ = some u := by
  obtain ⟨a', cap', h1, h2, h3⟩ := h
  cases h1
  obtain ⟨b, off, h4, hS, h5, h6⟩ := h3 h0
  refine ⟨b, off, h4, hS, h5, fun j hj i u hu => ?_⟩
  rw [List.getD, List.getElem?_eq_getElem hj] at hu
  exact h6 j L[j] (List.getElem?_eq_getElem hj) i u hu
/-- a contract that makes memory alone, in whatever world behind w -/
theorem in_regrown {P : Program} {f : FuncId} {args : Array Value} {v : Value} (w : World) (h : ∀ W, Below w.heap.size w W → Calls P f args W fun e w' => e = .returned v ∧ Below W.heap.size W w') :
    ∀ d os, Calls P f args (Sort.grow (redrawn w d) os) fun e w'' => e = .returned v ∧ ∃ p : Regrown, w'' = Sort.grow (redrawn w p.d) p.os := fun d os => Calls.regrown_of (h _ (below_regrown w d os))
theorem find_in (v : Value) (L : List P2) (s : List UInt8) (w : World) (h : Vec w Any1 2 encP v L) (hn : L.length ≤ 1000000) (W : World) (hb : Below w.heap.size w W) : Calls Tryz.prog 205 #[v, strV s] W fun e w' => e = .returned (.int .i64 (findI L s)) ∧ Below W.heap.size W w' :=
  find_any Any1 v L s W (h.below hb) hn
set_option maxHeartbeats 4000000 in
theorem pairs_any (S : Nat → Prop) (v : Value) (L : List P2) (w : World) (h : Vec w S 2 encP v L) (hn : L.length ≤ 1000000) :
    Calls Tryz.prog 158 #[v] w fun e w' => e = .returned (.bool (pairsB L)) ∧ Below w.heap.size w w' := by
  obtain ⟨a, cap, rfl⟩ := h.slice
  by_cases hz : L = []
  · subst hz
    clear h
    go_enter Tryz.func158, Tryz.ntmps158
    go_wp2
    refine wp_loop_rounds 1 ?_; rw [rounds_succ]
    go_wp2
    go_ret
    exact ⟨rfl, Below.refl _ _⟩
  · have HV := Lib.hid h.any
    obtain ⟨b, off, rfl, _, hb, hc⟩ := vec_cell2 h (List.length_pos_iff.2 hz)
    have HC := Lib.hid hc; clear hc h hz
    go_enter Tryz.func158, Tryz.ntmps158
    go_wp2_with fail
    go_loopw [7] (fun i wr => ∃ k : Nat, k ≤ L.length ∧ i = .int .i64 k ∧ Below w.heap.size w wr ∧ ∀ j, j < k → pairAtB L j = true) (fun i _ => L.length - (intOf i).toNat)
    case atStart => exact ⟨0, by omega, rfl, Below.refl _ _, fun j hj => by omega⟩
    case round =>
      obtain ⟨k, hk, rfl, hbw, ha⟩ := hrel
      have HA := Lib.hid ha; clear ha
      by_cases hlt : k < L.length
      · have hq : decide ((k : Int) < L.length) = true := by simp; omega
        have hi : (k : Int) < (L.length : Int) := by omega
        obtain ⟨x, hx⟩ : ∃ x, L.getD k default = x := ⟨_, rfl⟩
        have hc := HC.out k hlt
        rw [hx] at hc
        have c0 : wr.cell? ⟨b, off + k * 2, none⟩ = some (strV x.1) := (hbw.cell (p := ⟨b, off + k * 2, none⟩) hb).trans (hc 0 _ rfl)
        have c1 : wr.cell? ⟨b, off + k * 2 + 1, none⟩ = some (strV x.2) := (hbw.cell (p := ⟨b, off + k * 2 + 1, none⟩) hb).trans (hc 1 _ rfl)
        have HX := Lib.hid hx; clear hx hc
        have HW := Lib.hid hbw; clear hbw
        go_wp2_with fail
        refine wp_world (fun wS hS => ?_)
        obtain ⟨xf, xt⟩ := x
        have bS : Below wr.heap.size wr wS := by rw [hS]; exact (Below.refl _ _).alloc (Nat.le_refl _) _
        have k0 := cell_regrown (show wS.cell? ⟨wr.heap.size, 0, none⟩ = some (strV xf) by rw [hS]; simp)
        have k1 := cell_regrown (show wS.cell? ⟨wr.heap.size, 1, none⟩ = some (strV xt) by rw [hS]; simp)
        have HWS := Lib.hid (HW.out.trans (bS.mono HW.out.size))
        clear bS hS c0 c1 HW
        have cT1 := in_regrown wS (fun W _ => token_any xf W)
        have cT2 := in_regrown wS (fun W _ => token_any xt W)
        have cF := in_regrown wS (find_in _ L xt wS (HV.out.below HWS.out) hn)
        have hpa : pairAtB L k = (tokenB xf && tokenB xt && (decide (k = 0) || ltB (L.getD (k - 1) default).1 xf) && decide (findI L xt < 0)) := by simp only [pairAtB]; rw [HX.out]
        generalize findI L xt = n at *
        cases ht1 : tokenB xf
        · rw [ht1] at cT1 hpa
          have HF := Lib.hid (show pairAtB L k = false by rw [hpa]; rfl)
          clear ht1 hpa
          go_wp2_with fail
          refine wp_region_quiet_below (by kernel_rfl) (by kernel_rfl) ?_
          repeat (go_big_quiet_step (first | with_reducible exact cT1 _ _ | with_reducible exact cT2 _ _ | with_reducible exact cF _ _))
          refine wpQuiet_nil ?_
          intro _ hw'
          obtain ⟨⟨dq, osq⟩, hw''⟩ := hw'
          subst hw''
          have HW3 := Lib.hid (HWS.out.trans ((below_regrown wS dq osq).mono HWS.out.size))
          go_wp2_with fail
          go_ret
          exact ⟨ret_bool (by rw [pairsB, all_false hlt HF.out]), HW3.out⟩
        · rw [ht1] at cT1 hpa
          clear ht1
          cases ht2 : tokenB xt
          · rw [ht2] at cT2 hpa
            have HF := Lib.hid (show pairAtB L k = false by rw [hpa]; rfl)
            clear ht2 hpa
            go_wp2_with fail
            refine wp_region_quiet_below (by kernel_rfl) (by kernel_rfl) ?_
            repeat (go_big_quiet_step (first | with_reducible exact cT1 _ _ | with_reducible exact cT2 _ _ | with_reducible exact cF _ _))
            refine wpQuiet_nil ?_
            intro _ hw'
            obtain ⟨⟨dq, osq⟩, hw''⟩ := hw'
            subst hw''
            have HW3 := Lib.hid (HWS.out.trans ((below_regrown wS dq osq).mono HWS.out.size))
            go_wp2_with fail
            go_ret
            exact ⟨ret_bool (by rw [pairsB, all_false hlt HF.out]), HW3.out⟩
          · rw [ht2] at cT2 hpa
            clear ht2
            by_cases hk0 : k = 0
            · subst hk0
              by_cases hneg : n < 0
              · have HF := Lib.hid (show pairAtB L 0 = true by rw [hpa]; simp [hneg])
                clear hpa
                go_wp2_with fail
                refine wp_region_quiet_below (by kernel_rfl) (by kernel_rfl) ?_
                repeat (go_big_quiet_step (first | with_reducible exact cT1 _ _ | with_reducible exact cT2 _ _ | with_reducible exact cF _ _))
                refine wpQuiet_nil ?_
                intro _ hw'
                obtain ⟨⟨dq, osq⟩, hw''⟩ := hw'
                subst hw''
                have HW3 := Lib.hid (HWS.out.trans ((below_regrown wS dq osq).mono HWS.out.size))
                go_wp2_with fail
                go_roundw
                case rel => exact ⟨1, by omega, by go_num, HW3.out, fun j hj => by
                  by_cases e : j = 0
                  · subst e; exact HF.out
                  · exact HA.out j (by omega)⟩
                case measure => simp [intOf]; omega
              · have HF := Lib.hid (show pairAtB L 0 = false by rw [hpa]; simp [hneg])
                have hnn : 0 ≤ n := by omega
                clear hpa
                go_wp2_with fail
                refine wp_region_quiet_below (by kernel_rfl) (by kernel_rfl) ?_
                repeat (go_big_quiet_step (first | with_reducible exact cT1 _ _ | with_reducible exact cT2 _ _ | with_reducible exact cF _ _))
                refine wpQuiet_nil ?_
                intro _ hw'
                obtain ⟨⟨dq, osq⟩, hw''⟩ := hw'
                subst hw''
                have HW3 := Lib.hid (HWS.out.trans ((below_regrown wS dq osq).mono HWS.out.size))
                go_wp2_with fail
                go_ret
                exact ⟨ret_bool (by rw [pairsB, all_false hlt HF.out]), HW3.out⟩
            · obtain ⟨m, rfl⟩ : ∃ m, k = m + 1 := ⟨k - 1, by omega⟩
              obtain ⟨y, hy⟩ : ∃ y, L.getD m default = y := ⟨_, rfl⟩
              have hcy := HC.out m (by omega)
              rw [hy] at hcy
              have k2 := cell_regrown (show wS.cell? ⟨b, off + m * 2, none⟩ = some (strV y.1) from (HWS.out.cell (p := ⟨b, off + m * 2, none⟩) hb).trans (hcy 0 _ rfl))
              rw [Nat.add_sub_cancel, hy] at hpa
              clear hcy hy hk0
              obtain ⟨yf, yt⟩ := y
              dsimp only at k2 hpa
              unfold ltB at hpa
              cases hl : Op.bytesLess yf xf
              · rw [hl] at hpa
                have HF := Lib.hid (show pairAtB L (m + 1) = false by rw [hpa]; simp)
                clear hpa
                go_wp2_with fail
                refine wp_region_quiet_below (by kernel_rfl) (by kernel_rfl) ?_
                repeat (go_big_quiet_step (first | with_reducible exact cT1 _ _ | with_reducible exact cT2 _ _ | with_reducible exact cF _ _))
                refine wpQuiet_nil ?_
                intro _ hw'
                obtain ⟨⟨dq, osq⟩, hw''⟩ := hw'
                subst hw''
                have HW3 := Lib.hid (HWS.out.trans ((below_regrown wS dq osq).mono HWS.out.size))
                go_wp2_with fail
                go_ret
                exact ⟨ret_bool (by rw [pairsB, all_false hlt HF.out]), HW3.out⟩
              · rw [hl] at hpa
                by_cases hneg : n < 0
                · have HF := Lib.hid (show pairAtB L (m + 1) = true by rw [hpa]; simp [hneg])
                  clear hpa
                  go_wp2_with fail
                  refine wp_region_quiet_below (by kernel_rfl) (by kernel_rfl) ?_
                  repeat (go_big_quiet_step (first | with_reducible exact cT1 _ _ | with_reducible exact cT2 _ _ | with_reducible exact cF _ _))
                  refine wpQuiet_nil ?_
                  intro _ hw'
                  obtain ⟨⟨dq, osq⟩, hw''⟩ := hw'
                  subst hw''
                  have HW3 := Lib.hid (HWS.out.trans ((below_regrown wS dq osq).mono HWS.out.size))
                  go_wp2_with fail
                  go_roundw
                  case rel => exact ⟨m + 2, by omega, by go_num, HW3.out, fun j hj => by
                    by_cases e : j = m + 1
                    · subst e; exact HF.out
                    · exact HA.out j (by omega)⟩
                  case measure => simp [intOf]; omega
                · have HF := Lib.hid (show pairAtB L (m + 1) = false by rw [hpa]; simp [hneg])
                  have hnn : 0 ≤ n := by omega
                  clear hpa
                  go_wp2_with fail
                  refine wp_region_quiet_below (by kernel_rfl) (by kernel_rfl) ?_
                  repeat (go_big_quiet_step (first | with_reducible exact cT1 _ _ | with_reducible exact cT2 _ _ | with_reducible exact cF _ _))
                  refine wpQuiet_nil ?_
                  intro _ hw'
                  obtain ⟨⟨dq, osq⟩, hw''⟩ := hw'
                  subst hw''
                  have HW3 := Lib.hid (HWS.out.trans ((below_regrown wS dq osq).mono HWS.out.size))
                  go_wp2_with fail
                  go_ret
                  exact ⟨ret_bool (by rw [pairsB, all_false hlt HF.out]), HW3.out⟩
      · have hq : decide ((k : Int) < L.length) = false := by simp; omega
        have HW := Lib.hid hbw; clear hbw
        go_wp2_with fail
        go_ret
        exact ⟨ret_bool (by rw [pairsB, all_true fun j hj => HA.out j (by omega)]), HW.out⟩
end
section
set_option maxRecDepth 100000
open Go.RowKit
attribute [local go_sem] toList_mk mk_size
structure RulesL where
  titles : List (List UInt8)
  nicks : List P2
  streets : List P2
def RulesAt (w : World) (S : Nat → Prop) (vt vn vs : Value) (r : RulesL) : Prop := Vec w S 1 encS vt r.titles ∧ Vec w S 2 encP vn r.nicks ∧ Vec w S 2 encP vs r.streets
theorem RulesAt.below {w w' : World} {S : Nat → Prop} {vt vn vs : Value} {r : RulesL} (h : RulesAt w S vt vn vs r) (hb : Below w.heap.size w w') : RulesAt w' S vt vn vs r := ⟨h.1.below hb, h.2.1.below hb, h.2.2.below hb⟩
theorem RulesAt.any {w : World} {S : Nat → Prop} {vt vn vs : Value} {r : RulesL} (h : RulesAt w S vt vn vs r) : RulesAt w Any1 vt vn vs r := ⟨h.1.any, h.2.1.any, h.2.2.any⟩
def hasB (L : List (List UInt8)) (s : List UInt8) : Bool := L.any fun x => x == s
theorem mkS_inj {a b : List UInt8} (h : mkS a = mkS b) : a = b := by
  have := congrArg (fun s : ByteArray => s.data.toList) h
  simpa [mkS] using this
theorem contains_has (L : List (List UInt8)) (s : List UInt8) : Lib.containsS (L.map mkS) (mkS s) = hasB L s := by
  rw [Bool.eq_iff_iff, Lib.containsS_iff]
  unfold hasB
  rw [List.any_eq_true]
  constructor
  · intro h
    obtain ⟨x, hx, he⟩ := List.mem_map.1 h
    have : x = s := mkS_inj he
    subst this
    exact ⟨x, hx, by simp⟩
  · rintro ⟨x, hx, he⟩
    have : x = s := by simpa using he
    subst this
    exact List.mem_map.2 ⟨x, hx, rfl⟩
theorem contains_any (S : Nat → Prop) (v : Value) (L : List (List UInt8)) (s : List UInt8) (w : World) (h : Vec w S 1 encS v L) (hn : L.length ≤ 1000000) :
    Calls Tryz.prog 207 #[v, strV s] w fun e w' => e = .returned (.bool (hasB L s)) ∧ w = w' := by
  obtain ⟨a, cap, rfl⟩ := h.slice
  by_cases hz : L = []
  · subst hz
    exact (Tryz.slices_Contains_string_empty a cap (mkS s) w).mono fun e w' ⟨he, hw⟩ => ⟨he, hw.symm⟩
  · obtain ⟨b, off, rfl, _, hb, hc⟩ := vec_cell1 h (List.length_pos_iff.2 hz)
    have := Tryz.slices_Contains_string b off L.length cap (L.map mkS) (mkS s) w (by simp) (by omega) (fun j hj => by
      have hj' : j < L.length := by simpa using hj
      rw [hc j hj', List.getD, List.getD, List.getElem?_map, List.getElem?_eq_getElem hj']; rfl)
    rw [List.take_of_length_le (by simp), contains_has] at this
    exact this.mono fun e w' ⟨he, hw⟩ => ⟨he, hw.symm⟩
set_option maxHeartbeats 400000 in
theorem dropped_any (S : Nat → Prop) (vt vn vs : Value) (L : List (List UInt8)) (s : List UInt8) (w : World) (h : Vec w S 1 encS vt L) (hn : L.length ≤ 1000000) :
    Calls Tryz.prog 161 #[.agg #[vt, vn, vs], strV s] w fun e w' => e = .returned (.bool (hasB L s)) ∧ Below w.heap.size w w' := by
  have HV := Lib.hid h; clear h
  go_enter Tryz.func161, Tryz.ntmps161
  go_wp2_with fail
  refine (contains_any S vt L s _ (HV.out.below ((Below.refl _ _).alloc (Nat.le_refl _) _)) hn).mono ?_
  rintro e w1 ⟨rfl, rfl⟩
  go_wp2_with fail
  go_ret
  exact ⟨rfl, (Below.refl _ _).alloc (Nat.le_refl _) _⟩
theorem pred_check (vt vn vs : Value) (L : List (List UInt8)) (B : Nat) (w : World) (hL : Vec w Any1 1 encS vt L) (hn : L.length ≤ 1000000) (hB : B < w.heap.size) (h0 : w.cell? ⟨B, 0, none⟩ = some vt) (h1 : w.cell? ⟨B, 1, none⟩ = some vn) (h2 : w.cell? ⟨B, 2, none⟩ = some vs) :
    PredBelow Tryz.prog 160 #[.pointer (some ⟨B, 0, none⟩)] (fun x => .agg (encP x).toArray) (fun x => hasB L x.2) w := fun W x hb => by
  have c0 : W.cell? ⟨B, 0, none⟩ = some vt := (hb.cell (p := ⟨B, 0, none⟩) hB).trans h0
  have c1 : W.cell? ⟨B, 1, none⟩ = some vn := (hb.cell (p := ⟨B, 1, none⟩) hB).trans h1
  have c2 : W.cell? ⟨B, 2, none⟩ = some vs := (hb.cell (p := ⟨B, 2, none⟩) hB).trans h2
  have hBW : B < W.heap.size := Nat.lt_of_lt_of_le hB hb.size
  have hne : B ≠ W.heap.size := by omega
  have HV := Lib.hid (hL.below hb)
  have HBb := Lib.hid hb; clear hb h0 h1 h2 hL
  obtain ⟨xf, xt⟩ := x
  show Calls Tryz.prog 160 #[.agg #[strV xf, strV xt], .pointer (some ⟨B, 0, none⟩)] W _
  go_enter Tryz.func160, Tryz.ntmps160
  go_wp2_with fail
  refine (dropped_any Any1 vt vn vs L xt _ (HV.out.below ((Below.refl _ _).alloc (Nat.le_refl _) _)) hn).mono ?_
  rintro e w1 ⟨rfl, hb1⟩
  go_wp2_with fail
  go_ret
  exact ⟨rfl, (HBb.out.alloc HBb.out.size _).trans (hb1.mono (by have := HBb.out.size; simp; omega))⟩
set_option maxHeartbeats 400000 in
theorem contP_nil (a : Option Addr) (c : Nat) (f : Value) (w : World) :
    Calls Tryz.prog 159 #[.slice a 0 c, f] w fun e w' => e = .returned (.bool false) ∧ w = w' := by
  go_enter Tryz.func159, Tryz.ntmps159
  go_wp2_with fail
  refine (idxP_nil a c _ _).mono ?_
  rintro e w1 ⟨rfl, rfl⟩
  go_wp2_with fail
  go_ret
  exact ⟨rfl, rfl⟩
theorem contP_any (p : P2 → Bool) (g : Nat) (lb : Array Value) (eg : ∀ args w, (callFunc g args).run Tryz.prog w = .ok (.enter g args) w) (S : Nat → Prop) (v : Value) (L : List P2) (w : World) (h : Vec w S 2 encP v L) (hn : L.length ≤ 1000000) (hp : PredBelow Tryz.prog g lb (fun x => .agg (encP x).toArray) p w) :
    Calls Tryz.prog 159 #[v, .func (.func g) #[] lb] w fun e w' => e = .returned (.bool (L.any p)) ∧ Below w.heap.size w w' := by
  obtain ⟨a, cap, rfl, hcap, h0⟩ := h
  by_cases hz : L = []
  · subst hz
    exact (contP_nil a cap _ w).mono fun e w' ⟨he, hw⟩ => ⟨he, by rw [← hw]; exact Below.refl _ _⟩
  · obtain ⟨b, off, rfl, _, hb, hc⟩ := h0 (List.length_pos_iff.2 hz)
    have hcon := AnyQ.slices_ContainsFunc Tryz.laysCP 2 Tryz.isAgg138 Tryz.sizeOf138 encP (fun _ => rfl) p g lb eg b off L.length cap L w hp (Nat.le_refl _) (by omega) hb (fun j hj i u hi => by
        have e : L[j]? = some L[j]! := by rw [List.getElem?_eq_getElem hj, getElem!_pos L j hj]
        exact hc j _ e i u hi)
    rw [List.take_of_length_le (Nat.le_refl _)] at hcon
    exact hcon
def checkR (r : RulesL) : Int :=
  if 32 < r.titles.length ∨ 32 < r.nicks.length ∨ 32 < r.streets.length then 1
  else if titlesB r.titles = true ∧ pairsB r.nicks = true ∧ pairsB r.streets = true then (if (r.nicks.any fun x => hasB r.titles x.2) = true then 5 else 0) else 5
set_option maxHeartbeats 2000000 in
theorem rcheck_any (S : Nat → Prop) (vt vn vs : Value) (r : RulesL) (w : World) (h : RulesAt w S vt vn vs r) :
    Calls Tryz.prog 112 #[.agg #[vt, vn, vs]] w fun e w' => e = .returned (.int .i64 (checkR r)) ∧ Below w.heap.size w w' := by
  obtain ⟨lt, ln, ls⟩ := r
  obtain ⟨h1, h2, h3⟩ := h
  dsimp only at h1 h2 h3
  obtain ⟨at1, ct, rfl⟩ := h1.slice
  obtain ⟨an, cn, rfl⟩ := h2.slice
  obtain ⟨as', cs, rfl⟩ := h3.slice
  have H1 := Lib.hid h1.any; have H2 := Lib.hid h2.any; have H3 := Lib.hid h3.any
  clear h1 h2 h3
  have hfin : ∀ n : Int, checkR ⟨lt, ln, ls⟩ = n → Ending.returned (.int .i64 n) = .returned (.int .i64 (checkR ⟨lt, ln, ls⟩)) := fun n h => by rw [h]
  have HF := Lib.hid hfin; clear hfin
  by_cases g1 : 32 < lt.length
  · have e1 : decide ((32 : Int) < lt.length) = true := by simp; omega
    go_enter Tryz.func112, Tryz.ntmps112
    go_wp2_with fail
    go_ret
    exact ⟨HF.out 1 (by unfold checkR; rw [if_pos (.inl g1)]), (Below.refl _ _).alloc (Nat.le_refl _) _⟩
  · have e1 : decide ((32 : Int) < lt.length) = false := by simp; omega
    by_cases g2 : 32 < ln.length
    · have e2 : decide ((32 : Int) < ln.length) = true := by simp; omega
      go_enter Tryz.func112, Tryz.ntmps112
      go_wp2_with fail
      go_ret
      exact ⟨HF.out 1 (by unfold checkR; rw [if_pos (.inr (.inl g2))]), (Below.refl _ _).alloc (Nat.le_refl _) _⟩
    · have e2 : decide ((32 : Int) < ln.length) = false := by simp; omega
      by_cases g3 : 32 < ls.length
      · have e3 : decide ((32 : Int) < ls.length) = true := by simp; omega
        go_enter Tryz.func112, Tryz.ntmps112
        go_wp2_with fail
        go_ret
        exact ⟨HF.out 1 (by unfold checkR; rw [if_pos (.inr (.inr g3))]), (Below.refl _ _).alloc (Nat.le_refl _) _⟩
      · have e3 : decide ((32 : Int) < ls.length) = false := by simp; omega
        go_enter Tryz.func112, Tryz.ntmps112
        go_wp2_with fail
        clear e1 e2 e3
        refine (titles_any Any1 _ lt _ (H1.out.below ((Below.refl _ _).alloc (Nat.le_refl _) _)) (by omega)).mono ?_
        rintro e w1 ⟨rfl, hb1⟩
        have X1 : w1.heap[w.heap.size]? = some (.cells #[.slice at1 lt.length ct, .slice an ln.length cn, .slice as' ls.length cs] 31 (0, 0)) := blk_below hb1 (by simp) (blk_new rfl)
        obtain ⟨p0, p1, p2⟩ := cells3 X1
        have z1 := lt_of_blk X1
        have HB1 := Lib.hid (((Below.refl w.heap.size w).alloc (Nat.le_refl _) _).trans (hb1.mono (by simp)))
        have HX1 := Lib.hid X1; clear X1 hb1
        cases ht : titlesB lt
        · have HT := Lib.hid ht; clear ht
          go_wp2_with fail
          go_ret
          exact ⟨HF.out 5 (by unfold checkR; rw [if_neg (show ¬ (32 < lt.length ∨ 32 < ln.length ∨ 32 < ls.length) by omega), HT.out]; simp), HB1.out⟩
        · have HT := Lib.hid ht; clear ht
          go_wp2_with fail
          refine (pairs_any Any1 _ ln _ (H2.out.below HB1.out) (by omega)).mono ?_
          rintro e w2 ⟨rfl, hb2⟩
          clear p0 p1 p2
          have X2 := blk_below hb2 z1 HX1.out
          obtain ⟨p0, p1, p2⟩ := cells3 X2
          have z2 := lt_of_blk X2
          have HB2 := Lib.hid (HB1.out.trans (hb2.mono HB1.out.size))
          have HX2 := Lib.hid X2; clear X2 hb2 HX1 HB1
          cases hp : pairsB ln
          · have HP := Lib.hid hp; clear hp
            go_wp2_with fail
            go_ret
            exact ⟨HF.out 5 (by unfold checkR; rw [if_neg (show ¬ (32 < lt.length ∨ 32 < ln.length ∨ 32 < ls.length) by omega), HP.out]; simp), HB2.out⟩
          · have HP := Lib.hid hp; clear hp
            go_wp2_with fail
            refine (pairs_any Any1 _ ls _ (H3.out.below HB2.out) (by omega)).mono ?_
            rintro e w3 ⟨rfl, hb3⟩
            clear p0 p1 p2
            have X3 := blk_below hb3 z2 HX2.out
            obtain ⟨p0, p1, p2⟩ := cells3 X3
            have z3 := lt_of_blk X3
            have HB3 := Lib.hid (HB2.out.trans (hb3.mono HB2.out.size))
            have HX3 := Lib.hid X3; clear X3 hb3 HX2 HB2
            cases hq : pairsB ls
            · have HQ := Lib.hid hq; clear hq
              go_wp2_with fail
              go_ret
              exact ⟨HF.out 5 (by unfold checkR; rw [if_neg (show ¬ (32 < lt.length ∨ 32 < ln.length ∨ 32 < ls.length) by omega), HQ.out]; simp), HB3.out⟩
            · have HQ := Lib.hid hq; clear hq
              go_wp2_with fail
              have eg : ∀ args w, (callFunc 160 args).run Tryz.prog w = .ok (.enter 160 args) w := enters_of Tryz.func160 (by kernel_rfl) rfl
              refine (contP_any (fun x => hasB lt x.2) 160 #[.pointer (some ⟨w.heap.size, 0, none⟩)] eg Any1 _ ln _ (H2.out.below HB3.out) (by omega) (pred_check _ _ _ lt w.heap.size _ (H1.out.below HB3.out) (by omega) z3 p0 p1 p2)).mono ?_
              rintro e w4 ⟨rfl, hb4⟩
              have HB4 := Lib.hid (HB3.out.trans (hb4.mono HB3.out.size))
              clear hb4 eg p0 p1 p2
              cases hr : ln.any fun x => hasB lt x.2
              · have HR := Lib.hid hr; clear hr
                go_wp2_with fail
                go_ret
                exact ⟨HF.out 0 (by unfold checkR; rw [if_neg (show ¬ (32 < lt.length ∨ 32 < ln.length ∨ 32 < ls.length) by omega), if_pos ⟨HT.out, HP.out, HQ.out⟩, if_neg (by rw [HR.out]; simp)]), HB4.out⟩
              · have HR := Lib.hid hr; clear hr
                go_wp2_with fail
                go_ret
                exact ⟨HF.out 5 (by unfold checkR; rw [if_neg (show ¬ (32 < lt.length ∨ 32 < ln.length ∨ 32 < ls.length) by omega), if_pos ⟨HT.out, HP.out, HQ.out⟩, if_pos HR.out]), HB4.out⟩
end
section
set_option maxRecDepth 100000
open Go.RowKit
attribute [local go_sem] toList_mk mk_size
/-- what a token becomes by rules -/
def canonL : List P2 → List UInt8 → List UInt8
  | [], s => s
  | p :: L, s => if p.1 == s then p.2 else canonL L s
theorem canon_from (s : List UInt8) : ∀ (L : List P2) (i : Nat), (Lib.idxByFrom (fun _ (y : P2) => y.1 == s) default L i < 0 ∧ canonL L s = s) ∨ (∃ k, k < L.length ∧ Lib.idxByFrom (fun _ (y : P2) => y.1 == s) default L i = ((i + k : Nat) : Int) ∧ (L.getD k default).2 = canonL L s) := by
  intro L
  induction L with
  | nil => intro i; left; simp [Lib.idxByFrom, canonL]
  | cons p L ih =>
    intro i
    cases h : p.1 == s
    · simp only [Lib.idxByFrom, canonL, h]
      rcases ih (i + 1) with ⟨h1, h2⟩ | ⟨k, h1, h2, h3⟩
      · left; exact ⟨by simpa using h1, by simpa using h2⟩
      · right
        refine ⟨k + 1, by simp; omega, ?_, by simpa using h3⟩
        simp only [Bool.false_eq_true, if_false]
        rw [h2]; congr 1; omega
    · right
      exact ⟨0, by simp, by simp [Lib.idxByFrom, h], by simp [canonL, h]⟩
theorem canon_find (L : List P2) (s : List UInt8) : (findI L s < 0 ∧ canonL L s = s) ∨ (∃ k, k < L.length ∧ findI L s = (k : Int) ∧ (L.getD k default).2 = canonL L s) := by
  have := canon_from s L 0
  simpa [findI, Lib.idxBy] using this
set_option maxHeartbeats 1000000 in
theorem canonical_any (S : Nat → Prop) (vt vn vs : Value) (L : List P2) (s : List UInt8) (w : World) (h : Vec w S 2 encP vn L) (hn : L.length ≤ 1000000) :
    Calls Tryz.prog 261 #[.agg #[vt, vn, vs], strV s] w fun e w' => e = .returned (strV (canonL L s)) ∧ Below w.heap.size w w' := by
  obtain ⟨an, cn, rfl⟩ := h.slice
  have HV := Lib.hid h; clear h
  have hcf := canon_find L s
  go_enter Tryz.func261, Tryz.ntmps261
  go_wp2_with fail
  refine (find_any S _ L s _ (HV.out.below ((Below.refl _ _).alloc (Nat.le_refl _) _)) hn).mono ?_
  rintro e w1 ⟨rfl, hb1⟩
  have X1 : w1.heap[w.heap.size]? = some (.cells #[vt, .slice an L.length cn, vs] 31 (0, 0)) := blk_below hb1 (by simp) (blk_new rfl)
  obtain ⟨p0, p1, p2⟩ := cells3 X1
  have HB1 := Lib.hid (((Below.refl w.heap.size w).alloc (Nat.le_refl _) _).trans (hb1.mono (by simp)))
  clear X1 hb1
  rcases hcf with ⟨h1, h2⟩ | ⟨k, hk, h1, h2⟩
  · have H2 := Lib.hid h2; clear h2
    generalize findI L s = n at *
    go_wp2_with fail
    go_ret
    exact ⟨by rw [H2.out]; rfl, HB1.out⟩
  · rw [h1]
    obtain ⟨b, off, rfl, _, hb, hc⟩ := vec_cell2 HV.out (by omega)
    have hc1 := hc k hk 1 _ rfl
    rw [h2] at hc1
    have c1 : w1.cell? ⟨b, off + k * 2 + 1, none⟩ = some (strV (canonL L s)) := (HB1.out.cell (p := ⟨b, off + k * 2 + 1, none⟩) hb).trans hc1
    clear hc hc1 h1 h2
    have hk' : (k : Int) < (L.length : Int) := by omega
    obtain ⟨y, hy⟩ : ∃ y, canonL L s = y := ⟨_, rfl⟩
    rw [hy] at c1
    have HY := Lib.hid hy; clear hy
    go_wp2_with fail
    go_ret
    exact ⟨by rw [HY.out]; rfl, HB1.out⟩
theorem infoS : (Tryz.prog.info? 9).map (fun i => (i.zero, i.size, i.bytes)) = some (some (.string ⟨#[]⟩), 1, 16) := by kernel_rfl
/-- what becomes of a token: nothing, or one -/
def normTok (r : RulesL) (t : List UInt8) : List (List UInt8) := if (lettersL t).isEmpty || hasB r.titles (lettersL t) then [] else [canonL r.nicks (lettersL t)]
def nameToks (r : RulesL) (L : List (List UInt8)) : List (List UInt8) := L.flatMap (normTok r)
/-- the normal form of a name, and the error -/
def nameN (r : RulesL) (l : List UInt8) : List UInt8 × Int :=
  if checkR r = 0 then (if foldV l = true then (if 6 < (nameToks r (toks (foldL l))).length ∨ 64 < (joinL (nameToks r (toks (foldL l)))).length then ([], 1) else (joinL (nameToks r (toks (foldL l))), 0)) else ([], 3)) else ([], checkR r)
def pairV (p : List UInt8 × Int) : Value := .tuple #[strV p.1, .int .i64 p.2]
theorem nameToks_snoc (r : RulesL) (L : List (List UInt8)) (t : List UInt8) : nameToks r (L ++ [t]) = nameToks r L ++ normTok r t := by simp [nameToks]
theorem normTok_len (r : RulesL) (t : List UInt8) : (normTok r t).length ≤ 1 := by unfold normTok; split <;> simp
theorem nameToks_len (r : RulesL) (L : List (List UInt8)) : (nameToks r L).length ≤ L.length := by
  induction L with
  | nil => simp [nameToks]
  | cons t L ih =>
    have := normTok_len r t
    simp only [nameToks, List.flatMap_cons, List.length_append, List.length_cons] at *
    omega
theorem check_zero {r : RulesL} (h : checkR r = 0) : (r.titles.length ≤ 32 ∧ r.nicks.length ≤ 32 ∧ r.streets.length ≤ 32) ∧ titlesB r.titles = true ∧ pairsB r.nicks = true ∧ pairsB r.streets = true ∧ (r.nicks.any fun x => hasB r.titles x.2) = false := by
  unfold checkR at h
  split at h
  · omega
  · split at h
    · rename_i h1 h2
      split at h
      · omega
      · rename_i h3
        exact ⟨by omega, h2.1, h2.2.1, h2.2.2, by simpa using h3⟩
    · omega
theorem pairs_at {L : List P2} (h : pairsB L = true) (j : Nat) (hj : j < L.length) : pairAtB L j = true := List.all_eq_true.1 h j (List.mem_range.2 hj)
theorem token_len {t : List UInt8} (h : tokenB t = true) : t.length ≤ 64 := by
  unfold tokenB at h
  cases h1 : t.isEmpty <;> simp [h1] at h
  exact h.1
theorem canon_len {L : List P2} (h : pairsB L = true) (s : List UInt8) (hs : s.length ≤ 64) : (canonL L s).length ≤ 64 := by
  rcases canon_find L s with ⟨_, h2⟩ | ⟨k, hk, _, h3⟩
  · rw [h2]; exact hs
  · rw [← h3]
    have := pairs_at h k hk
    unfold pairAtB at this
    simp only [Bool.and_eq_true] at this
    exact token_len this.1.1.2
theorem join_le {m : Nat} : ∀ (L : List (List UInt8)), (∀ t ∈ L, t.length ≤ m) → (joinL L).length ≤ L.length * (m + 1) := by
  intro L
  induction L with
  | nil => intro _; simp [joinL]
  | cons t L ih =>
    intro h
    have h1 := ih fun t ht => h t (List.mem_cons_of_mem _ ht)
    have h2 := h t List.mem_cons_self
    by_cases hL : L = []
    · subst hL; simp [joinL]; omega
    · rw [join_cons_ne _ _ hL]
      simp only [List.length_append, List.length_cons, List.length_nil, Nat.succ_mul] at *
      omega
theorem toks_le (l : List UInt8) : ∀ p, ∀ t ∈ toksA p l, t.length ≤ p.length + l.length := by
  induction l with
  | nil =>
    intro p t ht
    simp only [toksA] at ht
    split at ht
    · simp at ht
    · simp at ht; subst ht; simp
  | cons c l ih =>
    intro p t ht
    by_cases hc : c = 32
    · subst hc
      by_cases hp : p = []
      · subst hp
        rw [toksA_sp0] at ht
        have := ih [] t ht
        simp at *; omega
      · rw [toksA_sp _ _ hp] at ht
        rcases List.mem_cons.1 ht with rfl | ht
        · simp
        · have := ih [] t ht
          simp at *; omega
    · rw [toksA_ch _ _ _ hc] at ht
      have := ih _ t ht
      simp at *; omega
theorem nameToks_le {r : RulesL} (h : pairsB r.nicks = true) {L : List (List UInt8)} (hL : ∀ t ∈ L, t.length ≤ 64) : ∀ t ∈ nameToks r L, t.length ≤ 64 := by
  intro t ht
  obtain ⟨x, hx, ht⟩ := List.mem_flatMap.1 ht
  unfold normTok at ht
  split at ht
  · simp at ht
  · simp at ht; subst ht
    exact canon_len h _ (Nat.le_trans (letters_len x) (hL x hx))
end
section
set_option maxRecDepth 100000
open Go.RowKit
attribute [local go_sem] toList_mk mk_size
theorem join_mem (L : List (List UInt8)) : ∀ b ∈ joinL L, b = 32 ∨ ∃ t ∈ L, b ∈ t := by
  induction L with
  | nil => intro b hb; simp [joinL] at hb
  | cons t L ih =>
    intro b hb
    by_cases hL : L = []
    · subst hL; exact .inr ⟨t, by simp, by simpa [joinL] using hb⟩
    · rw [join_cons_ne _ _ hL] at hb
      rcases List.mem_append.1 hb with hb | hb
      · rcases List.mem_append.1 hb with hb | hb
        · exact .inr ⟨t, by simp, hb⟩
        · simp at hb; exact .inl hb
      · rcases ih b hb with h | ⟨x, hx, h⟩
        · exact .inl h
        · exact .inr ⟨x, List.mem_cons_of_mem _ hx, h⟩
theorem fold_ok (l : List UInt8) : ∀ b ∈ foldL l, okB b = true := by
  intro b hb
  rcases join_mem _ b hb with h | ⟨t, ht, hbt⟩
  · subst h; rfl
  · rcases toksA_mem _ [] t ht b hbt with h | h
    · simp at h
    · exact (raw_ok l).1 b h.1
theorem fold_ascii (l : List UInt8) : ascii (foldL l) := fun b hb => okB_lt (fold_ok l b hb)
theorem foldV_len {l : List UInt8} (h : foldV l = true) : l.length ≤ 64 := by
  unfold foldV at h; simp at h; exact h.2
theorem own_below {w w' : World} {B e size n : Nat} {v : Value} {xs : List Value} (h : w.ownsRow B e size v n xs) (hb : Below w.heap.size w w') : w'.ownsRow B e size v n xs := by
  refine ⟨h.1, ?_⟩
  rcases h.2 with h0 | ⟨g, cap, cur, hv, hg, hh, rest⟩
  · exact .inl h0
  · exact .inr ⟨g, cap, cur, hv, hg, (hb.block g (lt_of_blk hh)).trans hh, rest⟩
theorem TL_get {T : List (List UInt8)} (h : ∀ t ∈ T, t.length ≤ 64) (k : Nat) (hk : k < T.length) : (T.getD k []).length ≤ 64 := by
  rw [List.getD, List.getElem?_eq_getElem hk]; exact h _ (List.getElem_mem hk)
/-- a row of texts that the call owns, beside what lay in w4 -/
def OwnAt (w4 : World) (v : Value) (L : List (List UInt8)) (wr : World) : Prop :=
  wr.ownsRow w4.heap.size 9 1 v L.length (L.flatMap encS) ∧ Below w4.heap.size w4 wr
theorem OwnAt.below {w4 wr w' : World} {v : Value} {L : List (List UInt8)} (h : OwnAt w4 v L wr) (hb : Below wr.heap.size wr w') : OwnAt w4 v L w' :=
  ⟨own_below h.1 hb, h.2.trans (hb.mono h.2.size)⟩
theorem OwnAt.start (w4 : World) : OwnAt w4 (.slice none 0 0) [] w4 := ⟨⟨rfl, .inl ⟨rfl, rfl⟩⟩, Below.refl _ _⟩
theorem flat_snoc (L : List (List UInt8)) (y : List UInt8) : (L ++ [y]).flatMap encS = L.flatMap encS ++ [strV y] := by simp
set_option maxHeartbeats 4000000 in
theorem norm_yes (S : Nat → Prop) (vt vn vs : Value) (r : RulesL) (s : ByteArray) (w : World) (h : RulesAt w S vt vn vs r) (hc : checkR r = 0) (hv : foldV s.data.toList = true) :
    Calls Tryz.prog 221 #[.agg #[vt, vn, vs], .string s] w fun e w' => e = .returned (pairV (nameN r s.data.toList)) ∧ Below w.heap.size w w' := by
  have hs : s.size ≤ 64 := by
    have := foldV_len hv
    have h2 : s.data.toList.length = s.size := by simp
    omega
  obtain ⟨⟨k1, k2, k3⟩, g1, g2, g3, g4⟩ := check_zero hc
  have G2 := Lib.hid g2
  have HR := Lib.hid h.any
  have HC := Lib.hid hc; have HV := Lib.hid hv
  clear h hc hv g1 g2 g3 g4
  have hfin : nameN r s.data.toList = (if 6 < (nameToks r (toks (foldL s.data.toList))).length ∨ 64 < (joinL (nameToks r (toks (foldL s.data.toList)))).length then ([], 1) else (joinL (nameToks r (toks (foldL s.data.toList))), 0)) := by
    unfold nameN; rw [if_pos HC.out, if_pos HV.out]
  have HF := Lib.hid hfin; clear hfin
  go_enter Tryz.func221, Tryz.ntmps221
  go_wp2_with fail
  refine (rcheck_any Any1 vt vn vs r _ (HR.out.below ((Below.refl _ _).alloc (Nat.le_refl _) _))).mono ?_
  rw [HC.out]
  rintro e w1 ⟨rfl, hb1⟩
  have X1 : w1.heap[w.heap.size]? = some (.cells #[vt, vn, vs] 31 (0, 0)) := blk_below hb1 (by simp) (blk_new rfl)
  have HX1 := Lib.hid X1
  have HB1 := Lib.hid (((Below.refl w.heap.size w).alloc (Nat.le_refl _) _).trans (hb1.mono (by simp)))
  clear X1 hb1
  go_wp2_with fail
  refine (fold_yes s _ (by omega) HV.out).mono ?_
  rintro e w2 ⟨rfl, hb2⟩
  have HX2 := Lib.hid (blk_below hb2 (lt_of_blk HX1.out) HX1.out)
  have HB2 := Lib.hid (HB1.out.trans (hb2.mono HB1.out.size))
  clear hb2 HX1 HB1
  go_wp2_with fail
  have hfl : (foldL s.data.toList).length ≤ 64 := by
    have := fold_len s.data.toList
    have h2 : s.data.toList.length = s.size := by simp
    omega
  obtain ⟨fl, hfl'⟩ : ∃ fl, foldL s.data.toList = fl := ⟨_, rfl⟩
  have hasc : ascii fl := hfl' ▸ fold_ascii _
  have HA := Lib.hid hasc
  rw [hfl'] at hfl HF ⊢
  clear hasc hfl'
  refine (tokens_any fl _ HA.out (by omega)).mono ?_
  rintro e w4 ⟨A, rfl, hA, ho, hb4⟩
  have HX4 := Lib.hid (blk_below hb4 (lt_of_blk HX2.out) HX2.out)
  have HB4 := Lib.hid (HB2.out.trans (hb4.mono HB2.out.size))
  have hV := Vec.owns (S := Any1) (k := 1) (enc := encS) (fun _ => rfl) ho (fun _ _ _ => trivial)
  have htl : ∀ t ∈ toks fl, t.length ≤ 64 := fun t ht => by have := toks_le fl [] t ht; simp at this; omega
  have htn : (toks fl).length ≤ 65 := by have := (toksA_len fl []).2.1; unfold toks; omega
  obtain ⟨T, hT⟩ : ∃ T, toks fl = T := ⟨_, rfl⟩
  rw [hT] at hV htl htn HF ⊢
  have HV4 := Lib.hid hV; have HTL := Lib.hid htl
  clear hb4 HX2 HB2 ho hV hT htl hA
  go_wp2_with fail
  go_loopw [9, 29] (fun v i wr => ∃ k : Nat, k ≤ T.length ∧ i = .int .i64 k ∧ OwnAt w4 v (nameToks r (T.take k)) wr) (fun _ i _ => T.length - (intOf i).toNat)
  case atStart => exact ⟨0, by omega, rfl, OwnAt.start w4⟩
  case round =>
    obtain ⟨k, hk, rfl, ho⟩ := hrel
    by_cases hlt : k < T.length
    · have hq : decide ((k : Int) < T.length) = true := by simp; omega
      have hi : (k : Int) < (T.length : Int) := by omega
      obtain ⟨b, off, e1, _, hb, hcx⟩ := vec_cell1 HV4.out (by omega)
      cases e1
      have htk : T.take (k + 1) = T.take k ++ [T.getD k []] := by
        rw [List.take_succ_eq_append_getElem hlt, List.getD, List.getElem?_eq_getElem hlt]; rfl
      have hxl : (T.getD k []).length ≤ 64 := TL_get HTL.out k hlt
      have hcx' := hcx k hlt
      obtain ⟨x, hx⟩ : ∃ x, T.getD k [] = x := ⟨_, rfl⟩
      rw [hx] at htk hxl hcx'
      have c1 : wr.cell? ⟨A, k, none⟩ = some (strV x) := by
        have := (ho.2.cell (p := ⟨A, 0 + k, none⟩) hb).trans hcx'
        simpa using this
      have HT := Lib.hid htk; have HO := Lib.hid ho
      have hnl := nameToks_len r (T.take k)
      have hnl2 : (nameToks r (T.take k)).length < 1099511627776 := by have := List.length_take_le k T; omega
      clear hx htk hcx hcx' ho hnl
      go_wp2_with fail
      refine (letters_any (mkS x) _ (by rw [show (mkS x).size = x.length from mk_size x]; omega)).mono ?_
      rw [show (mkS x).data.toList = x by simp [mkS]]
      rintro e w5 ⟨rfl, hb5⟩
      have HO5 := Lib.hid (HO.out.below hb5)
      have hX5 := blk_below (HO5.out.2) (lt_of_blk HX4.out) HX4.out
      clear HO hb5
      have HNT := Lib.hid (show normTok r x = if (lettersL x).isEmpty || hasB r.titles (lettersL x) then [] else [canonL r.nicks (lettersL x)] from rfl)
      have hyl := letters_len x
      obtain ⟨y, hy⟩ : ∃ y, lettersL x = y := ⟨_, rfl⟩
      rw [hy] at HNT hyl ⊢
      clear hy
      have HX5 := Lib.hid hX5
      obtain ⟨p0, p1, p2⟩ := cells3 hX5
      clear hX5
      by_cases hye : y = []
      · have e1 : (y == []) = true := by simpa using hye
        have e2 : y.isEmpty = true := by simpa using hye
        have HN := Lib.hid (show normTok r x = [] by rw [HNT.out, e2]; rfl)
        clear hye HNT
        go_wp2_with fail
        go_roundw
        case rel => exact ⟨k + 1, by omega, by go_num, by rw [HT.out, nameToks_snoc, HN.out, List.append_nil]; exact HO5.out⟩
        case measure => simp [intOf]; omega
      · have e1 : (y == []) = false := by simpa using hye
        have e2 : y.isEmpty = false := by simpa using hye
        rw [e2, Bool.false_or] at HNT
        clear hye
        go_wp2_with fail
        refine (dropped_any Any1 vt vn vs r.titles y _ (HR.out.1.below (HB4.out.trans (HO5.out.2.mono HB4.out.size))) (by omega)).mono ?_
        rintro e w6 ⟨rfl, hb6⟩
        have HO6 := Lib.hid (HO5.out.below hb6)
        have hX6 := blk_below hb6 (lt_of_blk HX5.out) HX5.out
        clear p0 p1 p2 HX5 hb6 HO5
        obtain ⟨p0, p1, p2⟩ := cells3 hX6
        have HX6 := Lib.hid hX6; clear hX6
        cases hd : hasB r.titles y
        · have HN := Lib.hid (show normTok r x = [canonL r.nicks y] by rw [HNT.out, hd]; rfl)
          clear hd HNT
          go_wp2_with fail
          refine (canonical_any Any1 vt vn vs r.nicks y _ (HR.out.2.1.below (HB4.out.trans (HO6.out.2.mono HB4.out.size))) (by omega)).mono ?_
          rintro e w7 ⟨rfl, hb7⟩
          have HO7 := Lib.hid (HO6.out.below hb7)
          clear p0 p1 p2 HX6 hb7 HO6
          obtain ⟨z, hz⟩ : ∃ z, canonL r.nicks y = z := ⟨_, rfl⟩
          rw [hz] at HN ⊢
          clear hz
          have hbz : w4.heap.size ≤ w7.heap.size := HO7.out.2.size
          go_wp2_with (at_builtin; refine wpList_append_new rfl _ _ 28 rfl w4.heap.size 9 1 16 (.string ⟨#[]⟩) Tryz.underlying28 infoS rfl (by decide) (by decide) _ _ _ rfl HO7.out.1 #[strV z] 1 rfl rfl (by simp [Value.oneCell']) hnl2 hbz ?_; intro v2 w8 ho8 hw8)
          go_roundw
          case rel => exact ⟨k + 1, by omega, by go_num, by rw [HT.out, nameToks_snoc, HN.out]; exact ⟨by rw [List.length_append, flat_snoc]; exact ho8, hw8 _ HO7.out.2⟩⟩
          case measure => simp [intOf]; omega
        · have HN := Lib.hid (show normTok r x = [] by rw [HNT.out, hd]; rfl)
          clear hd HNT
          go_wp2_with fail
          go_roundw
          case rel => exact ⟨k + 1, by omega, by go_num, by rw [HT.out, nameToks_snoc, HN.out, List.append_nil]; exact HO6.out⟩
          case measure => simp [intOf]; omega
    · have hq : decide ((k : Int) < T.length) = false := by simp; omega
      rw [List.take_of_length_le (by omega)] at ho
      have HV5 := Lib.hid (Vec.owns (S := Any1) (k := 1) (enc := encS) (fun _ => rfl) ho.1 (fun _ _ _ => trivial))
      have HW := Lib.hid (HB4.out.trans (ho.2.mono HB4.out.size))
      have hnl := nameToks_len r T
      have hjl := join_le (nameToks r T) (nameToks_le G2.out HTL.out)
      clear ho
      obtain ⟨N, hN⟩ : ∃ N, nameToks r T = N := ⟨_, rfl⟩
      rw [hN] at HV5 hnl hjl HF
      clear hN
      have hjb : (joinL N).length ≤ 1000000 := by
        have : N.length * 65 ≤ 65 * 65 := Nat.mul_le_mul_right 65 (by omega)
        omega
      clear hjl
      obtain ⟨av, cv, rfl⟩ := HV5.out.slice
      go_wp2_with fail
      refine (join_any Any1 _ N _ HV5.out (by omega) (by omega)).mono ?_
      rintro e w9 ⟨rfl, hb9⟩
      have HW9 := Lib.hid (HW.out.trans (hb9.mono HW.out.size)); clear hb9
      obtain ⟨J, hJ⟩ : ∃ J, joinL N = J := ⟨_, rfl⟩
      rw [hJ] at HF hjb ⊢
      clear hJ
      by_cases g1 : 6 < N.length
      · have d1 : decide ((6 : Int) < N.length) = true := by simp; omega
        rw [if_pos (.inl g1)] at HF
        go_wp2_with fail
        go_ret2
        exact ⟨by rw [HF.out]; rfl, HW9.out⟩
      · have d1 : decide ((6 : Int) < N.length) = false := by simp; omega
        by_cases g2 : 64 < J.length
        · have d2 : decide ((64 : Int) < J.length) = true := by simp; omega
          rw [if_pos (.inr g2)] at HF
          go_wp2_with fail
          go_ret2
          exact ⟨by rw [HF.out]; rfl, HW9.out⟩
        · have d2 : decide ((64 : Int) < J.length) = false := by simp; omega
          rw [if_neg (by omega)] at HF
          go_wp2_with fail
          go_ret2
          exact ⟨by rw [HF.out]; rfl, HW9.out⟩
set_option maxHeartbeats 1000000 in
theorem norm_no (S : Nat → Prop) (vt vn vs : Value) (r : RulesL) (s : ByteArray) (w : World) (h : RulesAt w S vt vn vs r) (hs : s.size ≤ 9223372036854775000) (hc : checkR r = 0) (hv : foldV s.data.toList = false) :
    Calls Tryz.prog 221 #[.agg #[vt, vn, vs], .string s] w fun e w' => e = .returned (pairV (nameN r s.data.toList)) ∧ Below w.heap.size w w' := by
  have HR := Lib.hid h.any
  have HC := Lib.hid hc; have HV := Lib.hid hv
  clear h hc hv
  have HF := Lib.hid (show nameN r s.data.toList = ([], 3) by unfold nameN; rw [if_pos HC.out, if_neg (by rw [HV.out]; simp)])
  go_enter Tryz.func221, Tryz.ntmps221
  go_wp2_with fail
  refine (rcheck_any Any1 vt vn vs r _ (HR.out.below ((Below.refl _ _).alloc (Nat.le_refl _) _))).mono ?_
  rw [HC.out]
  rintro e w1 ⟨rfl, hb1⟩
  have HB1 := Lib.hid (((Below.refl w.heap.size w).alloc (Nat.le_refl _) _).trans (hb1.mono (by simp)))
  clear hb1
  go_wp2_with fail
  refine (fold_no s _ hs HV.out).mono ?_
  rintro e w2 ⟨rfl, hb2⟩
  have HB2 := Lib.hid (HB1.out.trans (hb2.mono HB1.out.size))
  clear hb2 HB1
  go_wp2_with fail
  go_ret2
  exact ⟨by rw [HF.out]; rfl, HB2.out⟩
set_option maxHeartbeats 1000000 in
theorem norm_bad (S : Nat → Prop) (vt vn vs : Value) (r : RulesL) (s : ByteArray) (w : World) (h : RulesAt w S vt vn vs r) (hc : checkR r ≠ 0) :
    Calls Tryz.prog 221 #[.agg #[vt, vn, vs], .string s] w fun e w' => e = .returned (pairV (nameN r s.data.toList)) ∧ Below w.heap.size w w' := by
  have HR := Lib.hid h.any
  have HF := Lib.hid (show nameN r s.data.toList = ([], checkR r) by unfold nameN; rw [if_neg hc])
  have hne : (checkR r != 0) = true := by simpa using hc
  clear h hc
  go_enter Tryz.func221, Tryz.ntmps221
  go_wp2_with fail
  refine (rcheck_any Any1 vt vn vs r _ (HR.out.below ((Below.refl _ _).alloc (Nat.le_refl _) _))).mono ?_
  obtain ⟨c, hcc⟩ : ∃ c, checkR r = c := ⟨_, rfl⟩
  rw [hcc] at hne HF ⊢
  clear hcc
  rintro e w1 ⟨rfl, hb1⟩
  have HB1 := Lib.hid (((Below.refl w.heap.size w).alloc (Nat.le_refl _) _).trans (hb1.mono (by simp)))
  clear hb1
  go_wp2_with fail
  go_ret2
  exact ⟨by rw [HF.out]; rfl, HB1.out⟩
theorem norm_any (S : Nat → Prop) (vt vn vs : Value) (r : RulesL) (s : ByteArray) (w : World) (h : RulesAt w S vt vn vs r) (hs : s.size ≤ 9223372036854775000) :
    Calls Tryz.prog 221 #[.agg #[vt, vn, vs], .string s] w fun e w' => e = .returned (pairV (nameN r s.data.toList)) ∧ Below w.heap.size w w' := by
  by_cases hc : checkR r = 0
  · cases hv : foldV s.data.toList with
    | true => exact norm_yes S vt vn vs r s w h hc hv
    | false => exact norm_no S vt vn vs r s w h hs hc hv
  · exact norm_bad S vt vn vs r s w h hc
/-- is a text its own normal form -/
def isOwn (p : List UInt8 × Int) (l : List UInt8) : Bool := bif p.2 == 0 then p.1 == l else false
set_option maxHeartbeats 1000000 in
theorem normal_any (S : Nat → Prop) (vt vn vs : Value) (r : RulesL) (s : ByteArray) (w : World) (h : RulesAt w S vt vn vs r) (hs : s.size ≤ 9223372036854775000) :
    Calls Tryz.prog 222 #[.agg #[vt, vn, vs], .string s] w fun e w' => e = .returned (.bool (isOwn (nameN r s.data.toList) s.data.toList)) ∧ Below w.heap.size w w' := by
  have HR := Lib.hid h.any; clear h
  have HS := Lib.hid (Lib.toList_data s)
  go_enter Tryz.func222, Tryz.ntmps222
  go_wp2_with fail
  refine (norm_any Any1 vt vn vs r s _ (HR.out.below ((Below.refl _ _).alloc (Nat.le_refl _) _)) hs).mono ?_
  obtain ⟨p, hp⟩ : ∃ p, nameN r s.data.toList = p := ⟨_, rfl⟩
  rw [hp]
  have HP := Lib.hid hp; clear hp
  obtain ⟨pl, pe⟩ := p
  unfold pairV
  rintro e w1 ⟨rfl, hb1⟩
  have HB1 := Lib.hid (((Below.refl w.heap.size w).alloc (Nat.le_refl _) _).trans (hb1.mono (by simp)))
  clear hb1
  cases he : (pe == 0)
  all_goals
    go_wp2_with fail
    go_ret
    refine ⟨ret_bool ?_, HB1.out⟩
    rw [HP.out]
    simp [isOwn, he, HS.out]
end
section
set_option maxRecDepth 100000
open Go.RowKit
attribute [local go_sem] toList_mk mk_size
def numB : List UInt8 → Bool
  | c :: _ => isDgt c
  | [] => false
@[local go_sem] theorem get_zero (c : UInt8) (l : List UInt8) (h : 0 < (⟨(c :: l).toArray⟩ : ByteArray).size) : (⟨(c :: l).toArray⟩ : ByteArray)[0]'h = c := rfl
set_option maxHeartbeats 400000 in
theorem numeral_any (l : List UInt8) (w : World) :
    Calls Tryz.prog 268 #[strV l] w fun e w' => e = .returned (.bool (numB l)) ∧ w = w' := by
  cases l with
  | nil =>
    go_enter Tryz.func268, Tryz.ntmps268
    go_wp2
    go_ret
    exact ⟨rfl, rfl⟩
  | cons c l =>
    have HD := Lib.hid (dig_iff c)
    go_enter Tryz.func268, Tryz.ntmps268
    go_wp2
    all_goals
      go_ret
      exact ⟨ret_bool (by rw [show numB (c :: l) = isDgt c from rfl, HD.out]; simp; try omega), rfl⟩
/-- a number without the noughts ahead of it -/
def shortL (l : List UInt8) : List UInt8 := if numB (l.dropWhile (· == 48)) = true then l.dropWhile (· == 48) else 48 :: l.dropWhile (· == 48)
@[local go_sem] theorem nought_append (b : List UInt8) : (⟨#[48]⟩ : ByteArray) ++ ⟨b.toArray⟩ = ⟨(48 :: b).toArray⟩ := by
  apply ByteArray.ext; simp
theorem dropWhile_len (p : UInt8 → Bool) (l : List UInt8) : (l.dropWhile p).length ≤ l.length := by
  induction l with
  | nil => simp
  | cons c l ih => rw [List.dropWhile_cons]; split <;> simp; omega
theorem short_len (l : List UInt8) : (shortL l).length ≤ l.length + 1 := by
  have := dropWhile_len (· == 48) l
  unfold shortL; split <;> simp <;> omega
set_option maxHeartbeats 400000 in
theorem short_any (l : List UInt8) (w : World) (hl : l.length ≤ 1000000) :
    Calls Tryz.prog 269 #[strV l] w fun e w' => e = .returned (strV (shortL l)) ∧ w = w' := by
  have ht := Tryz.strings_TrimLeft_one (mkS l) 48 (by decide) w
  rw [show (mkS l).data.toList = l by simp [mkS]] at ht
  have HT := Lib.hid ht; clear ht
  have hfin : shortL l = if numB (Lib.trimLeftB l 48) = true then Lib.trimLeftB l 48 else 48 :: Lib.trimLeftB l 48 := rfl
  have hlen : (Lib.trimLeftB l 48).length ≤ l.length := dropWhile_len _ l
  obtain ⟨r, hr⟩ : ∃ r, Lib.trimLeftB l 48 = r := ⟨_, rfl⟩
  rw [hr] at HT hfin hlen
  have HF := Lib.hid hfin; clear hfin hr
  go_enter Tryz.func269, Tryz.ntmps269
  go_wp2_with fail
  refine HT.out.mono ?_
  rintro e w1 ⟨rfl, hw⟩
  subst hw
  go_wp2_with fail
  refine (numeral_any r _).mono ?_
  rintro e w1 ⟨rfl, rfl⟩
  cases hn : numB r
  · rw [if_neg (by rw [hn]; simp)] at HF
    have hsz : ¬ (9223372036854775807 : Int) < ((r.length + 1 : Nat) : Int) := by omega
    go_wp2_with fail
    go_ret
    exact ⟨by rw [HF.out]; rfl, rfl⟩
  · rw [if_pos hn] at HF
    go_wp2_with fail
    go_ret
    exact ⟨by rw [HF.out]; rfl, rfl⟩
end
section
set_option maxRecDepth 100000
open Go.RowKit
attribute [local go_sem] toList_mk mk_size
/-- append(s, x), with word of where the new slice lies -/
theorem wpList_append_newat {P : Program} {w : World} {ops : Array Oper} {rest : List Oper} {o : Oper} {a : Act} {Q : Exit → Act → World → Prop} (hgd : o.guard = none) (s x : Operand) (t : TypeId)
    (ho : o.op = .call { callee := .builtin .append, args := #[s, x], argTypes := #[t, t] })
    (base : Nat) (e : TypeId) (size bytes : Nat) (z : Value) (ht : P.underlying t = some (.slice e)) (hinfo : (P.info? e).map (fun i => (i.zero, i.size, i.bytes)) = some (some z, size, bytes))
    (hzs : z.cells.size = size) (hsz : 0 < size) (hby : bytes ≤ 128)
    (v : Value) (n : Nat) (xs : List Value) (hs : a.eval s = v) (hown : w.ownsRow base e size v n xs)
    (cs : Array Value) (c : Nat) (hx : a.eval x = .slice (some ⟨w.heap.size, 0, none⟩) 1 c) (hcs : cs.size = size) (h1 : ∀ u ∈ cs.toList, u.oneCell' = true)
    (hn : n < 1099511627776) (hbase : base ≤ w.heap.size)
    (h : ∀ v' w', w'.ownsRow base e size v' (n + 1) (xs ++ cs.toList) → (w.alloc (.cells cs e)).grownBy w' v.ownBlock → (v'.ownBlock = v.ownBlock ∨ v'.ownBlock = some (w.heap.size + 1)) → (∀ W, Below base W w → Below base W w') → wpList P ops Q rest (a.put o.dst v') w') :
    wpList P ops Q (o :: rest) a (w.alloc (.cells cs e)) := by
  obtain ⟨i, hi, hz, h2, h3⟩ := info_parts hinfo
  refine wpList_append_own_at _ hgd s x t ho base e i z size bytes ht hi hz h2 h3 hzs hsz v n xs hs (hown.alloc _) ⟨w.heap.size, 0, none⟩ 1 c cs.toList hx (by simp [hcs]) ?_ h1 (size_le_maxLen (by omega)) ?_ (by simp; omega) ?_
  · intro j u hu
    have : (⟨w.heap.size, 0, none⟩ : Addr).add j = ⟨w.heap.size, j, none⟩ := by unfold Addr.add; split <;> simp_all
    rw [this, cell_of_row _ _ _ _ _ _ (heap_alloc_new w _)]
    simpa using hu
  · exact Nat.le_trans (Nat.mul_le_mul (Nat.le_of_lt_succ (by omega : n + 1 < 1099511627776 + 1)) hby) (by decide)
  · intro v' w' ho' hg _ hat
    refine h v' w' ho' hg (by simpa using hat) fun W hW => (hW.alloc hbase _).grown hg (by simp; omega) ?_
    intro k hk
    exact (hown.lt k hk).1
/-- two rows of texts that the call owns, each by itself -/
def TwoAt (w : World) (u v : Value) (Y N : List (List UInt8)) (wr : World) : Prop :=
  wr.ownsRow w.heap.size 9 1 u Y.length (Y.flatMap encS) ∧ wr.ownsRow w.heap.size 9 1 v N.length (N.flatMap encS) ∧ (∀ g, u.ownBlock = some g → v.ownBlock ≠ some g) ∧ Below w.heap.size w wr
theorem TwoAt.below {w wr w' : World} {u v : Value} {Y N : List (List UInt8)} (h : TwoAt w u v Y N wr) (hb : Below wr.heap.size wr w') : TwoAt w u v Y N w' :=
  ⟨own_below h.1 hb, own_below h.2.1 hb, h.2.2.1, h.2.2.2.trans (hb.mono h.2.2.2.size)⟩
theorem TwoAt.swap {w wr : World} {u v : Value} {Y N : List (List UInt8)} (h : TwoAt w u v Y N wr) : TwoAt w v u N Y wr :=
  ⟨h.2.1, h.1, fun g hv hu => h.2.2.1 g hu hv, h.2.2.2⟩
theorem own_kept {w w' : World} {B e size n : Nat} {v : Value} {xs : List Value} {row : Option Nat} (h : w.ownsRow B e size v n xs) (hg : w.grownBy w' row) (hr : ∀ g, v.ownBlock = some g → row ≠ some g) : w'.ownsRow B e size v n xs := by
  refine ⟨h.1, ?_⟩
  rcases h.2 with h0 | ⟨g, cap, cur, hv, hg', hh, rest⟩
  · exact .inl h0
  · exact .inr ⟨g, cap, cur, hv, hg', (hg.block g (lt_of_blk hh) (fun e => hr g (by rw [hv]; rfl) e.symm)).trans hh, rest⟩
theorem TwoAt.put {w wr w2 : World} {u v u2 : Value} {Y N : List (List UInt8)} {y : List UInt8} (h : TwoAt w u v Y N wr) (ho : w2.ownsRow w.heap.size 9 1 u2 (Y.length + 1) (Y.flatMap encS ++ [strV y]))
    (hg : (wr.alloc (.cells #[strV y] 9)).grownBy w2 u.ownBlock) (hat : u2.ownBlock = u.ownBlock ∨ u2.ownBlock = some (wr.heap.size + 1)) (hw : ∀ W, Below w.heap.size W wr → Below w.heap.size W w2) : TwoAt w u2 v (Y ++ [y]) N w2 := by
  obtain ⟨h1, h2, h3, h4⟩ := h
  refine ⟨by rw [List.length_append, flat_snoc]; exact ho, own_kept (h2.alloc _) hg (fun g hv hu => h3 g hu hv), fun g hu hv => ?_, hw _ h4⟩
  rcases hat with hat | hat
  · exact h3 g (by rw [← hat]; exact hu) hv
  · rw [hat] at hu
    have := (h2.lt g hv).2
    injection hu with hu
    omega
theorem TwoAt.start (w : World) : TwoAt w (.slice none 0 0) (.slice none 0 0) [] [] w := ⟨⟨rfl, .inl ⟨rfl, rfl⟩⟩, ⟨rfl, .inl ⟨rfl, rfl⟩⟩, (fun g h => by simp [Value.ownBlock] at h), Below.refl _ _⟩
def PartPost (L : List (List UInt8)) (w : World) (e : Ending) (w' : World) : Prop := ∃ u v, e = .returned (.tuple #[u, v]) ∧ TwoAt w u v (L.filter numB) (L.filter fun x => !numB x) w'
theorem filter_snoc_yes {p : List UInt8 → Bool} (L : List (List UInt8)) (x : List UInt8) (h : p x = true) : (L ++ [x]).filter p = L.filter p ++ [x] := by simp [h]
theorem filter_snoc_no {p : List UInt8 → Bool} (L : List (List UInt8)) (x : List UInt8) (h : p x = false) : (L ++ [x]).filter p = L.filter p := by simp [h]
theorem take_snocT (T : List (List UInt8)) (k : Nat) (h : k < T.length) : T.take (k + 1) = T.take k ++ [T.getD k []] := by
  rw [List.take_succ_eq_append_getElem h, List.getD, List.getElem?_eq_getElem h]; rfl
set_option maxHeartbeats 2000000 in
theorem part_any (S : Nat → Prop) (v : Value) (L : List (List UInt8)) (w : World) (h : Vec w S 1 encS v L) (hn : L.length ≤ 1000000) :
    Calls Tryz.prog 270 #[v, .func (.func 268) #[] #[]] w (PartPost L w) := by
  obtain ⟨a, cap, rfl⟩ := h.slice
  have HV := Lib.hid h; clear h
  go_enter Tryz.func270, Tryz.ntmps270
  go_wp2_with fail
  go_loopw [4, 5, 10] (fun y n i wr => ∃ k : Nat, k ≤ L.length ∧ i = .int .i64 k ∧ TwoAt w y n ((L.take k).filter numB) ((L.take k).filter fun x => !numB x) wr) (fun _ _ i _ => L.length - (intOf i).toNat)
  case atStart => exact ⟨0, by omega, rfl, TwoAt.start w⟩
  case round =>
    obtain ⟨k, hk, rfl, ho⟩ := hrel
    have HO := Lib.hid ho; clear ho
    by_cases hlt : k < L.length
    · have hq : decide ((k : Int) < L.length) = true := by simp; omega
      have hi : (k : Int) < (L.length : Int) := by omega
      obtain ⟨b, off, rfl, _, hb, hcx⟩ := vec_cell1 HV.out (by omega)
      have htk := take_snocT L k hlt
      have hcx' := hcx k hlt
      obtain ⟨x, hx⟩ : ∃ x, L.getD k [] = x := ⟨_, rfl⟩
      rw [hx] at htk hcx'
      have c1 : wr.cell? ⟨b, off + k, none⟩ = some (strV x) := (HO.out.2.2.2.cell (p := ⟨b, off + k, none⟩) hb).trans hcx'
      have HT := Lib.hid htk
      have l1 : ((L.take k).filter numB).length < 1099511627776 := by have := List.length_filter_le numB (L.take k); have := List.length_take_le k L; omega
      have l2 : ((L.take k).filter fun x => !numB x).length < 1099511627776 := by have := List.length_filter_le (fun x => !numB x) (L.take k); have := List.length_take_le k L; omega
      have hbz : w.heap.size ≤ wr.heap.size := HO.out.2.2.2.size
      clear hx htk hcx hcx'
      go_wp2_with fail
      refine (numeral_any x _).mono ?_
      rintro e w1 ⟨rfl, rfl⟩
      cases hd : numB x
      · have F1 := Lib.hid (filter_snoc_no (p := numB) (L.take k) x hd)
        have F2 := Lib.hid (filter_snoc_yes (p := fun x => !numB x) (L.take k) x (by simp [hd]))
        clear hd
        go_wp2_with (at_builtin; refine wpList_append_newat rfl _ _ 28 rfl w.heap.size 9 1 16 (.string ⟨#[]⟩) Tryz.underlying28 infoS rfl (by decide) (by decide) _ _ _ rfl HO.out.2.1 #[strV x] 1 rfl rfl (by simp [Value.oneCell']) l2 hbz ?_; intro v2 w8 ho8 hg8 hat8 hw8)
        go_roundw
        case rel => exact ⟨k + 1, by omega, by go_num, by rw [HT.out, F1.out, F2.out]; exact (HO.out.swap.put ho8 hg8 hat8 hw8).swap⟩
        case measure => simp [intOf]; omega
      · have F1 := Lib.hid (filter_snoc_yes (p := numB) (L.take k) x hd)
        have F2 := Lib.hid (filter_snoc_no (p := fun x => !numB x) (L.take k) x (by simp [hd]))
        clear hd
        go_wp2_with (at_builtin; refine wpList_append_newat rfl _ _ 28 rfl w.heap.size 9 1 16 (.string ⟨#[]⟩) Tryz.underlying28 infoS rfl (by decide) (by decide) _ _ _ rfl HO.out.1 #[strV x] 1 rfl rfl (by simp [Value.oneCell']) l1 hbz ?_; intro v2 w8 ho8 hg8 hat8 hw8)
        go_roundw
        case rel => exact ⟨k + 1, by omega, by go_num, by rw [HT.out, F1.out, F2.out]; exact HO.out.put ho8 hg8 hat8 hw8⟩
        case measure => simp [intOf]; omega
    · have hq : decide ((k : Int) < L.length) = false := by simp; omega
      rw [List.take_of_length_le (by omega)] at HO
      go_wp2_with fail
      go_ret2
      exact ⟨_, _, rfl, HO.out⟩
end
section
set_option maxRecDepth 100000
open Go.RowKit
attribute [local go_sem] toList_mk mk_size
theorem idxP_any (p : P2 → Bool) (g : Nat) (lb : Array Value) (eg : ∀ args w, (callFunc g args).run Tryz.prog w = .ok (.enter g args) w) (S : Nat → Prop) (v : Value) (L : List P2) (w : World) (h : Vec w S 2 encP v L) (hn : L.length ≤ 1000000) (hp : PredBelow Tryz.prog g lb (fun x => .agg (encP x).toArray) p w) :
    Calls Tryz.prog 206 #[v, .func (.func g) #[] lb] w fun e w' => e = .returned (.int .i64 (Lib.idxBy (fun _ (y : P2) => p y) L default)) ∧ Below w.heap.size w w' := by
  obtain ⟨a, cap, rfl, hcap, h0⟩ := h
  by_cases hz : L = []
  · subst hz
    exact (idxP_nil a cap _ w).mono fun e w' ⟨he, hw⟩ => ⟨he, by rw [← hw]; exact Below.refl _ _⟩
  · obtain ⟨b, off, rfl, _, hb, hc⟩ := h0 (List.length_pos_iff.2 hz)
    have hcon := AnyQ.slices_IndexFunc Tryz.laysIP 2 Tryz.isAgg138 Tryz.sizeOf138 encP (fun _ => rfl) p g lb eg b off L.length cap L w hp (Nat.le_refl _) (by omega) hb (fun j hj i u hi => by
        have e : L[j]? = some L[j]! := by rw [List.getElem?_eq_getElem hj, getElem!_pos L j hj]
        exact hc j _ e i u hi)
    rw [List.take_of_length_le (Nat.le_refl _)] at hcon
    exact hcon
theorem pred_addr (s : List UInt8) (B : Nat) (w : World) (hB : B < w.heap.size) (hcell : w.cell? ⟨B, 0, none⟩ = some (strV s)) :
    PredBelow Tryz.prog 267 #[.pointer (some ⟨B, 0, none⟩)] (fun x => .agg (encP x).toArray) (fun x => x.1 == s) w := fun W x hb => by
  have hc : W.cell? ⟨B, 0, none⟩ = some (strV s) := (hb.cell (p := ⟨B, 0, none⟩) hB).trans hcell
  have hBW : B < W.heap.size := Nat.lt_of_lt_of_le hB hb.size
  have hne : B ≠ W.heap.size := by omega
  have HBb := Lib.hid hb; clear hb hcell
  show Calls Tryz.prog 267 #[.agg #[strV x.1, strV x.2], .pointer (some ⟨B, 0, none⟩)] W _
  go_enter Tryz.func267, Tryz.ntmps267
  go_wp2
  go_ret
  exact ⟨rfl, HBb.out.alloc HBb.out.size _⟩
/-- a block that holds just these texts -/
def RowB (w : World) (A : Nat) (L : List (List UInt8)) : Prop := w.heap[A]? = some (.cells (L.flatMap encS).toArray 9 (0, 0))
theorem own_block {w : World} {B A n : Nat} {L : List (List UInt8)} (h : w.ownsRow B 9 1 (.slice (some ⟨A, 0, none⟩) n n) n (L.flatMap encS)) : B ≤ A ∧ RowB w A L := by
  rcases h.2 with ⟨h0, _⟩ | ⟨g, cap, cur, hv, hg, hh, hn, hc, hsz, ht⟩
  · cases h0
  · cases hv
    refine ⟨hg, ?_⟩
    rw [List.take_of_length_le (by simp [hsz])] at ht
    unfold RowB
    rw [hh, ← ht]
theorem flat_len1 (L : List (List UInt8)) : (L.flatMap encS).length = L.length := by rw [flat_len (k := 1) (fun _ => rfl)]; omega
theorem flat_get1 (L : List (List UInt8)) (j : Nat) (hj : j < L.length) : (L.flatMap encS)[j]? = some (strV (L.getD j [])) := by
  have := flat_get (k := 1) (enc := encS) (fun _ => rfl) L j L[j] (List.getElem?_eq_getElem hj) 0 (by omega)
  rw [List.getD, List.getElem?_eq_getElem hj]
  simpa using this
theorem RowB.cell {w : World} {A : Nat} {L : List (List UInt8)} (h : RowB w A L) (j : Nat) (hj : j < L.length) : w.cell? ⟨A, j, none⟩ = some (strV (L.getD j [])) := by
  rw [cell_of_row _ _ _ _ _ _ h, List.getElem?_toArray]
  exact flat_get1 L j hj
theorem RowB.vec {w : World} {A : Nat} {L : List (List UInt8)} (h : RowB w A L) (cap : Nat) (hc : L.length ≤ cap) : Vec w Any1 1 encS (.slice (some ⟨A, 0, none⟩) L.length cap) L :=
  ⟨_, cap, rfl, hc, fun _ => ⟨A, 0, rfl, trivial, lt_of_blk h, fun j x hj i u hu => by
    have hj' : j < L.length := (List.getElem?_eq_some_iff.1 hj).1
    have hi : i = 0 := by
      cases i with
      | zero => rfl
      | succ i => simp [encS] at hu
    subst hi
    have := h.cell j hj'
    rw [List.getD, hj] at this
    simp [encS] at hu
    subst hu
    simpa using this⟩⟩
theorem flat_set (L : List (List UInt8)) (k : Nat) (y : List UInt8) : (L.set k y).flatMap encS = (L.flatMap encS).set k (strV y) := by
  induction L generalizing k with
  | nil => rfl
  | cons x L ih =>
    cases k with
    | zero => rfl
    | succ k => rw [List.set_cons_succ, List.flatMap_cons, List.flatMap_cons, ih]; rfl
theorem RowB.set {w : World} {A : Nat} {L : List (List UInt8)} (h : RowB w A L) (k : Nat) (y : List UInt8) : RowB (w.setCell ⟨A, k, none⟩ (strV y)) A (L.set k y) := by
  have := blk_set (i := k) (v := strV y) h
  unfold RowB
  rw [this, flat_set]
  simp
/-- what becomes of a token of an address -/
def addrTok (r : RulesL) (x : List UInt8) : List UInt8 := if numB x = true then shortL x else canonL r.streets x
def midL (f : List UInt8 → List UInt8) (T : List (List UInt8)) (k : Nat) : List (List UInt8) := (T.take k).map f ++ T.drop k
theorem mid_len (f : List UInt8 → List UInt8) (T : List (List UInt8)) (k : Nat) (hk : k ≤ T.length) : (midL f T k).length = T.length := by
  unfold midL; simp; omega
theorem mid_get (f : List UInt8 → List UInt8) (T : List (List UInt8)) (k : Nat) (hk : k < T.length) : (midL f T k).getD k [] = T.getD k [] := by
  unfold midL
  rw [List.getD, List.getElem?_append_right (by simp; omega), List.getElem?_drop, List.getD]
  congr 2
  simp; omega
theorem mid_set (f : List UInt8 → List UInt8) (T : List (List UInt8)) (k : Nat) (hk : k < T.length) (y : List UInt8) (hy : f (T.getD k []) = y) : (midL f T k).set k y = midL f T (k + 1) := by
  unfold midL
  have e : T.drop k = T.getD k [] :: T.drop (k + 1) := by
    rw [List.getD, List.getElem?_eq_getElem hk]; exact List.drop_eq_getElem_cons hk
  rw [take_snocT T k hk, e, List.set_append_right _ _ (by simp; omega)]
  have : k - ((T.take k).map f).length = 0 := by simp; omega
  rw [this, List.set_cons_zero, List.map_append, List.append_assoc, ← hy]
  rfl
theorem mid_same (f : List UInt8 → List UInt8) (T : List (List UInt8)) (k : Nat) (hk : k < T.length) (hy : f (T.getD k []) = T.getD k []) : midL f T k = midL f T (k + 1) := by
  unfold midL
  have e : T.drop k = T.getD k [] :: T.drop (k + 1) := by
    rw [List.getD, List.getElem?_eq_getElem hk]; exact List.drop_eq_getElem_cons hk
  rw [take_snocT T k hk, e, List.map_append, List.append_assoc, List.map_cons, List.map_nil, hy]
  rfl
end
section
set_option maxRecDepth 100000
open Go.RowKit
attribute [local go_sem] toList_mk mk_size
/-- numbers behind the other tokens -/
def order2 (T : List (List UInt8)) : List (List UInt8) := (T.filter fun x => !numB x) ++ T.filter numB
def addrN (r : RulesL) (l : List UInt8) : List UInt8 × Int :=
  if checkR r = 0 then (if foldV l = true then (if 6 < (toks (foldL l)).length ∨ 64 < (joinL (order2 ((toks (foldL l)).map (addrTok r)))).length then ([], 1) else (joinL (order2 ((toks (foldL l)).map (addrTok r))), 0)) else ([], 3)) else ([], checkR r)
theorem addrTok_len {r : RulesL} (h : pairsB r.streets = true) (x : List UInt8) (hx : x.length ≤ 64) : (addrTok r x).length ≤ 65 := by
  unfold addrTok
  split
  · have := short_len x; omega
  · have := canon_len h x hx; omega
theorem order2_len (T : List (List UInt8)) : (order2 T).length ≤ 2 * T.length := by
  unfold order2
  have h1 := List.length_filter_le numB T
  have h2 := List.length_filter_le (fun x => !numB x) T
  simp; omega
theorem order2_mem {T : List (List UInt8)} {t : List UInt8} (h : t ∈ order2 T) : t ∈ T := by
  unfold order2 at h
  rcases List.mem_append.1 h with h | h
  · exact (List.mem_filter.1 h).1
  · exact (List.mem_filter.1 h).1
/-- what the loop of Normalise holds -/
def AddrAt (w2 : World) (A : Nat) (M : List (List UInt8)) (wr : World) : Prop := RowB wr A M ∧ Below w2.heap.size w2 wr ∧ w2.heap.size ≤ A
theorem AddrAt.below {w2 wr w' : World} {A : Nat} {M : List (List UInt8)} (h : AddrAt w2 A M wr) (hb : Below wr.heap.size wr w') : AddrAt w2 A M w' :=
  ⟨blk_below hb (lt_of_blk h.1) h.1, h.2.1.trans (hb.mono h.2.1.size), h.2.2⟩
theorem AddrAt.set {w2 wr : World} {A : Nat} {M : List (List UInt8)} (h : AddrAt w2 A M wr) (k : Nat) (y : List UInt8) : AddrAt w2 A (M.set k y) (wr.setCell ⟨A, k, none⟩ (strV y)) :=
  ⟨h.1.set k y, h.2.1.setCell h.2.2 _, h.2.2⟩
set_option maxHeartbeats 4000000 in
theorem addr_yes (S : Nat → Prop) (vt vn vs : Value) (r : RulesL) (s : ByteArray) (w : World) (h : RulesAt w S vt vn vs r) (hc : checkR r = 0) (hv : foldV s.data.toList = true) :
    Calls Tryz.prog 233 #[.agg #[vt, vn, vs], .string s] w fun e w' => e = .returned (pairV (addrN r s.data.toList)) ∧ Below w.heap.size w w' := by
  have hs : s.size ≤ 64 := by
    have := foldV_len hv
    have h2 : s.data.toList.length = s.size := by simp
    omega
  obtain ⟨⟨k1, k2, k3⟩, g1, g2, g3, g4⟩ := check_zero hc
  have G3 := Lib.hid g3
  obtain ⟨avs, cvs, rfl⟩ := h.2.2.slice
  have HR := Lib.hid h.any
  have HC := Lib.hid hc; have HV := Lib.hid hv
  clear h hc hv g1 g2 g3 g4
  have hfin : addrN r s.data.toList = (if 6 < (toks (foldL s.data.toList)).length ∨ 64 < (joinL (order2 ((toks (foldL s.data.toList)).map (addrTok r)))).length then ([], 1) else (joinL (order2 ((toks (foldL s.data.toList)).map (addrTok r))), 0)) := by
    unfold addrN; rw [if_pos HC.out, if_pos HV.out]
  have HF := Lib.hid hfin; clear hfin
  go_enter Tryz.func233, Tryz.ntmps233
  go_wp2_with fail
  refine (rcheck_any Any1 vt vn _ r _ (HR.out.below ((Below.refl _ _).alloc (Nat.le_refl _) _))).mono ?_
  rw [HC.out]
  rintro e w1 ⟨rfl, hb1⟩
  have X1 : w1.heap[w.heap.size]? = some (.cells #[vt, vn, .slice avs r.streets.length cvs] 31 (0, 0)) := blk_below hb1 (by simp) (blk_new rfl)
  have HX1 := Lib.hid X1
  have HB1 := Lib.hid (((Below.refl w.heap.size w).alloc (Nat.le_refl _) _).trans (hb1.mono (by simp)))
  clear X1 hb1
  go_wp2_with fail
  refine (fold_yes s _ (by omega) HV.out).mono ?_
  rintro e w2 ⟨rfl, hb2⟩
  have HX2 := Lib.hid (blk_below hb2 (lt_of_blk HX1.out) HX1.out)
  have HB2 := Lib.hid (HB1.out.trans (hb2.mono HB1.out.size))
  clear hb2 HX1 HB1
  go_wp2_with fail
  have hfl : (foldL s.data.toList).length ≤ 64 := by
    have := fold_len s.data.toList
    have h2 : s.data.toList.length = s.size := by simp
    omega
  obtain ⟨fl, hfl'⟩ : ∃ fl, foldL s.data.toList = fl := ⟨_, rfl⟩
  have hasc : ascii fl := hfl' ▸ fold_ascii _
  have HA := Lib.hid hasc
  rw [hfl'] at hfl HF ⊢
  clear hasc hfl'
  refine (tokens_any fl _ HA.out (by omega)).mono ?_
  rintro e w4 ⟨A, rfl, hA, ho, hb4⟩
  have hrow := (own_block ho).2
  have htl : ∀ t ∈ toks fl, t.length ≤ 64 := fun t ht => by have := toks_le fl [] t ht; simp at this; omega
  have htn : (toks fl).length ≤ 65 := by have := (toksA_len fl []).2.1; unfold toks; omega
  obtain ⟨T, hT⟩ : ∃ T, toks fl = T := ⟨_, rfl⟩
  rw [hT] at hrow htl htn HF ⊢
  have HAt := Lib.hid (show AddrAt w2 A T w4 from ⟨hrow, hb4, hA⟩); have HTL := Lib.hid htl
  have zX2 := lt_of_blk HX2.out
  clear hb4 ho hrow hT htl hA
  go_wp2_with fail
  go_loopw [33] (fun i wr => ∃ k : Nat, k ≤ T.length ∧ i = .int .i64 k ∧ AddrAt w2 A (midL (addrTok r) T k) wr) (fun i _ => T.length - (intOf i).toNat)
  case atStart => exact ⟨0, by omega, rfl, by simpa [midL] using HAt.out⟩
  case round =>
    obtain ⟨k, hk, rfl, ho⟩ := hrel
    have HO := Lib.hid ho; clear ho
    by_cases hlt : k < T.length
    · have hq : decide ((k : Int) < T.length) = true := by simp; omega
      have hi : (k : Int) < (T.length : Int) := by omega
      have hml := mid_len (addrTok r) T k hk
      have c1 := HO.out.1.cell k (by omega)
      rw [mid_get _ _ _ hlt] at c1
      have hxl : (T.getD k []).length ≤ 64 := TL_get HTL.out k hlt
      have hset := mid_set (addrTok r) T k hlt
      have hsame := mid_same (addrTok r) T k hlt
      have hfx : addrTok r (T.getD k []) = if numB (T.getD k []) = true then shortL (T.getD k []) else canonL r.streets (T.getD k []) := rfl
      have hcf := canon_find r.streets (T.getD k [])
      obtain ⟨x, hx⟩ : ∃ x, T.getD k [] = x := ⟨_, rfl⟩
      rw [hx] at c1 hxl hset hsame hfx hcf
      have HSet := Lib.hid hset; have HSame := Lib.hid hsame; have HFx := Lib.hid hfx
      clear hx hset hsame hfx hml
      have hX := blk_below HO.out.2.1 zX2 HX2.out
      obtain ⟨p0, p1, p2⟩ := cells3 hX
      have zX := lt_of_blk hX
      have HX := Lib.hid hX; clear hX
      go_wp2_with fail
      have eg : ∀ args w, (callFunc 267 args).run Tryz.prog w = .ok (.enter 267 args) w := enters_of Tryz.func267 (by kernel_rfl) rfl
      have KI := idxP_any (fun y => y.1 == x) 267 #[.pointer (some ⟨wr.heap.size, 0, none⟩)] eg Any1 (.slice avs r.streets.length cvs) r.streets (wr.alloc (.cells #[strV x] 9)) (HR.out.2.2.below (HB2.out.trans (HO.out.2.1.mono HB2.out.size) |>.alloc (by have := HB2.out.size; have := HO.out.2.1.size; omega) _)) (by omega) (pred_addr x wr.heap.size _ (by simp) (by simp))
      change Calls _ _ _ _ fun e w' => e = .returned (.int .i64 (findI r.streets x)) ∧ Below (wr.alloc (.cells #[strV x] 9)).heap.size (wr.alloc (.cells #[strV x] 9)) w' at KI
      obtain ⟨n, hn⟩ : ∃ n, findI r.streets x = n := ⟨_, rfl⟩
      rw [hn] at KI hcf
      refine KI.mono ?_
      clear eg hn KI
      rintro e w5 ⟨rfl, hb5⟩
      have hal : Below wr.heap.size wr (wr.alloc (.cells #[strV x] 9)) := (Below.refl _ _).alloc (Nat.le_refl _) _
      have HO5 := Lib.hid ((HO.out.below hal).below hb5)
      have hX5 : w5.heap[w.heap.size]? = some (.cells #[vt, vn, .slice avs r.streets.length cvs] 31 (0, 0)) := blk_below hb5 (by simp; omega) (blk_old HX.out)
      have k0 : w5.cell? ⟨wr.heap.size, 0, none⟩ = some (strV x) := (hb5.cell (p := ⟨wr.heap.size, 0, none⟩) (by simp)).trans (by simp)
      clear p0 p1 p2 hal hb5 HO c1
      obtain ⟨p0, p1, p2⟩ := cells3 hX5
      have hAl := lt_of_blk HO5.out.1
      have hml := mid_len (addrTok r) T k hk
      have c5 : w5.cell? ⟨A, k, none⟩ = some (strV ((midL (addrTok r) T k).getD k [])) := HO5.out.1.cell k (by omega)
      have f5 : w5.frozen? ⟨A, k, none⟩ = false := frozen_of_row _ _ _ _ _ HO5.out.1
      generalize (midL (addrTok r) T k).getD k [] = old at c5
      clear hX5 HX hml
      go_wp2_with fail
      refine (numeral_any x _).mono ?_
      rintro e w6 ⟨rfl, rfl⟩
      cases hd : numB x
      · rw [hd, if_neg (by simp)] at HFx
        clear hd
        rcases hcf with ⟨h1, h2⟩ | ⟨j, hj, h1, h2⟩
        · rw [h2] at HFx
          have HS := Lib.hid (HSame.out HFx.out)
          clear h2 HSame HSet
          go_wp2_with fail
          go_roundw
          case rel => exact ⟨k + 1, by omega, by go_num, by rw [← HS.out]; exact HO5.out⟩
          case measure => simp [intOf]; omega
        · rw [← h2] at HFx
          have HS := Lib.hid (HSet.out _ HFx.out)
          subst h1
          obtain ⟨bs, offs, e1, _, hbs, hcs⟩ := vec_cell2 HR.out.2.2 (by omega)
          have hcs1 := hcs j hj 1 _ rfl
          subst e1
          have s1 : w5.cell? ⟨bs, offs + j * 2 + 1, none⟩ = some (strV (r.streets.getD j default).2) := ((HB2.out.trans (HO5.out.2.1.mono HB2.out.size)).cell (p := ⟨bs, offs + j * 2 + 1, none⟩) hbs).trans hcs1
          obtain ⟨y, hy⟩ : ∃ y, (r.streets.getD j default).2 = y := ⟨_, rfl⟩
          rw [hy] at s1 HS
          have hj' : (j : Int) < (r.streets.length : Int) := by omega
          clear hcs hcs1 hy h2 HSame HSet HFx
          go_wp2_with fail
          go_roundw
          case rel => exact ⟨k + 1, by omega, by go_num, by rw [← HS.out]; exact HO5.out.set k y⟩
          case measure => simp [intOf]; omega
      · rw [hd, if_pos rfl] at HFx
        have HS := Lib.hid (HSet.out _ HFx.out)
        clear hd HSame HSet hcf
        go_wp2_with fail
        refine (short_any x _ (by omega)).mono ?_
        rintro e w6 ⟨rfl, rfl⟩
        go_wp2_with fail
        go_roundw
        case rel => exact ⟨k + 1, by omega, by go_num, by rw [← HS.out]; exact HO5.out.set k _⟩
        case measure => simp [intOf]; omega
    · have hq : decide ((k : Int) < T.length) = false := by simp; omega
      obtain rfl : k = T.length := by omega
      have hm : midL (addrTok r) T T.length = T.map (addrTok r) := by unfold midL; simp
      rw [hm] at HO
      have hMl : (T.map (addrTok r)).length = T.length := by simp
      have hmem : ∀ t ∈ T.map (addrTok r), t.length ≤ 65 := by
        intro t ht
        obtain ⟨x, hx, rfl⟩ := List.mem_map.1 ht
        exact addrTok_len G3.out x (HTL.out x hx)
      obtain ⟨M, hM⟩ : ∃ M, T.map (addrTok r) = M := ⟨_, rfl⟩
      rw [hM] at HO hMl hmem HF
      have hjl := join_le (order2 M) (fun t ht => hmem t (order2_mem ht))
      have hol := order2_len M
      have HVM := Lib.hid (HO.out.1.vec T.length (by omega))
      rw [hMl] at HVM
      have HML := Lib.hid hMl
      have HWr := Lib.hid (HO.out.2.1.mono HB2.out.size)
      have HW := Lib.hid (HB2.out.trans (HO.out.2.1.mono HB2.out.size))
      have hjb : (joinL (order2 M)).length ≤ 1000000 := by
        have : (order2 M).length * 66 ≤ 130 * 66 := Nat.mul_le_mul_right 66 (by omega)
        omega
      have hol' : (order2 M).length ≤ 1000 := by omega
      have hM2 : M.length ≤ 100 := by omega
      clear hm hM hmem hjl hol hMl HO
      go_wp2_with fail
      refine (part_any Any1 _ M _ HVM.out (by omega)).mono ?_
      rintro e w6 ⟨u, v, rfl, h2⟩
      obtain ⟨o1, o2, o3, o4⟩ := h2
      obtain ⟨i0, hi0, hz0, hz1, hz2⟩ := info_parts infoS
      have hyl := List.length_filter_le numB M
      have hnl := List.length_filter_le (fun x => !numB x) M
      have hord : order2 M = (M.filter fun x => !numB x) ++ M.filter numB := rfl
      obtain ⟨Y, hY⟩ : ∃ Y, M.filter numB = Y := ⟨_, rfl⟩
      obtain ⟨N, hN⟩ : ∃ N, (M.filter fun x => !numB x) = N := ⟨_, rfl⟩
      rw [hY] at o1 hyl hord
      rw [hN] at o2 hnl hord
      have HW6 := Lib.hid (HW.out.trans (o4.mono HW.out.size))
      have hbz := o4.size
      have O2 := Lib.hid o2
      have HO4 := Lib.hid o4
      clear hY hN o3 o4 HW
      rcases o1 with ⟨o1l, ⟨rfl, h0⟩ | ⟨g, cap, cur, rfl, hg, hh, hn1, hc1, hsz, ht1⟩⟩
      · have hY0 : Y = [] := List.length_eq_zero_iff.1 h0
        subst hY0
        rw [List.append_nil] at hord
        have HV7 := Lib.hid (Vec.owns (S := Any1) (k := 1) (enc := encS) (fun _ => rfl) o2 (fun _ _ _ => trivial))
        clear o1l h0 o2
        rw [hord] at HF hjb hol'
        have HW7 := HW6
        go_wp2_with (at_builtin; refine wpList_append_own_none rfl _ _ 28 rfl _ 9 i0 1 Tryz.underlying28 hi0 _ _ _ rfl O2.out rfl ?_)
        refine (join_any Any1 _ N _ HV7.out (by omega) (by omega)).mono ?_
        rintro e w9 ⟨rfl, hb9⟩
        rw [← hord] at HF hjb ⊢
        clear hord hol'
        have HW9 := Lib.hid (HW7.out.trans (hb9.mono HW7.out.size)); clear hb9
        obtain ⟨J, hJ⟩ : ∃ J, joinL (order2 M) = J := ⟨_, rfl⟩
        rw [hJ] at HF hjb ⊢
        clear hJ
        by_cases g1 : 6 < T.length
        · have d1 : decide ((6 : Int) < T.length) = true := by simp; omega
          rw [if_pos (.inl g1)] at HF
          go_wp2_with fail
          go_ret2
          exact ⟨by rw [HF.out]; rfl, HW9.out⟩
        · have d1 : decide ((6 : Int) < T.length) = false := by simp; omega
          by_cases g2 : 64 < J.length
          · have d2 : decide ((64 : Int) < J.length) = true := by simp; omega
            rw [if_pos (.inr g2)] at HF
            go_wp2_with fail
            go_ret2
            exact ⟨by rw [HF.out]; rfl, HW9.out⟩
          · have d2 : decide ((64 : Int) < J.length) = false := by simp; omega
            rw [if_neg (by omega)] at HF
            go_wp2_with fail
            go_ret2
            exact ⟨by rw [HF.out]; rfl, HW9.out⟩
      · have hcells : ∀ j u, (Y.flatMap encS)[j]? = some u → w6.cell? ((⟨g, 0, none⟩ : Addr).add j) = some u := by
          intro j u hu
          have : (⟨g, 0, none⟩ : Addr).add j = ⟨g, j, none⟩ := by unfold Addr.add; split <;> simp_all
          rw [this, cell_of_row _ _ _ _ _ _ hh]
          rw [← ht1, List.getElem?_take] at hu
          split at hu
          · rw [← Array.getElem?_toList]; exact hu
          · cases hu
        have HCl := Lib.hid hcells
        have hone : ∀ u ∈ Y.flatMap encS, u.oneCell' = true := by
          intro u hu
          obtain ⟨y, _, hy⟩ := List.mem_flatMap.1 hu
          simp at hy; subst hy; rfl
        have HOne := Lib.hid hone
        have hYb : N.length + Y.length ≤ 1000 := by omega
        have hmx : N.length + Y.length ≤ maxLen := size_le_maxLen (by omega)
        have HMx := Lib.hid hmx
        clear o1l hg hh hn1 hc1 hsz ht1 hcells hone o2 hmx
        go_wp2_with (at_builtin; refine wpList_append_own _ rfl _ _ 28 rfl wr.heap.size 9 i0 (.string ⟨#[]⟩) 1 16 Tryz.underlying28 hi0 hz0 hz1 hz2 rfl (by decide) _ _ _ rfl O2.out ⟨g, 0, none⟩ Y.length cap (Y.flatMap encS) rfl (by rw [flat_len1]; omega) HCl.out HOne.out HMx.out (by omega) hbz ?_; intro v7 w7 ho7 hg7 _)
        rw [show N.length + Y.length = (N ++ Y).length by simp, ← List.flatMap_append, ← hord] at ho7
        have HV7 := Lib.hid (Vec.owns (S := Any1) (k := 1) (enc := encS) (fun _ => rfl) ho7 (fun _ _ _ => trivial))
        have hbw7 : Below wr.heap.size wr w7 := HO4.out.grown hg7 hbz (fun j hj => (O2.out.lt j hj).1)
        have HW7 := Lib.hid ((HB2.out.trans HWr.out).trans (hbw7.mono (HB2.out.trans HWr.out).size))
        clear ho7 hg7 hbw7 HCl HOne HMx
        refine (join_any Any1 _ (order2 M) _ HV7.out (by omega) (by omega)).mono ?_
        rintro e w9 ⟨rfl, hb9⟩
        clear hord hol'
        have HW9 := Lib.hid (HW7.out.trans (hb9.mono HW7.out.size)); clear hb9
        obtain ⟨J, hJ⟩ : ∃ J, joinL (order2 M) = J := ⟨_, rfl⟩
        rw [hJ] at HF hjb ⊢
        clear hJ
        by_cases g1 : 6 < T.length
        · have d1 : decide ((6 : Int) < T.length) = true := by simp; omega
          rw [if_pos (.inl g1)] at HF
          go_wp2_with fail
          go_ret2
          exact ⟨by rw [HF.out]; rfl, HW9.out⟩
        · have d1 : decide ((6 : Int) < T.length) = false := by simp; omega
          by_cases g2 : 64 < J.length
          · have d2 : decide ((64 : Int) < J.length) = true := by simp; omega
            rw [if_pos (.inr g2)] at HF
            go_wp2_with fail
            go_ret2
            exact ⟨by rw [HF.out]; rfl, HW9.out⟩
          · have d2 : decide ((64 : Int) < J.length) = false := by simp; omega
            rw [if_neg (by omega)] at HF
            go_wp2_with fail
            go_ret2
            exact ⟨by rw [HF.out]; rfl, HW9.out⟩
end
section
set_option maxRecDepth 100000
open Go.RowKit
attribute [local go_sem] toList_mk mk_size
set_option maxHeartbeats 1000000 in
theorem addr_no (S : Nat → Prop) (vt vn vs : Value) (r : RulesL) (s : ByteArray) (w : World) (h : RulesAt w S vt vn vs r) (hs : s.size ≤ 9223372036854775000) (hc : checkR r = 0) (hv : foldV s.data.toList = false) :
    Calls Tryz.prog 233 #[.agg #[vt, vn, vs], .string s] w fun e w' => e = .returned (pairV (addrN r s.data.toList)) ∧ Below w.heap.size w w' := by
  have HR := Lib.hid h.any
  have HC := Lib.hid hc; have HV := Lib.hid hv
  clear h hc hv
  have HF := Lib.hid (show addrN r s.data.toList = ([], 3) by unfold addrN; rw [if_pos HC.out, if_neg (by rw [HV.out]; simp)])
  go_enter Tryz.func233, Tryz.ntmps233
  go_wp2_with fail
  refine (rcheck_any Any1 vt vn vs r _ (HR.out.below ((Below.refl _ _).alloc (Nat.le_refl _) _))).mono ?_
  rw [HC.out]
  rintro e w1 ⟨rfl, hb1⟩
  have HB1 := Lib.hid (((Below.refl w.heap.size w).alloc (Nat.le_refl _) _).trans (hb1.mono (by simp)))
  clear hb1
  go_wp2_with fail
  refine (fold_no s _ hs HV.out).mono ?_
  rintro e w2 ⟨rfl, hb2⟩
  have HB2 := Lib.hid (HB1.out.trans (hb2.mono HB1.out.size))
  clear hb2 HB1
  go_wp2_with fail
  go_ret2
  exact ⟨by rw [HF.out]; rfl, HB2.out⟩
set_option maxHeartbeats 1000000 in
theorem addr_bad (S : Nat → Prop) (vt vn vs : Value) (r : RulesL) (s : ByteArray) (w : World) (h : RulesAt w S vt vn vs r) (hc : checkR r ≠ 0) :
    Calls Tryz.prog 233 #[.agg #[vt, vn, vs], .string s] w fun e w' => e = .returned (pairV (addrN r s.data.toList)) ∧ Below w.heap.size w w' := by
  have HR := Lib.hid h.any
  have HF := Lib.hid (show addrN r s.data.toList = ([], checkR r) by unfold addrN; rw [if_neg hc])
  have hne : (checkR r != 0) = true := by simpa using hc
  clear h hc
  go_enter Tryz.func233, Tryz.ntmps233
  go_wp2_with fail
  refine (rcheck_any Any1 vt vn vs r _ (HR.out.below ((Below.refl _ _).alloc (Nat.le_refl _) _))).mono ?_
  obtain ⟨c, hcc⟩ : ∃ c, checkR r = c := ⟨_, rfl⟩
  rw [hcc] at hne HF ⊢
  clear hcc
  rintro e w1 ⟨rfl, hb1⟩
  have HB1 := Lib.hid (((Below.refl w.heap.size w).alloc (Nat.le_refl _) _).trans (hb1.mono (by simp)))
  clear hb1
  go_wp2_with fail
  go_ret2
  exact ⟨by rw [HF.out]; rfl, HB1.out⟩
theorem addr_any (S : Nat → Prop) (vt vn vs : Value) (r : RulesL) (s : ByteArray) (w : World) (h : RulesAt w S vt vn vs r) (hs : s.size ≤ 9223372036854775000) :
    Calls Tryz.prog 233 #[.agg #[vt, vn, vs], .string s] w fun e w' => e = .returned (pairV (addrN r s.data.toList)) ∧ Below w.heap.size w w' := by
  by_cases hc : checkR r = 0
  · cases hv : foldV s.data.toList with
    | true => exact addr_yes S vt vn vs r s w h hc hv
    | false => exact addr_no S vt vn vs r s w h hs hc hv
  · exact addr_bad S vt vn vs r s w h hc
set_option maxHeartbeats 1000000 in
theorem anormal_any (S : Nat → Prop) (vt vn vs : Value) (r : RulesL) (s : ByteArray) (w : World) (h : RulesAt w S vt vn vs r) (hs : s.size ≤ 9223372036854775000) :
    Calls Tryz.prog 234 #[.agg #[vt, vn, vs], .string s] w fun e w' => e = .returned (.bool (isOwn (addrN r s.data.toList) s.data.toList)) ∧ Below w.heap.size w w' := by
  have HR := Lib.hid h.any; clear h
  have HS := Lib.hid (Lib.toList_data s)
  go_enter Tryz.func234, Tryz.ntmps234
  go_wp2_with fail
  refine (addr_any Any1 vt vn vs r s _ (HR.out.below ((Below.refl _ _).alloc (Nat.le_refl _) _)) hs).mono ?_
  obtain ⟨p, hp⟩ : ∃ p, addrN r s.data.toList = p := ⟨_, rfl⟩
  rw [hp]
  have HP := Lib.hid hp; clear hp
  obtain ⟨pl, pe⟩ := p
  unfold pairV
  rintro e w1 ⟨rfl, hb1⟩
  have HB1 := Lib.hid (((Below.refl w.heap.size w).alloc (Nat.le_refl _) _).trans (hb1.mono (by simp)))
  clear hb1
  cases he : (pe == 0)
  all_goals
    go_wp2_with fail
    go_ret
    refine ⟨ret_bool ?_, HB1.out⟩
    rw [HP.out]
    simp [isOwn, he, HS.out]
def codeN (l : List UInt8) : List UInt8 × Int :=
  if foldV l = true then (if 12 < (toks (foldL l)).flatten.length then ([], 1) else ((toks (foldL l)).flatten, 0)) else ([], 3)
theorem join_flat (L : List (List UInt8)) : Lib.join L [] = L.flatten := by
  induction L with
  | nil => rfl
  | cons a L ih =>
    rw [Lib.join_cons, List.flatten_cons]
    congr 1
    unfold Lib.joinTail
    simp
theorem flat_le (l : List UInt8) : ∀ p, (toksA p l).flatten.length ≤ p.length + l.length := by
  induction l with
  | nil => intro p; simp only [toksA]; split <;> simp
  | cons c l ih =>
    intro p
    by_cases hc : c = 32
    · subst hc
      by_cases hp : p = []
      · subst hp; rw [toksA_sp0]; have := ih []; simp at *; omega
      · rw [toksA_sp _ _ hp]; have := ih []; simp at *; omega
    · rw [toksA_ch _ _ _ hc]; have := ih (p ++ [c]); simp at *; omega
set_option maxHeartbeats 1000000 in
theorem code_any (s : ByteArray) (w : World) (hs : s.size ≤ 9223372036854775000) :
    Calls Tryz.prog 229 #[.string s] w fun e w' => e = .returned (pairV (codeN s.data.toList)) ∧ Below w.heap.size w w' := by
  cases hv : foldV s.data.toList
  · have HV := Lib.hid hv
    have HF := Lib.hid (show codeN s.data.toList = ([], 3) by unfold codeN; rw [if_neg (by rw [hv]; simp)])
    clear hv
    go_enter Tryz.func229, Tryz.ntmps229
    go_wp2_with fail
    refine (fold_no s _ hs HV.out).mono ?_
    rintro e w2 ⟨rfl, hb2⟩
    go_wp2_with fail
    go_ret2
    exact ⟨by rw [HF.out]; rfl, hb2⟩
  · have hs64 : s.size ≤ 64 := by
      have := foldV_len hv
      have h2 : s.data.toList.length = s.size := by simp
      omega
    have hfl : (foldL s.data.toList).length ≤ 64 := by
      have := fold_len s.data.toList
      have h2 : s.data.toList.length = s.size := by simp
      omega
    have HV := Lib.hid hv
    have hfin : codeN s.data.toList = (if 12 < (toks (foldL s.data.toList)).flatten.length then ([], 1) else ((toks (foldL s.data.toList)).flatten, 0)) := by
      unfold codeN; rw [if_pos hv]
    clear hv
    obtain ⟨fl, hfl'⟩ : ∃ fl, foldL s.data.toList = fl := ⟨_, rfl⟩
    have HA := Lib.hid (show ascii fl from hfl' ▸ fold_ascii _)
    rw [hfl'] at hfl hfin
    have HFl := Lib.hid hfl'
    have HF := Lib.hid hfin; clear hfin hfl'
    go_enter Tryz.func229, Tryz.ntmps229
    go_wp2_with fail
    refine (fold_yes s _ (by omega) HV.out).mono ?_
    rw [HFl.out]
    rintro e w2 ⟨rfl, hb2⟩
    have HB2 := Lib.hid hb2; clear hb2
    go_wp2_with fail
    refine (tokens_any fl _ HA.out (by omega)).mono ?_
    rintro e w4 ⟨A, rfl, hA, ho, hb4⟩
    have hrow := (own_block ho).2
    have HB4 := Lib.hid (HB2.out.trans (hb4.mono HB2.out.size))
    have htn : (toks fl).length ≤ 65 := by have := (toksA_len fl []).2.1; unfold toks; omega
    have hfle : (toks fl).flatten.length ≤ 64 := by have := flat_le fl []; simp at this; unfold toks; simp; omega
    obtain ⟨T, hT⟩ : ∃ T, toks fl = T := ⟨_, rfl⟩
    rw [hT] at hrow htn hfle HF ⊢
    have hjj : Lib.join ((T.map mkS).map (·.data.toList)) [] = T.flatten := by
      rw [List.map_map, ← join_flat]; congr 1; conv => rhs; rw [← List.map_id T]
      exact List.map_congr_left fun x _ => by simp [mkS]
    have hj := Tryz.strings_Join A 0 T.length (T.map mkS) ⟨#[]⟩ w4 (fun j x hx => by
        rw [List.getElem?_map] at hx
        obtain ⟨y, hy, rfl⟩ := Option.map_eq_some_iff.1 hx
        have hj' : j < T.length := (List.getElem?_eq_some_iff.1 hy).1
        have := hrow.cell j hj'
        rw [List.getD, hy] at this
        simpa [mkS] using this) (lt_of_blk hrow) (by simp; omega) (by simp) (by rw [show (⟨#[]⟩ : ByteArray).data.toList = [] from rfl, hjj]; omega)
    rw [show (⟨#[]⟩ : ByteArray).data.toList = [] from rfl, hjj, List.length_map] at hj
    have HJ := Lib.hid hj
    clear hb4 ho hrow hT hA hj hjj HB2
    go_wp2_with fail
    refine HJ.out.mono ?_
    obtain ⟨J, hJ⟩ : ∃ J, T.flatten = J := ⟨_, rfl⟩
    rw [hJ] at HF hfle ⊢
    clear hJ HJ
    rintro e w5 ⟨rfl, hb5⟩
    have HB5 := Lib.hid (HB4.out.trans (hb5.mono HB4.out.size)); clear hb5 HB4
    by_cases g1 : 12 < J.length
    · have d1 : decide ((12 : Int) < J.length) = true := by simp; omega
      rw [if_pos g1] at HF
      go_wp2_with fail
      go_ret2
      exact ⟨by rw [HF.out]; rfl, HB5.out⟩
    · have d1 : decide ((12 : Int) < J.length) = false := by simp; omega
      rw [if_neg g1] at HF
      go_wp2_with fail
      go_ret2
      exact ⟨by rw [HF.out]; rfl, HB5.out⟩
set_option maxHeartbeats 1000000 in
theorem normed_any (s : ByteArray) (w : World) (hs : s.size ≤ 9223372036854775000) :
    Calls Tryz.prog 231 #[.string s] w fun e w' => e = .returned (.bool (isOwn (codeN s.data.toList) s.data.toList)) ∧ Below w.heap.size w w' := by
  have HS := Lib.hid (Lib.toList_data s)
  go_enter Tryz.func231, Tryz.ntmps231
  go_wp2_with fail
  refine (code_any s _ hs).mono ?_
  obtain ⟨p, hp⟩ : ∃ p, codeN s.data.toList = p := ⟨_, rfl⟩
  rw [hp]
  have HP := Lib.hid hp; clear hp
  obtain ⟨pl, pe⟩ := p
  unfold pairV
  rintro e w1 ⟨rfl, hb1⟩
  have HB1 := Lib.hid hb1
  clear hb1
  cases he : (pe == 0)
  all_goals
    go_wp2_with fail
    go_ret
    refine ⟨ret_bool ?_, HB1.out⟩
    rw [HP.out]
    simp [isOwn, he, HS.out]
end
section
set_option maxRecDepth 100000
open Go.RowKit Cal
def isDig (l : List UInt8) : Prop := ∀ c ∈ l, 48 ≤ c.toNat ∧ c.toNat ≤ 57
def valD : List UInt8 → Nat
  | [] => 0
  | c :: cs => (c.toNat - 48) * 10 ^ cs.length + valD cs
theorem valD_append (l r : List UInt8) : valD (l ++ r) = valD l * 10 ^ r.length + valD r := by
  induction l with
  | nil => simp [valD]
  | cons c cs ih => simp only [List.cons_append, valD, ih, List.length_append, Nat.pow_add, Nat.add_mul]; rw [Nat.mul_assoc]; omega
theorem numFrom_dig (l : List UInt8) (h : isDig l) : ∀ n : Nat, numFrom (n : Int) l = some ((n * 10 ^ l.length + valD l : Nat) : Int) := by
  induction l with
  | nil => intro n; simp [numFrom, valD]
  | cons c cs ih =>
    intro n
    have h1 := h c (by simp)
    have h2 := ih fun x hx => h x (by simp [hx])
    have e : (10 * (n : Int) + ((c.toNat : Int) - 48)) = ((10 * n + (c.toNat - 48) : Nat) : Int) := by omega
    rw [numFrom, if_pos (by omega), e, h2]
    congr 2
    simp only [valD, List.length_cons, Nat.pow_succ, Nat.add_mul]
    have : 10 * n * 10 ^ cs.length = n * (10 ^ cs.length * 10) := by rw [Nat.mul_comm 10 n, Nat.mul_assoc, Nat.mul_comm 10]
    omega
theorem numI_dig (l : List UInt8) (h : isDig l) : numI l = valD l := by
  unfold numI
  have := numFrom_dig l h 0
  simp only [Int.natCast_zero] at this
  rw [show (0 : Int) = ((0 : Nat) : Int) from rfl, numFrom_dig l h 0]
  simp
theorem dg_len (k : Nat) : ∀ n, (dg n k).length = k := by
  induction k with
  | zero => intro n; rfl
  | succ k ih => intro n; simp [dg, ih]
theorem dg_dig (k : Nat) : ∀ n : Int, 0 ≤ n → isDig (dg n k) := by
  induction k with
  | zero => intro n _ c hc; simp [dg] at hc
  | succ k ih =>
    intro n hn c hc
    simp only [dg, List.mem_append, List.mem_singleton] at hc
    rcases hc with hc | rfl
    · exact ih (n / 10) (by omega) c hc
    · have : (UInt8.ofNat (48 + (n % 10).toNat)).toNat = 48 + (n % 10).toNat := by rw [UInt8.toNat_ofNat']; omega
      omega
theorem dg_val (k : Nat) : ∀ n : Int, 0 ≤ n → n < 10 ^ k → (valD (dg n k) : Int) = n := by
  induction k with
  | zero => intro n h0 h1; simp at h1; simp [dg, valD]; omega
  | succ k ih =>
    intro n hn h1
    have e : (UInt8.ofNat (48 + (n % 10).toNat)).toNat = 48 + (n % 10).toNat := by rw [UInt8.toNat_ofNat']; omega
    have h2 : n / 10 < 10 ^ k := by rw [Int.pow_succ] at h1; omega
    have := ih (n / 10) (by omega) h2
    simp only [dg, valD_append, valD, List.length_cons, List.length_nil, e]
    simp
    omega
theorem digits8_len (y m d : Int) : (digits8 y m d).length = 8 := by simp [digits8, dg_len]
end
section
set_option maxRecDepth 100000
open Go.RowKit Cal
attribute [local go_sem] dg_len
@[local go_sem] theorem bytes_append (a b : List UInt8) : (⟨a.toArray⟩ : ByteArray) ++ ⟨b.toArray⟩ = ⟨(a ++ b).toArray⟩ := by
  apply ByteArray.ext; simp
theorem ret_str {a b : List UInt8} (h : a = b) : Ending.returned (.string ⟨a.toArray⟩) = .returned (.string ⟨b.toArray⟩) := by rw [h]
theorem dgb (n : Int) (h : 0 ≤ n) : byteV (UInt8.ofNat (48 + (n % 10).toNat)) = .int .u8 (48 + n % 10) := by
  have : (UInt8.ofNat (48 + (n % 10).toNat)).toNat = 48 + (n % 10).toNat := by rw [UInt8.toNat_ofNat']; omega
  unfold byteV; rw [this]; congr 1; omega
theorem owns_new {w : World} {B : Nat} {e : TypeId} (l : List UInt8) (hB : B ≤ w.heap.size) (hl : l.length ≤ 1000) :
    (w.alloc (.cells (l.map byteV).toArray e)).ownsRow B e 1 (.slice (some ⟨w.heap.size, 0, none⟩) l.length l.length) l.length (l.map byteV) :=
  ⟨by simp, .inr ⟨_, _, _, rfl, hB, blk_new rfl, Nat.le_refl _, size_le_maxLen (by omega), by simp, by rw [List.take_of_length_le (by simp)]⟩⟩
set_option maxHeartbeats 400000 in
theorem two_any (n : Int) (w : World) (h0 : 0 ≤ n) (h1 : n ≤ 99) :
    Calls Tryz.prog 130 #[.int .i64 n] w fun e w' => e = .returned (.string ⟨(dg n 2).toArray⟩) ∧ Below w.heap.size w w' := by
  have ha : 0 ≤ n / 10 % 10 ∧ n / 10 % 10 ≤ 9 := by omega
  have hb : 0 ≤ n % 10 ∧ n % 10 ≤ 9 := by omega
  obtain ⟨ha1, ha2⟩ := ha
  obtain ⟨hb1, hb2⟩ := hb
  have hcv : ∀ w : World, (convert 55 9 (.slice (some ⟨w.heap.size, 0, none⟩) 2 2)).run Tryz.prog (w.alloc (.cells #[.int .u8 (48 + n / 10 % 10), .int .u8 (48 + n % 10)] 5)) = .ok (.string ⟨(dg n 2).toArray⟩) (w.alloc (.cells #[.int .u8 (48 + n / 10 % 10), .int .u8 (48 + n % 10)] 5)) := by
    intro w
    have ho := owns_new (w := w) (B := 0) (e := 5) (dg n 2) (Nat.zero_le _) (by rw [dg_len]; omega)
    rw [dg_len] at ho
    have e1 : (dg n 2).map byteV = [.int .u8 (48 + n / 10 % 10), .int .u8 (48 + n % 10)] := by
      simp only [dg, List.nil_append, List.cons_append, List.map_cons, List.map_nil]
      rw [dgb _ (by omega), dgb _ h0]
    rw [e1] at ho
    exact run_convert_owned (dg n 2) (by rw [e1]; exact ho) Tryz.underlying55 Tryz.underlying5 Tryz.underlying9
  go_enter Tryz.func130, Tryz.ntmps130
  go_wp2
  go_ret
  exact ⟨rfl, (Below.refl _ _).alloc (Nat.le_refl _) _⟩

theorem dg_two (n : Int) : dg n 4 = dg (n / 100) 2 ++ dg n 2 := by
  simp only [dg, List.nil_append, List.append_assoc]
  have e1 : n / 10 / 10 = n / 100 := by omega
  rw [e1]
theorem dg_mod (n : Int) (h : 0 ≤ n) : dg (n % 100) 2 = dg n 2 := by
  simp only [dg, List.nil_append]
  have e1 : n % 100 / 10 % 10 = n / 10 % 10 := by omega
  have e2 : n % 100 % 10 = n % 10 := by omega
  rw [e1, e2]
/-- a date in one of three forms -/
def writtenL (y m d form : Int) : List UInt8 :=
  if form = 0 then dg y 4 ++ [45] ++ dg m 2 ++ [45] ++ dg d 2 else if form = 1 then dg d 2 ++ [46] ++ dg m 2 ++ [46] ++ dg y 4 else dg m 2 ++ [47] ++ dg d 2 ++ [47] ++ dg y 4
set_option maxHeartbeats 400000 in
theorem mod_any (x n : Int) (w : World) (hx : 0 ≤ x) (hx2 : x ≤ 1000000000000) (hn : 1 ≤ n) (hn2 : n ≤ 1000000000) :
    Calls Tryz.prog 20 #[.int .i64 x, .int .i64 n] w fun e w' => e = .returned (.int .i64 (x % n)) ∧ w = w' := by
  have h1 : 0 ≤ x % n := Int.emod_nonneg _ (by omega)
  have h2 : x % n < n := Int.emod_lt_of_pos _ (by omega)
  have h3 : 0 ≤ x % n + n := by omega
  have H4 := Lib.hid (show (x % n + n) % n = x % n by rw [Int.add_emod_right]; exact Int.emod_eq_of_lt h1 h2)
  go_enter Tryz.func20, Tryz.ntmps20
  go_wp2
  go_ret
  exact ⟨ret_int (by have := H4.out; simp [this]), rfl⟩
set_option maxHeartbeats 1000000 in
theorem written_any (y m d form : Int) (w : World) (hb : 1800 ≤ y ∧ y ≤ 2199 ∧ 0 ≤ m ∧ m ≤ 13 ∧ 1 ≤ d ∧ d ≤ 32) (hf : 0 ≤ form ∧ form ≤ 2) :
    Calls Tryz.prog 79 #[.agg #[.int .i64 y, .int .i64 m, .int .i64 d], .int .i64 form] w fun e w' => e = .returned (.string ⟨(writtenL y m d form).toArray⟩) ∧ Below w.heap.size w w' := by
  obtain ⟨b1, b2, b3, b4, b5, b6⟩ := hb
  obtain ⟨f1, f2⟩ := hf
  have q1 : 0 ≤ y / 100 ∧ y / 100 ≤ 99 := by omega
  have q2 : 0 ≤ y % 100 ∧ y % 100 ≤ 99 := by omega
  obtain ⟨q1, q1'⟩ := q1
  obtain ⟨q2, q2'⟩ := q2
  have HM := fun w => Lib.hid (mod_any form 3 w f1 (by omega) (by omega) (by omega))
  rw [show form % 3 = form by omega] at HM
  go_enter Tryz.func79, Tryz.ntmps79
  go_wp2_with fail
  have m99 : m ≤ 99 := by omega
  have d99 : d ≤ 99 := by omega
  have d0 : 0 ≤ d := by omega
  have e1 : IntKind.i64.wrap (y.tdiv 100) = y / 100 := by rw [Int.tdiv_eq_ediv_of_nonneg (by omega)]; exact IntWalk.i64_in _ ⟨by omega, by omega⟩
  have e2 : y.tmod 100 = y % 100 := Int.tmod_eq_emod_of_nonneg (by omega)
  refine wp_region_noPanic ?_
  refine wp_region_held_drew (S := (fun w' => w'.cell? ⟨w.heap.size, 0, none⟩ = some (.int .i64 y) ∧ w'.cell? ⟨w.heap.size, 1, none⟩ = some (.int .i64 m) ∧ w'.cell? ⟨w.heap.size, 2, none⟩ = some (.int .i64 d))) (by kernel_rfl) (⟨by simp, by simp, by simp⟩) (fun hHeld => ?_)
  refine tH 0 (h := ?_)
  try simp only [List.getElem_toArray, List.getElem_cons_zero, List.getElem_cons_succ, Act.put, List.setIfInBounds_toArray, List.set_cons_zero, List.set_cons_succ]
  refine tH 1 (h := ?_)
  try simp only [List.getElem_toArray, List.getElem_cons_zero, List.getElem_cons_succ, Act.put, List.setIfInBounds_toArray, List.set_cons_zero, List.set_cons_succ]
  refine tH 2 (h := ?_)
  try simp only [List.getElem_toArray, List.getElem_cons_zero, List.getElem_cons_succ, Act.put, List.setIfInBounds_toArray, List.set_cons_zero, List.set_cons_succ]
  refine tH 4 (h := ?_)
  try simp only [List.getElem_toArray, List.getElem_cons_zero, List.getElem_cons_succ, Act.put, List.setIfInBounds_toArray, List.set_cons_zero, List.set_cons_succ]
  refine tH 5 (h := ?_)
  try simp only [List.getElem_toArray, List.getElem_cons_zero, List.getElem_cons_succ, Act.put, List.setIfInBounds_toArray, List.set_cons_zero, List.set_cons_succ]
  refine tH 6 (h := ?_)
  try simp only [List.getElem_toArray, List.getElem_cons_zero, List.getElem_cons_succ, Act.put, List.setIfInBounds_toArray, List.set_cons_zero, List.set_cons_succ]
  refine tH 9 (h := ?_)
  try simp only [List.getElem_toArray, List.getElem_cons_zero, List.getElem_cons_succ, Act.put, List.setIfInBounds_toArray, List.set_cons_zero, List.set_cons_succ]
  refine tH 10 (h := ?_)
  try simp only [List.getElem_toArray, List.getElem_cons_zero, List.getElem_cons_succ, Act.put, List.setIfInBounds_toArray, List.set_cons_zero, List.set_cons_succ]
  refine tH 12 (h := ?_)
  try simp only [List.getElem_toArray, List.getElem_cons_zero, List.getElem_cons_succ, Act.put, List.setIfInBounds_toArray, List.set_cons_zero, List.set_cons_succ]
  refine tH 13 (h := ?_)
  try simp only [List.getElem_toArray, List.getElem_cons_zero, List.getElem_cons_succ, Act.put, List.setIfInBounds_toArray, List.set_cons_zero, List.set_cons_succ]
  refine wpAnyH_ready (rs := [3]) (by kernel_rfl) (by simp) ?_
  refine AllReadyH.cons rfl (fun K hK => ?_) AllReadyH.nil
  go_simp
  refine (two_any _ _ q1 q1').mono ?_; rintro e w1 ⟨rfl, hb1⟩; have z1 : w.heap.size < w1.heap.size := (by clear e1 e2; have := hb1.size; simp at this; omega); have HB1 := Lib.hid ((((Below.refl _ _).alloc (Nat.le_refl _) _).drew).trans (hb1.mono (by simp))); have c01 : w1.cell? ⟨w.heap.size, 0, none⟩ = some (.int .i64 y) := (hb1.cell (p := ⟨w.heap.size, 0, none⟩) (by simp)).trans (by simp); have c11 : w1.cell? ⟨w.heap.size, 1, none⟩ = some (.int .i64 m) := (hb1.cell (p := ⟨w.heap.size, 1, none⟩) (by simp)).trans (by simp); have c21 : w1.cell? ⟨w.heap.size, 2, none⟩ = some (.int .i64 d) := (hb1.cell (p := ⟨w.heap.size, 2, none⟩) (by simp)).trans (by simp); clear hb1
  refine hK.out _ _ (⟨c01, c11, c21⟩) (fun hHeld => ?_)
  clear hK K
  try simp only [List.getElem_toArray, List.getElem_cons_zero, List.getElem_cons_succ, Act.put, List.setIfInBounds_toArray, List.set_cons_zero, List.set_cons_succ]
  refine wpAnyH_ready (rs := [7]) (by kernel_rfl) (by simp) ?_
  refine AllReadyH.cons rfl (fun K hK => ?_) AllReadyH.nil
  go_simp
  refine (two_any _ _ q2 q2').mono ?_; rintro e w2 ⟨rfl, hb2⟩; have z2 : w.heap.size < w2.heap.size := (by clear e1 e2; have := hb2.size; omega); have HB2 := Lib.hid (HB1.out.trans (hb2.mono HB1.out.size)); have c02 := (hb2.cell (p := ⟨w.heap.size, 0, none⟩) z1).trans c01; have c12 := (hb2.cell (p := ⟨w.heap.size, 1, none⟩) z1).trans c11; have c22 := (hb2.cell (p := ⟨w.heap.size, 2, none⟩) z1).trans c21; clear hb2 c01 c11 c21
  refine hK.out _ _ (⟨c02, c12, c22⟩) (fun hHeld => ?_)
  clear hK K
  try simp only [List.getElem_toArray, List.getElem_cons_zero, List.getElem_cons_succ, Act.put, List.setIfInBounds_toArray, List.set_cons_zero, List.set_cons_succ]
  refine tH 8 (h := ?_)
  try simp only [List.getElem_toArray, List.getElem_cons_zero, List.getElem_cons_succ, Act.put, List.setIfInBounds_toArray, List.set_cons_zero, List.set_cons_succ]
  refine wpAnyH_ready (rs := [11]) (by kernel_rfl) (by simp) ?_
  refine AllReadyH.cons rfl (fun K hK => ?_) AllReadyH.nil
  go_simp
  refine (two_any _ _ b3 m99).mono ?_; rintro e w3 ⟨rfl, hb3⟩; have z3 : w.heap.size < w3.heap.size := (by clear e1 e2; have := hb3.size; omega); have HB3 := Lib.hid (HB2.out.trans (hb3.mono HB2.out.size)); have c03 := (hb3.cell (p := ⟨w.heap.size, 0, none⟩) z2).trans c02; have c13 := (hb3.cell (p := ⟨w.heap.size, 1, none⟩) z2).trans c12; have c23 := (hb3.cell (p := ⟨w.heap.size, 2, none⟩) z2).trans c22; clear hb3 c02 c12 c22
  refine hK.out _ _ (⟨c03, c13, c23⟩) (fun hHeld => ?_)
  clear hK K
  try simp only [List.getElem_toArray, List.getElem_cons_zero, List.getElem_cons_succ, Act.put, List.setIfInBounds_toArray, List.set_cons_zero, List.set_cons_succ]
  refine wpAnyH_ready (rs := [14]) (by kernel_rfl) (by simp) ?_
  refine AllReadyH.cons rfl (fun K hK => ?_) AllReadyH.nil
  go_simp
  refine (two_any _ _ d0 d99).mono ?_; rintro e w4 ⟨rfl, hb4⟩; have z4 : w.heap.size < w4.heap.size := (by clear e1 e2; have := hb4.size; omega); have HB4 := Lib.hid (HB3.out.trans (hb4.mono HB3.out.size)); have c04 := (hb4.cell (p := ⟨w.heap.size, 0, none⟩) z3).trans c03; have c14 := (hb4.cell (p := ⟨w.heap.size, 1, none⟩) z3).trans c13; have c24 := (hb4.cell (p := ⟨w.heap.size, 2, none⟩) z3).trans c23; clear hb4 c03 c13 c23
  refine hK.out _ _ (⟨c04, c14, c24⟩) (fun hHeld => ?_)
  clear hK K
  try simp only [List.getElem_toArray, List.getElem_cons_zero, List.getElem_cons_succ, Act.put, List.setIfInBounds_toArray, List.set_cons_zero, List.set_cons_succ]
  refine tH 15 (h := ?_)
  try simp only [List.getElem_toArray, List.getElem_cons_zero, List.getElem_cons_succ, Act.put, List.setIfInBounds_toArray, List.set_cons_zero, List.set_cons_succ]
  refine tH 16 (h := ?_)
  try simp only [List.getElem_toArray, List.getElem_cons_zero, List.getElem_cons_succ, Act.put, List.setIfInBounds_toArray, List.set_cons_zero, List.set_cons_succ]
  refine tH 17 (h := ?_)
  try simp only [List.getElem_toArray, List.getElem_cons_zero, List.getElem_cons_succ, Act.put, List.setIfInBounds_toArray, List.set_cons_zero, List.set_cons_succ]
  refine wpAnyH_done (by kernel_rfl) ?_ _
  refine NoPanic.normal ?_
  clear e1 e2
  go_wp2_with fail
  refine (HM _).out.mono ?_; rintro e w' ⟨rfl, rfl⟩
  go_wp2_with fail
  all_goals
    go_ret
    refine ⟨ret_str ?_, HB4.out⟩
    simp only [beq_iff_eq, beq_eq_false_iff_ne, ne_eq] at *
    simp [writtenL, dg_two y, dg_mod y (by omega), *]
end
section
set_option maxRecDepth 100000
open Go.RowKit Cal
attribute [local go_sem] toList_mk mk_size
abbrev fnV (g : Nat) : Value := .func (.func g) #[] #[]
def kind0 : Array Value := #[.string ⟨#[]⟩, .nilFunc, .nilFunc, .nilFunc]
def kind1 : Array Value := #[.string ⟨#[110, 97, 109, 101]⟩, fnV 221, fnV 222, fnV 223]
def kind2 : Array Value := #[.string ⟨#[100, 97, 116, 101]⟩, fnV 224, fnV 225, fnV 227]
def kind3 : Array Value := #[.string ⟨#[99, 111, 100, 101]⟩, fnV 228, fnV 230, fnV 232]
def kind4 : Array Value := #[.string ⟨#[97, 100, 100, 114, 101, 115, 115]⟩, fnV 233, fnV 234, fnV 223]
def kindsV : Array Value := kind0 ++ kind1 ++ kind2 ++ kind3 ++ kind4
set_option maxHeartbeats 1000000 in
theorem kinds_any (w : World) :
    Calls Tryz.prog 176 #[] w fun e w' => e = .returned (.agg kindsV) ∧ Below w.heap.size w w' := by
  go_enter Tryz.func176, Tryz.ntmps176
  go_upto_region 1 with (fail)
  rename_i hK
  refine wp_region_list ?_
  refine wpList_buildTo rfl 167 _ rfl (some 1) rfl kind1 (by kernel_rfl) ?_
  refine wpList_buildTo rfl 167 _ rfl (some 2) rfl kind2 (by kernel_rfl) ?_
  refine wpList_buildTo rfl 167 _ rfl (some 3) rfl kind3 (by kernel_rfl) ?_
  refine wpList_buildTo rfl 167 _ rfl (some 4) rfl kind4 (by kernel_rfl) ?_
  refine wpList_buildTo rfl 203 _ rfl (some 5) rfl kindsV (by kernel_rfl) ?_
  refine wpList_store_row rfl 203 _ _ rfl w.heap.size kindsV rfl rfl 203 _ (heap_alloc_new w _) (by kernel_rfl) (by kernel_rfl) (by kernel_rfl) ?_
  refine wpList_nil ?_
  rw [World.setRow_alloc_new]
  refine hK _ _ ?_
  go_wp2_with fail
  exact bodyPost_row1 rfl rfl (heap_alloc_new w _) Tryz.underlying203 rfl (by kernel_rfl) ⟨rfl, (Below.refl _ _).alloc (Nat.le_refl _) _⟩
def wordB (l : List UInt8) : Bool := bif l.isEmpty then false else bif decide (l.length ≤ 12) then lettersL l == l else false
set_option maxHeartbeats 400000 in
theorem word_is (l : List UInt8) (w : World) :
    Calls Tryz.prog 111 #[strV l] w fun e w' => e = .returned (.bool (wordB l)) ∧ Below w.heap.size w w' := by
  unfold wordB
  by_cases h0 : l = []
  · subst h0
    go_enter Tryz.func111, Tryz.ntmps111
    go_wp2
    go_ret
    exact ⟨rfl, Below.refl _ _⟩
  · have h1 : l.isEmpty = false := by simpa using h0
    have h2 : (l == []) = false := by simpa using h0
    rw [h1]
    by_cases h3 : l.length ≤ 12
    · have h4 : decide (l.length ≤ 12) = true := by simpa using h3
      have h5 : decide ((l.length : Int) ≤ 12) = true := by simp; omega
      rw [h4]
      clear h0 h4
      go_enter Tryz.func111, Tryz.ntmps111
      go_wp2_with fail
      refine (letters_any ⟨l.toArray⟩ _ (by rw [mk_size]; omega)).mono ?_
      rintro e w1 ⟨rfl, hb⟩
      go_wp2_with fail
      go_ret
      exact ⟨rfl, hb⟩
    · have h4 : decide (l.length ≤ 12) = false := by simpa using h3
      have h5 : decide ((l.length : Int) ≤ 12) = false := by simp; omega
      rw [h4]
      clear h0 h4
      go_enter Tryz.func111, Tryz.ntmps111
      go_wp2_with fail
      go_ret
      exact ⟨rfl, Below.refl _ _⟩
end
section
set_option maxRecDepth 100000
open Go.RowKit Cal
attribute [local go_sem] toList_mk mk_size
def dayF (y m d : List UInt8) : List UInt8 × Int := bif vldB (numI y) (numI m) (numI d) then (digits8 (numI y) (numI m) (numI d), 0) else ([], 4)
def byteL (l : List UInt8) (i : Nat) : Int := ((l.getD i 0).toNat : Int)
/-- the eight digits of a day that is written in one of three forms, and the error -/
def dayN (l : List UInt8) : List UInt8 × Int :=
  if l.length = 10 then
    if byteL l 4 = 45 ∧ byteL l 7 = 45 then dayF (l.take 4) ((l.drop 5).take 2) ((l.drop 8).take 2)
    else if byteL l 2 = 46 ∧ byteL l 5 = 46 then dayF ((l.drop 6).take 4) ((l.drop 3).take 2) (l.take 2)
    else if byteL l 2 = 47 ∧ byteL l 5 = 47 then dayF ((l.drop 6).take 4) (l.take 2) ((l.drop 3).take 2)
    else ([], 4)
  else ([], 4)
def DayIs (x : Value) (p : List UInt8 × Int) : Prop := (∃ a b c : Int, vldB a b c = true ∧ x = .tuple #[.agg #[.int .i64 a, .int .i64 b, .int .i64 c], .int .i64 0] ∧ p = (digits8 a b c, 0)) ∨ (x = .tuple #[.agg #[.int .i64 0, .int .i64 0, .int .i64 0], .int .i64 4] ∧ p = ([], 4))
theorem dateL_is (y m d : List UInt8) : DayIs (dateL y m d) (dayF y m d) := by
  unfold dateL dateR dayF
  cases h : vldB (numI y) (numI m) (numI d)
  · exact .inr ⟨rfl, rfl⟩
  · exact .inl ⟨_, _, _, h, rfl, rfl⟩
theorem parse_is (s : ByteArray) : DayIs (parseV s) (dayN s.data.toList) := by
  have hl : s.data.toList.length = s.size := by simp
  unfold parseV dayN
  rw [hl]
  show DayIs _ (if s.size = 10 then if byteAt s 4 = 45 ∧ byteAt s 7 = 45 then _ else if byteAt s 2 = 46 ∧ byteAt s 5 = 46 then _ else if byteAt s 2 = 47 ∧ byteAt s 5 = 47 then _ else _ else _)
  split
  · split
    · exact dateL_is _ _ _
    · split
      · exact dateL_is _ _ _
      · split
        · exact dateL_is _ _ _
        · exact .inr ⟨rfl, rfl⟩
  · exact .inr ⟨rfl, rfl⟩
/-- eight digits of a day that exists -/
def readB (l : List UInt8) : Bool := bif decide (l.length = 8) then vldB (numI (l.take 4)) (numI ((l.drop 4).take 2)) (numI ((l.drop 6).take 2)) else false
theorem read_is (s : ByteArray) : ∃ a b c : Int, (bif decide (s.size = 8) then dateL (s.data.toList.take 4) ((s.data.toList.drop 4).take 2) ((s.data.toList.drop 6).take 2) else dateV false 0 0 0 4) = .tuple #[.agg #[.int .i64 a, .int .i64 b, .int .i64 c], .int .i64 (cd (readB s.data.toList) 4)] := by
  have hl : s.data.toList.length = s.size := by simp
  unfold readB
  rw [hl]
  cases decide (s.size = 8)
  · exact ⟨0, 0, 0, rfl⟩
  · exact ⟨_, _, _, rfl⟩
set_option maxHeartbeats 1000000 in
theorem kind1_any (vt vn vs : Value) (s : ByteArray) (w : World) :
    Calls Tryz.prog 225 #[.agg #[vt, vn, vs], .string s] w fun e w' => e = .returned (.bool (readB s.data.toList)) ∧ Below w.heap.size w w' := by
  obtain ⟨a, b, c, hr⟩ := read_is s
  have HR := Lib.hid hr; clear hr
  go_enter Tryz.func225, Tryz.ntmps225
  go_wp2_with fail
  refine (read_any s _).mono ?_
  rw [HR.out]
  obtain ⟨v, hv⟩ : ∃ v, readB s.data.toList = v := ⟨_, rfl⟩
  rw [hv]
  have HV := Lib.hid hv; clear hv HR
  rintro e w1 ⟨rfl, hb1⟩
  have HB1 := Lib.hid (((Below.refl w.heap.size w).alloc (Nat.le_refl _) _).trans (hb1.mono (by simp)))
  clear hb1
  cases v
  all_goals
    simp only [cd_false, cd_true]
    go_wp2_with fail
    go_ret
    exact ⟨ret_bool (by rw [HV.out]; try rfl), HB1.out.alloc HB1.out.size _⟩
set_option maxHeartbeats 1000000 in
theorem kind3_any (vt vn vs : Value) (s : ByteArray) (w : World) (hs : s.size ≤ 9223372036854775000) :
    Calls Tryz.prog 230 #[.agg #[vt, vn, vs], .string s] w fun e w' => e = .returned (.bool (isOwn (codeN s.data.toList) s.data.toList)) ∧ Below w.heap.size w w' := by
  go_enter Tryz.func230, Tryz.ntmps230
  go_wp2_with fail
  refine (normed_any s _ hs).mono ?_
  rintro e w1 ⟨rfl, hb1⟩
  have HB1 := Lib.hid (((Below.refl w.heap.size w).alloc (Nat.le_refl _) _).trans (hb1.mono (by simp)))
  clear hb1
  go_wp2_with fail
  go_ret
  exact ⟨rfl, HB1.out⟩
end
section
set_option maxRecDepth 100000
open Go.RowKit Cal
attribute [local go_sem] toList_mk mk_size
abbrev F2 := List UInt8 × Int
def encF (x : F2) : List Value := [strV x.1, .int .i64 x.2]
structure SchemaL where
  fields : List F2
  rules : RulesL
def SchemaAt (w : World) (S : Nat → Prop) (vf vt vn vs : Value) (s : SchemaL) : Prop := Vec w S 2 encF vf s.fields ∧ RulesAt w S vt vn vs s.rules
theorem SchemaAt.below {w w' : World} {S : Nat → Prop} {vf vt vn vs : Value} {s : SchemaL} (h : SchemaAt w S vf vt vn vs s) (hb : Below w.heap.size w w') : SchemaAt w' S vf vt vn vs s := ⟨h.1.below hb, h.2.below hb⟩
theorem SchemaAt.any {w : World} {S : Nat → Prop} {vf vt vn vs : Value} {s : SchemaL} (h : SchemaAt w S vf vt vn vs s) : SchemaAt w Any1 vf vt vn vs s := ⟨h.1.any, h.2.any⟩
theorem Vec.take {α : Type} {w : World} {S : Nat → Prop} {k : Nat} {enc : α → List Value} {a : Option Addr} {n cap : Nat} {L : List α} (h : Vec w S k enc (.slice a n cap) L) (i : Nat) (hi : i ≤ L.length) : Vec w S k enc (.slice a i cap) (L.take i) := by
  obtain ⟨a', cap', h1, h2, h3⟩ := h
  cases h1
  refine ⟨a, cap, by rw [List.length_take, Nat.min_eq_left hi], by rw [List.length_take]; omega, fun h0 => ?_⟩
  rw [List.length_take] at h0
  obtain ⟨b, off, h4, h5, h5', h6⟩ := h3 (by omega)
  refine ⟨b, off, h4, h5, h5', fun j x hj => h6 j x ?_⟩
  rw [List.getElem?_take] at hj
  split at hj
  · exact hj
  · cases hj
theorem cells4 {w : World} {b : Nat} {x y z u : Value} {t : TypeId} {fr : Nat × Nat} (h : w.heap[b]? = some (.cells #[x, y, z, u] t fr)) :
    w.cell? ⟨b, 0, none⟩ = some x ∧ w.cell? ⟨b, 1, none⟩ = some y ∧ w.cell? ⟨b, 2, none⟩ = some z ∧ w.cell? ⟨b, 3, none⟩ = some u := by
  refine ⟨?_, ?_, ?_, ?_⟩ <;> (rw [cell_of_row _ _ _ _ _ _ h]; rfl)
theorem pred_field (nm : List UInt8) (B : Nat) (w : World) (hB : B < w.heap.size) (hcell : w.cell? ⟨B, 0, none⟩ = some (strV nm)) :
    PredBelow Tryz.prog 110 #[.pointer (some ⟨B, 0, none⟩)] (fun x => .agg (encF x).toArray) (fun x => x.1 == nm) w := fun W x hb => by
  have hc : W.cell? ⟨B, 0, none⟩ = some (strV nm) := (hb.cell (p := ⟨B, 0, none⟩) hB).trans hcell
  have hBW : B < W.heap.size := Nat.lt_of_lt_of_le hB hb.size
  have hne : B ≠ W.heap.size := by omega
  have HBb := Lib.hid hb; clear hb hcell
  obtain ⟨xn, xk⟩ := x
  show Calls Tryz.prog 110 #[.agg #[strV xn, .int .i64 xk], .pointer (some ⟨B, 0, none⟩)] W _
  go_enter Tryz.func110, Tryz.ntmps110
  go_wp2
  go_ret
  exact ⟨rfl, HBb.out.alloc HBb.out.size _⟩
set_option maxHeartbeats 400000 in
theorem idxF_nil (a : Option Addr) (c : Nat) (f : Value) (w : World) :
    Calls Tryz.prog 155 #[.slice a 0 c, f] w fun e w' => e = .returned (.int .i64 (-1)) ∧ w = w' := by
  go_enter Tryz.func155, Tryz.ntmps155
  go_wp2
  refine wp_loop_rounds 1 ?_; rw [rounds_succ]
  go_wp2
  go_ret
  exact ⟨rfl, rfl⟩
set_option maxHeartbeats 400000 in
theorem contF_nil (a : Option Addr) (c : Nat) (f : Value) (w : World) :
    Calls Tryz.prog 109 #[.slice a 0 c, f] w fun e w' => e = .returned (.bool false) ∧ w = w' := by
  go_enter Tryz.func109, Tryz.ntmps109
  go_wp2_with fail
  refine (idxF_nil a c _ _).mono ?_
  rintro e w1 ⟨rfl, rfl⟩
  go_wp2_with fail
  go_ret
  exact ⟨rfl, rfl⟩
theorem contF_any (p : F2 → Bool) (g : Nat) (lb : Array Value) (eg : ∀ args w, (callFunc g args).run Tryz.prog w = .ok (.enter g args) w) (S : Nat → Prop) (v : Value) (L : List F2) (w : World) (h : Vec w S 2 encF v L) (hn : L.length ≤ 1000000) (hp : PredBelow Tryz.prog g lb (fun x => .agg (encF x).toArray) p w) :
    Calls Tryz.prog 109 #[v, .func (.func g) #[] lb] w fun e w' => e = .returned (.bool (L.any p)) ∧ Below w.heap.size w w' := by
  obtain ⟨a, cap, rfl, hcap, h0⟩ := h
  by_cases hz : L = []
  · subst hz
    exact (contF_nil a cap _ w).mono fun e w' ⟨he, hw⟩ => ⟨he, by rw [← hw]; exact Below.refl _ _⟩
  · obtain ⟨b, off, rfl, _, hb, hc⟩ := h0 (List.length_pos_iff.2 hz)
    have hcon := AnyQ.slices_ContainsFunc Tryz.laysCF 2 Tryz.isAgg79 Tryz.sizeOf79 encF (fun _ => rfl) p g lb eg b off L.length cap L w hp (Nat.le_refl _) (by omega) hb (fun j hj i u hi => by
        have e : L[j]? = some L[j]! := by rw [List.getElem?_eq_getElem hj, getElem!_pos L j hj]
        exact hc j _ e i u hi)
    rw [List.take_of_length_le (Nat.le_refl _)] at hcon
    exact hcon
def fieldAtB (F : List F2) (j : Nat) : Bool := wordB (F.getD j default).1 && !((F.take j).any fun x => x.1 == (F.getD j default).1) && decide (1 ≤ (F.getD j default).2) && decide ((F.getD j default).2 ≤ 4)
def fieldsB (F : List F2) : Bool := (List.range F.length).all (fieldAtB F)
def checkS (s : SchemaL) : Int := if s.fields.length < 1 ∨ 5 < s.fields.length then 6 else if fieldsB s.fields = true then checkR s.rules else 6
set_option maxHeartbeats 4000000 in
theorem scheck_any (S : Nat → Prop) (vf vt vn vs : Value) (s : SchemaL) (w : World) (h : SchemaAt w S vf vt vn vs s) :
    Calls Tryz.prog 64 #[.agg #[vf, vt, vn, vs]] w fun e w' => e = .returned (.int .i64 (checkS s)) ∧ Below w.heap.size w w' := by
  obtain ⟨F, r⟩ := s
  obtain ⟨h1, h2⟩ := h
  dsimp only at h1 h2
  obtain ⟨af, cf, rfl⟩ := h1.slice
  have H1 := Lib.hid h1.any; have H2 := Lib.hid h2.any
  clear h1 h2
  have hfin : ∀ n : Int, checkS ⟨F, r⟩ = n → Ending.returned (.int .i64 n) = .returned (.int .i64 (checkS ⟨F, r⟩)) := fun n h => by rw [h]
  have HF := Lib.hid hfin; clear hfin
  by_cases g1 : F.length < 1
  · have d1 : decide ((F.length : Int) < 1) = true := by simp; omega
    go_enter Tryz.func64, Tryz.ntmps64
    go_wp2_with fail
    go_ret
    exact ⟨HF.out 6 (by unfold checkS; rw [if_pos (.inl g1)]), (Below.refl _ _).alloc (Nat.le_refl _) _⟩
  · have d1 : decide ((F.length : Int) < 1) = false := by simp; omega
    by_cases g2 : 5 < F.length
    · have d2 : decide ((5 : Int) < F.length) = true := by simp; omega
      go_enter Tryz.func64, Tryz.ntmps64
      go_wp2_with fail
      go_ret
      exact ⟨HF.out 6 (by unfold checkS; rw [if_pos (.inr g2)]), (Below.refl _ _).alloc (Nat.le_refl _) _⟩
    · have d2 : decide ((5 : Int) < F.length) = false := by simp; omega
      have HN := Lib.hid (show ¬ (F.length < 1 ∨ 5 < F.length) by omega)
      obtain ⟨b, off, rfl, _, hb, hc⟩ := vec_cell2 H1.out (by omega)
      have HC := Lib.hid hc; clear hc
      go_enter Tryz.func64, Tryz.ntmps64
      go_wp2_with fail
      clear d1 d2
      go_loopw [19] (fun i wr => ∃ k : Nat, k ≤ F.length ∧ i = .int .i64 k ∧ wr.heap[w.heap.size]? = some (.cells #[.slice (some ⟨b, off, none⟩) F.length cf, vt, vn, vs] 33 (0, 0)) ∧ Below w.heap.size w wr ∧ ∀ j, j < k → fieldAtB F j = true) (fun i _ => F.length - (intOf i).toNat)
      case atStart => exact ⟨0, by omega, rfl, blk_new rfl, (Below.refl _ _).alloc (Nat.le_refl _) _, fun j hj => by omega⟩
      case round =>
        obtain ⟨k, hk, rfl, hX, hbw, ha⟩ := hrel
        have HA := Lib.hid ha; clear ha
        obtain ⟨p0, p1, p2, p3⟩ := cells4 hX
        have zX := lt_of_blk hX
        have HX := Lib.hid hX; clear hX
        have HW := Lib.hid hbw
        by_cases hlt : k < F.length
        · have hq : decide ((k : Int) < F.length) = true := by simp; omega
          have hi : (k : Int) < (F.length : Int) := by omega
          have hcap := H1.out.len.2
          obtain ⟨x, hx⟩ : ∃ x, F.getD k default = x := ⟨_, rfl⟩
          have hc := HC.out k hlt
          rw [hx] at hc
          have c0 : wr.cell? ⟨b, off + k * 2, none⟩ = some (strV x.1) := (hbw.cell (p := ⟨b, off + k * 2, none⟩) hb).trans (hc 0 _ rfl)
          have c1 : wr.cell? ⟨b, off + k * 2 + 1, none⟩ = some (.int .i64 x.2) := (hbw.cell (p := ⟨b, off + k * 2 + 1, none⟩) hb).trans (hc 1 _ rfl)
          have hfa : fieldAtB F k = (wordB x.1 && !((F.take k).any fun y => y.1 == x.1) && decide (1 ≤ x.2) && decide (x.2 ≤ 4)) := by simp only [fieldAtB]; rw [hx]
          have HFa := Lib.hid hfa
          obtain ⟨nm, kd⟩ := x
          dsimp only at c0 c1 HFa
          clear hx hc hbw hfa
          go_wp2_with fail
          have eg : ∀ args w, (callFunc 110 args).run Tryz.prog w = .ok (.enter 110 args) w := enters_of Tryz.func110 (by kernel_rfl) rfl
          refine (contF_any (fun y => y.1 == nm) 110 #[.pointer (some ⟨wr.heap.size, 0, none⟩)] eg Any1 _ (F.take k) _ ((H1.out.take k (by omega)).below (HW.out.alloc HW.out.size _)) (by have := List.length_take_le k F; omega) (pred_field nm wr.heap.size _ (by simp) (by simp))).mono ?_
          obtain ⟨u, hu⟩ : ∃ u, (F.take k).any (fun y => y.1 == nm) = u := ⟨_, rfl⟩
          rw [hu] at HFa ⊢
          clear eg hu
          rintro e w2 ⟨rfl, hb2⟩
          have hX2 : w2.heap[w.heap.size]? = some (.cells #[.slice (some ⟨b, off, none⟩) F.length cf, vt, vn, vs] 33 (0, 0)) := blk_below hb2 (by simp; omega) (blk_old HX.out)
          have hY2 : w2.heap[wr.heap.size]? = some (.cells #[strV nm, .int .i64 kd] 79 (0, 0)) := blk_below hb2 (by simp) (blk_new rfl)
          have HW2 := Lib.hid ((HW.out.alloc HW.out.size (.cells #[strV nm, .int .i64 kd] 79)).trans (hb2.mono (by have := HW.out.size; simp; omega)))
          have q0 : w2.cell? ⟨wr.heap.size, 0, none⟩ = some (strV nm) := by rw [cell_of_row _ _ _ _ _ _ hY2]; rfl
          have q1 : w2.cell? ⟨wr.heap.size, 1, none⟩ = some (.int .i64 kd) := by rw [cell_of_row _ _ _ _ _ _ hY2]; rfl
          have zX2 := lt_of_blk hX2; have zY2 := lt_of_blk hY2
          have HX2 := Lib.hid hX2; have HY2 := Lib.hid hY2
          clear hb2 hX2 hY2 p0 p1 p2 p3 HX HW c0 c1
          go_wp2_with fail
          refine (word_is nm _).mono ?_
          obtain ⟨wb, hwb⟩ : ∃ wb, wordB nm = wb := ⟨_, rfl⟩
          rw [hwb] at HFa ⊢
          clear hwb
          rintro e w3 ⟨rfl, hb3⟩
          have q0 : w3.cell? ⟨wr.heap.size, 0, none⟩ = some (strV nm) := (hb3.cell (p := ⟨wr.heap.size, 0, none⟩) zY2).trans q0
          have q1 : w3.cell? ⟨wr.heap.size, 1, none⟩ = some (.int .i64 kd) := (hb3.cell (p := ⟨wr.heap.size, 1, none⟩) zY2).trans q1
          have HX3 := Lib.hid (blk_below hb3 zX2 HX2.out)
          have HW3 := Lib.hid (HW2.out.trans (hb3.mono HW2.out.size))
          clear hb3 HX2 HW2 HY2
          cases wb
          · have HFa := Lib.hid (show fieldAtB F k = false by rw [HFa.out]; rfl)
            go_wp2_with fail
            go_ret
            exact ⟨HF.out 6 (by unfold checkS; rw [if_neg HN.out, if_neg (by rw [fieldsB, all_false hlt HFa.out]; simp)]), HW3.out⟩
          · cases u
            · by_cases k1 : 1 ≤ kd
              · by_cases k4 : kd ≤ 4
                · have HFa := Lib.hid (show fieldAtB F k = true by rw [HFa.out]; simp [k1, k4])
                  go_wp2_with fail
                  go_roundw
                  case rel => exact ⟨k + 1, by omega, by go_num, HX3.out, HW3.out, fun j hj => by
                    by_cases e : j = k
                    · subst e; exact HFa.out
                    · exact HA.out j (by omega)⟩
                  case measure => simp [intOf]; omega
                · have HFa := Lib.hid (show fieldAtB F k = false by rw [HFa.out]; simp [k4])
                  have k5 : 4 < kd := by omega
                  go_wp2_with fail
                  go_ret
                  exact ⟨HF.out 6 (by unfold checkS; rw [if_neg HN.out, if_neg (by rw [fieldsB, all_false hlt HFa.out]; simp)]), HW3.out⟩
              · have HFa := Lib.hid (show fieldAtB F k = false by rw [HFa.out]; simp [k1])
                have k5 : kd < 1 := by omega
                go_wp2_with fail
                go_ret
                exact ⟨HF.out 6 (by unfold checkS; rw [if_neg HN.out, if_neg (by rw [fieldsB, all_false hlt HFa.out]; simp)]), HW3.out⟩
            · have HFa := Lib.hid (show fieldAtB F k = false by rw [HFa.out]; simp)
              go_wp2_with fail
              go_ret
              exact ⟨HF.out 6 (by unfold checkS; rw [if_neg HN.out, if_neg (by rw [fieldsB, all_false hlt HFa.out]; simp)]), HW3.out⟩
        · have hq : decide ((k : Int) < F.length) = false := by simp; omega
          clear hbw
          go_wp2_with fail
          refine (rcheck_any Any1 vt vn vs r _ (H2.out.below HW.out)).mono ?_
          obtain ⟨c, hc⟩ : ∃ c, checkR r = c := ⟨_, rfl⟩
          rw [hc]
          have HCc := Lib.hid hc; clear hc
          rintro e w3 ⟨rfl, hb3⟩
          have HW3 := Lib.hid (HW.out.trans (hb3.mono HW.out.size))
          clear hb3
          go_wp2_with fail
          go_ret
          exact ⟨HF.out c (by unfold checkS; rw [if_neg HN.out, if_pos (by rw [fieldsB]; exact all_true fun j hj => HA.out j (by have hj' : j < F.length := hj; omega))]; exact HCc.out), HW3.out⟩
end
end Go.Proofs.YtoeplomdcannlaaGreatDoor
