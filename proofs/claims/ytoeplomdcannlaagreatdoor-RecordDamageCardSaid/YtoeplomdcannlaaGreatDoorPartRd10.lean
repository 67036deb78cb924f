/- Parts of one proof: RefRecH, RefRecK, RefRecL, HurtPlain, BytesT, Handed, VarsGive. -/
import Derived.Test.YtoeplomdcannlaaGreatDoorPartRd9
import Derived.Handed
import Derived.HandedShaped
import Derived.MakeChecks
import Derived.LaidLaws
set_option linter.unusedSimpArgs false
set_option linter.unusedVariables false
namespace Go.Proofs.YtoeplomdcannlaaGreatDoor
section
set_option maxRecDepth 100000
open Go.RowKit Cal
attribute [local go_sem] toList_mk mk_size
theorem val_digit {c : UInt8} (h : (valH c).isSome = true) : ∃ k, k < 16 ∧ digH k = c := by
  have h2 : ∀ n : Fin 256, (valH (UInt8.ofNat n.val)).isSome = true → ∃ k : Fin 16, digH k.val = UInt8.ofNat n.val := by decide +kernel
  have h3 : UInt8.ofNat c.toNat = c := by simp
  obtain ⟨k, hk⟩ := h2 ⟨c.toNat, by have := c.toNat_lt; simpa using this⟩ (by rw [h3]; exact h)
  exact ⟨k.val, k.isLt, by rw [hk]; exact h3⟩
theorem digB_no {t : List UInt8} {i : Nat} (h : i < t.length) (hn : ∀ k, k < 16 → digH k ≠ t[i]) : digB t = false := by
  cases hd : digB t with
  | false => rfl
  | true =>
    unfold digB at hd
    simp only [Bool.and_eq_true, List.all_eq_true] at hd
    obtain ⟨k, hk, e⟩ := val_digit (hd.2 t[i] (List.getElem_mem h))
    exact absurd e (hn k hk)
set_option maxHeartbeats 4000000 in
theorem rrdig_any (t : List UInt8) (w : World) (ht : t.length ≤ 1000000) :
    Calls Tryz.prog 69 #[strV t] w fun e w' => (∃ x : Int, e = .returned (.tuple #[.int .u64 x, .bool (digB t)])) ∧ Below w.heap.size w w' := by
  obtain ⟨D, hD⟩ : ∃ D, digB t = D := ⟨_, rfl⟩
  rw [hD]
  have HD := Lib.hid hD
  clear hD
  by_cases h16 : t.length = 16
  · have d16 : ((t.length : Int) != 16) = false := by rw [h16]; rfl
    have HL := Lib.hid h16
    have hl1 : 16 ≤ t.length := by omega
    have hl2 : (16 : Int) ≤ (t.length : Int) := by omega
    clear h16
    go_enter Tryz.func69, Tryz.ntmps69
    go_wp2_with fail
    go_loopw [4, 5] (fun v s wr => ∃ (i : Nat) (X : Int), i ≤ 16 ∧ s = .int .i64 i ∧ v = .int .u64 X ∧ Hid (∀ j (hj : j < i) (hl : j < t.length), (valH t[j]).isSome = true) ∧ Below w.heap.size w wr) (fun _ s _ => 16 - (intOf s).toNat)
    case atStart => exact ⟨0, 0, by omega, rfl, rfl, Lib.hid fun j hj => by omega, Below.refl _ _⟩
    case round =>
      obtain ⟨i, X, hi, rfl, rfl, HA, hbw⟩ := hrel
      obtain ⟨wu, hwu⟩ : ∃ u, u = wr := ⟨_, rfl⟩
      subst hwu
      have HBw := Lib.hid hbw; clear hbw
      by_cases hlt : i < 16
      · have hq : decide ((i : Int) < 16) = true := by simp; omega
        have hit : i < t.length := by omega
        have hiti : (i : Int) < (t.length : Int) := by omega
        obtain ⟨c, hc⟩ : ∃ c, t[i] = c := ⟨_, rfl⟩
        have HC := Lib.hid hc
        have hget : ∀ h : i < (⟨t.toArray⟩ : ByteArray).size, (⟨t.toArray⟩ : ByteArray)[i]'h = c := fun h => hc
        clear hc
        go_wp2_with fail
        go_loopw [6] (fun s wr => ∃ k : Nat, k ≤ 16 ∧ s = .int .i64 k ∧ Hid (∀ j, j < k → digH j ≠ c) ∧ Below w.heap.size w wr) (fun s _ => 16 - (intOf s).toNat)
        case atStart => exact ⟨0, by omega, rfl, Lib.hid fun j hj => by omega, HBw.out⟩
        case round =>
          obtain ⟨k, hk, rfl, HN, hbw⟩ := hrel
          have HBk := Lib.hid (hbw.trans ((Below.refl wr.heap.size wr).drew.mono hbw.size)); clear hbw
          by_cases hkl : k < 16
          · have hqk : decide ((k : Int) < 16) = true := by simp; omega
            have hki : (k : Int) < 16 := by omega
            have hgd : ∀ h : k < (⟨#[48, 49, 50, 51, 52, 53, 54, 55, 56, 57, 97, 98, 99, 100, 101, 102]⟩ : ByteArray).size, (⟨#[48, 49, 50, 51, 52, 53, 54, 55, 56, 57, 97, 98, 99, 100, 101, 102]⟩ : ByteArray)[k]'h = digH k := fun h => hexD_get k hkl h
            obtain ⟨d, hd⟩ : ∃ d, digH k = d := ⟨_, rfl⟩
            rw [hd] at hgd
            have HDk := Lib.hid hd
            clear hd
            by_cases hcd : d = c
            · have dn : ((d.toNat : Int) != (c.toNat : Int)) = false := by rw [hcd]; simp
              have dk : ((k : Int) == 16) = false := beq_eq_false_iff_ne.2 (by omega)
              have HCD := Lib.hid hcd
              clear hcd
              go_wp2_with fail
              refine wp_region_noPanic ?_
              refine wp_region_held_drew (S := (fun w' => True)) (by kernel_rfl) (trivial) (fun hHeld => ?_)
              refine tH 0 (h := ?_)
              try simp only [List.getElem_toArray, List.getElem_cons_zero, List.getElem_cons_succ, Act.put, List.setIfInBounds_toArray, List.set_cons_zero, List.set_cons_succ]
              refine tH 1 (h := ?_)
              try simp only [List.getElem_toArray, List.getElem_cons_zero, List.getElem_cons_succ, Act.put, List.setIfInBounds_toArray, List.set_cons_zero, List.set_cons_succ]
              refine tH 2 (h := ?_)
              try simp only [List.getElem_toArray, List.getElem_cons_zero, List.getElem_cons_succ, Act.put, List.setIfInBounds_toArray, List.set_cons_zero, List.set_cons_succ]
              refine tH 3 (h := ?_)
              try simp only [List.getElem_toArray, List.getElem_cons_zero, List.getElem_cons_succ, Act.put, List.setIfInBounds_toArray, List.set_cons_zero, List.set_cons_succ]
              refine tH 4 (h := ?_)
              try simp only [List.getElem_toArray, List.getElem_cons_zero, List.getElem_cons_succ, Act.put, List.setIfInBounds_toArray, List.set_cons_zero, List.set_cons_succ]
              refine tH 5 (h := ?_)
              try simp only [List.getElem_toArray, List.getElem_cons_zero, List.getElem_cons_succ, Act.put, List.setIfInBounds_toArray, List.set_cons_zero, List.set_cons_succ]
              refine tH 6 (h := ?_)
              try simp only [List.getElem_toArray, List.getElem_cons_zero, List.getElem_cons_succ, Act.put, List.setIfInBounds_toArray, List.set_cons_zero, List.set_cons_succ]
              refine tH 7 (h := ?_)
              try simp only [List.getElem_toArray, List.getElem_cons_zero, List.getElem_cons_succ, Act.put, List.setIfInBounds_toArray, List.set_cons_zero, List.set_cons_succ]
              refine tH 8 (h := ?_)
              try simp only [List.getElem_toArray, List.getElem_cons_zero, List.getElem_cons_succ, Act.put, List.setIfInBounds_toArray, List.set_cons_zero, List.set_cons_succ]
              refine tH 9 (h := ?_)
              try simp only [List.getElem_toArray, List.getElem_cons_zero, List.getElem_cons_succ, Act.put, List.setIfInBounds_toArray, List.set_cons_zero, List.set_cons_succ]
              refine wpAnyH_done (by kernel_rfl) ?_ _
              refine NoPanic.normal ?_
              go_wp2_with fail
              go_roundw
              case rel =>
                refine ⟨i + 1, _, by omega, by go_num, rfl, Lib.hid fun j hj hl => ?_, HBk.out⟩
                by_cases hji : j = i
                · subst hji
                  rw [HC.out, ← HCD.out, ← HDk.out, valH_dig k hkl]; rfl
                · exact HA.out j (by omega) hl
              case measure => simp [intOf]; omega
            · have dn : ((d.toNat : Int) != (c.toNat : Int)) = true := by
                rw [bne_iff_ne]
                intro e
                exact hcd (UInt8.toNat_inj.1 (by omega))
              have HCD := Lib.hid hcd
              clear hcd
              go_wp2_with fail
              refine wp_region_noPanic ?_
              refine wp_region_held_drew (S := (fun w' => True)) (by kernel_rfl) (trivial) (fun hHeld => ?_)
              refine tH 0 (h := ?_)
              try simp only [List.getElem_toArray, List.getElem_cons_zero, List.getElem_cons_succ, Act.put, List.setIfInBounds_toArray, List.set_cons_zero, List.set_cons_succ]
              refine tH 1 (h := ?_)
              try simp only [List.getElem_toArray, List.getElem_cons_zero, List.getElem_cons_succ, Act.put, List.setIfInBounds_toArray, List.set_cons_zero, List.set_cons_succ]
              refine tH 2 (h := ?_)
              try simp only [List.getElem_toArray, List.getElem_cons_zero, List.getElem_cons_succ, Act.put, List.setIfInBounds_toArray, List.set_cons_zero, List.set_cons_succ]
              refine tH 3 (h := ?_)
              try simp only [List.getElem_toArray, List.getElem_cons_zero, List.getElem_cons_succ, Act.put, List.setIfInBounds_toArray, List.set_cons_zero, List.set_cons_succ]
              refine tH 4 (h := ?_)
              try simp only [List.getElem_toArray, List.getElem_cons_zero, List.getElem_cons_succ, Act.put, List.setIfInBounds_toArray, List.set_cons_zero, List.set_cons_succ]
              refine tH 5 (h := ?_)
              try simp only [List.getElem_toArray, List.getElem_cons_zero, List.getElem_cons_succ, Act.put, List.setIfInBounds_toArray, List.set_cons_zero, List.set_cons_succ]
              refine tH 6 (h := ?_)
              try simp only [List.getElem_toArray, List.getElem_cons_zero, List.getElem_cons_succ, Act.put, List.setIfInBounds_toArray, List.set_cons_zero, List.set_cons_succ]
              refine tH 7 (h := ?_)
              try simp only [List.getElem_toArray, List.getElem_cons_zero, List.getElem_cons_succ, Act.put, List.setIfInBounds_toArray, List.set_cons_zero, List.set_cons_succ]
              refine tH 8 (h := ?_)
              try simp only [List.getElem_toArray, List.getElem_cons_zero, List.getElem_cons_succ, Act.put, List.setIfInBounds_toArray, List.set_cons_zero, List.set_cons_succ]
              refine tH 9 (h := ?_)
              try simp only [List.getElem_toArray, List.getElem_cons_zero, List.getElem_cons_succ, Act.put, List.setIfInBounds_toArray, List.set_cons_zero, List.set_cons_succ]
              refine wpAnyH_done (by kernel_rfl) ?_ _
              refine NoPanic.normal ?_
              go_wp2_with fail
              go_roundw
              case rel =>
                refine ⟨k + 1, by omega, by go_num, Lib.hid fun j hj => ?_, HBk.out⟩
                by_cases hjk : j = k
                · subst hjk; rw [HDk.out]; exact HCD.out
                · exact HN.out j (by omega)
              case measure => simp [intOf]; omega
          · have hqk : decide ((k : Int) < 16) = false := by simp; omega
            obtain rfl : k = 16 := by omega
            have hno : digB t = false := digB_no hit (by rw [HC.out]; exact HN.out)
            have hD := HD.out
            rw [hno] at hD
            subst hD
            clear hno
            go_wp2_with fail
            refine wp_region_noPanic ?_
            refine wp_region_held_drew (S := (fun w' => True)) (by kernel_rfl) (trivial) (fun hHeld => ?_)
            refine tH 0 (h := ?_)
            try simp only [List.getElem_toArray, List.getElem_cons_zero, List.getElem_cons_succ, Act.put, List.setIfInBounds_toArray, List.set_cons_zero, List.set_cons_succ]
            refine tH 1 (h := ?_)
            try simp only [List.getElem_toArray, List.getElem_cons_zero, List.getElem_cons_succ, Act.put, List.setIfInBounds_toArray, List.set_cons_zero, List.set_cons_succ]
            refine tH 2 (h := ?_)
            try simp only [List.getElem_toArray, List.getElem_cons_zero, List.getElem_cons_succ, Act.put, List.setIfInBounds_toArray, List.set_cons_zero, List.set_cons_succ]
            refine sH 3 (h := ?_)
            try simp only [List.getElem_toArray, List.getElem_cons_zero, List.getElem_cons_succ, Act.put, List.setIfInBounds_toArray, List.set_cons_zero, List.set_cons_succ]
            refine sH 4 (h := ?_)
            try simp only [List.getElem_toArray, List.getElem_cons_zero, List.getElem_cons_succ, Act.put, List.setIfInBounds_toArray, List.set_cons_zero, List.set_cons_succ]
            refine sH 5 (h := ?_)
            try simp only [List.getElem_toArray, List.getElem_cons_zero, List.getElem_cons_succ, Act.put, List.setIfInBounds_toArray, List.set_cons_zero, List.set_cons_succ]
            refine sH 6 (h := ?_)
            try simp only [List.getElem_toArray, List.getElem_cons_zero, List.getElem_cons_succ, Act.put, List.setIfInBounds_toArray, List.set_cons_zero, List.set_cons_succ]
            refine sH 7 (h := ?_)
            try simp only [List.getElem_toArray, List.getElem_cons_zero, List.getElem_cons_succ, Act.put, List.setIfInBounds_toArray, List.set_cons_zero, List.set_cons_succ]
            refine sH 8 (h := ?_)
            try simp only [List.getElem_toArray, List.getElem_cons_zero, List.getElem_cons_succ, Act.put, List.setIfInBounds_toArray, List.set_cons_zero, List.set_cons_succ]
            refine tH 9 (h := ?_)
            try simp only [List.getElem_toArray, List.getElem_cons_zero, List.getElem_cons_succ, Act.put, List.setIfInBounds_toArray, List.set_cons_zero, List.set_cons_succ]
            refine wpAnyH_done (by kernel_rfl) ?_ _
            refine NoPanic.normal ?_
            go_wp2_with fail
            go_ret2
            exact ⟨⟨_, rfl⟩, HBk.out⟩
      · have hq : decide ((i : Int) < 16) = false := by simp; omega
        obtain rfl : i = 16 := by omega
        have hyes : digB t = true := by
          unfold digB
          rw [HL.out, Bool.and_eq_true, List.all_eq_true]
          refine ⟨rfl, fun c hc => ?_⟩
          obtain ⟨j, hj, e⟩ := List.getElem_of_mem hc
          rw [← e]
          exact HA.out j (by have := HL.out; omega) hj
        have hD := HD.out
        rw [hyes] at hD
        subst hD
        clear hyes
        go_wp2_with fail
        go_ret2
        exact ⟨⟨_, rfl⟩, HBw.out⟩
  · have d16 : ((t.length : Int) != 16) = true := by rw [bne_iff_ne]; omega
    have hD := HD.out
    unfold digB at hD
    rw [beq_eq_false_iff_ne.2 h16, Bool.false_and] at hD
    subst hD
    clear h16
    go_enter Tryz.func69, Tryz.ntmps69
    go_wp2_with fail
    go_ret2
    exact ⟨⟨_, rfl⟩, Below.refl _ _⟩
end
section
set_option maxRecDepth 100000
open Go.RowKit Cal
attribute [local go_sem] toList_mk mk_size
/-- the records read so far: their row and the rows of their values, all new -/
structure RIn (W : World) (v : Value) (C : List RV) (wr : World) : Prop where
  own : OwnV 48 3 encRV W v C wr
  vals : ∀ x ∈ C, Vec wr (fun b => W.heap.size ≤ b ∧ some b ≠ v.ownBlock) 1 encS (.slice x.a x.n x.c) x.vals
theorem RIn.nil {W wr : World} (hb : Below W.heap.size W wr) : RIn W (.slice none 0 0) [] wr := ⟨OwnV.nil hb, fun x h => by simp at h⟩
theorem RIn.below {W wr w' : World} {v : Value} {C : List RV} (h : RIn W v C wr) (hb : Below wr.heap.size wr w') : RIn W v C w' := ⟨h.own.below hb, fun x hx => (h.vals x hx).below hb⟩
theorem RIn.recs {w W wr : World} {v : Value} {C : List RV} (h : RIn W v C wr) (hz : w.heap.size ≤ W.heap.size) : RecsVec wr (fun b => w.heap.size ≤ b) v (C.map pR) :=
  ⟨C, (OwnV.vec (size := 3) (enc := encRV) (fun _ => rfl) h.own).move (Nat.le_refl _) fun b _ hb => ⟨rfl, by have hb' : W.heap.size ≤ b := hb; show w.heap.size ≤ b; omega⟩, rfl, fun x hx => (h.vals x hx).move (Nat.le_refl _) fun b _ hb => ⟨rfl, by have hb' := hb.1; show w.heap.size ≤ b; omega⟩⟩
theorem RIn.add {W w1 w2 : World} {v v' : Value} {C : List RV} {x : RV} (h : RIn W v C w1) (ho : OwnV 48 3 encRV W v' (C ++ [x]) w2)
    (hk : ∀ k o, some k ≠ v.ownBlock → w1.heap[k]? = some o → w2.heap[k]? = some o) (hz : w1.heap.size ≤ w2.heap.size) (hat : v'.ownBlock = none ∨ v.ownBlock = v'.ownBlock ∨ v'.ownBlock = some w1.heap.size)
    (hx : Vec w1 (fun b => W.heap.size ≤ b ∧ some b ≠ v.ownBlock) 1 encS (.slice x.a x.n x.c) x.vals) : RIn W v' (C ++ [x]) w2 := by
  refine ⟨ho, fun y hy => ?_⟩
  have hv : Vec w1 (fun b => W.heap.size ≤ b ∧ some b ≠ v.ownBlock) 1 encS (.slice y.a y.n y.c) y.vals := by
    rcases List.mem_append.1 hy with h1 | h1
    · exact h.vals y h1
    · simp at h1; subst h1; exact hx
  refine hv.move hz fun b hb hs => ⟨?_, hs.1, ?_⟩
  · obtain ⟨o, ho⟩ : ∃ o, w1.heap[b]? = some o := ⟨_, Array.getElem?_eq_getElem hb⟩
    rw [ho]; exact hk b o hs.2 ho
  · rcases hat with h1 | h1 | h1
    · rw [h1]; simp
    · rw [← h1]; exact hs.2
    · rw [h1]; simp; omega
/-- a text behind a place: the row up to the next line feed and what is behind it -/
theorem rows_cut {t : List UInt8} {k e : Nat} (hk : k ≤ e) (he : e < t.length) (h10 : t[e] = 10) (hno : (10 : UInt8) ∉ (t.drop k).take (e - k)) :
    rowsL (t.drop k) = ((t.drop k).take (e - k), t.drop (e + 1)) :: rowsL (t.drop (e + 1)) := by
  have h1 : t.drop k = (t.drop k).take (e - k) ++ 10 :: t.drop (e + 1) := by
    have h2 := List.take_append_drop (e - k) (t.drop k)
    rw [List.drop_drop, show k + (e - k) = e by omega, List.drop_eq_getElem_cons he, h10] at h2
    exact h2.symm
  have h3 := rowsA_at ((t.drop k).take (e - k)) [] (t.drop (e + 1)) hno
  rw [List.nil_append, ← h1] at h3
  exact h3
theorem rowsA_none : ∀ (u p : List UInt8), (10 : UInt8) ∉ u → rowsA p u = []
  | [], p, _ => rfl
  | c :: u, p, h => by
    rw [rowsA, if_neg (fun e => h (by rw [e]; exact List.mem_cons_self))]
    exact rowsA_none u _ fun hh => h (List.mem_cons_of_mem _ hh)
theorem rows_over {t : List UInt8} {k : Nat} (hno : (10 : UInt8) ∉ t.drop k) : rowsL (t.drop k) = [] := rowsA_none _ _ hno
theorem take_grow {t : List UInt8} {k e : Nat} (hk : k ≤ e) (he : e < t.length) (h10 : t[e] ≠ 10) (hno : (10 : UInt8) ∉ (t.drop k).take (e - k)) : (10 : UInt8) ∉ (t.drop k).take (e + 1 - k) := by
  have hd : e - k < (t.drop k).length := by rw [List.length_drop]; omega
  rw [show e + 1 - k = (e - k) + 1 by omega, List.take_succ_eq_append_getElem hd]
  intro h
  rcases List.mem_append.1 h with h | h
  · exact hno h
  · rw [List.getElem_drop] at h
    simp only [show k + (e - k) = e by omega, List.mem_singleton] at h
    exact h10 h.symm
/-- the last tab of a row -/
theorem cut_tab {row : List UInt8} {j : Nat} (hj : j < row.length) (h9 : row[j] = 9) (hno : (9 : UInt8) ∉ row.drop (j + 1)) : cutLast 9 row = some (row.take j, row.drop (j + 1)) := by
  have h1 : row = row.take j ++ 9 :: row.drop (j + 1) := by
    have h2 := List.take_append_drop j row
    rw [List.drop_eq_getElem_cons hj, h9] at h2
    exact h2.symm
  have h3 := cutLast_at 9 (row.drop (j + 1)) hno (row.take j)
  rw [← h1] at h3
  exact h3
theorem drop_grow {row : List UInt8} {j : Nat} (hj : j < row.length) (h9 : row[j] ≠ 9) (hno : (9 : UInt8) ∉ row.drop (j + 1)) : (9 : UInt8) ∉ row.drop j := by
  rw [List.drop_eq_getElem_cons hj]
  intro h
  rcases List.mem_cons.1 h with h | h
  · exact h9 h.symm
  · exact hno h
theorem ext_sub (t : List UInt8) (k e : Nat) (hk : k ≤ e) : (⟨t.toArray⟩ : ByteArray).extract k e = ⟨((t.drop k).take (e - k)).toArray⟩ := by
  apply ByteArray.ext
  simp [ByteArray.data_extract, List.take_drop]
  try (congr 1; rw [show k + (e - k) = e by omega])
theorem endR_iff {row : List UInt8} {n : Nat} (h4 : row.take 4 = endS) : row = endR n ↔ row.drop 4 = Lib.decDigits n := by
  unfold endR
  constructor
  · intro h; rw [h]; rfl
  · intro h; rw [← h, ← h4, List.take_append_drop]
end
section
set_option maxRecDepth 100000
open Go.RowKit Cal
attribute [local go_sem] toList_mk mk_size
set_option maxHeartbeats 16000000 in
theorem rrread_any (S : Nat → Prop) (vf vt vn vs : Value) (s : SchemaL) (t : List UInt8) (w : World) (h : SchemaAt w S vf vt vn vs s) (hc : checkS s = 0) (ht : t.length ≤ 50000) :
    Calls Tryz.prog 26 #[.agg #[vf, vt, vn, vs], strV t] w (ReadPost (freadN s t) w) := by
  have hrd : freadN s t = readA s t.length [] 0 (rowsL t) := by unfold freadN; rw [if_pos hc]
  obtain ⟨P, hP⟩ : ∃ P, readA s t.length [] 0 (rowsL t) = P := ⟨_, rfl⟩
  rw [hrd, hP]
  have HP := Lib.hid hP
  have HS := Lib.hid h; have HC := Lib.hid hc
  have d00 : ((0 : Int) != 0) = false := rfl
  clear h hc hrd hP
  go_enter Tryz.func26, Tryz.ntmps26
  go_wp2_with fail
  refine wp_calls_world (fun W hW => ?_)
  have hb0 : Below w.heap.size w W := by rw [hW]; exact (Below.refl w.heap.size w).alloc (Nat.le_refl _) _
  have hs0 : W.heap[w.heap.size]? = some (.cells #[vf, vt, vn, vs] 33 (0, 0)) := by rw [hW]; exact blk_new rfl
  clear hW
  refine (rscheck_any S _ _ _ _ s W (HS.out.below hb0)).mono ?_
  rw [HC.out]
  rintro e w1 ⟨rfl, hb⟩
  have HB1 := Lib.hid (hb0.trans (hb.mono hb0.size)); have HS1 := Lib.hid (blk_below hb (lt_of_blk hs0) hs0); have Hb1 := Lib.hid hb
  have zW := hb0.size; have lW := lt_of_blk hs0; have HB0 := Lib.hid hb0
  clear hb hb0 hs0
  go_wp2_with fail
  go_loopw [8, 9] (fun v a wr => ∃ (C : List RV) (k : Nat), a = .int .i64 k ∧ k ≤ t.length ∧ C.length ≤ 64 ∧ RIn w1 v C wr ∧ Below w1.heap.size w1 wr ∧ Hid (P = readA s t.length (C.map pR) k (rowsL (t.drop k)))) (fun _ a _ => t.length - (intOf a).toNat)
  case atStart => exact ⟨[], 0, rfl, by omega, by simp, RIn.nil (Below.refl _ _), Below.refl _ _, Lib.hid HP.out.symm⟩
  case round =>
    obtain ⟨C, k, rfl, hk, hC64, hin, hbw, HE⟩ := hrel
    obtain ⟨wu, hwu⟩ : ∃ u, u = wr := ⟨_, rfl⟩
    subst hwu
    have HIn := Lib.hid hin
    have HBw := Lib.hid hbw
    have HBu := Lib.hid (HB1.out.trans (hbw.mono HB1.out.size))
    have HSu := Lib.hid (blk_below hbw (lt_of_blk HS1.out) HS1.out)
    have HPost := Lib.hid (fun (m : Nat) (er : Int) (w' : World) (hr : P = (C.map pR, m, er)) (hi : RIn w1 u8 C w') (hbb : Below w.heap.size w w') =>
      (show ReadPost P w (.returned (.tuple #[u8, .int .i64 m, .int .i64 er])) w' from by rw [hr]; exact ⟨_, rfl, hi.recs HB1.out.size, hbb⟩))
    obtain ⟨av, cv, rfl⟩ := own_slice hin.own.1
    clear hin hbw
    go_wp2_with fail
    go_loopw [10] (fun a wr => ∃ e : Nat, a = .int .i64 e ∧ k ≤ e ∧ e ≤ t.length ∧ Hid ((10 : UInt8) ∉ (t.drop k).take (e - k)) ∧ wr = wu) (fun a _ => t.length - (intOf a).toNat)
    case atStart => exact ⟨k, rfl, by omega, hk, Lib.hid (by simp), rfl⟩
    case round =>
      obtain ⟨e, rfl, hke, het, HNo, rfl⟩ := hrel
      by_cases hlt : e < t.length
      · have hq : decide ((e : Int) < (t.length : Int)) = true := by simp; omega
        have heti : (e : Int) < (t.length : Int) := by omega
        obtain ⟨c, hc⟩ : ∃ c, t[e] = c := ⟨_, rfl⟩
        have hget : ∀ h : e < (⟨t.toArray⟩ : ByteArray).size, (⟨t.toArray⟩ : ByteArray)[e]'h = c := fun h => hc
        have HCc := Lib.hid hc
        clear hc
        by_cases h10 : c = 10
        · have dc : ((c.toNat : Int) != 10) = false := by rw [h10]; rfl
          have hrows := rows_cut hke hlt (by rw [HCc.out]; exact h10) HNo.out
          have hext := ext_sub t k e hke
          obtain ⟨row, hrow⟩ : ∃ row, (t.drop k).take (e - k) = row := ⟨_, rfl⟩
          have hrl : row.length = e - k := by rw [← hrow, List.length_take, List.length_drop]; omega
          rw [hrow] at hrows hext
          have hE := HE.out
          rw [hrows, readA] at hE
          have HE2 := Lib.hid hE
          obtain ⟨r, hr⟩ : ∃ r, row.length = r := ⟨_, rfl⟩
          have hr5 : r ≤ 50000 := by omega
          have he : e = k + r := by omega
          subst he
          have HR := Lib.hid hr
          have q1 : (k : Int) ≤ (k : Int) + (r : Int) := by omega
          have q2 : (k : Int) + (r : Int) ≤ (t.length : Int) := by omega
          have q3 : (0 : Int) ≤ (k : Int) + (r : Int) := by omega
          have q4 : ((k : Int) + (r : Int)).toNat = k + r := by omega
          have dne : ((k : Int) + (r : Int) == (t.length : Int)) = false := beq_eq_false_iff_ne.2 (by omega)
          clear HE hE hrows hrow hrl h10 HCc
          have hsl : r < 4 → isEnd row = false := fun h => by
            unfold isEnd; rw [decide_eq_false (by rw [HR.out]; show ¬ 4 ≤ r; omega), Bool.false_and]
          have hend : 4 ≤ r → isEnd row = (row.take 4 == [101, 110, 100, 32]) := fun h => by
            unfold isEnd; rw [decide_eq_true (by rw [HR.out]; exact h), Bool.true_and]; rfl
          have hx4 := extract_take row 4
          obtain ⟨X, hX⟩ : ∃ X, row.take 4 = X := ⟨_, rfl⟩
          rw [hX] at hend hx4
          obtain ⟨bE, hbE⟩ : ∃ bE, isEnd row = bE := ⟨_, rfl⟩
          rw [hbE] at hsl hend
          have HbE := Lib.hid hbE; have HX := Lib.hid hX
          clear hX hbE
          by_cases hE : bE = true
          · subst hE
            have h4 : 4 ≤ r := by
              rcases Nat.lt_or_ge r 4 with h | h
              · exact absurd (hsl h) (by decide)
              · exact h
            have d4 : decide ((4 : Int) ≤ (r : Int)) = true := by simp; omega
            have dX : (X == [101, 110, 100, 32]) = true := (hend h4).symm
            have hX2 : row.take 4 = endS := by
              have := HX.out
              rw [this]
              simpa [endS] using dX
            have hiff := endR_iff (n := C.length) hX2
            have hE3 := HE2.out
            rw [if_pos HbE.out, List.length_map] at hE3
            simp only [hiff] at hE3
            have hxr := ext_sub row 4 r h4
            rw [show r - 4 = (row.drop 4).length by rw [List.length_drop, HR.out], List.take_length] at hxr
            obtain ⟨Y, hY⟩ : ∃ Y, row.drop 4 = Y := ⟨_, rfl⟩
            rw [hY] at hxr hE3
            have hnum := fun w => rnum01_any 7 C.length w (by omega) (by omega)
            obtain ⟨Dg, hDg⟩ : ∃ Dg, Lib.decDigits C.length = Dg := ⟨_, rfl⟩
            rw [hDg] at hnum hE3
            have HNum := Lib.hid hnum
            have HE3 := Lib.hid hE3
            have q5 : (4 : Int) ≤ (r : Int) := by omega
            have bD : Below wr.heap.size wr wr.drew := (Below.refl _ _).drew
            clear hsl hend hX2 hiff hE3 hY hDg hnum HE2
            go_wp2_with fail
            clear dX d4 hx4 hext
            by_cases hYD : Y = Dg
            · have dn1 : (Y != Dg) = false := by rw [hYD]; simp
              have dn2 : (Y == Dg) = true := by rw [hYD]; simp
              have hw1 : IntKind.i64.wrap ((k : Int) + (r : Int) + 1) = (k : Int) + (r : Int) + 1 := by rw [IntKind.wrap_i64]; omega
              have HYD := Lib.hid hYD
              clear hYD
              by_cases hlast : k + r + 1 = t.length
              · have dl : ((k : Int) + (r : Int) + 1 != (t.length : Int)) = false := by simp; omega
                have hP := HE3.out
                rw [if_pos ⟨HYD.out, List.drop_eq_nil_of_le (by omega)⟩] at hP
                have HP2 := Lib.hid hP
                clear hP hlast
                refine wp_region_noPanic ?_
                refine wp_region_held_drew (S := (fun w' => True)) (by kernel_rfl) (trivial) (fun hHeld => ?_)
                refine tH 0 (h := ?_)
                try simp only [List.getElem_toArray, List.getElem_cons_zero, List.getElem_cons_succ, Act.put, List.setIfInBounds_toArray, List.set_cons_zero, List.set_cons_succ]
                refine tH 1 (h := ?_)
                try simp only [List.getElem_toArray, List.getElem_cons_zero, List.getElem_cons_succ, Act.put, List.setIfInBounds_toArray, List.set_cons_zero, List.set_cons_succ]
                refine tH 2 (h := ?_)
                try simp only [List.getElem_toArray, List.getElem_cons_zero, List.getElem_cons_succ, Act.put, List.setIfInBounds_toArray, List.set_cons_zero, List.set_cons_succ]
                refine tH 3 (h := ?_)
                try simp only [List.getElem_toArray, List.getElem_cons_zero, List.getElem_cons_succ, Act.put, List.setIfInBounds_toArray, List.set_cons_zero, List.set_cons_succ]
                refine wpAnyH_ready (rs := [4]) (by kernel_rfl) (by simp) ?_
                refine AllReadyH.cons rfl (fun K hK => ?_) AllReadyH.nil
                go_simp
                refine (HNum.out _).mono ?_; rintro e w4 ⟨rfl, hb⟩; have b4 := bD.trans (hb.mono bD.size); clear hb
                refine hK.out _ _ (trivial) (fun hHeld => ?_)
                clear hK K
                try simp only [List.getElem_toArray, List.getElem_cons_zero, List.getElem_cons_succ, Act.put, List.setIfInBounds_toArray, List.set_cons_zero, List.set_cons_succ]
                refine tH 5 (h := ?_)
                try simp only [List.getElem_toArray, List.getElem_cons_zero, List.getElem_cons_succ, Act.put, List.setIfInBounds_toArray, List.set_cons_zero, List.set_cons_succ]
                refine tH 6 (h := ?_)
                try simp only [List.getElem_toArray, List.getElem_cons_zero, List.getElem_cons_succ, Act.put, List.setIfInBounds_toArray, List.set_cons_zero, List.set_cons_succ]
                refine tH 7 (h := ?_)
                try simp only [List.getElem_toArray, List.getElem_cons_zero, List.getElem_cons_succ, Act.put, List.setIfInBounds_toArray, List.set_cons_zero, List.set_cons_succ]
                refine tH 8 (h := ?_)
                try simp only [List.getElem_toArray, List.getElem_cons_zero, List.getElem_cons_succ, Act.put, List.setIfInBounds_toArray, List.set_cons_zero, List.set_cons_succ]
                refine tH 9 (h := ?_)
                try simp only [List.getElem_toArray, List.getElem_cons_zero, List.getElem_cons_succ, Act.put, List.setIfInBounds_toArray, List.set_cons_zero, List.set_cons_succ]
                refine tH 10 (h := ?_)
                try simp only [List.getElem_toArray, List.getElem_cons_zero, List.getElem_cons_succ, Act.put, List.setIfInBounds_toArray, List.set_cons_zero, List.set_cons_succ]
                refine tH 11 (h := ?_)
                try simp only [List.getElem_toArray, List.getElem_cons_zero, List.getElem_cons_succ, Act.put, List.setIfInBounds_toArray, List.set_cons_zero, List.set_cons_succ]
                refine tH 12 (h := ?_)
                try simp only [List.getElem_toArray, List.getElem_cons_zero, List.getElem_cons_succ, Act.put, List.setIfInBounds_toArray, List.set_cons_zero, List.set_cons_succ]
                refine wpAnyH_done (by kernel_rfl) ?_ _
                refine NoPanic.normal ?_
                go_wp2_with fail
                go_ret3
                exact HPost.out _ _ _ HP2.out (HIn.out.below b4) (HBu.out.trans (b4.mono HBu.out.size))
              · have dl : ((k : Int) + (r : Int) + 1 != (t.length : Int)) = true := by simp; omega
                have hP := HE3.out
                rw [if_neg (fun hh => by have h1 := congrArg List.length hh.2; rw [List.length_drop] at h1; simp at h1; omega)] at hP
                have HP2 := Lib.hid hP
                clear hP hlast
                refine wp_region_noPanic ?_
                refine wp_region_held_drew (S := (fun w' => True)) (by kernel_rfl) (trivial) (fun hHeld => ?_)
                refine tH 0 (h := ?_)
                try simp only [List.getElem_toArray, List.getElem_cons_zero, List.getElem_cons_succ, Act.put, List.setIfInBounds_toArray, List.set_cons_zero, List.set_cons_succ]
                refine tH 1 (h := ?_)
                try simp only [List.getElem_toArray, List.getElem_cons_zero, List.getElem_cons_succ, Act.put, List.setIfInBounds_toArray, List.set_cons_zero, List.set_cons_succ]
                refine tH 2 (h := ?_)
                try simp only [List.getElem_toArray, List.getElem_cons_zero, List.getElem_cons_succ, Act.put, List.setIfInBounds_toArray, List.set_cons_zero, List.set_cons_succ]
                refine tH 3 (h := ?_)
                try simp only [List.getElem_toArray, List.getElem_cons_zero, List.getElem_cons_succ, Act.put, List.setIfInBounds_toArray, List.set_cons_zero, List.set_cons_succ]
                refine wpAnyH_ready (rs := [4]) (by kernel_rfl) (by simp) ?_
                refine AllReadyH.cons rfl (fun K hK => ?_) AllReadyH.nil
                go_simp
                refine (HNum.out _).mono ?_; rintro e w4 ⟨rfl, hb⟩; have b4 := bD.trans (hb.mono bD.size); clear hb
                refine hK.out _ _ (trivial) (fun hHeld => ?_)
                clear hK K
                try simp only [List.getElem_toArray, List.getElem_cons_zero, List.getElem_cons_succ, Act.put, List.setIfInBounds_toArray, List.set_cons_zero, List.set_cons_succ]
                refine tH 5 (h := ?_)
                try simp only [List.getElem_toArray, List.getElem_cons_zero, List.getElem_cons_succ, Act.put, List.setIfInBounds_toArray, List.set_cons_zero, List.set_cons_succ]
                refine tH 6 (h := ?_)
                try simp only [List.getElem_toArray, List.getElem_cons_zero, List.getElem_cons_succ, Act.put, List.setIfInBounds_toArray, List.set_cons_zero, List.set_cons_succ]
                refine tH 7 (h := ?_)
                try simp only [List.getElem_toArray, List.getElem_cons_zero, List.getElem_cons_succ, Act.put, List.setIfInBounds_toArray, List.set_cons_zero, List.set_cons_succ]
                refine tH 8 (h := ?_)
                try simp only [List.getElem_toArray, List.getElem_cons_zero, List.getElem_cons_succ, Act.put, List.setIfInBounds_toArray, List.set_cons_zero, List.set_cons_succ]
                refine tH 9 (h := ?_)
                try simp only [List.getElem_toArray, List.getElem_cons_zero, List.getElem_cons_succ, Act.put, List.setIfInBounds_toArray, List.set_cons_zero, List.set_cons_succ]
                refine tH 10 (h := ?_)
                try simp only [List.getElem_toArray, List.getElem_cons_zero, List.getElem_cons_succ, Act.put, List.setIfInBounds_toArray, List.set_cons_zero, List.set_cons_succ]
                refine tH 11 (h := ?_)
                try simp only [List.getElem_toArray, List.getElem_cons_zero, List.getElem_cons_succ, Act.put, List.setIfInBounds_toArray, List.set_cons_zero, List.set_cons_succ]
                refine tH 12 (h := ?_)
                try simp only [List.getElem_toArray, List.getElem_cons_zero, List.getElem_cons_succ, Act.put, List.setIfInBounds_toArray, List.set_cons_zero, List.set_cons_succ]
                refine wpAnyH_done (by kernel_rfl) ?_ _
                refine NoPanic.normal ?_
                go_wp2_with fail
                go_ret3
                exact HPost.out _ _ _ HP2.out (HIn.out.below b4) (HBu.out.trans (b4.mono HBu.out.size))
            · have dn1 : (Y != Dg) = true := by simpa using hYD
              have dn2 : (Y == Dg) = false := by simpa using hYD
              have hP := HE3.out
              rw [if_neg (fun hh => hYD hh.1)] at hP
              have HP2 := Lib.hid hP
              clear hP hYD
              refine wp_region_noPanic ?_
              refine wp_region_held_drew (S := (fun w' => True)) (by kernel_rfl) (trivial) (fun hHeld => ?_)
              refine tH 0 (h := ?_)
              try simp only [List.getElem_toArray, List.getElem_cons_zero, List.getElem_cons_succ, Act.put, List.setIfInBounds_toArray, List.set_cons_zero, List.set_cons_succ]
              refine tH 1 (h := ?_)
              try simp only [List.getElem_toArray, List.getElem_cons_zero, List.getElem_cons_succ, Act.put, List.setIfInBounds_toArray, List.set_cons_zero, List.set_cons_succ]
              refine tH 2 (h := ?_)
              try simp only [List.getElem_toArray, List.getElem_cons_zero, List.getElem_cons_succ, Act.put, List.setIfInBounds_toArray, List.set_cons_zero, List.set_cons_succ]
              refine tH 3 (h := ?_)
              try simp only [List.getElem_toArray, List.getElem_cons_zero, List.getElem_cons_succ, Act.put, List.setIfInBounds_toArray, List.set_cons_zero, List.set_cons_succ]
              refine wpAnyH_ready (rs := [4]) (by kernel_rfl) (by simp) ?_
              refine AllReadyH.cons rfl (fun K hK => ?_) AllReadyH.nil
              go_simp
              refine (HNum.out _).mono ?_; rintro e w4 ⟨rfl, hb⟩; have b4 := bD.trans (hb.mono bD.size); clear hb
              refine hK.out _ _ (trivial) (fun hHeld => ?_)
              clear hK K
              try simp only [List.getElem_toArray, List.getElem_cons_zero, List.getElem_cons_succ, Act.put, List.setIfInBounds_toArray, List.set_cons_zero, List.set_cons_succ]
              refine tH 5 (h := ?_)
              try simp only [List.getElem_toArray, List.getElem_cons_zero, List.getElem_cons_succ, Act.put, List.setIfInBounds_toArray, List.set_cons_zero, List.set_cons_succ]
              refine tH 6 (h := ?_)
              try simp only [List.getElem_toArray, List.getElem_cons_zero, List.getElem_cons_succ, Act.put, List.setIfInBounds_toArray, List.set_cons_zero, List.set_cons_succ]
              refine sH 7 (h := ?_)
              try simp only [List.getElem_toArray, List.getElem_cons_zero, List.getElem_cons_succ, Act.put, List.setIfInBounds_toArray, List.set_cons_zero, List.set_cons_succ]
              refine sH 8 (h := ?_)
              try simp only [List.getElem_toArray, List.getElem_cons_zero, List.getElem_cons_succ, Act.put, List.setIfInBounds_toArray, List.set_cons_zero, List.set_cons_succ]
              refine sH 9 (h := ?_)
              try simp only [List.getElem_toArray, List.getElem_cons_zero, List.getElem_cons_succ, Act.put, List.setIfInBounds_toArray, List.set_cons_zero, List.set_cons_succ]
              refine sH 10 (h := ?_)
              try simp only [List.getElem_toArray, List.getElem_cons_zero, List.getElem_cons_succ, Act.put, List.setIfInBounds_toArray, List.set_cons_zero, List.set_cons_succ]
              refine sH 11 (h := ?_)
              try simp only [List.getElem_toArray, List.getElem_cons_zero, List.getElem_cons_succ, Act.put, List.setIfInBounds_toArray, List.set_cons_zero, List.set_cons_succ]
              refine tH 12 (h := ?_)
              try simp only [List.getElem_toArray, List.getElem_cons_zero, List.getElem_cons_succ, Act.put, List.setIfInBounds_toArray, List.set_cons_zero, List.set_cons_succ]
              refine wpAnyH_done (by kernel_rfl) ?_ _
              refine NoPanic.normal ?_
              go_wp2_with fail
              go_ret3
              exact HPost.out _ _ _ HP2.out (HIn.out.below b4) (HBu.out.trans (b4.mono HBu.out.size))
          · have hE0 : bE = false := by simpa using hE
            subst hE0
            clear hE
            go_upto_region 12 with fail
            go_cut [52] (fun s52 wx => s52 = .bool false ∧ wx = wr)
            case first =>
              by_cases h4 : 4 ≤ r
              · have d4 : decide ((4 : Int) ≤ (r : Int)) = true := by simp; omega
                have dX : (X == [101, 110, 100, 32]) = false := (hend h4).symm
                clear hsl hend
                go_wp2_with fail
                go_meet
                exact ⟨rfl, rfl⟩
              · have d4 : decide ((4 : Int) ≤ (r : Int)) = false := by simp; omega
                clear hsl hend
                go_wp2_with fail
                go_meet
                exact ⟨rfl, rfl⟩
            case rest =>
              obtain ⟨rfl, rfl⟩ := hcut
              have hE4 := HE2.out
              rw [if_neg (by rw [HbE.out]; decide)] at hE4
              have HE4 := Lib.hid hE4
              clear hx4 hsl hend hext hE4
              go_wp2_with fail
              go_loopw [12] (fun a wr => ∃ (j : Nat) (τ : Int), a = .int .i64 τ ∧ τ = (j : Int) - 1 ∧ j ≤ r ∧ Hid ((9 : UInt8) ∉ row.drop j) ∧ wr = wc) (fun a _ => (intOf a + 1).toNat)
              case atStart => exact ⟨r, _, rfl, rfl, by omega, Lib.hid (by rw [← HR.out, List.drop_length]; simp), rfl⟩
              case round =>
                obtain ⟨j, τ, rfl, hτ, hjr, HNt, rfl⟩ := hrel
                by_cases hj0 : j = 0
                · obtain rfl : τ = -1 := by omega
                  have hno := HNt.out
                  rw [hj0, List.drop_zero] at hno
                  have hP := HE4.out
                  unfold takeN at hP
                  rw [cutLast_no 9 row hno] at hP
                  have HP2 := Lib.hid hP
                  have hfin := HPost.out _ _ _ (show P = (C.map pR, k, 14) from HP2.out) HIn.out HBu.out
                  have HFin := Lib.hid hfin
                  have e1 : decide ((0 : Int) ≤ -1) = false := by decide
                  have e2 : decide ((-1 : Int) < 0) = true := by decide
                  clear hno hP hfin hτ hj0
                  go_wp2_with fail
                  go_ret3
                  exact HFin.out
                · obtain ⟨i, rfl⟩ : ∃ i, j = i + 1 := ⟨j - 1, by omega⟩
                  obtain rfl : τ = (i : Int) := by omega
                  have hir : (i : Int) < (r : Int) := by omega
                  have hi0 : decide ((0 : Int) ≤ (i : Int)) = true := by simp
                  have hirow : i < row.length := by rw [HR.out]; omega
                  obtain ⟨c9, hc9⟩ : ∃ c, row[i] = c := ⟨_, rfl⟩
                  have hget9 : ∀ h : i < (⟨row.toArray⟩ : ByteArray).size, (⟨row.toArray⟩ : ByteArray)[i]'h = c9 := fun h => hc9
                  have HC9 := Lib.hid hc9
                  clear hc9 hj0 hτ
                  by_cases h9 : c9 = 9
                  · have dc9 : ((c9.toNat : Int) != 9) = false := by rw [h9]; rfl
                    have dlt : decide ((i : Int) < 0) = false := by simp
                    have hcut9 := cut_tab hirow (by rw [HC9.out]; exact h9) HNt.out
                    have hxa := extract_take row i
                    have hxb := ext_sub row (i + 1) r (by omega)
                    rw [show r - (i + 1) = (row.drop (i + 1)).length by rw [List.length_drop, HR.out], List.take_length] at hxb
                    have hal : (row.take i).length ≤ 50000 := by rw [List.length_take, HR.out]; omega
                    have hbl : (row.drop (i + 1)).length ≤ 50000 := by rw [List.length_drop, HR.out]; omega
                    obtain ⟨A, hA⟩ : ∃ A, row.take i = A := ⟨_, rfl⟩
                    obtain ⟨B, hB⟩ : ∃ B, row.drop (i + 1) = B := ⟨_, rfl⟩
                    rw [hA] at hcut9 hxa hal; rw [hB] at hcut9 hxb hbl
                    have hP := HE4.out
                    unfold takeN at hP
                    rw [hcut9] at hP
                    dsimp only at hP
                    have HP2 := Lib.hid hP
                    have hw1 : IntKind.i64.wrap ((i : Int) + 1) = (i : Int) + 1 := by rw [IntKind.wrap_i64]; omega
                    have hq1 : (0 : Int) ≤ (i : Int) + 1 := by omega
                    have hq2 : (i : Int) + 1 ≤ (r : Int) := by omega
                    have hq3 : (i : Int) ≤ (r : Int) := by omega
                    have hq4 : ((i : Int) + 1).toNat = i + 1 := by omega
                    obtain ⟨bd, hbd⟩ : ∃ bd, digB B = bd := ⟨_, rfl⟩
                    have hdig := fun w => rrdig_any B w (by omega)
                    rw [hbd] at hdig
                    simp only [hbd] at hP
                    have HDg := Lib.hid hdig; have HP3 := Lib.hid hP
                    clear hcut9 hA hB hP h9 hbd hdig HP2 HNt
                    go_wp2_with fail
                    refine (HDg.out _).mono ?_
                    rintro e ws ⟨⟨xd, rfl⟩, hbs⟩
                    have HBs := Lib.hid (HBu.out.trans (hbs.mono HBu.out.size)); have HIs := Lib.hid (HIn.out.below hbs); have Hbs := Lib.hid hbs
                    clear hbs
                    cases bd with
                    | false =>
                      have hP := HP3.out
                      rw [if_neg (show ¬ false = true from Bool.false_ne_true)] at hP
                      have hfin := HPost.out _ _ _ (show P = (C.map pR, k, 14) from hP) HIs.out HBs.out
                      have HFin := Lib.hid hfin
                      clear hP hfin
                      go_wp2_with fail
                      go_ret3
                      exact HFin.out
                    | true =>
                      have hP := HP3.out
                      rw [if_pos rfl] at hP
                      have hsum := fun w => rrsum_any A w (by omega)
                      obtain ⟨Z, hZ⟩ : ∃ Z, sumT A = Z := ⟨_, rfl⟩
                      rw [hZ] at hsum
                      simp only [hZ] at hP
                      have HSm := Lib.hid hsum; have HP4 := Lib.hid hP
                      have bD : Below ws.heap.size ws ws.drew := (Below.refl _ _).drew
                      clear hP hsum hZ HP3 HDg
                      go_wp2_with fail
                      go_cut [108] (fun s108 wx => s108 = .bool (B != Z) ∧ Below ws.heap.size ws wx)
                      case first =>
                        refine wp_region_noPanic ?_
                        refine wp_region_held_drew (S := (fun w' => True)) (by kernel_rfl) (trivial) (fun hHeld => ?_)
                        refine tH 0 (h := ?_)
                        try simp only [List.getElem_toArray, List.getElem_cons_zero, List.getElem_cons_succ, Act.put, List.setIfInBounds_toArray, List.set_cons_zero, List.set_cons_succ]
                        refine tH 1 (h := ?_)
                        try simp only [List.getElem_toArray, List.getElem_cons_zero, List.getElem_cons_succ, Act.put, List.setIfInBounds_toArray, List.set_cons_zero, List.set_cons_succ]
                        refine tH 2 (h := ?_)
                        try simp only [List.getElem_toArray, List.getElem_cons_zero, List.getElem_cons_succ, Act.put, List.setIfInBounds_toArray, List.set_cons_zero, List.set_cons_succ]
                        refine tH 3 (h := ?_)
                        try simp only [List.getElem_toArray, List.getElem_cons_zero, List.getElem_cons_succ, Act.put, List.setIfInBounds_toArray, List.set_cons_zero, List.set_cons_succ]
                        refine tH 4 (h := ?_)
                        try simp only [List.getElem_toArray, List.getElem_cons_zero, List.getElem_cons_succ, Act.put, List.setIfInBounds_toArray, List.set_cons_zero, List.set_cons_succ]
                        refine tH 5 (h := ?_)
                        try simp only [List.getElem_toArray, List.getElem_cons_zero, List.getElem_cons_succ, Act.put, List.setIfInBounds_toArray, List.set_cons_zero, List.set_cons_succ]
                        refine tH 6 (h := ?_)
                        try simp only [List.getElem_toArray, List.getElem_cons_zero, List.getElem_cons_succ, Act.put, List.setIfInBounds_toArray, List.set_cons_zero, List.set_cons_succ]
                        refine wpAnyH_ready (rs := [7]) (by kernel_rfl) (by simp) ?_
                        refine AllReadyH.cons rfl (fun K hK => ?_) AllReadyH.nil
                        go_simp
                        refine (HSm.out _).mono ?_; rintro e w4 ⟨rfl, hb⟩; have b4 := bD.trans (hb.mono bD.size); clear hb
                        refine hK.out _ _ (trivial) (fun hHeld => ?_)
                        clear hK K
                        try simp only [List.getElem_toArray, List.getElem_cons_zero, List.getElem_cons_succ, Act.put, List.setIfInBounds_toArray, List.set_cons_zero, List.set_cons_succ]
                        refine tH 8 (h := ?_)
                        try simp only [List.getElem_toArray, List.getElem_cons_zero, List.getElem_cons_succ, Act.put, List.setIfInBounds_toArray, List.set_cons_zero, List.set_cons_succ]
                        refine wpAnyH_done (by kernel_rfl) ?_ _
                        refine NoPanic.normal ?_
                        go_wp2_with fail
                        go_meet
                        exact ⟨rfl, b4⟩
                      case rest =>
                        obtain ⟨wv, hwv⟩ : ∃ u, u = wc := ⟨_, rfl⟩
                        subst hwv
                        obtain ⟨rfl, b4⟩ := hcut
                        have HBv := Lib.hid (HBs.out.trans (b4.mono HBs.out.size)); have HIv := Lib.hid (HIs.out.below b4); have Hbv := Lib.hid (Hbs.out.trans (b4.mono Hbs.out.size))
                        clear b4 bD
                        by_cases hBZ : B = Z
                        · have dz1 : (B != Z) = false := by rw [hBZ]; simp
                          have hP := HP4.out
                          rw [if_pos hBZ] at hP
                          have HP5 := Lib.hid hP
                          obtain ⟨⟨pr, pe⟩, hPR⟩ : ∃ R, parseR s A = R := ⟨_, rfl⟩
                          simp only [hPR] at hP
                          have HPR := Lib.hid hPR; have HP6 := Lib.hid hP
                          have hSv := blk_below Hbv.out (lt_of_blk HSu.out) HSu.out
                          obtain ⟨s0, s1, s2, s3⟩ := cellsS hSv
                          have ls := lt_of_blk hSv
                          rw [dz1]
                          clear hP hPR HP5 HP4 hBZ dz1
                          go_wp2_with fail
                          have bD : Below wv.heap.size wv wv.drew := (Below.refl _ _).drew
                          go_cut [15, 16] (fun s15 s16 wx => ∃ (xb : Nat) (sv : Value), s15 = .pointer (some ⟨xb, 0, none⟩) ∧ s16 = .int .i64 pe ∧ wx.heap[xb]? = some (.cells #[.int .i64 pr.id, .int .i64 pr.ver, sv] 48 (0, 0)) ∧ Vec wx (fun b => wv.heap.size ≤ b) 1 encS sv pr.vals ∧ Below wv.heap.size wv wx)
                          case first =>
                            refine wp_region_noPanic ?_
                            refine wp_region_held_drew (S := (fun w' => w'.cell? ⟨w.heap.size, 0, none⟩ = some vf ∧ w'.cell? ⟨w.heap.size, 1, none⟩ = some vt ∧ w'.cell? ⟨w.heap.size, 2, none⟩ = some vn ∧ w'.cell? ⟨w.heap.size, 3, none⟩ = some vs)) (by kernel_rfl) (⟨s0, s1, s2, s3⟩) (fun hHeld => ?_)
                            refine tH 0 (h := ?_)
                            try simp only [List.getElem_toArray, List.getElem_cons_zero, List.getElem_cons_succ, Act.put, List.setIfInBounds_toArray, List.set_cons_zero, List.set_cons_succ]
                            refine tH 1 (h := ?_)
                            try simp only [List.getElem_toArray, List.getElem_cons_zero, List.getElem_cons_succ, Act.put, List.setIfInBounds_toArray, List.set_cons_zero, List.set_cons_succ]
                            refine tH 2 (h := ?_)
                            try simp only [List.getElem_toArray, List.getElem_cons_zero, List.getElem_cons_succ, Act.put, List.setIfInBounds_toArray, List.set_cons_zero, List.set_cons_succ]
                            refine tH 3 (h := ?_)
                            try simp only [List.getElem_toArray, List.getElem_cons_zero, List.getElem_cons_succ, Act.put, List.setIfInBounds_toArray, List.set_cons_zero, List.set_cons_succ]
                            refine wpAnyH_ready (rs := [4, 8]) (by kernel_rfl) (by simp) ?_
                            refine AllReadyH.cons rfl (fun K hK => ?_) (AllReadyH.cons rfl (fun K hK => ?_) AllReadyH.nil)
                            focus
                              go_simp
                              refine (rrparse_any S vf vt vn vs s A _ (HS.out.below (HBv.out.trans (bD.mono HBv.out.size))) HC.out (by omega)).mono ?_
                              rw [HPR.out]
                              rintro e w5 ⟨_, rfl, ⟨sv, rfl, hvv⟩, hb⟩
                              dsimp only at hvv ⊢
                              obtain ⟨as5, cs5, rfl⟩ := hvv.slice
                              have b5 := bD.trans (hb.mono bD.size)
                              have bA := b5.alloc b5.size (.cells #[.int .i64 0, .int .i64 0, .slice none 0 0] 48)
                              refine hK.out _ _ ⟨(b5.cell (p := ⟨w.heap.size, 0, none⟩) ls).trans s0, (b5.cell (p := ⟨w.heap.size, 1, none⟩) ls).trans s1, (b5.cell (p := ⟨w.heap.size, 2, none⟩) ls).trans s2, (b5.cell (p := ⟨w.heap.size, 3, none⟩) ls).trans s3⟩ (fun hHeld => ?_)
                              clear hK K
                              try simp only [List.getElem_toArray, List.getElem_cons_zero, List.getElem_cons_succ, Act.put, List.setIfInBounds_toArray, List.set_cons_zero, List.set_cons_succ]
                              refine tH 5 (h := ?_)
                              try simp only [List.getElem_toArray, List.getElem_cons_zero, List.getElem_cons_succ, Act.put, List.setIfInBounds_toArray, List.set_cons_zero, List.set_cons_succ]
                              refine tH 6 (h := ?_)
                              try simp only [List.getElem_toArray, List.getElem_cons_zero, List.getElem_cons_succ, Act.put, List.setIfInBounds_toArray, List.set_cons_zero, List.set_cons_succ]
                              refine tH 7 (h := ?_)
                              try simp only [List.getElem_toArray, List.getElem_cons_zero, List.getElem_cons_succ, Act.put, List.setIfInBounds_toArray, List.set_cons_zero, List.set_cons_succ]
                              refine wpAnyH_ready (rs := [8]) (by kernel_rfl) (by simp) ?_
                              refine AllReadyH.cons rfl (fun K hK => ?_) AllReadyH.nil
                              go_simp
                              skip
                              refine hK.out _ _ (⟨(bA.cell (p := ⟨w.heap.size, 0, none⟩) ls).trans s0, (bA.cell (p := ⟨w.heap.size, 1, none⟩) ls).trans s1, (bA.cell (p := ⟨w.heap.size, 2, none⟩) ls).trans s2, (bA.cell (p := ⟨w.heap.size, 3, none⟩) ls).trans s3⟩) (fun hHeld => ?_)
                              clear hK K
                              try simp only [List.getElem_toArray, List.getElem_cons_zero, List.getElem_cons_succ, Act.put, List.setIfInBounds_toArray, List.set_cons_zero, List.set_cons_succ]
                              refine wph_name (fun W8 hW8 => ?_)
                              have hg8 : W8.heap[w5.heap.size]? = some (.cells #[.int .i64 0, .int .i64 0, .slice none 0 0] 48 (0, 0)) := by rw [hW8]; exact blk_new rfl
                              have hv8 : Vec W8 (fun b => wv.heap.size ≤ b ∧ b ≠ w5.heap.size) 1 encS (.slice as5 pr.vals.length cs5) pr.vals := by
                                rw [hW8]
                                refine hvv.move (by simp) fun b hb' hs => ⟨?_, ?_, by omega⟩
                                · exact ((Below.refl w5.heap.size w5).alloc (Nat.le_refl _) _).block b hb'
                                · have hs' := hs; simpa using hs'
                              have hb8 : Below wv.heap.size wv W8 := by rw [hW8]; exact bA
                              have hxb := b5.size
                              obtain ⟨xb, hxe⟩ : ∃ xb, w5.heap.size = xb := ⟨_, rfl⟩
                              rw [hxe] at hg8 hv8 hxb ⊢
                              clear hHeld
                              have hHeld : W8.cell? ⟨w.heap.size, 0, none⟩ = some vf ∧ W8.cell? ⟨w.heap.size, 1, none⟩ = some vt ∧ W8.cell? ⟨w.heap.size, 2, none⟩ = some vn ∧ W8.cell? ⟨w.heap.size, 3, none⟩ = some vs := ⟨(hb8.cell (p := ⟨w.heap.size, 0, none⟩) ls).trans s0, (hb8.cell (p := ⟨w.heap.size, 1, none⟩) ls).trans s1, (hb8.cell (p := ⟨w.heap.size, 2, none⟩) ls).trans s2, (hb8.cell (p := ⟨w.heap.size, 3, none⟩) ls).trans s3⟩
                              clear hW8 hvv hb b5 bA hxe
                            rotate_left 1
                            focus
                              go_simp
                              have bA := bD.alloc bD.size (.cells #[.int .i64 0, .int .i64 0, .slice none 0 0] 48)
                              refine hK.out _ _ ⟨(bA.cell (p := ⟨w.heap.size, 0, none⟩) ls).trans s0, (bA.cell (p := ⟨w.heap.size, 1, none⟩) ls).trans s1, (bA.cell (p := ⟨w.heap.size, 2, none⟩) ls).trans s2, (bA.cell (p := ⟨w.heap.size, 3, none⟩) ls).trans s3⟩ (fun hHeld => ?_)
                              clear hK K
                              try simp only [List.getElem_toArray, List.getElem_cons_zero, List.getElem_cons_succ, Act.put, List.setIfInBounds_toArray, List.set_cons_zero, List.set_cons_succ]
                              refine wph_name (fun W8 hW8 => ?_)
                              have hg7 : W8.heap[wv.heap.size]? = some (.cells #[.int .i64 0, .int .i64 0, .slice none 0 0] 48 (0, 0)) := by rw [hW8]; exact blk_new rfl
                              have hb7 : Below wv.heap.size wv W8 := by rw [hW8]; exact bA
                              have z7 : W8.heap.size = wv.heap.size + 1 := by rw [hW8]; simp
                              clear hW8 hHeld
                              have hHeld : W8.cell? ⟨w.heap.size, 0, none⟩ = some vf ∧ W8.cell? ⟨w.heap.size, 1, none⟩ = some vt ∧ W8.cell? ⟨w.heap.size, 2, none⟩ = some vn ∧ W8.cell? ⟨w.heap.size, 3, none⟩ = some vs := ⟨(hb7.cell (p := ⟨w.heap.size, 0, none⟩) ls).trans s0, (hb7.cell (p := ⟨w.heap.size, 1, none⟩) ls).trans s1, (hb7.cell (p := ⟨w.heap.size, 2, none⟩) ls).trans s2, (hb7.cell (p := ⟨w.heap.size, 3, none⟩) ls).trans s3⟩
                              refine wpAnyH_ready (rs := [4]) (by kernel_rfl) (by simp) ?_
                              refine AllReadyH.cons rfl (fun K hK => ?_) AllReadyH.nil
                              go_simp
                              refine (rrparse_any S vf vt vn vs s A _ (HS.out.below (HBv.out.trans (hb7.mono HBv.out.size))) HC.out (by omega)).mono ?_; rw [HPR.out]; rintro e w5 ⟨_, rfl, ⟨sv, rfl, hvv⟩, hb⟩; dsimp only at hvv ⊢; obtain ⟨as5, cs5, rfl⟩ := hvv.slice; have hb8 := hb7.trans (hb.mono hb7.size)
                              refine hK.out _ _ (⟨(hb8.cell (p := ⟨w.heap.size, 0, none⟩) ls).trans s0, (hb8.cell (p := ⟨w.heap.size, 1, none⟩) ls).trans s1, (hb8.cell (p := ⟨w.heap.size, 2, none⟩) ls).trans s2, (hb8.cell (p := ⟨w.heap.size, 3, none⟩) ls).trans s3⟩) (fun hHeld => ?_)
                              clear hK K
                              try simp only [List.getElem_toArray, List.getElem_cons_zero, List.getElem_cons_succ, Act.put, List.setIfInBounds_toArray, List.set_cons_zero, List.set_cons_succ]
                              refine tH 5 (h := ?_)
                              try simp only [List.getElem_toArray, List.getElem_cons_zero, List.getElem_cons_succ, Act.put, List.setIfInBounds_toArray, List.set_cons_zero, List.set_cons_succ]
                              refine tH 6 (h := ?_)
                              try simp only [List.getElem_toArray, List.getElem_cons_zero, List.getElem_cons_succ, Act.put, List.setIfInBounds_toArray, List.set_cons_zero, List.set_cons_succ]
                              refine tH 7 (h := ?_)
                              try simp only [List.getElem_toArray, List.getElem_cons_zero, List.getElem_cons_succ, Act.put, List.setIfInBounds_toArray, List.set_cons_zero, List.set_cons_succ]
                              have hg8 := blk_below hb (lt_of_blk hg7) hg7
                              have hv8 : Vec w5 (fun b => wv.heap.size ≤ b ∧ b ≠ wv.heap.size) 1 encS (.slice as5 pr.vals.length cs5) pr.vals := hvv.move (Nat.le_refl _) fun b hb' hs => ⟨rfl, by have hs' : W8.heap.size ≤ b := hs; exact ⟨by omega, by omega⟩⟩
                              have hxb : wv.heap.size ≤ wv.heap.size := Nat.le_refl _
                              obtain ⟨xb, hxe⟩ : ∃ xb, wv.heap.size = xb := ⟨_, rfl⟩
                              rw [hxe] at hg8
                              have hv8' : Vec w5 (fun b => wv.heap.size ≤ b ∧ b ≠ xb) 1 encS (.slice as5 pr.vals.length cs5) pr.vals := by rw [← hxe]; exact hv8
                              clear hv8
                              have hv8 := hv8'
                              have hxb : wv.heap.size ≤ xb := by omega
                              clear hv8'
                              clear hvv hb hg7 hb7 z7 bA
                            all_goals
                              have f0 := frozen_of_row _ _ 0 _ _ hg8; have f1 := frozen_of_row _ _ 1 _ _ hg8; have f2 := frozen_of_row _ _ 2 _ _ hg8
                              obtain ⟨z0, z1, z2⟩ := cells3 hg8
                              have lx8 := lt_of_blk hg8
                              first | rw [hxe] | skip
                              refine wpAnyH_ready (rs := [9]) (by kernel_rfl) (by simp) ?_
                              refine AllReadyH.cons rfl (fun K hK => ?_) AllReadyH.nil
                              go_simp
                              skip
                              refine hK.out _ _ (⟨(cell_far (by show w.heap.size ≠ xb; omega)).trans ((cell_far (by show w.heap.size ≠ xb; omega)).trans ((cell_far (by show w.heap.size ≠ xb; omega)).trans hHeld.1)), (cell_far (by show w.heap.size ≠ xb; omega)).trans ((cell_far (by show w.heap.size ≠ xb; omega)).trans ((cell_far (by show w.heap.size ≠ xb; omega)).trans hHeld.2.1)), (cell_far (by show w.heap.size ≠ xb; omega)).trans ((cell_far (by show w.heap.size ≠ xb; omega)).trans ((cell_far (by show w.heap.size ≠ xb; omega)).trans hHeld.2.2.1)), (cell_far (by show w.heap.size ≠ xb; omega)).trans ((cell_far (by show w.heap.size ≠ xb; omega)).trans ((cell_far (by show w.heap.size ≠ xb; omega)).trans hHeld.2.2.2))⟩) (fun hHeld => ?_)
                              clear hK K
                              try simp only [List.getElem_toArray, List.getElem_cons_zero, List.getElem_cons_succ, Act.put, List.setIfInBounds_toArray, List.set_cons_zero, List.set_cons_succ]
                              refine tH 10 (h := ?_)
                              try simp only [List.getElem_toArray, List.getElem_cons_zero, List.getElem_cons_succ, Act.put, List.setIfInBounds_toArray, List.set_cons_zero, List.set_cons_succ]
                              refine wpAnyH_done (by kernel_rfl) ?_ _
                              refine NoPanic.normal ?_
                              go_wp2_with fail
                              go_meet
                              refine ⟨xb, _, rfl, rfl, blk_set (i := 2) (v := .slice as5 pr.vals.length cs5) (blk_set (i := 1) (v := .int .i64 pr.ver) (blk_set (i := 0) (v := .int .i64 pr.id) hg8)), ?_, ((hb8.setCell (p := ⟨xb, 0, none⟩) hxb _).setCell (p := ⟨xb, 1, none⟩) hxb _).setCell (p := ⟨xb, 2, none⟩) hxb _⟩
                              refine hv8.move (by simp [World.setCell]) fun b _ hs => ⟨?_, hs.1⟩
                              exact ((heap_setCell_other _ _ _ _ (by show b ≠ xb; exact hs.2)).trans (heap_setCell_other _ _ _ _ (by show b ≠ xb; exact hs.2))).trans (heap_setCell_other _ _ _ _ (by show b ≠ xb; exact hs.2))
                          case rest =>
                            obtain ⟨wz, hwz⟩ : ∃ u, u = wc := ⟨_, rfl⟩
                            subst hwz
                            obtain ⟨xb, sv, rfl, rfl, gx, hvv, b5⟩ := hcut
                            obtain ⟨as5, cs5, rfl⟩ := hvv.slice
                            have HBz := Lib.hid (HBv.out.trans (b5.mono HBv.out.size)); have HIz := Lib.hid (HIv.out.below b5); have Hbz := Lib.hid (Hbv.out.trans (b5.mono Hbv.out.size))
                            have hvz : wv.heap.size ≤ wz.heap.size := b5.size
                            have hWz := HIv.out.own.2.size
                            have HGX := Lib.hid gx
                            have hoff : ∀ g, (Value.slice av C.length cv).ownBlock = some g → g < wv.heap.size := fun g hg => by
                              rcases HIv.out.own.1.2 with ⟨e, _⟩ | ⟨g', cap', cur, e, _, hh, _⟩
                              · rw [e] at hg; cases hg
                              · rw [e] at hg
                                have : g' = g := by simpa [Value.ownBlock] using hg
                                rw [← this]; exact lt_of_blk hh
                            have HVV := Lib.hid (hvv.move (w' := wz) (S' := fun b => w1.heap.size ≤ b ∧ some b ≠ (Value.slice av C.length cv).ownBlock) (Nat.le_refl _) fun b _ hs => ⟨rfl, by have hs' : wv.heap.size ≤ b := hs; omega, fun e => by have hs' : wv.heap.size ≤ b := hs; have := hoff b e.symm; omega⟩)
                            clear gx hvv b5 hoff bD s0 s1 s2 s3
                            by_cases hpe : pe = 0
                            · subst hpe
                              have hP := HP6.out
                              rw [if_pos rfl] at hP
                              by_cases h64 : C.length = 64
                              · have d64 : ((C.length : Int) == 64) = true := by rw [h64]; rfl
                                rw [if_pos (show (C.map pR).length = 64 by rw [List.length_map]; exact h64)] at hP
                                have hfin := HPost.out _ _ _ (show P = (C.map pR, k, 1) from hP) HIz.out HBz.out
                                have HFin := Lib.hid hfin
                                clear hP hfin h64
                                go_wp2_with fail
                                go_ret3
                                exact HFin.out
                              · have d64 : ((C.length : Int) == 64) = false := beq_eq_false_iff_ne.2 (by omega)
                                rw [if_neg (show ¬ (C.map pR).length = 64 by rw [List.length_map]; exact h64)] at hP
                                have HP7 := Lib.hid hP
                                clear hP HP6
                                obtain ⟨x0, x1, x2⟩ := cells3 HGX.out
                                have lx := lt_of_blk HGX.out
                                obtain ⟨bn, hbn⟩ : ∃ bn, notB (lastId (C.map pR)) pr.id = bn := ⟨_, rfl⟩
                                have hP := HP7.out
                                simp only [hbn] at hP
                                have HP8 := Lib.hid hP
                                have HBn := Lib.hid hbn
                                have bD : Below wz.heap.size wz wz.drew := (Below.refl _ _).drew
                                clear hP HP7 hbn
                                go_wp2_with fail
                                go_cut [143] (fun s143 wx => s143 = .bool bn ∧ Below wz.heap.size wz wx)
                                case first =>
                                  by_cases hC0 : C.length = 0
                                  · have d0 : decide ((0 : Int) < (C.length : Int)) = false := decide_eq_false (by omega)
                                    have d0' : decide (0 < C.length) = false := decide_eq_false (by omega)
                                    have hb : bn = false := by
                                      rw [← HBn.out, List.length_eq_zero_iff.1 hC0]; rfl
                                    subst hb
                                    clear hC0
                                    refine wp_region_noPanic ?_
                                    refine wp_region_held_drew (S := (fun w' => True)) (by kernel_rfl) (trivial) (fun hHeld => ?_)
                                    refine tH 0 (h := ?_)
                                    try simp only [List.getElem_toArray, List.getElem_cons_zero, List.getElem_cons_succ, Act.put, List.setIfInBounds_toArray, List.set_cons_zero, List.set_cons_succ]
                                    refine tH 1 (h := ?_)
                                    try simp only [List.getElem_toArray, List.getElem_cons_zero, List.getElem_cons_succ, Act.put, List.setIfInBounds_toArray, List.set_cons_zero, List.set_cons_succ]
                                    refine tH 2 (h := ?_)
                                    try simp only [List.getElem_toArray, List.getElem_cons_zero, List.getElem_cons_succ, Act.put, List.setIfInBounds_toArray, List.set_cons_zero, List.set_cons_succ]
                                    refine tH 3 (h := ?_)
                                    try simp only [List.getElem_toArray, List.getElem_cons_zero, List.getElem_cons_succ, Act.put, List.setIfInBounds_toArray, List.set_cons_zero, List.set_cons_succ]
                                    refine sH 4 (h := ?_)
                                    try simp only [List.getElem_toArray, List.getElem_cons_zero, List.getElem_cons_succ, Act.put, List.setIfInBounds_toArray, List.set_cons_zero, List.set_cons_succ]
                                    refine sH 5 (h := ?_)
                                    try simp only [List.getElem_toArray, List.getElem_cons_zero, List.getElem_cons_succ, Act.put, List.setIfInBounds_toArray, List.set_cons_zero, List.set_cons_succ]
                                    refine sH 6 (h := ?_)
                                    try simp only [List.getElem_toArray, List.getElem_cons_zero, List.getElem_cons_succ, Act.put, List.setIfInBounds_toArray, List.set_cons_zero, List.set_cons_succ]
                                    refine sH 7 (h := ?_)
                                    try simp only [List.getElem_toArray, List.getElem_cons_zero, List.getElem_cons_succ, Act.put, List.setIfInBounds_toArray, List.set_cons_zero, List.set_cons_succ]
                                    refine sH 8 (h := ?_)
                                    try simp only [List.getElem_toArray, List.getElem_cons_zero, List.getElem_cons_succ, Act.put, List.setIfInBounds_toArray, List.set_cons_zero, List.set_cons_succ]
                                    refine sH 9 (h := ?_)
                                    try simp only [List.getElem_toArray, List.getElem_cons_zero, List.getElem_cons_succ, Act.put, List.setIfInBounds_toArray, List.set_cons_zero, List.set_cons_succ]
                                    refine sH 10 (h := ?_)
                                    try simp only [List.getElem_toArray, List.getElem_cons_zero, List.getElem_cons_succ, Act.put, List.setIfInBounds_toArray, List.set_cons_zero, List.set_cons_succ]
                                    refine sH 11 (h := ?_)
                                    try simp only [List.getElem_toArray, List.getElem_cons_zero, List.getElem_cons_succ, Act.put, List.setIfInBounds_toArray, List.set_cons_zero, List.set_cons_succ]
                                    refine sH 12 (h := ?_)
                                    try simp only [List.getElem_toArray, List.getElem_cons_zero, List.getElem_cons_succ, Act.put, List.setIfInBounds_toArray, List.set_cons_zero, List.set_cons_succ]
                                    refine sH 13 (h := ?_)
                                    try simp only [List.getElem_toArray, List.getElem_cons_zero, List.getElem_cons_succ, Act.put, List.setIfInBounds_toArray, List.set_cons_zero, List.set_cons_succ]
                                    refine tH 14 (h := ?_)
                                    try simp only [List.getElem_toArray, List.getElem_cons_zero, List.getElem_cons_succ, Act.put, List.setIfInBounds_toArray, List.set_cons_zero, List.set_cons_succ]
                                    refine wpAnyH_done (by kernel_rfl) ?_ _
                                    refine NoPanic.normal ?_
                                    go_wp2_with fail
                                    go_meet
                                    exact ⟨rfl, bD⟩
                                  · have d0 : decide ((0 : Int) < (C.length : Int)) = true := decide_eq_true (by omega)
                                    have d0' : decide (0 < C.length) = true := decide_eq_true (by omega)
                                    obtain ⟨l1, hl1⟩ : ∃ l1, C.length - 1 = l1 := ⟨_, rfl⟩
                                    have hlC : l1 < C.length := by omega
                                    obtain ⟨y, hy⟩ : ∃ y, C[l1] = y := ⟨_, rfl⟩
                                    obtain ⟨b, off, ea, lb, gy⟩ := (OwnV.vec (size := 3) (enc := encRV) (fun _ => rfl) HIz.out.own).get l1 hlC
                                    rw [hy] at gy
                                    have y0 := gy 0 _ rfl
                                    rw [Nat.add_zero] at y0
                                    subst ea
                                    have hlast : lastId (C.map pR) = some y.id := by
                                      unfold lastId
                                      rw [List.getLast?_map, List.getLast?_eq_getElem?, hl1, List.getElem?_eq_getElem hlC, hy]; rfl
                                    have hwl : IntKind.i64.wrap ((C.length : Int) - 1) = (l1 : Int) := by rw [IntKind.wrap_i64]; omega
                                    have hlI : (l1 : Int) < (C.length : Int) := by omega
                                    have dle : decide (pr.id ≤ y.id) = bn := by rw [← HBn.out, hlast]; rfl
                                    clear hl1 hy gy hlast hC0
                                    refine wp_region_noPanic ?_
                                    refine wp_region_held_drew (S := (fun w' => w'.cell? ⟨b, off + l1 * 3, none⟩ = some (.int .i64 y.id) ∧ w'.cell? ⟨xb, 0, none⟩ = some (.int .i64 pr.id))) (by kernel_rfl) (⟨y0, x0⟩) (fun hHeld => ?_)
                                    refine tH 0 (h := ?_)
                                    try simp only [List.getElem_toArray, List.getElem_cons_zero, List.getElem_cons_succ, Act.put, List.setIfInBounds_toArray, List.set_cons_zero, List.set_cons_succ]
                                    refine tH 1 (h := ?_)
                                    try simp only [List.getElem_toArray, List.getElem_cons_zero, List.getElem_cons_succ, Act.put, List.setIfInBounds_toArray, List.set_cons_zero, List.set_cons_succ]
                                    refine tH 2 (h := ?_)
                                    try simp only [List.getElem_toArray, List.getElem_cons_zero, List.getElem_cons_succ, Act.put, List.setIfInBounds_toArray, List.set_cons_zero, List.set_cons_succ]
                                    refine tH 3 (h := ?_)
                                    try simp only [List.getElem_toArray, List.getElem_cons_zero, List.getElem_cons_succ, Act.put, List.setIfInBounds_toArray, List.set_cons_zero, List.set_cons_succ]
                                    refine tH 4 (h := ?_)
                                    try simp only [List.getElem_toArray, List.getElem_cons_zero, List.getElem_cons_succ, Act.put, List.setIfInBounds_toArray, List.set_cons_zero, List.set_cons_succ]
                                    refine tH 5 (h := ?_)
                                    try simp only [List.getElem_toArray, List.getElem_cons_zero, List.getElem_cons_succ, Act.put, List.setIfInBounds_toArray, List.set_cons_zero, List.set_cons_succ]
                                    refine tH 6 (h := ?_)
                                    try simp only [List.getElem_toArray, List.getElem_cons_zero, List.getElem_cons_succ, Act.put, List.setIfInBounds_toArray, List.set_cons_zero, List.set_cons_succ]
                                    refine tH 7 (h := ?_)
                                    try simp only [List.getElem_toArray, List.getElem_cons_zero, List.getElem_cons_succ, Act.put, List.setIfInBounds_toArray, List.set_cons_zero, List.set_cons_succ]
                                    refine tH 8 (h := ?_)
                                    try simp only [List.getElem_toArray, List.getElem_cons_zero, List.getElem_cons_succ, Act.put, List.setIfInBounds_toArray, List.set_cons_zero, List.set_cons_succ]
                                    refine tH 9 (h := ?_)
                                    try simp only [List.getElem_toArray, List.getElem_cons_zero, List.getElem_cons_succ, Act.put, List.setIfInBounds_toArray, List.set_cons_zero, List.set_cons_succ]
                                    refine tH 10 (h := ?_)
                                    try simp only [List.getElem_toArray, List.getElem_cons_zero, List.getElem_cons_succ, Act.put, List.setIfInBounds_toArray, List.set_cons_zero, List.set_cons_succ]
                                    refine tH 11 (h := ?_)
                                    try simp only [List.getElem_toArray, List.getElem_cons_zero, List.getElem_cons_succ, Act.put, List.setIfInBounds_toArray, List.set_cons_zero, List.set_cons_succ]
                                    refine tH 12 (h := ?_)
                                    try simp only [List.getElem_toArray, List.getElem_cons_zero, List.getElem_cons_succ, Act.put, List.setIfInBounds_toArray, List.set_cons_zero, List.set_cons_succ]
                                    refine tH 13 (h := ?_)
                                    try simp only [List.getElem_toArray, List.getElem_cons_zero, List.getElem_cons_succ, Act.put, List.setIfInBounds_toArray, List.set_cons_zero, List.set_cons_succ]
                                    refine tH 14 (h := ?_)
                                    try simp only [List.getElem_toArray, List.getElem_cons_zero, List.getElem_cons_succ, Act.put, List.setIfInBounds_toArray, List.set_cons_zero, List.set_cons_succ]
                                    refine wpAnyH_done (by kernel_rfl) ?_ _
                                    refine NoPanic.normal ?_
                                    go_wp2_with fail
                                    go_meet
                                    exact ⟨rfl, bD⟩
                                case rest =>
                                  obtain ⟨wy, hwy⟩ : ∃ u, u = wc := ⟨_, rfl⟩
                                  subst hwy
                                  obtain ⟨rfl, b6⟩ := hcut
                                  have HBy := Lib.hid (HBz.out.trans (b6.mono HBz.out.size)); have HIy := Lib.hid (HIz.out.below b6); have Hby := Lib.hid (Hbz.out.trans (b6.mono Hbz.out.size))
                                  have HVy := Lib.hid (HVV.out.below b6); have HGy := Lib.hid (blk_below b6 lx HGX.out)
                                  clear b6 bD x0 x1 x2 lx
                                  cases bn with
                                  | true =>
                                    have hP := HP8.out
                                    rw [if_pos rfl] at hP
                                    have hfin := HPost.out _ _ _ (show P = (C.map pR, k, 12) from hP) HIy.out HBy.out
                                    have HFin := Lib.hid hfin
                                    clear hP hfin
                                    go_wp2_with fail
                                    go_ret3
                                    exact HFin.out
                                  | false =>
                                    have hP := HP8.out
                                    rw [if_neg (show ¬ false = true from Bool.false_ne_true), if_pos rfl] at hP
                                    have hP2 : P = readA s t.length ((C ++ [(⟨pr.id, pr.ver, as5, pr.vals.length, cs5, pr.vals⟩ : RV)]).map pR) (k + r + 1) (rowsL (t.drop (k + r + 1))) := by
                                      rw [hP, List.map_append]
                                      rw [show t.length - (t.drop (k + r + 1)).length = k + r + 1 by rw [List.length_drop]; omega]
                                      rfl
                                    have HP9 := Lib.hid hP2
                                    obtain ⟨x0, x1, x2⟩ := cells3 HGy.out
                                    have lx := lt_of_blk HGy.out
                                    have bA := (Below.refl wy.heap.size wy).alloc (Nat.le_refl _) (.cells #[.int .i64 pr.id, .int .i64 pr.ver, .slice as5 pr.vals.length cs5] 48)
                                    have HIA := Lib.hid (HIy.out.below bA); have HVA := Lib.hid (HVy.out.below bA); have HbA := Lib.hid bA
                                    have HRd := Lib.hid (show Reads (wy.alloc (.cells #[.int .i64 pr.id, .int .i64 pr.ver, .slice as5 pr.vals.length cs5] 48)) 3 (.slice (some ⟨wy.heap.size, 0, none⟩) 1 1) ([(⟨pr.id, pr.ver, as5, pr.vals.length, cs5, pr.vals⟩ : RV)]).length ([(⟨pr.id, pr.ver, as5, pr.vals.length, cs5, pr.vals⟩ : RV)].flatMap encRV) from reads_block (size := 3) (xs := [(⟨pr.id, pr.ver, as5, pr.vals.length, cs5, pr.vals⟩ : RV)].flatMap encRV) (t := 48) (fr := (0, 0)) (blk_new rfl) rfl)
                                    have hcn : C.length + ([(⟨pr.id, pr.ver, as5, pr.vals.length, cs5, pr.vals⟩ : RV)]).length ≤ 1000000000 := by simp; omega
                                    have hw1' : IntKind.i64.wrap ((k : Int) + (r : Int) + 1) = (k : Int) + (r : Int) + 1 := by rw [IntKind.wrap_i64]; omega
                                    have hkr : k + r + 1 ≤ t.length := by omega
                                    have hC65 : C.length + 1 ≤ 64 := by omega
                                    clear hP hP2 HP8 bA
                                    go_wp2_with (at_builtin; refine wpList_append_at rfl (.tmp 146) (.tmp 148) 58 rfl 48 (.agg #[.int .i64 0, .int .i64 0, .slice none 0 0]) 3 40 encRV (fun _ => rfl) one_encRV Tryz.underlying58 infoR rfl (by decide) (by decide) (w0 := w1) (v := .slice av C.length cv) (A := C) (B := [(⟨pr.id, pr.ver, as5, pr.vals.length, cs5, pr.vals⟩ : RV)]) rfl HIA.out.own rfl HRd.out hcn ?_; intro v2 w2 ho2 hk2 hz2 hat2)
                                    go_roundw
                                    case rel =>
                                      have hadd := RIn.add HIA.out ho2 hk2 hz2 hat2 HVA.out
                                      exact ⟨_, k + r + 1, by go_num, hkr, by simp; omega, hadd, ho2.2, HP9⟩
                                    case measure => simp [intOf]; omega
                            · have hne : (pe != 0) = true := by simpa using hpe
                              have hP := HP6.out
                              rw [if_neg hpe, if_neg (show ¬ (noRec, pe).2 = 0 from hpe)] at hP
                              have hfin := HPost.out _ _ _ (show P = (C.map pR, k, pe) from hP) HIz.out HBz.out
                              have HFin := Lib.hid hfin
                              clear hP hfin hpe
                              go_wp2_with fail
                              go_ret3
                              exact HFin.out
                        · have dz1 : (B != Z) = true := by simpa using hBZ
                          have hP := HP4.out
                          rw [if_neg hBZ] at hP
                          have hfin := HPost.out _ _ _ (show P = (C.map pR, k, 16) from hP) HIv.out HBv.out
                          have HFin := Lib.hid hfin
                          rw [dz1]
                          clear hP hfin hBZ dz1
                          go_wp2_with fail
                          go_ret3
                          exact HFin.out
                  · have dc9 : ((c9.toNat : Int) != 9) = true := by
                      rw [bne_iff_ne]
                      intro hh
                      exact h9 (UInt8.toNat_inj.1 (by show c9.toNat = 9; omega))
                    have hgr := drop_grow hirow (by rw [HC9.out]; exact h9) HNt.out
                    have HGr := Lib.hid hgr
                    have hw2 : IntKind.i64.wrap ((i : Int) - 1) = (i : Int) - 1 := by rw [IntKind.wrap_i64]; omega
                    clear hgr h9
                    go_wp2_with fail
                    go_roundw
                    case rel => exact ⟨i, _, rfl, rfl, by omega, HGr, trivial⟩
                    case measure => first | (simp [intOf]; done) | (simp [intOf]; omega)
        · have dc : ((c.toNat : Int) != 10) = true := by
            rw [bne_iff_ne]
            intro hh
            exact h10 (UInt8.toNat_inj.1 (by show c.toNat = 10; omega))
          have hgr := take_grow hke hlt (by rw [HCc.out]; exact h10) HNo.out
          have HGr := Lib.hid hgr
          clear hgr h10
          go_wp2_with fail
          go_roundw
          case rel => exact ⟨e + 1, by go_num, by omega, by omega, HGr, trivial⟩
          case measure => simp [intOf]; omega
      · have hq : decide ((e : Int) < (t.length : Int)) = false := by simp; omega
        obtain rfl : e = t.length := by omega
        have hno := HNo.out
        rw [List.take_of_length_le (by rw [List.length_drop]; omega)] at hno
        have hP := HE.out
        rw [rows_over hno, readA] at hP
        have HP2 := Lib.hid hP
        have dne : ((t.length : Int) == (t.length : Int)) = true := by simp
        clear hno hP
        go_wp2_with fail
        go_ret3
        exact HPost.out _ _ _ HP2.out HIn.out HBu.out
end
section
open Go.RowKit Cal
theorem parseR_ok {s : SchemaL} {t : List UInt8} (h : (parseR s t).2 = 0) : checkI s (parseR s t).1 = 0 := by
  unfold parseR parseW at h ⊢
  split at h
  · next h1 =>
    rw [if_pos h1]
    split at h
    · next h2 =>
      rw [if_pos h2]
      split at h
      · next h3 => rw [if_pos h3]; exact h3
      · next h3 => exact absurd h h3
    · cases h
  · cases h
theorem takeN_ok {s : SchemaL} {l : List RecL} {row : List UInt8} (h : (takeN s l row).2 = 0) : checkI s (takeN s l row).1 = 0 := by
  unfold takeN at h ⊢
  split at h
  · cases h
  · next a b h1 =>
    split at h
    · next h2 =>
      rw [if_pos h2]
      split at h
      · next h3 =>
        rw [if_pos h3]
        split at h
        · next h4 =>
          rw [if_pos h4]
          split at h
          · cases h
          · next h5 =>
            rw [if_neg h5]
            split at h
            · cases h
            · next h6 => rw [if_neg h6]; exact parseR_ok h4
        · next h4 => exact absurd h h4
      · cases h
    · cases h
theorem readA_ok {s : SchemaL} {n : Nat} : ∀ (q : List (List UInt8 × List UInt8)) (l : List RecL) (k : Nat), (∀ r ∈ l, checkI s r = 0) → l.length ≤ 64 → (∀ r ∈ (readA s n l k q).1, checkI s r = 0) ∧ (readA s n l k q).1.length ≤ 64
  | [], l, k, h, hl => ⟨h, hl⟩
  | (row, rest) :: q, l, k, h, hl => by
    rw [readA]
    split
    · split
      · exact ⟨h, hl⟩
      · exact ⟨h, hl⟩
    · split
      · next h0 =>
        have hlt : l.length < 64 := Decidable.byContradiction fun hn => takeN_full hn hl h0
        refine readA_ok q _ _ (fun r hr => ?_) (by simp; omega)
        rcases List.mem_append.1 hr with h1 | h1
        · exact h r h1
        · simp at h1; subst h1; exact takeN_ok h0
      · exact ⟨h, hl⟩
theorem freadN_ok {s : SchemaL} (t : List UInt8) : (∀ r ∈ (freadN s t).1, checkI s r = 0) ∧ (freadN s t).1.length ≤ 64 := by
  unfold freadN
  split
  · exact readA_ok _ [] 0 (by simp) (by simp)
  · exact ⟨by simp, by simp⟩
theorem set_cut {T : List UInt8} {k : Nat} (hk : k < T.length) (c : UInt8) : T.set k c = T.take k ++ c :: T.drop (k + 1) := by
  rw [List.set_eq_take_append_cons_drop, if_pos hk]
theorem xor_byte (x y : Int) : ∃ c : UInt8, bits .xor .u8 x y = (c.toNat : Int) := by
  have h : 0 ≤ bits .xor .u8 x y ∧ bits .xor .u8 x y < 256 := by
    unfold bits
    rw [IntKind.wrap_u8]
    constructor <;> omega
  refine ⟨UInt8.ofNat (bits .xor .u8 x y).toNat, ?_⟩
  rw [UInt8.toNat_ofNat']
  omega
end
section
set_option maxRecDepth 100000
open Go.RowKit
attribute [local go_sem] toList_mk mk_size
/-- block k holds the bytes l, which may be written -/
def BytesAt (w : World) (k : Nat) (l : List UInt8) : Prop := ∃ cs fr, w.heap[k]? = some (.cells cs 5 fr) ∧ l.length ≤ fr.1 ∧ ∀ i (h : i < l.length), cs[i]? = some (byteV l[i])
theorem BytesAt.below {w w' : World} {k : Nat} {l : List UInt8} (h : BytesAt w k l) (hb : Below w.heap.size w w') : BytesAt w' k l := by
  obtain ⟨cs, fr, h1, h2⟩ := h
  exact ⟨cs, fr, blk_below hb (lt_of_blk h1) h1, h2⟩
theorem BytesAt.cell {w : World} {k : Nat} {l : List UInt8} (h : BytesAt w k l) (i : Nat) (hi : i < l.length) : w.cell? ⟨k, i, none⟩ = some (byteV l[i]) ∧ w.frozen? ⟨k, i, none⟩ = false := by
  obtain ⟨cs, fr, h1, h2, h3⟩ := h
  refine ⟨by rw [cell_of_row _ _ _ _ _ _ h1]; exact h3 i hi, ?_⟩
  unfold World.frozen?
  simp only [h1]
  simp; omega
theorem BytesAt.set {w : World} {k : Nat} {l : List UInt8} (h : BytesAt w k l) (i : Nat) (x : UInt8) : BytesAt (w.setCell ⟨k, i, none⟩ (byteV x)) k (l.set i x) := by
  obtain ⟨cs, fr, h1, h2, h3⟩ := h
  refine ⟨_, fr, blk_set h1, by simpa using h2, fun j hj => ?_⟩
  have hj' : j < l.length := by simpa using hj
  have := h3 j hj'
  have hlt : j < cs.size := (Array.getElem?_eq_some_iff.1 this).1
  rw [Array.getElem?_setIfInBounds]
  by_cases e : i = j
  · subst e; rw [if_pos rfl, if_pos hlt]; simp
  · rw [if_neg e, this, List.getElem_set_ne e]
theorem bytes_conv (w : World) (l : List UInt8) : ∃ cap wN, (convert 9 55 (strV l)).run Tryz.prog w = .ok (.slice (some ⟨w.heap.size, 0, none⟩) l.length cap) wN ∧ BytesAt wN w.heap.size l ∧ Below w.heap.size w wN ∧ w.heap.size < wN.heap.size := by
  have h := run_bytes_of_string (P := Tryz.prog) w 9 55 5 ⟨l.toArray⟩ Tryz.underlying9 Tryz.underlying55 Tryz.underlying5
  refine ⟨_, _, h, ⟨_, _, blk_new rfl, ?_, ?_⟩, (Below.refl _ _).drew.alloc (Nat.le_refl _) _, by simp⟩
  · simp [bytesRow, ByteArray.size]
  · intro i hi
    unfold bytesRow
    rw [Array.getElem?_append_left (by simpa using hi)]
    simp [hi, byteV]
theorem bytes_back (w : World) (k : Nat) (l : List UInt8) (cap : Nat) (h : BytesAt w k l) : (convert 55 9 (.slice (some ⟨k, 0, none⟩) l.length cap)).run Tryz.prog w = .ok (strV l) w :=
  run_convert_bytes_back (P := Tryz.prog) w _ _ _ ⟨k, 0, none⟩ cap l Tryz.underlying55 Tryz.underlying5 Tryz.underlying9 (fun j hj => by
    rw [add_plain, Nat.zero_add]; exact (h.cell j hj).1)
end
section
open Go
theorem handed_shaped {H : Type} {enc : TypeId × Value → H} {a : Assume} {C : Checked} {os : Os} {f : FuncId} {fn : Func} {s : ChangeSpec} {conds : List PathCond} {apart fresh handsOn again : Bool} {X : World → Array Value → Prop}
    (hX : ∀ (w w' : World) (args : Array Value), w.heap = w'.heap → X w args → X w' args)
    (own : ownKnob C.prog.godebug = none) (started : os.Started) (noInit : C.prog.inits.idxOf? f = none) (hfn : C.prog.funcs[f]? = some fn)
    (witness : ∃ (w : World) (tape : Tape) (i : Input), w.os = os ∧ (w.forCall tape i).Shaped C.prog ∧ i.vars = [] ∧ Input.okWide C.prog (w.forCall tape i) .any w.heap.size f i ∧
      ((s.pre enc C.prog fn conds apart (w.forCall tape i).memory i.args ∧ X (w.forCall tape i).memory i.args) ∧ sizedMet enc C.prog fn (OpenSpec.ofChange s) apart (w.forCall tape i).memory i.args) ∧ a.holds C.prog (lone (Frame.enter C.prog f i.args .normal) [] (w.forCall tape i)))
    (contract : ∀ (W : World) (base : Nat) (args : Array Value) (ds gs : List (DataW H)) (before : List MemPlace),
      (∀ (j : Nat) t v, fn.params[j]? = some t → args[j]? = some v → Value.okWide C.prog W .any base t v) →
      DataW.Whole enc C.prog fn.params.toList s.vars apart W args.toList ds gs before →
      X W args → W.ShapedOpen C.prog →
      Calls C.prog f args W fun e W' => ∃ v, e = .returned v ∧ s.post enc C.prog fn apart fresh handsOn again W args v W') :
    ReturnsInHanded a C os f .any (fun w args => (s.pre enc C.prog fn conds apart w args ∧ X w args) ∧ sizedMet enc C.prog fn (OpenSpec.ofChange s) apart w args) (s.post enc C.prog fn apart fresh handsOn again) := by
  refine returnsInHanded_of_calls own started noInit witness ?_
  intro w tape i _ hsh _ hok hpre hholds
  obtain ⟨_, _, _, fn', hfn', _, _, _, _, hval⟩ := hok
  obtain rfl : fn' = fn := Option.some.inj (hfn'.symm.trans hfn)
  obtain ⟨⟨⟨ds, gs, before, hw, hc⟩, hx⟩, hz⟩ := hpre
  refine (contract (w.forCall tape i) w.heap.size i.args ds gs before hval (DataW.Whole.of_heap (w' := w.forCall tape i) (by rfl) hw) (hX _ _ _ (by rfl) hx) hsh).mono fun e W' ⟨v, he, hp⟩ => ?_
  subst he
  exact ChangeSpec.post_blind hp
end
section
set_option maxRecDepth 100000
open Go Go.RowKit
theorem laid_at {P : Program} {w : World} : ∀ {l : List (String × DataW Unit)} {ps : List MemPlace}, DataW.LaidVars P w l ps → ∀ (i : Nat) (n : String) (d : DataW Unit), l[i]? = some (n, d) → ∃ g t cs fuel p, P.globalNamed n = some g ∧ (P.globals[g]?).map (·.type) = some t ∧ w.var? P n = some cs ∧ DataW.trod (fun _ => ()) P w 0 (fun _ => true) false fuel t cs.toList = some (d, p)
  | [], ps, h, i, n, d, hi => by simp at hi
  | (m, e) :: r, ps, h, 0, n, d, hi => by
    obtain ⟨g, t, cs, fuel, p, q, h1, h2, h3, h4, _, _⟩ := h
    simp at hi
    obtain ⟨rfl, rfl⟩ := hi
    exact ⟨g, t, cs, fuel, p, h1, h2, h3, h4⟩
  | (m, e) :: r, ps, h, i + 1, n, d, hi => by
    obtain ⟨g, t, cs, fuel, p, q, _, _, _, _, h5, _⟩ := h
    exact laid_at h5 i n d (by simpa using hi)
theorem tab_give {P : Program} {w : World} {l : List (String × DataW Unit)} {ps : List MemPlace} (h : DataW.LaidVars P w l ps) {i : Nat} {name : String} {k : IntKind} {zs : List Int} (hi : l[i]? = some (name, Lib.tabData k zs)) {g : Nat} {t e : TypeId} {n : Nat}
    (hg : P.globalNamed name = some g) (hty : (P.globals[g]?).map (·.type) = some t) (ht : P.underlying t = some (.array n e)) (he : P.underlying e = some (.int k)) (hce : P.cellsOf e = 1) (hct : P.cellsOf t = n) : Lib.TabIs P w name k zs := by
  obtain ⟨g', t', cs, fuel, p, hg', ht', hvar, hd⟩ := laid_at h i _ _ hi
  obtain rfl := Option.some.inj (hg.symm.trans hg')
  obtain rfl := Option.some.inj (hty.symm.trans ht')
  unfold Lib.TabIs
  rw [hvar, ← Lib.cells_of_tab ht he hce hct hd]
theorem iface_give {P : Program} {w : World} {l : List (String × DataW Unit)} {ps : List MemPlace} (h : DataW.LaidVars P w l ps) {i : Nat} {name nm : String} {d : DataW Unit} (hi : l[i]? = some (name, .iface nm d)) {g : Nat} {t : TypeId} {ms : Array (String × TypeId)}
    (hg : P.globalNamed name = some g) (hty : (P.globals[g]?).map (·.type) = some t) (ht : P.underlying t = some (.interface ms)) : IfaceAt w g := by
  obtain ⟨g', t', cs, fuel, p, hg', ht', hvar, hd⟩ := laid_at h i _ _ hi
  obtain rfl := Option.some.inj (hg.symm.trans hg')
  obtain rfl := Option.some.inj (hty.symm.trans ht')
  obtain ⟨_, u, v, hcs, _, _⟩ := iface_of_trod ht hd
  have := World.var?_cell hg hvar 0
  refine ⟨.iface u v, ?_, .inr ⟨u, v, rfl⟩⟩
  rw [this, ← Array.getElem?_toList, hcs]; rfl
theorem vars_give {l : List (String × DataW Unit)} {W : World} (hsh : W.ShapedOpen Tryz.prog) (hl : laidMetH Tryz.prog l W) (hp : (l.all fun x => x.2.handleName?.isNone) = true) (i : Nat) (hi : l[i]? = some ("internal/strconv.uint64pow10", Lib.tabData .u64 Lib.pow10Tab))
    (j : Nat) {n1 : String} {d1 : DataW Unit} (hj : l[j]? = some ("strconv.ErrSyntax", .iface n1 d1)) (k : Nat) {n2 : String} {d2 : DataW Unit} (hk : l[k]? = some ("strconv.ErrRange", .iface n2 d2)) : VarsAt W := by
  rw [MakeChecks.laidMetH_plain _ _ _ hp] at hl
  obtain ⟨ps, h, _, _⟩ := hl
  refine ⟨tab_give h hi (g := 3) (by kernel_rfl) (by kernel_rfl) Tryz.underlying253 (by kernel_rfl) (by kernel_rfl) (by kernel_rfl), ?_, ?_, Tryz.laysM145.s1_3 W hsh⟩
  · exact iface_give h hj (by kernel_rfl) (by kernel_rfl) Tryz.underlying97
  · exact iface_give h hk (by kernel_rfl) (by kernel_rfl) Tryz.underlying97
def dbTab : List Int := [0, 1, 56, 2, 57, 49, 28, 3, 61, 58, 42, 50, 38, 29, 17, 4, 62, 47, 59, 36, 45, 43, 51, 22, 53, 39, 33, 30, 24, 18, 12, 5, 63, 55, 48, 27, 60, 41, 37, 16, 46, 35, 44, 21, 52, 32, 23, 11, 54, 26, 40, 15, 34, 20, 31, 10, 25, 14, 19, 9, 13, 8, 7, 6]
theorem db_give {l : List (String × DataW Unit)} {W : World} (hl : laidMetH Tryz.prog l W) (hp : (l.all fun x => x.2.handleName?.isNone) = true) (i : Nat) (hi : l[i]? = some ("math/bits.deBruijn64tab", Lib.tabData .u8 dbTab)) : DbAt W := by
  rw [MakeChecks.laidMetH_plain _ _ _ hp] at hl
  obtain ⟨ps, h, _, _⟩ := hl
  have ht : Lib.TabIs Tryz.prog W "math/bits.deBruijn64tab" .u8 dbTab := tab_give h hi (g := 7) (by kernel_rfl) (by kernel_rfl) Tryz.underlying288 (by kernel_rfl) (by kernel_rfl) (by kernel_rfl)
  have := ht.cell (g := 7) (by kernel_rfl) 15 (by decide)
  exact this
end
end Go.Proofs.YtoeplomdcannlaaGreatDoor
