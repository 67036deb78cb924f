/- Parts of one proof: MakeV, MakeX, MakeY, MakeZ, MakeZZ, Drawn, Split, SchP, IterL, SchQ. -/
import Derived.Test.YtfgoiojmbphmnaaGreatDoorPartSchemaBack5
import Derived.Deep.AppendLies
import Derived.Deep.RegionLaw
import Derived.Lib.Split
import Derived.Shelf.SlIter.Nil
import Derived.Shelf.SortM.Plain
import Derived.Shelf.SortM.SortNone
import Derived.Ground.GgzProg
import Derived.Ground.SlgmProg
import Derived.Test.YtfgoiojmbphmnaaGreatDoorProg
import Derived.Shelf.SlIter.Collect
section
/- recordlinkmake: Dress: a folded text in another dress. -/
set_option linter.unusedSimpArgs false
set_option linter.unusedVariables false
set_option maxRecDepth 100000
namespace Go.Proofs.YtfgoiojmbphmnaaGreatDoor
open Go.RowKit
attribute [local go_sem] toList_mk mk_size str_append
def DressPost (D : Nat) (l : List UInt8) (w : World) (e : Ending) (w' : World) : Prop := ∃ o : List UInt8, e = .returned (strV o) ∧ DressOf l o ∧ Moved D w w'
/-- texts that have just been laid into a new block, to pick from -/
theorem pick_new (D : Nat) (w w0 : World) (L : List (List UInt8)) (n : Nat) (hn : n = L.length) (h1 : 1 ≤ n) (h2 : n ≤ 1000) (m : Moved D w0 w) :
    Calls Tryz.prog 14 #[.pointer (some ⟨D, 0, none⟩), .slice (some ⟨w.heap.size, 0, none⟩) n n] (w.alloc (.cells (L.flatMap encS).toArray 9)) (PickPost D L w0) := by
  have hD := m.deck.lt
  have m2 := m.alloc (.cells (L.flatMap encS).toArray 9)
  exact (pick_any D _ _ L m2.deck (blockVec (k := 1) (enc := encS) (L := L) (S := fun b => b ≠ D) (A := w.heap.size) (fun _ => rfl) (blk_new rfl) (by omega) n hn) (by omega) (by omega)).mono fun _ _ ⟨l, he, hl, hm⟩ => ⟨l, he, hl, m2.trans hm⟩
theorem dressB_len {x : List UInt8} (h : x ∈ dressB) : x.length ≤ 2 := by
  simp [dressB] at h
  rcases h with rfl | rfl | rfl | rfl | rfl | rfl <;> simp
theorem dressC_len {x : List UInt8} (h : x ∈ dressC) : x.length ≤ 2 := by
  simp [dressC] at h
  rcases h with rfl | rfl | rfl <;> simp
/-- how far a text has been dressed -/
def DressMid (D : Nat) (w : World) (l : List UInt8) (k : Nat) (ol : List UInt8) (wr : World) : Prop := DressTo (l.take k) ol ∧ Moved D w wr
set_option maxHeartbeats 4000000 in
theorem dress_any (D : Nat) (s : ByteArray) (w : World) (h : DeckAt w D) (hs : ∀ b ∈ s.data.toList, okB b = true) (hn : s.size ≤ 1000) :
    Calls Tryz.prog 23 #[.pointer (some ⟨D, 0, none⟩), .string s] w (DressPost D s.data.toList w) := by
  have hl : s.data.toList.length = s.size := by simp
  have HL := Lib.hid hl; clear hl
  have HS := Lib.hid hs; clear hs
  have M0 := Lib.hid (Moved.start h); clear h
  go_enter Tryz.func23, Tryz.ntmps23
  go_wp2_with fail
  refine (pick_new D _ w dressA 4 rfl (by omega) (by omega) M0.out).mono ?_
  rintro e w1 ⟨o, rfl, ho, mv⟩
  have K0 := Lib.hid (show DressMid D w s.data.toList 0 o w1 from ⟨DressTo.start ho, mv⟩)
  clear ho mv
  go_wp2_with fail
  go_loopw [5, 6] (fun v i wr => ∃ (k : Nat) (ol : List UInt8), v = strV ol ∧ i = .int .i64 k ∧ k ≤ s.size ∧ DressMid D w s.data.toList k ol wr) (fun _ i _ => s.size - (intOf i).toNat)
  case atStart => exact ⟨0, o, rfl, rfl, by omega, K0.out⟩
  case round =>
    obtain ⟨k, ol, rfl, rfl, hk, hm⟩ := hrel
    have HT := Lib.hid hm.1; have M1 := Lib.hid hm.2
    have hol : ol.length ≤ 2001 := by have := hm.1.len; have := List.length_take_le k s.data.toList; omega
    clear hm K0
    by_cases hlt : k < s.size
    · have hq : decide ((k : Int) < s.size) = true := by simp; omega
      have ht := Lib.hid (take_snoc' s k hlt)
      have hok := Lib.hid (HS.out s[k] (by rw [show s[k] = s.data.toList[k]'(by rw [HL.out]; exact hlt) from rfl]; exact List.getElem_mem _))
      have hb := s[k].toNat_lt
      by_cases hsp : s[k] = 32
      · have e1 : ((s[k].toNat : Int) == 32) = true := by rw [hsp]; rfl
        have HSp := Lib.hid hsp; clear hsp
        go_wp2_with fail
        refine (pick_new D _ w dressB 6 rfl (by omega) (by omega) M1.out).mono ?_
        rintro e w2 ⟨x, rfl, hx, mv⟩
        have hxl := dressB_len hx
        have K1 := Lib.hid (show DressMid D w s.data.toList (k + 1) (ol ++ x) w2 from ⟨by rw [ht.out, HSp.out]; exact HT.out.space hx, mv⟩)
        clear hx mv e1
        go_wp2_with fail
        go_roundw
        case rel => exact ⟨k + 1, ol ++ x, rfl, by go_num, by omega, K1.out⟩
        case measure => simp [intOf]; omega
      · have e1 : ((s[k].toNat : Int) == 32) = false := by
          simp only [beq_eq_false_iff_ne, ne_eq]; intro e; apply hsp; rw [← UInt8.toNat_inj]; simp; omega
        clear hsp
        go_upto_block 2 with (fail)
        go_cut [5, 7] (fun s5 s7 wx => ∃ x : UInt8, s5 = strV ol ∧ s7 = .int .u8 x.toNat ∧ okByte x = true ∧ plainB x = [s[k]] ∧ Moved D w wx)
        case first =>
          cases hlo : isLow s[k]
          · have hc := hlo
            rw [low_iff, decide_eq_false_iff_not] at hc
            have hc' : (97 ≤ (s[k].toNat : Int) ∧ 122 < (s[k].toNat : Int)) ∨ (s[k].toNat : Int) < 97 := by omega
            clear hc hlo
            rcases hc' with ⟨g1, g2⟩ | g1
            all_goals
              go_wp2_with fail
              go_meet
              exact ⟨s[k], rfl, rfl, (plain_self hok.out).1, (plain_self hok.out).2, M1.out⟩
          · have hup := Lib.hid (plain_up hlo)
            have hc := hlo
            rw [low_iff, decide_eq_true_iff] at hc
            obtain ⟨g1, g2⟩ := hc
            have e2 : ((s[k] - 32).toNat : Int) = (s[k].toNat : Int) - 32 := by
              rw [UInt8.toNat_sub_of_le _ _ (by rw [UInt8.le_iff_toNat_le]; show 32 ≤ _; omega)]
              show ((s[k].toNat - 32 : Nat) : Int) = _
              omega
            have HE := Lib.hid e2; clear hlo e2
            go_wp2_with fail
            refine (one_any D _ 3 M1.out.deck (by omega) (by omega)).mono ?_
            rintro e w2 ⟨u, rfl, mv⟩
            have M2 := Lib.hid (M1.out.trans mv); clear mv
            cases u
            · go_wp2_with fail
              go_meet
              exact ⟨s[k], rfl, rfl, (plain_self hok.out).1, (plain_self hok.out).2, M2.out⟩
            · go_wp2_with fail
              go_meet
              exact ⟨s[k] - 32, rfl, by rw [HE.out], hup.out.1, hup.out.2, M2.out⟩
        case rest =>
          obtain ⟨x, rfl, rfl, hx1, hx2, m3⟩ := hcut
          have HX1 := Lib.hid hx1; have HX2 := Lib.hid hx2; have M3 := Lib.hid m3
          clear hx1 hx2 m3
          have hcv := one_byte wc x
          go_wp2_with fail
          refine (one_any D _ 20 (M3.out.alloc _).deck (by omega) (by omega)).mono ?_
          rintro e w2 ⟨u, rfl, mv⟩
          have M4 := Lib.hid ((M3.out.alloc _).trans mv)
          have K1 := Lib.hid (show DressMid D w s.data.toList (k + 1) (ol ++ [x]) w2 from ⟨by rw [ht.out]; exact HT.out.byte HX1.out HX2.out, M4.out⟩)
          have K2 := Lib.hid (show DressMid D w s.data.toList (k + 1) (ol ++ [x] ++ [39]) w2 from ⟨by rw [ht.out]; exact HT.out.mark HX1.out HX2.out, M4.out⟩)
          clear mv hcv
          cases u
          · go_wp2_with fail
            go_roundw
            case rel => exact ⟨k + 1, ol ++ [x], rfl, by go_num, by omega, K1.out⟩
            case measure => simp [intOf]; omega
          · by_cases h2 : k + 1 < s.size
            · have e2 : decide ((k : Int) + 1 < s.size) = true := by simp; omega
              by_cases hs2 : s[k + 1] = 32
              · have e3 : ((s[k + 1].toNat : Int) != 32) = false := by rw [hs2]; rfl
                clear hs2
                go_wp2_with fail
                go_roundw
                case rel => exact ⟨k + 1, ol ++ [x], rfl, by go_num, by omega, K1.out⟩
                case measure => simp [intOf]; omega
              · have e3 : ((s[k + 1].toNat : Int) != 32) = true := by
                  simp only [bne_iff_ne, ne_eq]; intro e; apply hs2; rw [← UInt8.toNat_inj]; simp; omega
                clear hs2
                go_wp2_with fail
                go_roundw
                case rel => exact ⟨k + 1, ol ++ [x] ++ [39], by simp, by go_num, by omega, K2.out⟩
                case measure => simp [intOf]; omega
            · have e2 : decide ((k : Int) + 1 < s.size) = false := by simp; omega
              go_wp2_with fail
              go_roundw
              case rel => exact ⟨k + 1, ol ++ [x], rfl, by go_num, by omega, K1.out⟩
              case measure => simp [intOf]; omega
    · have hq : decide ((k : Int) < s.size) = false := by simp; omega
      rw [List.take_of_length_le (by rw [HL.out]; omega)] at HT
      go_wp2_with fail
      refine (pick_new D _ w dressC 4 rfl (by omega) (by omega) M1.out).mono ?_
      rintro e w2 ⟨x, rfl, hx, mv⟩
      have hxl := dressC_len hx
      have M2 := Lib.hid mv; have HO := Lib.hid (HT.out.done hx)
      clear mv hx
      go_wp2_with fail
      go_ret
      exact ⟨ol ++ x, rfl, HO.out, M2.out⟩
end Go.Proofs.YtfgoiojmbphmnaaGreatDoor
end
section
/- recordlinkmake: Raw, Text: some text of bounded length. -/
set_option linter.unusedSimpArgs false
set_option linter.unusedVariables false
set_option maxRecDepth 100000
namespace Go.Proofs.YtfgoiojmbphmnaaGreatDoor
open Go.RowKit
attribute [local go_sem] toList_mk mk_size str_append
def codesD : List (List UInt8) := [[83, 87, 49, 32, 49, 65, 65], [56, 48, 48, 49], [56, 48, 32, 48, 50], [97, 45, 49]]
def addrsD : List (List UInt8) := [[49, 50, 32, 77, 97, 105, 110, 32, 83, 116, 46], [77, 97, 105, 110, 32, 83, 116, 32, 49, 50], [80, 97, 114, 107, 32, 82, 100, 32, 51, 98], [77, 97, 105, 110, 32, 83, 116, 114, 101, 101, 116], [48, 48, 55, 32, 80, 97, 114, 107, 32, 114, 100]]
def peopleD : List (List UInt8) := [[114, 111, 98, 101, 114, 116, 32, 115, 109, 105, 116, 104], [98, 111, 98, 32, 115, 109, 105, 116, 104], [114, 117, 112, 101, 114, 116], [97, 110, 110, 97, 32, 109, 105, 108, 108, 101, 114], [97, 110, 110], [111, 110, 101, 105, 108, 108], [109, 97, 114, 105, 97, 32, 118, 97, 110, 32, 115, 109, 105, 116, 104], [112, 101, 116, 101, 114]]
theorem pick_le {D N : Nat} {L : List (List UInt8)} {w w' : World} {e : Ending} (h : PickPost D L w e w') (hL : (L.all fun t => decide (t.length ≤ N)) = true) : SomeText D N w e w' := by
  obtain ⟨l, he, hl, hm⟩ := h
  exact ⟨l, he, by simpa using List.all_eq_true.1 hL l hl, hm⟩
theorem people_ok {x : List UInt8} (h : x ∈ peopleD) : (∀ b ∈ x, okB b = true) ∧ x.length ≤ 15 := by
  have : (peopleD.all fun t => t.all okB && decide (t.length ≤ 15)) = true := by decide
  have := List.all_eq_true.1 this x h
  rw [Bool.and_eq_true, List.all_eq_true, decide_eq_true_iff] at this
  exact this
theorem written_len (y m d f : Int) : (writtenL y m d f).length = 10 := by
  unfold writtenL
  split
  · simp [dg_len]
  · split <;> simp [dg_len]
set_option maxHeartbeats 4000000 in
theorem raw_deal (D : Nat) (k : Int) (w : World) (h : DeckAt w D) :
    Calls Tryz.prog 15 #[.pointer (some ⟨D, 0, none⟩), .int .i64 k] w (SomeText D 64 w) := by
  have M0 := Lib.hid (Moved.start h); clear h
  by_cases h2 : k = 2
  · subst h2
    go_enter Tryz.func15, Tryz.ntmps15
    go_wp2_with fail
    refine (one_any D _ 8 M0.out.deck (by omega) (by omega)).mono ?_
    rintro e w1 ⟨u, rfl, mv⟩
    have M1 := Lib.hid (M0.out.trans mv); clear mv
    cases u
    · go_wp2_with fail
      refine (next_any D _ 2 M1.out.deck (by omega) (by omega)).mono ?_
      rintro e w2 ⟨y, rfl, y0, y1, mv⟩
      have M2 := Lib.hid (M1.out.trans mv); clear mv
      go_wp2_with fail
      refine (next_any D _ 3 M2.out.deck (by omega) (by omega)).mono ?_
      rintro e w3 ⟨m, rfl, m0, m1, mv⟩
      have M3 := Lib.hid (M2.out.trans mv); clear mv
      go_wp2_with fail
      refine (next_any D _ 3 M3.out.deck (by omega) (by omega)).mono ?_
      rintro e w4 ⟨d, rfl, d0, d1, mv⟩
      have M4 := Lib.hid (M3.out.trans mv); clear mv
      go_wp2_with fail
      refine (next_any D _ 3 M4.out.deck (by omega) (by omega)).mono ?_
      rintro e w5 ⟨f, rfl, f0, f1, mv⟩
      have M5 := Lib.hid (M4.out.trans mv); clear mv
      go_wp2_with fail
      refine (written_any (1980 + y) (1 + m) (1 + d) f _ (by omega) (by omega)).mono ?_
      rintro e w6 ⟨rfl, hb⟩
      have M6 := Lib.hid (M5.out.below hb); clear hb
      go_wp2_with fail
      go_ret
      exact ⟨_, rfl, by rw [written_len]; omega, M6.out⟩
    · go_wp2_with fail
      go_ret
      exact ⟨[], rfl, by simp, M1.out⟩
  · have e2 : (k == 2) = false := by simpa using h2
    by_cases h3 : k = 3
    · subst h3
      clear h2 e2
      go_enter Tryz.func15, Tryz.ntmps15
      go_wp2_with fail
      refine (one_any D _ 8 M0.out.deck (by omega) (by omega)).mono ?_
      rintro e w1 ⟨u, rfl, mv⟩
      have M1 := Lib.hid (M0.out.trans mv); clear mv
      cases u
      · go_wp2_with fail
        refine (pick_new D _ w codesD 4 rfl (by omega) (by omega) M1.out).mono ?_
        intro e w2 hp
        obtain ⟨x, rfl, hx, mv⟩ := pick_le (N := 64) hp (by decide)
        have HX := Lib.hid hx; have M2 := Lib.hid mv
        clear hx mv hp
        go_wp2_with fail
        go_ret
        exact ⟨x, rfl, HX.out, M2.out⟩
      · go_wp2_with fail
        go_ret
        exact ⟨[], rfl, by simp, M1.out⟩
    · have e3 : (k == 3) = false := by simpa using h3
      by_cases h4 : k = 4
      · subst h4
        clear h2 e2 h3 e3
        go_enter Tryz.func15, Tryz.ntmps15
        go_wp2_with fail
        refine (one_any D _ 8 M0.out.deck (by omega) (by omega)).mono ?_
        rintro e w1 ⟨u, rfl, mv⟩
        have M1 := Lib.hid (M0.out.trans mv); clear mv
        cases u
        · go_wp2_with fail
          refine (pick_new D _ w addrsD 5 rfl (by omega) (by omega) M1.out).mono ?_
          intro e w2 hp
          obtain ⟨x, rfl, hx, mv⟩ := pick_le (N := 64) hp (by decide)
          have HX := Lib.hid hx; have M2 := Lib.hid mv
          clear hx mv hp
          go_wp2_with fail
          go_ret
          exact ⟨x, rfl, HX.out, M2.out⟩
        · go_wp2_with fail
          go_ret
          exact ⟨[], rfl, by simp, M1.out⟩
      · have e4 : (k == 4) = false := by simpa using h4
        clear h2 h3 h4
        go_enter Tryz.func15, Tryz.ntmps15
        go_wp2_with fail
        refine (one_any D _ 8 M0.out.deck (by omega) (by omega)).mono ?_
        rintro e w1 ⟨u, rfl, mv⟩
        have M1 := Lib.hid (M0.out.trans mv); clear mv
        cases u
        · go_wp2_with fail
          refine (pick_new D _ w peopleD 8 rfl (by omega) (by omega) M1.out).mono ?_
          rintro e w2 ⟨x, rfl, hx, mv⟩
          obtain ⟨p1, p2⟩ := people_ok hx
          have P1 := Lib.hid p1; have M2 := Lib.hid mv
          clear hx mv p1
          go_wp2_with fail
          refine (dress_any D ⟨x.toArray⟩ _ M2.out.deck (by simpa using P1.out) (by rw [mk_size]; omega)).mono ?_
          rintro e w3 ⟨o, rfl, ho, mv⟩
          have M3 := Lib.hid (M2.out.trans mv)
          have HO := Lib.hid (show o.length ≤ 64 by have := ho.len; simp at this; omega)
          clear mv ho
          go_wp2_with fail
          go_ret
          exact ⟨o, rfl, HO.out, M3.out⟩
        · go_wp2_with fail
          go_ret
          exact ⟨[], rfl, by simp, M1.out⟩
end Go.Proofs.YtfgoiojmbphmnaaGreatDoor
end
section
/- recordlinkmake: Text: some text of bounded length. -/
set_option linter.unusedSimpArgs false
set_option linter.unusedVariables false
set_option maxRecDepth 100000
namespace Go.Proofs.YtfgoiojmbphmnaaGreatDoor
open Go.RowKit
attribute [local go_sem] toList_mk mk_size str_append
def partA : List (List UInt8) := [[], [], [32], [45], [39]]
def partC : List (List UInt8) := [[32], [32], [46], [44, 32]]
def partB (a b : List UInt8) : List (List UInt8) := [a, b, [49, 50], [48, 48, 55], [51, 98], [77, 195, 188, 108, 108, 101, 114], [195, 134, 103, 105, 114], [195, 159], [79, 39, 78, 101, 105, 108, 108], [195, 151]]
def partD : List (List UInt8) := [[31], [127], [194, 160], [255], [10]]
theorem pick_partB {D : Nat} {a b : List UInt8} {w w' : World} {e : Ending} (h : PickPost D (partB a b) w e w') (ha : a.length ≤ 16) (hb : b.length ≤ 16) : SomeText D 16 w e w' := by
  obtain ⟨l, he, hl, hm⟩ := h
  refine ⟨l, he, ?_, hm⟩
  simp [partB] at hl
  rcases hl with rfl | rfl | rfl | rfl | rfl | rfl | rfl | rfl | rfl | rfl <;> simp_all
set_option maxHeartbeats 4000000 in
theorem text_deal (D : Nat) (w : World) (h : DeckAt w D) :
    Calls Tryz.prog 16 #[.pointer (some ⟨D, 0, none⟩)] w (SomeText D 200 w) := by
  have M0 := Lib.hid (Moved.start h); clear h
  go_enter Tryz.func16, Tryz.ntmps16
  go_wp2_with fail
  refine (next_any D _ 5 M0.out.deck (by omega) (by omega)).mono ?_
  rintro e w1 ⟨r, rfl, r0, r1, mv⟩
  obtain ⟨r, rfl⟩ := Int.eq_ofNat_of_zero_le r0
  have M1 := Lib.hid (M0.out.trans mv); clear mv
  go_wp2_with fail
  go_loopw [3, 4] (fun s i wr => ∃ (l : List UInt8) (k : Nat), s = strV l ∧ i = .int .i64 k ∧ l.length + 20 * k ≤ 80 ∧ Moved D w wr) (fun _ i _ => (intOf i).toNat)
  case atStart => exact ⟨[], r, rfl, rfl, by simp; omega, M1.out⟩
  case round =>
    obtain ⟨l, k, rfl, rfl, hlk, mv⟩ := hrel
    have MW := Lib.hid mv; clear mv M1
    by_cases hk : 0 < k
    · have hq : decide ((0 : Int) < k) = true := by simp; omega
      go_wp2_with fail
      refine (pick_new D _ w partA 5 rfl (by omega) (by omega) MW.out).mono ?_
      intro e w2 hp
      obtain ⟨x, rfl, hx, mv⟩ := pick_le (N := 1) hp (by decide)
      have M2 := Lib.hid mv; clear mv hp
      go_wp2_with fail
      refine (token_deal D _ M2.out.deck).mono ?_
      rintro e w3 ⟨a, rfl, ha, mv⟩
      have M3 := Lib.hid (M2.out.trans mv); clear mv
      go_wp2_with fail
      refine (token_deal D _ M3.out.deck).mono ?_
      rintro e w4 ⟨b, rfl, hb, mv⟩
      have M4 := Lib.hid (M3.out.trans mv); clear mv
      go_wp2_with fail
      refine (pick_new D _ w (partB a b) 10 rfl (by omega) (by omega) M4.out).mono ?_
      intro e w5 hp
      obtain ⟨y, rfl, hy, mv⟩ := pick_partB hp ha hb
      have M5 := Lib.hid mv; clear mv hp
      go_wp2_with fail
      refine (pick_new D _ w partC 4 rfl (by omega) (by omega) M5.out).mono ?_
      intro e w6 hp
      obtain ⟨z, rfl, hz, mv⟩ := pick_le (N := 2) hp (by decide)
      have M6 := Lib.hid mv; clear mv hp
      go_wp2_with fail
      go_roundw
      case rel => exact ⟨l ++ (x ++ y ++ z), k - 1, by simp, by congr 1; omega, by simp; omega, M6.out⟩
      case measure => simp [intOf]; omega
    · have hq : decide ((0 : Int) < k) = false := by simp; omega
      go_wp2_with fail
      refine (next_any D _ 12 MW.out.deck (by omega) (by omega)).mono ?_
      rintro e w2 ⟨q, rfl, q0, q1, mv⟩
      have M2 := Lib.hid (MW.out.trans mv); clear mv
      by_cases h0 : q = 0
      · subst h0
        go_wp2_with fail
        go_ret
        exact ⟨l ++ [195], rfl, by simp; omega, M2.out⟩
      · have e0 : (q == 0) = false := by simpa using h0
        by_cases h1 : q = 1
        · subst h1
          clear h0 e0
          go_wp2_with fail
          refine (pick_new D _ w partD 5 rfl (by omega) (by omega) M2.out).mono ?_
          intro e w3 hp
          obtain ⟨x, rfl, hx, mv⟩ := pick_le (N := 2) hp (by decide)
          have M3 := Lib.hid mv; clear mv hp
          go_wp2_with fail
          go_ret
          exact ⟨l ++ x, rfl, by simp; omega, M3.out⟩
        · have e1 : (q == 1) = false := by simpa using h1
          by_cases h2 : q = 2
          · subst h2
            clear h0 h1 e0 e1
            go_wp2_with fail
            go_loopw [3] (fun s wr => ∃ l : List UInt8, s = strV l ∧ l.length ≤ 90 ∧ wr = w2) (fun s _ => 100 - (match s with | .string b => b.size | _ => 0))
            case atStart => exact ⟨l, rfl, by omega, rfl⟩
            case round =>
              obtain ⟨m, rfl, hm, rfl⟩ := hrel
              by_cases hl : m.length < 64
              · have hq : decide ((m.length : Int) < 64) = true := by simp; omega
                go_wp2_with fail
                go_roundw
                case rel => exact ⟨m ++ [97], rfl, by simp; omega, by trivial⟩
                case measure => simp [mk_size]; omega
              · have hq : decide ((m.length : Int) < 64) = false := by simp; omega
                go_wp2_with fail
                go_ret
                exact ⟨m, rfl, by omega, M2.out⟩
          · have e2 : (q == 2) = false := by simpa using h2
            clear h0 h1 h2
            go_wp2_with fail
            go_ret
            exact ⟨l, rfl, by omega, M2.out⟩
end Go.Proofs.YtfgoiojmbphmnaaGreatDoor
end
section
/- recordlinkmake: Schema: some valid schema of one to four fields. -/
set_option linter.unusedSimpArgs false
set_option linter.unusedVariables false
set_option maxRecDepth 100000
namespace Go.Proofs.YtfgoiojmbphmnaaGreatDoor
open Go.RowKit
attribute [local go_sem] toList_mk mk_size str_append
theorem infoF : (Tryz.prog.info? 42).map (fun i => (i.zero, i.size, i.bytes)) = some (some (.agg #[.string ⟨#[]⟩, .int .i64 0]), 2, 24) := by kernel_rfl
/-- a schema that is dealt -/
structure SchemaD (s : SchemaL) : Prop where
  fields : FieldsD s.fields
  some : 1 ≤ s.fields.length
  rules : RulesD s.rules
theorem SchemaD.check {s : SchemaL} (h : SchemaD s) : checkS s = 0 := h.fields.check h.some h.rules.check
def nil4 : Array Value := #[.slice none 0 0, .slice none 0 0, .slice none 0 0, .slice none 0 0]
/-- while a schema is dealt: the result's block, the schema's, the names', the row of the fields -/
structure SMid (D : Nat) (w : World) (y : Nat) (vt vn vs : Value) (r : RulesL) (vf : Value) (F : List F2) (wr : World) : Prop where
  z : wr.heap[w.heap.size]? = some (.cells nil4 33 (0, 0))
  s : wr.heap[y]? = some (.cells #[vf, vt, vn, vs] 33 (0, 0))
  n : RowB wr (y + 1) namesD
  own : wr.ownsRow (y + 2) 42 2 vf F.length (F.flatMap encF)
  rules : RulesAt wr (fun b => w.heap.size < b ∧ b < y) vt vn vs r
  fields : FieldsD F
  moved : Moved D w wr
  lt : w.heap.size < y
theorem own_same {w w' : World} {B e size n : Nat} {v : Value} {xs : List Value} (h : w.ownsRow B e size v n xs) (hs : ∀ g, B ≤ g → g < w.heap.size → w'.heap[g]? = w.heap[g]?) : w'.ownsRow B e size v n xs := by
  refine ⟨h.1, ?_⟩
  rcases h.2 with h0 | ⟨g, cap, cur, hv, hg, hh, rest⟩
  · exact .inl h0
  · exact .inr ⟨g, cap, cur, hv, hg, (hs g hg (lt_of_blk hh)).trans hh, rest⟩
theorem own_slice {w : World} {B e size n : Nat} {v : Value} {xs : List Value} (h : w.ownsRow B e size v n xs) : ∃ a c, v = .slice a n c := by
  rcases h.2 with ⟨rfl, rfl⟩ | ⟨g, cap, cur, hv, _⟩
  · exact ⟨none, 0, rfl⟩
  · exact ⟨_, _, hv⟩
theorem own_far {w : World} {B e size n : Nat} {v : Value} {xs : List Value} (h : w.ownsRow B e size v n xs) {k : Nat} (hk : k < B) : some k ≠ v.ownBlock := by
  rcases h.2 with ⟨rfl, rfl⟩ | ⟨g, cap, cur, rfl, hg, _⟩
  · simp [Value.ownBlock]
  · simp [Value.ownBlock]; omega
theorem SMid.gone {D : Nat} {w : World} {y : Nat} {vt vn vs : Value} {r : RulesL} {vf : Value} {F : List F2} {wr wd : World} (h : SMid D w y vt vn vs r vf F wr) (hD : D < w.heap.size) (m : Moved D wr wd) : SMid D w y vt vn vs r vf F wd := by
  have hy := h.lt
  have hb : ∀ b, b < wr.heap.size → w.heap.size ≤ b → wd.heap[b]? = wr.heap[b]? := fun b hb hS => m.grown.block b hb (by simp; omega)
  refine ⟨m.blk (by omega) h.z, m.blk (by omega) h.s, m.blk (by omega) h.n, own_same h.own fun g h1 h2 => hb g h2 (by omega), ?_, h.fields, h.moved.trans m, h.lt⟩
  exact ⟨h.rules.1.move m.size fun b hb' hS => ⟨hb b hb' (by have := hS.1; omega), hS⟩, h.rules.2.1.move m.size fun b hb' hS => ⟨hb b hb' (by have := hS.1; omega), hS⟩, h.rules.2.2.move m.size fun b hb' hS => ⟨hb b hb' (by have := hS.1; omega), hS⟩⟩
theorem SMid.step {D : Nat} {w : World} {y : Nat} {vt vn vs : Value} {r : RulesL} {vf v : Value} {F : List F2} {x : F2} {wr wA w2 : World} (h : SMid D w y vt vn vs r vf F wr) (hD : D < w.heap.size) (hb : Below wr.heap.size wr wA) (hg : wA.grownBy w2 vf.ownBlock)
    (hown : w2.ownsRow (y + 2) 42 2 v (F.length + 1) (F.flatMap encF ++ encF x)) (hx : FieldsD (F ++ [x])) : SMid D w y vt vn vs r v (F ++ [x]) (w2.setCell ⟨y, 0, none⟩ v) := by
  have hy := h.lt
  have zn : y + 1 < wr.heap.size := lt_of_blk h.n
  have hz := hb.size; have hz2 := hg.size
  have k1 : ∀ k, k < y + 2 → w2.heap[k]? = wr.heap[k]? := fun k hk => (hg.block k (by omega) (own_far h.own hk)).trans (hb.block k (by omega))
  have k2 : ∀ k, k < y + 2 → k ≠ y → (w2.setCell ⟨y, 0, none⟩ v).heap[k]? = wr.heap[k]? := fun k hk hne => (heap_setCell_other _ _ _ _ hne).trans (k1 k hk)
  have hs : (w2.setCell ⟨y, 0, none⟩ v).heap.size = w2.heap.size := by simp [World.setCell]
  refine ⟨(k2 _ (by omega) (by omega)).trans h.z, blk_set (i := 0) (v := v) ((k1 y (by omega)).trans h.s), (k2 _ (by omega) (by omega)).trans h.n, ?_, ?_, hx, ?_, hy⟩
  · rw [List.length_append, List.flatMap_append, show [x].flatMap encF = encF x by simp]
    exact own_same hown fun g h1 h2 => heap_setCell_other _ _ _ _ (by simp; omega)
  · have mv : ∀ b, b < wr.heap.size → (w.heap.size < b ∧ b < y) → (w2.setCell ⟨y, 0, none⟩ v).heap[b]? = wr.heap[b]? ∧ (w.heap.size < b ∧ b < y) := fun b _ hS => ⟨k2 b (by omega) (by omega), hS⟩
    exact ⟨h.rules.1.move (by omega) mv, h.rules.2.1.move (by omega) mv, h.rules.2.2.move (by omega) mv⟩
  · have m := h.moved
    refine ⟨⟨hg.os.trans (hb.os.trans m.grown.os), hg.tape.trans (hb.tape.trans m.grown.tape), hg.output.trans (hb.output.trans m.grown.output), by have := m.size; omega, fun k hk hr => ?_⟩, m.deck.same fun k hk => k2 k (by omega) (by omega), m.lt⟩
    exact (k2 k (by omega) (by omega)).trans (m.grown.block k hk hr)
def SchemaPost (D : Nat) (w : World) (e : Ending) (w' : World) : Prop := ∃ vf vt vn vs s, e = .returned (.agg #[vf, vt, vn, vs]) ∧ SchemaAt w' (fun b => w.heap.size ≤ b) vf vt vn vs s ∧ SchemaD s ∧ Moved D w w'
end Go.Proofs.YtfgoiojmbphmnaaGreatDoor
end
section
/- recordlinkmake: Schema: the walk. -/
set_option linter.unusedSimpArgs false
set_option linter.unusedVariables false
set_option maxRecDepth 100000
namespace Go.Proofs.YtfgoiojmbphmnaaGreatDoor
open Go.RowKit
attribute [local go_sem] toList_mk mk_size str_append
def kindsD : List Int := [1, 1, 2, 4, 3]
theorem kindsD_bd (k : Nat) (hk : k < 5) : 1 ≤ kindsD.getD k 0 ∧ kindsD.getD k 0 ≤ 4 := by
  have : ∀ j : Fin 5, 1 ≤ kindsD.getD j 0 ∧ kindsD.getD j 0 ≤ 4 := by decide
  exact this ⟨k, hk⟩
theorem kinds_cell {w : World} {b : Nat} (h : w.heap[b]? = some (.cells (kindsD.map (Value.int .i64)).toArray 3 (0, 0))) (k : Nat) (hk : k < 5) : w.cell? ⟨b, k, none⟩ = some (.int .i64 (kindsD.getD k 0)) := by
  rw [cell_of_row _ _ _ _ _ _ h, List.getElem?_toArray, List.getElem?_map]
  have : k < kindsD.length := hk
  rw [List.getD, List.getElem?_eq_getElem this]; rfl
set_option maxHeartbeats 8000000 in
theorem schema_deal (D : Nat) (w : World) (h : DeckAt w D) :
    Calls Tryz.prog 11 #[.pointer (some ⟨D, 0, none⟩)] w (SchemaPost D w) := by
  have zD := h.lt
  have M0 := Lib.hid (Moved.start h); clear h
  go_enter Tryz.func11, Tryz.ntmps11
  go_wp2_with fail
  refine (rules_deal D _ (M0.out.alloc _).deck).mono ?_
  rintro e w1 ⟨vt, vn, vs, r, rfl, hr, hd, mv⟩
  obtain ⟨at', ct, rfl⟩ := hr.1.slice
  obtain ⟨an, cn, rfl⟩ := hr.2.1.slice
  obtain ⟨as', cs, rfl⟩ := hr.2.2.slice
  have zw : w.heap.size < w1.heap.size := by have := mv.size; simp at this; omega
  have X1 := Lib.hid (show w1.heap[w.heap.size]? = some (.cells nil4 33 (0, 0)) from mv.blk (by omega) (blk_new rfl))
  have M1 := Lib.hid ((M0.out.alloc _).trans mv)
  have HR := Lib.hid hr; have HRD := Lib.hid hd
  clear hr hd mv
  go_wp2_with fail
  have K0 := Lib.hid (show SMid D w w1.heap.size (.slice at' r.titles.length ct) (.slice an r.nicks.length cn) (.slice as' r.streets.length cs) r (.slice none 0 0) [] ((w1.alloc (.cells #[.slice none 0 0, .slice at' r.titles.length ct, .slice an r.nicks.length cn, .slice as' r.streets.length cs] 33)).alloc (.cells (namesD.flatMap encS).toArray 9)) from
    ⟨blk_old (blk_old X1.out), blk_old (blk_new rfl), blk_new (by simp), ⟨rfl, .inl ⟨rfl, rfl⟩⟩, by
      have hb : Below w1.heap.size w1 ((w1.alloc (.cells #[.slice none 0 0, .slice at' r.titles.length ct, .slice an r.nicks.length cn, .slice as' r.streets.length cs] 33)).alloc (.cells (namesD.flatMap encS).toArray 9)) := ((Below.refl _ _).alloc (Nat.le_refl _) _).alloc (by simp) _
      have mvv : ∀ b, b < w1.heap.size → (w.alloc (.cells nil4 33)).heap.size ≤ b → _ ∧ (w.heap.size < b ∧ b < w1.heap.size) := fun b h1 h2 => ⟨hb.block b h1, by simp at h2; omega, h1⟩
      exact ⟨HR.out.1.move hb.size mvv, HR.out.2.1.move hb.size mvv, HR.out.2.2.move hb.size mvv⟩, FieldsD.nil, (M1.out.alloc _).alloc _, zw⟩)
  refine (next_any D _ 4 K0.out.moved.deck (by omega) (by omega)).mono ?_
  rintro e w2 ⟨q, rfl, q0, q1, mv⟩
  obtain ⟨q, rfl⟩ := Int.eq_ofNat_of_zero_le q0
  have K1 := Lib.hid (K0.out.gone zD mv)
  clear mv K0 X1 M1 HR M0
  go_wp2_with fail
  go_loopw [6] (fun i wr => ∃ (k : Nat) (F : List F2) (vf : Value), i = .int .i64 k ∧ k ≤ 1 + q ∧ F.length = k ∧ SMid D w w1.heap.size (.slice at' r.titles.length ct) (.slice an r.nicks.length cn) (.slice as' r.streets.length cs) r vf F wr) (fun i _ => 1 + q - (intOf i).toNat)
  case atStart => exact ⟨0, [], _, rfl, by omega, rfl, K1.out⟩
  case round =>
    obtain ⟨k, F, vf, rfl, hk, hF, hm⟩ := hrel
    have HF := Lib.hid hF; have KM := Lib.hid hm
    clear hm hF K1
    by_cases hlt : k < 1 + q
    · have hq : decide ((k : Int) < 1 + q) = true := by simp; omega
      have hix : (k : Int) < 5 := by omega
      have hc : (wr.alloc (.cells #[.int .i64 1, .int .i64 1, .int .i64 2, .int .i64 4, .int .i64 3] 3)).cell? ⟨wr.heap.size, k, none⟩ = _ := kinds_cell (w := wr.alloc (.cells (kindsD.map (Value.int .i64)).toArray 3)) (b := wr.heap.size) (blk_new rfl) k (by omega)
      obtain ⟨kb1, kb2⟩ := kindsD_bd k (by omega)
      obtain ⟨kd, hkd⟩ : ∃ kd, kindsD.getD k 0 = kd := ⟨_, rfl⟩
      rw [hkd] at hc kb1 kb2
      clear hkd
      go_wp2_with fail
      refine (one_any D _ 4 (KM.out.moved.alloc _).deck (by omega) (by omega)).mono ?_
      rintro e w3 ⟨u, rfl, mv⟩
      have KN := Lib.hid (KM.out.gone zD (((Moved.start KM.out.moved.deck).alloc _).trans mv))
      clear hc mv
      go_upto_if 25 with (fail)
      go_cut [7] (fun s7 wx => ∃ kd : Int, s7 = .int .i64 kd ∧ 1 ≤ kd ∧ kd ≤ 4 ∧ SMid D w w1.heap.size (.slice at' r.titles.length ct) (.slice an r.nicks.length cn) (.slice as' r.streets.length cs) r vf F wx)
      case first =>
        cases u
        · go_wp2_with fail
          go_meet
          exact ⟨kd, rfl, kb1, kb2, KN.out⟩
        · go_wp2_with fail
          refine (next_any D _ 4 KN.out.moved.deck (by omega) (by omega)).mono ?_
          rintro e w4 ⟨p, rfl, p0, p1, mv⟩
          have KO := Lib.hid (KN.out.gone zD mv)
          clear mv
          go_wp2_with fail
          go_meet
          exact ⟨1 + p, rfl, by omega, by omega, KO.out⟩
      case rest =>
        obtain ⟨kx, rfl, kx1, kx2, hm⟩ := hcut
        have KX := Lib.hid hm
        clear hm KM KN kb1 kb2
        obtain ⟨av, cv, hav⟩ := own_slice KX.out.own
        rw [HF.out] at hav
        subst hav
        have cY := (cells4 KX.out.s).1
        have cN := KX.out.n.cell k (by show k < 5; omega)
        have zY := lt_of_blk KX.out.n
        have zY0 : w1.heap.size < wc.heap.size := by omega
        obtain ⟨nm, hnm⟩ : ∃ nm, namesD.getD k [] = nm := ⟨_, rfl⟩
        rw [hnm] at cN
        have HNM := Lib.hid hnm; clear hnm
        go_wp2_with fail
        have hown := own_below KX.out.own (((Below.refl _ _).alloc (Nat.le_refl _) (.cells #[strV nm, .int .i64 kx] 42)).drew)
        have hnews : ∀ j u, [strV nm, Value.int .i64 kx][j]? = some u → ((wc.alloc (.cells #[strV nm, .int .i64 kx] 42)).drew).cell? ((⟨wc.heap.size, 0, none⟩ : Addr).add j) = some u := fun j u hu => by
          rw [add_plain, World.cell?_drew, cell_of_row _ _ _ _ _ _ (heap_alloc_new wc _), Nat.zero_add]; simpa using hu
        have hone : ∀ u ∈ [strV nm, Value.int .i64 kx], u.oneCell' = true := by intro u hu; simp at hu; rcases hu with rfl | rfl <;> rfl
        obtain ⟨i0, hi, hz0, hz1, hz2⟩ := info_parts infoF
        have hbA := ((Below.refl _ wc).alloc (Nat.le_refl _) (.cells #[strV nm, .int .i64 kx] 42)).drew
        have HBA := Lib.hid hbA; have HOwn := Lib.hid hown; have HNews := Lib.hid hnews; have HOne := Lib.hid hone; have HI := Lib.hid hi; have HZ0 := Lib.hid hz0; have HZ1 := Lib.hid hz1; have HZ2 := Lib.hid hz2
        have fY := (frozen_of_row _ _ _ _ _ KX.out.s : wc.frozen? ⟨w1.heap.size, 0, none⟩ = false)
        clear hbA hown hnews hone hi hz0 hz1 hz2
        rw [HF.out] at HOwn
        go_region_law (((refine step_append_lies _ rfl (.tmp 30) (.tmp 37) 27 (by rfl) (w1.heap.size + 2) 42 i0 (.agg #[.string ⟨#[]⟩, .int .i64 0]) 2 24 Tryz.underlying27 HI.out HZ0.out HZ1.out HZ2.out rfl (by decide) (.slice av k cv) k (F.flatMap encF) (by rfl) HOwn.out ⟨wc.heap.size, 0, none⟩ 1 1 [strV nm, .int .i64 kx] (by rfl) rfl HNews.out HOne.out (by omega) (by unfold maxLen; omega) (by omega) (by simp; omega) (wc.heap.size + 1) (by simp) ?_); intro g cap w5 hown5 hg5 hat5 hlt5; have cY5 := (hg5.cell_far ⟨w1.heap.size, 0, none⟩ (by simp; omega) (own_far HOwn.out (by show w1.heap.size < _; omega))).trans ((HBA.out.cell (p := ⟨w1.heap.size, 0, none⟩) (by show w1.heap.size < _; omega)).trans cY); have fY5 := (hg5.frozen_far ⟨w1.heap.size, 0, none⟩ (by simp; omega) (own_far HOwn.out (by show w1.heap.size < _; omega))).trans ((HBA.out.frozen (p := ⟨w1.heap.size, 0, none⟩) (by show w1.heap.size < _; omega)).trans fY)))
        all_goals
          have hfd := KX.out.fields.snoc (by rw [HF.out]; omega) kx1 kx2
          rw [HF.out, HNM.out] at hfd
          have hown6 := hown5
          rw [show F.flatMap encF ++ [strV nm, .int .i64 kx] = F.flatMap encF ++ encF (nm, kx) from rfl, ← HF.out] at hown6
          have KS := Lib.hid (KX.out.step (x := (nm, kx)) zD HBA.out hg5 hown6 hfd)
          rw [HF.out] at KS
          clear hfd hown6 hown5 hg5 hat5 cY5 fY5
          go_wp2_with fail
          go_roundw
          case rel => exact ⟨k + 1, F ++ [(nm, kx)], _, by go_num, by omega, by rw [List.length_append, HF.out]; rfl, KS.out⟩
          case measure => simp [intOf]; omega
    · have hq : decide ((k : Int) < 1 + q) = false := by simp; omega
      obtain ⟨av, cv, hav⟩ := own_slice KM.out.own
      subst hav
      have HZ := Lib.hid KM.out.z
      have HM := Lib.hid KM.out.moved
      have HR := Lib.hid KM.out.rules
      have HO := Lib.hid KM.out.own
      have HFd := Lib.hid KM.out.fields
      obtain ⟨c0, c1, c2, c3⟩ := cells4 KM.out.s
      obtain ⟨d0, d1, d2, d3⟩ := cells4 KM.out.z
      have g0 := (frozen_of_row _ _ _ _ _ KM.out.z : wr.frozen? ⟨w.heap.size, 0, none⟩ = false)
      have g1 := (frozen_of_row _ _ _ _ _ KM.out.z : wr.frozen? ⟨w.heap.size, 1, none⟩ = false)
      have g2 := (frozen_of_row _ _ _ _ _ KM.out.z : wr.frozen? ⟨w.heap.size, 2, none⟩ = false)
      have g3 := (frozen_of_row _ _ _ _ _ KM.out.z : wr.frozen? ⟨w.heap.size, 3, none⟩ = false)
      have z0 := lt_of_blk KM.out.z
      have z1 := lt_of_blk KM.out.s
      clear KM
      go_wp2_with fail
      have hz := (blk_set (i := 3) (v := (.slice as' r.streets.length cs)) (blk_set (i := 2) (v := (.slice an r.nicks.length cn)) (blk_set (i := 1) (v := (.slice at' r.titles.length ct)) (blk_set (i := 0) (v := (.slice av F.length cv)) HZ.out))))
      have hm := ((((HM.out.set (a := ⟨w.heap.size, 0, none⟩) (Nat.le_refl _) (.slice av F.length cv)).set (a := ⟨w.heap.size, 1, none⟩) (Nat.le_refl _) (.slice at' r.titles.length ct)).set (a := ⟨w.heap.size, 2, none⟩) (Nat.le_refl _) (.slice an r.nicks.length cn)).set (a := ⟨w.heap.size, 3, none⟩) (Nat.le_refl _) (.slice as' r.streets.length cs))
      have hv := (((((Vec.owns (k := 2) (enc := encF) (S := fun b => w.heap.size < b) (fun _ => rfl) HO.out (fun b h1 _ => by omega)).set1 (a := ⟨w.heap.size, 0, none⟩) (fun b h => Nat.ne_of_gt h) (.slice av F.length cv)).set1 (a := ⟨w.heap.size, 1, none⟩) (fun b h => Nat.ne_of_gt h) (.slice at' r.titles.length ct)).set1 (a := ⟨w.heap.size, 2, none⟩) (fun b h => Nat.ne_of_gt h) (.slice an r.nicks.length cn)).set1 (a := ⟨w.heap.size, 3, none⟩) (fun b h => Nat.ne_of_gt h) (.slice as' r.streets.length cs))
      have ht := (((((HR.out.1.weaken (S' := fun b => w.heap.size < b) fun b h => h.1).set1 (a := ⟨w.heap.size, 0, none⟩) (fun b h => Nat.ne_of_gt h) (.slice av F.length cv)).set1 (a := ⟨w.heap.size, 1, none⟩) (fun b h => Nat.ne_of_gt h) (.slice at' r.titles.length ct)).set1 (a := ⟨w.heap.size, 2, none⟩) (fun b h => Nat.ne_of_gt h) (.slice an r.nicks.length cn)).set1 (a := ⟨w.heap.size, 3, none⟩) (fun b h => Nat.ne_of_gt h) (.slice as' r.streets.length cs))
      have hn := (((((HR.out.2.1.weaken (S' := fun b => w.heap.size < b) fun b h => h.1).set1 (a := ⟨w.heap.size, 0, none⟩) (fun b h => Nat.ne_of_gt h) (.slice av F.length cv)).set1 (a := ⟨w.heap.size, 1, none⟩) (fun b h => Nat.ne_of_gt h) (.slice at' r.titles.length ct)).set1 (a := ⟨w.heap.size, 2, none⟩) (fun b h => Nat.ne_of_gt h) (.slice an r.nicks.length cn)).set1 (a := ⟨w.heap.size, 3, none⟩) (fun b h => Nat.ne_of_gt h) (.slice as' r.streets.length cs))
      have hs := (((((HR.out.2.2.weaken (S' := fun b => w.heap.size < b) fun b h => h.1).set1 (a := ⟨w.heap.size, 0, none⟩) (fun b h => Nat.ne_of_gt h) (.slice av F.length cv)).set1 (a := ⟨w.heap.size, 1, none⟩) (fun b h => Nat.ne_of_gt h) (.slice at' r.titles.length ct)).set1 (a := ⟨w.heap.size, 2, none⟩) (fun b h => Nat.ne_of_gt h) (.slice an r.nicks.length cn)).set1 (a := ⟨w.heap.size, 3, none⟩) (fun b h => Nat.ne_of_gt h) (.slice as' r.streets.length cs))
      have hw : ∀ b, w.heap.size < b → w.heap.size ≤ b := fun b h => Nat.le_of_lt h
      have hF1 : 1 ≤ F.length := by have := HF.out; omega
      exact bodyPost_row1 rfl rfl hz Tryz.underlying33 rfl (by kernel_rfl) ⟨_, _, _, _, ⟨F, r⟩, rfl, ⟨hv.weaken hw, ht.weaken hw, hn.weaken hw, hs.weaken hw⟩, ⟨HFd.out, hF1, HRD.out⟩, hm⟩
end Go.Proofs.YtfgoiojmbphmnaaGreatDoor
end
section
/- What the laws that deal a schema share: where they stand behind it. -/
set_option linter.unusedSimpArgs false
set_option linter.unusedVariables false
set_option maxRecDepth 100000
namespace Go.Proofs.YtfgoiojmbphmnaaGreatDoor
open Go.RowKit Cal
attribute [local go_sem] toList_mk mk_size str_append
theorem SchemaAt.moved {D : Nat} {w w' : World} {S : Nat → Prop} {vf vt vn vs : Value} {s : SchemaL} (h : SchemaAt w S vf vt vn vs s) (hS : ∀ b, S b → b ≠ D) (m : Moved D w w') : SchemaAt w' S vf vt vn vs s :=
  have mv : ∀ b, b < w.heap.size → S b → w'.heap[b]? = w.heap[b]? ∧ S b := fun b hb hs => ⟨m.grown.block b hb (by have := hS b hs; simp; omega), hs⟩
  ⟨h.1.move m.size mv, h.2.1.move m.size mv, h.2.2.1.move m.size mv, h.2.2.2.move m.size mv⟩
theorem fields_cell {w : World} {S : Nat → Prop} {a : Option Addr} {n cap : Nat} {F : List F2} (h : Vec w S 2 encF (.slice a n cap) F) (h0 : 0 < F.length) : ∃ b off, a = some ⟨b, off, none⟩ ∧ S b ∧ b < w.heap.size ∧ ∀ j, j < F.length → w.cell? ⟨b, off + j * 2 + 1, none⟩ = some (.int .i64 (F.getD j default).2) := by
  obtain ⟨b, off, e, hS, hb, hc⟩ := vec_cell2 h h0
  exact ⟨b, off, e, hS, hb, fun j hj => hc j hj 1 _ rfl⟩
/-- where a law stands that has dealt a schema: the deck in block D, the schema in block y, the kind of a field in cell o of block b -/
structure Drawn (D : Nat) (w : World) (y : Nat) (S : Nat → Prop) (vf vt vn vs : Value) (s : SchemaL) (b o : Nat) (kf : Int) (wr : World) : Prop where
  m : Moved D w wr
  x : wr.heap[y]? = some (.cells #[vf, vt, vn, vs] 33 (0, 0))
  s : SchemaAt wr S vf vt vn vs s
  c : wr.cell? ⟨b, o, none⟩ = some (.int .i64 kf)
  ne : ∀ b, S b → b ≠ D
  yD : y ≠ D
  bD : b ≠ D
theorem Drawn.moved {D : Nat} {w : World} {y : Nat} {S : Nat → Prop} {vf vt vn vs : Value} {s : SchemaL} {b o : Nat} {kf : Int} {wr wd : World} (h : Drawn D w y S vf vt vn vs s b o kf wr) (m : Moved D wr wd) : Drawn D w y S vf vt vn vs s b o kf wd :=
  ⟨h.m.trans m, m.blk h.yD h.x, h.s.moved h.ne m, (World.cell?_of_block (w := wr) (a := ⟨b, o, none⟩) (m.grown.block b (World.block_lt_of_cell? _ ⟨b, o, none⟩ h.c) (by have := h.bD; simp; omega))).trans h.c, h.ne, h.yD, h.bD⟩
theorem Drawn.below {D : Nat} {w : World} {y : Nat} {S : Nat → Prop} {vf vt vn vs : Value} {s : SchemaL} {b o : Nat} {kf : Int} {wr wd : World} (h : Drawn D w y S vf vt vn vs s b o kf wr) (hb : Below wr.heap.size wr wd) : Drawn D w y S vf vt vn vs s b o kf wd :=
  h.moved ((Moved.start h.m.deck).below hb)
theorem Drawn.held {D : Nat} {w : World} {y : Nat} {S : Nat → Prop} {vf vt vn vs : Value} {s : SchemaL} {b o : Nat} {kf : Int} {wr : World} (h : Drawn D w y S vf vt vn vs s b o kf wr) :
    wr.cell? ⟨y, 0, none⟩ = some vf ∧ wr.cell? ⟨y, 1, none⟩ = some vt ∧ wr.cell? ⟨y, 2, none⟩ = some vn ∧ wr.cell? ⟨y, 3, none⟩ = some vs ∧ wr.cell? ⟨b, o, none⟩ = some (.int .i64 kf) := by
  obtain ⟨p0, p1, p2, p3⟩ := cells4 h.x
  exact ⟨p0, p1, p2, p3, h.c⟩
end Go.Proofs.YtfgoiojmbphmnaaGreatDoor
end
section
/- Plain: a text cut at a byte (strings.Cut, strings.Split at a separator of one byte). -/
set_option linter.unusedSimpArgs false
set_option linter.unusedVariables false
namespace Go.Proofs.YtfgoiojmbphmnaaGreatDoor
/-- the parts of a text between single bytes c; p is the part that has begun -/
def splC (c : UInt8) : List UInt8 → List UInt8 → List (List UInt8)
  | p, [] => [p]
  | p, x :: r => if x == c then p :: splC c [] r else splC c (p ++ [x]) r
theorem splC_ne (c : UInt8) (l : List UInt8) : ∀ p, splC c p l ≠ [] := by
  induction l with
  | nil => intro p; simp [splC]
  | cons x l ih => intro p; simp only [splC]; split <;> simp [ih]
theorem splC_run (c : UInt8) (t : List UInt8) (h : c ∉ t) : ∀ p r, splC c p (t ++ r) = splC c (p ++ t) r := by
  induction t with
  | nil => intro p r; simp
  | cons x t ih =>
    intro p r
    have hx : (x == c) = false := by
      have : c ≠ x := fun e => h (by simp [e])
      simpa using fun e => this e.symm
    rw [List.cons_append, splC, hx, if_neg (by simp), ih (fun hb => h (List.mem_cons_of_mem _ hb)), List.append_assoc]
    rfl
theorem splC_no (c : UInt8) (t : List UInt8) (h : c ∉ t) (p : List UInt8) : splC c p t = [p ++ t] := by
  have := splC_run c t h p []
  rw [List.append_nil] at this
  rw [this]; rfl
theorem splC_at (c : UInt8) (a b : List UInt8) (h : c ∉ a) (p : List UInt8) : splC c p (a ++ c :: b) = (p ++ a) :: splC c [] b := by
  rw [splC_run c a h]; simp [splC]
/-- where c stands first -/
theorem byte_cases (c : UInt8) (l : List UInt8) : c ∉ l ∨ ∃ a b, l = a ++ c :: b ∧ c ∉ a := by
  by_cases h : c ∈ l
  · right
    induction l with
    | nil => simp at h
    | cons x l ih =>
      by_cases e : x = c
      · exact ⟨[], l, by rw [e]; rfl, by simp⟩
      · have h' : c ∈ l := by
          rcases List.mem_cons.1 h with h1 | h1
          · exact absurd h1.symm e
          · exact h1
        obtain ⟨a, b, e1, e2⟩ := ih h'
        exact ⟨x :: a, b, by rw [e1]; rfl, by
          intro hm
          rcases List.mem_cons.1 hm with h1 | h1
          · exact e h1.symm
          · exact e2 h1⟩
  · exact .inl h
theorem index_not (c : UInt8) (l : List UInt8) (h : c ∉ l) : Lib.index l [c] = -1 := by
  induction l with
  | nil => rfl
  | cons x l ih =>
    have hx : c ≠ x := fun e => h (by simp [e])
    have h1 := ih fun hb => h (List.mem_cons_of_mem _ hb)
    unfold Lib.index
    rw [if_neg (by simp [List.isPrefixOf, hx]), if_pos (by rw [h1]; rfl)]
theorem index_at (c : UInt8) (a b : List UInt8) (h : c ∉ a) : Lib.index (a ++ c :: b) [c] = a.length := by
  induction a with
  | nil => simp [Lib.index, List.isPrefixOf]
  | cons x a ih =>
    have hx : c ≠ x := fun e => h (by simp [e])
    have h1 := ih fun hb => h (List.mem_cons_of_mem _ hb)
    rw [List.cons_append]
    unfold Lib.index
    rw [if_neg (by simp [List.isPrefixOf, hx]), h1, if_neg (by simp)]
    simp
theorem count_not (c : UInt8) (l : List UInt8) (h : c ∉ l) (f : Nat) : Lib.countFrom [c] f l = 0 := by
  cases f with
  | zero => rfl
  | succ f => unfold Lib.countFrom; rw [index_not c l h]; rfl
theorem count_at (c : UInt8) (a b : List UInt8) (h : c ∉ a) (f : Nat) : Lib.countFrom [c] (f + 1) (a ++ c :: b) = 1 + Lib.countFrom [c] f b := by
  rw [Lib.countFrom, index_at c a b h, if_neg (by simp)]
  congr 2
  simp
theorem splitK_spl (c : UInt8) : ∀ (n : Nat) (l : List UInt8), l.length ≤ n → ∀ f, l.length < f → Lib.splitK [c] 0 (Lib.countFrom [c] f l) l = splC c [] l ∧ Lib.countFrom [c] f l + 1 = (splC c [] l).length := by
  intro n
  induction n with
  | zero =>
    intro l hl f hf
    have : l = [] := List.length_eq_zero_iff.1 (by omega)
    subst this
    rw [count_not c [] (by simp)]
    exact ⟨rfl, rfl⟩
  | succ n ih =>
    intro l hl f hf
    rcases byte_cases c l with h | ⟨a, b, rfl, h⟩
    · rw [count_not c l h, splC_no c l h]
      exact ⟨rfl, rfl⟩
    · obtain ⟨g, rfl⟩ : ∃ g, f = g + 1 := ⟨f - 1, by omega⟩
      rw [List.length_append, List.length_cons] at hl hf
      obtain ⟨h1, h2⟩ := ih b (by omega) g (by omega)
      rw [count_at c a b h, splC_at c a b h, show 1 + Lib.countFrom [c] g b = Lib.countFrom [c] g b + 1 by omega]
      refine ⟨?_, by rw [List.length_cons, ← h2]⟩
      rw [Lib.splitK, index_at c a b h, if_neg (by simp)]
      rw [show (a ++ c :: b).take (((a.length : Int)).toNat + 0) = a by simp]
      rw [show (a ++ c :: b).drop (((a.length : Int)).toNat + [c].length) = b by simp]
      rw [h1]; rfl
/-- a text cut at its first byte c -/
theorem cut_not (c : UInt8) (l : List UInt8) (h : c ∉ l) : Lib.cut l [c] = (l, [], false) := by
  unfold Lib.cut; rw [index_not c l h]; rfl
theorem cut_at (c : UInt8) (a b : List UInt8) (h : c ∉ a) : Lib.cut (a ++ c :: b) [c] = (a, b, true) := by
  unfold Lib.cut
  rw [index_at c a b h, if_pos (by omega)]
  simp
end Go.Proofs.YtfgoiojmbphmnaaGreatDoor
end
section
/- Plain law: the text of a valid schema leads back to it; a text that is read is the text of what is read. -/
set_option linter.unusedSimpArgs false
set_option linter.unusedVariables false
set_option maxRecDepth 100000
namespace Go.Proofs.YtfgoiojmbphmnaaGreatDoor
open Go.RowKit Cal
def kindNum (x : List UInt8) : Int := if x = kindW 1 then 1 else if x = kindW 2 then 2 else if x = kindW 3 then 3 else if x = kindW 4 then 4 else 0
def fieldW : List UInt8 := [102, 105, 101, 108, 100]
def titleW : List UInt8 := [116, 105, 116, 108, 101]
def nickW : List UInt8 := [110, 105, 99, 107, 110, 97, 109, 101]
def streetW : List UInt8 := [115, 116, 114, 101, 101, 116]
def addF (s : SchemaL) (x : F2) : SchemaL := ⟨s.fields ++ [x], s.rules⟩
def addT (s : SchemaL) (x : List UInt8) : SchemaL := ⟨s.fields, ⟨s.rules.titles ++ [x], s.rules.nicks, s.rules.streets⟩⟩
def addN (s : SchemaL) (x : P2) : SchemaL := ⟨s.fields, ⟨s.rules.titles, s.rules.nicks ++ [x], s.rules.streets⟩⟩
def addS (s : SchemaL) (x : P2) : SchemaL := ⟨s.fields, ⟨s.rules.titles, s.rules.nicks, s.rules.streets ++ [x]⟩⟩
/-- what a line declares: the place of its sort, -1 for none; and the schema with it -/
def readN (s : SchemaL) (W : List (List UInt8)) : Int × SchemaL :=
  if [] ∈ W then (-1, s) else
  match W with
  | [a, b, c] =>
    if a = fieldW then (if kindNum c = 0 then (-1, s) else (0, addF s (b, kindNum c)))
    else if a = nickW then (2, addN s (b, c)) else if a = streetW then (3, addS s (b, c)) else (-1, s)
  | [a, b] => if a = titleW then (1, addT s b) else (-1, s)
  | _ => (-1, s)
def parseA : List UInt8 → SchemaL → Int → List UInt8 → Option SchemaL
  | p, s, _, [] => if p = [] then some s else none
  | p, s, last, c :: r => if c == 10 then (if (readN s (splC 32 [] p)).1 < last then none else parseA [] (readN s (splC 32 [] p)).2 (readN s (splC 32 [] p)).1 r) else parseA (p ++ [c]) s last r
def nilS : SchemaL := ⟨[], ⟨[], [], []⟩⟩
def parseN (t : List UInt8) : SchemaL × Int :=
  if 65536 < t.length then (nilS, 1) else match parseA [] nilS 0 t with
    | none => (nilS, 14)
    | some s => if checkS s = 0 then (s, 0) else (nilS, checkS s)
theorem splA_ne (l : List UInt8) : ∀ p, splC 32 p l ≠ [] := splC_ne 32 l
theorem join_spl (l : List UInt8) : ∀ p, joinL (splC 32 p l) = p ++ l := by
  induction l with
  | nil => intro p; simp [splC, joinL]
  | cons c l ih =>
    intro p
    simp only [splC]
    split
    · rename_i hc
      have hc' : c = 32 := by simpa using hc
      have := ih []
      cases h : splC 32 [] l with
      | nil => exact absurd h (splA_ne l [])
      | cons a L =>
        rw [h] at this
        simp only [joinL]
        rw [this, hc']; simp
    · rw [ih]; simp
/-- a word: not empty, of letters -/
def okW (t : List UInt8) : Prop := t ≠ [] ∧ ∀ b ∈ t, b ≠ 32 ∧ b ≠ 10
theorem splA_run (t : List UInt8) (h : ∀ b ∈ t, b ≠ 32 ∧ b ≠ 10) : ∀ p r, splC 32 p (t ++ r) = splC 32 (p ++ t) r := by
  induction t with
  | nil => intro p r; simp
  | cons c t ih =>
    intro p r
    have hc : (c == 32) = false := by simpa using (h c List.mem_cons_self).1
    rw [List.cons_append, splC, hc, if_neg (by simp), ih (fun b hb => h b (List.mem_cons_of_mem _ hb)), List.append_assoc]
    rfl
theorem spl_join : ∀ (L : List (List UInt8)), (∀ t ∈ L, okW t) → L ≠ [] → splC 32 [] (joinL L) = L := by
  intro L
  induction L with
  | nil => intro _ h; exact absurd rfl h
  | cons t L ih =>
    intro h _
    obtain ⟨h1, h2⟩ := h t List.mem_cons_self
    cases L with
    | nil =>
      rw [show joinL [t] = t ++ [] by simp [joinL], splA_run t h2]; simp [splC]
    | cons u L =>
      have hr := ih (fun x hx => h x (List.mem_cons_of_mem _ hx)) (by simp)
      show splC 32 [] (t ++ [32] ++ joinL (u :: L)) = _
      rw [List.append_assoc, splA_run t h2]
      simp only [List.nil_append, List.cons_append, splC]
      rw [hr]; rfl
theorem parseA_run (t : List UInt8) (h : ∀ b ∈ t, b ≠ 10) : ∀ p s last r, parseA p s last (t ++ r) = parseA (p ++ t) s last r := by
  induction t with
  | nil => intro p s last r; simp
  | cons c t ih =>
    intro p s last r
    have hc : (c == 10) = false := by simpa using h c List.mem_cons_self
    rw [List.cons_append, parseA, hc, if_neg (by simp), ih (fun b hb => h b (List.mem_cons_of_mem _ hb)), List.append_assoc]
    rfl
theorem join_no10 : ∀ (L : List (List UInt8)), (∀ t ∈ L, okW t) → ∀ b ∈ joinL L, b ≠ 10 := by
  intro L
  induction L with
  | nil => intro _ b hb; simp [joinL] at hb
  | cons t L ih =>
    intro h b hb
    obtain ⟨h1, h2⟩ := h t List.mem_cons_self
    cases L with
    | nil => exact (h2 b (by simpa [joinL] using hb)).2
    | cons u L =>
      simp only [joinL, List.mem_append, List.mem_singleton] at hb
      rcases hb with (hb | hb) | hb
      · exact (h2 b hb).2
      · subst hb; decide
      · exact ih (fun x hx => h x (List.mem_cons_of_mem _ hx)) b hb
/-- a line that is made of words -/
theorem parse_line (L : List (List UInt8)) (h : ∀ t ∈ L, okW t) (hL : L ≠ []) (s : SchemaL) (last : Int) (r : List UInt8) :
    parseA [] s last (joinL L ++ [10] ++ r) = if (readN s L).1 < last then none else parseA [] (readN s L).2 (readN s L).1 r := by
  rw [List.append_assoc, parseA_run _ (join_no10 L h)]
  simp only [List.nil_append, List.cons_append, parseA]
  rw [spl_join L h hL]; rfl
theorem kindNum_W (k : Int) (h1 : 1 ≤ k) (h4 : k ≤ 4) : kindNum (kindW k) = k ∧ okW (kindW k) := by
  obtain rfl | rfl | rfl | rfl : k = 1 ∨ k = 2 ∨ k = 3 ∨ k = 4 := by omega
  all_goals exact ⟨by decide, by unfold okW; decide⟩
theorem kindW_num (x : List UInt8) (h : kindNum x ≠ 0) : kindW (kindNum x) = x ∧ 1 ≤ kindNum x ∧ kindNum x ≤ 4 := by
  unfold kindNum at h ⊢
  split
  · rename_i e; exact ⟨e.symm, by omega, by omega⟩
  · split
    · rename_i e; exact ⟨e.symm, by omega, by omega⟩
    · split
      · rename_i e; exact ⟨e.symm, by omega, by omega⟩
      · split
        · rename_i e; exact ⟨e.symm, by omega, by omega⟩
        · rename_i h1 h2 h3 h4; simp [h1, h2, h3, h4] at h
theorem readN_field (s : SchemaL) (b : List UInt8) (k : Int) (hb : okW b) (h1 : 1 ≤ k) (h4 : k ≤ 4) : readN s [fieldW, b, kindW k] = (0, addF s (b, k)) := by
  obtain ⟨k1, k2⟩ := kindNum_W k h1 h4
  unfold readN
  rw [if_neg (by simp only [List.mem_cons, List.not_mem_nil, or_false]; rintro (h | h | h); exact absurd h (by decide); exact hb.1 h.symm; exact k2.1 h.symm)]
  dsimp only
  rw [if_pos rfl, k1, if_neg (by omega)]
theorem readN_title (s : SchemaL) (b : List UInt8) (hb : okW b) : readN s [titleW, b] = (1, addT s b) := by
  unfold readN
  rw [if_neg (by simp only [List.mem_cons, List.not_mem_nil, or_false]; rintro (h | h); exact absurd h (by decide); exact hb.1 h.symm)]
  dsimp only
  rw [if_pos rfl]
theorem readN_nick (s : SchemaL) (b c : List UInt8) (hb : okW b) (hc : okW c) : readN s [nickW, b, c] = (2, addN s (b, c)) := by
  unfold readN
  rw [if_neg (by simp only [List.mem_cons, List.not_mem_nil, or_false]; rintro (h | h | h); exact absurd h (by decide); exact hb.1 h.symm; exact hc.1 h.symm)]
  dsimp only
  rw [if_neg (by decide), if_pos rfl]
theorem readN_street (s : SchemaL) (b c : List UInt8) (hb : okW b) (hc : okW c) : readN s [streetW, b, c] = (3, addS s (b, c)) := by
  unfold readN
  rw [if_neg (by simp only [List.mem_cons, List.not_mem_nil, or_false]; rintro (h | h | h); exact absurd h (by decide); exact hb.1 h.symm; exact hc.1 h.symm)]
  dsimp only
  rw [if_neg (by decide), if_neg (by decide), if_pos rfl]
theorem back_fields (R : List UInt8) : ∀ (F F0 : List F2), (∀ x ∈ F, okW x.1 ∧ 1 ≤ x.2 ∧ x.2 ≤ 4) → ∀ T N S, parseA [] ⟨F0, ⟨T, N, S⟩⟩ 0 (F.flatMap fieldLine ++ R) = parseA [] ⟨F0 ++ F, ⟨T, N, S⟩⟩ 0 R := by
  intro F
  induction F with
  | nil => intro F0 _ T N S; simp
  | cons x F ih =>
    intro F0 h T N S
    obtain ⟨h1, h2, h3⟩ := h x List.mem_cons_self
    obtain ⟨k1, k2⟩ := kindNum_W x.2 h2 h3
    have hw : ∀ t ∈ [fieldW, x.1, kindW x.2], okW t := by
      intro t ht; simp at ht
      rcases ht with rfl | rfl | rfl
      · unfold okW; decide
      · exact h1
      · exact k2
    rw [List.flatMap_cons, List.append_assoc]
    unfold fieldLine
    rw [show ([102, 105, 101, 108, 100] : List UInt8) = fieldW from rfl, parse_line _ hw (by simp)]
    rw [readN_field _ _ _ h1 h2 h3]
    dsimp only
    rw [if_neg (by decide)]
    have := ih (F0 ++ [(x.1, x.2)]) (fun y hy => h y (List.mem_cons_of_mem _ hy)) T N S
    unfold fieldLine at this
    unfold addF
    rw [show ([102, 105, 101, 108, 100] : List UInt8) = fieldW from rfl] at this
    rw [this]; simp
theorem back_titles (R : List UInt8) (F : List F2) (N S : List P2) : ∀ (T T0 : List (List UInt8)), (∀ x ∈ T, okW x) → ∀ last, last ≤ 1 → ∃ l', l' ≤ 1 ∧ parseA [] ⟨F, ⟨T0, N, S⟩⟩ last (T.flatMap titleLine ++ R) = parseA [] ⟨F, ⟨T0 ++ T, N, S⟩⟩ l' R := by
  intro T
  induction T with
  | nil => intro T0 _ last hl; exact ⟨last, hl, by simp⟩
  | cons x T ih =>
    intro T0 h last hl
    have h1 := h x List.mem_cons_self
    have hw : ∀ t ∈ [titleW, x], okW t := by
      intro t ht; simp at ht
      rcases ht with rfl | rfl
      · unfold okW; decide
      · exact h1
    obtain ⟨l', hl', he⟩ := ih (T0 ++ [x]) (fun y hy => h y (List.mem_cons_of_mem _ hy)) 1 (by omega)
    refine ⟨l', hl', ?_⟩
    rw [List.flatMap_cons, List.append_assoc]
    unfold titleLine at he ⊢
    rw [show ([116, 105, 116, 108, 101] : List UInt8) = titleW from rfl] at he ⊢
    rw [parse_line _ hw (by simp)]
    rw [readN_title _ _ h1]
    dsimp only
    rw [if_neg (by omega)]
    unfold addT
    dsimp only
    rw [he]; simp
theorem back_nicks (R : List UInt8) (F : List F2) (T : List (List UInt8)) (S : List P2) : ∀ (N N0 : List P2), (∀ x ∈ N, okW x.1 ∧ okW x.2) → ∀ last, last ≤ 2 → ∃ l', l' ≤ 2 ∧ parseA [] ⟨F, ⟨T, N0, S⟩⟩ last (N.flatMap nickLine ++ R) = parseA [] ⟨F, ⟨T, N0 ++ N, S⟩⟩ l' R := by
  intro N
  induction N with
  | nil => intro N0 _ last hl; exact ⟨last, hl, by simp⟩
  | cons x N ih =>
    intro N0 h last hl
    obtain ⟨h1, h2⟩ := h x List.mem_cons_self
    have hw : ∀ t ∈ [nickW, x.1, x.2], okW t := by
      intro t ht; simp at ht
      rcases ht with rfl | rfl | rfl
      · unfold okW; decide
      · exact h1
      · exact h2
    obtain ⟨l', hl', he⟩ := ih (N0 ++ [x]) (fun y hy => h y (List.mem_cons_of_mem _ hy)) 2 (by omega)
    refine ⟨l', hl', ?_⟩
    rw [List.flatMap_cons, List.append_assoc]
    unfold nickLine at he ⊢
    rw [show ([110, 105, 99, 107, 110, 97, 109, 101] : List UInt8) = nickW from rfl] at he ⊢
    rw [parse_line _ hw (by simp)]
    rw [readN_nick _ _ _ h1 h2]
    dsimp only
    rw [if_neg (by omega)]
    unfold addN
    dsimp only
    rw [he]; simp
theorem back_streets (R : List UInt8) (F : List F2) (T : List (List UInt8)) (N : List P2) : ∀ (S S0 : List P2), (∀ x ∈ S, okW x.1 ∧ okW x.2) → ∀ last, last ≤ 3 → ∃ l', l' ≤ 3 ∧ parseA [] ⟨F, ⟨T, N, S0⟩⟩ last (S.flatMap streetLine ++ R) = parseA [] ⟨F, ⟨T, N, S0 ++ S⟩⟩ l' R := by
  intro S
  induction S with
  | nil => intro S0 _ last hl; exact ⟨last, hl, by simp⟩
  | cons x S ih =>
    intro S0 h last hl
    obtain ⟨h1, h2⟩ := h x List.mem_cons_self
    have hw : ∀ t ∈ [streetW, x.1, x.2], okW t := by
      intro t ht; simp at ht
      rcases ht with rfl | rfl | rfl
      · unfold okW; decide
      · exact h1
      · exact h2
    obtain ⟨l', hl', he⟩ := ih (S0 ++ [x]) (fun y hy => h y (List.mem_cons_of_mem _ hy)) 3 (by omega)
    refine ⟨l', hl', ?_⟩
    rw [List.flatMap_cons, List.append_assoc]
    unfold streetLine at he ⊢
    rw [show ([115, 116, 114, 101, 101, 116] : List UInt8) = streetW from rfl] at he ⊢
    rw [parse_line _ hw (by simp)]
    rw [readN_street _ _ _ h1 h2]
    dsimp only
    rw [if_neg (by omega)]
    unfold addS
    dsimp only
    rw [he]; simp
theorem letters_ok {t : List UInt8} (h : (lettersL t == t) = true) : ∀ b ∈ t, b ≠ 32 ∧ b ≠ 10 := by
  intro b hb
  have e : lettersL t = t := by simpa using h
  rw [← e] at hb
  have := (List.mem_filter.1 hb).2
  rw [low_iff, decide_eq_true_iff] at this
  constructor <;> (intro e; subst e; simp at this)
theorem token_okW {t : List UInt8} (h : tokenB t = true) : okW t := by
  unfold tokenB at h
  cases h1 : t.isEmpty
  · simp [h1] at h
    exact ⟨by simpa using h1, letters_ok (by simpa using h.2)⟩
  · simp [h1] at h
theorem word_okW {t : List UInt8} (h : wordB t = true) : okW t := by
  unfold wordB at h
  cases h1 : t.isEmpty
  · simp [h1] at h
    exact ⟨by simpa using h1, letters_ok (by simpa using h.2)⟩
  · simp [h1] at h
theorem check_words {s : SchemaL} (h : checkS s = 0) : (∀ x ∈ s.fields, okW x.1 ∧ 1 ≤ x.2 ∧ x.2 ≤ 4) ∧ (∀ t ∈ s.rules.titles, okW t) ∧ (∀ p ∈ s.rules.nicks, okW p.1 ∧ okW p.2) ∧ (∀ p ∈ s.rules.streets, okW p.1 ∧ okW p.2) := by
  obtain ⟨_, h2, h3⟩ := check_fields h
  obtain ⟨_, t1, t2, t3, _⟩ := check_zero h3
  have pr : ∀ L : List P2, pairsB L = true → ∀ p ∈ L, okW p.1 ∧ okW p.2 := fun L hL => getD_mem fun j hj => by
    have := pairs_at hL j hj
    unfold pairAtB at this
    simp only [Bool.and_eq_true] at this
    exact ⟨token_okW this.1.1.1, token_okW this.1.1.2⟩
  refine ⟨getD_mem fun j hj => ?_, ?_, pr _ t2, pr _ t3⟩
  · have h5 := field_kind h2 j hj
    have := List.all_eq_true.1 h2 j (List.mem_range.2 hj)
    unfold fieldAtB at this
    simp only [Bool.and_eq_true] at this
    exact ⟨word_okW this.1.1.1, h5⟩
  · refine getD_mem fun j hj => ?_
    have := List.all_eq_true.1 t1 j (List.mem_range.2 hj)
    unfold titleAt at this
    simp only [Bool.and_eq_true] at this
    exact token_okW this.1
theorem text_bound {s : SchemaL} (h : checkS s = 0) : (textL s).length ≤ 14000 := by
  obtain ⟨g1, g2, g3⟩ := check_fields h
  obtain ⟨⟨n1, n2, n3⟩, _⟩ := check_zero g3
  obtain ⟨l1, l2, l3, l4⟩ := check_lens h
  have B1 := flat_bound (g := fieldLine) (m := 40) s.fields (fun x hx => by have := l1 x hx; have := kindW_len x.2; unfold fieldLine; rw [List.length_append, join3_len]; simp; omega)
  have B2 := flat_bound (g := titleLine) (m := 80) s.rules.titles (fun x hx => by have := l2 x hx; unfold titleLine; rw [List.length_append, join2_len]; simp; omega)
  have B3 := flat_bound (g := nickLine) (m := 160) s.rules.nicks (fun x hx => by have := l3 x hx; unfold nickLine; rw [List.length_append, join3_len]; simp; omega)
  have B4 := flat_bound (g := streetLine) (m := 160) s.rules.streets (fun x hx => by have := l4 x hx; unfold streetLine; rw [List.length_append, join3_len]; simp; omega)
  unfold textL
  simp only [List.length_append]
  omega
/-- the text of a valid schema leads back to it -/
theorem parse_text {s : SchemaL} (h : checkS s = 0) : parseN (textL s) = (s, 0) := by
  obtain ⟨w1, w2, w3, w4⟩ := check_words h
  have hb := text_bound h
  have hp : parseA [] nilS 0 (textL s) = some s := by
    unfold textL nilS
    rw [back_fields _ s.fields [] w1]
    obtain ⟨l1, k1, e1⟩ := back_titles (s.rules.nicks.flatMap nickLine ++ s.rules.streets.flatMap streetLine) ([] ++ s.fields) [] [] s.rules.titles [] w2 0 (by omega)
    rw [e1]
    obtain ⟨l2, k2, e2⟩ := back_nicks (s.rules.streets.flatMap streetLine) ([] ++ s.fields) ([] ++ s.rules.titles) [] s.rules.nicks [] w3 l1 (by omega)
    rw [e2]
    obtain ⟨l3, k3, e3⟩ := back_streets [] ([] ++ s.fields) ([] ++ s.rules.titles) ([] ++ s.rules.nicks) s.rules.streets [] w4 l2 (by omega)
    rw [List.append_nil] at e3
    rw [e3]
    simp [parseA]
  unfold parseN
  rw [if_neg (by omega), hp]
  dsimp only
  rw [if_pos h]
/-- nothing of a later sort is there yet -/
def Inv (s : SchemaL) (last : Int) : Prop := 0 ≤ last ∧ (last < 1 → s.rules.titles = []) ∧ (last < 2 → s.rules.nicks = []) ∧ (last < 3 → s.rules.streets = [])
theorem read_text {s : SchemaL} {last : Int} (hI : Inv s last) (W : List (List UInt8)) (h : ¬ (readN s W).1 < last) :
    Inv (readN s W).2 (readN s W).1 ∧ textL (readN s W).2 = textL s ++ (joinL W ++ [10]) := by
  obtain ⟨i0, i1, i2, i3⟩ := hI
  obtain ⟨F, ⟨T, N, S⟩⟩ := s
  dsimp only at i1 i2 i3
  unfold readN at h ⊢
  split at h
  · exfalso; apply h; show (-1 : Int) < last; omega
  · rename_i hn
    rw [if_neg hn]
    split at h
    · rename_i a b c
      split at h
      · rename_i ha
        subst ha
        rw [if_pos rfl]
        split at h
        · exfalso; apply h; show (-1 : Int) < last; omega
        · rename_i hk
          rw [if_neg hk]
          obtain ⟨e, k1, k4⟩ := kindW_num c hk
          have h' : last = 0 := by simp at h; omega
          subst h'
          have e1 := i1 (by omega); have e2 := i2 (by omega); have e3 := i3 (by omega)
          subst e1 e2 e3
          refine ⟨⟨show (0 : Int) ≤ 0 by decide, fun _ => rfl, fun _ => rfl, fun _ => rfl⟩, ?_⟩
          simp [textL, addF, fieldLine, e, fieldW]
      · rename_i ha
        rw [if_neg ha]
        split at h
        · rename_i hb
          subst hb
          rw [if_pos rfl]
          have h' : last ≤ 2 := by simp at h; omega
          have e3 := i3 (by omega)
          subst e3
          refine ⟨⟨show (0 : Int) ≤ 2 by decide, fun h => absurd (show (2 : Int) < 1 from h) (by decide), fun h => absurd (show (2 : Int) < 2 from h) (by decide), fun _ => rfl⟩, ?_⟩
          simp [textL, addN, nickLine, nickW]
        · rename_i hb
          rw [if_neg hb]
          split at h
          · rename_i hc
            subst hc
            rw [if_pos rfl]
            refine ⟨⟨show (0 : Int) ≤ 3 by decide, fun h => absurd (show (3 : Int) < 1 from h) (by decide), fun h => absurd (show (3 : Int) < 2 from h) (by decide), fun h => absurd (show (3 : Int) < 3 from h) (by decide)⟩, ?_⟩
            simp [textL, addS, streetLine, streetW]
          · exfalso; apply h; show (-1 : Int) < last; omega
    · rename_i a b
      split at h
      · rename_i ha
        subst ha
        rw [if_pos rfl]
        have h' : last ≤ 1 := by simp at h; omega
        have e2 := i2 (by omega); have e3 := i3 (by omega)
        subst e2 e3
        refine ⟨⟨show (0 : Int) ≤ 1 by decide, fun h => absurd (show (1 : Int) < 1 from h) (by decide), fun _ => rfl, fun _ => rfl⟩, ?_⟩
        simp [textL, addT, titleLine, titleW]
      · exfalso; apply h; show (-1 : Int) < last; omega
    · exfalso; apply h; show (-1 : Int) < last; omega
theorem parseA_text (t : List UInt8) : ∀ p s last s', Inv s last → parseA p s last t = some s' → textL s' = textL s ++ (p ++ t) := by
  induction t with
  | nil =>
    intro p s last s' _ h
    simp only [parseA] at h
    split at h
    · rename_i hp; subst hp; cases h; simp
    · cases h
  | cons c t ih =>
    intro p s last s' hI h
    simp only [parseA] at h
    split at h
    · rename_i hc
      have hc' : c = 10 := by simpa using hc
      split at h
      · cases h
      · rename_i hk
        obtain ⟨hI', ht⟩ := read_text hI (splC 32 [] p) hk
        rw [ih _ _ _ _ hI' h, ht, join_spl, hc']; simp
    · rw [ih _ _ _ _ hI h]; simp
/-- a text that is read is the text of what is read, and that is valid -/
theorem parse_back {t : List UInt8} {s : SchemaL} (h : parseN t = (s, 0)) : checkS s = 0 ∧ textL s = t := by
  unfold parseN at h
  split at h
  · simp at h
  · split at h
    · simp at h
    · rename_i s' hs
      split at h
      · rename_i hc
        obtain ⟨rfl, _⟩ := Prod.mk.inj h
        refine ⟨hc, ?_⟩
        have := parseA_text t [] nilS 0 s' ⟨by omega, fun _ => rfl, fun _ => rfl, fun _ => rfl⟩ hs
        rw [this]; rfl
      · rename_i hc; exact absurd (Prod.mk.inj h).2 hc
end Go.Proofs.YtfgoiojmbphmnaaGreatDoor
end
section
/-
  DERIVED: THE SHELF's CONTRACTS AT THIS DUMP, IN PLAIN WORDS (tools/lay-plain.mjs out of 'TryzIter.lean', which tools/lay-shelf.mjs wrote): THE SAME DECLARATIONS UNDER THE SAME NAMES: 'import', 'namespace', 'open', 'def', 'theorem' AND NOTHING ELSE: no command of the shelf's: FOR A HAND-IN. Each laying: the table of numbers ('.._ren') and one theorem, a field a fact of the dump's own or the kernel's comparison; each contract: ONE APPLICATION.
-/
namespace Go.Proofs
open Go.Shelf
def Tryz.keys160_ren : Go.Shelf.Ren := ⟨fun | 7 => 160 | 10 => 176 | n => n, fun | 23 => 151 | 26 => 9 | 3 => 152 | 28 => 141 | 0 => 0 | 27 => 127 | 33 => 64 | 4 => 4 | n => n, fun | n => n⟩
theorem Tryz.keys160 : Go.Proofs.SlLaysZ.n7 Tryz.prog Tryz.keys160_ren := {
  mixed := by kernel_rfl
  f7 := ⟨Tryz.f160.name, by decide, Tryz.func160.trans (congrArg some (by kernel_rfl))⟩
  f10 := ⟨Tryz.f176.name, by decide, Tryz.func176.trans (congrArg some (by kernel_rfl))⟩
  t0 := Tryz.underlying0
  a0 := Tryz.isAgg0
  z0 := Tryz.sizeOf0
  v0 := Tryz.zeroValue0
  t4 := Tryz.underlying4
  a4 := Tryz.isAgg4
  z4 := Tryz.sizeOf4
  v4 := Tryz.zeroValue4
  t23 := Tryz.underlying151
  a23 := Tryz.isAgg151
  z23 := Tryz.sizeOf151
  v23 := Tryz.zeroValue151
  t26 := Tryz.underlying9
  a26 := Tryz.isAgg9
  z26 := Tryz.sizeOf9
  v26 := Tryz.zeroValue9
  t27 := Tryz.underlying127
  a27 := Tryz.isAgg127
  z27 := Tryz.sizeOf127
  v27 := Tryz.zeroValue127
  t28 := Tryz.underlying141
  a28 := Tryz.isAgg141
  z28 := Tryz.sizeOf141
  v28 := Tryz.zeroValue141
  t33 := Tryz.underlying64
  a33 := Tryz.isAgg64
  z33 := Tryz.sizeOf64
  v33 := Tryz.zeroValue64 }
def Tryz.sorted159_ren : Go.Shelf.Ren := ⟨fun | 6 => 159 | 8 => 120 | 9 => 175 | 11 => 147 | 13 => 186 | 12 => 185 | 23 => 199 | 24 => 200 | 14 => 190 | 15 => 191 | 16 => 192 | 17 => 193 | 18 => 194 | 19 => 195 | 20 => 196 | 21 => 197 | 22 => 198 | 25 => 202 | 26 => 203 | 27 => 204 | 28 => 205 | 29 => 206 | 30 => 207 | 31 => 210 | n => n, fun | 26 => 9 | 28 => 141 | 24 => 28 | 0 => 0 | 3 => 3 | 37 => 74 | 48 => 172 | 50 => 69 | 4 => 4 | 40 => 185 | 39 => 184 | 45 => 133 | 5 => 5 | 9 => 9 | 51 => 194 | 55 => 197 | 57 => 199 | 58 => 200 | 33 => 64 | n => n, fun | n => n⟩
theorem Tryz.sorted159 : Go.Proofs.SlLaysZ.n6 Tryz.prog Tryz.sorted159_ren := {
  mixed := by kernel_rfl
  f6 := ⟨Tryz.f159.name, by decide, Tryz.func159.trans (congrArg some (by kernel_rfl))⟩
  f8 := ⟨Tryz.f120.name, by decide, Tryz.func120.trans (congrArg some (by kernel_rfl))⟩
  f11 := ⟨Tryz.f147.name, by decide, Tryz.func147.trans (congrArg some (by kernel_rfl))⟩
  t0 := Tryz.underlying0
  a0 := Tryz.isAgg0
  z0 := Tryz.sizeOf0
  v0 := Tryz.zeroValue0
  t24 := Tryz.underlying28
  a24 := Tryz.isAgg28
  z24 := Tryz.sizeOf28
  v24 := Tryz.zeroValue28
  t26 := Tryz.underlying9
  a26 := Tryz.isAgg9
  z26 := Tryz.sizeOf9
  v26 := Tryz.zeroValue9
  t28 := Tryz.underlying141
  a28 := Tryz.isAgg141
  z28 := Tryz.sizeOf141
  v28 := Tryz.zeroValue141
  i26 := by kernel_rfl }
def Tryz.sort175_ren : Go.Shelf.Ren := ⟨fun | 6 => 175 | 8 => 186 | 9 => 185 | 19 => 199 | 20 => 200 | 21 => 190 | 22 => 191 | 23 => 192 | 24 => 193 | 25 => 194 | 26 => 195 | 27 => 196 | 28 => 197 | 29 => 198 | 36 => 202 | 31 => 203 | 32 => 204 | 37 => 205 | 38 => 206 | 39 => 207 | 41 => 210 | n => n, fun | 27 => 28 | 29 => 9 | 3 => 3 | 32 => 74 | 26 => 28 | 0 => 0 | 44 => 172 | 46 => 69 | 4 => 4 | 36 => 185 | 35 => 184 | 41 => 133 | 5 => 5 | 9 => 9 | 53 => 194 | 57 => 197 | 63 => 199 | 64 => 200 | n => n, fun | n => n⟩
theorem Tryz.sort175 : Go.Proofs.SlLaysM.n6 Tryz.prog Tryz.sort175_ren := {
  mixed := by kernel_rfl
  f6 := ⟨Tryz.f175.name, by decide, Tryz.func175.trans (congrArg some (by kernel_rfl))⟩
  f8 := Tryz.func186.trans (congrArg some (by kernel_rfl))
  f9 := ⟨Tryz.f185.name, by decide, Tryz.func185.trans (congrArg some (by kernel_rfl))⟩
  f19 := Tryz.func199.trans (congrArg some (by kernel_rfl))
  f20 := Tryz.func200.trans (congrArg some (by kernel_rfl))
  f21 := ⟨Tryz.f190.name, by decide, Tryz.func190.trans (congrArg some (by kernel_rfl))⟩
  f22 := ⟨Tryz.f191.name, by decide, Tryz.func191.trans (congrArg some (by kernel_rfl))⟩
  f23 := ⟨Tryz.f192.name, by decide, Tryz.func192.trans (congrArg some (by kernel_rfl))⟩
  f24 := ⟨Tryz.f193.name, by decide, Tryz.func193.trans (congrArg some (by kernel_rfl))⟩
  f25 := ⟨Tryz.f194.name, by decide, Tryz.func194.trans (congrArg some (by kernel_rfl))⟩
  f26 := ⟨Tryz.f195.name, by decide, Tryz.func195.trans (congrArg some (by kernel_rfl))⟩
  f27 := ⟨Tryz.f196.name, by decide, Tryz.func196.trans (congrArg some (by kernel_rfl))⟩
  f28 := ⟨Tryz.f197.name, by decide, Tryz.func197.trans (congrArg some (by kernel_rfl))⟩
  f29 := ⟨Tryz.f198.name, by decide, Tryz.func198.trans (congrArg some (by kernel_rfl))⟩
  f31 := Tryz.func203.trans (congrArg some (by kernel_rfl))
  f32 := Tryz.func204.trans (congrArg some (by kernel_rfl))
  f36 := ⟨Tryz.f202.name, by decide, Tryz.func202.trans (congrArg some (by kernel_rfl))⟩
  f37 := ⟨Tryz.f205.name, by decide, Tryz.func205.trans (congrArg some (by kernel_rfl))⟩
  f38 := ⟨Tryz.f206.name, by decide, Tryz.func206.trans (congrArg some (by kernel_rfl))⟩
  f39 := ⟨Tryz.f207.name, by decide, Tryz.func207.trans (congrArg some (by kernel_rfl))⟩
  f41 := ⟨Tryz.f210.name, by decide, Tryz.func210.trans (congrArg some (by kernel_rfl))⟩
  t0 := Tryz.underlying0
  a0 := Tryz.isAgg0
  z0 := Tryz.sizeOf0
  v0 := Tryz.zeroValue0
  t3 := Tryz.underlying3
  a3 := Tryz.isAgg3
  z3 := Tryz.sizeOf3
  v3 := Tryz.zeroValue3
  t4 := Tryz.underlying4
  a4 := Tryz.isAgg4
  z4 := Tryz.sizeOf4
  v4 := Tryz.zeroValue4
  t5 := Tryz.underlying5
  a5 := Tryz.isAgg5
  z5 := Tryz.sizeOf5
  v5 := Tryz.zeroValue5
  t9 := Tryz.underlying9
  a9 := Tryz.isAgg9
  z9 := Tryz.sizeOf9
  v9 := Tryz.zeroValue9
  t26 := Tryz.underlying28
  a26 := Tryz.isAgg28
  z26 := Tryz.sizeOf28
  v26 := Tryz.zeroValue28
  t27 := Tryz.underlying28
  a27 := Tryz.isAgg28
  z27 := Tryz.sizeOf28
  v27 := Tryz.zeroValue28
  t29 := Tryz.underlying9
  a29 := Tryz.isAgg9
  z29 := Tryz.sizeOf9
  v29 := Tryz.zeroValue9
  t32 := Tryz.underlying74
  a32 := Tryz.isAgg74
  z32 := Tryz.sizeOf74
  v32 := Tryz.zeroValue74
  t35 := Tryz.underlying184
  a35 := Tryz.isAgg184
  z35 := Tryz.sizeOf184
  v35 := Tryz.zeroValue184
  t36 := Tryz.underlying185
  a36 := Tryz.isAgg185
  z36 := Tryz.sizeOf185
  v36 := Tryz.zeroValue185
  t41 := Tryz.underlying133
  a41 := Tryz.isAgg133
  z41 := Tryz.sizeOf133
  v41 := Tryz.zeroValue133
  t44 := Tryz.underlying172
  a44 := Tryz.isAgg172
  z44 := Tryz.sizeOf172
  v44 := Tryz.zeroValue172
  t46 := Tryz.underlying69
  a46 := Tryz.isAgg69
  z46 := Tryz.sizeOf69
  v46 := Tryz.zeroValue69
  t53 := Tryz.underlying194
  a53 := Tryz.isAgg194
  z53 := Tryz.sizeOf194
  v53 := Tryz.zeroValue194
  t57 := Tryz.underlying197
  a57 := Tryz.isAgg197
  z57 := Tryz.sizeOf197
  v57 := Tryz.zeroValue197
  t63 := Tryz.underlying199
  a63 := Tryz.isAgg199
  z63 := Tryz.sizeOf199
  v63 := Tryz.zeroValue199
  t64 := Tryz.underlying200
  a64 := Tryz.isAgg200
  z64 := Tryz.sizeOf200
  v64 := Tryz.zeroValue200 }
def Tryz.collect_ren : Go.Shelf.Ren := ⟨fun | 8 => 120 | 11 => 147 | n => n, fun | 26 => 9 | 28 => 141 | 24 => 28 | 0 => 0 | 33 => 64 | 4 => 4 | n => n, fun | n => n⟩
theorem Tryz.collect : Go.Proofs.SlLaysZ.n8 Tryz.prog Tryz.collect_ren := {
  mixed := by kernel_rfl
  f8 := ⟨Tryz.f120.name, by decide, Tryz.func120.trans (congrArg some (by kernel_rfl))⟩
  f11 := ⟨Tryz.f147.name, by decide, Tryz.func147.trans (congrArg some (by kernel_rfl))⟩
  t0 := Tryz.underlying0
  a0 := Tryz.isAgg0
  z0 := Tryz.sizeOf0
  v0 := Tryz.zeroValue0
  t24 := Tryz.underlying28
  a24 := Tryz.isAgg28
  z24 := Tryz.sizeOf28
  v24 := Tryz.zeroValue28
  t26 := Tryz.underlying9
  a26 := Tryz.isAgg9
  z26 := Tryz.sizeOf9
  v26 := Tryz.zeroValue9
  t28 := Tryz.underlying141
  a28 := Tryz.isAgg141
  z28 := Tryz.sizeOf141
  v28 := Tryz.zeroValue141
  i26 := by kernel_rfl }
end Go.Proofs
end
section
/- A schema that is being read: a block of four lists, which the call owns; what an append to one of them leaves. The words of the kinds, collected. -/
set_option linter.unusedSimpArgs false
set_option linter.unusedVariables false
set_option maxRecDepth 100000
namespace Go.Proofs.YtfgoiojmbphmnaaGreatDoor
open Go.RowKit Cal
attribute [local go_sem] toList_mk mk_size
structure PAt (B Y : Nat) (vf vt vn vs : Value) (s : SchemaL) (w : World) : Prop where
  y : w.heap[Y]? = some (.cells #[vf, vt, vn, vs] 33 (0, 0))
  f : w.ownsRow B 42 2 vf s.fields.length (s.fields.flatMap encF)
  t : w.ownsRow B 9 1 vt s.rules.titles.length (s.rules.titles.flatMap encS)
  n : w.ownsRow B 83 2 vn s.rules.nicks.length (s.rules.nicks.flatMap encP)
  s : w.ownsRow B 83 2 vs s.rules.streets.length (s.rules.streets.flatMap encP)
  ne : vn.ownBlock = none ∨ vn.ownBlock ≠ vs.ownBlock
  B : B ≤ Y
theorem PAt.below {B Y : Nat} {vf vt vn vs : Value} {s : SchemaL} {w w' : World} (h : PAt B Y vf vt vn vs s w) (hb : Below w.heap.size w w') : PAt B Y vf vt vn vs s w' :=
  ⟨blk_below hb (lt_of_blk h.y) h.y, own_below h.f hb, own_below h.t hb, own_below h.n hb, own_below h.s hb, h.ne, h.B⟩
theorem own_ne {w : World} {B B' e e' k k' m n : Nat} {u v : Value} {ys xs : List Value} (h : w.ownsRow B e k u m ys) (h' : w.ownsRow B' e' k' v n xs) (hne : e ≠ e') : u.ownBlock = none ∨ u.ownBlock ≠ v.ownBlock := by
  rcases h.2 with ⟨rfl, _⟩ | ⟨g, cap, cur, rfl, _, hg, _⟩
  · exact .inl rfl
  · refine .inr fun e1 => ?_
    rcases h'.2 with ⟨rfl, _⟩ | ⟨g', cap', cur', rfl, _, hg', _⟩
    · simp [Value.ownBlock] at e1
    · have : g = g' := by simpa [Value.ownBlock] using e1
      subst this
      rw [hg] at hg'
      injection hg' with e2
      injection e2 with _ e3
      exact hne e3
theorem own_type {w : World} {B e k n Y : Nat} {v : Value} {xs : List Value} {cs : Array Value} {t : TypeId} (h : w.ownsRow B e k v n xs) (hY : w.heap[Y]? = some (.cells cs t (0, 0))) (ht : t ≠ e) : some Y ≠ v.ownBlock := by
  intro e1
  rcases h.2 with ⟨rfl, _⟩ | ⟨g', cap', cur', rfl, _, hh, _⟩
  · simp [Value.ownBlock] at e1
  · have : Y = g' := by simpa [Value.ownBlock] using e1
    subst this
    rw [hh] at hY; injection hY with e2; injection e2 with _ e3; exact ht e3.symm
theorem PAt.far_f {B Y : Nat} {vf vt vn vs : Value} {s : SchemaL} {w : World} (h : PAt B Y vf vt vn vs s w) : some Y ≠ vf.ownBlock := own_type h.f h.y (by decide)
theorem PAt.far_t {B Y : Nat} {vf vt vn vs : Value} {s : SchemaL} {w : World} (h : PAt B Y vf vt vn vs s w) : some Y ≠ vt.ownBlock := own_type h.t h.y (by decide)
theorem PAt.far_n {B Y : Nat} {vf vt vn vs : Value} {s : SchemaL} {w : World} (h : PAt B Y vf vt vn vs s w) : some Y ≠ vn.ownBlock := own_type h.n h.y (by decide)
theorem PAt.far_s {B Y : Nat} {vf vt vn vs : Value} {s : SchemaL} {w : World} (h : PAt B Y vf vt vn vs s w) : some Y ≠ vs.ownBlock := own_type h.s h.y (by decide)
theorem row_step {w wA w2 : World} {B e k m Y i : Nat} {u x v : Value} {ys : List Value} {cs : Array Value} {t : TypeId} (h : w.ownsRow B e k u m ys) (hb : Below w.heap.size w wA) (hg : wA.grownBy w2 x.ownBlock) (hx : u.ownBlock = none ∨ u.ownBlock ≠ x.ownBlock)
    (hY : w.heap[Y]? = some (.cells cs t (0, 0))) (ht : t ≠ e) : (w2.setCell ⟨Y, i, none⟩ v).ownsRow B e k u m ys := by
  refine ⟨h.1, ?_⟩
  rcases h.2 with h0 | ⟨g, cap, cur, rfl, hg1, hh, rest⟩
  · exact .inl h0
  · have hlt := lt_of_blk hh
    have hne : g ≠ Y := by
      intro e1; subst e1; rw [hh] at hY; injection hY with e2; injection e2 with _ e3; exact ht e3.symm
    have hx' : some g ≠ x.ownBlock := by
      rcases hx with h1 | h1
      · simp [Value.ownBlock] at h1
      · simpa [Value.ownBlock] using h1
    refine .inr ⟨g, cap, cur, rfl, hg1, ?_, rest⟩
    rw [heap_setCell_other _ _ _ _ hne, hg.block g (by have := hb.size; omega) hx', hb.block g hlt]
    exact hh
theorem row_new {w2 : World} {B e k m Y i : Nat} {u v : Value} {ys : List Value} (h : w2.ownsRow B e k u m ys) (hY : u.ownBlock ≠ some Y) : (w2.setCell ⟨Y, i, none⟩ v).ownsRow B e k u m ys := by
  refine ⟨h.1, ?_⟩
  rcases h.2 with h0 | ⟨g, cap, cur, rfl, hg1, hh, rest⟩
  · exact .inl h0
  · exact .inr ⟨g, cap, cur, rfl, hg1, by rw [heap_setCell_other _ _ _ _ (by intro e; exact hY (by simp [Value.ownBlock, e]))]; exact hh, rest⟩
/-- what an append to one of the lists and the store behind it give: the new list's block is the old one's or new -/
structure Step1 (B Y i e k : Nat) (x : Value) (w w' : World) (n : Nat) (xs : List Value) (v : Value) : Prop where
  own : w'.ownsRow B e k v n xs
  blk : ∀ {e' k' m : Nat} {u : Value} {ys : List Value}, w.ownsRow B e' k' u m ys → (u.ownBlock = none ∨ u.ownBlock ≠ x.ownBlock) → e' ≠ 33 → w'.ownsRow B e' k' u m ys ∧ (u.ownBlock = none ∨ u.ownBlock ≠ v.ownBlock) ∧ (v.ownBlock = none ∨ v.ownBlock ≠ u.ownBlock)
  bel : Below B w w'
theorem step1 {B Y i e k : Nat} {x : Value} {w wA w2 : World} {n m g cap : Nat} {xs ys : List Value} {cs : Array Value} (hY : w.heap[Y]? = some (.cells cs 33 (0, 0))) (hB : B ≤ Y) (he : e ≠ 33) (hx : w.ownsRow B e k x m ys)
    (hb : Below w.heap.size w wA) (hg : wA.grownBy w2 x.ownBlock) (hown : w2.ownsRow B e k (.slice (some ⟨g, 0, none⟩) n cap) n xs) (hat : x.ownBlock = some g ∨ g = wA.heap.size) (hBw : B ≤ w.heap.size) :
    Step1 B Y i e k x w (w2.setCell ⟨Y, i, none⟩ (.slice (some ⟨g, 0, none⟩) n cap)) n xs (.slice (some ⟨g, 0, none⟩) n cap) := by
  have zY := lt_of_blk hY
  have hsz := hb.size
  have hgY : g ≠ Y := by
    rcases hat with h | h
    · intro e1; subst e1
      rcases hx.2 with ⟨rfl, _⟩ | ⟨g', cap', cur', rfl, _, hh, _⟩
      · simp [Value.ownBlock] at h
      · have : g' = g := by simpa [Value.ownBlock] using h
        subst this
        rw [hh] at hY; injection hY with e2; injection e2 with _ e3; exact he e3
    · omega
  refine ⟨row_new hown (by simp [Value.ownBlock]; exact hgY), ?_, ?_⟩
  · intro e' k' m' u ys' hu hne he'
    refine ⟨row_step hu hb hg hne hY (fun e => he' e.symm), ?_⟩
    have key : u.ownBlock ≠ some g := by
      intro e1
      rcases hat with h | h
      · rcases hne with h1 | h1
        · rw [h1] at e1; cases e1
        · exact h1 (e1.trans h.symm)
      · rcases hu.2 with ⟨rfl, _⟩ | ⟨g', cap', cur', rfl, _, hh, _⟩
        · simp [Value.ownBlock] at e1
        · have := lt_of_blk hh
          have : g' = g := by simpa [Value.ownBlock] using e1
          omega
    exact ⟨.inr (by simpa [Value.ownBlock] using key), .inr (by simpa [Value.ownBlock] using fun h => key h.symm)⟩
  · have k1 : ∀ k, k < B → w2.heap[k]? = w.heap[k]? := fun k hk => (hg.block k (by omega) (own_far hx hk)).trans (hb.block k (by omega))
    refine ⟨hg.os.trans hb.os, hg.tape.trans hb.tape, hg.output.trans hb.output, ?_, fun k hk => ?_⟩
    · have := hg.size; simp [World.setCell]; omega
    · rw [heap_setCell_other _ _ _ _ (show k ≠ Y by omega)]; exact k1 k hk
theorem PAt.addF {B Y : Nat} {vf vt vn vs : Value} {s : SchemaL} {w wA w2 : World} (h : PAt B Y vf vt vn vs s w) (hBw : B ≤ w.heap.size) (x : F2) {g cap : Nat} (hb : Below w.heap.size w wA) (hg : wA.grownBy w2 vf.ownBlock)
    (hown : w2.ownsRow B 42 2 (.slice (some ⟨g, 0, none⟩) (s.fields.length + 1) cap) (s.fields.length + 1) (s.fields.flatMap encF ++ encF x)) (hat : vf.ownBlock = some g ∨ g = wA.heap.size) :
    PAt B Y (.slice (some ⟨g, 0, none⟩) (s.fields.length + 1) cap) vt vn vs (addF s x) (w2.setCell ⟨Y, 0, none⟩ (.slice (some ⟨g, 0, none⟩) (s.fields.length + 1) cap)) ∧ Below B w (w2.setCell ⟨Y, 0, none⟩ (.slice (some ⟨g, 0, none⟩) (s.fields.length + 1) cap)) := by
  have S1 := step1 (i := 0) h.y h.B (by decide) h.f hb hg hown hat hBw
  have hy2 : w2.heap[Y]? = _ := ((hg.block Y (by have := hb.size; have := lt_of_blk h.y; omega) (by
    intro e1
    rcases h.f.2 with ⟨rfl, _⟩ | ⟨g', cap', cur', rfl, _, hh, _⟩
    · simp [Value.ownBlock] at e1
    · have : Y = g' := by simpa [Value.ownBlock] using e1
      subst this
      have := h.y; rw [hh] at this; injection this with e2; injection e2 with _ e3; revert e3; decide)).trans (hb.block Y (lt_of_blk h.y))).trans h.y
  have o1 := S1.blk h.t (own_ne h.t h.f (by decide)) (by decide)
  have o2 := S1.blk h.n (own_ne h.n h.f (by decide)) (by decide)
  have o3 := S1.blk h.s (own_ne h.s h.f (by decide)) (by decide)
  refine ⟨⟨blk_set (i := 0) hy2, ?_, o1.1, o2.1, o3.1, h.ne, h.B⟩, S1.bel⟩
  simpa [Proofs.YtfgoiojmbphmnaaGreatDoor.addF] using S1.own
theorem PAt.addT {B Y : Nat} {vf vt vn vs : Value} {s : SchemaL} {w wA w2 : World} (h : PAt B Y vf vt vn vs s w) (hBw : B ≤ w.heap.size) (x : List UInt8) {g cap : Nat} (hb : Below w.heap.size w wA) (hg : wA.grownBy w2 vt.ownBlock)
    (hown : w2.ownsRow B 9 1 (.slice (some ⟨g, 0, none⟩) (s.rules.titles.length + 1) cap) (s.rules.titles.length + 1) (s.rules.titles.flatMap encS ++ encS x)) (hat : vt.ownBlock = some g ∨ g = wA.heap.size) :
    PAt B Y vf (.slice (some ⟨g, 0, none⟩) (s.rules.titles.length + 1) cap) vn vs (addT s x) (w2.setCell ⟨Y, 1, none⟩ (.slice (some ⟨g, 0, none⟩) (s.rules.titles.length + 1) cap)) ∧ Below B w (w2.setCell ⟨Y, 1, none⟩ (.slice (some ⟨g, 0, none⟩) (s.rules.titles.length + 1) cap)) := by
  have S1 := step1 (i := 1) h.y h.B (by decide) h.t hb hg hown hat hBw
  have hy2 : w2.heap[Y]? = _ := ((hg.block Y (by have := hb.size; have := lt_of_blk h.y; omega) (by
    intro e1
    rcases h.t.2 with ⟨rfl, _⟩ | ⟨g', cap', cur', rfl, _, hh, _⟩
    · simp [Value.ownBlock] at e1
    · have : Y = g' := by simpa [Value.ownBlock] using e1
      subst this
      have := h.y; rw [hh] at this; injection this with e2; injection e2 with _ e3; revert e3; decide)).trans (hb.block Y (lt_of_blk h.y))).trans h.y
  have o1 := S1.blk h.f (own_ne h.f h.t (by decide)) (by decide)
  have o2 := S1.blk h.n (own_ne h.n h.t (by decide)) (by decide)
  have o3 := S1.blk h.s (own_ne h.s h.t (by decide)) (by decide)
  refine ⟨⟨blk_set (i := 1) hy2, o1.1, ?_, o2.1, o3.1, h.ne, h.B⟩, S1.bel⟩
  simpa [Proofs.YtfgoiojmbphmnaaGreatDoor.addT] using S1.own
theorem ne_symm {u v : Value} (h : u.ownBlock = none ∨ u.ownBlock ≠ v.ownBlock) : v.ownBlock = none ∨ v.ownBlock ≠ u.ownBlock := by
  rcases h with h | h
  · by_cases hv : v.ownBlock = none
    · exact .inl hv
    · exact .inr (by rw [h]; exact hv)
  · exact .inr fun e => h e.symm
theorem PAt.addN {B Y : Nat} {vf vt vn vs : Value} {s : SchemaL} {w wA w2 : World} (h : PAt B Y vf vt vn vs s w) (hBw : B ≤ w.heap.size) (x : P2) {g cap : Nat} (hb : Below w.heap.size w wA) (hg : wA.grownBy w2 vn.ownBlock)
    (hown : w2.ownsRow B 83 2 (.slice (some ⟨g, 0, none⟩) (s.rules.nicks.length + 1) cap) (s.rules.nicks.length + 1) (s.rules.nicks.flatMap encP ++ encP x)) (hat : vn.ownBlock = some g ∨ g = wA.heap.size) :
    PAt B Y vf vt (.slice (some ⟨g, 0, none⟩) (s.rules.nicks.length + 1) cap) vs (addN s x) (w2.setCell ⟨Y, 2, none⟩ (.slice (some ⟨g, 0, none⟩) (s.rules.nicks.length + 1) cap)) ∧ Below B w (w2.setCell ⟨Y, 2, none⟩ (.slice (some ⟨g, 0, none⟩) (s.rules.nicks.length + 1) cap)) := by
  have S1 := step1 (i := 2) h.y h.B (by decide) h.n hb hg hown hat hBw
  have hy2 : w2.heap[Y]? = _ := ((hg.block Y (by have := hb.size; have := lt_of_blk h.y; omega) (by
    intro e1
    rcases h.n.2 with ⟨rfl, _⟩ | ⟨g', cap', cur', rfl, _, hh, _⟩
    · simp [Value.ownBlock] at e1
    · have : Y = g' := by simpa [Value.ownBlock] using e1
      subst this
      have := h.y; rw [hh] at this; injection this with e2; injection e2 with _ e3; revert e3; decide)).trans (hb.block Y (lt_of_blk h.y))).trans h.y
  have o1 := S1.blk h.f (own_ne h.f h.n (by decide)) (by decide)
  have o2 := S1.blk h.t (own_ne h.t h.n (by decide)) (by decide)
  have o3 := S1.blk h.s (ne_symm h.ne) (by decide)
  refine ⟨⟨blk_set (i := 2) hy2, o1.1, o2.1, ?_, o3.1, o3.2.2, h.B⟩, S1.bel⟩
  simpa [Proofs.YtfgoiojmbphmnaaGreatDoor.addN] using S1.own
theorem PAt.addS {B Y : Nat} {vf vt vn vs : Value} {s : SchemaL} {w wA w2 : World} (h : PAt B Y vf vt vn vs s w) (hBw : B ≤ w.heap.size) (x : P2) {g cap : Nat} (hb : Below w.heap.size w wA) (hg : wA.grownBy w2 vs.ownBlock)
    (hown : w2.ownsRow B 83 2 (.slice (some ⟨g, 0, none⟩) (s.rules.streets.length + 1) cap) (s.rules.streets.length + 1) (s.rules.streets.flatMap encP ++ encP x)) (hat : vs.ownBlock = some g ∨ g = wA.heap.size) :
    PAt B Y vf vt vn (.slice (some ⟨g, 0, none⟩) (s.rules.streets.length + 1) cap) (addS s x) (w2.setCell ⟨Y, 3, none⟩ (.slice (some ⟨g, 0, none⟩) (s.rules.streets.length + 1) cap)) ∧ Below B w (w2.setCell ⟨Y, 3, none⟩ (.slice (some ⟨g, 0, none⟩) (s.rules.streets.length + 1) cap)) := by
  have S1 := step1 (i := 3) h.y h.B (by decide) h.s hb hg hown hat hBw
  have hy2 : w2.heap[Y]? = _ := ((hg.block Y (by have := hb.size; have := lt_of_blk h.y; omega) (by
    intro e1
    rcases h.s.2 with ⟨rfl, _⟩ | ⟨g', cap', cur', rfl, _, hh, _⟩
    · simp [Value.ownBlock] at e1
    · have : Y = g' := by simpa [Value.ownBlock] using e1
      subst this
      have := h.y; rw [hh] at this; injection this with e2; injection e2 with _ e3; revert e3; decide)).trans (hb.block Y (lt_of_blk h.y))).trans h.y
  have o1 := S1.blk h.f (own_ne h.f h.s (by decide)) (by decide)
  have o2 := S1.blk h.t (own_ne h.t h.s (by decide)) (by decide)
  have o3 := S1.blk h.n h.ne (by decide)
  refine ⟨⟨blk_set (i := 3) hy2, o1.1, o2.1, o3.1, ?_, o3.2.1, h.B⟩, S1.bel⟩
  simpa [Proofs.YtfgoiojmbphmnaaGreatDoor.addS] using S1.own
theorem PAt.schema {B Y : Nat} {vf vt vn vs : Value} {s : SchemaL} {w : World} (h : PAt B Y vf vt vn vs s w) : SchemaAt w (fun b => B ≤ b) vf vt vn vs s :=
  ⟨Vec.owns (k := 2) (enc := encF) (S := fun b => B ≤ b) (fun _ => rfl) h.f (fun b hb _ => hb), Vec.owns (k := 1) (enc := encS) (S := fun b => B ≤ b) (fun _ => rfl) h.t (fun b hb _ => hb), Vec.owns (k := 2) (enc := encP) (S := fun b => B ≤ b) (fun _ => rfl) h.n (fun b hb _ => hb), Vec.owns (k := 2) (enc := encP) (S := fun b => B ≤ b) (fun _ => rfl) h.s (fun b hb _ => hb)⟩
def wordsL : List (List UInt8) := [kindW 1, kindW 2, kindW 3, kindW 4]
theorem idx_kind (x : List UInt8) : Lib.idxBy (fun _ y => y == x) wordsL default = kindNum x - 1 := by
  unfold Lib.idxBy wordsL
  simp only [Lib.idxByFrom, beq_iff_eq]
  by_cases h1 : x = kindW 1
  · subst h1; rfl
  · by_cases h2 : x = kindW 2
    · subst h2; rfl
    · by_cases h3 : x = kindW 3
      · subst h3; rfl
      · by_cases h4 : x = kindW 4
        · subst h4; rfl
        · have e : kindNum x = 0 := by unfold kindNum; rw [if_neg h1, if_neg h2, if_neg h3, if_neg h4]
          rw [if_neg (fun e => h1 e.symm), if_neg (fun e => h2 e.symm), if_neg (fun e => h3 e.symm), if_neg (fun e => h4 e.symm), e]; rfl
end Go.Proofs.YtfgoiojmbphmnaaGreatDoor
end
