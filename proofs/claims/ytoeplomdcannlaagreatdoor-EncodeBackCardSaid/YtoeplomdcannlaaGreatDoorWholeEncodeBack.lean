/-
  For every input the law EncodeBack returns true, and its arguments read afterwards as they read before; no condition.
-/
import Derived.Test.YtoeplomdcannlaaGreatDoorPartEb9
import Derived.Test.YtoeplomdcannlaaGreatDoorRows
import Derived.ProofKit
import Derived.JoinedOf
import Derived.WalkKit
import Derived.OpenShut
import Derived.ShutString
import Derived.ChangeOld
import Derived.Below
import Derived.Lib.SmallJoins
import Derived.Test.YtoeplomdcannlaaGreatDoorCards
import Derived.Test.YtoeplomdcannlaaGreatDoorTie
import Derived.LaidMore
import Derived.Lay
import Derived.SevenTiedAt
import Derived.Stop.Joined
section
/-
  The closed facts of the row of EncodeBack, each a lemma of its own (so that the kernel gives its memory back behind each).
-/
namespace Go.Proofs.YtoeplomdcannlaaGreatDoor.encodeBack
theorem and_tt {a b : Bool} (h : a = true) (h' : b = true) : (a && b) = true := by rw [h, h']; rfl
set_option maxRecDepth 100000 in
set_option maxHeartbeats 100000000 in
theorem closed : joinedFacts Tryz.pinned.checked.prog 3 Tryz.f3 Rows.encodeBackSpec Rows.encodeBackRow = true := by
  unfold joinedFacts
  repeat' (with_reducible refine and_tt ?_ ?_)
  · as_aux_lemma => kernel_rfl
  · as_aux_lemma => kernel_rfl
  · as_aux_lemma => kernel_rfl
  · as_aux_lemma => kernel_rfl
  · as_aux_lemma => kernel_rfl
  · as_aux_lemma => kernel_rfl
  · as_aux_lemma => kernel_rfl
  · as_aux_lemma => kernel_rfl
  · as_aux_lemma => kernel_rfl
  · as_aux_lemma => kernel_rfl
  · as_aux_lemma => kernel_rfl
  · as_aux_lemma => kernel_rfl
  · as_aux_lemma => kernel_rfl
  · as_aux_lemma => kernel_rfl
  · as_aux_lemma => kernel_rfl
  · as_aux_lemma => kernel_rfl
  · as_aux_lemma => kernel_rfl
  · as_aux_lemma => kernel_rfl
  · as_aux_lemma => kernel_rfl
  · as_aux_lemma => kernel_rfl
  · as_aux_lemma => kernel_rfl
  · as_aux_lemma => kernel_rfl
  · as_aux_lemma => kernel_rfl
  · as_aux_lemma => kernel_rfl
  · as_aux_lemma => kernel_rfl
  · as_aux_lemma => kernel_rfl
  · as_aux_lemma => kernel_rfl
  · as_aux_lemma => kernel_rfl
  · as_aux_lemma => kernel_rfl
  · as_aux_lemma => kernel_rfl
  · as_aux_lemma => kernel_rfl
  · as_aux_lemma => kernel_rfl
end Go.Proofs.YtoeplomdcannlaaGreatDoor.encodeBack
end
section
/- The law EncodeBack, walked: for every list of numbers, place and byte it returns true and leaves what was there. -/
set_option linter.unusedSimpArgs false
set_option linter.unusedVariables false
set_option maxRecDepth 100000
namespace Go.Proofs.YtoeplomdcannlaaGreatDoor
open Go.RowKit Cal
attribute [local go_sem] toList_mk mk_size bytes_append
theorem BitsVec.far {w : World} {S : Nat → Prop} {v : Value} {L : List BitsL} (h : BitsVec w S v L) {a : Addr} {u : Value} (hn : ∀ b, S b → b ≠ a.block) : BitsVec (w.setCell a u) S v L :=
  h.move (by simp [World.setCell]) fun b _ hs => ⟨heap_setCell_other _ _ _ _ (hn b hs), hs⟩
/-- where the law stands: the deck in block D, the schema in block y -/
structure BkAt (D : Nat) (w : World) (y : Nat) (S : Nat → Prop) (vf vt vn vs : Value) (s : SchemaL) (wr : World) : Prop where
  m : Moved D w wr
  b : wr.heap[y]? = some (.cells #[vf, vt, vn, vs] 33 (0, 0))
  s : SchemaAt wr S vf vt vn vs s
  ne : ∀ b, S b → b ≠ D
  yD : y ≠ D
theorem BkAt.moved {D : Nat} {w : World} {y : Nat} {S : Nat → Prop} {vf vt vn vs : Value} {s : SchemaL} {wr wd : World} (h : BkAt D w y S vf vt vn vs s wr) (m : Moved D wr wd) : BkAt D w y S vf vt vn vs s wd :=
  ⟨h.m.trans m, m.blk h.yD h.b, h.s.moved h.ne m, h.ne, h.yD⟩
set_option maxHeartbeats 16000000 in
theorem eback_walk (a : Option Addr) (n cap : Nat) (zs : List Int) (x0_ y : Int) (w : World) (hr : IsRow .i64 w a n cap zs) (hx : (Lit.int .i64 x0_).wf = true) (hy : (Lit.int .u8 y).wf = true) (hM : VarsAt w) :
    Calls Tryz.prog 3 #[.slice a n cap, .int .i64 x0_, .int .u8 y] w fun e w' => e = .returned (.bool true) ∧ Below w.heap.size w w' := by
  have hx1 : -9223372036854775808 ≤ x0_ ∧ x0_ ≤ 9223372036854775807 := by simpa [Lit.wf, IntKind.min, IntKind.max, IntKind.signed, IntKind.bits] using hx
  have hy1 : 0 ≤ y ∧ y ≤ 255 := by simpa [Lit.wf, IntKind.min, IntKind.max, IntKind.signed, IntKind.bits] using hy
  obtain ⟨yb, hyb⟩ : ∃ b : UInt8, y = (b.toNat : Int) := ⟨UInt8.ofNat y.toNat, by rw [UInt8.toNat_ofNat']; omega⟩
  subst hyb
  clear hx hy hy1
  have HVar := Lib.hid hM; clear hM
  by_cases hn : n ≤ 400
  · have hd : decide (n ≤ 400) = true := by simpa using hn
    have HR := Lib.hid hr; clear hr
    go_enter Tryz.func3, Tryz.ntmps3
    go_wp2_with fail
    refine (awake_e _).mono ?_; rintro e w1 ⟨rfl, hb1⟩
    go_wp2_with fail
    refine (few_any a n cap _).mono ?_; rintro e w' ⟨rfl, rfl⟩
    go_wp2_with fail
    refine (new_any a n cap _).mono ?_; rintro e w' ⟨rfl, rfl⟩
    have Hdk := Lib.hid (deck_law (cap := cap) hn HR.out hb1)
    have HB1 := Lib.hid (hb1.alloc hb1.size (.cells #[.slice a n cap, .int .i64 0, .int .u64 11400714819323198485] 87))
    have zB1 := hb1.size
    clear hb1 HR hd
    go_wp2_with fail
    refine (schema_deal _ _ Hdk.out).mono ?_
    rintro e w2 ⟨vf, vt, vn, vs, s, rfl, hs, hsd, mv⟩
    obtain ⟨Wd, hWd⟩ : ∃ Wd : World, w1.alloc (.cells #[.slice a n cap, .int .i64 0, .int .u64 11400714819323198485] 87) = Wd := ⟨_, rfl⟩
    rw [hWd] at mv hs HB1
    obtain ⟨D, hD⟩ : ∃ D, w1.heap.size = D := ⟨_, rfl⟩
    have zWd : Wd.heap.size = D + 1 := by rw [← hWd, ← hD]; simp
    rw [hD] at mv zB1 ⊢
    obtain ⟨af, cf, rfl⟩ := hs.1.slice
    obtain ⟨at', ct, rfl⟩ := hs.2.1.slice
    obtain ⟨an, cn, rfl⟩ := hs.2.2.1.slice
    obtain ⟨as', cs, rfl⟩ := hs.2.2.2.slice
    have zD := mv.deck.lt
    have hlen5 := (check_fields hsd.check).1.2
    have hlen1 := hsd.some
    obtain ⟨N, hN⟩ : ∃ N, s.fields.length = N := ⟨_, rfl⟩
    rw [hN] at hlen5 hlen1 hs ⊢
    have M2 := Lib.hid mv; have HS := Lib.hid hs; have HSD := Lib.hid hsd; have HNN := Lib.hid hN
    clear mv hs hsd hWd hD Hdk hN
    go_wp2_with fail
    refine wp_world (fun W5 hW3 => ?_)
    have hb3 : Below w2.heap.size w2 W5 := by rw [hW3]; exact (Below.refl w2.heap.size w2).alloc (Nat.le_refl _) _
    have hs3 : W5.heap[w2.heap.size]? = some (.cells #[.slice af N cf, .slice at' s.rules.titles.length ct, .slice an s.rules.nicks.length cn, .slice as' s.rules.streets.length cs] 33 (0, 0)) := by rw [hW3]; exact blk_new rfl
    have hSne : ∀ b, Wd.heap.size ≤ b → b ≠ D := fun b h => by omega
    have z23 := M2.out.size
    have HNe := Lib.hid hSne
    have KA := Lib.hid (show BkAt D Wd w2.heap.size (fun b => Wd.heap.size ≤ b) (.slice af N cf) (.slice at' s.rules.titles.length ct) (.slice an s.rules.nicks.length cn) (.slice as' s.rules.streets.length cs) s W5 from
      ⟨M2.out.below hb3, hs3, HS.out.below hb3, hSne, by omega⟩)
    obtain ⟨p0, p1, p2, p3⟩ := cellsS KA.out.b
    have zW5 := KA.out.m.deck.lt
    have mD : Moved D W5 W5.drew := (Moved.start KA.out.m.deck).drew
    clear hb3 hs3 HS hW3 M2 hSne
    go_cut [9, 10] (fun s9 s10 wx => ∃ (xb : Nat) (sv : Value) (x : EncL), s9 = .pointer (some ⟨xb, 0, none⟩) ∧ s10 = .int .i64 0 ∧ wx.heap[xb]? = some (.cells #[.int .i64 x.id, .int .i64 x.ver, sv] 37 (0, 0)) ∧ BitsVec wx (fun b => W5.heap.size ≤ b ∧ b ≠ xb) sv x.fields ∧ Hid (evalidB x = true ∧ ∀ b ∈ x.fields, BitsIn b) ∧ Moved D W5 wx ∧ W5.heap.size ≤ xb)
    case first =>
      refine wp_region_noPanic ?_
      refine wp_region_held_drew (S := (fun w' => w'.cell? ⟨w2.heap.size, 0, none⟩ = some (.slice af N cf) ∧ w'.cell? ⟨w2.heap.size, 1, none⟩ = some (.slice at' s.rules.titles.length ct) ∧ w'.cell? ⟨w2.heap.size, 2, none⟩ = some (.slice an s.rules.nicks.length cn) ∧ w'.cell? ⟨w2.heap.size, 3, none⟩ = some (.slice as' s.rules.streets.length cs))) (by kernel_rfl) (⟨p0, p1, p2, p3⟩) (fun hHeld => ?_)
      refine tH 0 (h := ?_)
      try simp only [List.getElem_toArray, List.getElem_cons_zero, List.getElem_cons_succ, Act.put, List.setIfInBounds_toArray, List.set_cons_zero, List.set_cons_succ]
      refine tH 1 (h := ?_)
      try simp only [List.getElem_toArray, List.getElem_cons_zero, List.getElem_cons_succ, Act.put, List.setIfInBounds_toArray, List.set_cons_zero, List.set_cons_succ]
      refine tH 2 (h := ?_)
      try simp only [List.getElem_toArray, List.getElem_cons_zero, List.getElem_cons_succ, Act.put, List.setIfInBounds_toArray, List.set_cons_zero, List.set_cons_succ]
      refine tH 3 (h := ?_)
      try simp only [List.getElem_toArray, List.getElem_cons_zero, List.getElem_cons_succ, Act.put, List.setIfInBounds_toArray, List.set_cons_zero, List.set_cons_succ]
      refine tH 4 (h := ?_)
      try simp only [List.getElem_toArray, List.getElem_cons_zero, List.getElem_cons_succ, Act.put, List.setIfInBounds_toArray, List.set_cons_zero, List.set_cons_succ]
      refine tH 6 (h := ?_)
      try simp only [List.getElem_toArray, List.getElem_cons_zero, List.getElem_cons_succ, Act.put, List.setIfInBounds_toArray, List.set_cons_zero, List.set_cons_succ]
      refine tH 8 (h := ?_)
      try simp only [List.getElem_toArray, List.getElem_cons_zero, List.getElem_cons_succ, Act.put, List.setIfInBounds_toArray, List.set_cons_zero, List.set_cons_succ]
      refine tH 9 (h := ?_)
      try simp only [List.getElem_toArray, List.getElem_cons_zero, List.getElem_cons_succ, Act.put, List.setIfInBounds_toArray, List.set_cons_zero, List.set_cons_succ]
      refine tH 10 (h := ?_)
      try simp only [List.getElem_toArray, List.getElem_cons_zero, List.getElem_cons_succ, Act.put, List.setIfInBounds_toArray, List.set_cons_zero, List.set_cons_succ]
      refine wpAnyH_ready (rs := [5, 18]) (by kernel_rfl) (by simp) ?_
      refine AllReadyH.cons rfl (fun K hK => ?_) (AllReadyH.cons rfl (fun K hK => ?_) (AllReadyH.nil))
      focus
        go_simp
        refine (pars_deal D N _ (KA.out.moved mD).m.deck hlen5).mono ?_
        rintro e V1 ⟨pv, P, rfl, hpv, hP, mv⟩
        obtain ⟨ap, cp, rfl⟩ := hpv.slice
        have m1 := mD.trans mv
        have hpv := hpv.move (w' := V1) (S' := fun b => D < b) (Nat.le_refl _) fun b hb' hs => ⟨rfl, by have h1 := mD.size; have hs' := hs; omega⟩
        have HPD := Lib.hid hP; clear hP mv
        refine hK.out _ _ (⟨(cellsS (KA.out.moved (m1)).b).1, (cellsS (KA.out.moved (m1)).b).2.1, (cellsS (KA.out.moved (m1)).b).2.2.1, (cellsS (KA.out.moved (m1)).b).2.2.2⟩) (fun hHeld => ?_)
        clear hK K
        try simp only [List.getElem_toArray, List.getElem_cons_zero, List.getElem_cons_succ, Act.put, List.setIfInBounds_toArray, List.set_cons_zero, List.set_cons_succ]
        refine wpAnyH_ready (rs := [7, 18]) (by kernel_rfl) (by simp) ?_
        refine AllReadyH.cons rfl (fun K hK => ?_) (AllReadyH.cons rfl (fun K hK => ?_) (AllReadyH.nil))
        focus
          go_simp
          refine (key_deal D _ (KA.out.moved m1).m.deck).mono ?_
          rintro e V2 ⟨k, rfl, mv⟩
          have m2 := m1.trans mv
          have hpv := hpv.move mv.size (S' := fun b => D < b) fun b hb' hs => ⟨mv.grown.block b hb' (by have hs' : D < b := hs; simp; omega), hs⟩
          clear mv
          refine hK.out _ _ (⟨(cellsS (KA.out.moved (m2)).b).1, (cellsS (KA.out.moved (m2)).b).2.1, (cellsS (KA.out.moved (m2)).b).2.2.1, (cellsS (KA.out.moved (m2)).b).2.2.2⟩) (fun hHeld => ?_)
          clear hK K
          try simp only [List.getElem_toArray, List.getElem_cons_zero, List.getElem_cons_succ, Act.put, List.setIfInBounds_toArray, List.set_cons_zero, List.set_cons_succ]
          refine wpAnyH_ready (rs := [11, 18]) (by kernel_rfl) (by simp) ?_
          refine AllReadyH.cons rfl (fun K hK => ?_) (AllReadyH.cons rfl (fun K hK => ?_) (AllReadyH.nil))
          focus
            go_simp
            refine (next_any D _ 5000 (KA.out.moved m2).m.deck (by omega) (by omega)).mono ?_
            rintro e V3 ⟨x, rfl, x0, x1, mv⟩
            have m3 := m2.trans mv
            have hpv := hpv.move mv.size (S' := fun b => D < b) fun b hb' hs => ⟨mv.grown.block b hb' (by have hs' : D < b := hs; simp; omega), hs⟩
            have hwx : IntKind.i64.wrap (1 + x) = 1 + x := by rw [IntKind.wrap_i64]; omega
            clear mv
            refine hK.out _ _ (⟨(cellsS (KA.out.moved (m3)).b).1, (cellsS (KA.out.moved (m3)).b).2.1, (cellsS (KA.out.moved (m3)).b).2.2.1, (cellsS (KA.out.moved (m3)).b).2.2.2⟩) (fun hHeld => ?_)
            clear hK K
            try simp only [List.getElem_toArray, List.getElem_cons_zero, List.getElem_cons_succ, Act.put, List.setIfInBounds_toArray, List.set_cons_zero, List.set_cons_succ]
            refine tH 12 (h := ?_)
            try simp only [List.getElem_toArray, List.getElem_cons_zero, List.getElem_cons_succ, Act.put, List.setIfInBounds_toArray, List.set_cons_zero, List.set_cons_succ]
            refine wpAnyH_ready (rs := [13, 18]) (by kernel_rfl) (by simp) ?_
            refine AllReadyH.cons rfl (fun K hK => ?_) (AllReadyH.cons rfl (fun K hK => ?_) (AllReadyH.nil))
            focus
              go_simp
              refine (record_deal D (fun b => Wd.heap.size ≤ b) _ _ _ _ s (1 + x) _ (KA.out.moved m3).m.deck (KA.out.moved m3).s HNe.out HSD.out (by omega) (by omega)).mono ?_
              rintro e V4 ⟨_, r, rfl, ⟨sv, rfl, hv⟩, -, hc, hsh, mv⟩
              have m4 := m3.trans mv
              have hpv := hpv.move mv.size (S' := fun b => D < b) fun b hb' hs => ⟨mv.grown.block b hb' (by have hs' : D < b := hs; simp; omega), hs⟩
              have hv := hv.move (w' := V4) (S' := fun b => D < b) (Nat.le_refl _) fun b hb' hs => ⟨rfl, by have h1 := m3.size; have hs' := hs; omega⟩
              obtain ⟨av, cv, esv⟩ := hv.slice; subst esv
              have HRC := Lib.hid (show RecIn s P r from ⟨HSD.out.check, hc, HPD.out.len.trans HNN.out.symm, HPD.out.ok, hsh⟩); clear hc hsh mv
              refine hK.out _ _ (⟨(cellsS (KA.out.moved (m4)).b).1, (cellsS (KA.out.moved (m4)).b).2.1, (cellsS (KA.out.moved (m4)).b).2.2.1, (cellsS (KA.out.moved (m4)).b).2.2.2⟩) (fun hHeld => ?_)
              clear hK K
              try simp only [List.getElem_toArray, List.getElem_cons_zero, List.getElem_cons_succ, Act.put, List.setIfInBounds_toArray, List.set_cons_zero, List.set_cons_succ]
              refine wpAnyH_ready (rs := [14, 18]) (by kernel_rfl) (by simp) ?_
              refine AllReadyH.cons rfl (fun K hK => ?_) (AllReadyH.cons rfl (fun K hK => ?_) (AllReadyH.nil))
              focus
                go_simp
                obtain ⟨F, hF⟩ : ∃ F, fieldsN s P k r.vals P.length = F := ⟨_, rfl⟩
                have hX : encN s P k r = ⟨r.id, r.ver, F⟩ := by rw [← hF]; rfl
                have HEV := Lib.hid (show evalidB ⟨r.id, r.ver, F⟩ = true ∧ ∀ b ∈ F, BitsIn b by rw [← hX]; have h1 := HPD.out.len; exact ⟨enc_valid HRC.out (by omega) (by omega), by rw [← hF]; exact fieldsN_in HRC.out⟩)
                have hrr := erecord_yes (fun b => Wd.heap.size ≤ b) _ _ _ _ s P _ k r _ _ (KA.out.moved m4).s hpv.any hv.any HRC.out
                rw [hX] at hrr
                refine hrr.mono ?_
                rintro e V5 ⟨_, rfl, ⟨su, rfl, hbu⟩, hb⟩
                dsimp only at hbu ⊢
                have m5 := m4.below hb
                have hbu := hbu.move (w' := V5) (T := fun b => W5.heap.size ≤ b) (Nat.le_refl _) fun b hb' hs => ⟨rfl, by have h1 := m4.size; have hs' := hs; omega⟩
                obtain ⟨ax, cx, rfl⟩ := hbu.slice
                clear hb hrr hX hF hpv hv
                refine hK.out _ _ (⟨(cellsS (KA.out.moved (m5)).b).1, (cellsS (KA.out.moved (m5)).b).2.1, (cellsS (KA.out.moved (m5)).b).2.2.1, (cellsS (KA.out.moved (m5)).b).2.2.2⟩) (fun hHeld => ?_)
                clear hK K
                try simp only [List.getElem_toArray, List.getElem_cons_zero, List.getElem_cons_succ, Act.put, List.setIfInBounds_toArray, List.set_cons_zero, List.set_cons_succ]
                refine tH 15 (h := ?_)
                try simp only [List.getElem_toArray, List.getElem_cons_zero, List.getElem_cons_succ, Act.put, List.setIfInBounds_toArray, List.set_cons_zero, List.set_cons_succ]
                refine tH 16 (h := ?_)
                try simp only [List.getElem_toArray, List.getElem_cons_zero, List.getElem_cons_succ, Act.put, List.setIfInBounds_toArray, List.set_cons_zero, List.set_cons_succ]
                refine tH 17 (h := ?_)
                try simp only [List.getElem_toArray, List.getElem_cons_zero, List.getElem_cons_succ, Act.put, List.setIfInBounds_toArray, List.set_cons_zero, List.set_cons_succ]
                refine wpAnyH_ready (rs := [18]) (by kernel_rfl) (by simp) ?_
                refine AllReadyH.cons rfl (fun K hK => ?_) (AllReadyH.nil)
                go_simp
                refine hK.out _ _ (⟨(cellsS (KA.out.moved (m5.alloc (.cells #[.int .i64 0, .int .i64 0, .slice none 0 0] 37))).b).1, (cellsS (KA.out.moved (m5.alloc (.cells #[.int .i64 0, .int .i64 0, .slice none 0 0] 37))).b).2.1, (cellsS (KA.out.moved (m5.alloc (.cells #[.int .i64 0, .int .i64 0, .slice none 0 0] 37))).b).2.2.1, (cellsS (KA.out.moved (m5.alloc (.cells #[.int .i64 0, .int .i64 0, .slice none 0 0] 37))).b).2.2.2⟩) (fun hHeld => ?_)
                clear hK K
                try simp only [List.getElem_toArray, List.getElem_cons_zero, List.getElem_cons_succ, Act.put, List.setIfInBounds_toArray, List.set_cons_zero, List.set_cons_succ]
                refine wph_name (fun V6 hV => ?_)
                have m6 : Moved D W5 V6 := by rw [hV]; exact m5.alloc (.cells #[.int .i64 0, .int .i64 0, .slice none 0 0] 37)
                have gx : V6.heap[V5.heap.size]? = some (.cells #[.int .i64 0, .int .i64 0, .slice none 0 0] 37 (0, 0)) := by rw [hV]; exact blk_new rfl
                have hrx : W5.heap.size ≤ V5.heap.size := m5.size
                have hbu := hbu.move (w' := V6) (T := fun b => W5.heap.size ≤ b ∧ b ≠ V5.heap.size) (by rw [hV]; simp) fun b hb' hs => ⟨by rw [hV]; exact heap_alloc_old _ _ hb', by have hs' : W5.heap.size ≤ b := hs; exact ⟨hs', by omega⟩⟩
                clear hV hHeld
                have hHeld : V6.cell? ⟨w2.heap.size, 0, none⟩ = some (.slice af N cf) ∧ V6.cell? ⟨w2.heap.size, 1, none⟩ = some (.slice at' s.rules.titles.length ct) ∧ V6.cell? ⟨w2.heap.size, 2, none⟩ = some (.slice an s.rules.nicks.length cn) ∧ V6.cell? ⟨w2.heap.size, 3, none⟩ = some (.slice as' s.rules.streets.length cs) := ⟨(cellsS (KA.out.moved (m6)).b).1, (cellsS (KA.out.moved (m6)).b).2.1, (cellsS (KA.out.moved (m6)).b).2.2.1, (cellsS (KA.out.moved (m6)).b).2.2.2⟩
              rotate_left 1
              focus
                go_simp
                refine hK.out _ _ (⟨(cellsS (KA.out.moved (m4.alloc (.cells #[.int .i64 0, .int .i64 0, .slice none 0 0] 37))).b).1, (cellsS (KA.out.moved (m4.alloc (.cells #[.int .i64 0, .int .i64 0, .slice none 0 0] 37))).b).2.1, (cellsS (KA.out.moved (m4.alloc (.cells #[.int .i64 0, .int .i64 0, .slice none 0 0] 37))).b).2.2.1, (cellsS (KA.out.moved (m4.alloc (.cells #[.int .i64 0, .int .i64 0, .slice none 0 0] 37))).b).2.2.2⟩) (fun hHeld => ?_)
                clear hK K
                try simp only [List.getElem_toArray, List.getElem_cons_zero, List.getElem_cons_succ, Act.put, List.setIfInBounds_toArray, List.set_cons_zero, List.set_cons_succ]
                refine wph_name (fun V5 hV => ?_)
                have m5 : Moved D W5 V5 := by rw [hV]; exact m4.alloc (.cells #[.int .i64 0, .int .i64 0, .slice none 0 0] 37)
                have gx : V5.heap[V4.heap.size]? = some (.cells #[.int .i64 0, .int .i64 0, .slice none 0 0] 37 (0, 0)) := by rw [hV]; exact blk_new rfl
                have hrx : W5.heap.size ≤ V4.heap.size := m4.size
                have hpv := hpv.move (w' := V5) (S' := fun b => D < b) (by rw [hV]; simp) fun b hb' hs => ⟨by rw [hV]; exact heap_alloc_old _ _ hb', hs⟩
                have hv := hv.move (w' := V5) (S' := fun b => D < b) (by rw [hV]; simp) fun b hb' hs => ⟨by rw [hV]; exact heap_alloc_old _ _ hb', hs⟩
                clear hV hHeld
                have hHeld : V5.cell? ⟨w2.heap.size, 0, none⟩ = some (.slice af N cf) ∧ V5.cell? ⟨w2.heap.size, 1, none⟩ = some (.slice at' s.rules.titles.length ct) ∧ V5.cell? ⟨w2.heap.size, 2, none⟩ = some (.slice an s.rules.nicks.length cn) ∧ V5.cell? ⟨w2.heap.size, 3, none⟩ = some (.slice as' s.rules.streets.length cs) := ⟨(cellsS (KA.out.moved (m5)).b).1, (cellsS (KA.out.moved (m5)).b).2.1, (cellsS (KA.out.moved (m5)).b).2.2.1, (cellsS (KA.out.moved (m5)).b).2.2.2⟩
                refine wpAnyH_ready (rs := [14]) (by kernel_rfl) (by simp) ?_
                refine AllReadyH.cons rfl (fun K hK => ?_) (AllReadyH.nil)
                go_simp
                obtain ⟨F, hF⟩ : ∃ F, fieldsN s P k r.vals P.length = F := ⟨_, rfl⟩
                have hX : encN s P k r = ⟨r.id, r.ver, F⟩ := by rw [← hF]; rfl
                have HEV := Lib.hid (show evalidB ⟨r.id, r.ver, F⟩ = true ∧ ∀ b ∈ F, BitsIn b by rw [← hX]; have h1 := HPD.out.len; exact ⟨enc_valid HRC.out (by omega) (by omega), by rw [← hF]; exact fieldsN_in HRC.out⟩)
                have hrr := erecord_yes (fun b => Wd.heap.size ≤ b) _ _ _ _ s P _ k r _ _ (KA.out.moved m5).s hpv.any hv.any HRC.out
                rw [hX] at hrr
                refine hrr.mono ?_
                rintro e V6 ⟨_, rfl, ⟨su, rfl, hbu⟩, hb⟩
                dsimp only at hbu ⊢
                have m6 := m5.below hb
                have hltx := lt_of_blk gx; have gx := blk_below hb hltx gx
                have hbu := hbu.move (w' := V6) (T := fun b => W5.heap.size ≤ b ∧ b ≠ V4.heap.size) (Nat.le_refl _) fun b hb' hs => ⟨rfl, by have h1 := m5.size; have hs' := hs; exact ⟨by omega, by omega⟩⟩
                obtain ⟨ax, cx, rfl⟩ := hbu.slice
                clear hb hrr hX hF hpv hv
                refine hK.out _ _ (⟨(cellsS (KA.out.moved (m6)).b).1, (cellsS (KA.out.moved (m6)).b).2.1, (cellsS (KA.out.moved (m6)).b).2.2.1, (cellsS (KA.out.moved (m6)).b).2.2.2⟩) (fun hHeld => ?_)
                clear hK K
                try simp only [List.getElem_toArray, List.getElem_cons_zero, List.getElem_cons_succ, Act.put, List.setIfInBounds_toArray, List.set_cons_zero, List.set_cons_succ]
                refine tH 15 (h := ?_)
                try simp only [List.getElem_toArray, List.getElem_cons_zero, List.getElem_cons_succ, Act.put, List.setIfInBounds_toArray, List.set_cons_zero, List.set_cons_succ]
                refine tH 16 (h := ?_)
                try simp only [List.getElem_toArray, List.getElem_cons_zero, List.getElem_cons_succ, Act.put, List.setIfInBounds_toArray, List.set_cons_zero, List.set_cons_succ]
                refine tH 17 (h := ?_)
                try simp only [List.getElem_toArray, List.getElem_cons_zero, List.getElem_cons_succ, Act.put, List.setIfInBounds_toArray, List.set_cons_zero, List.set_cons_succ]
            rotate_left 2
            focus
              go_simp
              refine hK.out _ _ (⟨(cellsS (KA.out.moved (m3.alloc (.cells #[.int .i64 0, .int .i64 0, .slice none 0 0] 37))).b).1, (cellsS (KA.out.moved (m3.alloc (.cells #[.int .i64 0, .int .i64 0, .slice none 0 0] 37))).b).2.1, (cellsS (KA.out.moved (m3.alloc (.cells #[.int .i64 0, .int .i64 0, .slice none 0 0] 37))).b).2.2.1, (cellsS (KA.out.moved (m3.alloc (.cells #[.int .i64 0, .int .i64 0, .slice none 0 0] 37))).b).2.2.2⟩) (fun hHeld => ?_)
              clear hK K
              try simp only [List.getElem_toArray, List.getElem_cons_zero, List.getElem_cons_succ, Act.put, List.setIfInBounds_toArray, List.set_cons_zero, List.set_cons_succ]
              refine wph_name (fun V4 hV => ?_)
              have m4 : Moved D W5 V4 := by rw [hV]; exact m3.alloc (.cells #[.int .i64 0, .int .i64 0, .slice none 0 0] 37)
              have gx : V4.heap[V3.heap.size]? = some (.cells #[.int .i64 0, .int .i64 0, .slice none 0 0] 37 (0, 0)) := by rw [hV]; exact blk_new rfl
              have hrx : W5.heap.size ≤ V3.heap.size := m3.size
              have hpv := hpv.move (w' := V4) (S' := fun b => D < b) (by rw [hV]; simp) fun b hb' hs => ⟨by rw [hV]; exact heap_alloc_old _ _ hb', hs⟩
              clear hV hHeld
              have hHeld : V4.cell? ⟨w2.heap.size, 0, none⟩ = some (.slice af N cf) ∧ V4.cell? ⟨w2.heap.size, 1, none⟩ = some (.slice at' s.rules.titles.length ct) ∧ V4.cell? ⟨w2.heap.size, 2, none⟩ = some (.slice an s.rules.nicks.length cn) ∧ V4.cell? ⟨w2.heap.size, 3, none⟩ = some (.slice as' s.rules.streets.length cs) := ⟨(cellsS (KA.out.moved (m4)).b).1, (cellsS (KA.out.moved (m4)).b).2.1, (cellsS (KA.out.moved (m4)).b).2.2.1, (cellsS (KA.out.moved (m4)).b).2.2.2⟩
              refine wpAnyH_ready (rs := [13]) (by kernel_rfl) (by simp) ?_
              refine AllReadyH.cons rfl (fun K hK => ?_) (AllReadyH.nil)
              go_simp
              refine (record_deal D (fun b => Wd.heap.size ≤ b) _ _ _ _ s (1 + x) _ (KA.out.moved m4).m.deck (KA.out.moved m4).s HNe.out HSD.out (by omega) (by omega)).mono ?_
              rintro e V5 ⟨_, r, rfl, ⟨sv, rfl, hv⟩, -, hc, hsh, mv⟩
              have m5 := m4.trans mv
              have hltx := lt_of_blk gx; have gx := mv.blk (by omega) gx
              have hpv := hpv.move mv.size (S' := fun b => D < b) fun b hb' hs => ⟨mv.grown.block b hb' (by have hs' : D < b := hs; simp; omega), hs⟩
              have hv := hv.move (w' := V5) (S' := fun b => D < b) (Nat.le_refl _) fun b hb' hs => ⟨rfl, by have h1 := m4.size; have hs' := hs; omega⟩
              obtain ⟨av, cv, esv⟩ := hv.slice; subst esv
              have HRC := Lib.hid (show RecIn s P r from ⟨HSD.out.check, hc, HPD.out.len.trans HNN.out.symm, HPD.out.ok, hsh⟩); clear hc hsh mv
              refine hK.out _ _ (⟨(cellsS (KA.out.moved (m5)).b).1, (cellsS (KA.out.moved (m5)).b).2.1, (cellsS (KA.out.moved (m5)).b).2.2.1, (cellsS (KA.out.moved (m5)).b).2.2.2⟩) (fun hHeld => ?_)
              clear hK K
              try simp only [List.getElem_toArray, List.getElem_cons_zero, List.getElem_cons_succ, Act.put, List.setIfInBounds_toArray, List.set_cons_zero, List.set_cons_succ]
              refine wpAnyH_ready (rs := [14]) (by kernel_rfl) (by simp) ?_
              refine AllReadyH.cons rfl (fun K hK => ?_) (AllReadyH.nil)
              go_simp
              obtain ⟨F, hF⟩ : ∃ F, fieldsN s P k r.vals P.length = F := ⟨_, rfl⟩
              have hX : encN s P k r = ⟨r.id, r.ver, F⟩ := by rw [← hF]; rfl
              have HEV := Lib.hid (show evalidB ⟨r.id, r.ver, F⟩ = true ∧ ∀ b ∈ F, BitsIn b by rw [← hX]; have h1 := HPD.out.len; exact ⟨enc_valid HRC.out (by omega) (by omega), by rw [← hF]; exact fieldsN_in HRC.out⟩)
              have hrr := erecord_yes (fun b => Wd.heap.size ≤ b) _ _ _ _ s P _ k r _ _ (KA.out.moved m5).s hpv.any hv.any HRC.out
              rw [hX] at hrr
              refine hrr.mono ?_
              rintro e V6 ⟨_, rfl, ⟨su, rfl, hbu⟩, hb⟩
              dsimp only at hbu ⊢
              have m6 := m5.below hb
              have hltx := lt_of_blk gx; have gx := blk_below hb hltx gx
              have hbu := hbu.move (w' := V6) (T := fun b => W5.heap.size ≤ b ∧ b ≠ V3.heap.size) (Nat.le_refl _) fun b hb' hs => ⟨rfl, by have h1 := m5.size; have hs' := hs; exact ⟨by omega, by omega⟩⟩
              obtain ⟨ax, cx, rfl⟩ := hbu.slice
              clear hb hrr hX hF hpv hv
              refine hK.out _ _ (⟨(cellsS (KA.out.moved (m6)).b).1, (cellsS (KA.out.moved (m6)).b).2.1, (cellsS (KA.out.moved (m6)).b).2.2.1, (cellsS (KA.out.moved (m6)).b).2.2.2⟩) (fun hHeld => ?_)
              clear hK K
              try simp only [List.getElem_toArray, List.getElem_cons_zero, List.getElem_cons_succ, Act.put, List.setIfInBounds_toArray, List.set_cons_zero, List.set_cons_succ]
              refine tH 15 (h := ?_)
              try simp only [List.getElem_toArray, List.getElem_cons_zero, List.getElem_cons_succ, Act.put, List.setIfInBounds_toArray, List.set_cons_zero, List.set_cons_succ]
              refine tH 16 (h := ?_)
              try simp only [List.getElem_toArray, List.getElem_cons_zero, List.getElem_cons_succ, Act.put, List.setIfInBounds_toArray, List.set_cons_zero, List.set_cons_succ]
              refine tH 17 (h := ?_)
              try simp only [List.getElem_toArray, List.getElem_cons_zero, List.getElem_cons_succ, Act.put, List.setIfInBounds_toArray, List.set_cons_zero, List.set_cons_succ]
          rotate_left 3
          focus
            go_simp
            refine hK.out _ _ (⟨(cellsS (KA.out.moved (m2.alloc (.cells #[.int .i64 0, .int .i64 0, .slice none 0 0] 37))).b).1, (cellsS (KA.out.moved (m2.alloc (.cells #[.int .i64 0, .int .i64 0, .slice none 0 0] 37))).b).2.1, (cellsS (KA.out.moved (m2.alloc (.cells #[.int .i64 0, .int .i64 0, .slice none 0 0] 37))).b).2.2.1, (cellsS (KA.out.moved (m2.alloc (.cells #[.int .i64 0, .int .i64 0, .slice none 0 0] 37))).b).2.2.2⟩) (fun hHeld => ?_)
            clear hK K
            try simp only [List.getElem_toArray, List.getElem_cons_zero, List.getElem_cons_succ, Act.put, List.setIfInBounds_toArray, List.set_cons_zero, List.set_cons_succ]
            refine wph_name (fun V3 hV => ?_)
            have m3 : Moved D W5 V3 := by rw [hV]; exact m2.alloc (.cells #[.int .i64 0, .int .i64 0, .slice none 0 0] 37)
            have gx : V3.heap[V2.heap.size]? = some (.cells #[.int .i64 0, .int .i64 0, .slice none 0 0] 37 (0, 0)) := by rw [hV]; exact blk_new rfl
            have hrx : W5.heap.size ≤ V2.heap.size := m2.size
            have hpv := hpv.move (w' := V3) (S' := fun b => D < b) (by rw [hV]; simp) fun b hb' hs => ⟨by rw [hV]; exact heap_alloc_old _ _ hb', hs⟩
            clear hV hHeld
            have hHeld : V3.cell? ⟨w2.heap.size, 0, none⟩ = some (.slice af N cf) ∧ V3.cell? ⟨w2.heap.size, 1, none⟩ = some (.slice at' s.rules.titles.length ct) ∧ V3.cell? ⟨w2.heap.size, 2, none⟩ = some (.slice an s.rules.nicks.length cn) ∧ V3.cell? ⟨w2.heap.size, 3, none⟩ = some (.slice as' s.rules.streets.length cs) := ⟨(cellsS (KA.out.moved (m3)).b).1, (cellsS (KA.out.moved (m3)).b).2.1, (cellsS (KA.out.moved (m3)).b).2.2.1, (cellsS (KA.out.moved (m3)).b).2.2.2⟩
            refine wpAnyH_ready (rs := [11]) (by kernel_rfl) (by simp) ?_
            refine AllReadyH.cons rfl (fun K hK => ?_) (AllReadyH.nil)
            go_simp
            refine (next_any D _ 5000 (KA.out.moved m3).m.deck (by omega) (by omega)).mono ?_
            rintro e V4 ⟨x, rfl, x0, x1, mv⟩
            have m4 := m3.trans mv
            have hltx := lt_of_blk gx; have gx := mv.blk (by omega) gx
            have hpv := hpv.move mv.size (S' := fun b => D < b) fun b hb' hs => ⟨mv.grown.block b hb' (by have hs' : D < b := hs; simp; omega), hs⟩
            have hwx : IntKind.i64.wrap (1 + x) = 1 + x := by rw [IntKind.wrap_i64]; omega
            clear mv
            refine hK.out _ _ (⟨(cellsS (KA.out.moved (m4)).b).1, (cellsS (KA.out.moved (m4)).b).2.1, (cellsS (KA.out.moved (m4)).b).2.2.1, (cellsS (KA.out.moved (m4)).b).2.2.2⟩) (fun hHeld => ?_)
            clear hK K
            try simp only [List.getElem_toArray, List.getElem_cons_zero, List.getElem_cons_succ, Act.put, List.setIfInBounds_toArray, List.set_cons_zero, List.set_cons_succ]
            refine tH 12 (h := ?_)
            try simp only [List.getElem_toArray, List.getElem_cons_zero, List.getElem_cons_succ, Act.put, List.setIfInBounds_toArray, List.set_cons_zero, List.set_cons_succ]
            refine wpAnyH_ready (rs := [13]) (by kernel_rfl) (by simp) ?_
            refine AllReadyH.cons rfl (fun K hK => ?_) (AllReadyH.nil)
            go_simp
            refine (record_deal D (fun b => Wd.heap.size ≤ b) _ _ _ _ s (1 + x) _ (KA.out.moved m4).m.deck (KA.out.moved m4).s HNe.out HSD.out (by omega) (by omega)).mono ?_
            rintro e V5 ⟨_, r, rfl, ⟨sv, rfl, hv⟩, -, hc, hsh, mv⟩
            have m5 := m4.trans mv
            have hltx := lt_of_blk gx; have gx := mv.blk (by omega) gx
            have hpv := hpv.move mv.size (S' := fun b => D < b) fun b hb' hs => ⟨mv.grown.block b hb' (by have hs' : D < b := hs; simp; omega), hs⟩
            have hv := hv.move (w' := V5) (S' := fun b => D < b) (Nat.le_refl _) fun b hb' hs => ⟨rfl, by have h1 := m4.size; have hs' := hs; omega⟩
            obtain ⟨av, cv, esv⟩ := hv.slice; subst esv
            have HRC := Lib.hid (show RecIn s P r from ⟨HSD.out.check, hc, HPD.out.len.trans HNN.out.symm, HPD.out.ok, hsh⟩); clear hc hsh mv
            refine hK.out _ _ (⟨(cellsS (KA.out.moved (m5)).b).1, (cellsS (KA.out.moved (m5)).b).2.1, (cellsS (KA.out.moved (m5)).b).2.2.1, (cellsS (KA.out.moved (m5)).b).2.2.2⟩) (fun hHeld => ?_)
            clear hK K
            try simp only [List.getElem_toArray, List.getElem_cons_zero, List.getElem_cons_succ, Act.put, List.setIfInBounds_toArray, List.set_cons_zero, List.set_cons_succ]
            refine wpAnyH_ready (rs := [14]) (by kernel_rfl) (by simp) ?_
            refine AllReadyH.cons rfl (fun K hK => ?_) (AllReadyH.nil)
            go_simp
            obtain ⟨F, hF⟩ : ∃ F, fieldsN s P k r.vals P.length = F := ⟨_, rfl⟩
            have hX : encN s P k r = ⟨r.id, r.ver, F⟩ := by rw [← hF]; rfl
            have HEV := Lib.hid (show evalidB ⟨r.id, r.ver, F⟩ = true ∧ ∀ b ∈ F, BitsIn b by rw [← hX]; have h1 := HPD.out.len; exact ⟨enc_valid HRC.out (by omega) (by omega), by rw [← hF]; exact fieldsN_in HRC.out⟩)
            have hrr := erecord_yes (fun b => Wd.heap.size ≤ b) _ _ _ _ s P _ k r _ _ (KA.out.moved m5).s hpv.any hv.any HRC.out
            rw [hX] at hrr
            refine hrr.mono ?_
            rintro e V6 ⟨_, rfl, ⟨su, rfl, hbu⟩, hb⟩
            dsimp only at hbu ⊢
            have m6 := m5.below hb
            have hltx := lt_of_blk gx; have gx := blk_below hb hltx gx
            have hbu := hbu.move (w' := V6) (T := fun b => W5.heap.size ≤ b ∧ b ≠ V2.heap.size) (Nat.le_refl _) fun b hb' hs => ⟨rfl, by have h1 := m5.size; have hs' := hs; exact ⟨by omega, by omega⟩⟩
            obtain ⟨ax, cx, rfl⟩ := hbu.slice
            clear hb hrr hX hF hpv hv
            refine hK.out _ _ (⟨(cellsS (KA.out.moved (m6)).b).1, (cellsS (KA.out.moved (m6)).b).2.1, (cellsS (KA.out.moved (m6)).b).2.2.1, (cellsS (KA.out.moved (m6)).b).2.2.2⟩) (fun hHeld => ?_)
            clear hK K
            try simp only [List.getElem_toArray, List.getElem_cons_zero, List.getElem_cons_succ, Act.put, List.setIfInBounds_toArray, List.set_cons_zero, List.set_cons_succ]
            refine tH 15 (h := ?_)
            try simp only [List.getElem_toArray, List.getElem_cons_zero, List.getElem_cons_succ, Act.put, List.setIfInBounds_toArray, List.set_cons_zero, List.set_cons_succ]
            refine tH 16 (h := ?_)
            try simp only [List.getElem_toArray, List.getElem_cons_zero, List.getElem_cons_succ, Act.put, List.setIfInBounds_toArray, List.set_cons_zero, List.set_cons_succ]
            refine tH 17 (h := ?_)
            try simp only [List.getElem_toArray, List.getElem_cons_zero, List.getElem_cons_succ, Act.put, List.setIfInBounds_toArray, List.set_cons_zero, List.set_cons_succ]
        rotate_left 4
        focus
          go_simp
          refine hK.out _ _ (⟨(cellsS (KA.out.moved (m1.alloc (.cells #[.int .i64 0, .int .i64 0, .slice none 0 0] 37))).b).1, (cellsS (KA.out.moved (m1.alloc (.cells #[.int .i64 0, .int .i64 0, .slice none 0 0] 37))).b).2.1, (cellsS (KA.out.moved (m1.alloc (.cells #[.int .i64 0, .int .i64 0, .slice none 0 0] 37))).b).2.2.1, (cellsS (KA.out.moved (m1.alloc (.cells #[.int .i64 0, .int .i64 0, .slice none 0 0] 37))).b).2.2.2⟩) (fun hHeld => ?_)
          clear hK K
          try simp only [List.getElem_toArray, List.getElem_cons_zero, List.getElem_cons_succ, Act.put, List.setIfInBounds_toArray, List.set_cons_zero, List.set_cons_succ]
          refine wph_name (fun V2 hV => ?_)
          have m2 : Moved D W5 V2 := by rw [hV]; exact m1.alloc (.cells #[.int .i64 0, .int .i64 0, .slice none 0 0] 37)
          have gx : V2.heap[V1.heap.size]? = some (.cells #[.int .i64 0, .int .i64 0, .slice none 0 0] 37 (0, 0)) := by rw [hV]; exact blk_new rfl
          have hrx : W5.heap.size ≤ V1.heap.size := m1.size
          have hpv := hpv.move (w' := V2) (S' := fun b => D < b) (by rw [hV]; simp) fun b hb' hs => ⟨by rw [hV]; exact heap_alloc_old _ _ hb', hs⟩
          clear hV hHeld
          have hHeld : V2.cell? ⟨w2.heap.size, 0, none⟩ = some (.slice af N cf) ∧ V2.cell? ⟨w2.heap.size, 1, none⟩ = some (.slice at' s.rules.titles.length ct) ∧ V2.cell? ⟨w2.heap.size, 2, none⟩ = some (.slice an s.rules.nicks.length cn) ∧ V2.cell? ⟨w2.heap.size, 3, none⟩ = some (.slice as' s.rules.streets.length cs) := ⟨(cellsS (KA.out.moved (m2)).b).1, (cellsS (KA.out.moved (m2)).b).2.1, (cellsS (KA.out.moved (m2)).b).2.2.1, (cellsS (KA.out.moved (m2)).b).2.2.2⟩
          refine wpAnyH_ready (rs := [7]) (by kernel_rfl) (by simp) ?_
          refine AllReadyH.cons rfl (fun K hK => ?_) (AllReadyH.nil)
          go_simp
          refine (key_deal D _ (KA.out.moved m2).m.deck).mono ?_
          rintro e V3 ⟨k, rfl, mv⟩
          have m3 := m2.trans mv
          have hltx := lt_of_blk gx; have gx := mv.blk (by omega) gx
          have hpv := hpv.move mv.size (S' := fun b => D < b) fun b hb' hs => ⟨mv.grown.block b hb' (by have hs' : D < b := hs; simp; omega), hs⟩
          clear mv
          refine hK.out _ _ (⟨(cellsS (KA.out.moved (m3)).b).1, (cellsS (KA.out.moved (m3)).b).2.1, (cellsS (KA.out.moved (m3)).b).2.2.1, (cellsS (KA.out.moved (m3)).b).2.2.2⟩) (fun hHeld => ?_)
          clear hK K
          try simp only [List.getElem_toArray, List.getElem_cons_zero, List.getElem_cons_succ, Act.put, List.setIfInBounds_toArray, List.set_cons_zero, List.set_cons_succ]
          refine wpAnyH_ready (rs := [11]) (by kernel_rfl) (by simp) ?_
          refine AllReadyH.cons rfl (fun K hK => ?_) (AllReadyH.nil)
          go_simp
          refine (next_any D _ 5000 (KA.out.moved m3).m.deck (by omega) (by omega)).mono ?_
          rintro e V4 ⟨x, rfl, x0, x1, mv⟩
          have m4 := m3.trans mv
          have hltx := lt_of_blk gx; have gx := mv.blk (by omega) gx
          have hpv := hpv.move mv.size (S' := fun b => D < b) fun b hb' hs => ⟨mv.grown.block b hb' (by have hs' : D < b := hs; simp; omega), hs⟩
          have hwx : IntKind.i64.wrap (1 + x) = 1 + x := by rw [IntKind.wrap_i64]; omega
          clear mv
          refine hK.out _ _ (⟨(cellsS (KA.out.moved (m4)).b).1, (cellsS (KA.out.moved (m4)).b).2.1, (cellsS (KA.out.moved (m4)).b).2.2.1, (cellsS (KA.out.moved (m4)).b).2.2.2⟩) (fun hHeld => ?_)
          clear hK K
          try simp only [List.getElem_toArray, List.getElem_cons_zero, List.getElem_cons_succ, Act.put, List.setIfInBounds_toArray, List.set_cons_zero, List.set_cons_succ]
          refine tH 12 (h := ?_)
          try simp only [List.getElem_toArray, List.getElem_cons_zero, List.getElem_cons_succ, Act.put, List.setIfInBounds_toArray, List.set_cons_zero, List.set_cons_succ]
          refine wpAnyH_ready (rs := [13]) (by kernel_rfl) (by simp) ?_
          refine AllReadyH.cons rfl (fun K hK => ?_) (AllReadyH.nil)
          go_simp
          refine (record_deal D (fun b => Wd.heap.size ≤ b) _ _ _ _ s (1 + x) _ (KA.out.moved m4).m.deck (KA.out.moved m4).s HNe.out HSD.out (by omega) (by omega)).mono ?_
          rintro e V5 ⟨_, r, rfl, ⟨sv, rfl, hv⟩, -, hc, hsh, mv⟩
          have m5 := m4.trans mv
          have hltx := lt_of_blk gx; have gx := mv.blk (by omega) gx
          have hpv := hpv.move mv.size (S' := fun b => D < b) fun b hb' hs => ⟨mv.grown.block b hb' (by have hs' : D < b := hs; simp; omega), hs⟩
          have hv := hv.move (w' := V5) (S' := fun b => D < b) (Nat.le_refl _) fun b hb' hs => ⟨rfl, by have h1 := m4.size; have hs' := hs; omega⟩
          obtain ⟨av, cv, esv⟩ := hv.slice; subst esv
          have HRC := Lib.hid (show RecIn s P r from ⟨HSD.out.check, hc, HPD.out.len.trans HNN.out.symm, HPD.out.ok, hsh⟩); clear hc hsh mv
          refine hK.out _ _ (⟨(cellsS (KA.out.moved (m5)).b).1, (cellsS (KA.out.moved (m5)).b).2.1, (cellsS (KA.out.moved (m5)).b).2.2.1, (cellsS (KA.out.moved (m5)).b).2.2.2⟩) (fun hHeld => ?_)
          clear hK K
          try simp only [List.getElem_toArray, List.getElem_cons_zero, List.getElem_cons_succ, Act.put, List.setIfInBounds_toArray, List.set_cons_zero, List.set_cons_succ]
          refine wpAnyH_ready (rs := [14]) (by kernel_rfl) (by simp) ?_
          refine AllReadyH.cons rfl (fun K hK => ?_) (AllReadyH.nil)
          go_simp
          obtain ⟨F, hF⟩ : ∃ F, fieldsN s P k r.vals P.length = F := ⟨_, rfl⟩
          have hX : encN s P k r = ⟨r.id, r.ver, F⟩ := by rw [← hF]; rfl
          have HEV := Lib.hid (show evalidB ⟨r.id, r.ver, F⟩ = true ∧ ∀ b ∈ F, BitsIn b by rw [← hX]; have h1 := HPD.out.len; exact ⟨enc_valid HRC.out (by omega) (by omega), by rw [← hF]; exact fieldsN_in HRC.out⟩)
          have hrr := erecord_yes (fun b => Wd.heap.size ≤ b) _ _ _ _ s P _ k r _ _ (KA.out.moved m5).s hpv.any hv.any HRC.out
          rw [hX] at hrr
          refine hrr.mono ?_
          rintro e V6 ⟨_, rfl, ⟨su, rfl, hbu⟩, hb⟩
          dsimp only at hbu ⊢
          have m6 := m5.below hb
          have hltx := lt_of_blk gx; have gx := blk_below hb hltx gx
          have hbu := hbu.move (w' := V6) (T := fun b => W5.heap.size ≤ b ∧ b ≠ V1.heap.size) (Nat.le_refl _) fun b hb' hs => ⟨rfl, by have h1 := m5.size; have hs' := hs; exact ⟨by omega, by omega⟩⟩
          obtain ⟨ax, cx, rfl⟩ := hbu.slice
          clear hb hrr hX hF hpv hv
          refine hK.out _ _ (⟨(cellsS (KA.out.moved (m6)).b).1, (cellsS (KA.out.moved (m6)).b).2.1, (cellsS (KA.out.moved (m6)).b).2.2.1, (cellsS (KA.out.moved (m6)).b).2.2.2⟩) (fun hHeld => ?_)
          clear hK K
          try simp only [List.getElem_toArray, List.getElem_cons_zero, List.getElem_cons_succ, Act.put, List.setIfInBounds_toArray, List.set_cons_zero, List.set_cons_succ]
          refine tH 15 (h := ?_)
          try simp only [List.getElem_toArray, List.getElem_cons_zero, List.getElem_cons_succ, Act.put, List.setIfInBounds_toArray, List.set_cons_zero, List.set_cons_succ]
          refine tH 16 (h := ?_)
          try simp only [List.getElem_toArray, List.getElem_cons_zero, List.getElem_cons_succ, Act.put, List.setIfInBounds_toArray, List.set_cons_zero, List.set_cons_succ]
          refine tH 17 (h := ?_)
          try simp only [List.getElem_toArray, List.getElem_cons_zero, List.getElem_cons_succ, Act.put, List.setIfInBounds_toArray, List.set_cons_zero, List.set_cons_succ]
      rotate_left 5
      focus
        go_simp
        refine hK.out _ _ (⟨(cellsS (KA.out.moved (mD.alloc (.cells #[.int .i64 0, .int .i64 0, .slice none 0 0] 37))).b).1, (cellsS (KA.out.moved (mD.alloc (.cells #[.int .i64 0, .int .i64 0, .slice none 0 0] 37))).b).2.1, (cellsS (KA.out.moved (mD.alloc (.cells #[.int .i64 0, .int .i64 0, .slice none 0 0] 37))).b).2.2.1, (cellsS (KA.out.moved (mD.alloc (.cells #[.int .i64 0, .int .i64 0, .slice none 0 0] 37))).b).2.2.2⟩) (fun hHeld => ?_)
        clear hK K
        try simp only [List.getElem_toArray, List.getElem_cons_zero, List.getElem_cons_succ, Act.put, List.setIfInBounds_toArray, List.set_cons_zero, List.set_cons_succ]
        refine wph_name (fun V1 hV => ?_)
        have m1 : Moved D W5 V1 := by rw [hV]; exact mD.alloc (.cells #[.int .i64 0, .int .i64 0, .slice none 0 0] 37)
        have gx : V1.heap[W5.heap.size]? = some (.cells #[.int .i64 0, .int .i64 0, .slice none 0 0] 37 (0, 0)) := by rw [hV]; exact blk_new rfl
        have hrx : W5.heap.size ≤ W5.heap.size := mD.size
        clear hV hHeld
        have hHeld : V1.cell? ⟨w2.heap.size, 0, none⟩ = some (.slice af N cf) ∧ V1.cell? ⟨w2.heap.size, 1, none⟩ = some (.slice at' s.rules.titles.length ct) ∧ V1.cell? ⟨w2.heap.size, 2, none⟩ = some (.slice an s.rules.nicks.length cn) ∧ V1.cell? ⟨w2.heap.size, 3, none⟩ = some (.slice as' s.rules.streets.length cs) := ⟨(cellsS (KA.out.moved (m1)).b).1, (cellsS (KA.out.moved (m1)).b).2.1, (cellsS (KA.out.moved (m1)).b).2.2.1, (cellsS (KA.out.moved (m1)).b).2.2.2⟩
        refine wpAnyH_ready (rs := [5]) (by kernel_rfl) (by simp) ?_
        refine AllReadyH.cons rfl (fun K hK => ?_) (AllReadyH.nil)
        go_simp
        refine (pars_deal D N _ (KA.out.moved m1).m.deck hlen5).mono ?_
        rintro e V2 ⟨pv, P, rfl, hpv, hP, mv⟩
        obtain ⟨ap, cp, rfl⟩ := hpv.slice
        have m2 := m1.trans mv
        have hltx := lt_of_blk gx; have gx := mv.blk (by omega) gx
        have hpv := hpv.move (w' := V2) (S' := fun b => D < b) (Nat.le_refl _) fun b hb' hs => ⟨rfl, by have h1 := m1.size; have hs' := hs; omega⟩
        have HPD := Lib.hid hP; clear hP mv
        refine hK.out _ _ (⟨(cellsS (KA.out.moved (m2)).b).1, (cellsS (KA.out.moved (m2)).b).2.1, (cellsS (KA.out.moved (m2)).b).2.2.1, (cellsS (KA.out.moved (m2)).b).2.2.2⟩) (fun hHeld => ?_)
        clear hK K
        try simp only [List.getElem_toArray, List.getElem_cons_zero, List.getElem_cons_succ, Act.put, List.setIfInBounds_toArray, List.set_cons_zero, List.set_cons_succ]
        refine wpAnyH_ready (rs := [7]) (by kernel_rfl) (by simp) ?_
        refine AllReadyH.cons rfl (fun K hK => ?_) (AllReadyH.nil)
        go_simp
        refine (key_deal D _ (KA.out.moved m2).m.deck).mono ?_
        rintro e V3 ⟨k, rfl, mv⟩
        have m3 := m2.trans mv
        have hltx := lt_of_blk gx; have gx := mv.blk (by omega) gx
        have hpv := hpv.move mv.size (S' := fun b => D < b) fun b hb' hs => ⟨mv.grown.block b hb' (by have hs' : D < b := hs; simp; omega), hs⟩
        clear mv
        refine hK.out _ _ (⟨(cellsS (KA.out.moved (m3)).b).1, (cellsS (KA.out.moved (m3)).b).2.1, (cellsS (KA.out.moved (m3)).b).2.2.1, (cellsS (KA.out.moved (m3)).b).2.2.2⟩) (fun hHeld => ?_)
        clear hK K
        try simp only [List.getElem_toArray, List.getElem_cons_zero, List.getElem_cons_succ, Act.put, List.setIfInBounds_toArray, List.set_cons_zero, List.set_cons_succ]
        refine wpAnyH_ready (rs := [11]) (by kernel_rfl) (by simp) ?_
        refine AllReadyH.cons rfl (fun K hK => ?_) (AllReadyH.nil)
        go_simp
        refine (next_any D _ 5000 (KA.out.moved m3).m.deck (by omega) (by omega)).mono ?_
        rintro e V4 ⟨x, rfl, x0, x1, mv⟩
        have m4 := m3.trans mv
        have hltx := lt_of_blk gx; have gx := mv.blk (by omega) gx
        have hpv := hpv.move mv.size (S' := fun b => D < b) fun b hb' hs => ⟨mv.grown.block b hb' (by have hs' : D < b := hs; simp; omega), hs⟩
        have hwx : IntKind.i64.wrap (1 + x) = 1 + x := by rw [IntKind.wrap_i64]; omega
        clear mv
        refine hK.out _ _ (⟨(cellsS (KA.out.moved (m4)).b).1, (cellsS (KA.out.moved (m4)).b).2.1, (cellsS (KA.out.moved (m4)).b).2.2.1, (cellsS (KA.out.moved (m4)).b).2.2.2⟩) (fun hHeld => ?_)
        clear hK K
        try simp only [List.getElem_toArray, List.getElem_cons_zero, List.getElem_cons_succ, Act.put, List.setIfInBounds_toArray, List.set_cons_zero, List.set_cons_succ]
        refine tH 12 (h := ?_)
        try simp only [List.getElem_toArray, List.getElem_cons_zero, List.getElem_cons_succ, Act.put, List.setIfInBounds_toArray, List.set_cons_zero, List.set_cons_succ]
        refine wpAnyH_ready (rs := [13]) (by kernel_rfl) (by simp) ?_
        refine AllReadyH.cons rfl (fun K hK => ?_) (AllReadyH.nil)
        go_simp
        refine (record_deal D (fun b => Wd.heap.size ≤ b) _ _ _ _ s (1 + x) _ (KA.out.moved m4).m.deck (KA.out.moved m4).s HNe.out HSD.out (by omega) (by omega)).mono ?_
        rintro e V5 ⟨_, r, rfl, ⟨sv, rfl, hv⟩, -, hc, hsh, mv⟩
        have m5 := m4.trans mv
        have hltx := lt_of_blk gx; have gx := mv.blk (by omega) gx
        have hpv := hpv.move mv.size (S' := fun b => D < b) fun b hb' hs => ⟨mv.grown.block b hb' (by have hs' : D < b := hs; simp; omega), hs⟩
        have hv := hv.move (w' := V5) (S' := fun b => D < b) (Nat.le_refl _) fun b hb' hs => ⟨rfl, by have h1 := m4.size; have hs' := hs; omega⟩
        obtain ⟨av, cv, esv⟩ := hv.slice; subst esv
        have HRC := Lib.hid (show RecIn s P r from ⟨HSD.out.check, hc, HPD.out.len.trans HNN.out.symm, HPD.out.ok, hsh⟩); clear hc hsh mv
        refine hK.out _ _ (⟨(cellsS (KA.out.moved (m5)).b).1, (cellsS (KA.out.moved (m5)).b).2.1, (cellsS (KA.out.moved (m5)).b).2.2.1, (cellsS (KA.out.moved (m5)).b).2.2.2⟩) (fun hHeld => ?_)
        clear hK K
        try simp only [List.getElem_toArray, List.getElem_cons_zero, List.getElem_cons_succ, Act.put, List.setIfInBounds_toArray, List.set_cons_zero, List.set_cons_succ]
        refine wpAnyH_ready (rs := [14]) (by kernel_rfl) (by simp) ?_
        refine AllReadyH.cons rfl (fun K hK => ?_) (AllReadyH.nil)
        go_simp
        obtain ⟨F, hF⟩ : ∃ F, fieldsN s P k r.vals P.length = F := ⟨_, rfl⟩
        have hX : encN s P k r = ⟨r.id, r.ver, F⟩ := by rw [← hF]; rfl
        have HEV := Lib.hid (show evalidB ⟨r.id, r.ver, F⟩ = true ∧ ∀ b ∈ F, BitsIn b by rw [← hX]; have h1 := HPD.out.len; exact ⟨enc_valid HRC.out (by omega) (by omega), by rw [← hF]; exact fieldsN_in HRC.out⟩)
        have hrr := erecord_yes (fun b => Wd.heap.size ≤ b) _ _ _ _ s P _ k r _ _ (KA.out.moved m5).s hpv.any hv.any HRC.out
        rw [hX] at hrr
        refine hrr.mono ?_
        rintro e V6 ⟨_, rfl, ⟨su, rfl, hbu⟩, hb⟩
        dsimp only at hbu ⊢
        have m6 := m5.below hb
        have hltx := lt_of_blk gx; have gx := blk_below hb hltx gx
        have hbu := hbu.move (w' := V6) (T := fun b => W5.heap.size ≤ b ∧ b ≠ W5.heap.size) (Nat.le_refl _) fun b hb' hs => ⟨rfl, by have h1 := m5.size; have hs' := hs; exact ⟨by omega, by omega⟩⟩
        obtain ⟨ax, cx, rfl⟩ := hbu.slice
        clear hb hrr hX hF hpv hv
        refine hK.out _ _ (⟨(cellsS (KA.out.moved (m6)).b).1, (cellsS (KA.out.moved (m6)).b).2.1, (cellsS (KA.out.moved (m6)).b).2.2.1, (cellsS (KA.out.moved (m6)).b).2.2.2⟩) (fun hHeld => ?_)
        clear hK K
        try simp only [List.getElem_toArray, List.getElem_cons_zero, List.getElem_cons_succ, Act.put, List.setIfInBounds_toArray, List.set_cons_zero, List.set_cons_succ]
        refine tH 15 (h := ?_)
        try simp only [List.getElem_toArray, List.getElem_cons_zero, List.getElem_cons_succ, Act.put, List.setIfInBounds_toArray, List.set_cons_zero, List.set_cons_succ]
        refine tH 16 (h := ?_)
        try simp only [List.getElem_toArray, List.getElem_cons_zero, List.getElem_cons_succ, Act.put, List.setIfInBounds_toArray, List.set_cons_zero, List.set_cons_succ]
        refine tH 17 (h := ?_)
        try simp only [List.getElem_toArray, List.getElem_cons_zero, List.getElem_cons_succ, Act.put, List.setIfInBounds_toArray, List.set_cons_zero, List.set_cons_succ]
      all_goals
        have lx := lt_of_blk gx; obtain ⟨y0, y1, y2⟩ := cells3 gx; have fx0 := frozen_of_row _ _ 0 _ _ gx; have fx1 := frozen_of_row _ _ 1 _ _ gx; have fx2 := frozen_of_row _ _ 2 _ _ gx
        have ms := ((m6.set (a := ⟨_, 0, none⟩) hrx (.int .i64 r.id)).set (a := ⟨_, 1, none⟩) hrx (.int .i64 r.ver)).set (a := ⟨_, 2, none⟩) hrx (.slice ax F.length cx)
        refine wpAnyH_ready (rs := [19]) (by kernel_rfl) (by simp) ?_
        refine AllReadyH.cons rfl (fun K hK => ?_) AllReadyH.nil
        go_simp
        refine hK.out _ _ (⟨(cellsS (KA.out.moved (ms)).b).1, (cellsS (KA.out.moved (ms)).b).2.1, (cellsS (KA.out.moved (ms)).b).2.2.1, (cellsS (KA.out.moved (ms)).b).2.2.2⟩) (fun hHeld => ?_)
        clear hK K
        try simp only [List.getElem_toArray, List.getElem_cons_zero, List.getElem_cons_succ, Act.put, List.setIfInBounds_toArray, List.set_cons_zero, List.set_cons_succ]
        refine tH 20 (h := ?_)
        try simp only [List.getElem_toArray, List.getElem_cons_zero, List.getElem_cons_succ, Act.put, List.setIfInBounds_toArray, List.set_cons_zero, List.set_cons_succ]
        refine wpAnyH_done (by kernel_rfl) ?_ _
        refine NoPanic.normal ?_
        go_wp2_with fail
        go_meet
        exact ⟨_, _, ⟨r.id, r.ver, F⟩, rfl, rfl, blk_set (blk_set (blk_set gx)), ((hbu.far (fun b hb => hb.2)).far (fun b hb => hb.2)).far (fun b hb => hb.2), HEV, ms, hrx⟩
    case rest =>
      obtain ⟨wB, hwB⟩ : ∃ u, u = wc := ⟨_, rfl⟩
      subst hwB
      obtain ⟨xb, sv, x, rfl, rfl, gx, hbv, HEV, mw, hxb⟩ := hcut
      obtain ⟨ax, cx, rfl⟩ := hbv.slice
      obtain ⟨id, ver, F⟩ := x
      dsimp only at gx hbv HEV ⊢
      have HB := Lib.hid ((KA.out.m.trans mw).base HB1.out (by omega))
      have HVB := Lib.hid (HVar.out.old HB.out)
      have HF := Lib.hid (hbv.move (w' := wB) (T := Any1) (Nat.le_refl _) fun b hb _ => ⟨rfl, trivial⟩)
      have HGX := Lib.hid gx
      have HHex := Lib.hid (fun b (hb : b ∈ F) => bitsIn_hex (HEV.out.2 b hb))
      have HWl := Lib.hid (show ∀ b ∈ F, b.words.length ≤ 1000000 from fun b hb => by
        rcases HEV.out.2 b hb with h | ⟨h, _⟩
        · rw [h]; decide
        · have := valid_len h; omega)
      have lx := lt_of_blk gx
      have hFl : F.length ≤ 5 := by have h := HEV.out.1; unfold evalidB at h; simp only [Bool.and_eq_true, decide_eq_true_eq] at h; omega
      obtain ⟨y0, y1, y2⟩ := cells3 gx
      obtain ⟨t, ht⟩ : ∃ t, lineE ⟨id, ver, F⟩ = t := ⟨_, rfl⟩
      have HT := Lib.hid ht
      have htl : t.length ≤ 2000 := by rw [← ht]; exact line_len HEV.out.1
      have htn : t ≠ [] := by rw [← ht]; exact line_some _
      have HP := Lib.hid (show parseE t = some ⟨id, ver, F⟩ by rw [← ht]; exact eparse_line HEV.out.1 HEV.out.2)
      have q1 : (t == []) = false := by simpa using htn
      have q2 : t.isEmpty = false := by simpa using htn
      have hl1 : 1 ≤ t.length := List.length_pos_iff.2 htn
      clear gx hbv mw ht htn KA p0 p1 p2 p3 mD
      go_wp2_with fail
      refine (eline_yes Any1 _ ⟨id, ver, F⟩ wB ⟨_, rfl, HF.out⟩ HVB.out HHex.out HEV.out.1).mono ?_
      rw [HT.out]
      rintro e w3 ⟨rfl, hb⟩
      have HV3 := Lib.hid (HVB.out.old hb); have HF3 := Lib.hid (HF.out.below hb); have HG3 := Lib.hid (blk_below hb lx HGX.out)
      have HB3 := Lib.hid (HB.out.trans (hb.mono HB.out.size))
      have lx3 := lt_of_blk HG3.out
      clear hb y0 y1 y2
      go_wp2_with fail
      refine (eparse_any t w3 HV3.out (by omega)).mono ?_
      unfold EncParsed
      rw [HP.out]
      rintro e w4 ⟨_, rfl, ⟨su, rfl, hbu⟩, hb⟩
      dsimp only [Option.getD] at hbu ⊢
      obtain ⟨au, cu, rfl⟩ := hbu.slice
      have HU := Lib.hid (hbu.move (w' := w4) (T := Any1) (Nat.le_refl _) fun b hb _ => ⟨rfl, trivial⟩)
      have HF4 := Lib.hid (HF3.out.below hb); have HG4 := Lib.hid (blk_below hb lx3 HG3.out)
      have HB4 := Lib.hid (HB3.out.trans (hb.mono HB3.out.size))
      have lx4 := lt_of_blk HG4.out
      have e0 : errO (some (⟨id, ver, F⟩ : EncL)) = 0 := rfl
      rw [e0]
      clear hb hbu
      obtain ⟨x0, x1, x2⟩ := cells3 HG4.out
      have HB5 := Lib.hid (HB4.out.alloc HB4.out.size (.cells #[.int .i64 id, .int .i64 ver, .slice au F.length cu] 37))
      have hbA : Below w4.heap.size w4 (w4.alloc (.cells #[.int .i64 id, .int .i64 ver, .slice au F.length cu] 37)) := (Below.refl _ _).alloc (Nat.le_refl _) _
      have HF5 := Lib.hid (HF4.out.below hbA); have HU5 := Lib.hid (HU.out.below hbA)
      clear hbA
      go_wp2_with fail
      refine (esame_any Any1 Any1 _ _ ⟨id, ver, F⟩ ⟨id, ver, F⟩ _ ⟨_, rfl, HF5.out⟩ ⟨_, rfl, HU5.out⟩ (by show F.length ≤ 1000000; omega) HWl.out).mono ?_
      rw [sameE_self]
      rintro e w6 ⟨rfl, hb⟩
      have HB6 := Lib.hid (HB5.out.trans (hb.mono HB5.out.size))
      clear hb HF5 HU5 x0 x1 x2 HB5
      obtain ⟨cap2, wN, hcv, hBt, hbN, zN⟩ := bytes_conv w6 t
      obtain ⟨K6, hK⟩ : ∃ K6, w6.heap.size = K6 := ⟨_, rfl⟩
      rw [hK] at hcv hBt zN
      have HBt := Lib.hid hBt
      have HBN := Lib.hid (HB6.out.trans (hbN.mono HB6.out.size))
      have hzK : w.heap.size ≤ K6 := by rw [← hK]; exact HB6.out.size
      clear hK hBt hbN
      go_wp2_with fail
      clear hcv
      refine (mod_some x0_ t.length _ hx1.1 hx1.2 (by omega) (by omega)).mono ?_
      rintro e w7 ⟨r, rfl, hr, rfl⟩
      have hrl : r < t.length := by omega
      obtain ⟨cb, cfz⟩ := HBt.out.cell r hrl
      unfold byteV at cb
      have hcv := bytes_back (wN.setCell ⟨K6, r, none⟩ (byteV yb)) K6 (t.set r yb) cap2 (HBt.out.set r yb)
      unfold byteV at hcv
      rw [List.length_set] at hcv
      obtain ⟨l2, hl2⟩ : ∃ l2, t.set r yb = l2 := ⟨_, rfl⟩
      rw [hl2] at hcv
      have hl2l : l2.length = t.length := by rw [← hl2]; simp
      have HL2 := Lib.hid hl2l
      have hBM := HBt.out.set r yb
      rw [hl2] at hBM
      unfold byteV at hBM
      have bM : Below w.heap.size w (wN.setCell ⟨K6, r, none⟩ (.int .u8 yb.toNat)) := HBN.out.setCell hzK _
      have HMB := Lib.hid hBM
      have HBM := Lib.hid bM
      clear hl2 hl2l hr hBM bM
      go_wp2_with fail
      clear hcv cb cfz
      refine (eparse_any l2 _ (HVar.out.old HBM.out) (by rw [HL2.out]; omega)).mono ?_
      obtain ⟨P, hP⟩ : ∃ P, parseE l2 = P := ⟨_, rfl⟩
      unfold EncParsed
      rw [hP]
      rintro e w8 ⟨_, rfl, ⟨sz, rfl, hbz⟩, hb⟩
      have HB8 := Lib.hid (HBM.out.trans (hb.mono HBM.out.size))
      have HT8 := Lib.hid (HMB.out.below hb)
      have HV8 := Lib.hid (HVar.out.old HB8.out)
      have HPz := Lib.hid (show (∀ b ∈ (P.getD noEnc).fields, HexIn b) ∧ (P.getD noEnc).fields.length ≤ 1000000 ∧ (P.isSome = true → lineV (P.getD noEnc) = l2 ∧ lineErr (P.getD noEnc) = 0) by
        cases hPP : P with
        | none => exact ⟨fun b hb => (by cases hb), by decide, fun h => by cases h⟩
        | some z =>
          obtain ⟨g1, g2, g3⟩ := eparse_back (hP.trans hPP)
          have g4 := g1
          unfold evalidB at g4; simp only [Bool.and_eq_true, decide_eq_true_eq] at g4
          refine ⟨g3, by show z.fields.length ≤ 1000000; omega, fun _ => ⟨?_, ?_⟩⟩
          · show lineV z = l2
            unfold lineV; rw [if_pos g1, g2]
          · show lineErr z = 0
            unfold lineErr; rw [if_pos g1])
      obtain ⟨Z, hZ⟩ : ∃ Z, P.getD noEnc = Z := ⟨_, rfl⟩
      rw [hZ] at hbz HPz ⊢
      obtain ⟨az, cz, rfl⟩ := hbz.slice
      have HZ := Lib.hid (hbz.move (w' := w8) (T := Any1) (Nat.le_refl _) fun b hb _ => ⟨rfl, trivial⟩)
      have hcase : errO P = 0 ∧ P.isSome = true ∨ errO P = 14 := by cases P <;> simp [errO]
      clear hb hbz hP hZ HMB
      go_wp2_with fail
      have hbA : Below w8.heap.size w8 (w8.alloc (.cells #[.int .i64 Z.id, .int .i64 Z.ver, .slice az Z.fields.length cz] 37)) := (Below.refl _ _).alloc (Nat.le_refl _) _
      refine (eline_any Any1 _ Z _ ⟨_, rfl, HZ.out.below hbA⟩ (HV8.out.old hbA) HPz.out.1 HPz.out.2.1).mono ?_
      rintro e w9 ⟨rfl, hb⟩
      have HB9 := Lib.hid (HB8.out.trans ((hbA.trans (hb.mono hbA.size)).mono HB8.out.size))
      have hcv := bytes_back w9 K6 l2 cap2 ((HT8.out.below hbA).below hb)
      rw [HL2.out] at hcv
      clear hb hbA
      rcases hcase with ⟨h0, h1⟩ | h14
      · rw [h0, (HPz.out.2.2 h1).1, (HPz.out.2.2 h1).2]
        clear h0 h1
        go_wp2_with fail
        go_ret
        exact ⟨rfl, HB9.out⟩
      · rw [h14]
        have d14 : ((14 : Int) != 0) = true := rfl
        clear h14 hcv
        go_wp2_with fail
        go_ret
        exact ⟨rfl, HB9.out⟩
  · have hd : decide (n ≤ 400) = false := by simpa using hn
    clear hr hn
    go_enter Tryz.func3, Tryz.ntmps3
    go_wp2_with fail
    refine (awake_e _).mono ?_; rintro e w1 ⟨rfl, hb1⟩
    go_wp2_with fail
    refine (few_any a n cap _).mono ?_; rintro e w' ⟨rfl, rfl⟩
    go_wp2_with fail
    refine (awake_e _).mono ?_; rintro e w2 ⟨rfl, hb2⟩
    go_wp2_with fail
    go_ret
    exact ⟨rfl, hb1.trans (hb2.mono hb1.size)⟩
end Go.Proofs.YtoeplomdcannlaaGreatDoor
end
section
namespace Go.Proofs.YtoeplomdcannlaaGreatDoor.encodeBack
open Go.ChangeShapes Go.WideShapes Go.ChangeAt Go.RowKit Go.Joins
open Go.ChangeMaps (open_string shut_string)
set_option linter.unusedVariables false

theorem own : ownKnob Tryz.prog.godebug = none := by kernel_rfl
theorem laidOut : laidOutB Tryz.prog = true := by kernel_rfl

set_option maxRecDepth 100000 in
theorem lifted (os : Os) (started : os.Started) (H : Type) (enc : TypeId × Value → H) :
    ReturnsInHanded {} Tryz.checked os 3 .any (fun w args => (Rows.encodeBackSpec.pre enc Tryz.prog Tryz.f3 Rows.encodeBackRow.domain false w args ∧ laidMetH Tryz.prog Rows.encodeBackRow.laid w) ∧ sizedMet enc Tryz.prog Tryz.f3 (OpenSpec.ofChange Rows.encodeBackSpec) false w args) (Rows.encodeBackSpec.post enc Tryz.prog Tryz.f3 false true false false) := by
  refine handed_shaped (C := Tryz.checked) (X := fun w _ => laidMetH Tryz.prog Rows.encodeBackRow.laid w) (fun _ _ _ hh h => h.of_heap hh) own started (by kernel_rfl) Tryz.func3
    (ChangeSpec.witness_shaped (enc := enc) (C := Tryz.checked) (os := os) (X := fun w _ => laidMetH Tryz.prog Rows.encodeBackRow.laid w) false (World.laidAll Tryz.prog os Rows.encodeBackRow.laid) #[.slice none 0 0, .int .i64 0, .int .u8 0] 8 (World.laidAll_os _ _ _)
      (World.shaped_of_ZipB (by kernel_rfl) (by kernel_rfl)) (by kernel_rfl) (by kernel_rfl) (by kernel_rfl)
      (by rw [MakeChecks.laidMetH_plain _ _ _ (by kernel_rfl)]; exact laidMet_laidAll _ (by kernel_rfl) (by kernel_rfl))) ?_
  intro W base args ds gs before hval0 hW hLaid hsh
  have hval : ∀ (j : Nat) t v, Tryz.f3.params[j]? = some t → args[j]? = some v → Value.okWide Tryz.prog W .any base t v := hval0
  have hW' := hW
  obtain ⟨p, q, hA0, hV, rfl, hfz, hnd⟩ := hW
  have hA : DataW.TrodAll enc Tryz.prog W 0 (fun _ => true) true Tryz.f3.params.toList args.toList ds p := hA0
  rw [Tryz.params3] at hA hval
  obtain ⟨v0, vs0, d0, ds0, p0, q0, hargs, rfl, rfl, h0, r0⟩ := trodAll_cons hA
  obtain ⟨v1, vs1, d1, ds1, p1, q1, rfl, rfl, rfl, h1, r1⟩ := trodAll_cons r0
  obtain ⟨v2, vs2, d2, ds2, p2, q2, rfl, rfl, rfl, h2, r2⟩ := trodAll_cons r1
  obtain ⟨rfl, rfl, rfl⟩ := trodAll_nil r2
  obtain rfl : args = #[v0, v1, v2] := by cases args; simp_all
  obtain ⟨rfl, rfl⟩ := trodVars_none hV
  obtain ⟨a0, len0, cap0, rfl⟩ := okWide_slice Tryz.underlying22 (hval 0 22 v0 rfl rfl)
  have k0 := h0
  have lt0 : ∀ x ∈ p0, x.block < W.heap.size := by obtain ⟨m, hm⟩ := k0; exact DataW.trod_lt m _ _ _ hm
  obtain ⟨z0, w0⟩ : ∃ zs, IsRow .i64 W a0 len0 cap0 zs := by
    obtain ⟨fuel, hf⟩ := h0
    rcases open_ints Tryz.underlying22 Tryz.underlying3 (by kernel_rfl) hf with ⟨hcs, _⟩ | ⟨x, l, c, zs, hcs, _, hl, hm, hz, _, hcell, hwz⟩
    · simp [Value.cells] at hcs
      obtain ⟨rfl, rfl, rfl⟩ := hcs
      exact ⟨[], .inl ⟨rfl, rfl, rfl, rfl⟩⟩
    · simp [Value.cells] at hcs
      obtain ⟨rfl, rfl, rfl⟩ := hcs
      exact ⟨zs, .inr ⟨_, rfl, hl, hm, by simpa using hz, hcell, hwz⟩⟩
  have k1 := h1
  have lt1 : ∀ x ∈ p1, x.block < W.heap.size := by obtain ⟨m, hm⟩ := k1; exact DataW.trod_lt m _ _ _ hm
  obtain ⟨x1, rfl, hd1, hp1, w1⟩ := open_int Tryz.underlying3 (hval 1 3 v1 rfl rfl) h1
  have k2 := h2
  have lt2 : ∀ x ∈ p2, x.block < W.heap.size := by obtain ⟨m, hm⟩ := k2; exact DataW.trod_lt m _ _ _ hm
  obtain ⟨x2, rfl, hd2, hp2, w2⟩ := open_int Tryz.underlying5 (hval 2 5 v2 rfl rfl) h2
  clear hA0 hval0
  refine (eback_walk a0 len0 cap0 z0 x1 x2 W w0 w1 w2 (vars_give (l := Rows.encodeBackRow.laid) hsh hLaid (by kernel_rfl) 2 (by kernel_rfl) 5 rfl 4 rfl)).mono fun e W' ⟨he, bel⟩ => ?_
  subst he
  exact ⟨_, rfl, _, _, _, [], _, [], hW', trodAll_mk1 (shut_bool Tryz.underlying4 _), (trodAll_cons_mk (Below.trod laidOut (by kernel_rfl) (of_decide_eq_true (by kernel_rfl)) k0 bel lt0) (trodAll_cons_mk (Below.trod laidOut (by kernel_rfl) (of_decide_eq_true (by kernel_rfl)) k1 bel lt1) (trodAll_cons_mk (Below.trod laidOut (by kernel_rfl) (of_decide_eq_true (by kernel_rfl)) k2 bel lt2) trodAll_mk0))), rfl, bel.frame _, fun h => by cases h⟩

set_option maxRecDepth 100000 in
set_option maxHeartbeats 100000000 in
theorem over : Rows.encodeBackRow.holds Tryz.pinned (OpenSpec.ofChange Rows.encodeBackSpec) :=
  OpenClaim.holds_of_wide 3 Tryz.f3 rfl rfl rfl rfl rfl rfl rfl ⟨rfl, rfl, rfl, rfl, rfl⟩ rfl rfl rfl rfl rfl (by as_aux_lemma => kernel_rfl) Tryz.func3 closed
    (of_decide_eq_true (by as_aux_lemma => kernel_rfl)) (by unfold Func.isWrapper; first | (rw [if_pos (by decide +kernel)]; kernel_rfl) | (rw [if_neg (by decide +kernel)]; exact ⟨rfl, rfl⟩))
    (fun os started H enc _ => lifted os started H enc)

set_option maxRecDepth 100000 in
set_option maxHeartbeats 100000000 in
/-- THE STATEMENT -/
theorem proved : Rows.EncodeBackCardSaid :=
  Claim7.holds_tied_plain_at .later [] [.data, .data, .data, .data, .sentinel, .sentinel, .pinned] true (true, "fd06e8d9efbdfaf3e6a848822f18b97bf9147dcfd9576da2af8147015376fd6a") true
    over (fun _ h => by cases h) (by as_aux_lemma => kernel_rfl) (fun _ h => by cases h) encodeBack_row_tie rfl ⟨rfl, rfl⟩ (by as_aux_lemma => kernel_rfl) rfl
    (fun f fn hf hfn => by
      obtain rfl : f = 3 := Option.some.inj ((show Tryz.prog.funcNamed Rows.encodeBackRow.func = some 3 by kernel_rfl).symm.trans hf) |>.symm
      obtain rfl : fn = Tryz.f3 := (Option.some.inj (Tryz.func3.symm.trans hfn)).symm
      exact ⟨by kernel_rfl, fun j t ht => by
        rw [Tryz.params3] at ht
        have hm : t ∈ [22, 3, 5] := by simpa using Array.mem_of_getElem? ht
        have hall : ([22, 3, 5].all fun u => !Tryz.prog.wantsStandIn u) = true := by kernel_rfl
        exact (show Tryz.prog.wantsStandIn t = false by simpa using List.all_eq_true.1 hall t hm)⟩)
    (by as_aux_lemma => kernel_rfl)
#print axioms proved
end Go.Proofs.YtoeplomdcannlaaGreatDoor.encodeBack
end
