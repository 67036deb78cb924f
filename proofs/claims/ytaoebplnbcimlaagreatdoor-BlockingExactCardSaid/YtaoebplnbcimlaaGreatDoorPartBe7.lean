/- Parts of one proof: DeckRecB, AppendM, DeckRecs, BlkO, KeyPlain, DeckKeys, BlkP, BlkAwake, LawB, LawC, BlkQ, RefPhonPlain, BlkR. -/
import Derived.Test.YtaoebplnbcimlaaGreatDoorPartBe6
import Derived.Deep.OwnRows
set_option linter.unusedSimpArgs false
set_option linter.unusedVariables false
namespace Go.Proofs.YtaoebplnbcimlaaGreatDoor
section
set_option maxRecDepth 100000
open Go.RowKit Cal
attribute [local go_sem] toList_mk mk_size str_append
theorem makeA_short (s : SchemaL) (raws : List (List UInt8)) : ∀ i C, (∀ x ∈ C, x.length ≤ 64) → ∀ x ∈ (makeA s i C raws).1, x.length ≤ 64 := by
  induction raws with
  | nil => intro i C h; simpa [makeA] using h
  | cons y l ih =>
    intro i C h
    unfold makeA
    split
    · refine ih _ _ fun x hx => ?_
      rcases List.mem_append.1 hx with h1 | h1
      · exact h x h1
      · simp at h1; subst h1; exact (valueN_form s i y).1
    · intro x hx; simp at hx
theorem Vec.far {α : Type} {w : World} {S : Nat → Prop} {k : Nat} {enc : α → List Value} {v : Value} {L : List α} (h : Vec w S k enc v L) {a : Addr} {u : Value} (hn : ∀ b, S b → b ≠ a.block) : Vec (w.setCell a u) S k enc v L :=
  h.move (by simp [World.setCell]) fun b _ hs => ⟨heap_setCell_other _ _ _ _ (hn b hs), hs⟩
theorem oneS : ∀ x : List UInt8, ∀ u ∈ encS x, u.oneCell' = true := by intro x u hu; simp [encS] at hu; subst hu; rfl
theorem rec_made {s : SchemaL} {id ver : Int} {raws : List (List UInt8)} {r : RecL} (h : makeN s id ver raws = (r, 0)) : r.id = id ∧ checkN s r = 0 ∧ ∀ x ∈ r.vals, x.length ≤ 64 := by
  obtain ⟨h1, h2, h3, h4, h5, _, h7, h8, _⟩ := makeN_ok h
  refine ⟨h2, checkN_of h1 (by rw [h2, h3]; exact h4) h5 h7, ?_⟩
  rw [h8]
  exact makeA_short s raws 0 [] (by simp)
theorem rec_none {s : SchemaL} {id : Int} (h : checkS s = 0) (h1 : 1 ≤ id) (h2 : id ≤ 1048576) : checkN s ⟨id, 1, List.replicate s.fields.length []⟩ = 0 :=
  checkN_of h (by simp [numberedB, h1, h2]) (by simp) (none_norm h)
theorem made_strings (m : Nat) : madeCells #[.string ⟨#[]⟩] m = ((List.replicate m ([] : List UInt8)).flatMap encS).toArray := by
  apply Array.ext'
  have : ∀ k, (List.replicate k ([] : List UInt8)).flatMap encS = List.replicate k (.string ⟨#[]⟩) := by
    intro k; induction k with
    | zero => rfl
    | succ k ih => rw [List.replicate_succ, List.flatMap_cons, ih]; rfl
  rw [this]
  unfold madeCells
  rw [Array.toList_map, Array.toList_range]
  refine List.ext_getElem (by simp) fun i h1 h2 => ?_
  simp [Nat.mod_one]
def RecordPost (D : Nat) (s : SchemaL) (id : Int) (w : World) (e : Ending) (w' : World) : Prop := ∃ v r, e = .returned v ∧ RecVal w' (fun b => w.heap.size ≤ b) v r ∧ r.id = id ∧ checkN s r = 0 ∧ (∀ x ∈ r.vals, x.length ≤ 64) ∧ Moved D w w'
set_option maxHeartbeats 8000000 in
theorem record_deal (D : Nat) (S : Nat → Prop) (vf vt vn vs : Value) (s : SchemaL) (id : Int) (w : World) (h : DeckAt w D) (hs : SchemaAt w S vf vt vn vs s) (hS : ∀ b, S b → b ≠ D) (hd : SchemaD s) (h1 : 1 ≤ id) (h2 : id ≤ 1048576) :
    Calls Tryz.prog 22 #[.pointer (some ⟨D, 0, none⟩), .agg #[vf, vt, vn, vs], .int .i64 id] w (RecordPost D s id w) := by
  have zD := h.lt
  have M0 := Lib.hid (Moved.start h); clear h
  obtain ⟨af, cf, rfl⟩ := hs.1.slice
  have h5 := hd.fields.len
  have HS := Lib.hid hs; have HSD := Lib.hid hd; have HSne := Lib.hid hS
  clear hs hd hS
  go_enter Tryz.func22, Tryz.ntmps22
  go_wp2_with fail
  refine wp_world (fun W hW => ?_)
  have hm : Moved D w W := by rw [hW]; exact (M0.out.alloc _).alloc _
  have hb0 : Below w.heap.size w W := by rw [hW]; exact ((Below.refl w.heap.size w).alloc (Nat.le_refl _) _).alloc (by simp) _
  have hs0 : W.heap[w.heap.size]? = some (.cells #[.slice af s.fields.length cf, vt, vn, vs] 43 (0, 0)) := by rw [hW]; exact blk_old (blk_new rfl)
  have hz0 : W.heap[w.heap.size + 1]? = some (.cells #[.int .i64 0, .int .i64 0, .slice none 0 0] 29 (0, 0)) := by rw [hW]; exact blk_new (by simp)
  have hzW : W.heap.size = w.heap.size + 2 := by rw [hW]; simp
  clear hW
  have HM := Lib.hid hm; have HS0 := Lib.hid hs0; have HZ0 := Lib.hid hz0; have HSW := Lib.hid (HS.out.below hb0); have HZW := Lib.hid hzW
  clear hm hs0 hz0 hb0 hzW
  obtain ⟨n, hn⟩ : ∃ n, s.fields.length = n := ⟨_, rfl⟩
  rw [hn] at HS0 HSW h5 ⊢
  have HN := Lib.hid hn; clear hn
  go_loopw [7, 8] (fun v i wr => ∃ (j : Nat) (L : List (List UInt8)), i = .int .i64 j ∧ j ≤ n ∧ L.length = j ∧ (∀ x ∈ L, x.length ≤ 64) ∧ OwnM D 9 1 encS W v L wr) (fun _ i _ => n - (intOf i).toNat)
  case atStart => exact ⟨0, [], rfl, by omega, rfl, by simp, ⟨by simp, .inl ⟨rfl, rfl⟩⟩, Moved.start HM.out.deck⟩
  case round =>
    obtain ⟨j, L, rfl, hj, hL, hsh, ho⟩ := hrel
    have HO := Lib.hid ho; have HL := Lib.hid hL; have HSh := Lib.hid hsh
    have hsr := ho.2.blk (k := w.heap.size) (by omega) HS0.out
    have HSR := Lib.hid hsr
    obtain ⟨s0, s1, s2, s3⟩ := cellsS hsr
    have hzs := lt_of_blk hsr
    clear ho hL hsh hsr
    by_cases hlt : j < n
    · have hq : decide ((j : Int) < n) = true := by simp; omega
      have hjs : j < s.fields.length := by rw [HN.out]; exact hlt
      obtain ⟨b, off, eaf, hSb, hb, hc⟩ := fields_cell HSW.out.1 (by omega)
      cases eaf
      have hbD := HSne.out b hSb
      have kc := (World.cell?_of_block (w := W) (a := ⟨b, off + j * 2 + 1, none⟩) (HO.out.2.grown.block b hb (by simp; omega))).trans (hc j hjs)
      obtain ⟨kf, hkf⟩ : ∃ kf, (s.fields.getD j default).2 = kf := ⟨_, rfl⟩
      rw [hkf] at kc
      have hjn : (j : Int) < (n : Int) := by omega
      clear hc hkf hjs hSb
      go_wp2_with fail
      refine (raw_deal D kf _ HO.out.2.deck).mono ?_
      rintro e w1 ⟨x, rfl, hx, mv⟩
      have HX := Lib.hid hx
      have HO1 := Lib.hid (HO.out.moved (mv.alloc (.cells #[strV x] 9)))
      have HR1 := Lib.hid (show Reads (w1.alloc (.cells #[strV x] 9)) 1 (.slice (some ⟨w1.heap.size, 0, none⟩) 1 1) [x].length ([x].flatMap encS) from reads_block (t := 9) (fr := (0, 0)) (blk_new rfl) rfl)
      have hsh2 : ∀ y ∈ L ++ [x], y.length ≤ 64 := by
        intro y hy
        rcases List.mem_append.1 hy with h | h
        · exact HSh.out y h
        · simp at h; subst h; exact hx
      have HSh2 := Lib.hid hsh2
      have hcn : L.length + [x].length ≤ 1000000000 := by rw [HL.out]; simp only [List.length_cons, List.length_nil]; omega
      clear hx mv hsh2
      go_wp2_with (at_builtin; refine wpList_append_m rfl (.tmp 18) (.tmp 27) 27 rfl D 9 (.string ⟨#[]⟩) 1 16 encS (fun _ => rfl) oneS Tryz.underlying27 infoS rfl (by decide) (by decide) (wA := W) (v := u7) (A := L) (B := [x]) rfl HO1.out rfl HR1.out hcn ?_; intro v4 w4 ho4 hk4)
      go_roundw
      case rel => exact ⟨j + 1, L ++ [x], by go_num, by omega, by rw [List.length_append, HL.out]; rfl, HSh2.out, ho4⟩
      case measure => simp [intOf]; omega
    · have hq : decide ((j : Int) < n) = false := by simp; omega
      obtain rfl : j = n := by omega
      have HV := Lib.hid (Vec.owns (k := 1) (enc := encS) (S := fun b => W.heap.size ≤ b) (fun _ => rfl) HO.out.1 (fun b hb _ => hb))
      obtain ⟨aL, cL, hvL⟩ := own_slice HO.out.1
      subst hvL
      have HSr := Lib.hid (HSW.out.moved HSne.out HO.out.2)
      have hneD : w.heap.size ≠ D := by omega
      have mD : Moved D wr wr.drew := (Moved.start HO.out.2.deck).drew
      go_wp2_with fail
      go_cut [9, 10] (fun s9 s10 wx => ∃ (rb : Nat) (er y : Int) (sv : Value) (r : RecL), s9 = .pointer (some ⟨rb, 0, none⟩) ∧ s10 = .int .i64 er ∧ wx.heap[rb]? = some (.cells #[.int .i64 r.id, .int .i64 r.ver, sv] 29 (0, 0)) ∧ Vec wx (fun b => w.heap.size + 2 ≤ b) 1 encS sv r.vals ∧ Hid (makeN s id (1 + y) L = (r, er)) ∧ 0 ≤ y ∧ y < 3 ∧ Moved D wr wx ∧ wr.heap.size ≤ rb)
      case first =>
        refine wp_region_noPanic ?_
        refine wp_region_k (by kernel_rfl) (fun w' => w'.cell? ⟨w.heap.size, 0, none⟩ = some (.slice af j cf) ∧ w'.cell? ⟨w.heap.size, 1, none⟩ = some vt ∧ w'.cell? ⟨w.heap.size, 2, none⟩ = some vn ∧ w'.cell? ⟨w.heap.size, 3, none⟩ = some vs) 12 (⟨s0, s1, s2, s3⟩) (fun hHeld => ?_)
        refine tK 0 (h := ?_)
        refine tK 1 (h := ?_)
        refine tK 2 (h := ?_)
        refine tK 5 (h := ?_)
        refine wpAnyK_ready (rs := [3, 10]) (by kernel_rfl) (by simp) ?_
        refine AllReadyK.cons rfl (fun K hK => ?_) (AllReadyK.cons rfl (fun K hK => ?_) AllReadyK.nil)
        focus
          go_simp
          refine (next_any D _ 3 mD.deck (by omega) (by omega)).mono ?_
          rintro e W1 ⟨y, rfl, y0, y1, mv⟩
          have m1 := mD.trans mv
          clear mv
          have hwy : IntKind.i64.wrap (1 + y) = 1 + y := by rw [IntKind.wrap_i64]; omega
          refine shutK hK (⟨(cellsS (m1.blk (k := w.heap.size) hneD HSR.out)).1, (cellsS (m1.blk (k := w.heap.size) hneD HSR.out)).2.1, (cellsS (m1.blk (k := w.heap.size) hneD HSR.out)).2.2.1, (cellsS (m1.blk (k := w.heap.size) hneD HSR.out)).2.2.2⟩) (fun hHeld => ?_)
          clear hK K
          try simp only [List.getElem_toArray, List.getElem_cons_zero, List.getElem_cons_succ, Act.put, List.setIfInBounds_toArray, List.set_cons_zero, List.set_cons_succ]
          refine tK 4 (h := ?_)
          refine wpAnyK_ready (rs := [6, 10]) (by kernel_rfl) (by simp) ?_
          refine AllReadyK.cons rfl (fun K hK => ?_) (AllReadyK.cons rfl (fun K hK => ?_) AllReadyK.nil)
          focus
            go_simp
            have hnum : numberedB id (1 + y) = true := by simp [numberedB]; omega
            obtain ⟨⟨r, er⟩, hR⟩ : ∃ R, makeN s id (1 + y) L = R := ⟨_, rfl⟩
            have hmk := rmake_yes S _ (.slice af j cf) vt vn vs s id (1 + y) L (.slice aL L.length cL) _ (HSr.out.moved HSne.out m1) (HV.out.move (S' := fun b => W.heap.size ≤ b) m1.size fun b hb hs => ⟨m1.grown.block b hb (by have hs' : W.heap.size ≤ b := hs; have h3 := HZW.out; have h4 := zD; simp; omega), hs⟩) HSD.out.check (HL.out.trans HN.out.symm) hnum (fun x hx => by have := HSh.out x hx; omega)
            rw [hR] at hmk
            refine hmk.mono ?_
            rintro e W2 ⟨_, rfl, ⟨sv, rfl, hvv⟩, hb⟩
            have m2 := m1.below hb
            have hvv2 := hvv.move (w' := W2) (S' := fun b => w.heap.size + 2 ≤ b) (Nat.le_refl _) fun b hb' hs => ⟨rfl, by have h1 := m1.size; have h2 := HO.out.2.size; have h3 := HZW.out; have hs' := hs; omega⟩
            obtain ⟨asv, csv, esv⟩ := hvv2.slice; subst esv
            have HRR := Lib.hid hR
            clear hb hvv hmk hR
            refine shutK hK (⟨(cellsS (m2.blk (k := w.heap.size) hneD HSR.out)).1, (cellsS (m2.blk (k := w.heap.size) hneD HSR.out)).2.1, (cellsS (m2.blk (k := w.heap.size) hneD HSR.out)).2.2.1, (cellsS (m2.blk (k := w.heap.size) hneD HSR.out)).2.2.2⟩) (fun hHeld => ?_)
            clear hK K
            try simp only [List.getElem_toArray, List.getElem_cons_zero, List.getElem_cons_succ, Act.put, List.setIfInBounds_toArray, List.set_cons_zero, List.set_cons_succ]
            refine tK 7 (h := ?_)
            refine tK 8 (h := ?_)
            refine tK 9 (h := ?_)
            refine wpAnyK_ready (rs := [10]) (by kernel_rfl) (by simp) ?_
            refine AllReadyK.cons rfl (fun K hK => ?_) AllReadyK.nil
            go_simp
            refine shutK hK (⟨(cellsS ((m2.alloc _).blk (k := w.heap.size) hneD HSR.out)).1, (cellsS ((m2.alloc _).blk (k := w.heap.size) hneD HSR.out)).2.1, (cellsS ((m2.alloc _).blk (k := w.heap.size) hneD HSR.out)).2.2.1, (cellsS ((m2.alloc _).blk (k := w.heap.size) hneD HSR.out)).2.2.2⟩) (fun hHeld => ?_)
            clear hK K
            try simp only [List.getElem_toArray, List.getElem_cons_zero, List.getElem_cons_succ, Act.put, List.setIfInBounds_toArray, List.set_cons_zero, List.set_cons_succ]
            refine wpk_name (fun W3 hW3 => ?_)
            have m3 : Moved D wr W3 := by rw [hW3]; exact m2.alloc (.cells #[.int .i64 0, .int .i64 0, .slice none 0 0] 29)
            have gb : W3.heap[W2.heap.size]? = some (.cells #[.int .i64 0, .int .i64 0, .slice none 0 0] 29 (0, 0)) := by rw [hW3]; exact blk_new rfl
            have hrb : wr.heap.size ≤ W2.heap.size := m2.size
            have HX3 : ∀ b, b < W2.heap.size → W3.heap[b]? = W2.heap[b]? := by rw [hW3]; exact fun b hb => heap_alloc_old _ _ hb
            have hnrb : w.heap.size ≠ W2.heap.size := by have := hzs; omega
            clear hW3 hHeld
            have hHeld : W3.cell? ⟨w.heap.size, 0, none⟩ = some (.slice af j cf) ∧ W3.cell? ⟨w.heap.size, 1, none⟩ = some vt ∧ W3.cell? ⟨w.heap.size, 2, none⟩ = some vn ∧ W3.cell? ⟨w.heap.size, 3, none⟩ = some vs := ⟨(cellsS (m3.blk (k := w.heap.size) hneD HSR.out)).1, (cellsS (m3.blk (k := w.heap.size) hneD HSR.out)).2.1, (cellsS (m3.blk (k := w.heap.size) hneD HSR.out)).2.2.1, (cellsS (m3.blk (k := w.heap.size) hneD HSR.out)).2.2.2⟩
            have hvv3 := hvv2.move (w' := W3) (S' := fun b => w.heap.size + 2 ≤ b ∧ b ≠ W2.heap.size) (by have h9 := lt_of_blk gb; omega) fun b hb' hs => ⟨HX3 b hb', hs, by omega⟩
          rotate_left 1
          focus
            go_simp
            refine shutK hK (⟨(cellsS ((m1.alloc _).blk (k := w.heap.size) hneD HSR.out)).1, (cellsS ((m1.alloc _).blk (k := w.heap.size) hneD HSR.out)).2.1, (cellsS ((m1.alloc _).blk (k := w.heap.size) hneD HSR.out)).2.2.1, (cellsS ((m1.alloc _).blk (k := w.heap.size) hneD HSR.out)).2.2.2⟩) (fun hHeld => ?_)
            clear hK K
            try simp only [List.getElem_toArray, List.getElem_cons_zero, List.getElem_cons_succ, Act.put, List.setIfInBounds_toArray, List.set_cons_zero, List.set_cons_succ]
            refine wpk_name (fun W2 hW2 => ?_)
            have m2 : Moved D wr W2 := by rw [hW2]; exact m1.alloc (.cells #[.int .i64 0, .int .i64 0, .slice none 0 0] 29)
            have gb : W2.heap[W1.heap.size]? = some (.cells #[.int .i64 0, .int .i64 0, .slice none 0 0] 29 (0, 0)) := by rw [hW2]; exact blk_new rfl
            have hrb : wr.heap.size ≤ W1.heap.size := m1.size
            have HX2 : ∀ b, b < W1.heap.size → W2.heap[b]? = W1.heap[b]? := by rw [hW2]; exact fun b hb => heap_alloc_old _ _ hb
            have hnrb : w.heap.size ≠ W1.heap.size := by have := hzs; omega
            clear hW2 hHeld
            have hHeld : W2.cell? ⟨w.heap.size, 0, none⟩ = some (.slice af j cf) ∧ W2.cell? ⟨w.heap.size, 1, none⟩ = some vt ∧ W2.cell? ⟨w.heap.size, 2, none⟩ = some vn ∧ W2.cell? ⟨w.heap.size, 3, none⟩ = some vs := ⟨(cellsS (m2.blk (k := w.heap.size) hneD HSR.out)).1, (cellsS (m2.blk (k := w.heap.size) hneD HSR.out)).2.1, (cellsS (m2.blk (k := w.heap.size) hneD HSR.out)).2.2.1, (cellsS (m2.blk (k := w.heap.size) hneD HSR.out)).2.2.2⟩
            refine wpAnyK_ready (rs := [6]) (by kernel_rfl) (by simp) ?_
            refine AllReadyK.cons rfl (fun K hK => ?_) AllReadyK.nil
            go_simp
            have hlt0 : W1.heap.size < _ := lt_of_blk gb
            have hnum : numberedB id (1 + y) = true := by simp [numberedB]; omega
            obtain ⟨⟨r, er⟩, hR⟩ : ∃ R, makeN s id (1 + y) L = R := ⟨_, rfl⟩
            have hmk := rmake_yes S _ (.slice af j cf) vt vn vs s id (1 + y) L (.slice aL L.length cL) _ (HSr.out.moved HSne.out m2) (HV.out.move (S' := fun b => W.heap.size ≤ b) m2.size fun b hb hs => ⟨m2.grown.block b hb (by have hs' : W.heap.size ≤ b := hs; have h3 := HZW.out; have h4 := zD; simp; omega), hs⟩) HSD.out.check (HL.out.trans HN.out.symm) hnum (fun x hx => by have := HSh.out x hx; omega)
            rw [hR] at hmk
            refine hmk.mono ?_
            rintro e W3 ⟨_, rfl, ⟨sv, rfl, hvv⟩, hb⟩
            have m3 := m2.below hb
            have gb := blk_below hb (lt_of_blk gb) gb
            have hvv2 := hvv.move (w' := W3) (S' := fun b => w.heap.size + 2 ≤ b ∧ b ≠ W1.heap.size) (Nat.le_refl _) fun b hb' hs => ⟨rfl, by have h1 := m2.size; have h2 := HO.out.2.size; have h3 := HZW.out; have hs' := hs; exact ⟨by omega, by omega⟩⟩
            obtain ⟨asv, csv, esv⟩ := hvv2.slice; subst esv
            have HRR := Lib.hid hR
            clear hb hvv hmk hR
            refine shutK hK (⟨(cellsS (m3.blk (k := w.heap.size) hneD HSR.out)).1, (cellsS (m3.blk (k := w.heap.size) hneD HSR.out)).2.1, (cellsS (m3.blk (k := w.heap.size) hneD HSR.out)).2.2.1, (cellsS (m3.blk (k := w.heap.size) hneD HSR.out)).2.2.2⟩) (fun hHeld => ?_)
            clear hK K
            try simp only [List.getElem_toArray, List.getElem_cons_zero, List.getElem_cons_succ, Act.put, List.setIfInBounds_toArray, List.set_cons_zero, List.set_cons_succ]
            refine tK 7 (h := ?_)
            refine tK 8 (h := ?_)
            refine tK 9 (h := ?_)
            have hvv3 := hvv2
        rotate_left 2
        focus
          go_simp
          refine shutK hK (⟨(cellsS ((mD.alloc _).blk (k := w.heap.size) hneD HSR.out)).1, (cellsS ((mD.alloc _).blk (k := w.heap.size) hneD HSR.out)).2.1, (cellsS ((mD.alloc _).blk (k := w.heap.size) hneD HSR.out)).2.2.1, (cellsS ((mD.alloc _).blk (k := w.heap.size) hneD HSR.out)).2.2.2⟩) (fun hHeld => ?_)
          clear hK K
          try simp only [List.getElem_toArray, List.getElem_cons_zero, List.getElem_cons_succ, Act.put, List.setIfInBounds_toArray, List.set_cons_zero, List.set_cons_succ]
          refine wpk_name (fun W1 hW1 => ?_)
          have m1 : Moved D wr W1 := by rw [hW1]; exact mD.alloc (.cells #[.int .i64 0, .int .i64 0, .slice none 0 0] 29)
          have gb : W1.heap[wr.heap.size]? = some (.cells #[.int .i64 0, .int .i64 0, .slice none 0 0] 29 (0, 0)) := by rw [hW1]; exact blk_new rfl
          have hrb : wr.heap.size ≤ wr.heap.size := mD.size
          have HX1 : ∀ b, b < wr.heap.size → W1.heap[b]? = wr.heap[b]? := by rw [hW1]; exact fun b hb => heap_alloc_old _ _ hb
          have hnrb : w.heap.size ≠ wr.heap.size := by have := hzs; omega
          clear hW1 hHeld
          have hHeld : W1.cell? ⟨w.heap.size, 0, none⟩ = some (.slice af j cf) ∧ W1.cell? ⟨w.heap.size, 1, none⟩ = some vt ∧ W1.cell? ⟨w.heap.size, 2, none⟩ = some vn ∧ W1.cell? ⟨w.heap.size, 3, none⟩ = some vs := ⟨(cellsS (m1.blk (k := w.heap.size) hneD HSR.out)).1, (cellsS (m1.blk (k := w.heap.size) hneD HSR.out)).2.1, (cellsS (m1.blk (k := w.heap.size) hneD HSR.out)).2.2.1, (cellsS (m1.blk (k := w.heap.size) hneD HSR.out)).2.2.2⟩
          refine wpAnyK_ready (rs := [3]) (by kernel_rfl) (by simp) ?_
          refine AllReadyK.cons rfl (fun K hK => ?_) AllReadyK.nil
          go_simp
          refine (next_any D _ 3 m1.deck (by omega) (by omega)).mono ?_
          rintro e W2 ⟨y, rfl, y0, y1, mv⟩
          have m2 := m1.trans mv
          have gb := mv.blk (by have := zD; omega) gb
          clear mv
          have hwy : IntKind.i64.wrap (1 + y) = 1 + y := by rw [IntKind.wrap_i64]; omega
          refine shutK hK (⟨(cellsS (m2.blk (k := w.heap.size) hneD HSR.out)).1, (cellsS (m2.blk (k := w.heap.size) hneD HSR.out)).2.1, (cellsS (m2.blk (k := w.heap.size) hneD HSR.out)).2.2.1, (cellsS (m2.blk (k := w.heap.size) hneD HSR.out)).2.2.2⟩) (fun hHeld => ?_)
          clear hK K
          try simp only [List.getElem_toArray, List.getElem_cons_zero, List.getElem_cons_succ, Act.put, List.setIfInBounds_toArray, List.set_cons_zero, List.set_cons_succ]
          refine tK 4 (h := ?_)
          refine wpAnyK_ready (rs := [6]) (by kernel_rfl) (by simp) ?_
          refine AllReadyK.cons rfl (fun K hK => ?_) AllReadyK.nil
          go_simp
          have hlt0 : wr.heap.size < _ := lt_of_blk gb
          have hnum : numberedB id (1 + y) = true := by simp [numberedB]; omega
          obtain ⟨⟨r, er⟩, hR⟩ : ∃ R, makeN s id (1 + y) L = R := ⟨_, rfl⟩
          have hmk := rmake_yes S _ (.slice af j cf) vt vn vs s id (1 + y) L (.slice aL L.length cL) _ (HSr.out.moved HSne.out m2) (HV.out.move (S' := fun b => W.heap.size ≤ b) m2.size fun b hb hs => ⟨m2.grown.block b hb (by have hs' : W.heap.size ≤ b := hs; have h3 := HZW.out; have h4 := zD; simp; omega), hs⟩) HSD.out.check (HL.out.trans HN.out.symm) hnum (fun x hx => by have := HSh.out x hx; omega)
          rw [hR] at hmk
          refine hmk.mono ?_
          rintro e W3 ⟨_, rfl, ⟨sv, rfl, hvv⟩, hb⟩
          have m3 := m2.below hb
          have gb := blk_below hb (lt_of_blk gb) gb
          have hvv2 := hvv.move (w' := W3) (S' := fun b => w.heap.size + 2 ≤ b ∧ b ≠ wr.heap.size) (Nat.le_refl _) fun b hb' hs => ⟨rfl, by have h1 := m2.size; have h2 := HO.out.2.size; have h3 := HZW.out; have hs' := hs; exact ⟨by omega, by omega⟩⟩
          obtain ⟨asv, csv, esv⟩ := hvv2.slice; subst esv
          have HRR := Lib.hid hR
          clear hb hvv hmk hR
          refine shutK hK (⟨(cellsS (m3.blk (k := w.heap.size) hneD HSR.out)).1, (cellsS (m3.blk (k := w.heap.size) hneD HSR.out)).2.1, (cellsS (m3.blk (k := w.heap.size) hneD HSR.out)).2.2.1, (cellsS (m3.blk (k := w.heap.size) hneD HSR.out)).2.2.2⟩) (fun hHeld => ?_)
          clear hK K
          try simp only [List.getElem_toArray, List.getElem_cons_zero, List.getElem_cons_succ, Act.put, List.setIfInBounds_toArray, List.set_cons_zero, List.set_cons_succ]
          refine tK 7 (h := ?_)
          refine tK 8 (h := ?_)
          refine tK 9 (h := ?_)
          have hvv3 := hvv2
        all_goals
          obtain ⟨c0, c1, c2⟩ := cells3 gb; have f0 := frozen_of_row _ _ 0 _ _ gb; have f1 := frozen_of_row _ _ 1 _ _ gb; have f2 := frozen_of_row _ _ 2 _ _ gb; have za := lt_of_blk gb
          have hsx := blk_far (a := ⟨_, 2, none⟩) (v := .slice asv r.vals.length csv) (blk_far (a := ⟨_, 1, none⟩) (v := .int .i64 r.ver) (blk_far (a := ⟨_, 0, none⟩) (v := .int .i64 r.id) (m3.blk (k := w.heap.size) hneD HSR.out) hnrb) hnrb) hnrb
          refine wpAnyK_ready (rs := [11]) (by kernel_rfl) (by simp) ?_
          refine AllReadyK.cons rfl (fun K hK => ?_) AllReadyK.nil
          go_simp
          refine shutK hK (⟨(cellsS hsx).1, (cellsS hsx).2.1, (cellsS hsx).2.2.1, (cellsS hsx).2.2.2⟩) (fun hHeld => ?_)
          clear hK K
          try simp only [List.getElem_toArray, List.getElem_cons_zero, List.getElem_cons_succ, Act.put, List.setIfInBounds_toArray, List.set_cons_zero, List.set_cons_succ]
          refine wpAnyK_ready (rs := [12]) (by kernel_rfl) (by simp) ?_
          refine AllReadyK.cons rfl (fun K hK => ?_) AllReadyK.nil
          go_simp
          refine shutK_off hK (by decide) ?_
          clear hK K
          try simp only [List.getElem_toArray, List.getElem_cons_zero, List.getElem_cons_succ, Act.put, List.setIfInBounds_toArray, List.set_cons_zero, List.set_cons_succ]
          refine wpAnyK_done (by kernel_rfl) ?_ _
          refine NoPanic.normal ?_
          go_wp2_with fail
          go_meet
          exact ⟨_, er, y, _, r, rfl, rfl, blk_set (blk_set (blk_set gb)), (((hvv3.far (fun b hb => hb.2)).far (fun b hb => hb.2)).far (fun b hb => hb.2)).weaken (fun b hb => hb.1), HRR, y0, y1, ((m3.set hrb _).set hrb _).set hrb _, hrb⟩
      case rest =>
        obtain ⟨rb, er, y, sv, r, rfl, rfl, grb, hvr, HRR, y0, y1, mw, hrb⟩ := hcut
        obtain ⟨asv, csv, rfl⟩ := hvr.slice
        have hsz := mw.blk (k := w.heap.size) hneD HSR.out
        have hres := mw.blk (k := w.heap.size + 1) (by omega) (HO.out.2.blk (k := w.heap.size + 1) (by omega) HZ0.out)
        have hn1 : rb ≠ w.heap.size + 1 := by have h1 := HO.out.2.size; have h2 := HZW.out; omega
        have lr := lt_of_blk hres; have lb := lt_of_blk grb; have lz := lt_of_blk hsz
        have HRES := Lib.hid hres; have HMW := Lib.hid (HM.out.trans (HO.out.2.trans mw)); have HVR := Lib.hid hvr; have HGRB := Lib.hid grb
        obtain ⟨z0, z1, z2⟩ := cells3 hres; have f0 := frozen_of_row _ _ 0 _ _ hres; have f1 := frozen_of_row _ _ 1 _ _ hres; have f2 := frozen_of_row _ _ 2 _ _ hres
        obtain ⟨c0, c1, c2⟩ := cells3 grb; have g0 := frozen_of_row _ _ 0 _ _ grb; have g1 := frozen_of_row _ _ 1 _ _ grb; have g2 := frozen_of_row _ _ 2 _ _ grb
        clear s0 s1 s2 s3
        obtain ⟨s0, s1, s2, s3⟩ := cellsS hsz
        clear hsz hres grb hvr mw mD
        by_cases he : er = 0
        · subst he
          have d0 : ((0 : Int) != 0) = false := rfl
          have HMd := Lib.hid (rec_made HRR.out)
          clear g0 g1 g2
          go_wp2_with fail
          exact bodyPost_row1 rfl rfl (blk_set (i := 2) (blk_set (i := 1) (blk_set (i := 0) HRES.out))) Tryz.underlying29 rfl (by kernel_rfl)
            ⟨_, r, rfl, ⟨_, rfl, (((HVR.out.far (fun b hb => by show b ≠ w.heap.size + 1; have hb' : w.heap.size + 2 ≤ b := hb; omega)).far (fun b hb => by show b ≠ w.heap.size + 1; have hb' : w.heap.size + 2 ≤ b := hb; omega)).far (fun b hb => by show b ≠ w.heap.size + 1; have hb' : w.heap.size + 2 ≤ b := hb; omega)).weaken (fun b hb => by have hb' : w.heap.size + 2 ≤ b := hb; show w.heap.size ≤ b; omega)⟩, HMd.out.1, HMd.out.2.1, HMd.out.2.2,
              ((HMW.out.set (a := ⟨w.heap.size + 1, 0, none⟩) (Nat.le_succ _) _).set (a := ⟨w.heap.size + 1, 1, none⟩) (Nat.le_succ _) _).set (a := ⟨w.heap.size + 1, 2, none⟩) (Nat.le_succ _) _⟩
        · have d0 : (er != (0 : Int)) = true := by simpa using he
          have hmk := run_make_row' (P := Tryz.prog) 27 9 (.string ⟨#[]⟩) 16 Tryz.underlying27 infoS rfl .i64 .i64 j (by omega) (by omega)
          rw [made_strings] at hmk
          clear HVR HRR he
          go_upto_region 9 with fail
          refine wp_world (fun W9 hW9 => ?_)
          have hrw : w.heap.size ≤ rb := by have h1 := HO.out.2.size; have h2 := HZW.out; omega
          have hgb : W9.heap[rb]? = some (.cells #[.int .i64 id, .int .i64 1, .slice (some ⟨wc.heap.size, 0, none⟩) j j] 29 (0, 0)) := by rw [hW9]; exact blk_old (blk_set (i := 2) (blk_set (i := 1) (blk_set (i := 0) HGRB.out)))
          have hg9 : W9.heap[wc.heap.size]? = some (.cells ((List.replicate j ([] : List UInt8)).flatMap encS).toArray 9 (0, 0)) := by rw [hW9]; exact blk_new (by simp [World.setCell])
          have hr9 : W9.heap[w.heap.size + 1]? = some (.cells #[.int .i64 0, .int .i64 0, .slice none 0 0] 29 (0, 0)) := by rw [hW9]; exact blk_old (blk_far (blk_far (blk_far HRES.out hn1.symm) hn1.symm) hn1.symm)
          have m9 : Moved D w W9 := by rw [hW9]; exact (((HMW.out.set (a := ⟨rb, 0, none⟩) hrw _).set (a := ⟨rb, 1, none⟩) hrw _).set (a := ⟨rb, 2, none⟩) hrw _).alloc _
          have HG9 := Lib.hid hg9; have HR9 := Lib.hid hr9; have HM9 := Lib.hid m9
          clear hW9 c0 c1 c2 z0 z1 z2 f0 f1 f2 g0 g1 g2 s0 s1 s2 s3 m9 hmk
          obtain ⟨z0, z1, z2⟩ := cells3 hr9; have f0 := frozen_of_row _ _ 0 _ _ hr9; have f1 := frozen_of_row _ _ 1 _ _ hr9; have f2 := frozen_of_row _ _ 2 _ _ hr9
          obtain ⟨c0, c1, c2⟩ := cells3 hgb
          have l1 := lt_of_blk hr9; have l2 := lt_of_blk hgb
          have HCk := Lib.hid (show checkN s ⟨id, 1, List.replicate j []⟩ = 0 by rw [← HN.out]; exact rec_none HSD.out.check h1 h2)
          clear hr9 hgb hg9
          go_wp2_with fail
          exact bodyPost_row1 rfl rfl (blk_set (i := 2) (blk_set (i := 1) (blk_set (i := 0) HR9.out))) Tryz.underlying29 rfl (by kernel_rfl)
            ⟨_, ⟨id, 1, List.replicate j []⟩, rfl, ⟨_, rfl, (((blockVec (k := 1) (enc := encS) (L := List.replicate j ([] : List UInt8)) (S := fun b => w.heap.size ≤ b ∧ b ≠ w.heap.size + 1) (A := wc.heap.size) (fun _ => rfl) HG9.out ⟨by omega, by omega⟩ j (by simp)).far (fun b hb => hb.2)).far (fun b hb => hb.2)).far (fun b hb => hb.2) |>.weaken (fun b hb => hb.1)⟩, rfl, HCk.out, (by intro x hx; have := List.eq_of_mem_replicate hx; subst this; simp),
              ((HM9.out.set (a := ⟨w.heap.size + 1, 0, none⟩) (Nat.le_succ _) _).set (a := ⟨w.heap.size + 1, 1, none⟩) (Nat.le_succ _) _).set (a := ⟨w.heap.size + 1, 2, none⟩) (Nat.le_succ _) _⟩
end
section
open Go.RowKit
section
variable {α : Type} {P : Program} {w : World} {ops : Array Oper} {rest : List Oper} {o : Oper} {a : Act} {Q : Exit → Act → World → Prop}
/-- append while the deck moves on; where the row lies afterwards -/
theorem wpList_append_mat (hgd : o.guard = none) (s x : Operand) (t : TypeId) (ho : o.op = .call { callee := .builtin .append, args := #[s, x], argTypes := #[t, t] })
    (D e : Nat) (z : Value) (size bytes : Nat) (enc : α → List Value) (hk : ∀ x, (enc x).length = size) (h1 : ∀ x, ∀ u ∈ enc x, u.oneCell' = true) (ht : P.underlying t = some (.slice e)) (hinfo : (P.info? e).map (fun i => (i.zero, i.size, i.bytes)) = some (some z, size, bytes))
    (hzs : z.cells.size = size) (hsz : 0 < size) (hby : bytes ≤ 128) {wA : World} {v u : Value} {A B : List α} (hs : a.eval s = v) (hown : OwnM D e size enc wA v A w) (hx : a.eval x = u) (hr : Reads w size u B.length (B.flatMap enc)) (hn : A.length + B.length ≤ 1000000000)
    (h : ∀ v' w', OwnM D e size enc wA v' (A ++ B) w' → (∀ k o, some k ≠ v.ownBlock → w.heap[k]? = some o → w'.heap[k]? = some o) → w.heap.size ≤ w'.heap.size → (v'.ownBlock = none ∨ v.ownBlock = v'.ownBlock ∨ v'.ownBlock = some w.heap.size) → wpList P ops Q rest (a.put o.dst v') w') : wpList P ops Q (o :: rest) a w := by
  refine wpList_plain hgd fun K hK => ?_
  refine wp_append_reads s x t ho wA.heap.size e z size bytes ht hinfo hzs hsz v A.length (A.flatMap enc) hs hown.1 u B.length (B.flatMap enc) hx hr (fun u hu => ?_) (by unfold maxLen; omega) ?_ hown.2.size ?_
  · obtain ⟨y, _, hy⟩ := List.mem_flatMap.1 hu
    exact h1 y u hy
  · exact Nat.le_trans (Nat.mul_le_mul hn hby) (by decide)
  · intro v' w' ho' hg hat
    refine hK _ _ (h v' w' ⟨by rw [List.length_append, List.flatMap_append]; exact ho', hown.2.grown' hg fun k hk => ?_⟩ (fun k o hk hko => (hg.block k (lt_of_blk hko) hk).trans hko) hg.size hat)
    rcases hown.1.2 with ⟨rfl, _⟩ | ⟨g, cap, cur, rfl, hg1, _⟩
    · simp [Value.ownBlock] at hk
    · have : g = k := by simpa [Value.ownBlock] using hk
      omega
end
end
section
set_option maxRecDepth 100000
open Go.RowKit Cal
attribute [local go_sem] toList_mk mk_size bytes_append
theorem allA_ok {s : SchemaL} : ∀ (R : List RecL) (p : Option Int), allA s p R = 0 → ∀ r ∈ R, checkI s r = 0
  | [], _, _, r, hr => by simp at hr
  | x :: R, p, h, r, hr => by
    unfold allA at h
    split at h
    · next h1 =>
      split at h
      · cases h
      · rcases List.mem_cons.1 hr with rfl | h2
        · exact h1
        · exact allA_ok R _ h r h2
    · next h1 => exact absurd h h1
theorem allN_ok {s : SchemaL} {R : List RecL} (h : allN s R = 0) : checkS s = 0 ∧ R.length ≤ 64 ∧ ∀ r ∈ R, checkN s r = 0 := by
  unfold allN at h
  split at h
  · next h0 =>
    split at h
    · next h1 => exact ⟨h0, h1, fun r hr => by unfold checkN; rw [if_pos h0]; exact allA_ok R none h r hr⟩
    · cases h
  · next h0 => exact absurd h h0
/-- records for blocks: valid, their values short -/
structure RecsOk (s : SchemaL) (R : List RecL) : Prop where
  all : allN s R = 0
  short : ∀ r ∈ R, ∀ x ∈ r.vals, x.length ≤ 64
theorem RecsOk.vals {s : SchemaL} {R : List RecL} (h : RecsOk s R) (hn : s.fields.length ≤ 1000) : ∀ r ∈ R, r.vals.length ≤ 1000000 := by
  intro r hr
  have := (checkN_ok ((allN_ok h.all).2.2 r hr)).2.2.1
  omega
/-- the values of a valid record are short -/
theorem check_short {s : SchemaL} {r : RecL} (h : checkN s r = 0) : ∀ x ∈ r.vals, x.length ≤ 64 := by
  obtain ⟨hc, _, hl, hno⟩ := checkN_ok h
  intro x hx
  obtain ⟨j, hj, rfl⟩ := List.mem_iff_getElem.1 hx
  by_cases h0 : r.vals[j] = []
  · rw [h0]; simp
  · have hnj := normA_get s r.vals 0 hno j hj
    rw [Nat.zero_add, getD_at _ _ hj] at hnj
    have hfi : findN s (j : Int) = ((s.fields.getD j default).2, 0) := findN_in hc (by omega)
    have hown : ownK (s.fields.getD j default).2 s.rules r.vals[j] = true := by
      unfold normalB at hnj
      rw [hfi, if_pos rfl, if_neg h0] at hnj
      exact hnj
    have hkk := findN_kind (s := s) (f := (j : Int)) (by rw [hfi])
    rw [hfi] at hkk
    exact (own_facts hown hkk).1
theorem recs_of_all {s : SchemaL} {R : List RecL} (h : allN s R = 0) : RecsOk s R := ⟨h, fun r hr => check_short ((allN_ok h).2.2 r hr)⟩
theorem infoR : (Tryz.prog.info? 29).map (fun i => (i.zero, i.size, i.bytes)) = some (some (.agg #[.int .i64 0, .int .i64 0, .slice none 0 0]), 3, 40) := by kernel_rfl
theorem one_encRV : ∀ x : RV, ∀ u ∈ encRV x, u.oneCell' = true := by intro x u hu; simp at hu; rcases hu with rfl | rfl | rfl <;> rfl
/-- records that are being dealt -/
structure ROut (D : Nat) (W : World) (s : SchemaL) (v : Value) (C : List RV) (id : Int) (wr : World) : Prop where
  own : OwnM D 29 3 encRV W v C wr
  vals : ∀ x ∈ C, Vec wr (OffRow W.heap.size v) 1 encS (.slice x.a x.n x.c) x.vals
  ok : ∀ x ∈ C, checkN s (pR x) = 0 ∧ ∀ y ∈ x.vals, y.length ≤ 64
  asc : C.Pairwise fun x y => x.id < y.id
  le : ∀ x ∈ C, x.id ≤ id
  id0 : 0 ≤ id
  id3 : id ≤ 3 * C.length
theorem ROut.nil {D : Nat} {W wr : World} {s : SchemaL} (m : Moved D W wr) : ROut D W s (.slice none 0 0) [] 0 wr := ⟨OwnM.nil m, fun x h => by simp at h, fun x h => by simp at h, List.Pairwise.nil, fun x h => by simp at h, by omega, by simp⟩
theorem ROut.moved {D : Nat} {W wr wx : World} {s : SchemaL} {v : Value} {C : List RV} {id : Int} (h : ROut D W s v C id wr) (m : Moved D wr wx) : ROut D W s v C id wx :=
  ⟨h.own.moved m, fun x hx => (h.vals x hx).move m.size fun b hb hs => ⟨m.grown.block b hb (by have := h.own.2.lt; have := hs.1; simp; omega), hs⟩, h.ok, h.asc, h.le, h.id0, h.id3⟩
theorem recs_ok {s : SchemaL} {C : List RV} (h0 : checkS s = 0) (ok : ∀ x ∈ C, checkN s (pR x) = 0 ∧ ∀ y ∈ x.vals, y.length ≤ 64) (asc : C.Pairwise fun x y => x.id < y.id) (hl : C.length ≤ 64) : RecsOk s (C.map pR) := by
  refine ⟨?_, fun r hr => ?_⟩
  · unfold allN
    rw [if_pos h0, if_pos (by simpa using hl)]
    refine allA_yes _ none (fun r hr => ?_) (fun q r hq => by cases hq) (fun j hj => ?_)
    · obtain ⟨x, hx, rfl⟩ := List.mem_map.1 hr
      have := (ok x hx).1
      unfold checkN at this
      rwa [if_pos h0] at this
    · rw [List.getElem_map, List.getElem_map]
      exact List.pairwise_iff_getElem.1 asc j (j + 1) _ _ (by omega)
  · obtain ⟨x, hx, rfl⟩ := List.mem_map.1 hr
    exact (ok x hx).2
def RecordsPost (D : Nat) (s : SchemaL) (most : Nat) (w : World) (e : Ending) (w' : World) : Prop := ∃ v R, e = .returned v ∧ RecsVec w' (fun b => w.heap.size ≤ b) v R ∧ RecsOk s R ∧ R.length ≤ most ∧ (R.Pairwise fun x y => x.id < y.id) ∧ Moved D w w'
/-- the dealt records, with the row that they lie in -/
def RecordsOwn (D : Nat) (s : SchemaL) (most : Nat) (w : World) (e : Ending) (w' : World) : Prop := ∃ (v : Value) (C : List RV) (W : World) (id : Int), e = .returned v ∧ ROut D W s v C id w' ∧ Moved D w W ∧ C.length ≤ most ∧ checkS s = 0
theorem RecordsOwn.post {D : Nat} {s : SchemaL} {most : Nat} {w w' : World} {e : Ending} (hm : most ≤ 64) (h : RecordsOwn D s most w e w') : RecordsPost D s most w e w' := by
  obtain ⟨v, C, W, id, rfl, ho, mv, hl, hc⟩ := h
  have hz := mv.size
  refine ⟨_, C.map pR, rfl, ⟨C, (OwnM.vec (size := 3) (enc := encRV) (fun _ => rfl) ho.own).move (Nat.le_refl _) (fun x _ hx => ⟨rfl, by have hx' : W.heap.size ≤ x := hx; show w.heap.size ≤ x; omega⟩), rfl, fun y hy => (ho.vals y hy).move (Nat.le_refl _) (fun x _ hx => ⟨rfl, by have hx' := hx.1; show w.heap.size ≤ x; omega⟩)⟩, recs_ok hc ho.ok ho.asc (by omega), by rw [List.length_map]; omega, ?_, mv.trans ho.own.2⟩
  exact List.pairwise_map.2 ho.asc
set_option maxHeartbeats 8000000 in
theorem records_dealO (D : Nat) (S : Nat → Prop) (vf vt vn vs : Value) (s : SchemaL) (most : Nat) (w : World) (h : DeckAt w D) (hs : SchemaAt w S vf vt vn vs s) (hS : ∀ b, S b → b ≠ D) (hd : SchemaD s) (hm : most ≤ 64) :
    Calls Tryz.prog 11 #[.pointer (some ⟨D, 0, none⟩), .agg #[vf, vt, vn, vs], .int .i64 most] w (RecordsOwn D s most w) := by
  have zD := h.lt
  have M0 := Lib.hid (Moved.start h); clear h
  have HS := Lib.hid hs; have HSD := Lib.hid hd; have HSne := Lib.hid hS
  clear hs hd hS
  go_enter Tryz.func11, Tryz.ntmps11
  go_wp2_with fail
  refine wp_calls_world (fun W hW => ?_)
  have hm0 : Moved D w W := by rw [hW]; exact M0.out.alloc _
  have hb0 : Below w.heap.size w W := by rw [hW]; exact (Below.refl w.heap.size w).alloc (Nat.le_refl _) _
  have hs0 : W.heap[w.heap.size]? = some (.cells #[vf, vt, vn, vs] 43 (0, 0)) := by rw [hW]; exact blk_new rfl
  have hzW : W.heap.size = w.heap.size + 1 := by rw [hW]; simp
  clear hW
  have HM := Lib.hid hm0; have HS0 := Lib.hid hs0; have HSW := Lib.hid (HS.out.below hb0); have HZW := Lib.hid hzW
  clear hm0 hs0 hb0 hzW
  refine (next_any D _ (most + 1) HM.out.deck (by omega) (by omega)).mono ?_
  rintro e w1 ⟨q, rfl, q0, q1, mv⟩
  obtain ⟨q, rfl⟩ := Int.eq_ofNat_of_zero_le q0
  have MW := Lib.hid mv
  clear mv
  go_wp2_with fail
  go_loopw [7, 8, 9] (fun v t i wr => ∃ (j : Nat) (id : Int) (C : List RV), t = .int .i64 id ∧ i = .int .i64 j ∧ C.length + j = q ∧ ROut D W s v C id wr) (fun _ _ i _ => (intOf i).toNat)
  case atStart => exact ⟨q, 0, [], rfl, rfl, by simp, ROut.nil MW.out⟩
  case round =>
    obtain ⟨j, id, C, rfl, rfl, hj, ho⟩ := hrel
    have HO := Lib.hid ho; have HJ := Lib.hid hj; clear ho hj
    have hzr := HO.out.own.2.size
    by_cases hlt : 0 < j
    · have hq : decide ((0 : Int) < (j : Int)) = true := by simp; omega
      have hCl : C.length ≤ 63 := by have := HJ.out; omega
      have hjq : j ≤ 65 := by have := HJ.out; omega
      have hi0 := HO.out.id0; have hi3 := HO.out.id3
      go_wp2_with fail
      refine (next_any D _ 3 HO.out.own.2.deck (by omega) (by omega)).mono ?_
      rintro e w2 ⟨x, rfl, x0, x1, mv⟩
      have HO2 := Lib.hid (HO.out.moved mv)
      have hsx := HO2.out.own.2.blk (k := w.heap.size) (by omega) HS0.out
      have HSX := Lib.hid hsx
      obtain ⟨s0, s1, s2, s3⟩ := cellsS hsx
      have hzs := lt_of_blk hsx
      clear mv HO hsx
      go_wp2_with fail
      refine (record_deal D S _ _ _ _ s (id + (1 + x)) w2 HO2.out.own.2.deck (HSW.out.moved HSne.out HO2.out.own.2) HSne.out HSD.out (by omega) (by omega)).mono ?_
      rintro e w3 ⟨_, r, rfl, ⟨sv, rfl, hv⟩, hid, hck, hsh, mv⟩
      obtain ⟨av, cv, rfl⟩ := hv.slice
      have hzw2 := HO2.out.own.2.size
      have hown6 : ∀ x, w2.heap.size ≤ x → some x ≠ u7.ownBlock := by
        intro x hx'
        rcases HO2.out.own.1.2 with ⟨h0, _⟩ | ⟨g, cap, cur, h0, hg, hh, _⟩
        · rw [h0]; simp [Value.ownBlock]
        · rw [h0]; have := lt_of_blk hh; simp [Value.ownBlock]; omega
      have HO3 := Lib.hid (HO2.out.moved mv)
      have HO4 := Lib.hid (HO3.out.own.moved ((Moved.start HO3.out.own.2.deck).alloc (.cells #[.int .i64 r.id, .int .i64 r.ver, .slice av r.vals.length cv] 29)))
      have HR4 := Lib.hid (show Reads (w3.alloc (.cells #[.int .i64 r.id, .int .i64 r.ver, .slice av r.vals.length cv] 29)) 3 (.slice (some ⟨w3.heap.size, 0, none⟩) 1 1) [(⟨r.id, r.ver, av, r.vals.length, cv, r.vals⟩ : RV)].length ([(⟨r.id, r.ver, av, r.vals.length, cv, r.vals⟩ : RV)].flatMap encRV) from reads_block (xs := [(⟨r.id, r.ver, av, r.vals.length, cv, r.vals⟩ : RV)].flatMap encRV) (fr := (0, 0)) (t := 29) (blk_new rfl) rfl)
      have HVN := Lib.hid (hv.move (w' := w3) (S' := fun x => some x ≠ u7.ownBlock ∧ W.heap.size ≤ x) (Nat.le_refl _) (fun x _ hx' => ⟨rfl, hown6 x hx', by have h' : w2.heap.size ≤ x := hx'; omega⟩))
      have HVO := Lib.hid (fun y (hy : y ∈ C) => (HO3.out.vals y hy).move (w' := w3) (S' := fun x => some x ≠ u7.ownBlock ∧ W.heap.size ≤ x) (Nat.le_refl _) (fun x hx' hs => ⟨rfl, hs.2, hs.1⟩))
      have hcn : C.length + [(⟨r.id, r.ver, av, r.vals.length, cv, r.vals⟩ : RV)].length ≤ 1000000000 := by simp only [List.length_cons, List.length_nil]; omega
      have HCk := Lib.hid (show checkN s r = 0 ∧ ∀ y ∈ r.vals, y.length ≤ 64 from ⟨hck, hsh⟩)
      have HId := Lib.hid hid
      have HAsc := Lib.hid HO3.out.asc; have HLe := Lib.hid HO3.out.le; have HOk3 := Lib.hid HO3.out.ok
      obtain ⟨rid, rver, rvals⟩ := r
      dsimp only at HO4 HR4 HVN hcn HCk HId
      clear hv hid hck hsh mv s0 s1 s2 s3 hzs HSX HO2 HO3
      go_wp2_with (at_builtin; refine wpList_append_mat rfl (.tmp 23) (.tmp 28) 45 rfl D 29 (.agg #[.int .i64 0, .int .i64 0, .slice none 0 0]) 3 40 encRV (fun _ => rfl) one_encRV Tryz.underlying45 infoR rfl (by decide) (by decide) (wA := W) (v := u7) (A := C) (B := [⟨rid, rver, av, rvals.length, cv, rvals⟩]) rfl HO4.out rfl HR4.out hcn ?_; intro v4 w4 ho4 hk4 hz4 hat4)
      go_roundw
      case rel =>
        have hmv : ∀ b, b < w3.heap.size → (some b ≠ u7.ownBlock ∧ W.heap.size ≤ b) → w4.heap[b]? = w3.heap[b]? ∧ OffRow W.heap.size v4 b := by
          intro b hb hS
          obtain ⟨q1, q2⟩ := hS
          refine ⟨?_, q2, ?_⟩
          · obtain ⟨ob, hob⟩ : ∃ ob, w3.heap[b]? = some ob := ⟨_, Array.getElem?_eq_getElem hb⟩
            rw [hob]
            exact hk4 b ob q1 (blk_old hob)
          · rcases hat4 with h1 | h1 | h1
            · rw [h1]; simp
            · rw [← h1]; exact q1
            · rw [h1]; simp; omega
        have hz34 : w3.heap.size ≤ w4.heap.size := by simp at hz4; omega
        have hidr := HId.out
        refine ⟨j - 1, id + (1 + x), C ++ [⟨rid, rver, av, rvals.length, cv, rvals⟩], rfl, by go_num, by rw [List.length_append]; have := HJ.out; show C.length + 1 + (j - 1) = q; omega, ho4, fun y hy => ?_, fun y hy => ?_, ?_, fun y hy => ?_, by omega, by rw [List.length_append]; simp; omega⟩
        · rcases List.mem_append.1 hy with h1 | h1
          · exact (HVO.out y h1).move hz34 hmv
          · simp at h1; subst h1; exact HVN.out.move hz34 hmv
        · rcases List.mem_append.1 hy with h1 | h1
          · exact HOk3.out y h1
          · simp at h1; subst h1; exact HCk.out
        · refine List.pairwise_append.2 ⟨HAsc.out, List.pairwise_singleton _ _, fun y hy z hz => ?_⟩
          simp at hz; subst hz
          have := HLe.out y hy
          show y.id < rid; omega
        · rcases List.mem_append.1 hy with h1 | h1
          · have := HLe.out y h1; omega
          · simp at h1; subst h1; show rid ≤ _; omega
      case measure => simp [intOf]; omega
    · have hq : decide ((0 : Int) < (j : Int)) = false := by simp; omega
      obtain rfl : j = 0 := by omega
      go_wp2_with fail
      go_ret
      exact ⟨_, C, W, id, rfl, HO.out, HM.out, by have := HJ.out; omega, HSD.out.check⟩
theorem records_deal (D : Nat) (S : Nat → Prop) (vf vt vn vs : Value) (s : SchemaL) (most : Nat) (w : World) (h : DeckAt w D) (hs : SchemaAt w S vf vt vn vs s) (hS : ∀ b, S b → b ≠ D) (hd : SchemaD s) (hm : most ≤ 64) :
    Calls Tryz.prog 11 #[.pointer (some ⟨D, 0, none⟩), .agg #[vf, vt, vn, vs], .int .i64 most] w (RecordsPost D s most w) :=
  (records_dealO D S vf vt vn vs s most w h hs hS hd hm).mono fun _ _ h => h.post hm
end
section
set_option maxRecDepth 100000
open Go.RowKit
theorem RecsOk.comps {s : SchemaL} {R : List RecL} (h : RecsOk s R) {K : List (Int × Int)} (hk : KeyOk s.fields K) : ∀ r ∈ R, CompsOk K r.vals :=
  fun r hr => comps_ok hk ((allN_ok h.all).2.2 r hr) (h.short r hr)
def Blocks2Post (L : List BkP) (w : World) (e : Ending) (w' : World) : Prop := ∃ v, e = .returned (.tuple #[v, .int .i64 0]) ∧ BlocksAt w' (fun b => w.heap.size ≤ b) v L ∧ Below w.heap.size w w'
set_option maxHeartbeats 4000000 in
theorem bBlocks_yes (S T : Nat → Prop) (vf vt vn vs kv rv : Value) (s : SchemaL) (k : Int × Int) (Ks : List (List (Int × Int))) (i : Nat) (R : List RecL) (w : World) (h : SchemaAt w S vf vt vn vs s) (hk : KeysVec w T kv Ks) (hr : RecsVec w Any1 rv R) (hR : RecsOk s R) (hn : s.fields.length ≤ 1000) (ok : KeysOk s.fields Ks) (hi : i < Ks.length) :
    Calls Tryz.prog 19 #[.agg #[vf, vt, vn, vs], .agg #[.int .u64 k.1, .int .u64 k.2], kv, .int .i64 i, rv] w (Blocks2Post (blocksN k i (Ks.getD i []) R) w) := by
  obtain ⟨ak, ck, rfl⟩ := hk.slice
  obtain ⟨ar, cr, rfl⟩ := hr.slice
  have hc := (allN_ok hR.all).1
  have h64 := (allN_ok hR.all).2.1
  have hkey := ok.key (Ks.getD i []) (by rw [getD_at _ _ hi]; exact List.getElem_mem hi)
  have h8 := ok.len
  obtain ⟨G, hG⟩ : ∃ G, blocksN k i (Ks.getD i []) R = G := ⟨_, rfl⟩
  rw [hG]
  have HS := Lib.hid h; have HK := Lib.hid hk; have HV := Lib.hid hr; have HRO := Lib.hid hR; have HOk := Lib.hid ok; have HC := Lib.hid hc; have HKey := Lib.hid hkey; have HG := Lib.hid hG
  have hck := Lib.hid (show (if i < Ks.length then (0 : Int) else 2) = 0 from if_pos hi)
  have dz : ((0 : Int) != 0) = false := rfl
  have hii : (i : Int) < (Ks.length : Int) := by omega
  clear h hk hr hR ok hc hkey hG
  go_enter Tryz.func19, Tryz.ntmps19
  go_wp2_with fail
  refine wp_calls_world (fun W hW => ?_)
  have hb0 : Below w.heap.size w W := by rw [hW]; exact ((Below.refl w.heap.size w).alloc (Nat.le_refl _) _).alloc (by simp) _
  have hs0 : W.heap[w.heap.size]? = some (.cells #[vf, vt, vn, vs] 43 (0, 0)) := by rw [hW]; exact blk_old (blk_new rfl)
  have hk0 : W.heap[w.heap.size + 1]? = some (.cells #[.int .u64 k.1, .int .u64 k.2] 26 (0, 0)) := by rw [hW]; exact blk_new (by simp)
  clear hW
  refine (bcheck2_any S T _ _ _ _ _ s Ks i W (HS.out.below hb0) (HK.out.below hb0) HC.out (by omega) HOk.out (by omega)).mono ?_
  rw [hck.out]
  rintro e w1 ⟨rfl, hb⟩
  have hs1 := blk_below hb (lt_of_blk hs0) hs0; have hk1 := blk_below hb (lt_of_blk hk0) hk0
  have HB1 := Lib.hid (hb0.trans (hb.mono hb0.size)); have HK1 := Lib.hid hk1
  obtain ⟨s0, s1, s2, s3⟩ := cellsS hs1
  have ls := lt_of_blk hs1
  clear hb hb0 hs0 hk0 hs1 hk1
  go_wp2_with fail
  refine (rall_any S Any1 _ _ _ _ _ s R w1 (HS.out.below HB1.out) (HV.out.below HB1.out) (fun r hr x hx => by have := HRO.out.short r hr x hx; omega) (HRO.out.vals hn) (by omega)).mono ?_
  rw [HRO.out.all]
  rintro e w2 ⟨rfl, hb⟩
  have hk2 := blk_below hb (lt_of_blk HK1.out) HK1.out
  have HB2 := Lib.hid (HB1.out.trans (hb.mono HB1.out.size))
  clear hb s0 s1 s2 s3
  obtain ⟨k0, k1⟩ := cells2K hk2
  have lk := lt_of_blk hk2
  obtain ⟨b, off, c, rfl, lb, c0, hvc⟩ := (HK.out.below HB2.out).at i hi
  obtain ⟨ca, cn, cc⟩ := c
  dsimp only at c0 hvc
  have HVC := Lib.hid hvc
  clear hk2 hvc ls
  go_wp2_with fail
  have bD : Below w2.heap.size w2 w2.drew := (Below.refl _ _).drew
  refine wp_region_noPanic ?_
  refine wp_region_held_drew (S := (fun w' => w'.cell? ⟨w.heap.size + 1, 0, none⟩ = some (.int .u64 k.1) ∧ w'.cell? ⟨w.heap.size + 1, 1, none⟩ = some (.int .u64 k.2) ∧ w'.cell? ⟨b, off + i, none⟩ = some (.slice ca cn cc))) (by kernel_rfl) (⟨k0, k1, c0⟩) (fun hHeld => ?_)
  refine tH 0 (h := ?_)
  refine tH 1 (h := ?_)
  refine tH 2 (h := ?_)
  refine tH 3 (h := ?_)
  refine tH 4 (h := ?_)
  refine tH 5 (h := ?_)
  refine tH 6 (h := ?_)
  refine wpAnyH_ready (rs := [7]) (by kernel_rfl) (by simp) ?_
  refine AllReadyH.cons rfl (fun K hK => ?_) AllReadyH.nil
  go_simp
  refine (blocks_yes T k _ (Ks.getD i []) i _ R _ (HVC.out.below bD) ((HV.out.below HB2.out).below bD) (HRO.out.vals hn) (HRO.out.comps HKey.out) (by omega) (by omega)).mono ?_; rw [HG.out]; rintro e w3 ⟨v3, rfl, hv3, hb⟩; have b3 := bD.trans hb; have HV3 := Lib.hid hv3; clear hb hv3
  refine hK.out _ _ (⟨(b3.cell (p := ⟨w.heap.size + 1, 0, none⟩) lk).trans k0, (b3.cell (p := ⟨w.heap.size + 1, 1, none⟩) lk).trans k1, (b3.cell (p := ⟨b, off + i, none⟩) lb).trans c0⟩) (fun hHeld => ?_)
  clear hK K
  try simp only [List.getElem_toArray, List.getElem_cons_zero, List.getElem_cons_succ, Act.put, List.setIfInBounds_toArray, List.set_cons_zero, List.set_cons_succ]
  refine tH 8 (h := ?_)
  refine tH 9 (h := ?_)
  refine wpAnyH_done (by kernel_rfl) ?_ _
  refine NoPanic.normal ?_
  go_wp2_with fail
  go_ret2
  exact ⟨v3, rfl, HV3.out.move (Nat.le_refl _) (fun x _ hx => ⟨rfl, by have h1 := HB2.out.size; have hx' : w2.heap.size ≤ x := hx; show w.heap.size ≤ x; omega⟩), HB2.out.trans (b3.mono HB2.out.size)⟩
end
section
open Go.RowKit
/-- components of fields below j, ascending, each fitting -/
structure KeyD (F : List F2) (j : Nat) (K : List (Int × Int)) : Prop where
  len : K.length ≤ 3
  fit : ∀ c ∈ K, 0 ≤ c.1 ∧ c.1 < j ∧ fitsB c.2 (F.getD c.1.toNat default).2 = true
  asc : ∀ i, i + 1 < K.length → (K.getD i (0, 0)).1 < (K.getD (i + 1) (0, 0)).1
theorem KeyD.nil (F : List F2) : KeyD F 0 [] := ⟨by simp, fun c h => by simp at h, fun i h => by simp at h⟩
theorem KeyD.skip {F : List F2} {j : Nat} {K : List (Int × Int)} (h : KeyD F j K) : KeyD F (j + 1) K := ⟨h.len, fun c hc => by obtain ⟨a, b, d⟩ := h.fit c hc; exact ⟨a, by omega, d⟩, h.asc⟩
theorem getD_snoc {α : Type} (L : List α) (x d : α) (i : Nat) : (L ++ [x]).getD i d = if i < L.length then L.getD i d else if i = L.length then x else d := by
  simp only [List.getD_eq_getElem?_getD, List.getElem?_append]
  split
  · rfl
  · next h =>
    split
    · next h2 => subst h2; simp
    · next h2 =>
      have : (([x] : List α)[i - L.length]?) = none := by rw [List.getElem?_eq_none_iff]; simp; omega
      rw [this]; rfl
theorem KeyD.snoc {F : List F2} {j : Nat} {K : List (Int × Int)} {t : Int} (h : KeyD F j K) (hl : K.length < 3) (ht : fitsB t (F.getD j default).2 = true) : KeyD F (j + 1) (K ++ [((j : Int), t)]) := by
  refine ⟨by simp; omega, fun c hc => ?_, fun i hi => ?_⟩
  · rcases List.mem_append.1 hc with h1 | h1
    · obtain ⟨a, b, d⟩ := h.fit c h1
      exact ⟨a, by omega, d⟩
    · simp at h1; subst h1
      exact ⟨by simp, by simp only [Int.natCast_add]; omega, by simpa using ht⟩
  · rw [getD_snoc, getD_snoc]
    simp only [List.length_append, List.length_cons, List.length_nil] at hi
    by_cases h1 : i + 1 < K.length
    · rw [if_pos (by omega), if_pos h1]; exact h.asc i h1
    · have h2 : i + 1 = K.length := by omega
      rw [if_pos (by omega), if_neg h1, if_pos h2]
      have hm : K.getD i (0, 0) ∈ K := by rw [List.getD, List.getElem?_eq_getElem (by omega)]; exact List.getElem_mem _
      exact (h.fit _ hm).2.1
theorem orderC_lt {a b : Int × Int} (h : a.1 < b.1) : orderC a b < 0 := by
  have e : cmp3 a.1 b.1 = -1 := by unfold cmp3; rw [if_pos h]
  unfold orderC orN
  rw [e, if_neg (by decide)]; decide
theorem KeyD.ok {F : List F2} {K : List (Int × Int)} (h : KeyD F F.length K) (h1 : 1 ≤ K.length) : KeyOk F K :=
  ⟨h1, h.len, h.fit, fun i hi => orderC_lt (h.asc i hi)⟩
theorem key_whole {F : List F2} (h : 1 ≤ F.length) : KeyOk F [(0, 1)] :=
  ⟨by simp, by simp, fun c hc => by simp at hc; subst hc; exact ⟨by simp, by simp; omega, rfl⟩, fun i hi => by simp at hi⟩
def ownT (k : Int) : Int := if k = 1 then 2 else if k = 2 then 4 else if k = 3 then 1 else if k = 4 then 5 else 0
theorem fits_own {k : Int} (h : 1 ≤ k ∧ k ≤ 4) : fitsB (ownT k) k = true := by
  rcases (by omega : k = 1 ∨ k = 2 ∨ k = 3 ∨ k = 4) with rfl | rfl | rfl | rfl <;> rfl
end
section
set_option maxRecDepth 100000
open Go.RowKit
attribute [local go_sem] toList_mk mk_size str_append
theorem infoC : (Tryz.prog.info? 31).map (fun i => (i.zero, i.size, i.bytes)) = some (some (.agg #[.int .i64 0, .int .i64 0]), 2, 16) := by kernel_rfl
theorem one_encSV : ∀ x : SV, ∀ u ∈ encSV x, u.oneCell' = true := by intro x u hu; simp at hu; subst hu; rfl
theorem KeysAll.move {w w' : World} {S T : Nat → Prop} {C : List SV} {Ks : List (List (Int × Int))} (h : KeysAll w S C Ks) (hz : w.heap.size ≤ w'.heap.size) (hS : ∀ x, x < w.heap.size → S x → w'.heap[x]? = w.heap[x]? ∧ T x) : KeysAll w' T C Ks :=
  ⟨h.1, fun n h1 h2 => (h.2 n h1 h2).move hz hS⟩
theorem KeysAll.snoc {w : World} {S : Nat → Prop} {C : List SV} {Ks : List (List (Int × Int))} {c : SV} {K : List (Int × Int)} (h : KeysAll w S C Ks) (hc : Vec w S 2 encC (.slice c.a c.n c.c) K) : KeysAll w S (C ++ [c]) (Ks ++ [K]) := by
  refine ⟨by simp [h.1], fun n h1 h2 => ?_⟩
  by_cases hn : n < C.length
  · rw [List.getElem_append_left hn, List.getElem_append_left (by rw [← h.1]; exact hn)]; exact h.2 n _ _
  · have : n = C.length := by simp at h1; omega
    subst this
    rw [List.getElem_append_right (Nat.le_refl _), List.getElem_append_right (by rw [h.1]; exact Nat.le_refl _)]
    simpa [h.1] using hc
theorem infoBK : (Tryz.prog.info? 51).map (fun i => (i.zero, i.size, i.bytes)) = some (some (.agg #[.slice none 0 0]), 1, 24) := by kernel_rfl
/-- block keys that are being dealt: the outer row -/
structure KOut (D : Nat) (W : World) (F : List F2) (v : Value) (C : List SV) (Ks : List (List (Int × Int))) (wr : World) : Prop where
  own : OwnM D 51 1 encSV W v C wr
  keys : KeysAll wr (OffRow W.heap.size v) C Ks
  ok : ∀ K ∈ Ks, KeyOk F K
theorem KOut.nil {D : Nat} {W wr : World} {F : List F2} (m : Moved D W wr) : KOut D W F (.slice none 0 0) [] [] wr := ⟨OwnM.nil m, ⟨rfl, fun n h => by simp at h⟩, fun K h => by simp at h⟩
theorem KOut.moved {D : Nat} {W wr wx : World} {F : List F2} {v : Value} {C : List SV} {Ks : List (List (Int × Int))} (h : KOut D W F v C Ks wr) (m : Moved D wr wx) : KOut D W F v C Ks wx :=
  ⟨h.own.moved m, h.keys.move m.size fun x hx hs => ⟨m.grown.block x hx (by have := h.own.2.lt; have := hs.1; simp; omega), hs⟩, h.ok⟩
/-- the key that is being dealt: its block y, its components' row -/
structure KIn (D : Nat) (wo : World) (y : Nat) (F : List F2) (f : Nat) (u : Value) (L : List (Int × Int)) (wx : World) : Prop where
  x : wx.heap[y]? = some (.cells #[u] 51 (0, 0))
  own : wx.ownsRow (y + 1) 31 2 u L.length (L.flatMap encC)
  mv : Moved D wo wx
  le : wo.heap.size ≤ y
  key : KeyD F f L
theorem KIn.gone {D : Nat} {wo : World} {y : Nat} {F : List F2} {f : Nat} {u : Value} {L : List (Int × Int)} {wx wd : World} (h : KIn D wo y F f u L wx) (m : Moved D wx wd) : KIn D wo y F f u L wd := by
  have hD := h.mv.lt
  have hle := h.le
  exact ⟨m.blk (by omega) h.x, own_same h.own fun g h1 h2 => m.grown.block g h2 (by simp; omega), h.mv.trans m, hle, h.key⟩
theorem KIn.step {D : Nat} {wo : World} {y : Nat} {F : List F2} {f : Nat} {u v : Value} {L : List (Int × Int)} {c : Int × Int} {wx wA w2 : World} (h : KIn D wo y F f u L wx) (hb : Below wx.heap.size wx wA) (hg : wA.grownBy w2 u.ownBlock)
    (hown : w2.ownsRow (y + 1) 31 2 v (L.length + 1) (L.flatMap encC ++ encC c)) (hx : KeyD F (f + 1) (L ++ [c])) : KIn D wo y F (f + 1) v (L ++ [c]) (w2.setCell ⟨y, 0, none⟩ v) := by
  have hy := h.le
  have hD := h.mv.lt
  have zx := lt_of_blk h.x
  have hz := hb.size; have hz2 := hg.size
  have k1 : ∀ k, k < y + 1 → w2.heap[k]? = wx.heap[k]? := fun k hk => (hg.block k (by omega) (own_far h.own hk)).trans (hb.block k (by omega))
  have k2 : ∀ k, k < y → (w2.setCell ⟨y, 0, none⟩ v).heap[k]? = wx.heap[k]? := fun k hk => (heap_setCell_other _ _ _ _ (by show k ≠ y; omega)).trans (k1 k (by omega))
  have hs : (w2.setCell ⟨y, 0, none⟩ v).heap.size = w2.heap.size := by simp [World.setCell]
  refine ⟨blk_set (i := 0) (v := v) ((k1 y (by omega)).trans h.x), ?_, ?_, hy, hx⟩
  · rw [List.length_append, List.flatMap_append, show [c].flatMap encC = encC c by simp]
    exact own_same hown fun g h1 h2 => heap_setCell_other _ _ _ _ (by simp; omega)
  · have m := h.mv
    refine ⟨⟨hg.os.trans (hb.os.trans m.grown.os), hg.tape.trans (hb.tape.trans m.grown.tape), hg.output.trans (hb.output.trans m.grown.output), by have := m.size; omega, fun k hk hr => ?_⟩, m.deck.same fun k hk => k2 k (by omega), m.lt⟩
    exact (k2 k (by omega)).trans (m.grown.block k hk hr)
def KeysPost (D : Nat) (s : SchemaL) (most : Nat) (w : World) (e : Ending) (w' : World) : Prop := ∃ v Ks, e = .returned v ∧ KeysVec w' (fun b => w.heap.size ≤ b) v Ks ∧ Ks.length ≤ most ∧ (∀ K ∈ Ks, KeyOk s.fields K) ∧ Moved D w w'
def ownTbl : List Int := [0, 2, 4, 1, 5]
theorem tbl_cellK {w : World} {b : Nat} {l : List Int} (h : w.heap[b]? = some (.cells (l.map (Value.int .i64)).toArray 3 (0, 0))) (k : Nat) (hk : k < l.length) : w.cell? ⟨b, k, none⟩ = some (.int .i64 (l.getD k 0)) := by
  rw [cell_of_row _ _ _ _ _ _ h, List.getElem?_toArray, List.getElem?_map, List.getD, List.getElem?_eq_getElem hk]; rfl
theorem ownTbl_eq {k : Int} (h : 1 ≤ k ∧ k ≤ 4) : ownTbl.getD k.toNat 0 = ownT k := by
  rcases (by omega : k = 1 ∨ k = 2 ∨ k = 3 ∨ k = 4) with rfl | rfl | rfl | rfl <;> rfl
set_option maxHeartbeats 8000000 in
theorem keys_deal (D : Nat) (S : Nat → Prop) (vf vt vn vs : Value) (s : SchemaL) (most : Nat) (w : World) (h : DeckAt w D) (hs : SchemaAt w S vf vt vn vs s) (hS : ∀ b, S b → b ≠ D) (hd : SchemaD s) (hm : most ≤ 7) :
    Calls Tryz.prog 12 #[.pointer (some ⟨D, 0, none⟩), .agg #[vf, vt, vn, vs], .int .i64 most] w (KeysPost D s most w) := by
  have zD := h.lt
  have M0 := Lib.hid (Moved.start h); clear h
  obtain ⟨af, cf, rfl⟩ := hs.1.slice
  have h5 := hd.fields.len
  have h1 := hd.some
  have HS := Lib.hid hs; have HSD := Lib.hid hd; have HSne := Lib.hid hS
  clear hs hd hS
  go_enter Tryz.func12, Tryz.ntmps12
  go_wp2_with fail
  refine wp_calls_world (fun W hW => ?_)
  have hm0 : Moved D w W := by rw [hW]; exact M0.out.alloc _
  have hb0 : Below w.heap.size w W := by rw [hW]; exact (Below.refl w.heap.size w).alloc (Nat.le_refl _) _
  have hs0 : W.heap[w.heap.size]? = some (.cells #[.slice af s.fields.length cf, vt, vn, vs] 43 (0, 0)) := by rw [hW]; exact blk_new rfl
  have hzW : W.heap.size = w.heap.size + 1 := by rw [hW]; simp
  clear hW
  have HM := Lib.hid hm0; have HS0 := Lib.hid hs0; have HSW := Lib.hid (HS.out.below hb0); have HZW := Lib.hid hzW
  clear hm0 hs0 hb0 hzW
  obtain ⟨n, hn⟩ : ∃ n, s.fields.length = n := ⟨_, rfl⟩
  rw [hn] at HS0 HSW h5 h1 ⊢
  have HN := Lib.hid hn; clear hn
  refine (next_any D _ (most + 1) HM.out.deck (by omega) (by omega)).mono ?_
  rintro e w1 ⟨q, rfl, q0, q1, mv⟩
  obtain ⟨q, rfl⟩ := Int.eq_ofNat_of_zero_le q0
  have M1 := Lib.hid (HM.out.trans mv)
  have MW := Lib.hid mv
  clear mv
  go_wp2_with fail
  go_loopw [7, 8] (fun v i wr => ∃ (j : Nat) (C : List SV) (Ks : List (List (Int × Int))), i = .int .i64 j ∧ Ks.length + j = q ∧ KOut D W s.fields v C Ks wr) (fun _ i _ => (intOf i).toNat)
  case atStart => exact ⟨q, [], [], rfl, by simp, KOut.nil MW.out⟩
  case round =>
    obtain ⟨j, C, Ks, rfl, hj, ho⟩ := hrel
    have HO := Lib.hid ho; have HJ := Lib.hid hj; clear ho hj
    have hzr := HO.out.own.2.size
    by_cases hlt : 0 < j
    · have hq : decide ((0 : Int) < (j : Int)) = true := by simp; omega
      obtain ⟨wo, rfl⟩ : ∃ wo : World, wo = wr := ⟨_, rfl⟩
      go_wp2_with fail
      refine wp_world (fun Wi hWi => ?_)
      have hbi : Below wo.heap.size wo Wi := by rw [hWi]; exact (Below.refl wo.heap.size wo).alloc (Nat.le_refl _) _
      have hxi : Wi.heap[wo.heap.size]? = some (.cells #[.slice none 0 0] 51 (0, 0)) := by rw [hWi]; exact blk_new rfl
      clear hWi
      have KI := Lib.hid (show KIn D wo wo.heap.size s.fields 0 (.slice none 0 0) [] Wi from ⟨hxi, ⟨rfl, .inl ⟨rfl, rfl⟩⟩, (Moved.start HO.out.own.2.deck).below hbi, Nat.le_refl _, KeyD.nil _⟩)
      clear hbi hxi
      go_loopw [10] (fun t wx => ∃ (f : Nat) (u : Value) (L : List (Int × Int)), t = .int .i64 f ∧ f ≤ n ∧ KIn D wo wo.heap.size s.fields f u L wx) (fun t _ => n - (intOf t).toNat)
      case atStart => exact ⟨0, _, [], rfl, by omega, KI.out⟩
      case round =>
        obtain ⟨f, u, L, rfl, hf, hki⟩ := hrel
        have HI := Lib.hid hki
        obtain ⟨au, cu, rfl⟩ := own_slice hki.own
        have hlen := hki.key.len
        have mWx := HO.out.own.2.trans hki.mv
        have hsx := mWx.blk (k := w.heap.size) (by omega) HS0.out
        obtain ⟨s0, s1, s2, s3⟩ := cellsS hsx
        have hzs := lt_of_blk hsx
        have c0 := (by rw [cell_of_row _ _ _ _ _ _ hki.x]; rfl : wr.cell? ⟨wo.heap.size, 0, none⟩ = some (.slice au L.length cu))
        have zx := lt_of_blk hki.x
        have HMW := Lib.hid mWx; have HSX := Lib.hid hsx
        clear mWx hsx hki KI
        by_cases hfc : f < n ∧ L.length < 3
        · obtain ⟨hfn, hL3⟩ := hfc
          have hqf : decide ((f : Int) < (n : Int)) = true := by simp; omega
          have hqL : decide ((L.length : Int) < 3) = true := by simp; omega
          go_wp2_with fail
          refine (one_any D _ 2 HI.out.mv.deck (by omega) (by omega)).mono ?_
          rintro e w3 ⟨u1, rfl, mv⟩
          have HI3 := Lib.hid (HI.out.gone mv); have HM3 := Lib.hid (HMW.out.trans mv)
          have hs3 := mv.blk (k := w.heap.size) (by omega) HSX.out
          have HS3 := Lib.hid hs3
          clear mv hs3 s0 s1 s2 s3 c0 HI HMW HSX
          cases u1
          · go_wp2_with fail
            go_roundw
            case rel => exact ⟨f + 1, _, L, by go_num, by omega, ⟨HI3.out.x, HI3.out.own, HI3.out.mv, HI3.out.le, HI3.out.key.skip⟩⟩
            case measure => simp [intOf]; omega
          · go_wp2_with fail
            refine (next_any D _ 2 (HI3.out.mv.alloc _).deck (by omega) (by omega)).mono ?_
            rintro e w4 ⟨p, rfl, p0, p1, mv⟩
            obtain ⟨p, rfl⟩ := Int.eq_ofNat_of_zero_le p0
            have mv34 := ((Moved.start HI3.out.mv.deck).alloc (.cells #[.int .i64 1, .int .i64 3] 3)).trans mv
            have htb := mv.blk (k := w3.heap.size) (by have := HI3.out.mv.size; have := HI3.out.mv.lt; omega) (blk_new (w := w3) (o := .cells #[.int .i64 1, .int .i64 3] 3) rfl)
            have hpc := tbl_cellK (l := [1, 3]) htb p (by show p < 2; omega)
            obtain ⟨t1, ht1⟩ : ∃ t1, ([1, 3] : List Int).getD p 0 = t1 := ⟨_, rfl⟩
            rw [ht1] at hpc
            have ht13 : t1 = 1 ∨ t1 = 3 := by
              rw [← ht1]
              rcases (by omega : p = 0 ∨ p = 1) with rfl | rfl
              · exact .inl rfl
              · exact .inr rfl
            have hpi : (p : Int) < 2 := by omega
            have HI4 := Lib.hid (HI3.out.gone mv34); have HM4 := Lib.hid (HM3.out.trans mv34)
            have HS4 := Lib.hid (mv34.blk (k := w.heap.size) (by omega) HS3.out)
            have HT13 := Lib.hid ht13
            have lt3 := lt_of_blk htb
            clear mv mv34 htb ht1 ht13 HI3 HM3 HS3
            go_wp2_with fail
            refine (one_any D _ 2 HI4.out.mv.deck (by omega) (by omega)).mono ?_
            rintro e w5 ⟨u2, rfl, mv⟩
            have HI5 := Lib.hid (HI4.out.gone mv); have HM5 := Lib.hid (HM4.out.trans mv)
            have HS5 := Lib.hid (mv.blk (k := w.heap.size) (by omega) HS4.out)
            have hfF : f < s.fields.length := by rw [HN.out]; exact hfn
            obtain ⟨fb, fo, eaf, hSb, hfb, hfc⟩ := fields_cell HSW.out.1 (by omega)
            cases eaf
            have hbD := HSne.out fb hSb
            have kc := (World.cell?_of_block (w := W) (a := ⟨fb, fo + f * 2 + 1, none⟩) (HM5.out.grown.block fb hfb (by simp; omega))).trans (hfc f hfF)
            have hkd := HSD.out.fields.kinds (s.fields.getD f default) (by rw [List.getD, List.getElem?_eq_getElem hfF]; exact List.getElem_mem hfF)
            obtain ⟨kd, hkde⟩ : ∃ kd, (s.fields.getD f default).2 = kd := ⟨_, rfl⟩
            rw [hkde] at kc hkd
            obtain ⟨kn, rfl⟩ := Int.eq_ofNat_of_zero_le (show 0 ≤ kd by omega)
            have HKD := Lib.hid hkde
            have hk1 : 1 ≤ kn := by omega
            have hk4 : kn ≤ 4 := by omega
            have zfb : fb < w5.heap.size := by have := HM5.out.size; omega
            clear mv HI4 HM4 HS4 hfc hkde hkd hpc lt3 hfb hSb
            go_upto_if 42 with (fail)
            go_cut [11] (fun s11 wx => ∃ t : Int, s11 = .int .i64 t ∧ fitsB t kn = true ∧ KIn D wo wo.heap.size s.fields f (.slice au L.length cu) L wx)
            case first =>
              cases u2
              · go_wp2_with fail
                go_meet
                exact ⟨t1, rfl, by rcases HT13.out with h | h <;> rw [h] <;> rfl, HI5.out⟩
              · obtain ⟨s0, s1, s2, s3⟩ := cellsS HS5.out
                have hzs := lt_of_blk HS5.out
                have htb : (w5.alloc (.cells (ownTbl.map (Value.int .i64)).toArray 3)).heap[w5.heap.size]? = some (.cells (ownTbl.map (Value.int .i64)).toArray 3 (0, 0)) := blk_new rfl
                have hoc := tbl_cellK (l := ownTbl) htb kn (by show kn < 5; omega)
                have hoe : ownTbl.getD kn 0 = ownT kn := ownTbl_eq (k := kn) (by omega)
                rw [hoe] at hoc
                have hoc2 : (w5.alloc (.cells #[.int .i64 0, .int .i64 2, .int .i64 4, .int .i64 1, .int .i64 5] 3)).cell? ⟨w5.heap.size, kn, none⟩ = some (.int .i64 (ownT kn)) := hoc
                have hki : (kn : Int) < 5 := by omega
                have hfi : (f : Int) < (n : Int) := by omega
                obtain ⟨ot, hot⟩ : ∃ ot, ownT kn = ot := ⟨_, rfl⟩
                rw [hot] at hoc2
                have HOT := Lib.hid (show fitsB ot kn = true by rw [← hot]; exact fits_own (by omega))
                have HI6 := Lib.hid (HI5.out.gone ((Moved.start HI5.out.mv.deck).alloc (.cells #[.int .i64 0, .int .i64 2, .int .i64 4, .int .i64 1, .int .i64 5] 3)))
                clear hoc hoe htb hot
                go_wp2_with fail
                go_meet
                exact ⟨ot, rfl, HOT.out, HI6.out⟩
            case rest =>
              obtain ⟨t, rfl, hft, hki⟩ := hcut
              have HX := Lib.hid hki
              clear hki HI5 HM5 HS5 kc HT13
              have cY := (by rw [cell_of_row _ _ _ _ _ _ HX.out.x]; rfl : wc.cell? ⟨wo.heap.size, 0, none⟩ = some (.slice au L.length cu))
              have zY := lt_of_blk HX.out.x
              have fY := (frozen_of_row _ _ _ _ _ HX.out.x : wc.frozen? ⟨wo.heap.size, 0, none⟩ = false)
              have hkey := HX.out.key.snoc (t := t) hL3 (by rw [HKD.out]; exact hft)
              have HKey := Lib.hid hkey
              clear hkey
              have hbA := (Below.refl wc.heap.size wc).alloc (Nat.le_refl _) (.cells #[.int .i64 f, .int .i64 t] 31)
              have hown := own_below HX.out.own hbA
              have hnews : ∀ j u, [Value.int .i64 f, Value.int .i64 t][j]? = some u → (wc.alloc (.cells #[.int .i64 f, .int .i64 t] 31)).cell? ((⟨wc.heap.size, 0, none⟩ : Addr).add j) = some u := fun j u hu => by
                rw [add_plain, cell_of_row _ _ _ _ _ _ (heap_alloc_new wc _), Nat.zero_add]; simpa using hu
              have hone : ∀ u ∈ [Value.int .i64 f, Value.int .i64 t], u.oneCell' = true := by intro u hu; simp at hu; rcases hu with rfl | rfl <;> rfl
              obtain ⟨i0, hi, hz0, hz1, hz2⟩ := info_parts infoC
              have HBA := Lib.hid hbA; have HOwn := Lib.hid hown; have HNews := Lib.hid hnews; have HOne := Lib.hid hone; have HI0 := Lib.hid hi; have HZ0 := Lib.hid hz0; have HZ1 := Lib.hid hz1; have HZ2 := Lib.hid hz2
              clear hbA hown hnews hone hi hz0 hz1 hz2
              go_wp2_with (at_builtin; refine wpList_append_lies _ rfl (.tmp 53) (.tmp 57) 49 (by rfl) (wo.heap.size + 1) 31 i0 (.agg #[.int .i64 0, .int .i64 0]) 2 16 Tryz.underlying49 HI0.out HZ0.out HZ1.out HZ2.out rfl (by decide) (.slice au L.length cu) L.length (L.flatMap encC) (by rfl) HOwn.out ⟨wc.heap.size, 0, none⟩ 1 1 [.int .i64 f, .int .i64 t] (by rfl) rfl HNews.out HOne.out (by omega) (by unfold maxLen; omega) (by omega) (by simp; omega) (wc.heap.size + 1) (by simp) ?_; intro g cap w6 hown5 hg5 hat5 hlt5; have cY5 := (hg5.cell_far ⟨wo.heap.size, 0, none⟩ (by simp; omega) (own_far HOwn.out (by show wo.heap.size < _; omega))).trans ((HBA.out.cell (p := ⟨wo.heap.size, 0, none⟩) zY).trans cY); have fY5 := (hg5.frozen_far ⟨wo.heap.size, 0, none⟩ (by simp; omega) (own_far HOwn.out (by show wo.heap.size < _; omega))).trans ((HBA.out.frozen (p := ⟨wo.heap.size, 0, none⟩) zY).trans fY))
              have KS := Lib.hid (HX.out.step (c := ((f : Int), t)) HBA.out hg5 hown5 HKey.out)
              clear hown5 hg5 hat5 cY5 fY5
              go_roundw
              case rel => exact ⟨f + 1, _, L ++ [((f : Int), t)], by go_num, by omega, KS.out⟩
              case measure => simp [intOf]; omega
        · have hcase : (decide ((f : Int) < (n : Int)) = false ∧ ¬ f < n) ∨ ((decide ((f : Int) < (n : Int)) = true ∧ f < n) ∧ decide ((L.length : Int) < 3) = false) := by
            by_cases h1 : f < n
            · exact .inr ⟨⟨by simp; omega, h1⟩, by simp; omega⟩
            · exact .inl ⟨by simp; omega, h1⟩
          have HKy := Lib.hid (show KeyD s.fields s.fields.length L from ⟨HI.out.key.len, fun c hc => by obtain ⟨x1, x2, x3⟩ := HI.out.key.fit c hc; exact ⟨x1, by rw [HN.out]; omega, x3⟩, HI.out.key.asc⟩)
          have fY := (frozen_of_row _ _ _ _ _ HI.out.x : wr.frozen? ⟨wo.heap.size, 0, none⟩ = false)
          clear hfc
          rcases hcase with ⟨hqf, hqn⟩ | ⟨⟨hqf, hqn⟩, hqL⟩
          all_goals
            go_upto_if 63 with (fail)
            go_cut [8] (fun s8 wx => s8 = .int .i64 j ∧ ∃ (u' : SV) (K : List (Int × Int)), wx.heap[wo.heap.size]? = some (.cells #[.slice u'.a u'.n u'.c] 51 (0, 0)) ∧ Vec wx (fun b => wo.heap.size < b) 2 encC (.slice u'.a u'.n u'.c) K ∧ KeyOk s.fields K ∧ Moved D wo wx)
            case first =>
              by_cases hl0 : L.length = 0
              · have hq0 : ((L.length : Int) == 0) = true := by simp; exact List.length_eq_zero_iff.1 hl0
                have hL0 : L = [] := List.length_eq_zero_iff.1 hl0
                have HX := Lib.hid HI.out.x
                have HMV := Lib.hid HI.out.mv
                clear HKy HI
                go_wp2_with fail
                go_meet
                refine ⟨rfl, ⟨some ⟨wr.heap.size, 0, none⟩, 1, 1⟩, [(0, 1)], blk_old (blk_set (i := 0) HX.out), ?_, key_whole (by rw [HN.out]; exact h1), (HMV.out.set (a := ⟨wo.heap.size, 0, none⟩) (Nat.le_refl _) _).alloc _⟩
                exact blockVec (k := 2) (enc := encC) (L := [(0, 1)]) (S := fun b => wo.heap.size < b) (w := (wr.setCell ⟨wo.heap.size, 0, none⟩ (.slice (some ⟨wr.heap.size, 0, none⟩) 1 1)).alloc (.cells #[.int .i64 0, .int .i64 1] 31)) (A := wr.heap.size) (fun _ => rfl) (blk_new (by simp [World.setCell])) (by omega) 1 rfl
              · have hq0 : ((L.length : Int) == 0) = false := by simp; intro h; exact hl0 (by rw [h]; rfl)
                go_wp2_with fail
                go_meet
                exact ⟨rfl, ⟨au, L.length, cu⟩, L, HI.out.x, (Vec.owns (k := 2) (enc := encC) (S := fun b => wo.heap.size < b) (fun _ => rfl) HI.out.own (fun b hb _ => hb)), HKy.out.ok (by omega), HI.out.mv⟩
            case rest =>
              obtain ⟨rfl, u', K, hx, hv, hkk, mv⟩ := hcut
              have hown6 : ∀ x, wo.heap.size ≤ x → some x ≠ u7.ownBlock := by
                intro x hx'
                rcases HO.out.own.1.2 with ⟨h0, _⟩ | ⟨g, cap, cur, h0, hg, hh, _⟩
                · rw [h0]; simp [Value.ownBlock]
                · rw [h0]; have := lt_of_blk hh; simp [Value.ownBlock]; omega
              have HO2 := Lib.hid (HO.out.moved (mv.alloc (.cells #[.slice u'.a u'.n u'.c] 51)))
              have c0 := (by rw [cell_of_row _ _ _ _ _ _ hx]; rfl : wc.cell? ⟨wo.heap.size, 0, none⟩ = some (.slice u'.a u'.n u'.c))
              have HR2 := Lib.hid (show Reads (wc.alloc (.cells #[.slice u'.a u'.n u'.c] 51)) 1 (.slice (some ⟨wc.heap.size, 0, none⟩) 1 1) [u'].length ([u'].flatMap encSV) from reads_block (xs := [u'].flatMap encSV) (fr := (0, 0)) (t := 51) (blk_new rfl) rfl)
              have HCB := Lib.hid (hv.move (w' := wc) (S' := fun x => some x ≠ u7.ownBlock ∧ W.heap.size ≤ x) (Nat.le_refl _) (fun x _ hx' => ⟨rfl, by have h' : wo.heap.size < x := hx'; exact ⟨hown6 x (by omega), by omega⟩⟩))
              have HBA2 := Lib.hid ((HO.out.moved mv).keys.move (w' := wc) (T := fun x => some x ≠ u7.ownBlock ∧ W.heap.size ≤ x) (Nat.le_refl _) (fun x hx' hs => ⟨rfl, hs.2, hs.1⟩))
              have hCn : C.length = Ks.length := HO.out.keys.1
              have hjj := HJ.out
              have hcn : C.length + [u'].length ≤ 1000000000 := by simp only [List.length_cons, List.length_nil]; omega
              have HKK := Lib.hid hkk
              have HOk := Lib.hid HO.out.ok
              obtain ⟨ua, un, uc⟩ := u'
              dsimp only at c0
              clear hx hv hkk mv HKy HI HO
              go_wp2_with (at_builtin; refine wpList_append_mat rfl (.tmp 67) (.tmp 69) 23 rfl D 51 (.agg #[.slice none 0 0]) 1 24 encSV (fun _ => rfl) one_encSV Tryz.underlying23 infoBK rfl (by decide) (by decide) (wA := W) (v := u7) (A := C) (B := [⟨ua, un, uc⟩]) rfl HO2.out.own rfl HR2.out hcn ?_; intro v4 w4 ho4 hk4 hz4 hat4)
              have hba : KeysAll wc (fun x => some x ≠ u7.ownBlock ∧ W.heap.size ≤ x) (C ++ [⟨ua, un, uc⟩]) (Ks ++ [K]) := HBA2.out.snoc HCB.out
              go_roundw
              case rel =>
                refine ⟨j - 1, C ++ [⟨ua, un, uc⟩], Ks ++ [K], by go_num, by rw [List.length_append]; simp; omega, ho4, hba.move ?_ ?_, ?_⟩
                · simp at hz4; omega
                · intro x hx hS
                  obtain ⟨q1, q2⟩ := hS
                  refine ⟨?_, q2, ?_⟩
                  · obtain ⟨ob, hob⟩ : ∃ ob, wc.heap[x]? = some ob := ⟨_, Array.getElem?_eq_getElem hx⟩
                    rw [hob]
                    exact hk4 x ob q1 (blk_old hob)
                  · rcases hat4 with h1 | h1 | h1
                    · rw [h1]; simp
                    · rw [← h1]; exact q1
                    · rw [h1]; simp; omega
                · intro K' hK'
                  rcases List.mem_append.1 hK' with h1 | h1
                  · exact HOk.out K' h1
                  · simp at h1; rw [h1]; exact HKK.out
              case measure => simp [intOf]; omega
    · have hq : decide ((0 : Int) < (j : Int)) = false := by simp; omega
      obtain rfl : j = 0 := by omega
      go_wp2_with fail
      go_ret
      exact ⟨_, Ks, rfl, ⟨C, (OwnM.vec (size := 1) (enc := encSV) (fun _ => rfl) HO.out.own).move (Nat.le_refl _) (fun x _ hx => ⟨rfl, by have h1 := HZW.out; have hx' : W.heap.size ≤ x := hx; show w.heap.size ≤ x; omega⟩), HO.out.keys.move (Nat.le_refl _) (fun x _ hx => ⟨rfl, by have h1 := HZW.out; have hx' := hx.1; show w.heap.size ≤ x; omega⟩)⟩, by have := HJ.out; omega, HO.out.ok, HM.out.trans HO.out.own.2⟩
end
section
set_option maxRecDepth 100000
open Go.RowKit
/-- lists of blocks -/
def BListsAll (w : World) (S : Nat → Prop) (C : List SV) (Ls : List (List BkP)) : Prop := C.length = Ls.length ∧ ∀ n (h1 : n < C.length) (h2 : n < Ls.length), BlocksAt w S (.slice C[n].a C[n].n C[n].c) Ls[n]
def BListsAt (w : World) (S : Nat → Prop) (v : Value) (Ls : List (List BkP)) : Prop := ∃ C, Vec w S 1 encSV v C ∧ BListsAll w S C Ls
theorem BListsAll.move {w w' : World} {S T : Nat → Prop} {C : List SV} {Ls : List (List BkP)} (h : BListsAll w S C Ls) (hz : w.heap.size ≤ w'.heap.size) (hS : ∀ x, x < w.heap.size → S x → w'.heap[x]? = w.heap[x]? ∧ T x) : BListsAll w' T C Ls :=
  ⟨h.1, fun n h1 h2 => (h.2 n h1 h2).move hz hS⟩
theorem BListsAll.snoc {w : World} {S : Nat → Prop} {C : List SV} {Ls : List (List BkP)} {c : SV} {L : List BkP} (h : BListsAll w S C Ls) (hc : BlocksAt w S (.slice c.a c.n c.c) L) : BListsAll w S (C ++ [c]) (Ls ++ [L]) := by
  refine ⟨by simp [h.1], fun n h1 h2 => ?_⟩
  by_cases hn : n < C.length
  · rw [List.getElem_append_left hn, List.getElem_append_left (by rw [← h.1]; exact hn)]; exact h.2 n _ _
  · have : n = C.length := by simp at h1; omega
    subst this
    rw [List.getElem_append_right (Nat.le_refl _), List.getElem_append_right (by rw [h.1]; exact Nat.le_refl _)]
    simpa [h.1] using hc
theorem BListsAt.move {w w' : World} {S T : Nat → Prop} {v : Value} {Ls : List (List BkP)} (h : BListsAt w S v Ls) (hz : w.heap.size ≤ w'.heap.size) (hS : ∀ x, x < w.heap.size → S x → w'.heap[x]? = w.heap[x]? ∧ T x) : BListsAt w' T v Ls := by
  obtain ⟨C, h1, h2⟩ := h
  exact ⟨C, h1.move hz hS, h2.move hz hS⟩
theorem BListsAt.below {w w' : World} {S : Nat → Prop} {v : Value} {Ls : List (List BkP)} (h : BListsAt w S v Ls) (hb : Below w.heap.size w w') : BListsAt w' S v Ls := h.move hb.size fun x hx hs => ⟨hb.block x hx, hs⟩
theorem BListsAt.slice {w : World} {S : Nat → Prop} {v : Value} {Ls : List (List BkP)} (h : BListsAt w S v Ls) : ∃ a cap, v = .slice a Ls.length cap := by
  obtain ⟨C, h1, h2⟩ := h
  obtain ⟨a, cap, rfl⟩ := h1.slice
  exact ⟨a, cap, by rw [h2.1]⟩
theorem BListsAt.at {w : World} {S : Nat → Prop} {a : Option Addr} {n cap : Nat} {Ls : List (List BkP)} (h : BListsAt w S (.slice a n cap) Ls) (j : Nat) (hj : j < Ls.length) :
    ∃ (b off : Nat) (c : SV), a = some ⟨b, off, none⟩ ∧ b < w.heap.size ∧ w.cell? ⟨b, off + j, none⟩ = some (.slice c.a c.n c.c) ∧ BlocksAt w S (.slice c.a c.n c.c) Ls[j] := by
  obtain ⟨C, hC, hA⟩ := h
  have hj2 : j < C.length := by rw [hA.1]; exact hj
  obtain ⟨b, off, e, hb, hc⟩ := hC.get j hj2
  exact ⟨b, off, C[j], e, hb, by have := hc 0 _ rfl; simpa using this, hA.2 j hj2 hj⟩
/-- the blocks of the first j block keys -/
def blksN (k : Int × Int) (Ks : List (List (Int × Int))) (R : List RecL) (j : Nat) : List (List BkP) := (List.range j).map fun i => blocksN k i (Ks.getD i []) R
theorem blksN_succ (k : Int × Int) (Ks : List (List (Int × Int))) (R : List RecL) (j : Nat) : blksN k Ks R (j + 1) = blksN k Ks R j ++ [blocksN k j (Ks.getD j []) R] := by
  unfold blksN; rw [List.range_succ, List.map_append]; rfl
theorem infoBS : (Tryz.prog.info? 59).map (fun i => (i.zero, i.size, i.bytes)) = some (some (.slice none 0 0), 1, 24) := by kernel_rfl
def AllPost (Ls : List (List BkP)) (w : World) (e : Ending) (w' : World) : Prop := ∃ v, e = .returned (.tuple #[v, .int .i64 0]) ∧ BListsAt w' (fun b => w.heap.size ≤ b) v Ls ∧ Below w.heap.size w w'
set_option maxHeartbeats 8000000 in
theorem bAll_yes (S T : Nat → Prop) (vf vt vn vs kv rv : Value) (s : SchemaL) (k : Int × Int) (Ks : List (List (Int × Int))) (R : List RecL) (w : World) (h : SchemaAt w S vf vt vn vs s) (hk : KeysVec w T kv Ks) (hr : RecsVec w Any1 rv R) (hR : RecsOk s R) (hn : s.fields.length ≤ 1000) (ok : KeysOk s.fields Ks) :
    Calls Tryz.prog 16 #[.agg #[vf, vt, vn, vs], .agg #[.int .u64 k.1, .int .u64 k.2], kv, rv] w (AllPost (blksN k Ks R Ks.length) w) := by
  obtain ⟨ak, ck, rfl⟩ := hk.slice
  obtain ⟨ar, cr, rfl⟩ := hr.slice
  have hc := (allN_ok hR.all).1
  have h64 := (allN_ok hR.all).2.1
  have h8 := ok.len
  have HS := Lib.hid h; have HK := Lib.hid hk; have HV := Lib.hid hr; have HRO := Lib.hid hR; have HOk := Lib.hid ok; have HC := Lib.hid hc
  have dz : ((0 : Int) != 0) = false := rfl
  clear h hk hr hR ok hc
  go_enter Tryz.func16, Tryz.ntmps16
  go_wp2_with fail
  refine wp_calls_world (fun W hW => ?_)
  have hb0 : Below w.heap.size w W := by rw [hW]; exact ((Below.refl w.heap.size w).alloc (Nat.le_refl _) _).alloc (by simp) _
  have hs0 : W.heap[w.heap.size]? = some (.cells #[vf, vt, vn, vs] 43 (0, 0)) := by rw [hW]; exact blk_old (blk_new rfl)
  have hk0 : W.heap[w.heap.size + 1]? = some (.cells #[.int .u64 k.1, .int .u64 k.2] 26 (0, 0)) := by rw [hW]; exact blk_new (by simp)
  clear hW
  refine (bchk_yes S T _ _ _ _ _ s Ks W (HS.out.below hb0) (HK.out.below hb0) HC.out (by omega) HOk.out).mono ?_
  rintro e w1 ⟨rfl, hb⟩
  have hs1 := blk_below hb (lt_of_blk hs0) hs0; have hk1 := blk_below hb (lt_of_blk hk0) hk0
  have HB1 := Lib.hid (hb0.trans (hb.mono hb0.size)); have HK1 := Lib.hid hk1
  obtain ⟨s0, s1, s2, s3⟩ := cellsS hs1
  have ls := lt_of_blk hs1
  clear hb hb0 hs0 hk0 hs1 hk1
  go_wp2_with fail
  refine (rall_any S Any1 _ _ _ _ _ s R w1 (HS.out.below HB1.out) (HV.out.below HB1.out) (fun r hr x hx => by have := HRO.out.short r hr x hx; omega) (HRO.out.vals hn) (by omega)).mono ?_
  rw [HRO.out.all]
  rintro e w2 ⟨rfl, hb⟩
  have hk2 := blk_below hb (lt_of_blk HK1.out) HK1.out
  have HB2 := Lib.hid (HB1.out.trans (hb.mono HB1.out.size)); have HK2 := Lib.hid hk2
  have lk := lt_of_blk hk2
  clear hb s0 s1 s2 s3 hk2 ls
  go_wp2_with fail
  go_loopw [12, 29] (fun v t wr => ∃ (j : Nat) (C : List SV), t = .int .i64 j ∧ j ≤ Ks.length ∧ C.length = j ∧ OwnV 59 1 encSV w2 v C wr ∧ BListsAll wr (OffRow w2.heap.size v) C (blksN k Ks R j)) (fun _ t _ => Ks.length - (intOf t).toNat)
  case atStart => exact ⟨0, [], rfl, by omega, rfl, OwnV.start _ _ _ _, rfl, fun n h1 _ => by simp at h1⟩
  case round =>
    obtain ⟨j, C, rfl, hj, hCl, ho, hba⟩ := hrel
    have HO := Lib.hid ho; have HBA := Lib.hid hba; have HCl := Lib.hid hCl
    clear ho hba hCl
    by_cases hlt : j < Ks.length
    · have hq : decide ((j : Int) < Ks.length) = true := by simp; omega
      have hji : (j : Int) < (Ks.length : Int) := by omega
      have hbw := HO.out.2
      have hwz := hbw.size
      obtain ⟨k0, k1⟩ := cells2K (blk_below hbw lk HK2.out)
      have lkr : w.heap.size + 1 < wr.heap.size := by omega
      obtain ⟨b, off, c, rfl, lb, c0, hvc⟩ := ((HK.out.below HB2.out).below hbw).at j hlt
      obtain ⟨ca, cn, cc⟩ := c
      dsimp only at c0 hvc
      have hkey := HOk.out.key (Ks.getD j []) (by rw [getD_at _ _ hlt]; exact List.getElem_mem hlt)
      have hsucc := blksN_succ k Ks R j
      obtain ⟨L, hL⟩ : ∃ L, blocksN k j (Ks.getD j []) R = L := ⟨_, rfl⟩
      rw [hL] at hsucc
      have HVC := Lib.hid hvc; have HKey := Lib.hid hkey; have HSu := Lib.hid hsucc; have HL := Lib.hid hL
      have HBw := Lib.hid hbw
      clear hvc hkey hsucc hL hbw
      go_wp2_with fail
      refine wp_calls_world (fun Wc hWc => ?_)
      have hbc : Below wr.heap.size wr Wc := by rw [hWc]; exact (Below.refl wr.heap.size wr).alloc (Nat.le_refl _) _
      have hzc : Wc.heap.size = wr.heap.size + 1 := by rw [hWc]; simp
      clear hWc
      refine (blocks_yes T k _ (Ks.getD j []) j _ R Wc (HVC.out.below hbc) (((HV.out.below HB2.out).below HBw.out).below hbc) (HRO.out.vals hn) (HRO.out.comps HKey.out) (by omega) (by omega)).mono ?_
      rw [HL.out]
      rintro e w4 ⟨v4, rfl, hv4, hb4⟩
      obtain ⟨a4, c4, rfl⟩ := hv4.slice
      have hb2 := hbc.trans (hb4.mono hbc.size)
      have hb3 : Below wr.heap.size wr (w4.alloc (.cells #[.slice a4 L.length c4] 59)) := hb2.alloc hb2.size _
      have HO2 := Lib.hid (HO.out.below hb3)
      have HR2 := Lib.hid (show Reads (w4.alloc (.cells #[.slice a4 L.length c4] 59)) 1 (.slice (some ⟨w4.heap.size, 0, none⟩) 1 1) [(⟨a4, L.length, c4⟩ : SV)].length ([(⟨a4, L.length, c4⟩ : SV)].flatMap encSV) from reads_block (xs := [(⟨a4, L.length, c4⟩ : SV)].flatMap encSV) (fr := (0, 0)) (t := 59) (blk_new rfl) rfl)
      have hown6 : ∀ x, wr.heap.size ≤ x → some x ≠ u12.ownBlock := by
        intro x hx
        rcases HO.out.1.2 with ⟨h0, _⟩ | ⟨g, cap, cur, h0, hg, hh, _⟩
        · rw [h0]; simp [Value.ownBlock]
        · rw [h0]; have := lt_of_blk hh; simp [Value.ownBlock]; omega
      have HCB := Lib.hid (hv4.move (w' := w4) (T := fun x => some x ≠ u12.ownBlock ∧ w2.heap.size ≤ x) (Nat.le_refl _) (fun x _ hx => ⟨rfl, by have hx' : Wc.heap.size ≤ x := hx; exact ⟨hown6 x (by omega), by omega⟩⟩))
      have HBA2 := Lib.hid (HBA.out.move (w' := w4) (T := fun x => some x ≠ u12.ownBlock ∧ w2.heap.size ≤ x) hb2.size (fun x hx hs => ⟨hb2.block x hx, hs.2, hs.1⟩))
      have hcn : C.length + [(⟨a4, L.length, c4⟩ : SV)].length ≤ 1000000000 := by rw [HCl.out]; simp only [List.length_cons, List.length_nil]; omega
      have hz2 := hb2.size
      clear hv4 hb4 hb2 hb3 hbc c0 k0 k1
      go_wp2_with (at_builtin; refine wpList_append_at rfl (.tmp 34) (.tmp 40) 55 rfl 59 (.slice none 0 0) 1 24 encSV (fun _ => rfl) one_encSV Tryz.underlying55 infoBS rfl (by decide) (by decide) (w0 := w2) (v := u12) (A := C) (B := [(⟨a4, L.length, c4⟩ : SV)]) rfl HO2.out rfl HR2.out hcn ?_; intro v5 w5 ho5 hk5 hz5 hat5)
      have hba : BListsAll w4 (fun x => some x ≠ u12.ownBlock ∧ w2.heap.size ≤ x) (C ++ [(⟨a4, L.length, c4⟩ : SV)]) (blksN k Ks R (j + 1)) := by
        rw [HSu.out]
        exact HBA2.out.snoc HCB.out
      go_roundw
      case rel =>
        refine ⟨j + 1, C ++ [(⟨a4, L.length, c4⟩ : SV)], by go_num, by omega, by rw [List.length_append, HCl.out]; rfl, ho5, hba.move ?_ ?_⟩
        · simp at hz5; omega
        · intro x hx hS
          obtain ⟨q1, q2⟩ := hS
          refine ⟨?_, q2, ?_⟩
          · obtain ⟨ob, hob⟩ : ∃ ob, w4.heap[x]? = some ob := ⟨_, Array.getElem?_eq_getElem hx⟩
            rw [hob]
            exact hk5 x ob q1 (blk_old hob)
          · rcases hat5 with h1 | h1 | h1
            · rw [h1]; simp
            · rw [← h1]; exact q1
            · rw [h1]; simp; omega
      case measure => simp [intOf]; omega
    · have hq : decide ((j : Int) < Ks.length) = false := by simp; omega
      obtain rfl : j = Ks.length := by omega
      go_wp2_with fail
      go_ret2
      exact ⟨_, rfl, ⟨C, (OwnV.vec (size := 1) (enc := encSV) (fun _ => rfl) HO.out).move (Nat.le_refl _) (fun x _ hx => ⟨rfl, Nat.le_trans HB2.out.size hx⟩), HBA.out.move (Nat.le_refl _) (fun x _ hx => ⟨rfl, Nat.le_trans HB2.out.size hx.1⟩)⟩, HB2.out.trans (HO.out.2.mono HB2.out.size)⟩
end
section
set_option maxRecDepth 100000
open Go.RowKit Cal
attribute [local go_sem] toList_mk mk_size
theorem BlocksAt.at {w : World} {S : Nat → Prop} {a : Option Addr} {n cap : Nat} {L : List BkP} (h : BlocksAt w S (.slice a n cap) L) (j : Nat) (hj : j < L.length) :
    ∃ (b off : Nat) (x : BkV), a = some ⟨b, off, none⟩ ∧ b < w.heap.size ∧ w.cell? ⟨b, off + j * 2, none⟩ = some (.int .u64 L[j].1) ∧ w.cell? ⟨b, off + j * 2 + 1, none⟩ = some (idV x) ∧ x.n = L[j].2.length ∧ Vec w S 1 encIn (idV x) L[j].2 := by
  obtain ⟨C, h1, h2, h3⟩ := h
  have hj2 : j < C.length := by rw [← h2, List.length_map] at hj; exact hj
  obtain ⟨b, off, e, hb, hc⟩ := h1.get j hj2
  subst h2
  have e1 : (C.map pB)[j] = pB C[j] := by rw [List.getElem_map]
  have hv := h3 C[j] (List.getElem_mem hj2)
  refine ⟨b, off, C[j], e, hb, ?_, hc 1 _ rfl, ?_, ?_⟩
  · rw [e1]; exact hc 0 _ rfl
  · rw [e1]; exact hv.len.1
  · rw [e1]; exact hv
def awK : SchemaL := ⟨[([103, 105, 118, 101, 110], 1)], [], [], []⟩
def awRobert : List UInt8 := [114, 111, 98, 101, 114, 116]
def awRupert : List UInt8 := [114, 117, 112, 101, 114, 116]
def awR : List RecL := [⟨1, 1, [awRobert]⟩, ⟨4, 1, [awRupert]⟩, ⟨5, 1, [[]]⟩]
theorem awK_check : checkS awK = 0 := by kernel_rfl
theorem awK_keys : KeysOk awK.fields [[(0, 2)]] := ⟨by decide, fun K hK => by
  simp at hK; subst hK
  exact ⟨by decide, by decide, fun c hc => by simp at hc; subst hc; exact ⟨by decide, by decide, by kernel_rfl⟩, fun i hi => by simp at hi⟩⟩
theorem awR_ok : RecsOk awK awR := ⟨by kernel_rfl, fun r hr x hx => by
  simp [awR] at hr
  rcases hr with rfl | rfl | rfl <;> (simp at hx; subst hx; decide)⟩
theorem awR_ascii : ascii awRobert := by unfold ascii; decide
theorem awK_parts : [((0 : Int), (2 : Int))].map (compN [awRobert]) = [[114, 49, 54, 51]] ∧ [((0 : Int), (2 : Int))].map (compN [awRupert]) = [[114, 49, 54, 51]] ∧ [((0 : Int), (2 : Int))].map (compN [[]]) = [[]] := ⟨by decide +kernel, by decide +kernel, by decide +kernel⟩
theorem awK_blocks : ∃ h : Int, blocksN (0, 0) 0 [(0, 2)] awR = [(h, [1, 4])] ∧ bhashN (0, 0) 0 ([((0 : Int), (2 : Int))].map (compN [awRobert])) = (h, true) := by
  obtain ⟨p1, p2, p3⟩ := awK_parts
  refine ⟨(bhashN (0, 0) 0 [[114, 49, 54, 51]]).1, ?_, ?_⟩
  · have e : ∀ h : Int × Bool, h.2 = true → addAll [] [(h, 1), (h, 4), ((0, false), 5)] = [(h.1, [1, 4])] := by
      rintro ⟨h, b⟩ hb
      have hb' : b = true := hb
      subst hb'
      simp [addAll, addB]
    rw [← e (bhashN (0, 0) 0 [[114, 49, 54, 51]]) (by unfold bhashN; rw [if_neg (by decide)])]
    unfold blocksN
    refine congrArg (addAll []) ?_
    show [blkPair (0, 0) 0 [(0, 2)] ⟨1, 1, [awRobert]⟩, blkPair (0, 0) 0 [(0, 2)] ⟨4, 1, [awRupert]⟩, blkPair (0, 0) 0 [(0, 2)] ⟨5, 1, [[]]⟩] = _
    unfold blkPair
    dsimp only
    rw [p1, p2, p3, show bhashN (0, 0) 0 [[]] = (0, false) by unfold bhashN; rw [if_pos (by decide)]]
  · rw [p1]
    refine Prod.ext rfl ?_
    unfold bhashN
    first | done | rw [if_neg (by decide)]
def awRV (a b c : Nat) : List RV := [⟨1, 1, some ⟨a, 0, none⟩, 1, 1, [awRobert]⟩, ⟨4, 1, some ⟨b, 0, none⟩, 1, 1, [awRupert]⟩, ⟨5, 1, some ⟨c, 0, none⟩, 1, 1, [[]]⟩]
set_option maxHeartbeats 8000000 in
theorem awake_b (w : World) : Calls Tryz.prog 5 #[] w fun e w' => e = .returned (.bool true) ∧ Below w.heap.size w w' := by
  go_enter Tryz.func5, Tryz.ntmps5
  go_wp2_with fail
  refine wp_calls_world (fun W hW => ?_)
  have hb0 : Below w.heap.size w W := by rw [hW]; exact ((((((((Below.refl w.heap.size w).alloc (Nat.le_refl _) _).alloc (by simp <;> omega) _).alloc (by simp <;> omega) _).alloc (by simp <;> omega) _).alloc (by simp <;> omega) _).alloc (by simp <;> omega) _).alloc (by simp <;> omega) _).alloc (by simp <;> omega) _
  obtain ⟨A7, hA7⟩ : ∃ A, w.heap.size + 1 + 1 + 1 + 1 + 1 + 1 + 1 = A := ⟨_, rfl⟩
  obtain ⟨A6, hA6⟩ : ∃ A, w.heap.size + 1 + 1 + 1 + 1 + 1 + 1 = A := ⟨_, rfl⟩
  obtain ⟨A5, hA5⟩ : ∃ A, w.heap.size + 1 + 1 + 1 + 1 + 1 = A := ⟨_, rfl⟩
  obtain ⟨A4, hA4⟩ : ∃ A, w.heap.size + 1 + 1 + 1 + 1 = A := ⟨_, rfl⟩
  obtain ⟨A3, hA3⟩ : ∃ A, w.heap.size + 1 + 1 + 1 = A := ⟨_, rfl⟩
  obtain ⟨A2, hA2⟩ : ∃ A, w.heap.size + 1 + 1 = A := ⟨_, rfl⟩
  obtain ⟨A1, hA1⟩ : ∃ A, w.heap.size + 1 = A := ⟨_, rfl⟩
  have hf0 : W.heap[w.heap.size]? = some (.cells #[strV [103, 105, 118, 101, 110], .int .i64 1] 91 (0, 0)) := by rw [hW]; exact blk_old (blk_old (blk_old (blk_old (blk_old (blk_old (blk_old (blk_new rfl)))))))
  have hs0 : W.heap[A1]? = some (.cells #[.slice (some ⟨w.heap.size, 0, none⟩) 1 1, .slice none 0 0, .slice none 0 0, .slice none 0 0] 43 (0, 0)) := by rw [hW, ← hA1]; exact blk_old (blk_old (blk_old (blk_old (blk_old (blk_old (blk_new (by first | rfl | (simp; done) | (simp; omega) | omega)))))))
  have hc0 : W.heap[A2]? = some (.cells ([((0 : Int), (2 : Int))].flatMap encC).toArray 31 (0, 0)) := by rw [hW, ← hA2]; exact blk_old (blk_old (blk_old (blk_old (blk_old (blk_new (by first | rfl | (simp; done) | (simp; omega) | omega))))))
  have hk0 : W.heap[A3]? = some (.cells ([(⟨some ⟨A2, 0, none⟩, 1, 1⟩ : SV)].flatMap encSV).toArray 51 (0, 0)) := by rw [hW, ← hA3, ← hA2]; exact blk_old (blk_old (blk_old (blk_old (blk_new (by first | rfl | (simp; done) | (simp; omega) | omega)))))
  have hv4 : W.heap[A4]? = some (.cells ([awRobert].flatMap encS).toArray 9 (0, 0)) := by rw [hW, ← hA4]; exact blk_old (blk_old (blk_old (blk_new (by first | rfl | (simp; done) | (simp; omega) | omega))))
  have hv5 : W.heap[A5]? = some (.cells ([awRupert].flatMap encS).toArray 9 (0, 0)) := by rw [hW, ← hA5]; exact blk_old (blk_old (blk_new (by first | rfl | (simp; done) | (simp; omega) | omega)))
  have hv6 : W.heap[A6]? = some (.cells (([[]] : List (List UInt8)).flatMap encS).toArray 9 (0, 0)) := by rw [hW, ← hA6]; exact blk_old (blk_new (by first | rfl | (simp; done) | (simp; omega) | omega))
  have hr7 : W.heap[A7]? = some (.cells ((awRV A4 A5 A6).flatMap encRV).toArray 29 (0, 0)) := by rw [hW, ← hA7, ← hA6, ← hA5, ← hA4]; exact blk_new (by first | rfl | (simp; done) | (simp; omega) | omega)
  rw [hA7, hA6, hA5, hA4, hA3, hA2, hA1]
  clear hW
  have hSA : SchemaAt W Any1 (.slice (some ⟨w.heap.size, 0, none⟩) 1 1) (.slice none 0 0) (.slice none 0 0) (.slice none 0 0) awK := ⟨vecF_one hf0, Vec.nil _ _ _ _, Vec.nil _ _ _ _, Vec.nil _ _ _ _⟩
  have hKA : KeysVec W Any1 (.slice (some ⟨A3, 0, none⟩) 1 1) [[(0, 2)]] := ⟨[⟨some ⟨A2, 0, none⟩, 1, 1⟩], blockVec (k := 1) (enc := encSV) (L := [(⟨some ⟨A2, 0, none⟩, 1, 1⟩ : SV)]) (S := Any1) (fun _ => rfl) hk0 trivial 1 rfl, rfl, fun n h1 h2 => by
    obtain rfl : n = 0 := by simp at h1; omega
    exact blockVec (k := 2) (enc := encC) (L := [(0, 2)]) (S := Any1) (fun _ => rfl) hc0 trivial 1 rfl⟩
  have hRA : RecsVec W Any1 (.slice (some ⟨A7, 0, none⟩) 3 3) awR := ⟨awRV A4 A5 A6, blockVec (k := 3) (enc := encRV) (L := awRV A4 A5 A6) (S := Any1) (fun _ => rfl) hr7 trivial 3 rfl, rfl, fun x hx => by
    simp [awRV] at hx
    rcases hx with rfl | rfl | rfl
    · exact blockVec (k := 1) (enc := encS) (L := [awRobert]) (S := Any1) (fun _ => rfl) hv4 trivial 1 rfl
    · exact blockVec (k := 1) (enc := encS) (L := [awRupert]) (S := Any1) (fun _ => rfl) hv5 trivial 1 rfl
    · exact blockVec (k := 1) (enc := encS) (L := [[]]) (S := Any1) (fun _ => rfl) hv6 trivial 1 rfl⟩
  have hV1 : Vec W Any1 1 encS (.slice (some ⟨A4, 0, none⟩) 1 1) [awRobert] := blockVec (k := 1) (enc := encS) (L := [awRobert]) (S := Any1) (fun _ => rfl) hv4 trivial 1 rfl
  obtain ⟨h, hbe, hhe⟩ := awK_blocks
  have HHE := Lib.hid hhe
  have lk2 := lt_of_blk hc0
  have g0 := (by rw [cell_of_row _ _ _ _ _ _ hk0]; rfl : W.cell? ⟨A3, 0, none⟩ = some (.slice (some ⟨A2, 0, none⟩) 1 1))
  have g1 := (by rw [cell_of_row _ _ _ _ _ _ hc0]; rfl : W.cell? ⟨A2, 0, none⟩ = some (.int .i64 0))
  have g2 := (by rw [cell_of_row _ _ _ _ _ _ hc0]; rfl : W.cell? ⟨A2, 1, none⟩ = some (.int .i64 2))
  clear hf0 hc0 hv4 hv5 hv6 hhe hA2 hA3 hA4 hA5 hA6 hA7
  have lk3 := lt_of_blk hk0; have ls1 := lt_of_blk hs0; have lr7 := lt_of_blk hr7
  obtain ⟨s0, s1, s2, s3⟩ := cellsS hs0
  have r0 := (by rw [cell_of_row _ _ _ _ _ _ hr7]; rfl : W.cell? ⟨A7, 0, none⟩ = some (.int .i64 1))
  have r1 := (by rw [cell_of_row _ _ _ _ _ _ hr7]; rfl : W.cell? ⟨A7, 1, none⟩ = some (.int .i64 1))
  have r2 := (by rw [cell_of_row _ _ _ _ _ _ hr7]; rfl : W.cell? ⟨A7, 2, none⟩ = some (.slice (some ⟨A4, 0, none⟩) 1 1))
  refine (bBlocks_yes Any1 Any1 _ _ _ _ _ _ awK (0, 0) [[(0, 2)]] 0 awR W hSA hKA hRA awR_ok (by decide) awK_keys (by decide)).mono ?_
  rw [show ([[(0, 2)]] : List (List (Int × Int))).getD 0 [] = [(0, 2)] from rfl, hbe]
  rintro e w1 ⟨vb, rfl, hvb, hb⟩
  obtain ⟨ab, cb, rfl⟩ := hvb.slice
  obtain ⟨bb, ob, x, rfl, lb, b0, b1, hxn, hvi⟩ := hvb.at 0 (by simp)
  dsimp only [List.getElem_cons_zero] at b0 hxn hvi
  rw [Nat.zero_mul, Nat.add_zero] at b0 b1
  obtain ⟨xh, xa, xn, xc, xi⟩ := x
  dsimp only at hxn
  have hxn' : xn = 2 := hxn
  subst hxn'
  obtain ⟨ib, io, exa, lib, hic⟩ := hvi.get 1 (by simp)
  cases exa
  have i1 := hic 0 _ rfl
  have i1' : w1.cell? ⟨ib, io + 1, none⟩ = some (.int .i64 4) := by simpa using i1
  have HB1 := Lib.hid (hb0.trans (hb.mono hb0.size)); have HSA1 := Lib.hid (hSA.below hb); have HKA1 := Lib.hid (hKA.below hb); have HV1 := Lib.hid (hV1.below hb)
  have t0 := (hb.cell (p := ⟨A1, 0, none⟩) ls1).trans s0; have t1 := (hb.cell (p := ⟨A1, 1, none⟩) ls1).trans s1; have t2 := (hb.cell (p := ⟨A1, 2, none⟩) ls1).trans s2; have t3 := (hb.cell (p := ⟨A1, 3, none⟩) ls1).trans s3
  have q0 := (hb.cell (p := ⟨A7, 0, none⟩) lr7).trans r0; have q1 := (hb.cell (p := ⟨A7, 1, none⟩) lr7).trans r1; have q2 := (hb.cell (p := ⟨A7, 2, none⟩) lr7).trans r2
  have k0 := (hb.cell (p := ⟨A3, 0, none⟩) lk3).trans g0; have c0 := (hb.cell (p := ⟨A2, 0, none⟩) lk2).trans g1; have c1 := (hb.cell (p := ⟨A2, 1, none⟩) lk2).trans g2
  have l3 : A3 < w1.heap.size := Nat.lt_of_lt_of_le lk3 hb.size
  have l2 : A2 < w1.heap.size := Nat.lt_of_lt_of_le lk2 hb.size
  have l1 : A1 < w1.heap.size := Nat.lt_of_lt_of_le ls1 hb.size
  have l7 : A7 < w1.heap.size := Nat.lt_of_lt_of_le lr7 hb.size
  clear hb hb0 hSA hKA hRA hV1 s0 s1 s2 s3 r0 r1 r2 hvb hvi hic i1 hs0 hk0 hr7 hxn lk3 lk2 ls1 lr7 hbe g0 g1 g2
  go_wp2_with fail
  have bD : Below w1.heap.size w1 w1.drew := (Below.refl _ _).drew
  refine wp_region_noPanic ?_
  refine wp_region_held_drew (S := (fun w' => w'.cell? ⟨A1, 0, none⟩ = some (.slice (some ⟨w.heap.size, 0, none⟩) 1 1) ∧ w'.cell? ⟨A1, 1, none⟩ = some (.slice none 0 0) ∧ w'.cell? ⟨A1, 2, none⟩ = some (.slice none 0 0) ∧ w'.cell? ⟨A1, 3, none⟩ = some (.slice none 0 0) ∧ w'.cell? ⟨A7, 0, none⟩ = some (.int .i64 1) ∧ w'.cell? ⟨A7, 1, none⟩ = some (.int .i64 1) ∧ w'.cell? ⟨A7, 2, none⟩ = some (.slice (some ⟨A4, 0, none⟩) 1 1))) (by kernel_rfl) (⟨t0, t1, t2, t3, q0, q1, q2⟩) (fun hHeld => ?_)
  refine tH 0 (h := ?_)
  refine tH 1 (h := ?_)
  refine tH 2 (h := ?_)
  refine tH 3 (h := ?_)
  refine tH 4 (h := ?_)
  refine tH 5 (h := ?_)
  refine wpAnyH_ready (rs := [6]) (by kernel_rfl) (by simp) ?_
  refine AllReadyH.cons rfl (fun K hK => ?_) AllReadyH.nil
  go_simp
  refine (bHash_yes Any1 Any1 _ _ _ _ _ awK (0, 0) [[(0, 2)]] 0 ⟨1, 1, [awRobert]⟩ _ _ (HSA1.out.below bD) (HKA1.out.below bD) (HV1.out.below bD) (by kernel_rfl) (by decide) (by decide) awK_keys (by decide)).mono ?_; rw [show ([[(0, 2)]] : List (List (Int × Int))).getD 0 [] = [(0, 2)] from rfl, HHE.out]; rintro e w2 ⟨rfl, hb⟩; have b2 := bD.trans hb; clear hb
  refine hK.out _ _ (⟨(b2.cell (p := ⟨A1, 0, none⟩) l1).trans t0, (b2.cell (p := ⟨A1, 1, none⟩) l1).trans t1, (b2.cell (p := ⟨A1, 2, none⟩) l1).trans t2, (b2.cell (p := ⟨A1, 3, none⟩) l1).trans t3, (b2.cell (p := ⟨A7, 0, none⟩) l7).trans q0, (b2.cell (p := ⟨A7, 1, none⟩) l7).trans q1, (b2.cell (p := ⟨A7, 2, none⟩) l7).trans q2⟩) (fun hHeld => ?_)
  clear hK K
  try simp only [List.getElem_toArray, List.getElem_cons_zero, List.getElem_cons_succ, Act.put, List.setIfInBounds_toArray, List.set_cons_zero, List.set_cons_succ]
  refine tH 7 (h := ?_)
  refine tH 8 (h := ?_)
  refine tH 9 (h := ?_)
  refine tH 10 (h := ?_)
  refine tH 11 (h := ?_)
  refine tH 12 (h := ?_)
  refine tH 13 (h := ?_)
  refine wpAnyH_done (by kernel_rfl) ?_ _
  refine NoPanic.normal ?_
  have HB2 := Lib.hid (HB1.out.trans (b2.mono HB1.out.size)); have HSA2 := Lib.hid (HSA1.out.below b2); have HKA2 := Lib.hid (HKA1.out.below b2); have HV2 := Lib.hid (HV1.out.below b2)
  have hAll : (fun w' : World => w'.cell? ⟨A1, 0, none⟩ = some (.slice (some ⟨w.heap.size, 0, none⟩) 1 1) ∧ w'.cell? ⟨A1, 1, none⟩ = some (.slice none 0 0) ∧ w'.cell? ⟨A1, 2, none⟩ = some (.slice none 0 0) ∧ w'.cell? ⟨A1, 3, none⟩ = some (.slice none 0 0) ∧ w'.cell? ⟨A7, 0, none⟩ = some (.int .i64 1) ∧ w'.cell? ⟨A7, 1, none⟩ = some (.int .i64 1) ∧ w'.cell? ⟨A7, 2, none⟩ = some (.slice (some ⟨A4, 0, none⟩) 1 1) ∧ w'.cell? ⟨bb, ob, none⟩ = some (.int .u64 h) ∧ w'.cell? ⟨bb, ob + 1, none⟩ = some (.slice (some ⟨ib, io, none⟩) 2 xc) ∧ w'.cell? ⟨ib, io + 1, none⟩ = some (.int .i64 4) ∧ w'.cell? ⟨A3, 0, none⟩ = some (.slice (some ⟨A2, 0, none⟩) 1 1) ∧ w'.cell? ⟨A2, 0, none⟩ = some (.int .i64 0) ∧ w'.cell? ⟨A2, 1, none⟩ = some (.int .i64 2)) w2 := ⟨(b2.cell (p := ⟨A1, 0, none⟩) l1).trans t0, (b2.cell (p := ⟨A1, 1, none⟩) l1).trans t1, (b2.cell (p := ⟨A1, 2, none⟩) l1).trans t2, (b2.cell (p := ⟨A1, 3, none⟩) l1).trans t3, (b2.cell (p := ⟨A7, 0, none⟩) l7).trans q0, (b2.cell (p := ⟨A7, 1, none⟩) l7).trans q1, (b2.cell (p := ⟨A7, 2, none⟩) l7).trans q2, (b2.cell (p := ⟨bb, ob, none⟩) lb).trans b0, (b2.cell (p := ⟨bb, ob + 1, none⟩) lb).trans b1, (b2.cell (p := ⟨ib, io + 1, none⟩) lib).trans i1', (b2.cell (p := ⟨A3, 0, none⟩) l3).trans k0, (b2.cell (p := ⟨A2, 0, none⟩) l2).trans c0, (b2.cell (p := ⟨A2, 1, none⟩) l2).trans c1⟩
  have m1 := Nat.lt_of_lt_of_le l1 b2.size; have m2 := Nat.lt_of_lt_of_le l2 b2.size; have m3 := Nat.lt_of_lt_of_le l3 b2.size; have m7 := Nat.lt_of_lt_of_le l7 b2.size; have mb := Nat.lt_of_lt_of_le lb b2.size; have mi := Nat.lt_of_lt_of_le lib b2.size
  have HP := Lib.hid (show compN [awRobert] (0, 2) = [114, 49, 54, 51] by decide +kernel)
  clear hHeld bD b2 HB1 HSA1 HKA1 HV1 t0 t1 t2 t3 q0 q1 q2 b0 b1 i1' k0 c0 c1 l1 l2 l3 l7 lb lib HHE
  dsimp only at hAll
  obtain ⟨t0, t1, t2, t3, q0, q1, q2, b0, b1, i1', k0, c0, c1⟩ := hAll
  go_wp2_with fail
  have bD : Below w2.heap.size w2 w2.drew := (Below.refl _ _).drew
  refine wp_region_noPanic ?_
  refine wp_region_held_drew (S := (fun w' => w'.cell? ⟨A1, 0, none⟩ = some (.slice (some ⟨w.heap.size, 0, none⟩) 1 1) ∧ w'.cell? ⟨A1, 1, none⟩ = some (.slice none 0 0) ∧ w'.cell? ⟨A1, 2, none⟩ = some (.slice none 0 0) ∧ w'.cell? ⟨A1, 3, none⟩ = some (.slice none 0 0) ∧ w'.cell? ⟨A7, 0, none⟩ = some (.int .i64 1) ∧ w'.cell? ⟨A7, 1, none⟩ = some (.int .i64 1) ∧ w'.cell? ⟨A7, 2, none⟩ = some (.slice (some ⟨A4, 0, none⟩) 1 1) ∧ w'.cell? ⟨bb, ob, none⟩ = some (.int .u64 h) ∧ w'.cell? ⟨bb, ob + 1, none⟩ = some (.slice (some ⟨ib, io, none⟩) 2 xc) ∧ w'.cell? ⟨ib, io + 1, none⟩ = some (.int .i64 4) ∧ w'.cell? ⟨A3, 0, none⟩ = some (.slice (some ⟨A2, 0, none⟩) 1 1) ∧ w'.cell? ⟨A2, 0, none⟩ = some (.int .i64 0) ∧ w'.cell? ⟨A2, 1, none⟩ = some (.int .i64 2))) (by kernel_rfl) (⟨t0, t1, t2, t3, q0, q1, q2, b0, b1, i1', k0, c0, c1⟩) (fun hHeld => ?_)
  refine tH 0 (h := ?_)
  refine tH 1 (h := ?_)
  refine tH 2 (h := ?_)
  refine tH 3 (h := ?_)
  refine tH 4 (h := ?_)
  refine tH 5 (h := ?_)
  refine tH 6 (h := ?_)
  refine tH 7 (h := ?_)
  refine tH 8 (h := ?_)
  refine tH 9 (h := ?_)
  refine tH 10 (h := ?_)
  refine tH 11 (h := ?_)
  refine tH 12 (h := ?_)
  refine tH 13 (h := ?_)
  refine tH 14 (h := ?_)
  refine tH 15 (h := ?_)
  refine tH 16 (h := ?_)
  refine tH 17 (h := ?_)
  refine tH 18 (h := ?_)
  refine tH 19 (h := ?_)
  refine tH 20 (h := ?_)
  refine tH 21 (h := ?_)
  refine tH 22 (h := ?_)
  refine tH 23 (h := ?_)
  refine tH 24 (h := ?_)
  refine tH 25 (h := ?_)
  refine tH 26 (h := ?_)
  refine tH 27 (h := ?_)
  refine tH 28 (h := ?_)
  refine tH 29 (h := ?_)
  refine tH 30 (h := ?_)
  refine tH 31 (h := ?_)
  refine tH 32 (h := ?_)
  refine tH 33 (h := ?_)
  refine tH 34 (h := ?_)
  refine tH 35 (h := ?_)
  refine tH 36 (h := ?_)
  refine tH 37 (h := ?_)
  refine tH 38 (h := ?_)
  refine tH 39 (h := ?_)
  refine tH 40 (h := ?_)
  refine tH 41 (h := ?_)
  refine wpAnyH_ready (rs := [42]) (by kernel_rfl) (by simp) ?_
  refine AllReadyH.cons rfl (fun K hK => ?_) AllReadyH.nil
  go_simp
  refine (bchk_yes Any1 Any1 _ _ _ _ _ awK [[(0, 2)]] _ (HSA2.out.below bD) (HKA2.out.below bD) awK_check (by decide) awK_keys).mono ?_; rintro e w3 ⟨rfl, hb⟩; have b3 := bD.trans hb; clear hb
  refine hK.out _ _ (⟨(b3.cell (p := ⟨A1, 0, none⟩) m1).trans t0, (b3.cell (p := ⟨A1, 1, none⟩) m1).trans t1, (b3.cell (p := ⟨A1, 2, none⟩) m1).trans t2, (b3.cell (p := ⟨A1, 3, none⟩) m1).trans t3, (b3.cell (p := ⟨A7, 0, none⟩) m7).trans q0, (b3.cell (p := ⟨A7, 1, none⟩) m7).trans q1, (b3.cell (p := ⟨A7, 2, none⟩) m7).trans q2, (b3.cell (p := ⟨bb, ob, none⟩) mb).trans b0, (b3.cell (p := ⟨bb, ob + 1, none⟩) mb).trans b1, (b3.cell (p := ⟨ib, io + 1, none⟩) mi).trans i1', (b3.cell (p := ⟨A3, 0, none⟩) m3).trans k0, (b3.cell (p := ⟨A2, 0, none⟩) m2).trans c0, (b3.cell (p := ⟨A2, 1, none⟩) m2).trans c1⟩) (fun hHeld => ?_)
  clear hK K
  try simp only [List.getElem_toArray, List.getElem_cons_zero, List.getElem_cons_succ, Act.put, List.setIfInBounds_toArray, List.set_cons_zero, List.set_cons_succ]
  refine tH 43 (h := ?_)
  refine tH 44 (h := ?_)
  refine tH 45 (h := ?_)
  refine tH 46 (h := ?_)
  refine tH 47 (h := ?_)
  refine tH 48 (h := ?_)
  refine tH 49 (h := ?_)
  refine tH 50 (h := ?_)
  refine tH 51 (h := ?_)
  refine tH 52 (h := ?_)
  refine tH 53 (h := ?_)
  refine tH 54 (h := ?_)
  refine tH 55 (h := ?_)
  refine wpAnyH_ready (rs := [56]) (by kernel_rfl) (by simp) ?_
  refine AllReadyH.cons rfl (fun K hK => ?_) AllReadyH.nil
  go_simp
  refine (bpart_yes Any1 _ _ _ _ awK (0, 2) ⟨1, 1, [awRobert]⟩ _ _ (HSA2.out.below b3) (HV2.out.below b3) (by kernel_rfl) (by decide) (by decide) (by decide) (by decide) (by kernel_rfl) (by decide) (by decide) (fun _ => awR_ascii)).mono ?_; rw [HP.out]; rintro e w4 ⟨rfl, hb⟩; have b4 := b3.trans (hb.mono b3.size); clear hb
  refine hK.out _ _ (⟨(b4.cell (p := ⟨A1, 0, none⟩) m1).trans t0, (b4.cell (p := ⟨A1, 1, none⟩) m1).trans t1, (b4.cell (p := ⟨A1, 2, none⟩) m1).trans t2, (b4.cell (p := ⟨A1, 3, none⟩) m1).trans t3, (b4.cell (p := ⟨A7, 0, none⟩) m7).trans q0, (b4.cell (p := ⟨A7, 1, none⟩) m7).trans q1, (b4.cell (p := ⟨A7, 2, none⟩) m7).trans q2, (b4.cell (p := ⟨bb, ob, none⟩) mb).trans b0, (b4.cell (p := ⟨bb, ob + 1, none⟩) mb).trans b1, (b4.cell (p := ⟨ib, io + 1, none⟩) mi).trans i1', (b4.cell (p := ⟨A3, 0, none⟩) m3).trans k0, (b4.cell (p := ⟨A2, 0, none⟩) m2).trans c0, (b4.cell (p := ⟨A2, 1, none⟩) m2).trans c1⟩) (fun hHeld => ?_)
  clear hK K
  try simp only [List.getElem_toArray, List.getElem_cons_zero, List.getElem_cons_succ, Act.put, List.setIfInBounds_toArray, List.set_cons_zero, List.set_cons_succ]
  refine tH 57 (h := ?_)
  refine tH 58 (h := ?_)
  refine tH 59 (h := ?_)
  refine wpAnyH_done (by kernel_rfl) ?_ _
  refine NoPanic.normal ?_
  go_wp2_with fail
  go_ret
  exact ⟨rfl, HB2.out.trans (b4.mono HB2.out.size)⟩
end
section
set_option maxRecDepth 100000
open Go.RowKit Cal
attribute [local go_sem] toList_mk mk_size bytes_append
/-- the deck in block D, the schema in block y, the block keys, the secret in block kb -/
structure LbAt (D : Nat) (w : World) (y kb : Nat) (S : Nat → Prop) (vf vt vn vs : Value) (s : SchemaL) (kv : Value) (Ks : List (List (Int × Int))) (k : Int × Int) (wr : World) : Prop where
  m : Moved D w wr
  b : wr.heap[y]? = some (.cells #[vf, vt, vn, vs] 43 (0, 0))
  kk : wr.heap[kb]? = some (.cells #[.int .u64 k.1, .int .u64 k.2] 26 (0, 0))
  s : SchemaAt wr S vf vt vn vs s
  ks : KeysVec wr S kv Ks
  ne : ∀ b, S b → b ≠ D
  yD : y ≠ D
  kD : kb ≠ D
theorem KeysVec.moved {D : Nat} {w w' : World} {S : Nat → Prop} {v : Value} {L : List (List (Int × Int))} (h : KeysVec w S v L) (hS : ∀ b, S b → b ≠ D) (m : Moved D w w') : KeysVec w' S v L :=
  h.move m.size fun b hb hs => ⟨m.grown.block b hb (by have := hS b hs; simp; omega), hs⟩
theorem LbAt.moved {D : Nat} {w : World} {y kb : Nat} {S : Nat → Prop} {vf vt vn vs : Value} {s : SchemaL} {kv : Value} {Ks : List (List (Int × Int))} {k : Int × Int} {wr wd : World} (h : LbAt D w y kb S vf vt vn vs s kv Ks k wr) (m : Moved D wr wd) : LbAt D w y kb S vf vt vn vs s kv Ks k wd :=
  ⟨h.m.trans m, m.blk h.yD h.b, m.blk h.kD h.kk, h.s.moved h.ne m, h.ks.moved h.ne m, h.ne, h.yD, h.kD⟩
theorem LbAt.below {D : Nat} {w : World} {y kb : Nat} {S : Nat → Prop} {vf vt vn vs : Value} {s : SchemaL} {kv : Value} {Ks : List (List (Int × Int))} {k : Int × Int} {wr wd : World} (h : LbAt D w y kb S vf vt vn vs s kv Ks k wr) (hb : Below wr.heap.size wr wd) : LbAt D w y kb S vf vt vn vs s kv Ks k wd :=
  h.moved ((Moved.start h.m.deck).below hb)
end
section
set_option maxRecDepth 100000
open Go.RowKit Cal
attribute [local go_sem] toList_mk mk_size bytes_append
/-- the deck in block D, the schema in block y, the block keys -/
structure LsAt (D : Nat) (w : World) (y : Nat) (S : Nat → Prop) (vf vt vn vs : Value) (s : SchemaL) (kv : Value) (Ks : List (List (Int × Int))) (wr : World) : Prop where
  m : Moved D w wr
  b : wr.heap[y]? = some (.cells #[vf, vt, vn, vs] 43 (0, 0))
  s : SchemaAt wr S vf vt vn vs s
  ks : KeysVec wr S kv Ks
  ne : ∀ b, S b → b ≠ D
  yD : y ≠ D
theorem LsAt.moved {D : Nat} {w : World} {y : Nat} {S : Nat → Prop} {vf vt vn vs : Value} {s : SchemaL} {kv : Value} {Ks : List (List (Int × Int))} {wr wd : World} (h : LsAt D w y S vf vt vn vs s kv Ks wr) (m : Moved D wr wd) : LsAt D w y S vf vt vn vs s kv Ks wd :=
  ⟨h.m.trans m, m.blk h.yD h.b, h.s.moved h.ne m, h.ks.moved h.ne m, h.ne, h.yD⟩
theorem LsAt.key {D : Nat} {w : World} {y kb : Nat} {S : Nat → Prop} {vf vt vn vs : Value} {s : SchemaL} {kv : Value} {Ks : List (List (Int × Int))} {k : Int × Int} {wr : World} (h : LsAt D w y S vf vt vn vs s kv Ks wr) (hk : wr.heap[kb]? = some (.cells #[.int .u64 k.1, .int .u64 k.2] 26 (0, 0))) (hD : kb ≠ D) : LbAt D w y kb S vf vt vn vs s kv Ks k wr :=
  ⟨h.m, h.b, hk, h.s, h.ks, h.ne, h.yD, hD⟩
end
section
set_option maxRecDepth 100000
open Go.RowKit
def rightC (F : List F2) (c : Int × Int) : Bool := decide (0 ≤ c.1) && (decide (c.1 < F.length) && fitsB c.2 (F.getD c.1.toNat default).2)
set_option maxHeartbeats 4000000 in
theorem bright_any (S : Nat → Prop) (vf vt vn vs : Value) (F : List F2) (c : Int × Int) (w : World) (h : Vec w S 2 encF vf F) (hn : F.length ≤ 1000000) :
    Calls Tryz.prog 66 #[.agg #[vf, vt, vn, vs], .agg #[.int .i64 c.1, .int .i64 c.2]] w fun e w' => e = .returned (.bool (rightC F c)) ∧ Below w.heap.size w w' := by
  obtain ⟨f, t⟩ := c
  dsimp only
  by_cases h0 : 0 ≤ f
  · obtain ⟨fn, rfl⟩ := Int.eq_ofNat_of_zero_le h0
    by_cases h1 : fn < F.length
    · have e : rightC F ((fn : Int), t) = fitsB t (F.getD fn default).2 := by
        unfold rightC; simp only [Int.toNat_natCast]
        rw [decide_eq_true (show (0 : Int) ≤ (fn : Int) by omega), decide_eq_true (show (fn : Int) < (F.length : Int) by omega)]; rfl
      rw [e]
      exact right_in S vf vt vn vs F fn t w h h1 hn
    · have e : rightC F ((fn : Int), t) = false := by
        unfold rightC; dsimp only
        rw [decide_eq_false (show ¬ (fn : Int) < (F.length : Int) by omega)]; simp
      rw [e]
      obtain ⟨a, cap, rfl⟩ := h.slice
      have d0 : decide ((0 : Int) ≤ (fn : Int)) = true := by simp
      have hfi : decide ((fn : Int) < (F.length : Int)) = false := by simp; omega
      clear h e
      go_enter Tryz.func66, Tryz.ntmps66
      go_wp2_with fail
      refine wp_world (fun W hW => ?_)
      have hb0 : Below w.heap.size w W := by rw [hW]; exact ((Below.refl w.heap.size w).alloc (Nat.le_refl _) _).alloc (by simp) _
      have hs0 : W.heap[w.heap.size]? = some (.cells #[.slice a F.length cap, vt, vn, vs] 43 (0, 0)) := by rw [hW]; exact blk_old (blk_new rfl)
      have hq0 : W.heap[w.heap.size + 1]? = some (.cells #[.int .i64 fn, .int .i64 t] 31 (0, 0)) := by rw [hW]; exact blk_new (by simp)
      clear hW
      obtain ⟨s0, s1, s2, s3⟩ := cellsS hs0; obtain ⟨q0, q1⟩ := cells2K hq0
      have HB0 := Lib.hid hb0
      clear hs0 hq0 hb0
      refine wp_region_noPanic ?_
      refine wp_region_held_drew (S := (fun w' => w'.cell? ⟨w.heap.size, 0, none⟩ = some (.slice a F.length cap) ∧ w'.cell? ⟨w.heap.size + 1, 0, none⟩ = some (.int .i64 fn) ∧ w'.cell? ⟨w.heap.size + 1, 1, none⟩ = some (.int .i64 t))) (by kernel_rfl) (⟨s0, q0, q1⟩) (fun hHeld => ?_)
      refine tH 0 (h := ?_)
      refine tH 1 (h := ?_)
      refine tH 2 (h := ?_)
      refine tH 3 (h := ?_)
      refine tH 4 (h := ?_)
      refine tH 5 (h := ?_)
      refine tH 6 (h := ?_)
      refine tH 7 (h := ?_)
      refine tH 8 (h := ?_)
      refine tH 9 (h := ?_)
      refine tH 10 (h := ?_)
      refine tH 11 (h := ?_)
      refine sH 12 (h := ?_)
      refine sH 13 (h := ?_)
      refine sH 14 (h := ?_)
      refine sH 15 (h := ?_)
      refine sH 16 (h := ?_)
      refine sH 17 (h := ?_)
      refine sH 18 (h := ?_)
      refine sH 19 (h := ?_)
      refine sH 20 (h := ?_)
      refine sH 21 (h := ?_)
      refine tH 22 (h := ?_)
      refine tH 23 (h := ?_)
      refine wpAnyH_done (by kernel_rfl) ?_ _
      refine NoPanic.normal ?_
      go_wp2_with fail
      go_ret
      exact ⟨rfl, HB0.out.drew⟩
  · have e : rightC F (f, t) = false := by
      unfold rightC; dsimp only
      rw [decide_eq_false h0]; rfl
    rw [e]
    obtain ⟨a, cap, rfl⟩ := h.slice
    have d0 : decide ((0 : Int) ≤ f) = false := decide_eq_false h0
    clear h e
    go_enter Tryz.func66, Tryz.ntmps66
    go_wp2_with fail
    refine wp_world (fun W hW => ?_)
    have hb0 : Below w.heap.size w W := by rw [hW]; exact ((Below.refl w.heap.size w).alloc (Nat.le_refl _) _).alloc (by simp) _
    have hq0 : W.heap[w.heap.size + 1]? = some (.cells #[.int .i64 f, .int .i64 t] 31 (0, 0)) := by rw [hW]; exact blk_new (by simp)
    clear hW
    obtain ⟨q0, q1⟩ := cells2K hq0
    have HB0 := Lib.hid hb0
    clear hq0 hb0
    refine wp_region_noPanic ?_
    refine wp_region_held_drew (S := (fun w' => w'.cell? ⟨w.heap.size + 1, 0, none⟩ = some (.int .i64 f) ∧ w'.cell? ⟨w.heap.size + 1, 1, none⟩ = some (.int .i64 t))) (by kernel_rfl) (⟨q0, q1⟩) (fun hHeld => ?_)
    refine tH 0 (h := ?_)
    refine tH 1 (h := ?_)
    refine tH 2 (h := ?_)
    refine tH 3 (h := ?_)
    refine sH 4 (h := ?_)
    refine sH 5 (h := ?_)
    refine sH 6 (h := ?_)
    refine sH 7 (h := ?_)
    refine sH 8 (h := ?_)
    refine sH 9 (h := ?_)
    refine tH 10 (h := ?_)
    refine tH 11 (h := ?_)
    refine sH 12 (h := ?_)
    refine sH 13 (h := ?_)
    refine sH 14 (h := ?_)
    refine sH 15 (h := ?_)
    refine sH 16 (h := ?_)
    refine sH 17 (h := ?_)
    refine sH 18 (h := ?_)
    refine sH 19 (h := ?_)
    refine sH 20 (h := ?_)
    refine sH 21 (h := ?_)
    refine tH 22 (h := ?_)
    refine tH 23 (h := ?_)
    refine wpAnyH_done (by kernel_rfl) ?_ _
    refine NoPanic.normal ?_
    go_wp2_with fail
    go_ret
    exact ⟨rfl, HB0.out.drew⟩
/-- a component that does not come behind the one before -/
def badO : Option (Int × Int) → Int × Int → Bool
  | none, _ => false
  | some q, c => decide (0 ≤ orderC q c)
/-- the first error of components -/
def bkeyA (F : List F2) : Option (Int × Int) → List (Int × Int) → Int
  | _, [] => 0
  | p, c :: K => if (rightC F c && !badO p c) = true then bkeyA F (some c) K else 17
theorem bkeyA_cons (F : List F2) (p : Option (Int × Int)) (c : Int × Int) (K : List (Int × Int)) : bkeyA F p (c :: K) = if (rightC F c && !badO p c) = true then bkeyA F (some c) K else 17 := rfl
def bkeyN (F : List F2) (K : List (Int × Int)) : Int := if K.length < 1 ∨ 3 < K.length then 1 else bkeyA F none K
def prevC (K : List (Int × Int)) (j : Nat) : Option (Int × Int) := if j = 0 then none else some (K.getD (j - 1) (0, 0))
set_option maxHeartbeats 8000000 in
theorem bkey_any (S T : Nat → Prop) (vf vt vn vs kv : Value) (F : List F2) (K : List (Int × Int)) (w : World) (h : Vec w S 2 encF vf F) (hk : Vec w T 2 encC kv K) (hn : F.length ≤ 1000000) (hK : K.length ≤ 1000000) :
    Calls Tryz.prog 51 #[.agg #[vf, vt, vn, vs], .agg #[kv]] w fun e w' => e = .returned (.int .i64 (bkeyN F K)) ∧ Below w.heap.size w w' := by
  obtain ⟨ak, ck, rfl⟩ := hk.slice
  have HF := Lib.hid h; have HK := Lib.hid hk
  obtain ⟨E, hE⟩ : ∃ E, bkeyN F K = E := ⟨_, rfl⟩
  rw [hE]
  by_cases hl : K.length < 1 ∨ 3 < K.length
  · have hE1 : E = 1 := by rw [← hE]; unfold bkeyN; rw [if_pos hl]
    subst hE1
    by_cases hl1 : K.length < 1
    · have d1 : decide ((K.length : Int) < 1) = true := decide_eq_true (by omega)
      clear h hk hE hl
      go_enter Tryz.func51, Tryz.ntmps51
      go_wp2_with fail
      go_ret
      exact ⟨rfl, ((Below.refl w.heap.size w).alloc (Nat.le_refl _) _).alloc (by simp) _⟩
    · have d1 : decide ((K.length : Int) < 1) = false := by simp; omega
      have d2 : decide ((3 : Int) < (K.length : Int)) = true := by simp; omega
      clear h hk hE hl
      go_enter Tryz.func51, Tryz.ntmps51
      go_wp2_with fail
      go_ret
      exact ⟨rfl, ((Below.refl w.heap.size w).alloc (Nat.le_refl _) _).alloc (by simp) _⟩
  · have HE := Lib.hid (show bkeyA F none K = E by rw [← hE]; unfold bkeyN; rw [if_neg hl])
    have l1 : 1 ≤ K.length := by omega
    have l2 : K.length ≤ 3 := by omega
    have d1 : decide ((K.length : Int) < 1) = false := by simp; omega
    have d2 : decide ((3 : Int) < (K.length : Int)) = false := by simp; omega
    clear h hk hE hl
    go_enter Tryz.func51, Tryz.ntmps51
    go_wp2_with fail
    refine wp_world (fun W hW => ?_)
    have hb0 : Below w.heap.size w W := by rw [hW]; exact ((Below.refl w.heap.size w).alloc (Nat.le_refl _) _).alloc (by simp) _
    have hs0 : W.heap[w.heap.size]? = some (.cells #[vf, vt, vn, vs] 43 (0, 0)) := by rw [hW]; exact blk_old (blk_new rfl)
    have hq0 : W.heap[w.heap.size + 1]? = some (.cells #[.slice ak K.length ck] 51 (0, 0)) := by rw [hW]; exact blk_new (by simp)
    clear hW
    have HB0 := Lib.hid hb0; have HS0 := Lib.hid hs0; have HQ0 := Lib.hid hq0
    clear hb0 hs0 hq0 d1 d2
    go_loopw [20] (fun i wr => ∃ j : Nat, i = .int .i64 j ∧ j ≤ K.length ∧ Hid (bkeyA F (prevC K j) (K.drop j) = E) ∧ Below W.heap.size W wr) (fun i _ => K.length - (intOf i).toNat)
    case atStart => exact ⟨0, rfl, by omega, HE, Below.refl _ _⟩
    case round =>
      obtain ⟨j, rfl, hj, HT, hbw⟩ := hrel
      have HBW := Lib.hid hbw
      by_cases hlt : j < K.length
      · have hq : decide ((j : Int) < (K.length : Int)) = true := by simp; omega
        have hji : (j : Int) < (K.length : Int) := by omega
        have hbw0 := HB0.out.trans (hbw.mono HB0.out.size)
        obtain ⟨b, off, rfl, lb, hc⟩ := (HK.out.below hbw0).get j hlt
        have c0 := hc 0 _ rfl; have c1 := hc 1 _ rfl
        obtain ⟨⟨f, t⟩, hx⟩ : ∃ x, K[j] = x := ⟨_, rfl⟩
        have hT := HT.out
        rw [List.drop_eq_getElem_cons hlt, bkeyA_cons, hx] at hT
        rw [hx] at c0 c1
        dsimp only at c0 c1
        rw [Nat.add_zero] at c0
        obtain ⟨rb, hrb⟩ : ∃ r, rightC F (f, t) = r := ⟨_, rfl⟩
        rw [hrb] at hT
        have HRB := Lib.hid hrb
        have hnext : prevC K (j + 1) = some (f, t) := by unfold prevC; rw [if_neg (by omega), show j + 1 - 1 = j by omega, List.getD, List.getElem?_eq_getElem hlt, hx]; rfl
        rw [← hnext] at hT
        have hs1 := blk_below hbw (lt_of_blk HS0.out) HS0.out; have hq1 := blk_below hbw (lt_of_blk HQ0.out) HQ0.out
        have HT2 := Lib.hid hT; have HX := Lib.hid hx
        clear hbw hc hT hrb hnext HT
        go_wp2_with fail
        refine wp_world (fun Wc hWc => ?_)
        have hbc : Below wr.heap.size wr Wc := by rw [hWc]; exact (Below.refl wr.heap.size wr).alloc (Nat.le_refl _) _
        have hc0 : Wc.heap[wr.heap.size]? = some (.cells #[.int .i64 f, .int .i64 t] 31 (0, 0)) := by rw [hWc]; exact blk_new rfl
        clear hWc
        have hs2 := blk_below hbc (lt_of_blk hs1) hs1; have hq2 := blk_below hbc (lt_of_blk hq1) hq1
        obtain ⟨s0, s1, s2, s3⟩ := cellsS hs2; obtain ⟨k0, k1⟩ := cells2K hc0
        have q0 : Wc.cell? ⟨w.heap.size + 1, 0, none⟩ = some (.slice (some ⟨b, off, none⟩) K.length ck) := by rw [cell_of_row _ _ _ _ _ _ hq2]; rfl
        have ls := lt_of_blk hs2; have lq := lt_of_blk hq2; have lc := lt_of_blk hc0
        have HFC := Lib.hid (HF.out.below (hbw0.trans (hbc.mono hbw0.size)))
        have HBC := Lib.hid hbc
        have bD : Below Wc.heap.size Wc Wc.drew := (Below.refl _ _).drew
        cases rb
        · have hE17 : E = 17 := by have := HT2.out; simpa using this.symm
          subst hE17
          clear hs1 hq1 hc0 hs2 hq2 hbc c0 c1 HE
          refine wp_region_noPanic ?_
          refine wp_region_held_drew (S := (fun w' => w'.cell? ⟨w.heap.size, 0, none⟩ = some (vf) ∧ w'.cell? ⟨w.heap.size, 1, none⟩ = some (vt) ∧ w'.cell? ⟨w.heap.size, 2, none⟩ = some (vn) ∧ w'.cell? ⟨w.heap.size, 3, none⟩ = some (vs) ∧ w'.cell? ⟨wr.heap.size, 0, none⟩ = some (.int .i64 f) ∧ w'.cell? ⟨wr.heap.size, 1, none⟩ = some (.int .i64 t))) (by kernel_rfl) (⟨s0, s1, s2, s3, k0, k1⟩) (fun hHeld => ?_)
          refine tH 0 (h := ?_)
          refine tH 1 (h := ?_)
          refine wpAnyH_ready (rs := [2]) (by kernel_rfl) (by simp) ?_
          refine AllReadyH.cons rfl (fun K hK => ?_) AllReadyH.nil
          go_simp
          refine (bright_any S _ _ _ _ F (f, t) _ (HFC.out.below bD) hn).mono ?_; rw [HRB.out]; rintro e w2 ⟨rfl, hb⟩; have b2 := bD.trans hb; clear hb
          refine hK.out _ _ (⟨(b2.cell (p := ⟨w.heap.size, 0, none⟩) ls).trans s0, (b2.cell (p := ⟨w.heap.size, 1, none⟩) ls).trans s1, (b2.cell (p := ⟨w.heap.size, 2, none⟩) ls).trans s2, (b2.cell (p := ⟨w.heap.size, 3, none⟩) ls).trans s3, (b2.cell (p := ⟨wr.heap.size, 0, none⟩) lc).trans k0, (b2.cell (p := ⟨wr.heap.size, 1, none⟩) lc).trans k1⟩) (fun hHeld => ?_)
          clear hK K
          try simp only [List.getElem_toArray, List.getElem_cons_zero, List.getElem_cons_succ, Act.put, List.setIfInBounds_toArray, List.set_cons_zero, List.set_cons_succ]
          refine tH 3 (h := ?_)
          refine tH 4 (h := ?_)
          refine sH 5 (h := ?_)
          refine sH 6 (h := ?_)
          refine sH 7 (h := ?_)
          refine sH 8 (h := ?_)
          refine sH 9 (h := ?_)
          refine sH 10 (h := ?_)
          refine sH 11 (h := ?_)
          refine sH 12 (h := ?_)
          refine sH 13 (h := ?_)
          refine sH 14 (h := ?_)
          refine sH 15 (h := ?_)
          refine sH 16 (h := ?_)
          refine sH 17 (h := ?_)
          refine tH 18 (h := ?_)
          refine wpAnyH_done (by kernel_rfl) ?_ _
          refine NoPanic.normal ?_
          go_wp2_with fail
          go_ret
          exact ⟨rfl, HB0.out.trans ((HBW.out.trans ((HBC.out.trans (b2.mono HBC.out.size)).mono HBW.out.size)).mono HB0.out.size)⟩
        · by_cases hj0 : j = 0
          · have g0 : decide ((0 : Int) < (j : Int)) = false := by simp; omega
            have g0n : decide (0 < j) = false := by simp; omega
            have HT3 := Lib.hid (show bkeyA F (prevC K (j + 1)) (K.drop (j + 1)) = E by
              have := HT2.out
              rw [show prevC K j = none by unfold prevC; rw [if_pos hj0], show badO none (f, t) = false from rfl] at this
              simpa using this)
            clear hs1 hq1 hc0 hs2 hq2 hbc c0 c1 hj0 HT2 HE
            refine wp_region_noPanic ?_
            refine wp_region_held_drew (S := (fun w' => w'.cell? ⟨w.heap.size, 0, none⟩ = some (vf) ∧ w'.cell? ⟨w.heap.size, 1, none⟩ = some (vt) ∧ w'.cell? ⟨w.heap.size, 2, none⟩ = some (vn) ∧ w'.cell? ⟨w.heap.size, 3, none⟩ = some (vs) ∧ w'.cell? ⟨wr.heap.size, 0, none⟩ = some (.int .i64 f) ∧ w'.cell? ⟨wr.heap.size, 1, none⟩ = some (.int .i64 t))) (by kernel_rfl) (⟨s0, s1, s2, s3, k0, k1⟩) (fun hHeld => ?_)
            refine tH 0 (h := ?_)
            refine tH 1 (h := ?_)
            refine wpAnyH_ready (rs := [2]) (by kernel_rfl) (by simp) ?_
            refine AllReadyH.cons rfl (fun K hK => ?_) AllReadyH.nil
            go_simp
            refine (bright_any S _ _ _ _ F (f, t) _ (HFC.out.below bD) hn).mono ?_; rw [HRB.out]; rintro e w2 ⟨rfl, hb⟩; have b2 := bD.trans hb; clear hb
            refine hK.out _ _ (⟨(b2.cell (p := ⟨w.heap.size, 0, none⟩) ls).trans s0, (b2.cell (p := ⟨w.heap.size, 1, none⟩) ls).trans s1, (b2.cell (p := ⟨w.heap.size, 2, none⟩) ls).trans s2, (b2.cell (p := ⟨w.heap.size, 3, none⟩) ls).trans s3, (b2.cell (p := ⟨wr.heap.size, 0, none⟩) lc).trans k0, (b2.cell (p := ⟨wr.heap.size, 1, none⟩) lc).trans k1⟩) (fun hHeld => ?_)
            clear hK K
            try simp only [List.getElem_toArray, List.getElem_cons_zero, List.getElem_cons_succ, Act.put, List.setIfInBounds_toArray, List.set_cons_zero, List.set_cons_succ]
            refine tH 3 (h := ?_)
            refine tH 4 (h := ?_)
            refine tH 5 (h := ?_)
            refine tH 6 (h := ?_)
            refine tH 7 (h := ?_)
            refine sH 8 (h := ?_)
            refine sH 9 (h := ?_)
            refine sH 10 (h := ?_)
            refine sH 11 (h := ?_)
            refine sH 12 (h := ?_)
            refine sH 13 (h := ?_)
            refine sH 14 (h := ?_)
            refine sH 15 (h := ?_)
            refine sH 16 (h := ?_)
            refine tH 17 (h := ?_)
            refine tH 18 (h := ?_)
            refine wpAnyH_done (by kernel_rfl) ?_ _
            refine NoPanic.normal ?_
            go_wp2_with fail
            go_roundw
            case rel => exact ⟨j + 1, by go_num, by omega, HT3, HBW.out.trans ((HBC.out.trans (b2.mono HBC.out.size)).mono HBW.out.size)⟩
            case measure => simp [intOf]; omega
          · obtain ⟨p, hp⟩ : ∃ p, j = p + 1 := ⟨j - 1, by omega⟩
            have g0 : decide ((0 : Int) < (j : Int)) = true := by simp; omega
            have g0n : decide (0 < j) = true := by simp; omega
            have hw1 : IntKind.i64.wrap ((j : Int) - 1) = (p : Int) := by rw [IntKind.wrap_i64]; omega
            have hpi : (p : Int) < (K.length : Int) := by omega
            obtain ⟨b2', off2, e2, -, hcp⟩ := (HK.out.below (hbw0.trans (hbc.mono hbw0.size))).get p (by omega)
            cases e2
            have y0 := hcp 0 _ rfl; have y1 := hcp 1 _ rfl
            rw [Nat.add_zero] at y0
            obtain ⟨⟨f', t'⟩, hx'⟩ : ∃ x, K.getD p (0, 0) = x := ⟨_, rfl⟩
            have hx'' : K[p]'(by omega) = (f', t') := by rw [← hx', List.getD, List.getElem?_eq_getElem (by omega)]; rfl
            rw [hx''] at y0 y1
            dsimp only at y0 y1
            obtain ⟨oc, hoc⟩ : ∃ o, orderC (f', t') (f, t) = o := ⟨_, rfl⟩
            have hprev : prevC K j = some (f', t') := by unfold prevC; rw [if_neg hj0, show j - 1 = p by omega, hx']
            have hT3 := HT2.out
            rw [hprev, show badO (some (f', t')) (f, t) = decide (0 ≤ oc) by show decide (0 ≤ orderC (f', t') (f, t)) = _; rw [hoc]] at hT3
            have HOc := Lib.hid hoc; have HT3 := Lib.hid hT3
            have lbc : b < Wc.heap.size := Nat.lt_of_lt_of_le lb hbc.size
            clear hs1 hq1 hc0 hs2 hq2 hbc c0 c1 hj0 hcp hx hx' hx'' hoc hp hT3 HT2 hprev HE
            refine wp_region_noPanic ?_
            refine wp_region_held_drew (S := (fun w' => w'.cell? ⟨w.heap.size, 0, none⟩ = some (vf) ∧ w'.cell? ⟨w.heap.size, 1, none⟩ = some (vt) ∧ w'.cell? ⟨w.heap.size, 2, none⟩ = some (vn) ∧ w'.cell? ⟨w.heap.size, 3, none⟩ = some (vs) ∧ w'.cell? ⟨w.heap.size + 1, 0, none⟩ = some (.slice (some ⟨b, off, none⟩) K.length ck) ∧ w'.cell? ⟨wr.heap.size, 0, none⟩ = some (.int .i64 f) ∧ w'.cell? ⟨wr.heap.size, 1, none⟩ = some (.int .i64 t) ∧ w'.cell? ⟨b, off + p * 2, none⟩ = some (.int .i64 f') ∧ w'.cell? ⟨b, off + p * 2 + 1, none⟩ = some (.int .i64 t'))) (by kernel_rfl) (⟨s0, s1, s2, s3, q0, k0, k1, y0, y1⟩) (fun hHeld => ?_)
            refine tH 0 (h := ?_)
            refine tH 1 (h := ?_)
            refine wpAnyH_ready (rs := [2]) (by kernel_rfl) (by simp) ?_
            refine AllReadyH.cons rfl (fun K hK => ?_) AllReadyH.nil
            go_simp
            refine (bright_any S _ _ _ _ F (f, t) _ (HFC.out.below bD) hn).mono ?_; rw [HRB.out]; rintro e w2 ⟨rfl, hb⟩; have b2 := bD.trans hb; clear hb
            refine hK.out _ _ (⟨(b2.cell (p := ⟨w.heap.size, 0, none⟩) ls).trans s0, (b2.cell (p := ⟨w.heap.size, 1, none⟩) ls).trans s1, (b2.cell (p := ⟨w.heap.size, 2, none⟩) ls).trans s2, (b2.cell (p := ⟨w.heap.size, 3, none⟩) ls).trans s3, (b2.cell (p := ⟨w.heap.size + 1, 0, none⟩) lq).trans q0, (b2.cell (p := ⟨wr.heap.size, 0, none⟩) lc).trans k0, (b2.cell (p := ⟨wr.heap.size, 1, none⟩) lc).trans k1, (b2.cell (p := ⟨b, off + p * 2, none⟩) lbc).trans y0, (b2.cell (p := ⟨b, off + p * 2 + 1, none⟩) lbc).trans y1⟩) (fun hHeld => ?_)
            clear hK K
            try simp only [List.getElem_toArray, List.getElem_cons_zero, List.getElem_cons_succ, Act.put, List.setIfInBounds_toArray, List.set_cons_zero, List.set_cons_succ]
            refine tH 3 (h := ?_)
            refine tH 4 (h := ?_)
            refine tH 5 (h := ?_)
            refine tH 6 (h := ?_)
            refine tH 7 (h := ?_)
            refine tH 8 (h := ?_)
            refine tH 9 (h := ?_)
            refine tH 10 (h := ?_)
            refine tH 11 (h := ?_)
            refine tH 12 (h := ?_)
            refine tH 13 (h := ?_)
            refine tH 14 (h := ?_)
            refine wpAnyH_ready (rs := [15]) (by kernel_rfl) (by simp) ?_
            refine AllReadyH.cons rfl (fun K hK => ?_) AllReadyH.nil
            go_simp
            refine (order_any (f', t') (f, t) _).mono ?_; rw [HOc.out]; rintro e w3 ⟨rfl, hb⟩; have b3 := b2.trans (hb.mono b2.size); clear hb
            refine hK.out _ _ (⟨(b3.cell (p := ⟨w.heap.size, 0, none⟩) ls).trans s0, (b3.cell (p := ⟨w.heap.size, 1, none⟩) ls).trans s1, (b3.cell (p := ⟨w.heap.size, 2, none⟩) ls).trans s2, (b3.cell (p := ⟨w.heap.size, 3, none⟩) ls).trans s3, (b3.cell (p := ⟨w.heap.size + 1, 0, none⟩) lq).trans q0, (b3.cell (p := ⟨wr.heap.size, 0, none⟩) lc).trans k0, (b3.cell (p := ⟨wr.heap.size, 1, none⟩) lc).trans k1, (b3.cell (p := ⟨b, off + p * 2, none⟩) lbc).trans y0, (b3.cell (p := ⟨b, off + p * 2 + 1, none⟩) lbc).trans y1⟩) (fun hHeld => ?_)
            clear hK K
            try simp only [List.getElem_toArray, List.getElem_cons_zero, List.getElem_cons_succ, Act.put, List.setIfInBounds_toArray, List.set_cons_zero, List.set_cons_succ]
            refine tH 16 (h := ?_)
            refine tH 17 (h := ?_)
            refine tH 18 (h := ?_)
            refine wpAnyH_done (by kernel_rfl) ?_ _
            refine NoPanic.normal ?_
            by_cases ho : 0 ≤ oc
            · have hge : decide ((0 : Int) ≤ oc) = true := decide_eq_true ho
              have hE17 : E = 17 := by have := HT3.out; rw [hge] at this; simpa using this.symm
              subst hE17
              go_wp2_with fail
              go_ret
              exact ⟨rfl, HB0.out.trans ((HBW.out.trans ((HBC.out.trans (b3.mono HBC.out.size)).mono HBW.out.size)).mono HB0.out.size)⟩
            · have hge : decide ((0 : Int) ≤ oc) = false := decide_eq_false ho
              have HT4 := Lib.hid (show bkeyA F (prevC K (j + 1)) (K.drop (j + 1)) = E by have := HT3.out; rw [hge] at this; simpa using this)
              clear HT3
              go_wp2_with fail
              go_roundw
              case rel => exact ⟨j + 1, by go_num, by omega, HT4, HBW.out.trans ((HBC.out.trans (b3.mono HBC.out.size)).mono HBW.out.size)⟩
              case measure => simp [intOf]; omega
      · have hq : decide ((j : Int) < (K.length : Int)) = false := by simp; omega
        obtain rfl : j = K.length := by omega
        have hE0 : E = 0 := by rw [← HT.out, List.drop_length]; rfl
        subst hE0
        go_wp2_with fail
        go_ret
        exact ⟨rfl, HB0.out.trans (hbw.mono HB0.out.size)⟩
end
section
open Go.RowKit
def tabD : List (List UInt8) := [[98, 102, 112, 118], [99, 103, 106, 107, 113, 115, 120, 122], [100, 116], [108], [109, 110], [114]]
def digG (c d : UInt8) : List (List UInt8) → UInt8
  | [] => 0
  | t :: ts => if c ∈ t then d else digG c (d + 1) ts
/-- the digit of a byte: 1 for h and w, 0 for vowels and whatever is no letter -/
def digR (c : UInt8) : UInt8 := if c = 104 ∨ c = 119 then 1 else digG c 49 tabD
def convD (x : UInt8) : UInt8 := if x = 45 then 1 else if x = 32 then 0 else x
def okD (x : UInt8) : Prop := x = 32 ∨ x = 45 ∨ (49 ≤ x.toNat ∧ x.toNat ≤ 54)
instance (x : UInt8) : Decidable (okD x) := by unfold okD; infer_instance
theorem dig_conv {c : UInt8} (h : isLow c = true) : digR c = convD (codeB c) ∧ okD (codeB c) := by
  have : ∀ k : Fin 256, isLow (UInt8.ofNat k.val) = true → digR (UInt8.ofNat k.val) = convD (codeB (UInt8.ofNat k.val)) ∧ okD (codeB (UInt8.ofNat k.val)) := by decide +kernel
  have h2 := this ⟨c.toNat, c.toNat_lt⟩ (by simpa using h)
  simpa using h2
def refStep (la : UInt8) (out : List UInt8) (d : UInt8) : List UInt8 × UInt8 := if d = 1 then (out, la) else if 1 < d.toNat ∧ d ≠ la then (out ++ [d], d) else (out, d)
theorem conv_cases {x : UInt8} (h : okD x) : (x = 32 ∧ convD x = 0) ∨ (x = 45 ∧ convD x = 1) ∨ (49 ≤ x.toNat ∧ x.toNat ≤ 54 ∧ convD x = x ∧ x ≠ 45 ∧ x ≠ 32) := by
  rcases h with rfl | rfl | ⟨h1, h2⟩
  · exact .inl ⟨rfl, rfl⟩
  · exact .inr (.inl ⟨rfl, rfl⟩)
  · have n1 : x ≠ 45 := by intro e; subst e; simp at h1
    have n2 : x ≠ 32 := by intro e; subst e; simp at h1
    exact .inr (.inr ⟨h1, h2, by unfold convD; rw [if_neg n1, if_neg n2], n1, n2⟩)
theorem conv_inj {x y : UInt8} (hx : okD x) (hy : okD y) (h : convD x = convD y) : x = y := by
  rcases conv_cases hx with ⟨a, b⟩ | ⟨a, b⟩ | ⟨a, a', b, _⟩ <;> rcases conv_cases hy with ⟨c, d⟩ | ⟨c, d⟩ | ⟨c, c', d, _⟩ <;> rw [b, d] at h
  · rw [a, c]
  · cases h
  · subst h; simp at c
  · cases h
  · rw [a, c]
  · subst h; simp at c
  · subst h; simp at a
  · subst h; simp at a
  · exact h
theorem step_conv {la c : UInt8} {out : List UInt8} (hc : isLow c = true) (hl : okD la) : refStep (convD la) out (digR c) = ((sndStep la out c).1, convD (sndStep la out c).2) ∧ okD (sndStep la out c).2 := by
  obtain ⟨e, hk⟩ := dig_conv hc
  rw [e]
  unfold refStep sndStep
  rcases conv_cases hk with ⟨a, b⟩ | ⟨a, b⟩ | ⟨a, a', b, n1, n2⟩
  · rw [b, if_neg (by decide), if_neg (by simp), a, if_neg (by decide), if_neg (by simp)]
    exact ⟨rfl, .inl rfl⟩
  · rw [b, if_pos rfl, if_pos a]
    exact ⟨rfl, hl⟩
  · rw [b, if_neg (show codeB c ≠ 1 by intro e1; rw [e1] at a; simp at a), if_neg n1]
    by_cases h : codeB c = la
    · have h2 : codeB c = convD la := by rw [← h, b]
      rw [if_neg (fun q => q.2 h2), if_neg (fun q => q.2 h)]
      exact ⟨by rw [b], hk⟩
    · have h2 : codeB c ≠ convD la := fun e1 => h (conv_inj hk hl (b.trans e1))
      rw [if_pos ⟨by omega, h2⟩, if_pos ⟨n2, h⟩]
      exact ⟨by rw [b], hk⟩
def beforeB (a b : Int × Int) : Bool := decide (a.1 < b.1 ∨ a.1 = b.1 ∧ a.2 < b.2)
theorem before_order (q c : Int × Int) : decide (0 ≤ orderC q c) = !beforeB q c := by
  obtain ⟨a, b⟩ := q; obtain ⟨x, y⟩ := c
  unfold orderC beforeB orN cmp3
  dsimp only
  by_cases h1 : a < x
  · rw [if_pos h1]; simp [h1]
  · rw [if_neg h1]
    by_cases h2 : x < a
    · rw [if_pos h2]; simp; omega
    · rw [if_neg h2]
      obtain rfl : a = x := by omega
      simp [orN]
      by_cases h3 : b < y
      · simp [h3]
      · by_cases h4 : y < b
        · simp [h3, h4]
        · simp [h3, h4]
end
section
set_option maxRecDepth 100000
open Go.RowKit
def keysA (F : List F2) : List (List (Int × Int)) → Int
  | [] => 0
  | K :: Ks => if bkeyN F K = 0 then keysA F Ks else bkeyN F K
theorem keysA_cons (F : List F2) (K : List (Int × Int)) (Ks : List (List (Int × Int))) : keysA F (K :: Ks) = if bkeyN F K = 0 then keysA F Ks else bkeyN F K := rfl
/-- the first error of block keys, for a valid schema -/
def checkK (F : List F2) (Ks : List (List (Int × Int))) : Int := if 8 < Ks.length then 1 else keysA F Ks
def checkKI (F : List F2) (Ks : List (List (Int × Int))) (i : Int) : Int := if checkK F Ks = 0 then (if i < 0 ∨ (Ks.length : Int) ≤ i then 2 else 0) else checkK F Ks
theorem bkeyA_ok {F : List F2} : ∀ {K : List (Int × Int)} {p : Option (Int × Int)}, bkeyA F p K = 0 → (∀ c ∈ K, rightC F c = true) ∧ (∀ i (h : i + 1 < K.length), orderC (K[i]'(by omega)) K[i + 1] < 0) ∧ (∀ q c, p = some q → K.head? = some c → orderC q c < 0)
  | [], p, _ => ⟨fun c h => by simp at h, fun i h => by simp at h, fun q c _ h => by simp at h⟩
  | c :: K, p, h => by
    rw [bkeyA_cons] at h
    split at h
    · next h1 =>
      simp only [Bool.and_eq_true, Bool.not_eq_true'] at h1
      obtain ⟨a, b, d⟩ := bkeyA_ok h
      refine ⟨fun x hx => ?_, fun i hi => ?_, fun q x hq hx => ?_⟩
      · rcases List.mem_cons.1 hx with rfl | h2
        · exact h1.1
        · exact a x h2
      · cases i with
        | zero =>
          cases K with
          | nil => simp at hi
          | cons y K => exact d c y rfl rfl
        | succ i => exact b i (by simpa using hi)
      · subst hq
        have hx' : c = x := by simpa using hx
        subst hx'
        have h2 : decide (0 ≤ orderC q c) = false := h1.2
        have := of_decide_eq_false h2
        omega
    · cases h
theorem bkeyN_ok {F : List F2} {K : List (Int × Int)} (h : bkeyN F K = 0) : KeyOk F K := by
  unfold bkeyN at h
  split at h
  · cases h
  · next hl =>
    obtain ⟨a, b, _⟩ := bkeyA_ok h
    refine ⟨by omega, by omega, fun c hc => ?_, fun i hi => ?_⟩
    · have := a c hc
      unfold rightC at this
      simp only [Bool.and_eq_true, decide_eq_true_eq] at this
      exact ⟨this.1, this.2.1, this.2.2⟩
    · rw [List.getD, List.getD, List.getElem?_eq_getElem hi, List.getElem?_eq_getElem (by omega)]
      exact b i hi
theorem keysA_ok {F : List F2} : ∀ {Ks : List (List (Int × Int))}, keysA F Ks = 0 → ∀ K ∈ Ks, KeyOk F K
  | [], _, K, h => by simp at h
  | X :: Ks, h, K, hK => by
    rw [keysA_cons] at h
    split at h
    · next h1 =>
      rcases List.mem_cons.1 hK with rfl | h2
      · exact bkeyN_ok h1
      · exact keysA_ok h K h2
    · next h1 => exact absurd h h1
theorem checkK_ok {F : List F2} {Ks : List (List (Int × Int))} (h : checkK F Ks = 0) : KeysOk F Ks := by
  unfold checkK at h
  split at h
  · cases h
  · next hl => exact ⟨by omega, keysA_ok h⟩
set_option maxHeartbeats 4000000 in
theorem bchk_any (S T : Nat → Prop) (vf vt vn vs kv : Value) (s : SchemaL) (Ks : List (List (Int × Int))) (w : World) (h : SchemaAt w S vf vt vn vs s) (hk : KeysVec w T kv Ks) (hc : checkS s = 0) (hn : s.fields.length ≤ 1000000) (hl : Ks.length ≤ 1000000) (hK : ∀ K ∈ Ks, K.length ≤ 1000000) :
    Calls Tryz.prog 14 #[.agg #[vf, vt, vn, vs], kv] w fun e w' => e = .returned (.int .i64 (checkK s.fields Ks)) ∧ Below w.heap.size w w' := by
  obtain ⟨ak, ck, rfl⟩ := hk.slice
  have HS := Lib.hid h; have HK := Lib.hid hk; have HC := Lib.hid hc; have HKl := Lib.hid hK
  obtain ⟨E, hE⟩ : ∃ E, checkK s.fields Ks = E := ⟨_, rfl⟩
  rw [hE]
  have dz : ((0 : Int) != 0) = false := rfl
  have HE := Lib.hid hE
  clear h hk hc hK hE
  go_enter Tryz.func14, Tryz.ntmps14
  go_wp2_with fail
  refine wp_calls_world (fun W hW => ?_)
  have hb0 : Below w.heap.size w W := by rw [hW]; exact (Below.refl w.heap.size w).alloc (Nat.le_refl _) _
  have hs0 : W.heap[w.heap.size]? = some (.cells #[vf, vt, vn, vs] 43 (0, 0)) := by rw [hW]; exact blk_new rfl
  clear hW
  refine (scheck_any S _ _ _ _ s W (HS.out.below hb0)).mono ?_
  rw [HC.out]
  rintro e w1 ⟨rfl, hb⟩
  have hs1 := blk_below hb (lt_of_blk hs0) hs0
  have HB1 := Lib.hid (hb0.trans (hb.mono hb0.size)); have HS1 := Lib.hid hs1
  clear hb hb0 hs0 hs1
  by_cases h8 : 8 < Ks.length
  · have d2 : decide ((8 : Int) < (Ks.length : Int)) = true := decide_eq_true (by omega)
    have hE1 : E = 1 := by rw [← HE.out]; unfold checkK; rw [if_pos h8]
    subst hE1
    go_wp2_with fail
    go_ret
    exact ⟨rfl, HB1.out⟩
  · have d2 : decide ((8 : Int) < (Ks.length : Int)) = false := decide_eq_false (by omega)
    have HE2 := Lib.hid (show keysA s.fields Ks = E by rw [← HE.out]; unfold checkK; rw [if_neg h8])
    clear HE
    go_wp2_with fail
    go_loopw [19] (fun i wr => ∃ j : Nat, i = .int .i64 j ∧ j ≤ Ks.length ∧ Hid (keysA s.fields (Ks.drop j) = E) ∧ Below w1.heap.size w1 wr) (fun i _ => Ks.length - (intOf i).toNat)
    case atStart => exact ⟨0, rfl, by omega, HE2, Below.refl _ _⟩
    case round =>
      obtain ⟨j, rfl, hj, HT, hbw⟩ := hrel
      have HBW := Lib.hid hbw
      by_cases hlt : j < Ks.length
      · have hq : decide ((j : Int) < (Ks.length : Int)) = true := by simp; omega
        have hji : (j : Int) < (Ks.length : Int) := by omega
        have hbw0 := HB1.out.trans (hbw.mono HB1.out.size)
        obtain ⟨b, off, c, rfl, lb, c0, hv⟩ := (HK.out.below hbw0).at j hlt
        have hT := HT.out
        rw [List.drop_eq_getElem_cons hlt, keysA_cons] at hT
        have hgd : Ks.getD j [] = Ks[j] := getD_at _ _ hlt
        rw [hgd] at hv
        have hkl := HKl.out _ (List.getElem_mem hlt)
        obtain ⟨K, hKe⟩ : ∃ K, Ks[j] = K := ⟨_, rfl⟩
        rw [hKe] at hT hv hkl
        obtain ⟨ce, hce⟩ : ∃ ce, bkeyN s.fields K = ce := ⟨_, rfl⟩
        rw [hce] at hT
        obtain ⟨ca, cn, cc⟩ := c
        dsimp only at c0 hv
        have hs1 := blk_below hbw (lt_of_blk HS1.out) HS1.out
        obtain ⟨s0, s1, s2, s3⟩ := cellsS hs1
        have ls := lt_of_blk hs1
        have HV := Lib.hid hv; have HCE := Lib.hid hce; have HT2 := Lib.hid hT
        clear hbw hs1 hv hT hKe hce hgd HT
        go_wp2_with fail
        refine wp_calls_world (fun Wc hWc => ?_)
        have hbc : Below wr.heap.size wr Wc := by rw [hWc]; exact (Below.refl wr.heap.size wr).alloc (Nat.le_refl _) _
        clear hWc
        refine (bkey_any S T _ _ _ _ _ s.fields K Wc ((HS.out.below (hbw0.trans (hbc.mono hbw0.size))).1) (HV.out.below hbc) hn hkl).mono ?_
        rw [HCE.out]
        rintro e w2 ⟨rfl, hb⟩
        have HB2 := Lib.hid (HBW.out.trans ((hbc.trans (hb.mono hbc.size)).mono HBW.out.size))
        clear hb hbc
        by_cases hc0 : ce = 0
        · subst hc0
          have HT3 := Lib.hid (show keysA s.fields (Ks.drop (j + 1)) = E by rw [← HT2.out, if_pos rfl])
          go_wp2_with fail
          go_roundw
          case rel => exact ⟨j + 1, by go_num, by omega, HT3, HB2.out⟩
          case measure => simp [intOf]; omega
        · have dne : (ce != (0 : Int)) = true := by simpa using hc0
          have hE3 : E = ce := by rw [← HT2.out, if_neg hc0]
          subst hE3
          clear HT2 HE2
          go_wp2_with fail
          go_ret
          exact ⟨rfl, HB1.out.trans (HB2.out.mono HB1.out.size)⟩
      · have hq : decide ((j : Int) < (Ks.length : Int)) = false := by simp; omega
        obtain rfl : j = Ks.length := by omega
        have hE0 : E = 0 := by rw [← HT.out, List.drop_length]; rfl
        subst hE0
        go_wp2_with fail
        go_ret
        exact ⟨rfl, HB1.out.trans (hbw.mono HB1.out.size)⟩
set_option maxHeartbeats 4000000 in
theorem bcheck_any (S T : Nat → Prop) (vf vt vn vs kv : Value) (s : SchemaL) (Ks : List (List (Int × Int))) (i : Int) (w : World) (h : SchemaAt w S vf vt vn vs s) (hk : KeysVec w T kv Ks) (hc : checkS s = 0) (hn : s.fields.length ≤ 1000000) (hl : Ks.length ≤ 1000000) (hK : ∀ K ∈ Ks, K.length ≤ 1000000) :
    Calls Tryz.prog 58 #[.agg #[vf, vt, vn, vs], kv, .int .i64 i] w fun e w' => e = .returned (.int .i64 (checkKI s.fields Ks i)) ∧ Below w.heap.size w w' := by
  obtain ⟨ak, ck, rfl⟩ := hk.slice
  have HS := Lib.hid h; have HK := Lib.hid hk; have HC := Lib.hid hc; have HKl := Lib.hid hK
  obtain ⟨E, hE⟩ : ∃ E, checkKI s.fields Ks i = E := ⟨_, rfl⟩
  rw [hE]
  obtain ⟨c, hce⟩ : ∃ c, checkK s.fields Ks = c := ⟨_, rfl⟩
  unfold checkKI at hE
  rw [hce] at hE
  have dz : ((0 : Int) != 0) = false := rfl
  have HCE := Lib.hid hce; have HE := Lib.hid hE
  clear h hk hc hK hce hE
  go_enter Tryz.func58, Tryz.ntmps58
  go_wp2_with fail
  refine wp_calls_world (fun W hW => ?_)
  have hb0 : Below w.heap.size w W := by rw [hW]; exact (Below.refl w.heap.size w).alloc (Nat.le_refl _) _
  clear hW
  refine (bchk_any S T _ _ _ _ _ s Ks W (HS.out.below hb0) (HK.out.below hb0) HC.out hn hl HKl.out).mono ?_
  rw [HCE.out]
  rintro e w1 ⟨rfl, hb⟩
  have HB := Lib.hid (hb0.trans (hb.mono hb0.size))
  clear hb hb0
  by_cases hc0 : c = 0
  · subst hc0
    have hE2 := HE.out
    rw [if_pos rfl] at hE2
    by_cases hi : i < 0
    · have d0 : decide (i < 0) = true := decide_eq_true hi
      rw [if_pos (.inl hi)] at hE2
      subst hE2
      clear HE
      go_wp2_with fail
      go_ret
      exact ⟨rfl, HB.out⟩
    · have d0 : decide (i < 0) = false := decide_eq_false hi
      by_cases hj : (Ks.length : Int) ≤ i
      · have d1 : decide ((Ks.length : Int) ≤ i) = true := decide_eq_true hj
        rw [if_pos (.inr hj)] at hE2
        subst hE2
        clear HE
        go_wp2_with fail
        go_ret
        exact ⟨rfl, HB.out⟩
      · have d1 : decide ((Ks.length : Int) ≤ i) = false := decide_eq_false hj
        rw [if_neg (by omega)] at hE2
        subst hE2
        clear HE
        go_wp2_with fail
        go_ret
        exact ⟨rfl, HB.out⟩
  · have dne : (c != (0 : Int)) = true := by simpa using hc0
    have hE2 := HE.out
    rw [if_neg hc0] at hE2
    subst hE2
    clear HE
    go_wp2_with fail
    go_ret
    exact ⟨rfl, HB.out⟩
end
end Go.Proofs.YtaoebplnbcimlaaGreatDoor
