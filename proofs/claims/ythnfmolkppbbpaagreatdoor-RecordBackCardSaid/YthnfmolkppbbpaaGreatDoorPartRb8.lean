/- Parts of one proof: DeckRecB, AppendM, DeckRecs, RecSame, AwG, RecAwake, RecordOrderWalk, HexPlain, Shelf3, NumPlain, EbVars, FilePlain, HexNum. -/
import Derived.Test.YthnfmolkppbbpaaGreatDoorPartRb7
import Derived.Deep.OwnRows
import Derived.Lib.Atoi
import Derived.Lib.AtoiTie
import Derived.Lib.LaidTab
import Derived.Lib.AtoiErrMem
import Derived.WalkArith
import Derived.Laws.IdiomStrings
set_option linter.unusedSimpArgs false
set_option linter.unusedVariables false
namespace Go.Proofs.YthnfmolkppbbpaaGreatDoor
section
set_option maxRecDepth 100000
open Go.RowKit Cal
attribute [local go_sem] toList_mk mk_size str_append
theorem makeA_short (s : SchemaL) (raws : List (List UInt8)) : ∀ i C, (∀ x ∈ C, x.length ≤ 64) → ∀ x ∈ (makeA s i C raws).1, x.length ≤ 64 := by
  induction raws with
  | nil => intro i C h; simpa [makeA] using h
  | cons y l ih =>
    intro i C h
    unfold makeA
    split
    · refine ih _ _ fun x hx => ?_
      rcases List.mem_append.1 hx with h1 | h1
      · exact h x h1
      · simp at h1; subst h1; exact (valueN_form s i y).1
    · intro x hx; simp at hx
theorem Vec.far {α : Type} {w : World} {S : Nat → Prop} {k : Nat} {enc : α → List Value} {v : Value} {L : List α} (h : Vec w S k enc v L) {a : Addr} {u : Value} (hn : ∀ b, S b → b ≠ a.block) : Vec (w.setCell a u) S k enc v L :=
  h.move (by simp [World.setCell]) fun b _ hs => ⟨heap_setCell_other _ _ _ _ (hn b hs), hs⟩
theorem oneS : ∀ x : List UInt8, ∀ u ∈ encS x, u.oneCell' = true := by intro x u hu; simp [encS] at hu; subst hu; rfl
theorem rec_made {s : SchemaL} {id ver : Int} {raws : List (List UInt8)} {r : RecL} (h : makeN s id ver raws = (r, 0)) : r.id = id ∧ checkN s r = 0 ∧ ∀ x ∈ r.vals, x.length ≤ 64 := by
  obtain ⟨h1, h2, h3, h4, h5, _, h7, h8, _⟩ := makeN_ok h
  refine ⟨h2, checkN_of h1 (by rw [h2, h3]; exact h4) h5 h7, ?_⟩
  rw [h8]
  exact makeA_short s raws 0 [] (by simp)
theorem rec_none {s : SchemaL} {id : Int} (h : checkS s = 0) (h1 : 1 ≤ id) (h2 : id ≤ 1048576) : checkN s ⟨id, 1, List.replicate s.fields.length []⟩ = 0 :=
  checkN_of h (by simp [numberedB, h1, h2]) (by simp) (none_norm h)
theorem made_strings (m : Nat) : madeCells #[.string ⟨#[]⟩] m = ((List.replicate m ([] : List UInt8)).flatMap encS).toArray := by
  apply Array.ext'
  have : ∀ k, (List.replicate k ([] : List UInt8)).flatMap encS = List.replicate k (.string ⟨#[]⟩) := by
    intro k; induction k with
    | zero => rfl
    | succ k ih => rw [List.replicate_succ, List.flatMap_cons, ih]; rfl
  rw [this]
  unfold madeCells
  rw [Array.toList_map, Array.toList_range]
  refine List.ext_getElem (by simp) fun i h1 h2 => ?_
  simp [Nat.mod_one]
def RecordPost (D : Nat) (s : SchemaL) (id : Int) (w : World) (e : Ending) (w' : World) : Prop := ∃ v r, e = .returned v ∧ RecVal w' (fun b => w.heap.size ≤ b) v r ∧ r.id = id ∧ checkN s r = 0 ∧ (∀ x ∈ r.vals, x.length ≤ 64) ∧ Moved D w w'
set_option maxHeartbeats 8000000 in
theorem record_deal (D : Nat) (S : Nat → Prop) (vf vt vn vs : Value) (s : SchemaL) (id : Int) (w : World) (h : DeckAt w D) (hs : SchemaAt w S vf vt vn vs s) (hS : ∀ b, S b → b ≠ D) (hd : SchemaD s) (h1 : 1 ≤ id) (h2 : id ≤ 1048576) :
    Calls Tryz.prog 17 #[.pointer (some ⟨D, 0, none⟩), .agg #[vf, vt, vn, vs], .int .i64 id] w (RecordPost D s id w) := by
  have zD := h.lt
  have M0 := Lib.hid (Moved.start h); clear h
  obtain ⟨af, cf, rfl⟩ := hs.1.slice
  have h5 := hd.fields.len
  have HS := Lib.hid hs; have HSD := Lib.hid hd; have HSne := Lib.hid hS
  clear hs hd hS
  go_enter Tryz.func17, Tryz.ntmps17
  go_wp2_with fail
  refine wp_world (fun W hW => ?_)
  have hm : Moved D w W := by rw [hW]; exact (M0.out.alloc _).alloc _
  have hb0 : Below w.heap.size w W := by rw [hW]; exact ((Below.refl w.heap.size w).alloc (Nat.le_refl _) _).alloc (by simp) _
  have hs0 : W.heap[w.heap.size]? = some (.cells #[.slice af s.fields.length cf, vt, vn, vs] 33 (0, 0)) := by rw [hW]; exact blk_old (blk_new rfl)
  have hz0 : W.heap[w.heap.size + 1]? = some (.cells #[.int .i64 0, .int .i64 0, .slice none 0 0] 44 (0, 0)) := by rw [hW]; exact blk_new (by simp)
  have hzW : W.heap.size = w.heap.size + 2 := by rw [hW]; simp
  clear hW
  have HM := Lib.hid hm; have HS0 := Lib.hid hs0; have HZ0 := Lib.hid hz0; have HSW := Lib.hid (HS.out.below hb0); have HZW := Lib.hid hzW
  clear hm hs0 hz0 hb0 hzW
  obtain ⟨n, hn⟩ : ∃ n, s.fields.length = n := ⟨_, rfl⟩
  rw [hn] at HS0 HSW h5 ⊢
  have HN := Lib.hid hn; clear hn
  go_loopw [7, 8] (fun v i wr => ∃ (j : Nat) (L : List (List UInt8)), i = .int .i64 j ∧ j ≤ n ∧ L.length = j ∧ (∀ x ∈ L, x.length ≤ 64) ∧ OwnM D 9 1 encS W v L wr) (fun _ i _ => n - (intOf i).toNat)
  case atStart => exact ⟨0, [], rfl, by omega, rfl, by simp, ⟨by simp, .inl ⟨rfl, rfl⟩⟩, Moved.start HM.out.deck⟩
  case round =>
    obtain ⟨j, L, rfl, hj, hL, hsh, ho⟩ := hrel
    have HO := Lib.hid ho; have HL := Lib.hid hL; have HSh := Lib.hid hsh
    have hsr := ho.2.blk (k := w.heap.size) (by omega) HS0.out
    have HSR := Lib.hid hsr
    obtain ⟨s0, s1, s2, s3⟩ := cellsS hsr
    have hzs := lt_of_blk hsr
    clear ho hL hsh hsr
    by_cases hlt : j < n
    · have hq : decide ((j : Int) < n) = true := by simp; omega
      have hjs : j < s.fields.length := by rw [HN.out]; exact hlt
      obtain ⟨b, off, eaf, hSb, hb, hc⟩ := fields_cell HSW.out.1 (by omega)
      cases eaf
      have hbD := HSne.out b hSb
      have kc := (World.cell?_of_block (w := W) (a := ⟨b, off + j * 2 + 1, none⟩) (HO.out.2.grown.block b hb (by simp; omega))).trans (hc j hjs)
      obtain ⟨kf, hkf⟩ : ∃ kf, (s.fields.getD j default).2 = kf := ⟨_, rfl⟩
      rw [hkf] at kc
      have hjn : (j : Int) < (n : Int) := by omega
      clear hc hkf hjs hSb
      go_wp2_with fail
      refine (raw_deal D kf _ HO.out.2.deck).mono ?_
      rintro e w1 ⟨x, rfl, hx, mv⟩
      have HX := Lib.hid hx
      have HO1 := Lib.hid (HO.out.moved (mv.alloc (.cells #[strV x] 9)))
      have HR1 := Lib.hid (show Reads (w1.alloc (.cells #[strV x] 9)) 1 (.slice (some ⟨w1.heap.size, 0, none⟩) 1 1) [x].length ([x].flatMap encS) from reads_block (t := 9) (fr := (0, 0)) (blk_new rfl) rfl)
      have hsh2 : ∀ y ∈ L ++ [x], y.length ≤ 64 := by
        intro y hy
        rcases List.mem_append.1 hy with h | h
        · exact HSh.out y h
        · simp at h; subst h; exact hx
      have HSh2 := Lib.hid hsh2
      have hcn : L.length + [x].length ≤ 1000000000 := by rw [HL.out]; simp only [List.length_cons, List.length_nil]; omega
      clear hx mv hsh2
      go_wp2_with (at_builtin; refine wpList_append_m rfl (.tmp 18) (.tmp 27) 28 rfl D 9 (.string ⟨#[]⟩) 1 16 encS (fun _ => rfl) oneS Tryz.underlying28 infoS rfl (by decide) (by decide) (wA := W) (v := u7) (A := L) (B := [x]) rfl HO1.out rfl HR1.out hcn ?_; intro v4 w4 ho4 hk4)
      go_roundw
      case rel => exact ⟨j + 1, L ++ [x], by go_num, by omega, by rw [List.length_append, HL.out]; rfl, HSh2.out, ho4⟩
      case measure => simp [intOf]; omega
    · have hq : decide ((j : Int) < n) = false := by simp; omega
      obtain rfl : j = n := by omega
      have HV := Lib.hid (Vec.owns (k := 1) (enc := encS) (S := fun b => W.heap.size ≤ b) (fun _ => rfl) HO.out.1 (fun b hb _ => hb))
      obtain ⟨aL, cL, hvL⟩ := own_slice HO.out.1
      subst hvL
      have HSr := Lib.hid (HSW.out.moved HSne.out HO.out.2)
      have hneD : w.heap.size ≠ D := by omega
      have mD : Moved D wr wr.drew := (Moved.start HO.out.2.deck).drew
      go_wp2_with fail
      go_cut [9, 10] (fun s9 s10 wx => ∃ (rb : Nat) (er y : Int) (sv : Value) (r : RecL), s9 = .pointer (some ⟨rb, 0, none⟩) ∧ s10 = .int .i64 er ∧ wx.heap[rb]? = some (.cells #[.int .i64 r.id, .int .i64 r.ver, sv] 44 (0, 0)) ∧ Vec wx (fun b => w.heap.size + 2 ≤ b) 1 encS sv r.vals ∧ Hid (makeN s id (1 + y) L = (r, er)) ∧ 0 ≤ y ∧ y < 3 ∧ Moved D wr wx ∧ wr.heap.size ≤ rb)
      case first =>
        refine wp_region_noPanic ?_
        refine wp_region_k (by kernel_rfl) (fun w' => w'.cell? ⟨w.heap.size, 0, none⟩ = some (.slice af j cf) ∧ w'.cell? ⟨w.heap.size, 1, none⟩ = some vt ∧ w'.cell? ⟨w.heap.size, 2, none⟩ = some vn ∧ w'.cell? ⟨w.heap.size, 3, none⟩ = some vs) 12 (⟨s0, s1, s2, s3⟩) (fun hHeld => ?_)
        refine tK 0 (h := ?_)
        try simp only [List.getElem_toArray, List.getElem_cons_zero, List.getElem_cons_succ, Act.put, List.setIfInBounds_toArray, List.set_cons_zero, List.set_cons_succ]
        refine tK 1 (h := ?_)
        try simp only [List.getElem_toArray, List.getElem_cons_zero, List.getElem_cons_succ, Act.put, List.setIfInBounds_toArray, List.set_cons_zero, List.set_cons_succ]
        refine tK 2 (h := ?_)
        try simp only [List.getElem_toArray, List.getElem_cons_zero, List.getElem_cons_succ, Act.put, List.setIfInBounds_toArray, List.set_cons_zero, List.set_cons_succ]
        refine tK 5 (h := ?_)
        try simp only [List.getElem_toArray, List.getElem_cons_zero, List.getElem_cons_succ, Act.put, List.setIfInBounds_toArray, List.set_cons_zero, List.set_cons_succ]
        refine wpAnyK_ready (rs := [3, 10]) (by kernel_rfl) (by simp) ?_
        refine AllReadyK.cons rfl (fun K hK => ?_) (AllReadyK.cons rfl (fun K hK => ?_) AllReadyK.nil)
        focus
          go_simp
          refine (next_any D _ 3 mD.deck (by omega) (by omega)).mono ?_
          rintro e W1 ⟨y, rfl, y0, y1, mv⟩
          have m1 := mD.trans mv
          clear mv
          have hwy : IntKind.i64.wrap (1 + y) = 1 + y := by rw [IntKind.wrap_i64]; omega
          refine shutK hK (⟨(cellsS (m1.blk (k := w.heap.size) hneD HSR.out)).1, (cellsS (m1.blk (k := w.heap.size) hneD HSR.out)).2.1, (cellsS (m1.blk (k := w.heap.size) hneD HSR.out)).2.2.1, (cellsS (m1.blk (k := w.heap.size) hneD HSR.out)).2.2.2⟩) (fun hHeld => ?_)
          clear hK K
          try simp only [List.getElem_toArray, List.getElem_cons_zero, List.getElem_cons_succ, Act.put, List.setIfInBounds_toArray, List.set_cons_zero, List.set_cons_succ]
          refine tK 4 (h := ?_)
          try simp only [List.getElem_toArray, List.getElem_cons_zero, List.getElem_cons_succ, Act.put, List.setIfInBounds_toArray, List.set_cons_zero, List.set_cons_succ]
          refine wpAnyK_ready (rs := [6, 10]) (by kernel_rfl) (by simp) ?_
          refine AllReadyK.cons rfl (fun K hK => ?_) (AllReadyK.cons rfl (fun K hK => ?_) AllReadyK.nil)
          focus
            go_simp
            have hnum : numberedB id (1 + y) = true := by simp [numberedB]; omega
            obtain ⟨⟨r, er⟩, hR⟩ : ∃ R, makeN s id (1 + y) L = R := ⟨_, rfl⟩
            have hmk := rmake_yes S _ (.slice af j cf) vt vn vs s id (1 + y) L (.slice aL L.length cL) _ (HSr.out.moved HSne.out m1) (HV.out.move (S' := fun b => W.heap.size ≤ b) m1.size fun b hb hs => ⟨m1.grown.block b hb (by have hs' : W.heap.size ≤ b := hs; have h3 := HZW.out; have h4 := zD; simp; omega), hs⟩) HSD.out.check (HL.out.trans HN.out.symm) hnum (fun x hx => by have := HSh.out x hx; omega)
            rw [hR] at hmk
            refine hmk.mono ?_
            rintro e W2 ⟨_, rfl, ⟨sv, rfl, hvv⟩, hb⟩
            have m2 := m1.below hb
            have hvv2 := hvv.move (w' := W2) (S' := fun b => w.heap.size + 2 ≤ b) (Nat.le_refl _) fun b hb' hs => ⟨rfl, by have h1 := m1.size; have h2 := HO.out.2.size; have h3 := HZW.out; have hs' := hs; omega⟩
            obtain ⟨asv, csv, esv⟩ := hvv2.slice; subst esv
            have HRR := Lib.hid hR
            clear hb hvv hmk hR
            refine shutK hK (⟨(cellsS (m2.blk (k := w.heap.size) hneD HSR.out)).1, (cellsS (m2.blk (k := w.heap.size) hneD HSR.out)).2.1, (cellsS (m2.blk (k := w.heap.size) hneD HSR.out)).2.2.1, (cellsS (m2.blk (k := w.heap.size) hneD HSR.out)).2.2.2⟩) (fun hHeld => ?_)
            clear hK K
            try simp only [List.getElem_toArray, List.getElem_cons_zero, List.getElem_cons_succ, Act.put, List.setIfInBounds_toArray, List.set_cons_zero, List.set_cons_succ]
            refine tK 7 (h := ?_)
            try simp only [List.getElem_toArray, List.getElem_cons_zero, List.getElem_cons_succ, Act.put, List.setIfInBounds_toArray, List.set_cons_zero, List.set_cons_succ]
            refine tK 8 (h := ?_)
            try simp only [List.getElem_toArray, List.getElem_cons_zero, List.getElem_cons_succ, Act.put, List.setIfInBounds_toArray, List.set_cons_zero, List.set_cons_succ]
            refine tK 9 (h := ?_)
            try simp only [List.getElem_toArray, List.getElem_cons_zero, List.getElem_cons_succ, Act.put, List.setIfInBounds_toArray, List.set_cons_zero, List.set_cons_succ]
            refine wpAnyK_ready (rs := [10]) (by kernel_rfl) (by simp) ?_
            refine AllReadyK.cons rfl (fun K hK => ?_) AllReadyK.nil
            go_simp
            refine shutK hK (⟨(cellsS ((m2.alloc _).blk (k := w.heap.size) hneD HSR.out)).1, (cellsS ((m2.alloc _).blk (k := w.heap.size) hneD HSR.out)).2.1, (cellsS ((m2.alloc _).blk (k := w.heap.size) hneD HSR.out)).2.2.1, (cellsS ((m2.alloc _).blk (k := w.heap.size) hneD HSR.out)).2.2.2⟩) (fun hHeld => ?_)
            clear hK K
            try simp only [List.getElem_toArray, List.getElem_cons_zero, List.getElem_cons_succ, Act.put, List.setIfInBounds_toArray, List.set_cons_zero, List.set_cons_succ]
            refine wpk_name (fun W3 hW3 => ?_)
            have m3 : Moved D wr W3 := by rw [hW3]; exact m2.alloc (.cells #[.int .i64 0, .int .i64 0, .slice none 0 0] 44)
            have gb : W3.heap[W2.heap.size]? = some (.cells #[.int .i64 0, .int .i64 0, .slice none 0 0] 44 (0, 0)) := by rw [hW3]; exact blk_new rfl
            have hrb : wr.heap.size ≤ W2.heap.size := m2.size
            have HX3 : ∀ b, b < W2.heap.size → W3.heap[b]? = W2.heap[b]? := by rw [hW3]; exact fun b hb => heap_alloc_old _ _ hb
            have hnrb : w.heap.size ≠ W2.heap.size := by have := hzs; omega
            clear hW3 hHeld
            have hHeld : W3.cell? ⟨w.heap.size, 0, none⟩ = some (.slice af j cf) ∧ W3.cell? ⟨w.heap.size, 1, none⟩ = some vt ∧ W3.cell? ⟨w.heap.size, 2, none⟩ = some vn ∧ W3.cell? ⟨w.heap.size, 3, none⟩ = some vs := ⟨(cellsS (m3.blk (k := w.heap.size) hneD HSR.out)).1, (cellsS (m3.blk (k := w.heap.size) hneD HSR.out)).2.1, (cellsS (m3.blk (k := w.heap.size) hneD HSR.out)).2.2.1, (cellsS (m3.blk (k := w.heap.size) hneD HSR.out)).2.2.2⟩
            have hvv3 := hvv2.move (w' := W3) (S' := fun b => w.heap.size + 2 ≤ b ∧ b ≠ W2.heap.size) (by have h9 := lt_of_blk gb; omega) fun b hb' hs => ⟨HX3 b hb', hs, by omega⟩
          rotate_left 1
          focus
            go_simp
            refine shutK hK (⟨(cellsS ((m1.alloc _).blk (k := w.heap.size) hneD HSR.out)).1, (cellsS ((m1.alloc _).blk (k := w.heap.size) hneD HSR.out)).2.1, (cellsS ((m1.alloc _).blk (k := w.heap.size) hneD HSR.out)).2.2.1, (cellsS ((m1.alloc _).blk (k := w.heap.size) hneD HSR.out)).2.2.2⟩) (fun hHeld => ?_)
            clear hK K
            try simp only [List.getElem_toArray, List.getElem_cons_zero, List.getElem_cons_succ, Act.put, List.setIfInBounds_toArray, List.set_cons_zero, List.set_cons_succ]
            refine wpk_name (fun W2 hW2 => ?_)
            have m2 : Moved D wr W2 := by rw [hW2]; exact m1.alloc (.cells #[.int .i64 0, .int .i64 0, .slice none 0 0] 44)
            have gb : W2.heap[W1.heap.size]? = some (.cells #[.int .i64 0, .int .i64 0, .slice none 0 0] 44 (0, 0)) := by rw [hW2]; exact blk_new rfl
            have hrb : wr.heap.size ≤ W1.heap.size := m1.size
            have HX2 : ∀ b, b < W1.heap.size → W2.heap[b]? = W1.heap[b]? := by rw [hW2]; exact fun b hb => heap_alloc_old _ _ hb
            have hnrb : w.heap.size ≠ W1.heap.size := by have := hzs; omega
            clear hW2 hHeld
            have hHeld : W2.cell? ⟨w.heap.size, 0, none⟩ = some (.slice af j cf) ∧ W2.cell? ⟨w.heap.size, 1, none⟩ = some vt ∧ W2.cell? ⟨w.heap.size, 2, none⟩ = some vn ∧ W2.cell? ⟨w.heap.size, 3, none⟩ = some vs := ⟨(cellsS (m2.blk (k := w.heap.size) hneD HSR.out)).1, (cellsS (m2.blk (k := w.heap.size) hneD HSR.out)).2.1, (cellsS (m2.blk (k := w.heap.size) hneD HSR.out)).2.2.1, (cellsS (m2.blk (k := w.heap.size) hneD HSR.out)).2.2.2⟩
            refine wpAnyK_ready (rs := [6]) (by kernel_rfl) (by simp) ?_
            refine AllReadyK.cons rfl (fun K hK => ?_) AllReadyK.nil
            go_simp
            have hlt0 : W1.heap.size < _ := lt_of_blk gb
            have hnum : numberedB id (1 + y) = true := by simp [numberedB]; omega
            obtain ⟨⟨r, er⟩, hR⟩ : ∃ R, makeN s id (1 + y) L = R := ⟨_, rfl⟩
            have hmk := rmake_yes S _ (.slice af j cf) vt vn vs s id (1 + y) L (.slice aL L.length cL) _ (HSr.out.moved HSne.out m2) (HV.out.move (S' := fun b => W.heap.size ≤ b) m2.size fun b hb hs => ⟨m2.grown.block b hb (by have hs' : W.heap.size ≤ b := hs; have h3 := HZW.out; have h4 := zD; simp; omega), hs⟩) HSD.out.check (HL.out.trans HN.out.symm) hnum (fun x hx => by have := HSh.out x hx; omega)
            rw [hR] at hmk
            refine hmk.mono ?_
            rintro e W3 ⟨_, rfl, ⟨sv, rfl, hvv⟩, hb⟩
            have m3 := m2.below hb
            have gb := blk_below hb (lt_of_blk gb) gb
            have hvv2 := hvv.move (w' := W3) (S' := fun b => w.heap.size + 2 ≤ b ∧ b ≠ W1.heap.size) (Nat.le_refl _) fun b hb' hs => ⟨rfl, by have h1 := m2.size; have h2 := HO.out.2.size; have h3 := HZW.out; have hs' := hs; exact ⟨by omega, by omega⟩⟩
            obtain ⟨asv, csv, esv⟩ := hvv2.slice; subst esv
            have HRR := Lib.hid hR
            clear hb hvv hmk hR
            refine shutK hK (⟨(cellsS (m3.blk (k := w.heap.size) hneD HSR.out)).1, (cellsS (m3.blk (k := w.heap.size) hneD HSR.out)).2.1, (cellsS (m3.blk (k := w.heap.size) hneD HSR.out)).2.2.1, (cellsS (m3.blk (k := w.heap.size) hneD HSR.out)).2.2.2⟩) (fun hHeld => ?_)
            clear hK K
            try simp only [List.getElem_toArray, List.getElem_cons_zero, List.getElem_cons_succ, Act.put, List.setIfInBounds_toArray, List.set_cons_zero, List.set_cons_succ]
            refine tK 7 (h := ?_)
            try simp only [List.getElem_toArray, List.getElem_cons_zero, List.getElem_cons_succ, Act.put, List.setIfInBounds_toArray, List.set_cons_zero, List.set_cons_succ]
            refine tK 8 (h := ?_)
            try simp only [List.getElem_toArray, List.getElem_cons_zero, List.getElem_cons_succ, Act.put, List.setIfInBounds_toArray, List.set_cons_zero, List.set_cons_succ]
            refine tK 9 (h := ?_)
            try simp only [List.getElem_toArray, List.getElem_cons_zero, List.getElem_cons_succ, Act.put, List.setIfInBounds_toArray, List.set_cons_zero, List.set_cons_succ]
            have hvv3 := hvv2
        rotate_left 2
        focus
          go_simp
          refine shutK hK (⟨(cellsS ((mD.alloc _).blk (k := w.heap.size) hneD HSR.out)).1, (cellsS ((mD.alloc _).blk (k := w.heap.size) hneD HSR.out)).2.1, (cellsS ((mD.alloc _).blk (k := w.heap.size) hneD HSR.out)).2.2.1, (cellsS ((mD.alloc _).blk (k := w.heap.size) hneD HSR.out)).2.2.2⟩) (fun hHeld => ?_)
          clear hK K
          try simp only [List.getElem_toArray, List.getElem_cons_zero, List.getElem_cons_succ, Act.put, List.setIfInBounds_toArray, List.set_cons_zero, List.set_cons_succ]
          refine wpk_name (fun W1 hW1 => ?_)
          have m1 : Moved D wr W1 := by rw [hW1]; exact mD.alloc (.cells #[.int .i64 0, .int .i64 0, .slice none 0 0] 44)
          have gb : W1.heap[wr.heap.size]? = some (.cells #[.int .i64 0, .int .i64 0, .slice none 0 0] 44 (0, 0)) := by rw [hW1]; exact blk_new rfl
          have hrb : wr.heap.size ≤ wr.heap.size := mD.size
          have HX1 : ∀ b, b < wr.heap.size → W1.heap[b]? = wr.heap[b]? := by rw [hW1]; exact fun b hb => heap_alloc_old _ _ hb
          have hnrb : w.heap.size ≠ wr.heap.size := by have := hzs; omega
          clear hW1 hHeld
          have hHeld : W1.cell? ⟨w.heap.size, 0, none⟩ = some (.slice af j cf) ∧ W1.cell? ⟨w.heap.size, 1, none⟩ = some vt ∧ W1.cell? ⟨w.heap.size, 2, none⟩ = some vn ∧ W1.cell? ⟨w.heap.size, 3, none⟩ = some vs := ⟨(cellsS (m1.blk (k := w.heap.size) hneD HSR.out)).1, (cellsS (m1.blk (k := w.heap.size) hneD HSR.out)).2.1, (cellsS (m1.blk (k := w.heap.size) hneD HSR.out)).2.2.1, (cellsS (m1.blk (k := w.heap.size) hneD HSR.out)).2.2.2⟩
          refine wpAnyK_ready (rs := [3]) (by kernel_rfl) (by simp) ?_
          refine AllReadyK.cons rfl (fun K hK => ?_) AllReadyK.nil
          go_simp
          refine (next_any D _ 3 m1.deck (by omega) (by omega)).mono ?_
          rintro e W2 ⟨y, rfl, y0, y1, mv⟩
          have m2 := m1.trans mv
          have gb := mv.blk (by have := zD; omega) gb
          clear mv
          have hwy : IntKind.i64.wrap (1 + y) = 1 + y := by rw [IntKind.wrap_i64]; omega
          refine shutK hK (⟨(cellsS (m2.blk (k := w.heap.size) hneD HSR.out)).1, (cellsS (m2.blk (k := w.heap.size) hneD HSR.out)).2.1, (cellsS (m2.blk (k := w.heap.size) hneD HSR.out)).2.2.1, (cellsS (m2.blk (k := w.heap.size) hneD HSR.out)).2.2.2⟩) (fun hHeld => ?_)
          clear hK K
          try simp only [List.getElem_toArray, List.getElem_cons_zero, List.getElem_cons_succ, Act.put, List.setIfInBounds_toArray, List.set_cons_zero, List.set_cons_succ]
          refine tK 4 (h := ?_)
          try simp only [List.getElem_toArray, List.getElem_cons_zero, List.getElem_cons_succ, Act.put, List.setIfInBounds_toArray, List.set_cons_zero, List.set_cons_succ]
          refine wpAnyK_ready (rs := [6]) (by kernel_rfl) (by simp) ?_
          refine AllReadyK.cons rfl (fun K hK => ?_) AllReadyK.nil
          go_simp
          have hlt0 : wr.heap.size < _ := lt_of_blk gb
          have hnum : numberedB id (1 + y) = true := by simp [numberedB]; omega
          obtain ⟨⟨r, er⟩, hR⟩ : ∃ R, makeN s id (1 + y) L = R := ⟨_, rfl⟩
          have hmk := rmake_yes S _ (.slice af j cf) vt vn vs s id (1 + y) L (.slice aL L.length cL) _ (HSr.out.moved HSne.out m2) (HV.out.move (S' := fun b => W.heap.size ≤ b) m2.size fun b hb hs => ⟨m2.grown.block b hb (by have hs' : W.heap.size ≤ b := hs; have h3 := HZW.out; have h4 := zD; simp; omega), hs⟩) HSD.out.check (HL.out.trans HN.out.symm) hnum (fun x hx => by have := HSh.out x hx; omega)
          rw [hR] at hmk
          refine hmk.mono ?_
          rintro e W3 ⟨_, rfl, ⟨sv, rfl, hvv⟩, hb⟩
          have m3 := m2.below hb
          have gb := blk_below hb (lt_of_blk gb) gb
          have hvv2 := hvv.move (w' := W3) (S' := fun b => w.heap.size + 2 ≤ b ∧ b ≠ wr.heap.size) (Nat.le_refl _) fun b hb' hs => ⟨rfl, by have h1 := m2.size; have h2 := HO.out.2.size; have h3 := HZW.out; have hs' := hs; exact ⟨by omega, by omega⟩⟩
          obtain ⟨asv, csv, esv⟩ := hvv2.slice; subst esv
          have HRR := Lib.hid hR
          clear hb hvv hmk hR
          refine shutK hK (⟨(cellsS (m3.blk (k := w.heap.size) hneD HSR.out)).1, (cellsS (m3.blk (k := w.heap.size) hneD HSR.out)).2.1, (cellsS (m3.blk (k := w.heap.size) hneD HSR.out)).2.2.1, (cellsS (m3.blk (k := w.heap.size) hneD HSR.out)).2.2.2⟩) (fun hHeld => ?_)
          clear hK K
          try simp only [List.getElem_toArray, List.getElem_cons_zero, List.getElem_cons_succ, Act.put, List.setIfInBounds_toArray, List.set_cons_zero, List.set_cons_succ]
          refine tK 7 (h := ?_)
          try simp only [List.getElem_toArray, List.getElem_cons_zero, List.getElem_cons_succ, Act.put, List.setIfInBounds_toArray, List.set_cons_zero, List.set_cons_succ]
          refine tK 8 (h := ?_)
          try simp only [List.getElem_toArray, List.getElem_cons_zero, List.getElem_cons_succ, Act.put, List.setIfInBounds_toArray, List.set_cons_zero, List.set_cons_succ]
          refine tK 9 (h := ?_)
          try simp only [List.getElem_toArray, List.getElem_cons_zero, List.getElem_cons_succ, Act.put, List.setIfInBounds_toArray, List.set_cons_zero, List.set_cons_succ]
          have hvv3 := hvv2
        all_goals
          obtain ⟨c0, c1, c2⟩ := cells3 gb; have f0 := frozen_of_row _ _ 0 _ _ gb; have f1 := frozen_of_row _ _ 1 _ _ gb; have f2 := frozen_of_row _ _ 2 _ _ gb; have za := lt_of_blk gb
          have hsx := blk_far (a := ⟨_, 2, none⟩) (v := .slice asv r.vals.length csv) (blk_far (a := ⟨_, 1, none⟩) (v := .int .i64 r.ver) (blk_far (a := ⟨_, 0, none⟩) (v := .int .i64 r.id) (m3.blk (k := w.heap.size) hneD HSR.out) hnrb) hnrb) hnrb
          refine wpAnyK_ready (rs := [11]) (by kernel_rfl) (by simp) ?_
          refine AllReadyK.cons rfl (fun K hK => ?_) AllReadyK.nil
          go_simp
          refine shutK hK (⟨(cellsS hsx).1, (cellsS hsx).2.1, (cellsS hsx).2.2.1, (cellsS hsx).2.2.2⟩) (fun hHeld => ?_)
          clear hK K
          try simp only [List.getElem_toArray, List.getElem_cons_zero, List.getElem_cons_succ, Act.put, List.setIfInBounds_toArray, List.set_cons_zero, List.set_cons_succ]
          refine wpAnyK_ready (rs := [12]) (by kernel_rfl) (by simp) ?_
          refine AllReadyK.cons rfl (fun K hK => ?_) AllReadyK.nil
          go_simp
          refine shutK_off hK (by decide) ?_
          clear hK K
          try simp only [List.getElem_toArray, List.getElem_cons_zero, List.getElem_cons_succ, Act.put, List.setIfInBounds_toArray, List.set_cons_zero, List.set_cons_succ]
          refine wpAnyK_done (by kernel_rfl) ?_ _
          refine NoPanic.normal ?_
          go_wp2_with fail
          go_meet
          exact ⟨_, er, y, _, r, rfl, rfl, blk_set (blk_set (blk_set gb)), (((hvv3.far (fun b hb => hb.2)).far (fun b hb => hb.2)).far (fun b hb => hb.2)).weaken (fun b hb => hb.1), HRR, y0, y1, ((m3.set hrb _).set hrb _).set hrb _, hrb⟩
      case rest =>
        obtain ⟨rb, er, y, sv, r, rfl, rfl, grb, hvr, HRR, y0, y1, mw, hrb⟩ := hcut
        obtain ⟨asv, csv, rfl⟩ := hvr.slice
        have hsz := mw.blk (k := w.heap.size) hneD HSR.out
        have hres := mw.blk (k := w.heap.size + 1) (by omega) (HO.out.2.blk (k := w.heap.size + 1) (by omega) HZ0.out)
        have hn1 : rb ≠ w.heap.size + 1 := by have h1 := HO.out.2.size; have h2 := HZW.out; omega
        have lr := lt_of_blk hres; have lb := lt_of_blk grb; have lz := lt_of_blk hsz
        have HRES := Lib.hid hres; have HMW := Lib.hid (HM.out.trans (HO.out.2.trans mw)); have HVR := Lib.hid hvr; have HGRB := Lib.hid grb
        obtain ⟨z0, z1, z2⟩ := cells3 hres; have f0 := frozen_of_row _ _ 0 _ _ hres; have f1 := frozen_of_row _ _ 1 _ _ hres; have f2 := frozen_of_row _ _ 2 _ _ hres
        obtain ⟨c0, c1, c2⟩ := cells3 grb; have g0 := frozen_of_row _ _ 0 _ _ grb; have g1 := frozen_of_row _ _ 1 _ _ grb; have g2 := frozen_of_row _ _ 2 _ _ grb
        clear s0 s1 s2 s3
        obtain ⟨s0, s1, s2, s3⟩ := cellsS hsz
        clear hsz hres grb hvr mw mD
        by_cases he : er = 0
        · subst he
          have d0 : ((0 : Int) != 0) = false := rfl
          have HMd := Lib.hid (rec_made HRR.out)
          clear g0 g1 g2
          go_wp2_with fail
          exact bodyPost_row1 rfl rfl (blk_set (i := 2) (blk_set (i := 1) (blk_set (i := 0) HRES.out))) Tryz.underlying44 rfl (by kernel_rfl)
            ⟨_, r, rfl, ⟨_, rfl, (((HVR.out.far (fun b hb => by show b ≠ w.heap.size + 1; have hb' : w.heap.size + 2 ≤ b := hb; omega)).far (fun b hb => by show b ≠ w.heap.size + 1; have hb' : w.heap.size + 2 ≤ b := hb; omega)).far (fun b hb => by show b ≠ w.heap.size + 1; have hb' : w.heap.size + 2 ≤ b := hb; omega)).weaken (fun b hb => by have hb' : w.heap.size + 2 ≤ b := hb; show w.heap.size ≤ b; omega)⟩, HMd.out.1, HMd.out.2.1, HMd.out.2.2,
              ((HMW.out.set (a := ⟨w.heap.size + 1, 0, none⟩) (Nat.le_succ _) _).set (a := ⟨w.heap.size + 1, 1, none⟩) (Nat.le_succ _) _).set (a := ⟨w.heap.size + 1, 2, none⟩) (Nat.le_succ _) _⟩
        · have d0 : (er != (0 : Int)) = true := by simpa using he
          have hmk := run_make_row' (P := Tryz.prog) 28 9 (.string ⟨#[]⟩) 16 Tryz.underlying28 infoS rfl .i64 .i64 j (by omega) (by omega)
          rw [made_strings] at hmk
          clear HVR HRR he
          go_upto_region 9 with fail
          refine wp_world (fun W9 hW9 => ?_)
          have hrw : w.heap.size ≤ rb := by have h1 := HO.out.2.size; have h2 := HZW.out; omega
          have hgb : W9.heap[rb]? = some (.cells #[.int .i64 id, .int .i64 1, .slice (some ⟨wc.heap.size, 0, none⟩) j j] 44 (0, 0)) := by rw [hW9]; exact blk_old (blk_set (i := 2) (blk_set (i := 1) (blk_set (i := 0) HGRB.out)))
          have hg9 : W9.heap[wc.heap.size]? = some (.cells ((List.replicate j ([] : List UInt8)).flatMap encS).toArray 9 (0, 0)) := by rw [hW9]; exact blk_new (by simp [World.setCell])
          have hr9 : W9.heap[w.heap.size + 1]? = some (.cells #[.int .i64 0, .int .i64 0, .slice none 0 0] 44 (0, 0)) := by rw [hW9]; exact blk_old (blk_far (blk_far (blk_far HRES.out hn1.symm) hn1.symm) hn1.symm)
          have m9 : Moved D w W9 := by rw [hW9]; exact (((HMW.out.set (a := ⟨rb, 0, none⟩) hrw _).set (a := ⟨rb, 1, none⟩) hrw _).set (a := ⟨rb, 2, none⟩) hrw _).alloc _
          have HG9 := Lib.hid hg9; have HR9 := Lib.hid hr9; have HM9 := Lib.hid m9
          clear hW9 c0 c1 c2 z0 z1 z2 f0 f1 f2 g0 g1 g2 s0 s1 s2 s3 m9 hmk
          obtain ⟨z0, z1, z2⟩ := cells3 hr9; have f0 := frozen_of_row _ _ 0 _ _ hr9; have f1 := frozen_of_row _ _ 1 _ _ hr9; have f2 := frozen_of_row _ _ 2 _ _ hr9
          obtain ⟨c0, c1, c2⟩ := cells3 hgb
          have l1 := lt_of_blk hr9; have l2 := lt_of_blk hgb
          have HCk := Lib.hid (show checkN s ⟨id, 1, List.replicate j []⟩ = 0 by rw [← HN.out]; exact rec_none HSD.out.check h1 h2)
          clear hr9 hgb hg9
          go_wp2_with fail
          exact bodyPost_row1 rfl rfl (blk_set (i := 2) (blk_set (i := 1) (blk_set (i := 0) HR9.out))) Tryz.underlying44 rfl (by kernel_rfl)
            ⟨_, ⟨id, 1, List.replicate j []⟩, rfl, ⟨_, rfl, (((blockVec (k := 1) (enc := encS) (L := List.replicate j ([] : List UInt8)) (S := fun b => w.heap.size ≤ b ∧ b ≠ w.heap.size + 1) (A := wc.heap.size) (fun _ => rfl) HG9.out ⟨by omega, by omega⟩ j (by simp)).far (fun b hb => hb.2)).far (fun b hb => hb.2)).far (fun b hb => hb.2) |>.weaken (fun b hb => hb.1)⟩, rfl, HCk.out, (by intro x hx; have := List.eq_of_mem_replicate hx; subst this; simp),
              ((HM9.out.set (a := ⟨w.heap.size + 1, 0, none⟩) (Nat.le_succ _) _).set (a := ⟨w.heap.size + 1, 1, none⟩) (Nat.le_succ _) _).set (a := ⟨w.heap.size + 1, 2, none⟩) (Nat.le_succ _) _⟩
end
section
open Go.RowKit
section
variable {α : Type} {P : Program} {w : World} {ops : Array Oper} {rest : List Oper} {o : Oper} {a : Act} {Q : Exit → Act → World → Prop}
/-- append while the deck moves on; where the row lies afterwards -/
theorem wpList_append_mat (hgd : o.guard = none) (s x : Operand) (t : TypeId) (ho : o.op = .call { callee := .builtin .append, args := #[s, x], argTypes := #[t, t] })
    (D e : Nat) (z : Value) (size bytes : Nat) (enc : α → List Value) (hk : ∀ x, (enc x).length = size) (h1 : ∀ x, ∀ u ∈ enc x, u.oneCell' = true) (ht : P.underlying t = some (.slice e)) (hinfo : (P.info? e).map (fun i => (i.zero, i.size, i.bytes)) = some (some z, size, bytes))
    (hzs : z.cells.size = size) (hsz : 0 < size) (hby : bytes ≤ 128) {wA : World} {v u : Value} {A B : List α} (hs : a.eval s = v) (hown : OwnM D e size enc wA v A w) (hx : a.eval x = u) (hr : Reads w size u B.length (B.flatMap enc)) (hn : A.length + B.length ≤ 1000000000)
    (h : ∀ v' w', OwnM D e size enc wA v' (A ++ B) w' → (∀ k o, some k ≠ v.ownBlock → w.heap[k]? = some o → w'.heap[k]? = some o) → w.heap.size ≤ w'.heap.size → (v'.ownBlock = none ∨ v.ownBlock = v'.ownBlock ∨ v'.ownBlock = some w.heap.size) → wpList P ops Q rest (a.put o.dst v') w') : wpList P ops Q (o :: rest) a w := by
  refine wpList_plain hgd fun K hK => ?_
  refine wp_append_reads s x t ho wA.heap.size e z size bytes ht hinfo hzs hsz v A.length (A.flatMap enc) hs hown.1 u B.length (B.flatMap enc) hx hr (fun u hu => ?_) (by unfold maxLen; omega) ?_ hown.2.size ?_
  · obtain ⟨y, _, hy⟩ := List.mem_flatMap.1 hu
    exact h1 y u hy
  · exact Nat.le_trans (Nat.mul_le_mul hn hby) (by decide)
  · intro v' w' ho' hg hat
    refine hK _ _ (h v' w' ⟨by rw [List.length_append, List.flatMap_append]; exact ho', hown.2.grown' hg fun k hk => ?_⟩ (fun k o hk hko => (hg.block k (lt_of_blk hko) hk).trans hko) hg.size hat)
    rcases hown.1.2 with ⟨rfl, _⟩ | ⟨g, cap, cur, rfl, hg1, _⟩
    · simp [Value.ownBlock] at hk
    · have : g = k := by simpa [Value.ownBlock] using hk
      omega
end
end
section
set_option maxRecDepth 100000
open Go.RowKit Cal
attribute [local go_sem] toList_mk mk_size bytes_append
theorem allA_ok {s : SchemaL} : ∀ (R : List RecL) (p : Option Int), allA s p R = 0 → ∀ r ∈ R, checkI s r = 0
  | [], _, _, r, hr => by simp at hr
  | x :: R, p, h, r, hr => by
    unfold allA at h
    split at h
    · next h1 =>
      split at h
      · cases h
      · rcases List.mem_cons.1 hr with rfl | h2
        · exact h1
        · exact allA_ok R _ h r h2
    · next h1 => exact absurd h h1
theorem allN_ok {s : SchemaL} {R : List RecL} (h : allN s R = 0) : checkS s = 0 ∧ R.length ≤ 64 ∧ ∀ r ∈ R, checkN s r = 0 := by
  unfold allN at h
  split at h
  · next h0 =>
    split at h
    · next h1 => exact ⟨h0, h1, fun r hr => by unfold checkN; rw [if_pos h0]; exact allA_ok R none h r hr⟩
    · cases h
  · next h0 => exact absurd h h0
/-- records for blocks: valid, their values short -/
structure RecsOk (s : SchemaL) (R : List RecL) : Prop where
  all : allN s R = 0
  short : ∀ r ∈ R, ∀ x ∈ r.vals, x.length ≤ 64
theorem RecsOk.vals {s : SchemaL} {R : List RecL} (h : RecsOk s R) (hn : s.fields.length ≤ 1000) : ∀ r ∈ R, r.vals.length ≤ 1000000 := by
  intro r hr
  have := (checkN_ok ((allN_ok h.all).2.2 r hr)).2.2.1
  omega
/-- the values of a valid record are short -/
theorem check_short {s : SchemaL} {r : RecL} (h : checkN s r = 0) : ∀ x ∈ r.vals, x.length ≤ 64 := by
  obtain ⟨hc, _, hl, hno⟩ := checkN_ok h
  intro x hx
  obtain ⟨j, hj, rfl⟩ := List.mem_iff_getElem.1 hx
  by_cases h0 : r.vals[j] = []
  · rw [h0]; simp
  · have hnj := normA_get s r.vals 0 hno j hj
    rw [Nat.zero_add, getD_at _ _ hj] at hnj
    have hfi : findN s (j : Int) = ((s.fields.getD j default).2, 0) := findN_in hc (by omega)
    have hown : ownK (s.fields.getD j default).2 s.rules r.vals[j] = true := by
      unfold normalB at hnj
      rw [hfi, if_pos rfl, if_neg h0] at hnj
      exact hnj
    have hkk := findN_kind (s := s) (f := (j : Int)) (by rw [hfi])
    rw [hfi] at hkk
    exact (own_facts hown hkk).1
theorem recs_of_all {s : SchemaL} {R : List RecL} (h : allN s R = 0) : RecsOk s R := ⟨h, fun r hr => check_short ((allN_ok h).2.2 r hr)⟩
theorem infoR : (Tryz.prog.info? 44).map (fun i => (i.zero, i.size, i.bytes)) = some (some (.agg #[.int .i64 0, .int .i64 0, .slice none 0 0]), 3, 40) := by kernel_rfl
theorem one_encRV : ∀ x : RV, ∀ u ∈ encRV x, u.oneCell' = true := by intro x u hu; simp at hu; rcases hu with rfl | rfl | rfl <;> rfl
/-- records that are being dealt -/
structure ROut (D : Nat) (W : World) (s : SchemaL) (v : Value) (C : List RV) (id : Int) (wr : World) : Prop where
  own : OwnM D 44 3 encRV W v C wr
  vals : ∀ x ∈ C, Vec wr (OffRow W.heap.size v) 1 encS (.slice x.a x.n x.c) x.vals
  ok : ∀ x ∈ C, checkN s (pR x) = 0 ∧ ∀ y ∈ x.vals, y.length ≤ 64
  asc : C.Pairwise fun x y => x.id < y.id
  le : ∀ x ∈ C, x.id ≤ id
  id0 : 0 ≤ id
  id3 : id ≤ 3 * C.length
theorem ROut.nil {D : Nat} {W wr : World} {s : SchemaL} (m : Moved D W wr) : ROut D W s (.slice none 0 0) [] 0 wr := ⟨OwnM.nil m, fun x h => by simp at h, fun x h => by simp at h, List.Pairwise.nil, fun x h => by simp at h, by omega, by simp⟩
theorem ROut.moved {D : Nat} {W wr wx : World} {s : SchemaL} {v : Value} {C : List RV} {id : Int} (h : ROut D W s v C id wr) (m : Moved D wr wx) : ROut D W s v C id wx :=
  ⟨h.own.moved m, fun x hx => (h.vals x hx).move m.size fun b hb hs => ⟨m.grown.block b hb (by have := h.own.2.lt; have := hs.1; simp; omega), hs⟩, h.ok, h.asc, h.le, h.id0, h.id3⟩
theorem recs_ok {s : SchemaL} {C : List RV} (h0 : checkS s = 0) (ok : ∀ x ∈ C, checkN s (pR x) = 0 ∧ ∀ y ∈ x.vals, y.length ≤ 64) (asc : C.Pairwise fun x y => x.id < y.id) (hl : C.length ≤ 64) : RecsOk s (C.map pR) := by
  refine ⟨?_, fun r hr => ?_⟩
  · unfold allN
    rw [if_pos h0, if_pos (by simpa using hl)]
    refine allA_yes _ none (fun r hr => ?_) (fun q r hq => by cases hq) (fun j hj => ?_)
    · obtain ⟨x, hx, rfl⟩ := List.mem_map.1 hr
      have := (ok x hx).1
      unfold checkN at this
      rwa [if_pos h0] at this
    · rw [List.getElem_map, List.getElem_map]
      exact List.pairwise_iff_getElem.1 asc j (j + 1) _ _ (by omega)
  · obtain ⟨x, hx, rfl⟩ := List.mem_map.1 hr
    exact (ok x hx).2
def RecordsPost (D : Nat) (s : SchemaL) (most : Nat) (w : World) (e : Ending) (w' : World) : Prop := ∃ v R, e = .returned v ∧ RecsVec w' (fun b => w.heap.size ≤ b) v R ∧ RecsOk s R ∧ R.length ≤ most ∧ (R.Pairwise fun x y => x.id < y.id) ∧ Moved D w w'
/-- the dealt records, with the row that they lie in -/
def RecordsOwn (D : Nat) (s : SchemaL) (most : Nat) (w : World) (e : Ending) (w' : World) : Prop := ∃ (v : Value) (C : List RV) (W : World) (id : Int), e = .returned v ∧ ROut D W s v C id w' ∧ Moved D w W ∧ C.length ≤ most ∧ checkS s = 0
theorem RecordsOwn.post {D : Nat} {s : SchemaL} {most : Nat} {w w' : World} {e : Ending} (hm : most ≤ 64) (h : RecordsOwn D s most w e w') : RecordsPost D s most w e w' := by
  obtain ⟨v, C, W, id, rfl, ho, mv, hl, hc⟩ := h
  have hz := mv.size
  refine ⟨_, C.map pR, rfl, ⟨C, (OwnM.vec (size := 3) (enc := encRV) (fun _ => rfl) ho.own).move (Nat.le_refl _) (fun x _ hx => ⟨rfl, by have hx' : W.heap.size ≤ x := hx; show w.heap.size ≤ x; omega⟩), rfl, fun y hy => (ho.vals y hy).move (Nat.le_refl _) (fun x _ hx => ⟨rfl, by have hx' := hx.1; show w.heap.size ≤ x; omega⟩)⟩, recs_ok hc ho.ok ho.asc (by omega), by rw [List.length_map]; omega, ?_, mv.trans ho.own.2⟩
  exact List.pairwise_map.2 ho.asc
set_option maxHeartbeats 8000000 in
theorem records_dealO (D : Nat) (S : Nat → Prop) (vf vt vn vs : Value) (s : SchemaL) (most : Nat) (w : World) (h : DeckAt w D) (hs : SchemaAt w S vf vt vn vs s) (hS : ∀ b, S b → b ≠ D) (hd : SchemaD s) (hm : most ≤ 64) :
    Calls Tryz.prog 9 #[.pointer (some ⟨D, 0, none⟩), .agg #[vf, vt, vn, vs], .int .i64 most] w (RecordsOwn D s most w) := by
  have zD := h.lt
  have M0 := Lib.hid (Moved.start h); clear h
  have HS := Lib.hid hs; have HSD := Lib.hid hd; have HSne := Lib.hid hS
  clear hs hd hS
  go_enter Tryz.func9, Tryz.ntmps9
  go_wp2_with fail
  refine wp_calls_world (fun W hW => ?_)
  have hm0 : Moved D w W := by rw [hW]; exact M0.out.alloc _
  have hb0 : Below w.heap.size w W := by rw [hW]; exact (Below.refl w.heap.size w).alloc (Nat.le_refl _) _
  have hs0 : W.heap[w.heap.size]? = some (.cells #[vf, vt, vn, vs] 33 (0, 0)) := by rw [hW]; exact blk_new rfl
  have hzW : W.heap.size = w.heap.size + 1 := by rw [hW]; simp
  clear hW
  have HM := Lib.hid hm0; have HS0 := Lib.hid hs0; have HSW := Lib.hid (HS.out.below hb0); have HZW := Lib.hid hzW
  clear hm0 hs0 hb0 hzW
  refine (next_any D _ (most + 1) HM.out.deck (by omega) (by omega)).mono ?_
  rintro e w1 ⟨q, rfl, q0, q1, mv⟩
  obtain ⟨q, rfl⟩ := Int.eq_ofNat_of_zero_le q0
  have MW := Lib.hid mv
  clear mv
  go_wp2_with fail
  go_loopw [7, 8, 9] (fun v t i wr => ∃ (j : Nat) (id : Int) (C : List RV), t = .int .i64 id ∧ i = .int .i64 j ∧ C.length + j = q ∧ ROut D W s v C id wr) (fun _ _ i _ => (intOf i).toNat)
  case atStart => exact ⟨q, 0, [], rfl, rfl, by simp, ROut.nil MW.out⟩
  case round =>
    obtain ⟨j, id, C, rfl, rfl, hj, ho⟩ := hrel
    have HO := Lib.hid ho; have HJ := Lib.hid hj; clear ho hj
    have hzr := HO.out.own.2.size
    by_cases hlt : 0 < j
    · have hq : decide ((0 : Int) < (j : Int)) = true := by simp; omega
      have hCl : C.length ≤ 63 := by have := HJ.out; omega
      have hjq : j ≤ 65 := by have := HJ.out; omega
      have hi0 := HO.out.id0; have hi3 := HO.out.id3
      go_wp2_with fail
      refine (next_any D _ 3 HO.out.own.2.deck (by omega) (by omega)).mono ?_
      rintro e w2 ⟨x, rfl, x0, x1, mv⟩
      have HO2 := Lib.hid (HO.out.moved mv)
      have hsx := HO2.out.own.2.blk (k := w.heap.size) (by omega) HS0.out
      have HSX := Lib.hid hsx
      obtain ⟨s0, s1, s2, s3⟩ := cellsS hsx
      have hzs := lt_of_blk hsx
      clear mv HO hsx
      go_wp2_with fail
      refine (record_deal D S _ _ _ _ s (id + (1 + x)) w2 HO2.out.own.2.deck (HSW.out.moved HSne.out HO2.out.own.2) HSne.out HSD.out (by omega) (by omega)).mono ?_
      rintro e w3 ⟨_, r, rfl, ⟨sv, rfl, hv⟩, hid, hck, hsh, mv⟩
      obtain ⟨av, cv, rfl⟩ := hv.slice
      have hzw2 := HO2.out.own.2.size
      have hown6 : ∀ x, w2.heap.size ≤ x → some x ≠ u7.ownBlock := by
        intro x hx'
        rcases HO2.out.own.1.2 with ⟨h0, _⟩ | ⟨g, cap, cur, h0, hg, hh, _⟩
        · rw [h0]; simp [Value.ownBlock]
        · rw [h0]; have := lt_of_blk hh; simp [Value.ownBlock]; omega
      have HO3 := Lib.hid (HO2.out.moved mv)
      have HO4 := Lib.hid (HO3.out.own.moved ((Moved.start HO3.out.own.2.deck).alloc (.cells #[.int .i64 r.id, .int .i64 r.ver, .slice av r.vals.length cv] 44)))
      have HR4 := Lib.hid (show Reads (w3.alloc (.cells #[.int .i64 r.id, .int .i64 r.ver, .slice av r.vals.length cv] 44)) 3 (.slice (some ⟨w3.heap.size, 0, none⟩) 1 1) [(⟨r.id, r.ver, av, r.vals.length, cv, r.vals⟩ : RV)].length ([(⟨r.id, r.ver, av, r.vals.length, cv, r.vals⟩ : RV)].flatMap encRV) from reads_block (xs := [(⟨r.id, r.ver, av, r.vals.length, cv, r.vals⟩ : RV)].flatMap encRV) (fr := (0, 0)) (t := 44) (blk_new rfl) rfl)
      have HVN := Lib.hid (hv.move (w' := w3) (S' := fun x => some x ≠ u7.ownBlock ∧ W.heap.size ≤ x) (Nat.le_refl _) (fun x _ hx' => ⟨rfl, hown6 x hx', by have h' : w2.heap.size ≤ x := hx'; omega⟩))
      have HVO := Lib.hid (fun y (hy : y ∈ C) => (HO3.out.vals y hy).move (w' := w3) (S' := fun x => some x ≠ u7.ownBlock ∧ W.heap.size ≤ x) (Nat.le_refl _) (fun x hx' hs => ⟨rfl, hs.2, hs.1⟩))
      have hcn : C.length + [(⟨r.id, r.ver, av, r.vals.length, cv, r.vals⟩ : RV)].length ≤ 1000000000 := by simp only [List.length_cons, List.length_nil]; omega
      have HCk := Lib.hid (show checkN s r = 0 ∧ ∀ y ∈ r.vals, y.length ≤ 64 from ⟨hck, hsh⟩)
      have HId := Lib.hid hid
      have HAsc := Lib.hid HO3.out.asc; have HLe := Lib.hid HO3.out.le; have HOk3 := Lib.hid HO3.out.ok
      obtain ⟨rid, rver, rvals⟩ := r
      dsimp only at HO4 HR4 HVN hcn HCk HId
      clear hv hid hck hsh mv s0 s1 s2 s3 hzs HSX HO2 HO3
      go_wp2_with (at_builtin; refine wpList_append_mat rfl (.tmp 23) (.tmp 28) 35 rfl D 44 (.agg #[.int .i64 0, .int .i64 0, .slice none 0 0]) 3 40 encRV (fun _ => rfl) one_encRV Tryz.underlying35 infoR rfl (by decide) (by decide) (wA := W) (v := u7) (A := C) (B := [⟨rid, rver, av, rvals.length, cv, rvals⟩]) rfl HO4.out rfl HR4.out hcn ?_; intro v4 w4 ho4 hk4 hz4 hat4)
      go_roundw
      case rel =>
        have hmv : ∀ b, b < w3.heap.size → (some b ≠ u7.ownBlock ∧ W.heap.size ≤ b) → w4.heap[b]? = w3.heap[b]? ∧ OffRow W.heap.size v4 b := by
          intro b hb hS
          obtain ⟨q1, q2⟩ := hS
          refine ⟨?_, q2, ?_⟩
          · obtain ⟨ob, hob⟩ : ∃ ob, w3.heap[b]? = some ob := ⟨_, Array.getElem?_eq_getElem hb⟩
            rw [hob]
            exact hk4 b ob q1 (blk_old hob)
          · rcases hat4 with h1 | h1 | h1
            · rw [h1]; simp
            · rw [← h1]; exact q1
            · rw [h1]; simp; omega
        have hz34 : w3.heap.size ≤ w4.heap.size := by simp at hz4; omega
        have hidr := HId.out
        refine ⟨j - 1, id + (1 + x), C ++ [⟨rid, rver, av, rvals.length, cv, rvals⟩], rfl, by go_num, by rw [List.length_append]; have := HJ.out; show C.length + 1 + (j - 1) = q; omega, ho4, fun y hy => ?_, fun y hy => ?_, ?_, fun y hy => ?_, by omega, by rw [List.length_append]; simp; omega⟩
        · rcases List.mem_append.1 hy with h1 | h1
          · exact (HVO.out y h1).move hz34 hmv
          · simp at h1; subst h1; exact HVN.out.move hz34 hmv
        · rcases List.mem_append.1 hy with h1 | h1
          · exact HOk3.out y h1
          · simp at h1; subst h1; exact HCk.out
        · refine List.pairwise_append.2 ⟨HAsc.out, List.pairwise_singleton _ _, fun y hy z hz => ?_⟩
          simp at hz; subst hz
          have := HLe.out y hy
          show y.id < rid; omega
        · rcases List.mem_append.1 hy with h1 | h1
          · have := HLe.out y h1; omega
          · simp at h1; subst h1; show rid ≤ _; omega
      case measure => simp [intOf]; omega
    · have hq : decide ((0 : Int) < (j : Int)) = false := by simp; omega
      obtain rfl : j = 0 := by omega
      go_wp2_with fail
      go_ret
      exact ⟨_, C, W, id, rfl, HO.out, HM.out, by have := HJ.out; omega, HSD.out.check⟩
theorem records_deal (D : Nat) (S : Nat → Prop) (vf vt vn vs : Value) (s : SchemaL) (most : Nat) (w : World) (h : DeckAt w D) (hs : SchemaAt w S vf vt vn vs s) (hS : ∀ b, S b → b ≠ D) (hd : SchemaD s) (hm : most ≤ 64) :
    Calls Tryz.prog 9 #[.pointer (some ⟨D, 0, none⟩), .agg #[vf, vt, vn, vs], .int .i64 most] w (RecordsPost D s most w) :=
  (records_dealO D S vf vt vn vs s most w h hs hS hd hm).mono fun _ _ h => h.post hm
end
section
set_option maxRecDepth 100000
open Go.RowKit Cal
attribute [local go_sem] toList_mk mk_size str_append
theorem take_more {A B : List (List UInt8)} {j : Nat} (h : A.take j = B.take j) (hA : j < A.length) (hB : j < B.length) (he : A[j] = B[j]) : A.take (j + 1) = B.take (j + 1) := by
  rw [List.take_succ_eq_append_getElem hA, List.take_succ_eq_append_getElem hB, h, he]
set_option maxHeartbeats 4000000 in
theorem sequal_any (S T : Nat → Prop) (u v : Value) (A B : List (List UInt8)) (w : World) (hu : Vec w S 1 encS u A) (hv : Vec w T 1 encS v B) (hn : A.length ≤ 1000000) (hm : B.length ≤ 1000000) :
    Calls Tryz.prog 46 #[u, v] w fun e w' => e = .returned (.bool (decide (A = B))) ∧ Below w.heap.size w w' := by
  obtain ⟨a, ca, rfl⟩ := hu.slice
  obtain ⟨b, cb, rfl⟩ := hv.slice
  have HU := Lib.hid hu; have HV := Lib.hid hv
  clear hu hv
  by_cases hl : A.length = B.length
  · have d1 : ((A.length : Int) != (B.length : Int)) = false := by rw [hl]; simp
    have HL := Lib.hid hl
    clear hl
    go_enter Tryz.func46, Tryz.ntmps46
    go_wp2_with fail
    go_loopw [5, 13] (fun _ i wr => ∃ j : Nat, i = .int .i64 j ∧ j ≤ A.length ∧ A.take j = B.take j ∧ Below w.heap.size w wr) (fun _ i _ => A.length - (intOf i).toNat)
    case atStart => exact ⟨0, rfl, by omega, rfl, Below.refl _ _⟩
    case round =>
      obtain ⟨j, rfl, hj, ht, hb⟩ := hrel
      have HT := Lib.hid ht; have HB := Lib.hid hb
      clear ht hb
      by_cases hlt : j < A.length
      · have hq : decide ((j : Int) < A.length) = true := by simp; omega
        have hlb : j < B.length := by have := HL.out; omega
        obtain ⟨x, hx⟩ : ∃ x, A[j] = x := ⟨_, rfl⟩
        obtain ⟨y, hy⟩ : ∃ y, B[j] = y := ⟨_, rfl⟩
        obtain ⟨b1, o1, rfl, l1, g1⟩ := (HU.out.below HB.out).get j hlt
        obtain ⟨b2, o2, rfl, l2, g2⟩ := (HV.out.below HB.out).get j hlb
        have c1 := g1 0 _ rfl
        have c2 := g2 0 _ rfl
        rw [Nat.mul_one, Nat.add_zero, hx] at c1
        rw [Nat.mul_one, Nat.add_zero, hy] at c2
        have hja : (j : Int) < (A.length : Int) := by omega
        have hjb : (j : Int) < (B.length : Int) := by omega
        have HX := Lib.hid hx; have HY := Lib.hid hy
        clear g1 g2 hx hy
        go_wp2_with fail
        refine wp_region_noPanic ?_
        refine wp_region_held_drew (S := (fun w' => w'.cell? ⟨b1, o1 + j, none⟩ = some (strV x) ∧ w'.cell? ⟨b2, o2 + j, none⟩ = some (strV y))) (by kernel_rfl) (⟨c1, c2⟩) (fun hHeld => ?_)
        refine tH 0 (h := ?_)
        try simp only [List.getElem_toArray, List.getElem_cons_zero, List.getElem_cons_succ, Act.put, List.setIfInBounds_toArray, List.set_cons_zero, List.set_cons_succ]
        refine tH 1 (h := ?_)
        try simp only [List.getElem_toArray, List.getElem_cons_zero, List.getElem_cons_succ, Act.put, List.setIfInBounds_toArray, List.set_cons_zero, List.set_cons_succ]
        refine tH 2 (h := ?_)
        try simp only [List.getElem_toArray, List.getElem_cons_zero, List.getElem_cons_succ, Act.put, List.setIfInBounds_toArray, List.set_cons_zero, List.set_cons_succ]
        refine tH 3 (h := ?_)
        try simp only [List.getElem_toArray, List.getElem_cons_zero, List.getElem_cons_succ, Act.put, List.setIfInBounds_toArray, List.set_cons_zero, List.set_cons_succ]
        refine tH 4 (h := ?_)
        try simp only [List.getElem_toArray, List.getElem_cons_zero, List.getElem_cons_succ, Act.put, List.setIfInBounds_toArray, List.set_cons_zero, List.set_cons_succ]
        refine tH 5 (h := ?_)
        try simp only [List.getElem_toArray, List.getElem_cons_zero, List.getElem_cons_succ, Act.put, List.setIfInBounds_toArray, List.set_cons_zero, List.set_cons_succ]
        refine tH 6 (h := ?_)
        try simp only [List.getElem_toArray, List.getElem_cons_zero, List.getElem_cons_succ, Act.put, List.setIfInBounds_toArray, List.set_cons_zero, List.set_cons_succ]
        refine tH 7 (h := ?_)
        try simp only [List.getElem_toArray, List.getElem_cons_zero, List.getElem_cons_succ, Act.put, List.setIfInBounds_toArray, List.set_cons_zero, List.set_cons_succ]
        refine tH 8 (h := ?_)
        try simp only [List.getElem_toArray, List.getElem_cons_zero, List.getElem_cons_succ, Act.put, List.setIfInBounds_toArray, List.set_cons_zero, List.set_cons_succ]
        refine wpAnyH_done (by kernel_rfl) ?_ _
        refine NoPanic.normal ?_
        go_wp2_with fail
        · rename_i h
          have he : ¬ x = y := by simpa using h
          go_ret
          exact ⟨ret_bool (decide_eq_false fun e => by subst e; exact he (HX.out.symm.trans HY.out)).symm, HB.out.drew⟩
        · rename_i h
          have he : x = y := by simpa using h
          go_roundw
          case rel => exact ⟨j + 1, by go_num, by omega, take_more HT.out hlt hlb (by rw [HX.out, HY.out]; exact he), HB.out.drew⟩
          case measure => simp [intOf]; omega
      · have hq : decide ((j : Int) < A.length) = false := by simp; omega
        obtain rfl : j = A.length := by omega
        go_wp2_with fail
        go_ret
        have e := HT.out
        rw [List.take_length, HL.out, List.take_length] at e
        exact ⟨ret_bool (decide_eq_true e).symm, HB.out⟩
  · have d1 : ((A.length : Int) != (B.length : Int)) = true := by simp; omega
    go_enter Tryz.func46, Tryz.ntmps46
    go_wp2_with fail
    go_ret
    exact ⟨ret_bool (decide_eq_false (fun e => hl (by rw [e]))).symm, Below.refl _ _⟩
def sameR (a b : RecL) : Bool := decide (a.id = b.id) && (decide (a.ver = b.ver) && decide (a.vals = b.vals))
theorem sameR_self (a b : RecL) (h1 : a.id = b.id) (h2 : a.ver = b.ver) (h3 : a.vals = b.vals) : sameR a b = true := by simp [sameR, h1, h2, h3]
set_option maxHeartbeats 4000000 in
theorem psame_any (S T : Nat → Prop) (u v : Value) (a b : RecL) (w : World) (hu : Vec w S 1 encS u a.vals) (hv : Vec w T 1 encS v b.vals) (hn : a.vals.length ≤ 1000000) (hm : b.vals.length ≤ 1000000) :
    Calls Tryz.prog 15 #[.agg #[.int .i64 a.id, .int .i64 a.ver, u], .agg #[.int .i64 b.id, .int .i64 b.ver, v]] w fun e w' => e = .returned (.bool (sameR a b)) ∧ Below w.heap.size w w' := by
  obtain ⟨ua, uc, rfl⟩ := hu.slice
  obtain ⟨va, vc, rfl⟩ := hv.slice
  obtain ⟨i1, n1, A⟩ := a
  obtain ⟨i2, n2, B⟩ := b
  dsimp only at hu hv hn hm ⊢
  have HU := Lib.hid hu; have HV := Lib.hid hv
  clear hu hv
  have hq : (i1 == i2) = decide (i1 = i2) := beq_dec i1 i2
  have hq2 : (n1 == n2) = decide (n1 = n2) := beq_dec n1 n2
  cases h1 : decide (i1 = i2)
  · have e : sameR ⟨i1, n1, A⟩ ⟨i2, n2, B⟩ = false := by unfold sameR; dsimp only; rw [h1]; rfl
    rw [e]
    rw [h1] at hq
    go_enter Tryz.func15, Tryz.ntmps15
    go_wp2_with fail
    go_ret
    exact ⟨rfl, ((Below.refl w.heap.size w).alloc (Nat.le_refl _) _).alloc (by simp) _⟩
  · rw [h1] at hq
    cases h2 : decide (n1 = n2)
    · have e : sameR ⟨i1, n1, A⟩ ⟨i2, n2, B⟩ = false := by unfold sameR; dsimp only; rw [h1, h2]; rfl
      rw [e]
      rw [h2] at hq2
      go_enter Tryz.func15, Tryz.ntmps15
      go_wp2_with fail
      go_ret
      exact ⟨rfl, ((Below.refl w.heap.size w).alloc (Nat.le_refl _) _).alloc (by simp) _⟩
    · rw [h2] at hq2
      have e : sameR ⟨i1, n1, A⟩ ⟨i2, n2, B⟩ = decide (A = B) := by unfold sameR; dsimp only; rw [h1, h2]; rfl
      rw [e]
      go_enter Tryz.func15, Tryz.ntmps15
      go_wp2_with fail
      refine wp_calls_world (fun W hW => ?_)
      have hb0 : Below w.heap.size w W := by rw [hW]; exact ((Below.refl w.heap.size w).alloc (Nat.le_refl _) _).alloc (by simp) _
      clear hW
      refine (sequal_any S T _ _ A B W (HU.out.below hb0) (HV.out.below hb0) hn hm).mono ?_
      rintro e w1 ⟨rfl, hb⟩
      go_wp2_with fail
      go_ret
      exact ⟨rfl, hb0.trans (hb.mono hb0.size)⟩
end
section
open Go.RowKit Cal
def awG : SchemaL := ⟨[([103, 105, 118, 101, 110], 1)], [], [], []⟩
theorem awG_check : checkS awG = 0 := by kernel_rfl
end
section
set_option maxRecDepth 100000
open Go.RowKit Cal
attribute [local go_sem] toList_mk mk_size
theorem awR_made : makeN awG 7 1 [[65, 110, 110]] = (⟨7, 1, [[97, 110, 110]]⟩, 0) := by kernel_rfl
theorem awR_check : checkN awG ⟨7, 1, [[97, 110, 110]]⟩ = 0 := by kernel_rfl
theorem awR_line : joinC 9 (Lib.decDigits 7 :: Lib.decDigits 1 :: [[97, 110, 110]]) = [55, 9, 49, 9, 97, 110, 110] := by decide +kernel
set_option maxHeartbeats 8000000 in
theorem awake_r (w : World) (hm : MaxAt w) : Calls Tryz.prog 5 #[] w fun e w' => e = .returned (.bool true) ∧ Below w.heap.size w w' := by
  have HM := Lib.hid hm
  clear hm
  go_enter Tryz.func5, Tryz.ntmps5
  go_wp2_with fail
  refine wp_calls_world (fun W hW => ?_)
  have hb0 : Below w.heap.size w W := by rw [hW]; exact (((Below.refl w.heap.size w).alloc (Nat.le_refl _) _).alloc (by simp) _).alloc (by simp; omega) _
  have hf0 : W.heap[w.heap.size]? = some (.cells #[strV [103, 105, 118, 101, 110], .int .i64 1] 62 (0, 0)) := by rw [hW]; exact blk_old (blk_old (blk_new rfl))
  have hs0 : W.heap[w.heap.size + 1]? = some (.cells #[.slice (some ⟨w.heap.size, 0, none⟩) 1 1, .slice none 0 0, .slice none 0 0, .slice none 0 0] 33 (0, 0)) := by rw [hW]; exact blk_old (blk_new (by simp))
  have hv0 : W.heap[w.heap.size + 2]? = some (.cells (([[65, 110, 110]] : List (List UInt8)).flatMap encS).toArray 9 (0, 0)) := by rw [hW]; exact blk_new (by simp)
  have hSA : SchemaAt W Any1 (.slice (some ⟨w.heap.size, 0, none⟩) 1 1) (.slice none 0 0) (.slice none 0 0) (.slice none 0 0) awG := ⟨vecF_one hf0, Vec.nil _ _ _ _, Vec.nil _ _ _ _, Vec.nil _ _ _ _⟩
  have hVA : Vec W Any1 1 encS (.slice (some ⟨w.heap.size + 2, 0, none⟩) 1 1) [[65, 110, 110]] := blockVec (k := 1) (enc := encS) (L := [[65, 110, 110]]) (S := Any1) (fun _ => rfl) hv0 trivial 1 rfl
  clear hW hf0 hv0
  have hmk := pmake_yes Any1 Any1 _ _ _ _ awG 7 1 [[65, 110, 110]] _ W hSA hVA awG_check rfl (by decide) (by intro x hx; simp at hx; subst hx; decide)
  rw [awR_made] at hmk
  refine hmk.mono ?_
  rintro e w1 ⟨_, rfl, ⟨sv, rfl, hvv⟩, hb⟩
  dsimp only at hvv ⊢
  obtain ⟨av, cv, rfl⟩ := hvv.slice
  have hs1 := blk_below hb (lt_of_blk hs0) hs0
  have HB1 := Lib.hid (hb0.trans (hb.mono hb0.size)); have HSA := Lib.hid (hSA.below hb); have HVV := Lib.hid hvv.any
  have HS1 := Lib.hid hs1
  obtain ⟨s0, s1, s2, s3⟩ := cellsS hs1
  have ls := lt_of_blk hs1
  have e1 : ([[97, 110, 110]] : List (List UInt8)).length = 1 := rfl
  rw [e1] at HVV ⊢
  clear hb hb0 hs0 hSA hVA hmk hvv hs1
  go_wp2_with fail
  refine wp_calls_world (fun W2 hW2 => ?_)
  have hb2 : Below w1.heap.size w1 W2 := by rw [hW2]; exact (Below.refl w1.heap.size w1).alloc (Nat.le_refl _) _
  have hs2 := blk_below hb2 (lt_of_blk HS1.out) HS1.out
  clear hW2 s0 s1 s2 s3 ls
  have hln := rLine_yes Any1 _ _ _ _ awG ⟨7, 1, [[97, 110, 110]]⟩ (.slice av 1 cv) (Lib.decDigits 7) (Lib.decDigits 1) W2 (HSA.out.below hb2) (HVV.out.below hb2) awR_check (spells_small 7 (by decide)) (spells_small 1 (by decide)) (by intro t ht; simp at ht; subst ht; decide) (by simp)
  rw [awR_line] at hln
  refine hln.mono ?_
  rintro e w3 ⟨rfl, hb⟩
  have HS3 := Lib.hid (blk_below hb (lt_of_blk hs2) hs2); have HSA3 := Lib.hid ((HSA.out.below hb2).below hb)
  have HB3 := Lib.hid (HB1.out.trans ((hb2.trans (hb.mono hb2.size)).mono HB1.out.size))
  obtain ⟨s0, s1, s2, s3⟩ := cellsS HS3.out
  clear hb hb2 hs2 hln HVV HS1 HSA
  go_wp2_with fail
  refine (rfile_none Any1 _ _ _ _ awG _ HSA3.out awG_check).mono ?_
  rintro e w4 ⟨rfl, hb⟩
  have HS4 := Lib.hid (blk_below hb (lt_of_blk HS3.out) HS3.out); have HSA4 := Lib.hid (HSA3.out.below hb)
  have HB4 := Lib.hid (HB3.out.trans (hb.mono HB3.out.size))
  clear s0 s1 s2 s3 hb
  obtain ⟨s0, s1, s2, s3⟩ := cellsS HS4.out
  clear HS3 HSA3
  go_wp2_with fail
  refine (rread_none Any1 _ _ _ _ awG _ (HM.out.old HB4.out) HSA4.out awG_check).mono ?_
  rintro e w5 ⟨rfl, hb⟩
  have HB5 := Lib.hid (HB4.out.trans (hb.mono HB4.out.size))
  clear s0 s1 s2 s3 hb
  go_wp2_with fail
  go_ret
  exact ⟨rfl, HB5.out⟩
end
section
set_option maxRecDepth 100000
open Go.RowKit Cal
attribute [local go_sem] toList_mk mk_size bytes_append
/-- where the law stands: the deck in block D, the schema in block y -/
structure OsAt (D : Nat) (w : World) (y : Nat) (S : Nat → Prop) (vf vt vn vs : Value) (s : SchemaL) (wr : World) : Prop where
  m : Moved D w wr
  b : wr.heap[y]? = some (.cells #[vf, vt, vn, vs] 33 (0, 0))
  s : SchemaAt wr S vf vt vn vs s
  ne : ∀ b, S b → b ≠ D
  yD : y ≠ D
theorem OsAt.moved {D : Nat} {w : World} {y : Nat} {S : Nat → Prop} {vf vt vn vs : Value} {s : SchemaL} {wr wd : World} (h : OsAt D w y S vf vt vn vs s wr) (m : Moved D wr wd) : OsAt D w y S vf vt vn vs s wd :=
  ⟨h.m.trans m, m.blk h.yD h.b, h.s.moved h.ne m, h.ne, h.yD⟩
theorem OsAt.below {D : Nat} {w : World} {y : Nat} {S : Nat → Prop} {vf vt vn vs : Value} {s : SchemaL} {wr wd : World} (h : OsAt D w y S vf vt vn vs s wr) (hb : Below wr.heap.size wr wd) : OsAt D w y S vf vt vn vs s wd :=
  h.moved ((Moved.start h.m.deck).below hb)
theorem recs_small {s : SchemaL} {R : List RecL} (h : RecsOk s R) (hn : s.fields.length ≤ 1000) : (∀ r ∈ R, ∀ x ∈ r.vals, x.length ≤ 1000000) ∧ ∀ r ∈ R, r.vals.length ≤ 1000000 :=
  ⟨fun r hr x hx => by have := h.2 r hr x hx; omega, fun r hr => by have := (checkN_ok ((allN_ok h.1).2.2 r hr)).2.2.1; omega⟩
/-- the three cells of an element laid anew -/
theorem Vec.set3 {w : World} {S : Nat → Prop} {g n cap : Nat} {L : List RV} (h : Vec w S 3 encRV (.slice (some ⟨g, 0, none⟩) n cap) L) (j : Nat) (x : RV) :
    Vec (((w.setCell ⟨g, j * 3, none⟩ (.int .i64 x.id)).setCell ⟨g, j * 3 + 1, none⟩ (.int .i64 x.ver)).setCell ⟨g, j * 3 + 2, none⟩ (.slice x.a x.n x.c)) S 3 encRV (.slice (some ⟨g, 0, none⟩) n cap) (L.set j x) := by
  obtain ⟨a, cp, e, hc, h0⟩ := h
  cases e
  refine ⟨some ⟨g, 0, none⟩, _, by rw [List.length_set], by rw [List.length_set]; exact hc, fun hl => ?_⟩
  rw [List.length_set] at hl
  obtain ⟨b, off, e, hS, hb, hcell⟩ := h0 hl
  cases e
  refine ⟨g, 0, rfl, hS, by simpa [World.setCell] using hb, fun t y hy i u hu => ?_⟩
  have hi : i < 3 := by
    have := (List.getElem?_eq_some_iff.1 hu).1
    simpa [encRV] using this
  by_cases ht : t = j
  · subst ht
    have htl : t < L.length := by have := (List.getElem?_eq_some_iff.1 hy).1; simpa using this
    have hy2 : y = x := by
      rw [List.getElem?_set_self (by exact htl)] at hy
      exact (Option.some.inj hy).symm
    subst hy2
    have q : ∀ i, i < 3 → ∃ v, w.cell? ⟨g, t * 3 + i, none⟩ = some v := fun i hi => by
      have := hcell t L[t] (List.getElem?_eq_getElem htl) i _ (List.getElem?_eq_getElem (by simpa [encRV] using hi))
      rw [Nat.zero_add] at this
      exact ⟨_, this⟩
    obtain ⟨q0, e0⟩ := q 0 (by omega); obtain ⟨q1, e1⟩ := q 1 (by omega); obtain ⟨q2, e2⟩ := q 2 (by omega)
    have n01 : (⟨g, t * 3, none⟩ : Addr) ≠ ⟨g, t * 3 + 1, none⟩ := by simp
    have n02 : (⟨g, t * 3, none⟩ : Addr) ≠ ⟨g, t * 3 + 2, none⟩ := by simp
    have n12 : (⟨g, t * 3 + 1, none⟩ : Addr) ≠ ⟨g, t * 3 + 2, none⟩ := by simp
    rw [Nat.zero_add]
    match i, hu with
    | 0, hu =>
      cases hu
      show World.cell? _ ⟨g, t * 3, none⟩ = _
      rw [World.cell?_setCell_other _ _ _ _ n02.symm, World.cell?_setCell_other _ _ _ _ n01.symm]
      exact World.cell?_setCell_same _ _ _ e0
    | 1, hu =>
      cases hu
      rw [World.cell?_setCell_other _ _ _ _ n12.symm]
      exact World.cell?_setCell_same _ _ _ ((World.cell?_setCell_other _ _ _ _ n01).trans e1)
    | 2, hu =>
      cases hu
      exact World.cell?_setCell_same _ _ _ ((World.cell?_setCell_other _ _ _ _ n12).trans ((World.cell?_setCell_other _ _ _ _ n02).trans e2))
    | i + 3, hu => simp [encRV] at hu
  · rw [List.getElem?_set_ne (by omega)] at hy
    have h1 := hcell t y hy i u hu
    rw [Nat.zero_add] at h1 ⊢
    have n0 : (⟨g, j * 3, none⟩ : Addr) ≠ ⟨g, t * 3 + i, none⟩ := by intro e; injection e; omega
    have n1 : (⟨g, j * 3 + 1, none⟩ : Addr) ≠ ⟨g, t * 3 + i, none⟩ := by intro e; injection e; omega
    have n2 : (⟨g, j * 3 + 2, none⟩ : Addr) ≠ ⟨g, t * 3 + i, none⟩ := by intro e; injection e; omega
    rw [World.cell?_setCell_other _ _ _ _ n2, World.cell?_setCell_other _ _ _ _ n1, World.cell?_setCell_other _ _ _ _ n0]
    exact h1
theorem RecsVec.take {w : World} {S : Nat → Prop} {a : Option Addr} {n cap : Nat} {R : List RecL} (h : RecsVec w S (.slice a n cap) R) (i : Nat) (hi : i ≤ R.length) : RecsVec w S (.slice a i cap) (R.take i) := by
  obtain ⟨C, h1, h2, h3⟩ := h
  have hCl : C.length = R.length := by rw [← h2, List.length_map]
  refine ⟨C.take i, ?_, by rw [List.map_take, h2], fun x hx => h3 x (List.mem_of_mem_take hx)⟩
  obtain ⟨a', cp, e, hc, h0⟩ := h1
  cases e
  have hl : (C.take i).length = i := by rw [List.length_take]; omega
  refine ⟨_, _, by rw [hl], by rw [hl]; omega, fun hp => ?_⟩
  obtain ⟨b, off, e, hS, hb, hcell⟩ := h0 (by omega)
  refine ⟨b, off, e, hS, hb, fun j x hj => hcell j x ?_⟩
  rw [List.getElem?_take] at hj
  split at hj
  · exact hj
  · cases hj
end
section
def hexD : List UInt8 := [48, 49, 50, 51, 52, 53, 54, 55, 56, 57, 97, 98, 99, 100, 101, 102]
def digH (n : Nat) : UInt8 := hexD.getD n 48
/-- the value of a digit -/
def valH (c : UInt8) : Option Nat := if 48 ≤ c.toNat ∧ c.toNat ≤ 57 then some (c.toNat - 48) else if 97 ≤ c.toNat ∧ c.toNat ≤ 102 then some (c.toNat - 87) else none
theorem valH_dig (n : Nat) (h : n < 16) : valH (digH n) = some n := by
  have : ∀ k : Fin 16, valH (digH k) = some k.val := by decide
  exact this ⟨n, h⟩
/-- the last k digits, the highest first -/
def hexN : Nat → Nat → List UInt8
  | 0, _ => []
  | k + 1, n => hexN k (n / 16) ++ [digH (n % 16)]
theorem hexN_len (k : Nat) : ∀ n, (hexN k n).length = k := by
  induction k with
  | zero => intro n; rfl
  | succ k ih => intro n; rw [hexN, List.length_append, ih]; rfl
end
end Go.Proofs.YthnfmolkppbbpaaGreatDoor
section
namespace Go.Proofs
open Go.Shelf
def Tryz.laysM171_ren : Go.Shelf.Ren := ⟨fun | 171 => 39 | 243 => 71 | 246 => 105 | 283 => 137 | 284 => 138 | 285 => 139 | 286 => 140 | 129 => 186 | 317 => 185 | 318 => 187 | 319 => 188 | 320 => 189 | 337 => 221 | 338 => 222 | n => n, fun | 3 => 3 | 9 => 9 | 2 => 2 | 4 => 4 | 171 => 155 | 0 => 0 | 53 => 63 | 37 => 69 | 5 => 5 | 173 => 158 | 212 => 187 | 51 => 164 | 20 => 20 | 213 => 188 | 46 => 87 | 232 => 227 | 233 => 228 | n => n, fun | 17 => 1 | 18 => 4 | 19 => 5 | n => n⟩
theorem Tryz.laysM171 : Go.Proofs.LaysM.n171 Tryz.prog Tryz.laysM171_ren := {
  mixed := by kernel_rfl
  f129 := Tryz.func186.trans (congrArg some (by kernel_rfl))
  f171 := Tryz.func39.trans (congrArg some (by kernel_rfl))
  f243 := Tryz.func71.trans (congrArg some (by kernel_rfl))
  f246 := Tryz.func105.trans (congrArg some (by kernel_rfl))
  f283 := Tryz.func137.trans (congrArg some (by kernel_rfl))
  f284 := Tryz.func138.trans (congrArg some (by kernel_rfl))
  f285 := Tryz.func139.trans (congrArg some (by kernel_rfl))
  f286 := Tryz.func140.trans (congrArg some (by kernel_rfl))
  f317 := Tryz.func185.trans (congrArg some (by kernel_rfl))
  f318 := Tryz.func187.trans (congrArg some (by kernel_rfl))
  f319 := Tryz.func188.trans (congrArg some (by kernel_rfl))
  f320 := Tryz.func189.trans (congrArg some (by kernel_rfl))
  f337 := Tryz.func221.trans (congrArg some (by kernel_rfl))
  f338 := Tryz.func222.trans (congrArg some (by kernel_rfl))
  t0 := Tryz.underlying0
  a0 := Tryz.isAgg0
  z0 := Tryz.sizeOf0
  v0 := Tryz.zeroValue0
  t2 := Tryz.underlying2
  a2 := Tryz.isAgg2
  z2 := Tryz.sizeOf2
  v2 := Tryz.zeroValue2
  t3 := Tryz.underlying3
  a3 := Tryz.isAgg3
  z3 := Tryz.sizeOf3
  v3 := Tryz.zeroValue3
  t4 := Tryz.underlying4
  a4 := Tryz.isAgg4
  z4 := Tryz.sizeOf4
  v4 := Tryz.zeroValue4
  t5 := Tryz.underlying5
  a5 := Tryz.isAgg5
  z5 := Tryz.sizeOf5
  v5 := Tryz.zeroValue5
  t9 := Tryz.underlying9
  a9 := Tryz.isAgg9
  z9 := Tryz.sizeOf9
  v9 := Tryz.zeroValue9
  t20 := Tryz.underlying20
  a20 := Tryz.isAgg20
  z20 := Tryz.sizeOf20
  v20 := Tryz.zeroValue20
  t37 := Tryz.underlying69
  a37 := Tryz.isAgg69
  z37 := Tryz.sizeOf69
  v37 := Tryz.zeroValue69
  t46 := Tryz.underlying87
  a46 := Tryz.isAgg87
  z46 := Tryz.sizeOf87
  v46 := Tryz.zeroValue87
  t51 := Tryz.underlying164
  a51 := Tryz.isAgg164
  z51 := Tryz.sizeOf164
  v51 := Tryz.zeroValue164
  t53 := Tryz.underlying63
  a53 := Tryz.isAgg63
  z53 := Tryz.sizeOf63
  v53 := Tryz.zeroValue63
  t171 := Tryz.underlying155
  a171 := Tryz.isAgg155
  z171 := Tryz.sizeOf155
  v171 := Tryz.zeroValue155
  t173 := Tryz.underlying158
  a173 := Tryz.isAgg158
  z173 := Tryz.sizeOf158
  v173 := Tryz.zeroValue158
  t212 := Tryz.underlying187
  a212 := Tryz.isAgg187
  z212 := Tryz.sizeOf187
  v212 := Tryz.zeroValue187
  t213 := Tryz.underlying188
  a213 := Tryz.isAgg188
  z213 := Tryz.sizeOf188
  t232 := Tryz.underlying227
  a232 := Tryz.isAgg227
  z232 := Tryz.sizeOf227
  v232 := Tryz.zeroValue227
  t233 := Tryz.underlying228
  a233 := Tryz.isAgg228
  z233 := Tryz.sizeOf228
  v233 := Tryz.zeroValue228
  g17 := by kernel_rfl
  g18 := by kernel_rfl
  g19 := by kernel_rfl
  i0 := by kernel_rfl
  i2 := by kernel_rfl
  i3 := by kernel_rfl
  i4 := by kernel_rfl
  i5 := by kernel_rfl
  i9 := by kernel_rfl
  i20 := by kernel_rfl
  i37 := by kernel_rfl
  i46 := by kernel_rfl
  i51 := by kernel_rfl
  i53 := by kernel_rfl
  i171 := by kernel_rfl
  i173 := by kernel_rfl
  i212 := by kernel_rfl
  i232 := by kernel_rfl
  i233 := by kernel_rfl
  m17 := by kernel_rfl
  m18 := by kernel_rfl
  m19 := by kernel_rfl }
open Go.RowKit Go.Sort Go.Lib in
/-- strconv.Itoa: "Itoa is equivalent to FormatInt(int64(i), 10).": i's DECIMAL NUMERAL ('Lib.itoa': a '-' where i is negative, then the digits), FOR EVERY int. The world behind the call: the world before it, new blocks behind the heap (the library's 'var a [24]byte'), draws. (LAID: no walk: one application.) -/
theorem Tryz.strconv_Itoa (n : Int) (h0 : -9223372036854775808 ≤ n) (h1 : n ≤ 9223372036854775807) (w : World) (htab : Lib.TabIs Tryz.prog w "internal/strconv.uint64pow10" .u64 Lib.pow10Tab) :
    Calls Tryz.prog 39 #[.int .i64 n] w fun e w' => e = .returned (.string ⟨(Lib.itoa n).toArray⟩) ∧ ∃ k os, w' = grow (w.drewN k) os := Any.strconv_Itoa Tryz.laysM171 n h0 h1 w htab
def Tryz.laysC172_ren : Go.Shelf.Ren := ⟨fun | 172 => 117 | 244 => 162 | 245 => 163 | 247 => 203 | 279 => 204 | 280 => 205 | 281 => 206 | 282 => 207 | 287 => 228 | 316 => 229 | 171 => 39 | 205 => 230 | 321 => 246 | 322 => 247 | 243 => 71 | 246 => 105 | 283 => 137 | 284 => 138 | 285 => 139 | 286 => 140 | 129 => 186 | 317 => 185 | 318 => 187 | 319 => 188 | 320 => 189 | 337 => 221 | 338 => 222 | n => n, fun | 9 => 9 | 3 => 3 | 75 => 73 | 76 => 74 | 4 => 4 | 5 => 5 | 167 => 197 | 37 => 69 | 0 => 0 | 85 => 198 | 2 => 2 | 168 => 200 | 53 => 63 | 175 => 208 | 46 => 87 | 210 => 211 | 127 => 110 | 145 => 236 | 143 => 234 | 21 => 21 | 171 => 155 | 173 => 158 | 212 => 187 | 51 => 164 | 20 => 20 | 213 => 188 | 232 => 227 | 233 => 228 | 80 => 78 | n => n, fun | 15 => 2 | 16 => 3 | 17 => 1 | 18 => 4 | 19 => 5 | n => n⟩
theorem Tryz.laysC172 : Go.Proofs.LaysC.n172 Tryz.prog Tryz.laysC172_ren := {
  mixed := by kernel_rfl
  f129 := Tryz.func186.trans (congrArg some (by kernel_rfl))
  f171 := Tryz.func39.trans (congrArg some (by kernel_rfl))
  f172 := Tryz.func117.trans (congrArg some (by kernel_rfl))
  f205 := Tryz.func230.trans (congrArg some (by kernel_rfl))
  f243 := Tryz.func71.trans (congrArg some (by kernel_rfl))
  f244 := Tryz.func162.trans (congrArg some (by kernel_rfl))
  f245 := Tryz.func163.trans (congrArg some (by kernel_rfl))
  f246 := Tryz.func105.trans (congrArg some (by kernel_rfl))
  f247 := Tryz.func203.trans (congrArg some (by kernel_rfl))
  f279 := Tryz.func204.trans (congrArg some (by kernel_rfl))
  f280 := Tryz.func205.trans (congrArg some (by kernel_rfl))
  f281 := Tryz.func206.trans (congrArg some (by kernel_rfl))
  f282 := Tryz.func207.trans (congrArg some (by kernel_rfl))
  f283 := Tryz.func137.trans (congrArg some (by kernel_rfl))
  f284 := Tryz.func138.trans (congrArg some (by kernel_rfl))
  f285 := Tryz.func139.trans (congrArg some (by kernel_rfl))
  f286 := Tryz.func140.trans (congrArg some (by kernel_rfl))
  f287 := Tryz.func228.trans (congrArg some (by kernel_rfl))
  f316 := Tryz.func229.trans (congrArg some (by kernel_rfl))
  f317 := Tryz.func185.trans (congrArg some (by kernel_rfl))
  f318 := Tryz.func187.trans (congrArg some (by kernel_rfl))
  f319 := Tryz.func188.trans (congrArg some (by kernel_rfl))
  f320 := Tryz.func189.trans (congrArg some (by kernel_rfl))
  f321 := Tryz.func246.trans (congrArg some (by kernel_rfl))
  f322 := Tryz.func247.trans (congrArg some (by kernel_rfl))
  f337 := Tryz.func221.trans (congrArg some (by kernel_rfl))
  f338 := Tryz.func222.trans (congrArg some (by kernel_rfl))
  t0 := Tryz.underlying0
  a0 := Tryz.isAgg0
  z0 := Tryz.sizeOf0
  v0 := Tryz.zeroValue0
  t2 := Tryz.underlying2
  a2 := Tryz.isAgg2
  z2 := Tryz.sizeOf2
  v2 := Tryz.zeroValue2
  t3 := Tryz.underlying3
  a3 := Tryz.isAgg3
  z3 := Tryz.sizeOf3
  v3 := Tryz.zeroValue3
  t4 := Tryz.underlying4
  a4 := Tryz.isAgg4
  z4 := Tryz.sizeOf4
  v4 := Tryz.zeroValue4
  t5 := Tryz.underlying5
  a5 := Tryz.isAgg5
  z5 := Tryz.sizeOf5
  v5 := Tryz.zeroValue5
  t9 := Tryz.underlying9
  a9 := Tryz.isAgg9
  z9 := Tryz.sizeOf9
  v9 := Tryz.zeroValue9
  t20 := Tryz.underlying20
  a20 := Tryz.isAgg20
  z20 := Tryz.sizeOf20
  v20 := Tryz.zeroValue20
  t21 := Tryz.underlying21
  a21 := Tryz.isAgg21
  z21 := Tryz.sizeOf21
  v21 := Tryz.zeroValue21
  t37 := Tryz.underlying69
  a37 := Tryz.isAgg69
  z37 := Tryz.sizeOf69
  v37 := Tryz.zeroValue69
  t46 := Tryz.underlying87
  a46 := Tryz.isAgg87
  z46 := Tryz.sizeOf87
  v46 := Tryz.zeroValue87
  t51 := Tryz.underlying164
  a51 := Tryz.isAgg164
  z51 := Tryz.sizeOf164
  v51 := Tryz.zeroValue164
  t53 := Tryz.underlying63
  a53 := Tryz.isAgg63
  z53 := Tryz.sizeOf63
  v53 := Tryz.zeroValue63
  t75 := Tryz.underlying73
  a75 := Tryz.isAgg73
  z75 := Tryz.sizeOf73
  v75 := Tryz.zeroValue73
  t76 := Tryz.underlying74
  a76 := Tryz.isAgg74
  z76 := Tryz.sizeOf74
  v76 := Tryz.zeroValue74
  t85 := Tryz.underlying198
  a85 := Tryz.isAgg198
  z85 := Tryz.sizeOf198
  v85 := Tryz.zeroValue198
  t127 := Tryz.underlying110
  a127 := Tryz.isAgg110
  z127 := Tryz.sizeOf110
  v127 := Tryz.zeroValue110
  t143 := Tryz.underlying234
  a143 := Tryz.isAgg234
  z143 := Tryz.sizeOf234
  v143 := Tryz.zeroValue234
  t145 := Tryz.underlying236
  a145 := Tryz.isAgg236
  z145 := Tryz.sizeOf236
  v145 := Tryz.zeroValue236
  t167 := Tryz.underlying197
  a167 := Tryz.isAgg197
  z167 := Tryz.sizeOf197
  v167 := Tryz.zeroValue197
  t168 := Tryz.underlying200
  a168 := Tryz.isAgg200
  z168 := Tryz.sizeOf200
  v168 := Tryz.zeroValue200
  t171 := Tryz.underlying155
  a171 := Tryz.isAgg155
  z171 := Tryz.sizeOf155
  v171 := Tryz.zeroValue155
  t173 := Tryz.underlying158
  a173 := Tryz.isAgg158
  z173 := Tryz.sizeOf158
  v173 := Tryz.zeroValue158
  t175 := Tryz.underlying208
  a175 := Tryz.isAgg208
  z175 := Tryz.sizeOf208
  v175 := Tryz.zeroValue208
  t210 := Tryz.underlying211
  a210 := Tryz.isAgg211
  z210 := Tryz.sizeOf211
  v210 := Tryz.zeroValue211
  t212 := Tryz.underlying187
  a212 := Tryz.isAgg187
  z212 := Tryz.sizeOf187
  v212 := Tryz.zeroValue187
  t213 := Tryz.underlying188
  a213 := Tryz.isAgg188
  z213 := Tryz.sizeOf188
  t232 := Tryz.underlying227
  a232 := Tryz.isAgg227
  z232 := Tryz.sizeOf227
  v232 := Tryz.zeroValue227
  t233 := Tryz.underlying228
  a233 := Tryz.isAgg228
  z233 := Tryz.sizeOf228
  v233 := Tryz.zeroValue228
  g15 := by kernel_rfl
  g16 := by kernel_rfl
  g17 := by kernel_rfl
  g18 := by kernel_rfl
  g19 := by kernel_rfl
  t80 := Tryz.underlying78
  a80 := Tryz.isAgg78
  z80 := Tryz.sizeOf78
  v80 := Tryz.zeroValue78
  i0 := by kernel_rfl
  i2 := by kernel_rfl
  i3 := by kernel_rfl
  i4 := by kernel_rfl
  i5 := by kernel_rfl
  i9 := by kernel_rfl
  i20 := by kernel_rfl
  i21 := by kernel_rfl
  i37 := by kernel_rfl
  i46 := by kernel_rfl
  i51 := by kernel_rfl
  i53 := by kernel_rfl
  i75 := by kernel_rfl
  i76 := by kernel_rfl
  i80 := by kernel_rfl
  i85 := by kernel_rfl
  i127 := by kernel_rfl
  i143 := by kernel_rfl
  i145 := by kernel_rfl
  i167 := by kernel_rfl
  i168 := by kernel_rfl
  i171 := by kernel_rfl
  i173 := by kernel_rfl
  i175 := by kernel_rfl
  i210 := by kernel_rfl
  i212 := by kernel_rfl
  i232 := by kernel_rfl
  i233 := by kernel_rfl
  m15 := by kernel_rfl
  m16 := by kernel_rfl
  m17 := by kernel_rfl
  m18 := by kernel_rfl
  m19 := by kernel_rfl
  c0 := by kernel_rfl
  c2 := by kernel_rfl
  c3 := by kernel_rfl
  c4 := by kernel_rfl
  c5 := by kernel_rfl
  c9 := by kernel_rfl
  c20 := by kernel_rfl
  c21 := by kernel_rfl
  c37 := by kernel_rfl
  c46 := by kernel_rfl
  c51 := by kernel_rfl
  c53 := by kernel_rfl
  c75 := by kernel_rfl
  c76 := by kernel_rfl
  c80 := by kernel_rfl
  c85 := by kernel_rfl
  c127 := by kernel_rfl
  c143 := by kernel_rfl
  c145 := by kernel_rfl
  c167 := by kernel_rfl
  c168 := by kernel_rfl
  c171 := by kernel_rfl
  c173 := by kernel_rfl
  c175 := by kernel_rfl
  c210 := by kernel_rfl
  c212 := by kernel_rfl
  c213 := by kernel_rfl
  c232 := by kernel_rfl
  c233 := by kernel_rfl }
open Go.RowKit in
/-- strconv.Atoi, AT EVERY STRING THAT SPELLS AN int ('Lib.atoiAll .. = .ok v'; of whatever length: leading zeros count): v, AND NO ERROR. The world: as it was, or with the one new row that '[]byte(..)' lays. (LAID: no walk: one application.) -/
theorem Tryz.strconv_Atoi_ok (s : ByteArray) (hmax : s.size ≤ 9223372036854775806) (v : Int) (h : Lib.atoiAll s.data.toList = .ok v) (w : World) :
    Calls Tryz.prog 117 #[.string s] w fun e w' => e = .returned (.tuple #[.int .i64 v, .nilIface]) ∧ (w' = w ∨ ∃ t, w' = Lib.bytesWorld w 5 t) := Any.strconv_Atoi_ok Tryz.laysC172 s hmax v h w
open Go.RowKit in
/-- strconv.Atoi, AT EVERY STRING THAT IS NO DECIMAL NUMERAL ('.syntax'): 0, AND AN ERROR THAT IS NOT nil: a *NumError in a new block N: {Func: "Atoi", Num: s's bytes, Err: what the variable ErrSyntax holds}. Of what was there nothing has turned. (LAID: no walk: one application.) -/
theorem Tryz.strconv_Atoi_syntax (s : ByteArray) (hlim : s.size ≤ 281474976710656) (h : Lib.atoiAll s.data.toList = .«syntax») (ev : Value) (w : World) (hv : w.cell? ⟨2, 0, none⟩ = some ev) (hev : ev = .nilIface ∨ ∃ te pe, ev = .iface te pe) :
    Calls Tryz.prog 117 #[.string s] w fun e w' => ∃ N, e = .returned (.tuple #[.int .i64 (0), .iface 200 (.pointer (some ⟨N, 0, none⟩))]) ∧ w.heap.size ≤ N ∧ w'.heap[N]? = some (.cells #[.string ⟨#[65, 116, 111, 105]⟩, .string s, ev] 211 (0, 0)) ∧ Below w.heap.size w w' := Any.strconv_Atoi_syntax Tryz.laysC172 s hlim h ev w hv hev
open Go.RowKit in
/-- strconv.Atoi, AT EVERY NUMERAL THAT NO int HOLDS ('.range'): THE GREATEST OR THE LEAST int, BY THE SIGN ('Lib.atoiSat'), AND AN ERROR THAT IS NOT nil: a *NumError in a new block N: {Func: "Atoi", Num: s's bytes, Err: what the variable ErrRange holds}. Of what was there nothing has turned. (LAID: no walk: one application.) -/
theorem Tryz.strconv_Atoi_range (s : ByteArray) (hlim : s.size ≤ 281474976710656) (h : Lib.atoiAll s.data.toList = .range) (ev : Value) (w : World) (hv : w.cell? ⟨3, 0, none⟩ = some ev) (hev : ev = .nilIface ∨ ∃ te pe, ev = .iface te pe) :
    Calls Tryz.prog 117 #[.string s] w fun e w' => ∃ N, e = .returned (.tuple #[.int .i64 (Lib.atoiSat s.data.toList), .iface 200 (.pointer (some ⟨N, 0, none⟩))]) ∧ w.heap.size ≤ N ∧ w'.heap[N]? = some (.cells #[.string ⟨#[65, 116, 111, 105]⟩, .string s, ev] 211 (0, 0)) ∧ Below w.heap.size w w' := Any.strconv_Atoi_range Tryz.laysC172 s hlim h ev w hv hev
end Go.Proofs
end
namespace Go.Proofs.YthnfmolkppbbpaaGreatDoor
section
theorem dec_digit {c : UInt8} {n : Nat} (h : c ∈ Lib.decDigits n) : 48 ≤ c.toNat ∧ c.toNat ≤ 57 := by
  induction n using Nat.strongRecOn with
  | _ n ih =>
    rw [Lib.decDigits] at h
    split at h
    · next hlt =>
      simp only [List.mem_singleton] at h
      subst h
      rw [UInt8.toNat_ofNat']; omega
    · next hge =>
      rcases List.mem_append.1 h with h1 | h1
      · exact ih (n / 10) (by omega) h1
      · simp only [List.mem_singleton] at h1
        subst h1
        rw [UInt8.toNat_ofNat']; omega
theorem dec_ne (n : Nat) : Lib.decDigits n ≠ [] := by
  intro h
  have := Lib.decDigits_length n
  rw [h] at this
  have h1 := Lib.nDigits_pos n
  simp at this; omega
theorem decFrom_append (l m : List UInt8) : ∀ acc, Lib.decFrom acc (l ++ m) = match Lib.decFrom acc l with | some a => Lib.decFrom a m | none => none := by
  induction l with
  | nil => intro acc; rfl
  | cons c l ih =>
    intro acc
    rw [List.cons_append, Lib.decFrom, Lib.decFrom]
    cases Lib.digitVal c with
    | none => rfl
    | some d => exact ih _
theorem dval (d : Nat) (h : d < 10) : Lib.digitVal (UInt8.ofNat (48 + d)) = some d := by
  have : ∀ k : Fin 10, Lib.digitVal (UInt8.ofNat (48 + k.val)) = some k.val := by decide
  exact this ⟨d, h⟩
/-- a numeral's value -/
theorem decFrom_digits (n : Nat) : Lib.decFrom 0 (Lib.decDigits n) = some n := by
  induction n using Nat.strongRecOn with
  | _ n ih =>
    rw [Lib.decDigits]
    split
    · next hlt =>
      rw [Lib.decFrom, dval n hlt]
      show Lib.decFrom (0 * 10 + n) [] = _
      rw [Lib.decFrom]; simp
    · next hge =>
      rw [decFrom_append, ih (n / 10) (by omega)]
      show Lib.decFrom (n / 10) [UInt8.ofNat (48 + n % 10)] = _
      rw [Lib.decFrom, dval (n % 10) (Nat.mod_lt _ (by decide))]
      show Lib.decFrom (n / 10 * 10 + n % 10) [] = _
      rw [Lib.decFrom]
      congr 1; omega
theorem atoi_digits (n : Nat) : Lib.atoi (Lib.decDigits n) = some (n : Int) := by
  cases h : Lib.decDigits n with
  | nil => exact absurd h (dec_ne n)
  | cons b r =>
    have hb := dec_digit (c := b) (n := n) (by rw [h]; exact List.mem_cons_self)
    have h1 : (b == 45) = false := by
      rw [beq_eq_false_iff_ne]
      intro e; rw [e] at hb; simp at hb
    have h2 : (b == 43) = false := by
      rw [beq_eq_false_iff_ne]
      intro e; rw [e] at hb; simp at hb
    unfold Lib.atoi
    dsimp only
    rw [h1, h2, if_neg (by decide), if_neg (by decide)]
    unfold Lib.decNat
    rw [← h, decFrom_digits]
    simp [h]
/-- a numeral of a number below 10^k has at most k digits -/
theorem dec_most {n k : Nat} (hk : 1 ≤ k) (h : n < 10 ^ k) : (Lib.decDigits n).length ≤ k := by
  rw [Lib.decDigits_length]
  induction k generalizing n with
  | zero => omega
  | succ k ih =>
    by_cases hn : n < 10
    · rw [Lib.nDigits_small hn]; omega
    · rw [Lib.nDigits_big hn]
      have hk1 : 1 ≤ k := by
        rcases Nat.eq_zero_or_pos k with h0 | h0
        · subst h0; simp at h; omega
        · exact h0
      have := ih (n := n / 10) hk1 (by rw [Nat.pow_succ] at h; omega)
      omega
end
section
set_option maxRecDepth 100000
open Go.RowKit
def IfaceAt (w : World) (g : Nat) : Prop := ∃ ev, w.cell? ⟨g, 0, none⟩ = some ev ∧ (ev = .nilIface ∨ ∃ te pe, ev = .iface te pe)
theorem IfaceAt.old {w w' : World} {g : Nat} (h : IfaceAt w g) (hb : Below w.heap.size w w') : IfaceAt w' g := by
  obtain ⟨ev, h1, h2⟩ := h
  exact ⟨ev, (hb.cell (p := ⟨g, 0, none⟩) (World.block_lt_of_cell? _ ⟨_, 0, none⟩ h1)).trans h1, h2⟩
/-- what the library's variables hold -/
structure VarsAt (w : World) : Prop where
  tab : Lib.TabIs Tryz.prog w "internal/strconv.uint64pow10" .u64 Lib.pow10Tab
  e0 : IfaceAt w (Tryz.laysC172_ren.g 15)
  e1 : IfaceAt w (Tryz.laysC172_ren.g 16)
  m : MaxAt w
theorem tab_old {w w' : World} {n : String} {k : IntKind} {zs : List Int} (h : Lib.TabIs Tryz.prog w n k zs) (hb : Below w.heap.size w w') : Lib.TabIs Tryz.prog w' n k zs := by
  unfold Lib.TabIs World.var? at h ⊢
  cases hg : Tryz.prog.globalNamed n with
  | none => simp [hg] at h
  | some g =>
    simp only [hg, Option.bind_some] at h ⊢
    rw [← h]
    have hlt : g < w.heap.size := by
      rcases Nat.lt_or_ge g w.heap.size with h' | h'
      · exact h'
      · simp [Array.getElem?_eq_none h'] at h
    rw [hb.block g hlt]
theorem VarsAt.old {w w' : World} (h : VarsAt w) (hb : Below w.heap.size w w') : VarsAt w' := ⟨tab_old h.tab hb, h.e0.old hb, h.e1.old hb, h.m.old hb⟩
theorem below_growR (w : World) (k : Nat) (os : Array Obj) : Below w.heap.size w (Sort.grow (w.drewN k) os) := by
  refine ((below_drewN (Below.refl _ w) k).trans ?_)
  exact ⟨rfl, rfl, rfl, by simp [Sort.grow, World.drewN], fun i hi => by
    have hi' : i < (w.drewN k).heap.size := by simpa [World.drewN] using hi
    simp only [Sort.grow]
    rw [Array.getElem?_append_left hi']⟩
/-- Itoa at a number that is not negative -/
theorem itoa_any (n : Nat) (hn : n ≤ 9223372036854775807) (w : World) (hv : VarsAt w) : Calls Tryz.prog 39 #[.int .i64 n] w fun e w' => e = .returned (strV (Lib.decDigits n)) ∧ Below w.heap.size w w' := by
  refine (Tryz.strconv_Itoa (n : Int) (by omega) (by omega) w hv.tab).mono ?_
  rintro e w' ⟨rfl, k, os, rfl⟩
  refine ⟨by rw [Lib.itoa_nonneg], below_growR _ _ _⟩
def atoiV (t : List UInt8) : Int := match Lib.atoiAll t with
  | .ok v => v
  | .range => Lib.atoiSat t
  | _ => 0
theorem atoiV_digits {n : Nat} (h : n < 10000000) : atoiV (Lib.decDigits n) = n := by
  have hl : (Lib.decDigits n).length ≤ 18 := Nat.le_trans (dec_most (k := 7) (by decide) (by simpa using h)) (by decide)
  unfold atoiV
  rw [Lib.atoiAll_short _ hl, atoi_digits]
  rfl
end
section
set_option maxRecDepth 100000
open Go.RowKit Cal
/-- the line of a record -/
def lineR (r : RecL) : List UInt8 := joinC 9 (Lib.decDigits r.id.toNat :: Lib.decDigits r.ver.toNat :: r.vals)
/-- the checksum's digits -/
def sumT (t : List UInt8) : List UInt8 := hexN 16 (partsP 0 0 [t]).toNat
def rowR (r : RecL) : List UInt8 := lineR r ++ 9 :: sumT (lineR r)
def endS : List UInt8 := [101, 110, 100, 32]
def endR (n : Nat) : List UInt8 := endS ++ Lib.decDigits n
/-- rows, each with its line feed -/
def rowsT (X : List (List UInt8)) : List UInt8 := X.flatMap fun x => x ++ [10]
def fileR (R : List RecL) : List UInt8 := rowsT (R.map rowR ++ [endR R.length])
/-- a text is the number that Atoi reads of it -/
def isNum (t : List UInt8) : Bool := match Lib.atoiAll t with
  | .ok _ => true
  | _ => false
def numOk (t : List UInt8) : Bool := isNum t && (decide (t.length ≤ 7) && (decide (0 ≤ atoiV t) && (Lib.decDigits (atoiV t).toNat == t)))
def recW (W : List (List UInt8)) : RecL := ⟨atoiV (W.getD 0 []), atoiV (W.getD 1 []), W.drop 2⟩
/-- the record with a line, and the error -/
def parseW (s : SchemaL) (W : List (List UInt8)) : RecL × Int :=
  if W.length = s.fields.length + 2 then
    (if (numOk (W.getD 0 []) && numOk (W.getD 1 [])) = true then (if checkI s (recW W) = 0 then (recW W, 0) else (noRec, checkI s (recW W))) else (noRec, 14))
  else (noRec, 14)
def parseR (s : SchemaL) (t : List UInt8) : RecL × Int := parseW s (splC 9 [] t)
/-- a text cut at the last byte c -/
def cutLast (c : UInt8) : List UInt8 → Option (List UInt8 × List UInt8)
  | [] => none
  | x :: r => match cutLast c r with
    | some (a, b) => some (x :: a, b)
    | none => if x = c then some ([], r) else none
def digB (t : List UInt8) : Bool := (t.length == 16) && t.all fun c => (valH c).isSome
def lastId (l : List RecL) : Option Int := l.getLast?.map (·.id)
/-- the record of a row behind others, and the error -/
def takeN (s : SchemaL) (l : List RecL) (row : List UInt8) : RecL × Int :=
  match cutLast 9 row with
  | none => (noRec, 14)
  | some (a, b) =>
    if digB b = true then
      (if b = sumT a then
        (if (parseR s a).2 = 0 then
          (if l.length = 64 then (noRec, 1) else if notB (lastId l) (parseR s a).1.id = true then (noRec, 12) else ((parseR s a).1, 0))
        else (noRec, (parseR s a).2))
      else (noRec, 16))
    else (noRec, 14)
def isEnd (row : List UInt8) : Bool := decide (endS.length ≤ row.length) && (row.take endS.length == endS)
/-- what is read of rows, n bytes in all, behind records l that have at bytes -/
def readA (s : SchemaL) (n : Nat) : List RecL → Nat → List (List UInt8 × List UInt8) → List RecL × Nat × Int
  | l, at', [] => (l, at', 15)
  | l, at', (row, rest) :: q =>
    if isEnd row = true then (if row = endR l.length ∧ rest = [] then (l, n, 0) else (l, at', 14))
    else if (takeN s l row).2 = 0 then readA s n (l ++ [(takeN s l row).1]) (n - rest.length) q else (l, at', (takeN s l row).2)
def freadN (s : SchemaL) (t : List UInt8) : List RecL × Nat × Int := if checkS s = 0 then readA s t.length [] 0 (rowsL t) else ([], 0, checkS s)
theorem cutLast_no (c : UInt8) : ∀ b : List UInt8, c ∉ b → cutLast c b = none
  | [], _ => rfl
  | x :: r, h => by
    rw [cutLast, cutLast_no c r (fun e => h (List.mem_cons_of_mem _ e))]
    exact if_neg fun e => h (by rw [e]; exact List.mem_cons_self)
theorem cutLast_at (c : UInt8) (b : List UInt8) (h : c ∉ b) : ∀ a, cutLast c (a ++ c :: b) = some (a, b)
  | [] => by rw [List.nil_append, cutLast, cutLast_no c b h]; exact if_pos rfl
  | x :: a => by rw [List.cons_append, cutLast, cutLast_at c b h a]
theorem cutLast_some {c : UInt8} : ∀ {t a b : List UInt8}, cutLast c t = some (a, b) → t = a ++ c :: b ∧ c ∉ b
  | [], a, b, h => by cases h
  | x :: r, a, b, h => by
    rw [cutLast] at h
    split at h
    · next a' b' e =>
      cases h
      obtain ⟨h1, h2⟩ := cutLast_some e
      exact ⟨by rw [h1]; rfl, h2⟩
    · next e =>
      split at h
      · next hx =>
        cases h
        refine ⟨by rw [hx]; rfl, fun hm => ?_⟩
        obtain ⟨p, q, e1, h3⟩ : ∃ p q, r = p ++ c :: q ∧ c ∉ q := by
          clear e hx
          induction r with
          | nil => cases hm
          | cons y r ih =>
            by_cases hr : c ∈ r
            · obtain ⟨p, q, e1, h3⟩ := ih hr
              exact ⟨y :: p, q, by rw [e1]; rfl, h3⟩
            · rcases List.mem_cons.1 hm with h1 | h1
              · exact ⟨[], r, by rw [h1]; rfl, hr⟩
              · exact absurd h1 hr
        rw [e1, cutLast_at c q h3] at e
        cases e
      · cases h
theorem cutLast_none {c : UInt8} {t : List UInt8} (h : cutLast c t = none) : c ∉ t := by
  intro hm
  induction t with
  | nil => cases hm
  | cons x r ih =>
    rw [cutLast] at h
    split at h
    · cases h
    · next e =>
      split at h
      · cases h
      · next hx =>
        rcases List.mem_cons.1 hm with h1 | h1
        · exact hx h1.symm
        · exact ih e h1
theorem hexN_low (k : Nat) : ∀ n, ∀ c ∈ hexN k n, 48 ≤ c.toNat ∧ c.toNat ≤ 102 := by
  induction k with
  | zero => intro n c h; simp [hexN] at h
  | succ k ih =>
    intro n c h
    rw [hexN] at h
    rcases List.mem_append.1 h with h1 | h1
    · exact ih _ c h1
    · simp at h1; subst h1
      have : ∀ m : Fin 16, 48 ≤ (digH m.val).toNat ∧ (digH m.val).toNat ≤ 102 := by decide
      exact this ⟨n % 16, Nat.mod_lt _ (by decide)⟩
theorem hexN_dig (k : Nat) : ∀ n, (hexN k n).all (fun c => (valH c).isSome) = true := by
  induction k with
  | zero => intro n; rfl
  | succ k ih =>
    intro n
    rw [hexN, List.all_append, ih, Bool.true_and, List.all_cons, List.all_nil, Bool.and_true, valH_dig _ (Nat.mod_lt _ (by decide))]; rfl
theorem sumT_len (t : List UInt8) : (sumT t).length = 16 := hexN_len 16 _
theorem sumT_dig (t : List UInt8) : digB (sumT t) = true := by unfold digB; rw [sumT_len, Bool.and_eq_true]; exact ⟨rfl, hexN_dig 16 _⟩
theorem sumT_no {t : List UInt8} {c : UInt8} (hc : c.toNat < 48) : c ∉ sumT t := fun h => by have := hexN_low 16 _ c h; omega
theorem dec_no {n : Nat} {c : UInt8} (hc : c.toNat < 48) : c ∉ Lib.decDigits n := fun h => by have := dec_digit h; omega
/-- bytes of values in normal form -/
def inkB (c : UInt8) : Prop := 32 ≤ c.toNat
theorem okB_ink {c : UInt8} (h : okB c = true) : inkB c := by
  unfold inkB
  unfold okB isLow isDgt at h
  simp only [Bool.or_eq_true, Bool.and_eq_true, decide_eq_true_eq, beq_iff_eq, UInt8.le_iff_toNat_le] at h
  rcases h with (⟨h1, _⟩ | ⟨h1, _⟩) | h1
  · have : (97 : UInt8).toNat = 97 := rfl
    omega
  · have : (48 : UInt8).toNat = 48 := rfl
    omega
  · subst h1; decide
theorem numFrom_ink : ∀ (l : List UInt8) (n m : Int), numFrom n l = some m → ∀ c ∈ l, inkB c
  | [], n, m, _, c, hc => by cases hc
  | x :: l, n, m, h, c, hc => by
    rw [numFrom] at h
    split at h
    · next hx =>
      rcases List.mem_cons.1 hc with rfl | h1
      · unfold inkB; omega
      · exact numFrom_ink l _ m h c h1
    · cases h
theorem numI_ink {l : List UInt8} (h : 0 ≤ numI l) : ∀ c ∈ l, inkB c := by
  unfold numI at h
  cases e : numFrom 0 l with
  | none => rw [e] at h; simp at h
  | some m => exact numFrom_ink l 0 m e
theorem readB_ink {l : List UInt8} (h : readB l = true) : ∀ c ∈ l, inkB c := by
  unfold readB at h
  cases hd : decide (l.length = 8)
  · rw [hd] at h; cases h
  · rw [hd] at h
    have hv : vldB (numI (l.take 4)) (numI ((l.drop 4).take 2)) (numI ((l.drop 6).take 2)) = true := h
    unfold vldB at hv
    simp only [decide_eq_true_eq] at hv
    have hl : l.length = 8 := by simpa using hd
    intro c hc
    have e : l = l.take 4 ++ ((l.drop 4).take 2 ++ (l.drop 6).take 2) := by
      have h1 : (l.drop 6).take 2 = l.drop 6 := List.take_of_length_le (by simp; omega)
      have h2 : l.drop 4 = (l.drop 4).take 2 ++ l.drop 6 := by
        have := (List.take_append_drop 2 (l.drop 4)).symm
        rwa [List.drop_drop] at this
      rw [h1, ← h2, List.take_append_drop]
    rw [e] at hc
    rcases List.mem_append.1 hc with h1 | h1
    · exact numI_ink (by omega) c h1
    · rcases List.mem_append.1 h1 with h2 | h2
      · exact numI_ink (by omega) c h2
      · exact numI_ink (by omega) c h2
theorem own_ink {k : Int} {r : RulesL} {l : List UInt8} (h : ownK k r l = true) (hk : k = 1 ∨ k = 2 ∨ k = 3 ∨ k = 4) : ∀ c ∈ l, inkB c := by
  unfold ownK at h
  rcases hk with rfl | rfl | rfl | rfl
  · obtain ⟨_, h2⟩ := own_small (show isOwn (nameN r l) l = true from h) (nameN_form r l)
    obtain ⟨M, g1, g2, _⟩ := nameN_toks h2
    intro c hc
    rw [g2] at hc
    exact okB_ink (join_ok M g1 c hc)
  · exact readB_ink (show readB l = true from h)
  · obtain ⟨_, h2⟩ := own_small (show isOwn (codeN l) l = true from h) (codeN_form l)
    unfold codeN at h2
    split at h2
    · split at h2
      · cases h2
      · have e : (toks (foldL l)).flatten = l := congrArg Prod.fst h2
        intro c hc
        rw [← e] at hc
        obtain ⟨t, ht, hct⟩ := List.mem_flatten.1 hc
        exact okB_ink ((toks_ok l t ht).2 c hct).1
    · cases h2
  · obtain ⟨_, h2⟩ := own_small (show isOwn (addrN r l) l = true from h) (addrN_form r l)
    obtain ⟨M, g1, g2, _⟩ := addrN_toks h2
    intro c hc
    rw [g2] at hc
    exact okB_ink (join_ok M g1 c hc)
theorem normal_ink {s : SchemaL} {f : Int} {l : List UInt8} (h : normalB s f l = true) : l.length ≤ 64 ∧ ∀ c ∈ l, inkB c := by
  unfold normalB at h
  split at h
  · next h0 =>
    split at h
    · next h1 => subst h1; exact ⟨by simp, fun c hc => by cases hc⟩
    · exact ⟨(own_facts h (findN_kind h0)).1, own_ink h (findN_kind h0)⟩
  · cases h
theorem normA_ink {s : SchemaL} {V : List (List UInt8)} {i : Nat} (h : normA s i V = true) : ∀ t ∈ V, t.length ≤ 64 ∧ ∀ c ∈ t, inkB c := by
  intro t ht
  obtain ⟨j, hj, rfl⟩ := List.getElem_of_mem ht
  have := normA_get s V i h j hj
  have e : V.getD j [] = V[j] := by simp [List.getD, List.getElem?_eq_getElem hj]
  rw [e] at this
  exact normal_ink this
theorem checkI_ok {s : SchemaL} {r : RecL} (h : checkI s r = 0) : (1 ≤ r.id ∧ r.id ≤ 1048576 ∧ 1 ≤ r.ver ∧ r.ver ≤ 1048576) ∧ r.vals.length = s.fields.length ∧ ∀ t ∈ r.vals, t.length ≤ 64 ∧ ∀ c ∈ t, inkB c := by
  unfold checkI at h
  split at h
  · next h1 =>
    simp only [Bool.and_eq_true, beq_iff_eq] at h1
    have h2 := h1.1.1
    unfold numberedB at h2
    simp only [Bool.and_eq_true, decide_eq_true_eq] at h2
    exact ⟨by omega, h1.1.2, normA_ink h1.2⟩
  · cases h
theorem ink_no {t : List UInt8} {c : UInt8} (h : ∀ c ∈ t, inkB c) (hc : c.toNat < 32) : c ∉ t := fun e => by have := h c e; unfold inkB at this; omega
/-- the words of a record's line -/
def lineWs (r : RecL) : List (List UInt8) := Lib.decDigits r.id.toNat :: Lib.decDigits r.ver.toNat :: r.vals
theorem lineWs_no {s : SchemaL} {r : RecL} (h : checkI s r = 0) {c : UInt8} (hc : c.toNat < 32) : ∀ t ∈ lineWs r, c ∉ t := by
  obtain ⟨_, _, h3⟩ := checkI_ok h
  intro t ht
  unfold lineWs at ht
  rcases List.mem_cons.1 ht with rfl | h1
  · exact dec_no (by omega)
  · rcases List.mem_cons.1 h1 with rfl | h2
    · exact dec_no (by omega)
    · exact ink_no (h3 t h2).2 hc
theorem line_split {s : SchemaL} {r : RecL} (h : checkI s r = 0) : splC 9 [] (lineR r) = lineWs r := splC_join 9 _ (by simp) (lineWs_no h (by decide))
theorem numOk_dec {n : Nat} (h : n < 10000000) : numOk (Lib.decDigits n) = true := by
  have hl : (Lib.decDigits n).length ≤ 7 := dec_most (k := 7) (by decide) (by simpa using h)
  have hv := atoiV_digits h
  unfold numOk
  rw [hv]
  have hi : isNum (Lib.decDigits n) = true := by
    unfold isNum
    rw [Lib.atoiAll_short _ (by omega), atoi_digits]; rfl
  rw [hi, decide_eq_true hl]
  simp
/-- a line leads back to its record -/
theorem parse_lineR {s : SchemaL} {r : RecL} (h : checkI s r = 0) : parseR s (lineR r) = (r, 0) := by
  obtain ⟨h1, h2, _⟩ := checkI_ok h
  unfold parseR
  rw [line_split h]
  unfold parseW
  rw [if_pos (by unfold lineWs; simp [h2])]
  have e : recW (lineWs r) = r := by
    unfold recW
    have e1 : (lineWs r).getD 0 [] = Lib.decDigits r.id.toNat := rfl
    have e2 : (lineWs r).getD 1 [] = Lib.decDigits r.ver.toNat := rfl
    have e3 : (lineWs r).drop 2 = r.vals := rfl
    rw [e1, e2, e3, atoiV_digits (by omega), atoiV_digits (by omega)]
    obtain ⟨i, j, V⟩ := r
    dsimp only at h1 ⊢
    rw [Int.toNat_of_nonneg (by omega), Int.toNat_of_nonneg (by omega)]
  rw [e, h, if_pos rfl, if_pos]
  have e1 : (lineWs r).getD 0 [] = Lib.decDigits r.id.toNat := rfl
  have e2 : (lineWs r).getD 1 [] = Lib.decDigits r.ver.toNat := rfl
  rw [e1, e2, numOk_dec (by omega), numOk_dec (by omega)]; rfl
theorem joinC_mem (d : UInt8) : ∀ (L : List (List UInt8)) (c : UInt8), c ∈ joinC d L → c = d ∨ ∃ t ∈ L, c ∈ t
  | [], c, h => by cases h
  | [a], c, h => .inr ⟨a, List.mem_cons_self, h⟩
  | a :: b :: r, c, h => by
    rw [joinC] at h
    rcases List.mem_append.1 h with h1 | h1
    · exact .inr ⟨a, List.mem_cons_self, h1⟩
    · rcases List.mem_cons.1 h1 with h2 | h2
      · exact .inl h2
      · rcases joinC_mem d (b :: r) c h2 with h3 | ⟨t, ht, h3⟩
        · exact .inl h3
        · exact .inr ⟨t, List.mem_cons_of_mem _ ht, h3⟩
theorem lineR_no {s : SchemaL} {r : RecL} (h : checkI s r = 0) : (10 : UInt8) ∉ lineR r := by
  intro hm
  rcases joinC_mem 9 _ _ hm with h1 | ⟨t, ht, h1⟩
  · revert h1; decide
  · exact lineWs_no h (by decide) t ht h1
theorem rowR_no {s : SchemaL} {r : RecL} (h : checkI s r = 0) : (10 : UInt8) ∉ rowR r := by
  intro hm
  unfold rowR at hm
  rcases List.mem_append.1 hm with h1 | h1
  · exact lineR_no h h1
  · rcases List.mem_cons.1 h1 with h2 | h2
    · revert h2; decide
    · exact sumT_no (by decide) h2
theorem endR_no (n : Nat) : (10 : UInt8) ∉ endR n := by
  intro hm
  unfold endR at hm
  rcases List.mem_append.1 hm with h1 | h1
  · revert h1; decide
  · exact dec_no (by decide) h1
theorem endR_end (n : Nat) : isEnd (endR n) = true := by unfold isEnd endR; simp
theorem rowR_not (r : RecL) : isEnd (rowR r) = false := by
  unfold isEnd
  rw [Bool.and_eq_false_iff]
  right
  rw [beq_eq_false_iff_ne]
  intro e
  unfold rowR lineR at e
  rw [joinC] at e
  cases hd : Lib.decDigits r.id.toNat with
  | nil => exact absurd hd (dec_ne _)
  | cons c l =>
    rw [hd] at e
    have h1 : c = 101 := by
      have := congrArg List.head? e
      simpa [endS] using this
    have := dec_digit (c := c) (n := r.id.toNat) (by rw [hd]; exact List.mem_cons_self)
    rw [h1] at this
    revert this; decide
/-- a row of a record behind others gives the record -/
theorem take_row {s : SchemaL} {l : List RecL} {r : RecL} (h : checkI s r = 0) (hl : l.length < 64) (hn : notB (lastId l) r.id = false) : takeN s l (rowR r) = (r, 0) := by
  unfold takeN rowR
  rw [cutLast_at 9 _ (sumT_no (by decide))]
  dsimp only
  rw [if_pos (sumT_dig _), if_pos rfl, parse_lineR h, if_pos rfl, if_neg (by omega), hn]
  rfl
theorem lastId_snoc (l : List RecL) (r : RecL) : lastId (l ++ [r]) = some r.id := by unfold lastId; simp
/-- records that may follow others -/
def Follows (s : SchemaL) : Option Int → List RecL → Prop
  | _, [] => True
  | p, r :: R => checkI s r = 0 ∧ notB p r.id = false ∧ Follows s (some r.id) R
theorem follows_of {s : SchemaL} : ∀ (R : List RecL) (p : Option Int), allA s p R = 0 → Follows s p R
  | [], p, _ => trivial
  | r :: R, p, h => by
    rw [allA_cons] at h
    split at h
    · next h1 =>
      split at h
      · cases h
      · next h2 => exact ⟨h1, by simpa using h2, follows_of R _ h⟩
    · next h1 => exact absurd h h1
theorem Follows.check {s : SchemaL} : ∀ {R : List RecL} {p : Option Int}, Follows s p R → ∀ r ∈ R, checkI s r = 0
  | [], p, _, r, hr => by cases hr
  | x :: R, p, h, r, hr => by
    rcases List.mem_cons.1 hr with rfl | h1
    · exact h.1
    · exact h.2.2.check r h1
/-- whole rows of records are read -/
theorem readA_rows {s : SchemaL} {n : Nat} : ∀ (R : List RecL) (l : List RecL) (k : Nat) (q q2 : List (List UInt8 × List UInt8)), Follows s (lastId l) R → l.length + R.length ≤ 64 → q.map Prod.fst = R.map rowR →
    ∃ k2, (k ≤ n → k2 ≤ n) ∧ readA s n l k (q ++ q2) = readA s n (l ++ R) k2 q2
  | [], l, k, q, q2, _, _, hq => by
    have : q = [] := by simpa using hq
    subst this
    exact ⟨k, id, by simp⟩
  | r :: R, l, k, [], q2, _, _, hq => by simp at hq
  | r :: R, l, k, (row, rest) :: q, q2, hf, hl, hq => by
    rw [List.map_cons, List.map_cons, List.cons.injEq] at hq
    obtain ⟨h1, h2⟩ := hq
    have h1 : row = rowR r := h1
    subst h1
    rw [List.length_cons] at hl
    obtain ⟨k2, g1, g2⟩ := readA_rows R (l ++ [r]) (n - rest.length) q q2 (by rw [lastId_snoc]; exact hf.2.2) (by simp; omega) h2
    refine ⟨k2, fun _ => g1 (Nat.sub_le _ _), ?_⟩
    rw [List.cons_append, readA, rowR_not, if_neg (by simp), take_row hf.1 (by omega) hf.2.1, if_pos rfl, g2, List.append_assoc]; rfl
theorem rowsT_cons (x : List UInt8) (X : List (List UInt8)) (t : List UInt8) : rowsT (x :: X) ++ t = x ++ 10 :: (rowsT X ++ t) := by unfold rowsT; simp
/-- the rows of a text that begins with whole rows -/
theorem rowsL_rows : ∀ (X : List (List UInt8)) (t : List UInt8), (∀ x ∈ X, (10 : UInt8) ∉ x) → ∃ q, q.map Prod.fst = X ∧ rowsL (rowsT X ++ t) = q ++ rowsL t
  | [], t, _ => ⟨[], rfl, rfl⟩
  | x :: X, t, h => by
    obtain ⟨q, h1, h2⟩ := rowsL_rows X t fun y hy => h y (List.mem_cons_of_mem _ hy)
    refine ⟨(x, rowsT X ++ t) :: q, by simp [h1], ?_⟩
    rw [rowsT_cons, rowsL_at (h x List.mem_cons_self), h2]; rfl
theorem rowsT_append (X Y : List (List UInt8)) : rowsT (X ++ Y) = rowsT X ++ rowsT Y := by unfold rowsT; rw [List.flatMap_append]
theorem rowsT_one (x : List UInt8) : rowsT [x] = x ++ [10] := by unfold rowsT; simp
/-- a file leads back to its records -/
theorem read_file {s : SchemaL} {R : List RecL} (h : allN s R = 0) : freadN s (fileR R) = (R, (fileR R).length, 0) := by
  have h0 : checkS s = 0 ∧ R.length ≤ 64 ∧ allA s none R = 0 := by
    unfold allN at h
    split at h
    · next h1 =>
      split at h
      · next h2 => exact ⟨h1, h2, h⟩
      · cases h
    · next h1 => exact absurd h h1
  obtain ⟨h1, h2, h3⟩ := h0
  have hf := follows_of R none h3
  unfold freadN
  rw [if_pos h1]
  obtain ⟨n, hn⟩ : ∃ n, (fileR R).length = n := ⟨_, rfl⟩
  rw [hn]
  unfold fileR
  rw [rowsT_append, rowsT_one]
  obtain ⟨q, g1, g2⟩ := rowsL_rows (R.map rowR) (endR R.length ++ [10]) fun x hx => by
    obtain ⟨r, hr, rfl⟩ := List.mem_map.1 hx
    exact rowR_no (hf.check r hr)
  rw [g2, rowsL_at (endR_no _)]
  obtain ⟨k2, _, g4⟩ := readA_rows (n := n) R [] 0 q ((endR R.length, []) :: rowsL []) hf (by simpa using h2) g1
  rw [g4, List.nil_append, readA, endR_end, if_pos rfl, if_pos ⟨rfl, rfl⟩]
theorem lineR_len {s : SchemaL} {r : RecL} (h : checkI s r = 0) (h5 : s.fields.length ≤ 5) : (lineR r).length ≤ 500 := by
  obtain ⟨h1, h2, h3⟩ := checkI_ok h
  have key : ∀ (L : List (List UInt8)), (∀ x ∈ L, x.length ≤ 64) → (joinC 9 L).length ≤ L.length * 65 := by
    intro L
    induction L with
    | nil => simp [joinC]
    | cons a L ih =>
      intro h
      cases L with
      | nil => have := h a (by simp); simp [joinC]; omega
      | cons b L =>
        have g1 := h a (by simp)
        have g2 := ih fun x hx => h x (List.mem_cons_of_mem _ hx)
        simp only [joinC, List.length_append, List.length_cons] at *
        omega
  have := key (lineWs r) fun t ht => by
    unfold lineWs at ht
    rcases List.mem_cons.1 ht with rfl | h4
    · have := dec_most (n := r.id.toNat) (k := 7) (by decide) (by omega); omega
    · rcases List.mem_cons.1 h4 with rfl | h5
      · have := dec_most (n := r.ver.toNat) (k := 7) (by decide) (by omega); omega
      · exact (h3 t h5).1
  have hl : (lineWs r).length = r.vals.length + 2 := by unfold lineWs; simp
  rw [hl] at this
  show (joinC 9 (lineWs r)).length ≤ 500
  omega
end
section
set_option maxRecDepth 100000
open Go.RowKit
attribute [local go_sem] toList_mk mk_size
/-- the library's variable math/bits.deBruijn64tab, as far as it is read -/
def DbAt (w : World) : Prop := w.cell? ⟨5, 15, none⟩ = some (.int .u8 4)
theorem DbAt.old {w w' : World} (h : DbAt w) (hb : Below w.heap.size w w') : DbAt w' :=
  (hb.cell (p := ⟨5, 15, none⟩) (World.block_lt_of_cell? _ ⟨_, 15, none⟩ h)).trans h
theorem hexN_front (m : Nat) : ∀ x, hexN (m + 1) x = digH (x / 16 ^ m % 16) :: hexN m x := by
  induction m with
  | zero => intro x; simp [hexN]
  | succ m ih =>
    intro x
    rw [hexN, ih (x / 16), Nat.div_div_eq_div_mul, ← Nat.pow_succ']
    rw [hexN]; rfl
theorem hexN_zero (j : Nat) : hexN j 0 = List.replicate j 48 := by
  induction j with
  | zero => rfl
  | succ j ih => rw [hexN, Nat.zero_div, ih, List.replicate_succ']; rfl
theorem hexN_add (j : Nat) : ∀ (k x : Nat), hexN (j + k) x = hexN j (x / 16 ^ k) ++ hexN k x := by
  intro k
  induction k with
  | zero => intro x; simp [hexN]
  | succ k ih =>
    intro x
    rw [← Nat.add_assoc, hexN, ih, Nat.div_div_eq_div_mul, ← Nat.pow_succ', hexN, List.append_assoc]
/-- filled with zeros -/
theorem hexN_pad {k x : Nat} (hk : k ≤ 16) (hx : x < 16 ^ k) : List.replicate (16 - k) 48 ++ hexN k x = hexN 16 x := by
  have e : 16 = (16 - k) + k := by omega
  conv => rhs; rw [e]
  rw [hexN_add, Nat.div_eq_of_lt hx, hexN_zero]
set_option maxHeartbeats 400000 in
theorem tz_any (w : World) (h : DbAt w) : Calls Tryz.prog 222 #[.int .u64 16] w fun e w' => e = .returned (.int .i64 4) ∧ w = w' := by
  unfold DbAt at h
  have hq : IntKind.u64.wrap (bits .and .u64 16 (IntKind.u64.wrap (-16)) * 285870213051353865) / 288230376151711744 = 15 := by decide +kernel
  go_enter Tryz.func222, Tryz.ntmps222
  go_wp2_with fail
  go_ret
  exact ⟨rfl, rfl⟩
set_option maxHeartbeats 400000 in
theorem tz2_any (w : World) (h : DbAt w) : Calls Tryz.prog 189 #[.int .u64 16] w fun e w' => e = .returned (.int .i64 4) ∧ w = w' := by
  have H := Lib.hid h; clear h
  go_enter Tryz.func189, Tryz.ntmps189
  go_wp2_with fail
  refine (tz_any _ H.out).mono ?_
  rintro e w1 ⟨rfl, rfl⟩
  go_wp2_with fail
  go_ret
  exact ⟨rfl, rfl⟩
set_option maxHeartbeats 400000 in
theorem pow2_any (w : World) : Calls Tryz.prog 188 #[.int .i64 16] w fun e w' => e = .returned (.bool true) ∧ w = w' := by
  have hb : bits .and .i64 16 15 = 0 := by decide +kernel
  go_enter Tryz.func188, Tryz.ntmps188
  go_wp2_with fail
  go_ret
  exact ⟨rfl, rfl⟩
def digs36 : List UInt8 := [48, 49, 50, 51, 52, 53, 54, 55, 56, 57, 97, 98, 99, 100, 101, 102, 103, 104, 105, 106, 107, 108, 109, 110, 111, 112, 113, 114, 115, 116, 117, 118, 119, 120, 121, 122]
theorem digs36_get (d : Nat) (h : d < 16) (h' : d < (⟨digs36.toArray⟩ : ByteArray).size) : (⟨digs36.toArray⟩ : ByteArray)[d]'h' = digH d := by
  show digs36.toArray[d] = _
  rw [List.getElem_toArray]
  have h1 : ∀ k : Fin 16, digs36.getD k.val 0 = digH k.val := by decide
  have h2 := h1 ⟨d, h⟩
  rw [List.getD, List.getElem?_eq_getElem (show d < digs36.length by show d < 36; omega)] at h2
  exact h2
theorem and_15n (m : Nat) (h : m < 18446744073709551616) : bits .and .u64 (m : Int) 15 = ((m % 16 : Nat) : Int) := by
  unfold bits
  rw [IntKind.wrap_u64]
  have e1 : (BitVec.ofInt 64 (m : Int)).toNat = m := by rw [BitVec.toNat_ofInt]; simp; omega
  have e2 : (BitVec.ofInt 64 15).toNat = 15 := by decide
  have e3 : ((BitVec.ofInt 64 (m : Int)) &&& (BitVec.ofInt 64 15)).toNat = m % 16 := by
    rw [BitVec.toNat_and, e1, e2]
    exact Nat.and_two_pow_sub_one_eq_mod m 4
  show ((((BitVec.ofInt 64 (m : Int)) &&& (BitVec.ofInt 64 15)).toNat : Nat) : Int) % _ = _
  rw [e3]; omega
/-- the last m cells hold the last m digits -/
def DigAt (w : World) (B : Nat) (x m : Nat) : Prop := ∃ cs : Array Value, w.heap[B]? = some (.cells cs 188 (0, 0)) ∧ cs.size = 65 ∧ ∀ i, i < m → cs[65 - m + i]? = ((hexN m x)[i]?).map byteV
theorem DigAt.set {w : World} {B x m : Nat} (h : DigAt w B x m) (hm : m < 65) {d : Nat} (hd : x / 16 ^ m % 16 = d) : DigAt (w.setCell ⟨B, 64 - m, none⟩ (byteV (digH d))) B x (m + 1) := by
  obtain ⟨cs, h1, h2, h3⟩ := h
  refine ⟨_, blk_set h1, by simp [h2], fun i hi => ?_⟩
  rw [hexN_front, hd, Array.getElem?_setIfInBounds]
  cases i with
  | zero =>
    rw [if_pos (by omega), if_pos (by omega)]; rfl
  | succ i =>
    rw [if_neg (by omega), List.getElem?_cons_succ, ← h3 i (by omega)]
    congr 1; omega
theorem dig_conv {w : World} {B x m c : Nat} (h : DigAt w B x (m + 1)) : (convert 69 9 (.slice (some ⟨B, 64 - m, none⟩) (m + 1) c)).run Tryz.prog w = .ok (strV (hexN (m + 1) x)) w := by
  obtain ⟨cs, h1, h2, h3⟩ := h
  have hl : (hexN (m + 1) x).length = m + 1 := hexN_len _ _
  have := run_convert_bytes_back (P := Tryz.prog) w _ _ _ ⟨B, 64 - m, none⟩ c (hexN (m + 1) x) Tryz.underlying69 Tryz.underlying5 Tryz.underlying9 (fun j hj => by
    rw [add_plain, cell_of_row _ _ _ _ _ _ h1]
    have := h3 j (by omega)
    rw [show 65 - (m + 1) + j = 64 - m + j by omega, List.getElem?_eq_getElem hj] at this
    exact this)
  rw [hl] at this
  exact this
set_option maxHeartbeats 4000000 in
theorem fbits_any (x : Nat) (hx : x < 18446744073709551616) (w : World) (hdb : DbAt w) :
    Calls Tryz.prog 140 #[.slice none 0 0, .int .u64 x, .int .i64 16, .bool false, .bool false] w fun e w' => (∃ k, 1 ≤ k ∧ k ≤ 16 ∧ x < 16 ^ k ∧ e = .returned (.tuple #[.slice none 0 0, strV (hexN k x)])) ∧ Below w.heap.size w w' := by
  have HD := Lib.hid hdb; have HX := Lib.hid hx; clear hdb
  go_enter Tryz.func140, Tryz.ntmps140
  go_wp2_with fail
  refine wp_calls_world (fun W hW => ?_)
  have hb0 : Below w.heap.size w W := by rw [hW]; exact (Below.refl w.heap.size w).alloc (Nat.le_refl _) _
  have hd0 : DigAt W w.heap.size x 0 := by rw [hW]; refine ⟨_, blk_new rfl, ?_, fun i hi => by omega⟩; kernel_rfl
  clear hW
  have HD0 := Lib.hid hd0; have HB0 := Lib.hid hb0; have HDb := Lib.hid (HD.out.old hb0)
  clear hd0 hb0
  refine (pow2_any W).mono ?_
  rintro e w1 ⟨rfl, rfl⟩
  go_wp2_with fail
  refine (tz2_any W HDb.out).mono ?_
  rintro e w1 ⟨rfl, rfl⟩
  go_wp2_with fail
  go_loopw [1, 13] (fun u i wr => ∃ m q : Nat, m ≤ 15 ∧ i = .int .i64 (65 - (m : Int)) ∧ u = .int .u64 (q : Int) ∧ Hid (x / 16 ^ m = q) ∧ Hid (DigAt wr w.heap.size x m) ∧ Hid (Below w.heap.size w wr)) (fun u _ _ => (intOf u).toNat)
  case atStart => exact ⟨0, x, by omega, rfl, rfl, Lib.hid (by simp), HD0, HB0⟩
  case round =>
    obtain ⟨m, q, hm, rfl, rfl, HQ, HDg, HBw⟩ := hrel
    have hq64 : q < 18446744073709551616 := by rw [← HQ.out]; exact Nat.lt_of_le_of_lt (Nat.div_le_self _ _) HX.out
    by_cases hq : 16 ≤ q
    · have d1 : decide ((16 : Int) ≤ (q : Int)) = true := decide_eq_true (by omega)
      have hm14 : m ≤ 14 := by
        rcases Nat.lt_or_ge m 15 with h | h
        · omega
        · have hm15 : m = 15 := by omega
          subst hm15
          have h1 := HQ.out
          have h2 : x / 16 ^ 15 < 16 := by
            rw [Nat.div_lt_iff_lt_mul (by decide)]
            exact HX.out
          omega
      obtain ⟨d, hd⟩ : ∃ d, q % 16 = d := ⟨_, rfl⟩
      have hd16 : d < 16 := by omega
      have hand : bits .and .u64 (q : Int) 15 = (d : Int) := by rw [and_15n q hq64, hd]
      obtain ⟨q2, hq2⟩ : ∃ q2, q / 16 = q2 := ⟨_, rfl⟩
      have hshr : (q : Int) / 16 = (q2 : Int) := by omega
      have hgd : ∀ h : d < (⟨#[48, 49, 50, 51, 52, 53, 54, 55, 56, 57, 97, 98, 99, 100, 101, 102, 103, 104, 105, 106, 107, 108, 109, 110, 111, 112, 113, 114, 115, 116, 117, 118, 119, 120, 121, 122]⟩ : ByteArray).size, (⟨#[48, 49, 50, 51, 52, 53, 54, 55, 56, 57, 97, 98, 99, 100, 101, 102, 103, 104, 105, 106, 107, 108, 109, 110, 111, 112, 113, 114, 115, 116, 117, 118, 119, 120, 121, 122]⟩ : ByteArray)[d]'h = digH d := fun h => digs36_get d hd16 h
      have hset := HDg.out.set (d := d) (by omega) (by rw [HQ.out, hd])
      obtain ⟨cs, g1, g2, g3⟩ := HDg.out
      have hcl : ∃ v, wr.cell? ⟨w.heap.size, 64 - m, none⟩ = some v := by
        rw [cell_of_row _ _ _ _ _ _ g1]
        exact ⟨_, Array.getElem?_eq_getElem (by omega)⟩
      obtain ⟨v, hcl⟩ := hcl
      have hfz := frozen_of_row _ _ (64 - m) _ _ g1
      have hz1 := lt_of_blk g1
      have hwi : IntKind.i64.wrap (65 - (m : Int) - 1) = ((64 - m : Nat) : Int) := by rw [IntKind.wrap_i64]; omega
      have hwj : 65 - (m : Int) - 1 = ((64 - m : Nat) : Int) := by omega
      have hwl : ((64 - m : Nat) : Int) < 65 := by omega
      have HSt := Lib.hid hset
      have HQ2 := Lib.hid (show x / 16 ^ (m + 1) = q2 by rw [Nat.pow_succ, ← Nat.div_div_eq_div_mul, HQ.out, hq2])
      have HB2 := Lib.hid (HBw.out.setCell (p := ⟨w.heap.size, 64 - m, none⟩) (Nat.le_refl _) (byteV (digH d)))
      have hq2lt : q2 < q := by omega
      clear hset g1 g2 g3 hm hd hq2
      go_wp2_with fail
      go_roundw
      case rel => exact ⟨m + 1, q2, by omega, by congr 1; omega, rfl, HQ2, HSt, HB2⟩
      case measure => simp [intOf]; omega
    · have d1 : decide ((16 : Int) ≤ (q : Int)) = false := decide_eq_false (by omega)
      have hd : q % 16 = q := Nat.mod_eq_of_lt (by omega)
      have hgd : ∀ h : q < (⟨#[48, 49, 50, 51, 52, 53, 54, 55, 56, 57, 97, 98, 99, 100, 101, 102, 103, 104, 105, 106, 107, 108, 109, 110, 111, 112, 113, 114, 115, 116, 117, 118, 119, 120, 121, 122]⟩ : ByteArray).size, (⟨#[48, 49, 50, 51, 52, 53, 54, 55, 56, 57, 97, 98, 99, 100, 101, 102, 103, 104, 105, 106, 107, 108, 109, 110, 111, 112, 113, 114, 115, 116, 117, 118, 119, 120, 121, 122]⟩ : ByteArray)[q]'h = digH q := fun h => digs36_get q (by omega) h
      have hset := HDg.out.set (d := q) (by omega) (by rw [HQ.out, hd])
      obtain ⟨cs, g1, g2, g3⟩ := HDg.out
      have hcl : ∃ v, wr.cell? ⟨w.heap.size, 64 - m, none⟩ = some v := by
        rw [cell_of_row _ _ _ _ _ _ g1]
        exact ⟨_, Array.getElem?_eq_getElem (by omega)⟩
      obtain ⟨v, hcl⟩ := hcl
      have hfz := frozen_of_row _ _ (64 - m) _ _ g1
      have hz1 := lt_of_blk g1
      have hwi : IntKind.i64.wrap (65 - (m : Int) - 1) = ((64 - m : Nat) : Int) := by rw [IntKind.wrap_i64]; omega
      have hwj : 65 - (m : Int) - 1 = ((64 - m : Nat) : Int) := by omega
      have hwl : ((64 - m : Nat) : Int) < 65 := by omega
      have hwl2 : ((64 - m : Nat) : Int) ≤ 65 := by omega
      have hq15 : q ≤ 15 := by omega
      have hxk : x < 16 ^ (m + 1) := by
        have h1 := HQ.out
        rw [Nat.pow_succ, Nat.mul_comm]
        exact (Nat.div_lt_iff_lt_mul (Nat.pow_pos (by decide))).1 (by omega)
      have HSt := Lib.hid hset; have HXk := Lib.hid hxk
      have HB2 := Lib.hid (HBw.out.setCell (p := ⟨w.heap.size, 64 - m, none⟩) (Nat.le_refl _) (byteV (digH q)))
      have hcv := dig_conv (c := m + 1) hset
      rw [show m + 1 = 65 - (64 - m) by omega] at hcv
      unfold byteV at hcv
      clear hset g1 g2 g3 hd hxk
      go_wp2_with fail
      go_ret2
      exact ⟨⟨m + 1, by omega, by omega, HXk.out, by rw [show 65 - (64 - m) = m + 1 by omega]; rfl⟩, HB2.out⟩
set_option maxHeartbeats 1000000 in
theorem fuint_any (x : Nat) (hx : x < 18446744073709551616) (w : World) (hdb : DbAt w) :
    Calls Tryz.prog 68 #[.int .u64 x, .int .i64 16] w fun e w' => (∃ k, 1 ≤ k ∧ k ≤ 16 ∧ x < 16 ^ k ∧ e = .returned (strV (hexN k x))) ∧ Below w.heap.size w w' := by
  have HD := Lib.hid hdb; clear hdb
  have inner : ∀ w, DbAt w → Calls Tryz.prog 101 #[.int .u64 x, .int .i64 16] w fun e w' => (∃ k, 1 ≤ k ∧ k ≤ 16 ∧ x < 16 ^ k ∧ e = .returned (strV (hexN k x))) ∧ Below w.heap.size w w' := by
    intro w hdb
    have HD := Lib.hid hdb; clear hdb
    go_enter Tryz.func101, Tryz.ntmps101
    go_wp2_with fail
    refine (fbits_any x hx _ HD.out).mono ?_
    rintro e w1 ⟨⟨k, h1, h2, h3, rfl⟩, hb⟩
    have HB := Lib.hid hb; clear hb
    go_wp2_with fail
    go_ret
    exact ⟨⟨k, h1, h2, h3, rfl⟩, HB.out⟩
  have HI := Lib.hid inner; clear inner
  go_enter Tryz.func68, Tryz.ntmps68
  go_wp2_with fail
  refine (HI.out _ HD.out).mono ?_
  rintro e w1 ⟨⟨k, h1, h2, h3, rfl⟩, hb⟩
  have HB := Lib.hid hb; clear hb
  go_wp2_with fail
  go_ret
  exact ⟨⟨k, h1, h2, h3, rfl⟩, HB.out⟩
end
end Go.Proofs.YthnfmolkppbbpaaGreatDoor
