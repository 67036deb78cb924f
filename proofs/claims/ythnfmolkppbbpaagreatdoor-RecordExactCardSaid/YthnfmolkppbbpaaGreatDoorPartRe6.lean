/- Parts of one proof: DeckRecB, AppendM, DeckRecs, RecFile, RecNum, HexB, EncI, EncJ, RecParse, RecFront, EncLaw, RefSipA, RefSipB, RefSipC, RefRecB, RefRecC, RefRecD. -/
import Derived.Test.YthnfmolkppbbpaaGreatDoorPartRe5
import Derived.Deep.OwnRows
set_option linter.unusedSimpArgs false
set_option linter.unusedVariables false
namespace Go.Proofs.YthnfmolkppbbpaaGreatDoor
section
set_option maxRecDepth 100000
open Go.RowKit Cal
attribute [local go_sem] toList_mk mk_size str_append
theorem makeA_short (s : SchemaL) (raws : List (List UInt8)) : ∀ i C, (∀ x ∈ C, x.length ≤ 64) → ∀ x ∈ (makeA s i C raws).1, x.length ≤ 64 := by
 induction raws with
 | nil => intro i C h; simpa [makeA] using h
 | cons y l ih =>
  intro i C h
  unfold makeA
  split
  ·refine ih _ _ fun x hx => ?_
   rcases List.mem_append.1 hx with h1 | h1
   ·exact h x h1
   ·simp at h1; subst h1; exact (valueN_form s i y).1
  ·intro x hx; simp at hx
theorem Vec.far {α : Type} {w : World} {S : Nat → Prop} {k : Nat} {enc : α → List Value} {v : Value} {L : List α} (h : Vec w S k enc v L) {a : Addr} {u : Value} (hn : ∀ b, S b → b ≠ a.block) : Vec (w.setCell a u) S k enc v L :=
 h.move (by simp [World.setCell]) fun b _ hs => ⟨heap_setCell_other _ _ _ _ (hn b hs), hs⟩
theorem oneS : ∀ x : List UInt8, ∀ u ∈ encS x, u.oneCell' = true := by intro x u hu; simp [encS] at hu; subst hu; rfl
theorem rec_made {s : SchemaL} {id ver : Int} {raws : List (List UInt8)} {r : RecL} (h : makeN s id ver raws = (r, 0)) : r.id = id ∧ checkN s r = 0 ∧ ∀ x ∈ r.vals, x.length ≤ 64 := by
 obtain ⟨h1, h2, h3, h4, h5, _, h7, h8, _⟩ := makeN_ok h
 refine ⟨h2, checkN_of h1 (by rw [h2, h3]; exact h4) h5 h7, ?_⟩
 rw [h8]
 exact makeA_short s raws 0 [] (by simp)
theorem rec_none {s : SchemaL} {id : Int} (h : checkS s = 0) (h1 : 1 ≤ id) (h2 : id ≤ 1048576) : checkN s ⟨id, 1, List.replicate s.fields.length []⟩ = 0 :=
 checkN_of h (by simp [numberedB, h1, h2]) (by simp) (none_norm h)
theorem made_strings (m : Nat) : madeCells #[.string ⟨#[]⟩] m = ((List.replicate m ([] : List UInt8)).flatMap encS).toArray := by
 apply Array.ext'
 have : ∀ k, (List.replicate k ([] : List UInt8)).flatMap encS = List.replicate k (.string ⟨#[]⟩) := by
  intro k; induction k with
  | zero => rfl
  | succ k ih => rw [List.replicate_succ, List.flatMap_cons, ih]; rfl
 rw [this]
 unfold madeCells
 rw [Array.toList_map, Array.toList_range]
 refine List.ext_getElem (by simp) fun i h1 h2 => ?_
 simp [Nat.mod_one]
def RecordPost (D : Nat) (s : SchemaL) (id : Int) (w : World) (e : Ending) (w' : World) : Prop := ∃ v r, e = .returned v ∧ RecVal w' (fun b => w.heap.size ≤ b) v r ∧ r.id = id ∧ checkN s r = 0 ∧ (∀ x ∈ r.vals, x.length ≤ 64) ∧ Moved D w w'
set_option maxHeartbeats 8000000 in
theorem record_deal (D : Nat) (S : Nat → Prop) (vf vt vn vs : Value) (s : SchemaL) (id : Int) (w : World) (h : DeckAt w D) (hs : SchemaAt w S vf vt vn vs s) (hS : ∀ b, S b → b ≠ D) (hd : SchemaD s) (h1 : 1 ≤ id) (h2 : id ≤ 1048576) :
  Calls Tryz.prog 17 #[.pointer (some ⟨D, 0, none⟩), .agg #[vf, vt, vn, vs], .int .i64 id] w (RecordPost D s id w) := by
 have zD := h.lt
 have M0 := Lib.hid (Moved.start h); clear h
 obtain ⟨af, cf, rfl⟩ := hs.1.slice
 have h5 := hd.fields.len
 have HS := Lib.hid hs; have HSD := Lib.hid hd; have HSne := Lib.hid hS
 clear hs hd hS
 go_enter Tryz.func17, Tryz.ntmps17
 go_wp2_with fail
 refine wp_world (fun W hW => ?_)
 have hm : Moved D w W := by rw [hW]; exact (M0.out.alloc _).alloc _
 have hb0 : Below w.heap.size w W := by rw [hW]; exact ((Below.refl w.heap.size w).alloc (Nat.le_refl _) _).alloc (by simp) _
 have hs0 : W.heap[w.heap.size]? = some (.cells #[.slice af s.fields.length cf, vt, vn, vs] 33 (0, 0)) := by rw [hW]; exact blk_old (blk_new rfl)
 have hz0 : W.heap[w.heap.size + 1]? = some (.cells #[.int .i64 0, .int .i64 0, .slice none 0 0] 44 (0, 0)) := by rw [hW]; exact blk_new (by simp)
 have hzW : W.heap.size = w.heap.size + 2 := by rw [hW]; simp
 clear hW
 have HM := Lib.hid hm; have HS0 := Lib.hid hs0; have HZ0 := Lib.hid hz0; have HSW := Lib.hid (HS.out.below hb0); have HZW := Lib.hid hzW
 clear hm hs0 hz0 hb0 hzW
 obtain ⟨n, hn⟩ : ∃ n, s.fields.length = n := ⟨_, rfl⟩
 rw [hn] at HS0 HSW h5 ⊢
 have HN := Lib.hid hn; clear hn
 go_loopw [7, 8] (fun v i wr => ∃ (j : Nat) (L : List (List UInt8)), i = .int .i64 j ∧ j ≤ n ∧ L.length = j ∧ (∀ x ∈ L, x.length ≤ 64) ∧ OwnM D 9 1 encS W v L wr) (fun _ i _ => n - (intOf i).toNat)
 case atStart => exact ⟨0, [], rfl, by omega, rfl, by simp, ⟨by simp, .inl ⟨rfl, rfl⟩⟩, Moved.start HM.out.deck⟩
 case round =>
  obtain ⟨j, L, rfl, hj, hL, hsh, ho⟩ := hrel
  have HO := Lib.hid ho; have HL := Lib.hid hL; have HSh := Lib.hid hsh
  have hsr := ho.2.blk (k := w.heap.size) (by omega) HS0.out
  have HSR := Lib.hid hsr
  obtain ⟨s0, s1, s2, s3⟩ := cellsS hsr
  have hzs := lt_of_blk hsr
  clear ho hL hsh hsr
  by_cases hlt : j < n
  ·have hq : decide ((j : Int) < n) = true := by simp; omega
   have hjs : j < s.fields.length := by rw [HN.out]; exact hlt
   obtain ⟨b, off, eaf, hSb, hb, hc⟩ := fields_cell HSW.out.1 (by omega)
   cases eaf
   have hbD := HSne.out b hSb
   have kc := (World.cell?_of_block (w := W) (a := ⟨b, off + j * 2 + 1, none⟩) (HO.out.2.grown.block b hb (by simp; omega))).trans (hc j hjs)
   obtain ⟨kf, hkf⟩ : ∃ kf, (s.fields.getD j default).2 = kf := ⟨_, rfl⟩
   rw [hkf] at kc
   have hjn : (j : Int) < (n : Int) := by omega
   clear hc hkf hjs hSb
   go_wp2_with fail
   refine (raw_deal D kf _ HO.out.2.deck).mono ?_
   rintro e w1 ⟨x, rfl, hx, mv⟩
   have HX := Lib.hid hx
   have HO1 := Lib.hid (HO.out.moved (mv.alloc (.cells #[strV x] 9)))
   have HR1 := Lib.hid (show Reads (w1.alloc (.cells #[strV x] 9)) 1 (.slice (some ⟨w1.heap.size, 0, none⟩) 1 1) [x].length ([x].flatMap encS) from reads_block (t := 9) (fr := (0, 0)) (blk_new rfl) rfl)
   have hsh2 : ∀ y ∈ L ++ [x], y.length ≤ 64 := by
    intro y hy
    rcases List.mem_append.1 hy with h | h
    ·exact HSh.out y h
    ·simp at h; subst h; exact hx
   have HSh2 := Lib.hid hsh2
   have hcn : L.length + [x].length ≤ 1000000000 := by rw [HL.out]; simp only [List.length_cons, List.length_nil]; omega
   clear hx mv hsh2
   go_wp2_with (at_builtin; refine wpList_append_m rfl (.tmp 18) (.tmp 27) 28 rfl D 9 (.string ⟨#[]⟩) 1 16 encS (fun _ => rfl) oneS Tryz.underlying28 infoS rfl (by decide) (by decide) (wA := W) (v := u7) (A := L) (B := [x]) rfl HO1.out rfl HR1.out hcn ?_; intro v4 w4 ho4 hk4)
   go_roundw
   case rel => exact ⟨j + 1, L ++ [x], by go_num, by omega, by rw [List.length_append, HL.out]; rfl, HSh2.out, ho4⟩
   case measure => simp [intOf]; omega
  ·have hq : decide ((j : Int) < n) = false := by simp; omega
   obtain rfl : j = n := by omega
   have HV := Lib.hid (Vec.owns (k := 1) (enc := encS) (S := fun b => W.heap.size ≤ b) (fun _ => rfl) HO.out.1 (fun b hb _ => hb))
   obtain ⟨aL, cL, hvL⟩ := own_slice HO.out.1
   subst hvL
   have HSr := Lib.hid (HSW.out.moved HSne.out HO.out.2)
   have hneD : w.heap.size ≠ D := by omega
   have mD : Moved D wr wr.drew := (Moved.start HO.out.2.deck).drew
   go_wp2_with fail
   go_cut [9, 10] (fun s9 s10 wx => ∃ (rb : Nat) (er y : Int) (sv : Value) (r : RecL), s9 = .pointer (some ⟨rb, 0, none⟩) ∧ s10 = .int .i64 er ∧ wx.heap[rb]? = some (.cells #[.int .i64 r.id, .int .i64 r.ver, sv] 44 (0, 0)) ∧ Vec wx (fun b => w.heap.size + 2 ≤ b) 1 encS sv r.vals ∧ Hid (makeN s id (1 + y) L = (r, er)) ∧ 0 ≤ y ∧ y < 3 ∧ Moved D wr wx ∧ wr.heap.size ≤ rb)
   case first =>
    refine wp_region_noPanic ?_
    refine wp_region_k (by kernel_rfl) (fun w' => w'.cell? ⟨w.heap.size, 0, none⟩ = some (.slice af j cf) ∧ w'.cell? ⟨w.heap.size, 1, none⟩ = some vt ∧ w'.cell? ⟨w.heap.size, 2, none⟩ = some vn ∧ w'.cell? ⟨w.heap.size, 3, none⟩ = some vs) 12 (⟨s0, s1, s2, s3⟩) (fun hHeld => ?_)
    refine tK 0 (h := ?_)
    refine tK 1 (h := ?_)
    refine tK 2 (h := ?_)
    refine tK 5 (h := ?_)
    refine wpAnyK_ready (rs := [3, 10]) (by kernel_rfl) (by simp) ?_
    refine AllReadyK.cons rfl (fun K hK => ?_) (AllReadyK.cons rfl (fun K hK => ?_) AllReadyK.nil)
    focus
     go_simp
     refine (next_any D _ 3 mD.deck (by omega) (by omega)).mono ?_
     rintro e W1 ⟨y, rfl, y0, y1, mv⟩
     have m1 := mD.trans mv
     clear mv
     have hwy : IntKind.i64.wrap (1 + y) = 1 + y := by rw [IntKind.wrap_i64]; omega
     refine shutK hK (⟨(cellsS (m1.blk (k := w.heap.size) hneD HSR.out)).1, (cellsS (m1.blk (k := w.heap.size) hneD HSR.out)).2.1, (cellsS (m1.blk (k := w.heap.size) hneD HSR.out)).2.2.1, (cellsS (m1.blk (k := w.heap.size) hneD HSR.out)).2.2.2⟩) (fun hHeld => ?_)
     clear hK K
     try simp only [List.getElem_toArray, List.getElem_cons_zero, List.getElem_cons_succ, Act.put, List.setIfInBounds_toArray, List.set_cons_zero, List.set_cons_succ]
     refine tK 4 (h := ?_)
     refine wpAnyK_ready (rs := [6, 10]) (by kernel_rfl) (by simp) ?_
     refine AllReadyK.cons rfl (fun K hK => ?_) (AllReadyK.cons rfl (fun K hK => ?_) AllReadyK.nil)
     focus
      go_simp
      have hnum : numberedB id (1 + y) = true := by simp [numberedB]; omega
      obtain ⟨⟨r, er⟩, hR⟩ : ∃ R, makeN s id (1 + y) L = R := ⟨_, rfl⟩
      have hmk := rmake_yes S _ (.slice af j cf) vt vn vs s id (1 + y) L (.slice aL L.length cL) _ (HSr.out.moved HSne.out m1) (HV.out.move (S' := fun b => W.heap.size ≤ b) m1.size fun b hb hs => ⟨m1.grown.block b hb (by have hs' : W.heap.size ≤ b := hs; have h3 := HZW.out; have h4 := zD; simp; omega), hs⟩) HSD.out.check (HL.out.trans HN.out.symm) hnum (fun x hx => by have := HSh.out x hx; omega)
      rw [hR] at hmk
      refine hmk.mono ?_
      rintro e W2 ⟨_, rfl, ⟨sv, rfl, hvv⟩, hb⟩
      have m2 := m1.below hb
      have hvv2 := hvv.move (w' := W2) (S' := fun b => w.heap.size + 2 ≤ b) (Nat.le_refl _) fun b hb' hs => ⟨rfl, by have h1 := m1.size; have h2 := HO.out.2.size; have h3 := HZW.out; have hs' := hs; omega⟩
      obtain ⟨asv, csv, esv⟩ := hvv2.slice; subst esv
      have HRR := Lib.hid hR
      clear hb hvv hmk hR
      refine shutK hK (⟨(cellsS (m2.blk (k := w.heap.size) hneD HSR.out)).1, (cellsS (m2.blk (k := w.heap.size) hneD HSR.out)).2.1, (cellsS (m2.blk (k := w.heap.size) hneD HSR.out)).2.2.1, (cellsS (m2.blk (k := w.heap.size) hneD HSR.out)).2.2.2⟩) (fun hHeld => ?_)
      clear hK K
      try simp only [List.getElem_toArray, List.getElem_cons_zero, List.getElem_cons_succ, Act.put, List.setIfInBounds_toArray, List.set_cons_zero, List.set_cons_succ]
      refine tK 7 (h := ?_)
      refine tK 8 (h := ?_)
      refine tK 9 (h := ?_)
      refine wpAnyK_ready (rs := [10]) (by kernel_rfl) (by simp) ?_
      refine AllReadyK.cons rfl (fun K hK => ?_) AllReadyK.nil
      go_simp
      refine shutK hK (⟨(cellsS ((m2.alloc _).blk (k := w.heap.size) hneD HSR.out)).1, (cellsS ((m2.alloc _).blk (k := w.heap.size) hneD HSR.out)).2.1, (cellsS ((m2.alloc _).blk (k := w.heap.size) hneD HSR.out)).2.2.1, (cellsS ((m2.alloc _).blk (k := w.heap.size) hneD HSR.out)).2.2.2⟩) (fun hHeld => ?_)
      clear hK K
      try simp only [List.getElem_toArray, List.getElem_cons_zero, List.getElem_cons_succ, Act.put, List.setIfInBounds_toArray, List.set_cons_zero, List.set_cons_succ]
      refine wpk_name (fun W3 hW3 => ?_)
      have m3 : Moved D wr W3 := by rw [hW3]; exact m2.alloc (.cells #[.int .i64 0, .int .i64 0, .slice none 0 0] 44)
      have gb : W3.heap[W2.heap.size]? = some (.cells #[.int .i64 0, .int .i64 0, .slice none 0 0] 44 (0, 0)) := by rw [hW3]; exact blk_new rfl
      have hrb : wr.heap.size ≤ W2.heap.size := m2.size
      have HX3 : ∀ b, b < W2.heap.size → W3.heap[b]? = W2.heap[b]? := by rw [hW3]; exact fun b hb => heap_alloc_old _ _ hb
      have hnrb : w.heap.size ≠ W2.heap.size := by have := hzs; omega
      clear hW3 hHeld
      have hHeld : W3.cell? ⟨w.heap.size, 0, none⟩ = some (.slice af j cf) ∧ W3.cell? ⟨w.heap.size, 1, none⟩ = some vt ∧ W3.cell? ⟨w.heap.size, 2, none⟩ = some vn ∧ W3.cell? ⟨w.heap.size, 3, none⟩ = some vs := ⟨(cellsS (m3.blk (k := w.heap.size) hneD HSR.out)).1, (cellsS (m3.blk (k := w.heap.size) hneD HSR.out)).2.1, (cellsS (m3.blk (k := w.heap.size) hneD HSR.out)).2.2.1, (cellsS (m3.blk (k := w.heap.size) hneD HSR.out)).2.2.2⟩
      have hvv3 := hvv2.move (w' := W3) (S' := fun b => w.heap.size + 2 ≤ b ∧ b ≠ W2.heap.size) (by have h9 := lt_of_blk gb; omega) fun b hb' hs => ⟨HX3 b hb', hs, by omega⟩
     rotate_left 1
     focus
      go_simp
      refine shutK hK (⟨(cellsS ((m1.alloc _).blk (k := w.heap.size) hneD HSR.out)).1, (cellsS ((m1.alloc _).blk (k := w.heap.size) hneD HSR.out)).2.1, (cellsS ((m1.alloc _).blk (k := w.heap.size) hneD HSR.out)).2.2.1, (cellsS ((m1.alloc _).blk (k := w.heap.size) hneD HSR.out)).2.2.2⟩) (fun hHeld => ?_)
      clear hK K
      try simp only [List.getElem_toArray, List.getElem_cons_zero, List.getElem_cons_succ, Act.put, List.setIfInBounds_toArray, List.set_cons_zero, List.set_cons_succ]
      refine wpk_name (fun W2 hW2 => ?_)
      have m2 : Moved D wr W2 := by rw [hW2]; exact m1.alloc (.cells #[.int .i64 0, .int .i64 0, .slice none 0 0] 44)
      have gb : W2.heap[W1.heap.size]? = some (.cells #[.int .i64 0, .int .i64 0, .slice none 0 0] 44 (0, 0)) := by rw [hW2]; exact blk_new rfl
      have hrb : wr.heap.size ≤ W1.heap.size := m1.size
      have HX2 : ∀ b, b < W1.heap.size → W2.heap[b]? = W1.heap[b]? := by rw [hW2]; exact fun b hb => heap_alloc_old _ _ hb
      have hnrb : w.heap.size ≠ W1.heap.size := by have := hzs; omega
      clear hW2 hHeld
      have hHeld : W2.cell? ⟨w.heap.size, 0, none⟩ = some (.slice af j cf) ∧ W2.cell? ⟨w.heap.size, 1, none⟩ = some vt ∧ W2.cell? ⟨w.heap.size, 2, none⟩ = some vn ∧ W2.cell? ⟨w.heap.size, 3, none⟩ = some vs := ⟨(cellsS (m2.blk (k := w.heap.size) hneD HSR.out)).1, (cellsS (m2.blk (k := w.heap.size) hneD HSR.out)).2.1, (cellsS (m2.blk (k := w.heap.size) hneD HSR.out)).2.2.1, (cellsS (m2.blk (k := w.heap.size) hneD HSR.out)).2.2.2⟩
      refine wpAnyK_ready (rs := [6]) (by kernel_rfl) (by simp) ?_
      refine AllReadyK.cons rfl (fun K hK => ?_) AllReadyK.nil
      go_simp
      have hlt0 : W1.heap.size < _ := lt_of_blk gb
      have hnum : numberedB id (1 + y) = true := by simp [numberedB]; omega
      obtain ⟨⟨r, er⟩, hR⟩ : ∃ R, makeN s id (1 + y) L = R := ⟨_, rfl⟩
      have hmk := rmake_yes S _ (.slice af j cf) vt vn vs s id (1 + y) L (.slice aL L.length cL) _ (HSr.out.moved HSne.out m2) (HV.out.move (S' := fun b => W.heap.size ≤ b) m2.size fun b hb hs => ⟨m2.grown.block b hb (by have hs' : W.heap.size ≤ b := hs; have h3 := HZW.out; have h4 := zD; simp; omega), hs⟩) HSD.out.check (HL.out.trans HN.out.symm) hnum (fun x hx => by have := HSh.out x hx; omega)
      rw [hR] at hmk
      refine hmk.mono ?_
      rintro e W3 ⟨_, rfl, ⟨sv, rfl, hvv⟩, hb⟩
      have m3 := m2.below hb
      have gb := blk_below hb (lt_of_blk gb) gb
      have hvv2 := hvv.move (w' := W3) (S' := fun b => w.heap.size + 2 ≤ b ∧ b ≠ W1.heap.size) (Nat.le_refl _) fun b hb' hs => ⟨rfl, by have h1 := m2.size; have h2 := HO.out.2.size; have h3 := HZW.out; have hs' := hs; exact ⟨by omega, by omega⟩⟩
      obtain ⟨asv, csv, esv⟩ := hvv2.slice; subst esv
      have HRR := Lib.hid hR
      clear hb hvv hmk hR
      refine shutK hK (⟨(cellsS (m3.blk (k := w.heap.size) hneD HSR.out)).1, (cellsS (m3.blk (k := w.heap.size) hneD HSR.out)).2.1, (cellsS (m3.blk (k := w.heap.size) hneD HSR.out)).2.2.1, (cellsS (m3.blk (k := w.heap.size) hneD HSR.out)).2.2.2⟩) (fun hHeld => ?_)
      clear hK K
      try simp only [List.getElem_toArray, List.getElem_cons_zero, List.getElem_cons_succ, Act.put, List.setIfInBounds_toArray, List.set_cons_zero, List.set_cons_succ]
      refine tK 7 (h := ?_)
      refine tK 8 (h := ?_)
      refine tK 9 (h := ?_)
      have hvv3 := hvv2
    rotate_left 2
    focus
     go_simp
     refine shutK hK (⟨(cellsS ((mD.alloc _).blk (k := w.heap.size) hneD HSR.out)).1, (cellsS ((mD.alloc _).blk (k := w.heap.size) hneD HSR.out)).2.1, (cellsS ((mD.alloc _).blk (k := w.heap.size) hneD HSR.out)).2.2.1, (cellsS ((mD.alloc _).blk (k := w.heap.size) hneD HSR.out)).2.2.2⟩) (fun hHeld => ?_)
     clear hK K
     try simp only [List.getElem_toArray, List.getElem_cons_zero, List.getElem_cons_succ, Act.put, List.setIfInBounds_toArray, List.set_cons_zero, List.set_cons_succ]
     refine wpk_name (fun W1 hW1 => ?_)
     have m1 : Moved D wr W1 := by rw [hW1]; exact mD.alloc (.cells #[.int .i64 0, .int .i64 0, .slice none 0 0] 44)
     have gb : W1.heap[wr.heap.size]? = some (.cells #[.int .i64 0, .int .i64 0, .slice none 0 0] 44 (0, 0)) := by rw [hW1]; exact blk_new rfl
     have hrb : wr.heap.size ≤ wr.heap.size := mD.size
     have HX1 : ∀ b, b < wr.heap.size → W1.heap[b]? = wr.heap[b]? := by rw [hW1]; exact fun b hb => heap_alloc_old _ _ hb
     have hnrb : w.heap.size ≠ wr.heap.size := by have := hzs; omega
     clear hW1 hHeld
     have hHeld : W1.cell? ⟨w.heap.size, 0, none⟩ = some (.slice af j cf) ∧ W1.cell? ⟨w.heap.size, 1, none⟩ = some vt ∧ W1.cell? ⟨w.heap.size, 2, none⟩ = some vn ∧ W1.cell? ⟨w.heap.size, 3, none⟩ = some vs := ⟨(cellsS (m1.blk (k := w.heap.size) hneD HSR.out)).1, (cellsS (m1.blk (k := w.heap.size) hneD HSR.out)).2.1, (cellsS (m1.blk (k := w.heap.size) hneD HSR.out)).2.2.1, (cellsS (m1.blk (k := w.heap.size) hneD HSR.out)).2.2.2⟩
     refine wpAnyK_ready (rs := [3]) (by kernel_rfl) (by simp) ?_
     refine AllReadyK.cons rfl (fun K hK => ?_) AllReadyK.nil
     go_simp
     refine (next_any D _ 3 m1.deck (by omega) (by omega)).mono ?_
     rintro e W2 ⟨y, rfl, y0, y1, mv⟩
     have m2 := m1.trans mv
     have gb := mv.blk (by have := zD; omega) gb
     clear mv
     have hwy : IntKind.i64.wrap (1 + y) = 1 + y := by rw [IntKind.wrap_i64]; omega
     refine shutK hK (⟨(cellsS (m2.blk (k := w.heap.size) hneD HSR.out)).1, (cellsS (m2.blk (k := w.heap.size) hneD HSR.out)).2.1, (cellsS (m2.blk (k := w.heap.size) hneD HSR.out)).2.2.1, (cellsS (m2.blk (k := w.heap.size) hneD HSR.out)).2.2.2⟩) (fun hHeld => ?_)
     clear hK K
     try simp only [List.getElem_toArray, List.getElem_cons_zero, List.getElem_cons_succ, Act.put, List.setIfInBounds_toArray, List.set_cons_zero, List.set_cons_succ]
     refine tK 4 (h := ?_)
     refine wpAnyK_ready (rs := [6]) (by kernel_rfl) (by simp) ?_
     refine AllReadyK.cons rfl (fun K hK => ?_) AllReadyK.nil
     go_simp
     have hlt0 : wr.heap.size < _ := lt_of_blk gb
     have hnum : numberedB id (1 + y) = true := by simp [numberedB]; omega
     obtain ⟨⟨r, er⟩, hR⟩ : ∃ R, makeN s id (1 + y) L = R := ⟨_, rfl⟩
     have hmk := rmake_yes S _ (.slice af j cf) vt vn vs s id (1 + y) L (.slice aL L.length cL) _ (HSr.out.moved HSne.out m2) (HV.out.move (S' := fun b => W.heap.size ≤ b) m2.size fun b hb hs => ⟨m2.grown.block b hb (by have hs' : W.heap.size ≤ b := hs; have h3 := HZW.out; have h4 := zD; simp; omega), hs⟩) HSD.out.check (HL.out.trans HN.out.symm) hnum (fun x hx => by have := HSh.out x hx; omega)
     rw [hR] at hmk
     refine hmk.mono ?_
     rintro e W3 ⟨_, rfl, ⟨sv, rfl, hvv⟩, hb⟩
     have m3 := m2.below hb
     have gb := blk_below hb (lt_of_blk gb) gb
     have hvv2 := hvv.move (w' := W3) (S' := fun b => w.heap.size + 2 ≤ b ∧ b ≠ wr.heap.size) (Nat.le_refl _) fun b hb' hs => ⟨rfl, by have h1 := m2.size; have h2 := HO.out.2.size; have h3 := HZW.out; have hs' := hs; exact ⟨by omega, by omega⟩⟩
     obtain ⟨asv, csv, esv⟩ := hvv2.slice; subst esv
     have HRR := Lib.hid hR
     clear hb hvv hmk hR
     refine shutK hK (⟨(cellsS (m3.blk (k := w.heap.size) hneD HSR.out)).1, (cellsS (m3.blk (k := w.heap.size) hneD HSR.out)).2.1, (cellsS (m3.blk (k := w.heap.size) hneD HSR.out)).2.2.1, (cellsS (m3.blk (k := w.heap.size) hneD HSR.out)).2.2.2⟩) (fun hHeld => ?_)
     clear hK K
     try simp only [List.getElem_toArray, List.getElem_cons_zero, List.getElem_cons_succ, Act.put, List.setIfInBounds_toArray, List.set_cons_zero, List.set_cons_succ]
     refine tK 7 (h := ?_)
     refine tK 8 (h := ?_)
     refine tK 9 (h := ?_)
     have hvv3 := hvv2
    all_goals
     obtain ⟨c0, c1, c2⟩ := cells3 gb; have f0 := frozen_of_row _ _ 0 _ _ gb; have f1 := frozen_of_row _ _ 1 _ _ gb; have f2 := frozen_of_row _ _ 2 _ _ gb; have za := lt_of_blk gb
     have hsx := blk_far (a := ⟨_, 2, none⟩) (v := .slice asv r.vals.length csv) (blk_far (a := ⟨_, 1, none⟩) (v := .int .i64 r.ver) (blk_far (a := ⟨_, 0, none⟩) (v := .int .i64 r.id) (m3.blk (k := w.heap.size) hneD HSR.out) hnrb) hnrb) hnrb
     refine wpAnyK_ready (rs := [11]) (by kernel_rfl) (by simp) ?_
     refine AllReadyK.cons rfl (fun K hK => ?_) AllReadyK.nil
     go_simp
     refine shutK hK (⟨(cellsS hsx).1, (cellsS hsx).2.1, (cellsS hsx).2.2.1, (cellsS hsx).2.2.2⟩) (fun hHeld => ?_)
     clear hK K
     try simp only [List.getElem_toArray, List.getElem_cons_zero, List.getElem_cons_succ, Act.put, List.setIfInBounds_toArray, List.set_cons_zero, List.set_cons_succ]
     refine wpAnyK_ready (rs := [12]) (by kernel_rfl) (by simp) ?_
     refine AllReadyK.cons rfl (fun K hK => ?_) AllReadyK.nil
     go_simp
     refine shutK_off hK (by decide) ?_
     clear hK K
     try simp only [List.getElem_toArray, List.getElem_cons_zero, List.getElem_cons_succ, Act.put, List.setIfInBounds_toArray, List.set_cons_zero, List.set_cons_succ]
     refine wpAnyK_done (by kernel_rfl) ?_ _
     refine NoPanic.normal ?_
     go_wp2_with fail
     go_meet
     exact ⟨_, er, y, _, r, rfl, rfl, blk_set (blk_set (blk_set gb)), (((hvv3.far (fun b hb => hb.2)).far (fun b hb => hb.2)).far (fun b hb => hb.2)).weaken (fun b hb => hb.1), HRR, y0, y1, ((m3.set hrb _).set hrb _).set hrb _, hrb⟩
   case rest =>
    obtain ⟨rb, er, y, sv, r, rfl, rfl, grb, hvr, HRR, y0, y1, mw, hrb⟩ := hcut
    obtain ⟨asv, csv, rfl⟩ := hvr.slice
    have hsz := mw.blk (k := w.heap.size) hneD HSR.out
    have hres := mw.blk (k := w.heap.size + 1) (by omega) (HO.out.2.blk (k := w.heap.size + 1) (by omega) HZ0.out)
    have hn1 : rb ≠ w.heap.size + 1 := by have h1 := HO.out.2.size; have h2 := HZW.out; omega
    have lr := lt_of_blk hres; have lb := lt_of_blk grb; have lz := lt_of_blk hsz
    have HRES := Lib.hid hres; have HMW := Lib.hid (HM.out.trans (HO.out.2.trans mw)); have HVR := Lib.hid hvr; have HGRB := Lib.hid grb
    obtain ⟨z0, z1, z2⟩ := cells3 hres; have f0 := frozen_of_row _ _ 0 _ _ hres; have f1 := frozen_of_row _ _ 1 _ _ hres; have f2 := frozen_of_row _ _ 2 _ _ hres
    obtain ⟨c0, c1, c2⟩ := cells3 grb; have g0 := frozen_of_row _ _ 0 _ _ grb; have g1 := frozen_of_row _ _ 1 _ _ grb; have g2 := frozen_of_row _ _ 2 _ _ grb
    clear s0 s1 s2 s3
    obtain ⟨s0, s1, s2, s3⟩ := cellsS hsz
    clear hsz hres grb hvr mw mD
    by_cases he : er = 0
    ·subst he
     have d0 : ((0 : Int) != 0) = false := rfl
     have HMd := Lib.hid (rec_made HRR.out)
     clear g0 g1 g2
     go_wp2_with fail
     exact bodyPost_row1 rfl rfl (blk_set (i := 2) (blk_set (i := 1) (blk_set (i := 0) HRES.out))) Tryz.underlying44 rfl (by kernel_rfl)
      ⟨_, r, rfl, ⟨_, rfl, (((HVR.out.far (fun b hb => by show b ≠ w.heap.size + 1; have hb' : w.heap.size + 2 ≤ b := hb; omega)).far (fun b hb => by show b ≠ w.heap.size + 1; have hb' : w.heap.size + 2 ≤ b := hb; omega)).far (fun b hb => by show b ≠ w.heap.size + 1; have hb' : w.heap.size + 2 ≤ b := hb; omega)).weaken (fun b hb => by have hb' : w.heap.size + 2 ≤ b := hb; show w.heap.size ≤ b; omega)⟩, HMd.out.1, HMd.out.2.1, HMd.out.2.2,
       ((HMW.out.set (a := ⟨w.heap.size + 1, 0, none⟩) (Nat.le_succ _) _).set (a := ⟨w.heap.size + 1, 1, none⟩) (Nat.le_succ _) _).set (a := ⟨w.heap.size + 1, 2, none⟩) (Nat.le_succ _) _⟩
    ·have d0 : (er != (0 : Int)) = true := by simpa using he
     have hmk := run_make_row' (P := Tryz.prog) 28 9 (.string ⟨#[]⟩) 16 Tryz.underlying28 infoS rfl .i64 .i64 j (by omega) (by omega)
     rw [made_strings] at hmk
     clear HVR HRR he
     go_upto_region 9 with fail
     refine wp_world (fun W9 hW9 => ?_)
     have hrw : w.heap.size ≤ rb := by have h1 := HO.out.2.size; have h2 := HZW.out; omega
     have hgb : W9.heap[rb]? = some (.cells #[.int .i64 id, .int .i64 1, .slice (some ⟨wc.heap.size, 0, none⟩) j j] 44 (0, 0)) := by rw [hW9]; exact blk_old (blk_set (i := 2) (blk_set (i := 1) (blk_set (i := 0) HGRB.out)))
     have hg9 : W9.heap[wc.heap.size]? = some (.cells ((List.replicate j ([] : List UInt8)).flatMap encS).toArray 9 (0, 0)) := by rw [hW9]; exact blk_new (by simp [World.setCell])
     have hr9 : W9.heap[w.heap.size + 1]? = some (.cells #[.int .i64 0, .int .i64 0, .slice none 0 0] 44 (0, 0)) := by rw [hW9]; exact blk_old (blk_far (blk_far (blk_far HRES.out hn1.symm) hn1.symm) hn1.symm)
     have m9 : Moved D w W9 := by rw [hW9]; exact (((HMW.out.set (a := ⟨rb, 0, none⟩) hrw _).set (a := ⟨rb, 1, none⟩) hrw _).set (a := ⟨rb, 2, none⟩) hrw _).alloc _
     have HG9 := Lib.hid hg9; have HR9 := Lib.hid hr9; have HM9 := Lib.hid m9
     clear hW9 c0 c1 c2 z0 z1 z2 f0 f1 f2 g0 g1 g2 s0 s1 s2 s3 m9 hmk
     obtain ⟨z0, z1, z2⟩ := cells3 hr9; have f0 := frozen_of_row _ _ 0 _ _ hr9; have f1 := frozen_of_row _ _ 1 _ _ hr9; have f2 := frozen_of_row _ _ 2 _ _ hr9
     obtain ⟨c0, c1, c2⟩ := cells3 hgb
     have l1 := lt_of_blk hr9; have l2 := lt_of_blk hgb
     have HCk := Lib.hid (show checkN s ⟨id, 1, List.replicate j []⟩ = 0 by rw [← HN.out]; exact rec_none HSD.out.check h1 h2)
     clear hr9 hgb hg9
     go_wp2_with fail
     exact bodyPost_row1 rfl rfl (blk_set (i := 2) (blk_set (i := 1) (blk_set (i := 0) HR9.out))) Tryz.underlying44 rfl (by kernel_rfl)
      ⟨_, ⟨id, 1, List.replicate j []⟩, rfl, ⟨_, rfl, (((blockVec (k := 1) (enc := encS) (L := List.replicate j ([] : List UInt8)) (S := fun b => w.heap.size ≤ b ∧ b ≠ w.heap.size + 1) (A := wc.heap.size) (fun _ => rfl) HG9.out ⟨by omega, by omega⟩ j (by simp)).far (fun b hb => hb.2)).far (fun b hb => hb.2)).far (fun b hb => hb.2) |>.weaken (fun b hb => hb.1)⟩, rfl, HCk.out, (by intro x hx; have := List.eq_of_mem_replicate hx; subst this; simp),
       ((HM9.out.set (a := ⟨w.heap.size + 1, 0, none⟩) (Nat.le_succ _) _).set (a := ⟨w.heap.size + 1, 1, none⟩) (Nat.le_succ _) _).set (a := ⟨w.heap.size + 1, 2, none⟩) (Nat.le_succ _) _⟩
end
section
open Go.RowKit
section
variable {α : Type} {P : Program} {w : World} {ops : Array Oper} {rest : List Oper} {o : Oper} {a : Act} {Q : Exit → Act → World → Prop}
/-- append while the deck moves on; where the row lies afterwards -/
theorem wpList_append_mat (hgd : o.guard = none) (s x : Operand) (t : TypeId) (ho : o.op = .call { callee := .builtin .append, args := #[s, x], argTypes := #[t, t] })
  (D e : Nat) (z : Value) (size bytes : Nat) (enc : α → List Value) (hk : ∀ x, (enc x).length = size) (h1 : ∀ x, ∀ u ∈ enc x, u.oneCell' = true) (ht : P.underlying t = some (.slice e)) (hinfo : (P.info? e).map (fun i => (i.zero, i.size, i.bytes)) = some (some z, size, bytes))
  (hzs : z.cells.size = size) (hsz : 0 < size) (hby : bytes ≤ 128) {wA : World} {v u : Value} {A B : List α} (hs : a.eval s = v) (hown : OwnM D e size enc wA v A w) (hx : a.eval x = u) (hr : Reads w size u B.length (B.flatMap enc)) (hn : A.length + B.length ≤ 1000000000)
  (h : ∀ v' w', OwnM D e size enc wA v' (A ++ B) w' → (∀ k o, some k ≠ v.ownBlock → w.heap[k]? = some o → w'.heap[k]? = some o) → w.heap.size ≤ w'.heap.size → (v'.ownBlock = none ∨ v.ownBlock = v'.ownBlock ∨ v'.ownBlock = some w.heap.size) → wpList P ops Q rest (a.put o.dst v') w') : wpList P ops Q (o :: rest) a w := by
 refine wpList_plain hgd fun K hK => ?_
 refine wp_append_reads s x t ho wA.heap.size e z size bytes ht hinfo hzs hsz v A.length (A.flatMap enc) hs hown.1 u B.length (B.flatMap enc) hx hr (fun u hu => ?_) (by unfold maxLen; omega) ?_ hown.2.size ?_
 ·obtain ⟨y, _, hy⟩ := List.mem_flatMap.1 hu
  exact h1 y u hy
 ·exact Nat.le_trans (Nat.mul_le_mul hn hby) (by decide)
 ·intro v' w' ho' hg hat
  refine hK _ _ (h v' w' ⟨by rw [List.length_append, List.flatMap_append]; exact ho', hown.2.grown' hg fun k hk => ?_⟩ (fun k o hk hko => (hg.block k (lt_of_blk hko) hk).trans hko) hg.size hat)
  rcases hown.1.2 with ⟨rfl, _⟩ | ⟨g, cap, cur, rfl, hg1, _⟩
  ·simp [Value.ownBlock] at hk
  ·have : g = k := by simpa [Value.ownBlock] using hk
   omega
end
end
section
set_option maxRecDepth 100000
open Go.RowKit Cal
attribute [local go_sem] toList_mk mk_size bytes_append
theorem allA_ok {s : SchemaL} : ∀ (R : List RecL) (p : Option Int), allA s p R = 0 → ∀ r ∈ R, checkI s r = 0
 | [], _, _, r, hr => by simp at hr
 | x :: R, p, h, r, hr => by
  unfold allA at h
  split at h
  ·next h1 =>
   split at h
   ·cases h
   ·rcases List.mem_cons.1 hr with rfl | h2
    ·exact h1
    ·exact allA_ok R _ h r h2
  ·next h1 => exact absurd h h1
theorem allN_ok {s : SchemaL} {R : List RecL} (h : allN s R = 0) : checkS s = 0 ∧ R.length ≤ 64 ∧ ∀ r ∈ R, checkN s r = 0 := by
 unfold allN at h
 split at h
 ·next h0 =>
  split at h
  ·next h1 => exact ⟨h0, h1, fun r hr => by unfold checkN; rw [if_pos h0]; exact allA_ok R none h r hr⟩
  ·cases h
 ·next h0 => exact absurd h h0
/-- records for blocks: valid, their values short -/
structure RecsOk (s : SchemaL) (R : List RecL) : Prop where
 all : allN s R = 0
 short : ∀ r ∈ R, ∀ x ∈ r.vals, x.length ≤ 64
/-- the values of a valid record are short -/
theorem check_short {s : SchemaL} {r : RecL} (h : checkN s r = 0) : ∀ x ∈ r.vals, x.length ≤ 64 := by
 obtain ⟨hc, _, hl, hno⟩ := checkN_ok h
 intro x hx
 obtain ⟨j, hj, rfl⟩ := List.mem_iff_getElem.1 hx
 by_cases h0 : r.vals[j] = []
 ·rw [h0]; simp
 ·have hnj := normA_get s r.vals 0 hno j hj
  rw [Nat.zero_add, getD_at _ _ hj] at hnj
  have hfi : findN s (j : Int) = ((s.fields.getD j default).2, 0) := findN_in hc (by omega)
  have hown : ownK (s.fields.getD j default).2 s.rules r.vals[j] = true := by
   unfold normalB at hnj
   rw [hfi, if_pos rfl, if_neg h0] at hnj
   exact hnj
  have hkk := findN_kind (s := s) (f := (j : Int)) (by rw [hfi])
  rw [hfi] at hkk
  exact (own_facts hown hkk).1
theorem recs_of_all {s : SchemaL} {R : List RecL} (h : allN s R = 0) : RecsOk s R := ⟨h, fun r hr => check_short ((allN_ok h).2.2 r hr)⟩
theorem infoR : (Tryz.prog.info? 44).map (fun i => (i.zero, i.size, i.bytes)) = some (some (.agg #[.int .i64 0, .int .i64 0, .slice none 0 0]), 3, 40) := by kernel_rfl
theorem one_encRV : ∀ x : RV, ∀ u ∈ encRV x, u.oneCell' = true := by intro x u hu; simp at hu; rcases hu with rfl | rfl | rfl <;> rfl
/-- records that are being dealt -/
structure ROut (D : Nat) (W : World) (s : SchemaL) (v : Value) (C : List RV) (id : Int) (wr : World) : Prop where
 own : OwnM D 44 3 encRV W v C wr
 vals : ∀ x ∈ C, Vec wr (OffRow W.heap.size v) 1 encS (.slice x.a x.n x.c) x.vals
 ok : ∀ x ∈ C, checkN s (pR x) = 0 ∧ ∀ y ∈ x.vals, y.length ≤ 64
 asc : C.Pairwise fun x y => x.id < y.id
 le : ∀ x ∈ C, x.id ≤ id
 id0 : 0 ≤ id
 id3 : id ≤ 3 * C.length
theorem ROut.nil {D : Nat} {W wr : World} {s : SchemaL} (m : Moved D W wr) : ROut D W s (.slice none 0 0) [] 0 wr := ⟨OwnM.nil m, fun x h => by simp at h, fun x h => by simp at h, List.Pairwise.nil, fun x h => by simp at h, by omega, by simp⟩
theorem ROut.moved {D : Nat} {W wr wx : World} {s : SchemaL} {v : Value} {C : List RV} {id : Int} (h : ROut D W s v C id wr) (m : Moved D wr wx) : ROut D W s v C id wx :=
 ⟨h.own.moved m, fun x hx => (h.vals x hx).move m.size fun b hb hs => ⟨m.grown.block b hb (by have := h.own.2.lt; have := hs.1; simp; omega), hs⟩, h.ok, h.asc, h.le, h.id0, h.id3⟩
/-- the dealt records, with the row that they lie in -/
def RecordsOwn (D : Nat) (s : SchemaL) (most : Nat) (w : World) (e : Ending) (w' : World) : Prop := ∃ (v : Value) (C : List RV) (W : World) (id : Int), e = .returned v ∧ ROut D W s v C id w' ∧ Moved D w W ∧ C.length ≤ most ∧ checkS s = 0
set_option maxHeartbeats 8000000 in
theorem records_dealO (D : Nat) (S : Nat → Prop) (vf vt vn vs : Value) (s : SchemaL) (most : Nat) (w : World) (h : DeckAt w D) (hs : SchemaAt w S vf vt vn vs s) (hS : ∀ b, S b → b ≠ D) (hd : SchemaD s) (hm : most ≤ 64) :
  Calls Tryz.prog 9 #[.pointer (some ⟨D, 0, none⟩), .agg #[vf, vt, vn, vs], .int .i64 most] w (RecordsOwn D s most w) := by
 have zD := h.lt
 have M0 := Lib.hid (Moved.start h); clear h
 have HS := Lib.hid hs; have HSD := Lib.hid hd; have HSne := Lib.hid hS
 clear hs hd hS
 go_enter Tryz.func9, Tryz.ntmps9
 go_wp2_with fail
 refine wp_calls_world (fun W hW => ?_)
 have hm0 : Moved D w W := by rw [hW]; exact M0.out.alloc _
 have hb0 : Below w.heap.size w W := by rw [hW]; exact (Below.refl w.heap.size w).alloc (Nat.le_refl _) _
 have hs0 : W.heap[w.heap.size]? = some (.cells #[vf, vt, vn, vs] 33 (0, 0)) := by rw [hW]; exact blk_new rfl
 have hzW : W.heap.size = w.heap.size + 1 := by rw [hW]; simp
 clear hW
 have HM := Lib.hid hm0; have HS0 := Lib.hid hs0; have HSW := Lib.hid (HS.out.below hb0); have HZW := Lib.hid hzW
 clear hm0 hs0 hb0 hzW
 refine (next_any D _ (most + 1) HM.out.deck (by omega) (by omega)).mono ?_
 rintro e w1 ⟨q, rfl, q0, q1, mv⟩
 obtain ⟨q, rfl⟩ := Int.eq_ofNat_of_zero_le q0
 have MW := Lib.hid mv
 clear mv
 go_wp2_with fail
 go_loopw [7, 8, 9] (fun v t i wr => ∃ (j : Nat) (id : Int) (C : List RV), t = .int .i64 id ∧ i = .int .i64 j ∧ C.length + j = q ∧ ROut D W s v C id wr) (fun _ _ i _ => (intOf i).toNat)
 case atStart => exact ⟨q, 0, [], rfl, rfl, by simp, ROut.nil MW.out⟩
 case round =>
  obtain ⟨j, id, C, rfl, rfl, hj, ho⟩ := hrel
  have HO := Lib.hid ho; have HJ := Lib.hid hj; clear ho hj
  have hzr := HO.out.own.2.size
  by_cases hlt : 0 < j
  ·have hq : decide ((0 : Int) < (j : Int)) = true := by simp; omega
   have hCl : C.length ≤ 63 := by have := HJ.out; omega
   have hjq : j ≤ 65 := by have := HJ.out; omega
   have hi0 := HO.out.id0; have hi3 := HO.out.id3
   go_wp2_with fail
   refine (next_any D _ 3 HO.out.own.2.deck (by omega) (by omega)).mono ?_
   rintro e w2 ⟨x, rfl, x0, x1, mv⟩
   have HO2 := Lib.hid (HO.out.moved mv)
   have hsx := HO2.out.own.2.blk (k := w.heap.size) (by omega) HS0.out
   have HSX := Lib.hid hsx
   obtain ⟨s0, s1, s2, s3⟩ := cellsS hsx
   have hzs := lt_of_blk hsx
   clear mv HO hsx
   go_wp2_with fail
   refine (record_deal D S _ _ _ _ s (id + (1 + x)) w2 HO2.out.own.2.deck (HSW.out.moved HSne.out HO2.out.own.2) HSne.out HSD.out (by omega) (by omega)).mono ?_
   rintro e w3 ⟨_, r, rfl, ⟨sv, rfl, hv⟩, hid, hck, hsh, mv⟩
   obtain ⟨av, cv, rfl⟩ := hv.slice
   have hzw2 := HO2.out.own.2.size
   have hown6 : ∀ x, w2.heap.size ≤ x → some x ≠ u7.ownBlock := by
    intro x hx'
    rcases HO2.out.own.1.2 with ⟨h0, _⟩ | ⟨g, cap, cur, h0, hg, hh, _⟩
    ·rw [h0]; simp [Value.ownBlock]
    ·rw [h0]; have := lt_of_blk hh; simp [Value.ownBlock]; omega
   have HO3 := Lib.hid (HO2.out.moved mv)
   have HO4 := Lib.hid (HO3.out.own.moved ((Moved.start HO3.out.own.2.deck).alloc (.cells #[.int .i64 r.id, .int .i64 r.ver, .slice av r.vals.length cv] 44)))
   have HR4 := Lib.hid (show Reads (w3.alloc (.cells #[.int .i64 r.id, .int .i64 r.ver, .slice av r.vals.length cv] 44)) 3 (.slice (some ⟨w3.heap.size, 0, none⟩) 1 1) [(⟨r.id, r.ver, av, r.vals.length, cv, r.vals⟩ : RV)].length ([(⟨r.id, r.ver, av, r.vals.length, cv, r.vals⟩ : RV)].flatMap encRV) from reads_block (xs := [(⟨r.id, r.ver, av, r.vals.length, cv, r.vals⟩ : RV)].flatMap encRV) (fr := (0, 0)) (t := 44) (blk_new rfl) rfl)
   have HVN := Lib.hid (hv.move (w' := w3) (S' := fun x => some x ≠ u7.ownBlock ∧ W.heap.size ≤ x) (Nat.le_refl _) (fun x _ hx' => ⟨rfl, hown6 x hx', by have h' : w2.heap.size ≤ x := hx'; omega⟩))
   have HVO := Lib.hid (fun y (hy : y ∈ C) => (HO3.out.vals y hy).move (w' := w3) (S' := fun x => some x ≠ u7.ownBlock ∧ W.heap.size ≤ x) (Nat.le_refl _) (fun x hx' hs => ⟨rfl, hs.2, hs.1⟩))
   have hcn : C.length + [(⟨r.id, r.ver, av, r.vals.length, cv, r.vals⟩ : RV)].length ≤ 1000000000 := by simp only [List.length_cons, List.length_nil]; omega
   have HCk := Lib.hid (show checkN s r = 0 ∧ ∀ y ∈ r.vals, y.length ≤ 64 from ⟨hck, hsh⟩)
   have HId := Lib.hid hid
   have HAsc := Lib.hid HO3.out.asc; have HLe := Lib.hid HO3.out.le; have HOk3 := Lib.hid HO3.out.ok
   obtain ⟨rid, rver, rvals⟩ := r
   dsimp only at HO4 HR4 HVN hcn HCk HId
   clear hv hid hck hsh mv s0 s1 s2 s3 hzs HSX HO2 HO3
   go_wp2_with (at_builtin; refine wpList_append_mat rfl (.tmp 23) (.tmp 28) 35 rfl D 44 (.agg #[.int .i64 0, .int .i64 0, .slice none 0 0]) 3 40 encRV (fun _ => rfl) one_encRV Tryz.underlying35 infoR rfl (by decide) (by decide) (wA := W) (v := u7) (A := C) (B := [⟨rid, rver, av, rvals.length, cv, rvals⟩]) rfl HO4.out rfl HR4.out hcn ?_; intro v4 w4 ho4 hk4 hz4 hat4)
   go_roundw
   case rel =>
    have hmv : ∀ b, b < w3.heap.size → (some b ≠ u7.ownBlock ∧ W.heap.size ≤ b) → w4.heap[b]? = w3.heap[b]? ∧ OffRow W.heap.size v4 b := by
     intro b hb hS
     obtain ⟨q1, q2⟩ := hS
     refine ⟨?_, q2, ?_⟩
     ·obtain ⟨ob, hob⟩ : ∃ ob, w3.heap[b]? = some ob := ⟨_, Array.getElem?_eq_getElem hb⟩
      rw [hob]
      exact hk4 b ob q1 (blk_old hob)
     ·rcases hat4 with h1 | h1 | h1
      ·rw [h1]; simp
      ·rw [← h1]; exact q1
      ·rw [h1]; simp; omega
    have hz34 : w3.heap.size ≤ w4.heap.size := by simp at hz4; omega
    have hidr := HId.out
    refine ⟨j - 1, id + (1 + x), C ++ [⟨rid, rver, av, rvals.length, cv, rvals⟩], rfl, by go_num, by rw [List.length_append]; have := HJ.out; show C.length + 1 + (j - 1) = q; omega, ho4, fun y hy => ?_, fun y hy => ?_, ?_, fun y hy => ?_, by omega, by rw [List.length_append]; simp; omega⟩
    ·rcases List.mem_append.1 hy with h1 | h1
     ·exact (HVO.out y h1).move hz34 hmv
     ·simp at h1; subst h1; exact HVN.out.move hz34 hmv
    ·rcases List.mem_append.1 hy with h1 | h1
     ·exact HOk3.out y h1
     ·simp at h1; subst h1; exact HCk.out
    ·refine List.pairwise_append.2 ⟨HAsc.out, List.pairwise_singleton _ _, fun y hy z hz => ?_⟩
     simp at hz; subst hz
     have := HLe.out y hy
     show y.id < rid; omega
    ·rcases List.mem_append.1 hy with h1 | h1
     ·have := HLe.out y h1; omega
     ·simp at h1; subst h1; show rid ≤ _; omega
   case measure => simp [intOf]; omega
  ·have hq : decide ((0 : Int) < (j : Int)) = false := by simp; omega
   obtain rfl : j = 0 := by omega
   go_wp2_with fail
   go_ret
   exact ⟨_, C, W, id, rfl, HO.out, HM.out, by have := HJ.out; omega, HSD.out.check⟩
end
section
set_option maxRecDepth 100000
open Go.RowKit Cal
attribute [local go_sem] toList_mk mk_size str_append
theorem strC (l : List UInt8) : Lib.strCells ⟨l.toArray⟩ = Lib.byteCells l := rfl
theorem rowR_len {s : SchemaL} {r : RecL} (h : checkI s r = 0) (h5 : s.fields.length ≤ 5) : (rowR r).length ≤ 520 := by
 have := lineR_len h h5
 unfold rowR
 rw [List.length_append, List.length_cons, sumT_len]
 omega
theorem rowsT_len : ∀ (X : List (List UInt8)) (m : Nat), (∀ x ∈ X, x.length ≤ m) → (rowsT X).length ≤ X.length * (m + 1)
 | [], m, _ => by simp [rowsT]
 | x :: X, m, h => by
  have h1 := h x List.mem_cons_self
  have h2 := rowsT_len X m fun y hy => h y (List.mem_cons_of_mem _ hy)
  have e : rowsT (x :: X) = x ++ 10 :: rowsT X := by have := rowsT_cons x X []; simpa using this
  rw [e, List.length_append, List.length_cons, List.length_cons, Nat.add_mul, Nat.one_mul]
  omega
set_option maxHeartbeats 4000000 in
/-- the line of a record, where the library's variables hold what they hold -/
theorem rlineV_yes (S : Nat → Prop) (r : RecL) (sv : Value) (w : World) (hv : Vec w S 1 encS sv r.vals) (hvr : VarsAt w) (hi : 1 ≤ r.id ∧ r.id ≤ 1048576 ∧ 1 ≤ r.ver ∧ r.ver ≤ 1048576) (hs : ∀ t ∈ r.vals, t.length ≤ 64) (hn : r.vals.length ≤ 5) :
  Calls Tryz.prog 37 #[.agg #[.int .i64 r.id, .int .i64 r.ver, sv]] w fun e w' => e = .returned (strV (lineR r)) ∧ Below w.heap.size w w' := by
 obtain ⟨a, cap, rfl⟩ := hv.slice
 obtain ⟨id, ver, vals⟩ := r
 dsimp only at hv hi hs hn ⊢
 obtain ⟨i, rfl⟩ : ∃ i : Nat, id = i := Int.eq_ofNat_of_zero_le (by omega)
 obtain ⟨j, rfl⟩ : ∃ j : Nat, ver = j := Int.eq_ofNat_of_zero_le (by omega)
 have hx : (Lib.decDigits i).length ≤ 7 := dec_most (k := 7) (by decide) (by omega)
 have hy : (Lib.decDigits j).length ≤ 7 := dec_most (k := 7) (by decide) (by omega)
 have hit1 := fun w hw => itoa_any i (by omega) w hw
 have hit2 := fun w hw => itoa_any j (by omega) w hw
 have hln : lineR ⟨(i : Int), (j : Int), vals⟩ = joinC 9 (Lib.decDigits i :: Lib.decDigits j :: vals) := rfl
 rw [hln]
 obtain ⟨x, ex⟩ : ∃ x, Lib.decDigits i = x := ⟨_, rfl⟩
 obtain ⟨y, ey⟩ : ∃ y, Lib.decDigits j = y := ⟨_, rfl⟩
 rw [ex] at hx hit1 ⊢; rw [ey] at hy hit2 ⊢
 have hjl : (joinC 9 (x :: y :: vals)).length ≤ 1000000000 := by
  have := joinC_len 9 1000 (x :: y :: vals) (fun t ht => by
   rcases List.mem_cons.1 ht with rfl | h
   ·omega
   ·rcases List.mem_cons.1 h with rfl | h
    ·omega
    ·have := hs t h; omega)
  simp only [List.length_cons] at this
  omega
 have HV := Lib.hid hv.any; have HX := Lib.hid hit1; have HY := Lib.hid hit2; have HJ := Lib.hid hjl; have HN := Lib.hid hn; have HVr := Lib.hid hvr
 clear hv hx hy hs hjl hn hit1 hit2 ex ey hln hvr hi
 go_enter Tryz.func37, Tryz.ntmps37
 go_wp2_with fail
 refine wp_world (fun W hW => ?_)
 have hb0 : Below w.heap.size w W := by rw [hW]; exact (Below.refl w.heap.size w).alloc (Nat.le_refl _) _
 have hr0 : W.heap[w.heap.size]? = some (.cells #[.int .i64 i, .int .i64 j, .slice a vals.length cap] 44 (0, 0)) := by rw [hW]; exact blk_new rfl
 clear hW
 obtain ⟨c0, c1, c2⟩ := cells3 hr0
 have lr := lt_of_blk hr0
 have HB0 := Lib.hid hb0
 have HVr0 := Lib.hid (HVr.out.old hb0)
 clear hb0 hr0
 have bD : Below W.heap.size W W.drew := (Below.refl _ _).drew
 refine wp_region_noPanic ?_
 refine wp_region_k (by kernel_rfl) (fun w' => w'.cell? ⟨w.heap.size, 0, none⟩ = some (.int .i64 i) ∧ w'.cell? ⟨w.heap.size, 1, none⟩ = some (.int .i64 j) ∧ w'.cell? ⟨w.heap.size, 2, none⟩ = some (.slice a vals.length cap)) 9 (⟨c0, c1, c2⟩) (fun hHeld => ?_)
 refine tK 0 (h := ?_)
 refine tK 1 (h := ?_)
 refine tK 3 (h := ?_)
 refine tK 4 (h := ?_)
 refine tK 7 (h := ?_)
 refine tK 8 (h := ?_)
 refine wpAnyK_ready (rs := [2]) (by kernel_rfl) (by simp) ?_
 refine AllReadyK.cons rfl (fun K hK => ?_) AllReadyK.nil
 go_simp
 refine (HX.out _ (HVr0.out.old bD)).mono ?_; rintro e w1 ⟨rfl, hb⟩; have b1 := bD.trans (hb.mono bD.size); clear hb
 refine shutK hK (⟨(b1.cell (p := ⟨w.heap.size, 0, none⟩) lr).trans c0, (b1.cell (p := ⟨w.heap.size, 1, none⟩) lr).trans c1, (b1.cell (p := ⟨w.heap.size, 2, none⟩) lr).trans c2⟩) (fun hHeld => ?_)
 clear hK K
 try simp only [List.getElem_toArray, List.getElem_cons_zero, List.getElem_cons_succ, Act.put, List.setIfInBounds_toArray, List.set_cons_zero, List.set_cons_succ]
 refine wpAnyK_ready (rs := [5]) (by kernel_rfl) (by simp) ?_
 refine AllReadyK.cons rfl (fun K hK => ?_) AllReadyK.nil
 go_simp
 refine (HY.out _ (HVr0.out.old b1)).mono ?_; rintro e w2 ⟨rfl, hb⟩; have b2 := b1.trans (hb.mono b1.size); clear hb
 refine shutK hK (⟨(b2.cell (p := ⟨w.heap.size, 0, none⟩) lr).trans c0, (b2.cell (p := ⟨w.heap.size, 1, none⟩) lr).trans c1, (b2.cell (p := ⟨w.heap.size, 2, none⟩) lr).trans c2⟩) (fun hHeld => ?_)
 clear hK K
 try simp only [List.getElem_toArray, List.getElem_cons_zero, List.getElem_cons_succ, Act.put, List.setIfInBounds_toArray, List.set_cons_zero, List.set_cons_succ]
 have b3 := b2.alloc b2.size (.cells ([x, y].flatMap encS).toArray 9)
 refine wpAnyK_ready (rs := [6]) (by kernel_rfl) (by simp) ?_
 refine AllReadyK.cons rfl (fun K hK => ?_) AllReadyK.nil
 go_simp
 skip
 refine shutK hK (⟨(b3.cell (p := ⟨w.heap.size, 0, none⟩) lr).trans c0, (b3.cell (p := ⟨w.heap.size, 1, none⟩) lr).trans c1, (b3.cell (p := ⟨w.heap.size, 2, none⟩) lr).trans c2⟩) (fun hHeld => ?_)
 clear hK K
 try simp only [List.getElem_toArray, List.getElem_cons_zero, List.getElem_cons_succ, Act.put, List.setIfInBounds_toArray, List.set_cons_zero, List.set_cons_succ]
 have ho : OwnV 9 1 encS w (.slice (some ⟨w2.heap.size, 0, none⟩) 2 2) [x, y] (w2.alloc (.cells ([x, y].flatMap encS).toArray 9)) := own_new (HB0.out.trans (b3.mono HB0.out.size)) (Nat.le_trans HB0.out.size b2.size) (blk_new rfl) rfl (by simp) rfl
 have hrd := Vec.reads (k := 1) (enc := encS) (fun _ => rfl) (HV.out.below (HB0.out.trans (b3.mono HB0.out.size)))
 have HO := Lib.hid ho; have HRd := Lib.hid hrd
 have hbd : ([x, y] : List (List UInt8)).length + vals.length ≤ 1000000000 := by have := HN.out; simp; omega
 clear ho hrd b1 b2 b3 bD
 refine wpAnyK_ready (rs := [9]) (by kernel_rfl) (by simp) ?_
 refine AllReadyK.cons rfl (fun K hK => ?_) AllReadyK.nil
 refine wp_append_v (.tmp 9) (.tmp 11) 28 (by rfl) 9 (.string ⟨#[]⟩) 1 16 encS (fun _ => rfl) encS_one Tryz.underlying28 infoS rfl (by decide) (by decide) (w0 := w) (v := .slice (some ⟨w2.heap.size, 0, none⟩) 2 2) (A := [x, y]) (B := vals) (by rfl) HO.out (by rfl) HRd.out hbd ?_; intro v5 w5 ho5 hk5 hz5
 refine shutK_off hK (by decide) ?_
 clear hK K
 try simp only [List.getElem_toArray, List.getElem_cons_zero, List.getElem_cons_succ, Act.put, List.setIfInBounds_toArray, List.set_cons_zero, List.set_cons_succ]
 have HO5 := Lib.hid ho5
 clear ho5 hk5 hz5
 refine wpAnyK_ready (rs := [10]) (by kernel_rfl) (by simp) ?_
 refine AllReadyK.cons rfl (fun K hK => ?_) AllReadyK.nil
 go_simp
 refine (joinc_any 9 _ v5 ([x, y] ++ vals) w5 (OwnV.vec (enc := encS) (fun _ => rfl) HO5.out) (by have := HN.out; simp; omega) HJ.out).mono ?_; rintro e w6 ⟨rfl, hb⟩; have HB6 := Lib.hid (HO5.out.2.trans (hb.mono HO5.out.2.size)); clear hb
 refine shutK_off hK (by decide) ?_
 clear hK K
 try simp only [List.getElem_toArray, List.getElem_cons_zero, List.getElem_cons_succ, Act.put, List.setIfInBounds_toArray, List.set_cons_zero, List.set_cons_succ]
 refine wpAnyK_ready (rs := [11]) (by kernel_rfl) (by simp) ?_
 refine AllReadyK.cons rfl (fun K hK => ?_) AllReadyK.nil
 go_simp
 skip
 refine shutK_off hK (by decide) ?_
 clear hK K
 try simp only [List.getElem_toArray, List.getElem_cons_zero, List.getElem_cons_succ, Act.put, List.setIfInBounds_toArray, List.set_cons_zero, List.set_cons_succ]
 refine wpAnyK_done (by kernel_rfl) ?_ _
 refine NoPanic.normal ?_
 go_wp2_with fail
 go_ret
 exact ⟨rfl, HB6.out⟩
theorem follows_len {s : SchemaL} {R : List RecL} (h : allN s R = 0) (h5 : s.fields.length ≤ 5) (j : Nat) : (rowsT ((R.take j).map rowR)).length ≤ 64 * 521 := by
 obtain ⟨h0, h1, h2⟩ := allN_ok h
 have := rowsT_len ((R.take j).map rowR) 520 fun x hx => by
  obtain ⟨r, hr, rfl⟩ := List.mem_map.1 hx
  have := h2 r (List.mem_of_mem_take hr)
  unfold checkN at this
  rw [if_pos h0] at this
  exact rowR_len this h5
 rw [List.length_map, List.length_take] at this
 have : min j R.length ≤ 64 := by omega
 omega
set_option maxHeartbeats 8000000 in
/-- the file of a valid list -/
theorem rfile_yes (S T : Nat → Prop) (vf vt vn vs rv : Value) (s : SchemaL) (R : List RecL) (w : World) (h : SchemaAt w S vf vt vn vs s) (hr : RecsVec w T rv R) (hR : allN s R = 0) (hvr : VarsAt w) (hdb : DbAt w) :
  Calls Tryz.prog 10 #[.agg #[vf, vt, vn, vs], rv] w fun e w' => e = .returned (.tuple #[strV (fileR R), .int .i64 0]) ∧ Below w.heap.size w w' := by
 obtain ⟨hc, hl64, hck⟩ := allN_ok hR
 have hckI : ∀ r ∈ R, checkI s r = 0 := fun r hr => by have := hck r hr; unfold checkN at this; rwa [if_pos hc] at this
 have h5 := (check_fields hc).1.2
 have hlenj := follows_len hR h5
 obtain ⟨ar, cr, rfl⟩ := hr.slice
 have hsm := recs_of_all hR
 have hit := fun w hw => itoa_any R.length (by omega) w hw
 have hdl : (Lib.decDigits R.length).length ≤ 7 := dec_most (k := 7) (by decide) (by omega)
 have hfr : fileR R = rowsT (R.map rowR) ++ ([101, 110, 100, 32] ++ Lib.decDigits R.length ++ [10]) := by unfold fileR; rw [rowsT_append, rowsT_one]; rfl
 rw [hfr]
 obtain ⟨d, hd⟩ : ∃ d, Lib.decDigits R.length = d := ⟨_, rfl⟩
 rw [hd] at hit hdl ⊢
 have HS := Lib.hid h; have HRV := Lib.hid hr; have HR0 := Lib.hid hR; have HCk := Lib.hid hckI; have HSm := Lib.hid hsm; have HIt := Lib.hid hit; have HLen := Lib.hid hlenj; have HVr := Lib.hid hvr; have HDb := Lib.hid hdb; have HH5 := Lib.hid h5
 have dz : ((0 : Int) != 0) = false := rfl
 clear h hr hR hckI hsm hit hlenj hvr hdb hck hc hd hfr
 go_enter Tryz.func10, Tryz.ntmps10
 go_wp2_with fail
 refine wp_calls_world (fun W hW => ?_)
 have hb0 : Below w.heap.size w W := by rw [hW]; exact (Below.refl w.heap.size w).alloc (Nat.le_refl _) _
 clear hW
 have HB0 := Lib.hid hb0
 clear hb0
 refine (rall_any S T _ _ _ _ _ s R W (HS.out.below HB0.out) (HRV.out.below HB0.out) (fun r hr x hx => by have := HSm.out.short r hr x hx; omega) (fun r hr => by have h1 := (checkI_ok (HCk.out r hr)).2.1; have h2 := HH5.out; omega) (by omega)).mono ?_
 rw [HR0.out]
 rintro e w1 ⟨rfl, hb⟩
 have HB1 := Lib.hid (HB0.out.trans (hb.mono HB0.out.size))
 clear hb HB0
 go_wp2_with fail
 refine wp_world (fun W2 hW2 => ?_)
 have hb2 : Below w1.heap.size w1 W2 := by rw [hW2]; exact (Below.refl w1.heap.size w1).alloc (Nat.le_refl _) _
 have hh2 : HoldsB w1.heap.size w1.heap.size [] W2 := by rw [hW2]; exact ⟨.inl ⟨Nat.le_refl _, _, blk_new rfl, ⟨rfl, .inl ⟨rfl, rfl⟩⟩, by simp [Value.ownBlock]⟩, by simp⟩
 have HT2 := Lib.hid (show TextAt w1 [] W2 from ⟨hh2, hb2⟩)
 have HRV1 := Lib.hid (HRV.out.below HB1.out); have HVr1 := Lib.hid (HVr.out.old HB1.out); have HDb1 := Lib.hid (HDb.out.old HB1.out)
 clear hW2 hb2 hh2 HRV
 go_loopw [9, 18] (fun _ i wr => ∃ j : Nat, i = .int .i64 j ∧ j ≤ R.length ∧ Hid (TextAt w1 (rowsT ((R.take j).map rowR)) wr)) (fun _ i _ => R.length - (intOf i).toNat)
 case atStart => exact ⟨0, rfl, by omega, HT2⟩
 case round =>
  obtain ⟨j, rfl, hj, HT⟩ := hrel
  by_cases hlt : j < R.length
  ·have hq : decide ((j : Int) < (R.length : Int)) = true := by simp; omega
   have hji : (j : Int) < (R.length : Int) := by omega
   obtain ⟨bb, oo, id, ver, aa, nn, cc, vals, eb, lb, c0, c1, c2, hRj, hvv⟩ := (HRV1.out.below HT.out.2).at j hlt
   cases eb
   have hr1 := HCk.out R[j] (List.getElem_mem hlt)
   have hsh := HSm.out.short R[j] (List.getElem_mem hlt)
   have hacc := HLen.out j
   have hmore : rowsT ((R.take (j + 1)).map rowR) = rowsT ((R.take j).map rowR) ++ (rowR R[j] ++ [10]) := by
    rw [List.take_succ_eq_append_getElem hlt, List.map_append, rowsT_append]
    simp [rowsT]
   rw [hRj] at hr1 hsh hmore
   have hci := checkI_ok hr1
   have hl5 := lineR_len hr1 HH5.out
   have hln := fun w h1 h2 => rlineV_yes T ⟨id, ver, vals⟩ (.slice aa nn cc) w h1 h2 hci.1 hsh (by have h1 := hci.2.1; have h2 := HH5.out; omega)
   have hsum := fun w hw => rsum_any' (lineR ⟨id, ver, vals⟩) w (by omega) hw
   have hsl := sumT_len (lineR ⟨id, ver, vals⟩)
   rw [show rowR ⟨id, ver, vals⟩ = lineR ⟨id, ver, vals⟩ ++ 9 :: sumT (lineR ⟨id, ver, vals⟩) from rfl] at hmore
   obtain ⟨x, hx⟩ : ∃ x, lineR ⟨id, ver, vals⟩ = x := ⟨_, rfl⟩
   rw [hx] at hl5 hln hsum hsl hmore
   obtain ⟨z, hz⟩ : ∃ z, sumT x = z := ⟨_, rfl⟩
   rw [hz] at hsum hsl hmore
   obtain ⟨acc, hac⟩ : ∃ acc, rowsT ((R.take j).map rowR) = acc := ⟨_, rfl⟩
   have HT1 := Lib.hid (show TextAt w1 acc wr by rw [← hac]; exact HT.out)
   rw [hac] at hmore hacc
   have HMo := Lib.hid hmore; have HLn := Lib.hid hln; have HSu := Lib.hid hsum; have HVv := Lib.hid hvv
   have hzl : z.length ≤ 16 := by omega
   have hk1 : ¬ 9223372036854775807 < x.length + 1 := by omega
   have hk2 : ¬ 9223372036854775807 < x.length + 1 + z.length := by omega
   have hk3 : ¬ 9223372036854775807 < x.length + (z.length + 1) := by omega
   have hk4 : ¬ 9223372036854775807 < x.length + 1 + z.length + 1 := by omega
   have hk5 : ¬ 9223372036854775807 < x.length + (z.length + 1) + 1 := by omega
   have hk6 : ¬ 9223372036854775807 < x.length + (z.length + 1 + 1) := by omega
   clear hr1 hsh hmore hci hln hsum hx hz hac hRj hvv HT hsl
   go_wp2_with fail
   refine wp_world (fun W3 hW3 => ?_)
   have hb3 : Below wr.heap.size wr W3 := by rw [hW3]; exact (Below.refl wr.heap.size wr).alloc (Nat.le_refl _) _
   have hx3 : W3.heap[wr.heap.size]? = some (.cells #[.int .i64 id, .int .i64 ver, .slice aa nn cc] 44 (0, 0)) := by rw [hW3]; exact blk_new rfl
   have HT3 := Lib.hid (HT1.out.below hb3); have HV3 := Lib.hid (HVv.out.below hb3)
   have HVr3 := Lib.hid (HVr1.out.old (HT1.out.2.trans (hb3.mono HT1.out.2.size))); have HDb3 := Lib.hid (HDb1.out.old (HT1.out.2.trans (hb3.mono HT1.out.2.size)))
   obtain ⟨x0, x1, x2⟩ := cells3 hx3
   have lx := lt_of_blk hx3
   have bD : Below W3.heap.size W3 W3.drew := (Below.refl _ _).drew
   clear hW3 hx3 hb3 c0 c1 c2 HVv
   refine wp_region_noPanic ?_
   refine wp_region_k (by kernel_rfl) (fun w' => w'.cell? ⟨wr.heap.size, 0, none⟩ = some (.int .i64 id) ∧ w'.cell? ⟨wr.heap.size, 1, none⟩ = some (.int .i64 ver) ∧ w'.cell? ⟨wr.heap.size, 2, none⟩ = some (.slice aa nn cc)) 8 (⟨x0, x1, x2⟩) (fun hHeld => ?_)
   refine tK 0 (h := ?_)
   refine tK 3 (h := ?_)
   refine wpAnyK_ready (rs := [1]) (by kernel_rfl) (by simp) ?_
   refine AllReadyK.cons rfl (fun K hK => ?_) AllReadyK.nil
   go_simp
   refine (HLn.out _ (HV3.out.below bD) (HVr3.out.old bD)).mono ?_; rintro e V1 ⟨rfl, hb⟩; have b1 := bD.trans (hb.mono bD.size); clear hb
   refine shutK hK (⟨(b1.cell (p := ⟨wr.heap.size, 0, none⟩) lx).trans x0, (b1.cell (p := ⟨wr.heap.size, 1, none⟩) lx).trans x1, (b1.cell (p := ⟨wr.heap.size, 2, none⟩) lx).trans x2⟩) (fun hHeld => ?_)
   clear hK K
   try simp only [List.getElem_toArray, List.getElem_cons_zero, List.getElem_cons_succ, Act.put, List.setIfInBounds_toArray, List.set_cons_zero, List.set_cons_succ]
   refine tK 2 (h := ?_)
   refine wpAnyK_ready (rs := [4]) (by kernel_rfl) (by simp) ?_
   refine AllReadyK.cons rfl (fun K hK => ?_) AllReadyK.nil
   go_simp
   refine (HLn.out _ (HV3.out.below b1) (HVr3.out.old b1)).mono ?_; rintro e V2 ⟨rfl, hb⟩; have b2 := b1.trans (hb.mono b1.size); clear hb
   refine shutK hK (⟨(b2.cell (p := ⟨wr.heap.size, 0, none⟩) lx).trans x0, (b2.cell (p := ⟨wr.heap.size, 1, none⟩) lx).trans x1, (b2.cell (p := ⟨wr.heap.size, 2, none⟩) lx).trans x2⟩) (fun hHeld => ?_)
   clear hK K
   try simp only [List.getElem_toArray, List.getElem_cons_zero, List.getElem_cons_succ, Act.put, List.setIfInBounds_toArray, List.set_cons_zero, List.set_cons_succ]
   refine wpAnyK_ready (rs := [5]) (by kernel_rfl) (by simp) ?_
   refine AllReadyK.cons rfl (fun K hK => ?_) AllReadyK.nil
   go_simp
   refine (HSu.out _ (HDb3.out.old b2)).mono ?_; rintro e V3 ⟨rfl, hb⟩; have b3 := b2.trans (hb.mono b2.size); clear hb
   refine shutK hK (⟨(b3.cell (p := ⟨wr.heap.size, 0, none⟩) lx).trans x0, (b3.cell (p := ⟨wr.heap.size, 1, none⟩) lx).trans x1, (b3.cell (p := ⟨wr.heap.size, 2, none⟩) lx).trans x2⟩) (fun hHeld => ?_)
   clear hK K
   try simp only [List.getElem_toArray, List.getElem_cons_zero, List.getElem_cons_succ, Act.put, List.setIfInBounds_toArray, List.set_cons_zero, List.set_cons_succ]
   refine tK 6 (h := ?_)
   refine tK 7 (h := ?_)
   have HT4 := Lib.hid (HT3.out.below b3)
   have hlt4 : (Lib.byteCells acc).length + (⟨(x ++ 9 :: (z ++ [10])).toArray⟩ : ByteArray).size ≤ 140737488355328 := by rw [Lib.byteCells_length, mk_size]; simp; omega
   have HWs := Lib.hid (wstr_k w1.heap.size w1.heap.size (Lib.byteCells acc) ⟨(x ++ 9 :: (z ++ [10])).toArray⟩ V3 HT4.out.1.1 hlt4 HT4.out.1.2)
   refine wpAnyK_ready (rs := [8]) (by kernel_rfl) (by simp) ?_
   refine AllReadyK.cons rfl (fun K hK => ?_) AllReadyK.nil
   go_simp
   refine HWs.out.mono ?_; rintro e V4 ⟨rfl, h4, hb4, -⟩
   refine shutK_off hK (by decide) ?_
   clear hK K
   try simp only [List.getElem_toArray, List.getElem_cons_zero, List.getElem_cons_succ, Act.put, List.setIfInBounds_toArray, List.set_cons_zero, List.set_cons_succ]
   refine wpAnyK_done (by kernel_rfl) ?_ _
   refine NoPanic.normal ?_
   rw [strC, ← Lib.byteCells_append] at h4
   have HT5 := Lib.hid (show TextAt w1 (rowsT ((R.take (j + 1)).map rowR)) V4 from ⟨⟨.inr (by rw [HMo.out, show x ++ 9 :: z ++ [10] = x ++ 9 :: (z ++ [10]) by simp]; exact h4), Nat.le_trans HT4.out.1.2 hb4.size⟩, HT4.out.2.trans hb4⟩)
   clear h4 hb4 bD b1 b2 b3 x0 x1 x2
   go_wp2_with fail
   go_roundw
   case rel => exact ⟨j + 1, by go_num, by omega, HT5⟩
   case measure => simp [intOf]; omega
  ·have hq : decide ((j : Int) < (R.length : Int)) = false := by simp; omega
   obtain rfl : j = R.length := by omega
   have hT := HT.out
   have hacc := HLen.out R.length
   rw [List.take_length] at hT hacc
   obtain ⟨acc, hac⟩ : ∃ acc, rowsT (R.map rowR) = acc := ⟨_, rfl⟩
   rw [hac] at hT hacc
   have HT1 := Lib.hid hT; have HAc := Lib.hid hac
   have HVr3 := Lib.hid (HVr1.out.old HT1.out.2)
   clear hT HT hac
   go_wp2_with fail
   refine (HIt.out _ HVr3.out).mono ?_
   rintro e w3 ⟨rfl, hb⟩
   have HT3 := Lib.hid (HT1.out.below hb)
   have hn1 : ¬ 9223372036854775807 < 4 + d.length := by omega
   have hn2 : ¬ 9223372036854775807 < d.length + 4 := by omega
   have hn3 : ¬ 9223372036854775807 < d.length + 1 + 1 + 1 + 1 + 1 := by omega
   have hn4 : ¬ 9223372036854775807 < d.length + 1 + 1 + 1 + 1 := by omega
   clear hb
   go_wp2_with fail
   refine (wstr_k w1.heap.size w1.heap.size (Lib.byteCells acc) ⟨(101 :: 110 :: 100 :: 32 :: (d ++ [10])).toArray⟩ _ HT3.out.1.1 (by rw [Lib.byteCells_length, mk_size]; simp; omega) HT3.out.1.2).mono ?_
   rintro e w4 ⟨rfl, h4, hb4, -⟩
   rw [strC, ← Lib.byteCells_append] at h4
   have H4 := Lib.hid h4; have HB4 := Lib.hid (HT3.out.2.trans hb4)
   have hz4 := HB4.out.size
   clear h4 hb4
   go_wp2_with fail
   refine (bstr_k w1.heap.size w1.heap.size _ _ (.inr H4.out) hz4).mono ?_
   rintro e w5 ⟨rfl, hb5⟩
   have HB5 := Lib.hid (HB1.out.trans ((HB4.out.trans hb5).mono HB1.out.size))
   clear hb5
   go_wp2_with fail
   go_ret2
   refine ⟨?_, HB5.out⟩
   rw [HAc.out]
   simp
end
section
set_option maxRecDepth 100000
open Go.RowKit
attribute [local go_sem] toList_mk mk_size str_append
/-- the error that goes with a text: none exactly if it is a number -/
def ErrIs (b : Bool) (er : Value) : Prop := if b = true then er = .nilIface else ∃ te pe, er = .iface te pe
theorem atoi_full (t : List UInt8) (ht : t.length ≤ 1000000000) (w : World) (hv : VarsAt w) : Calls Tryz.prog 117 #[strV t] w fun e w' => (∃ er, e = .returned (.tuple #[.int .i64 (atoiV t), er]) ∧ ErrIs (isNum t) er) ∧ Below w.heap.size w w' := by
 have hsz : (⟨t.toArray⟩ : ByteArray).size = t.length := by simp [ByteArray.size]
 have hd : (⟨t.toArray⟩ : ByteArray).data.toList = t := by simp
 unfold atoiV isNum ErrIs
 cases h : Lib.atoiAll t with
 | ok v =>
  refine (Tryz.strconv_Atoi_ok ⟨t.toArray⟩ (by rw [hsz]; omega) v (by rw [hd]; exact h) w).mono ?_
  rintro e w' ⟨rfl, hw⟩
  refine ⟨⟨_, rfl, rfl⟩, ?_⟩
  rcases hw with rfl | ⟨t, rfl⟩
  ·exact Below.refl _ _
  ·exact Lib.bytesWorld_below _ _ _
 | range =>
  obtain ⟨ev, h1, h2⟩ := hv.e1
  refine (Tryz.strconv_Atoi_range ⟨t.toArray⟩ (by rw [hsz]; omega) (by rw [hd]; exact h) ev w h1 h2).mono ?_
  rintro e w' ⟨N, rfl, -, -, hb⟩
  rw [hd]
  exact ⟨⟨_, rfl, _, _, rfl⟩, hb⟩
 | _ =>
  obtain ⟨ev, h1, h2⟩ := hv.e0
  refine (Tryz.strconv_Atoi_syntax ⟨t.toArray⟩ (by rw [hsz]; omega) (by rw [hd]; exact h) ev w h1 h2).mono ?_
  rintro e w' ⟨N, rfl, -, -, hb⟩
  exact ⟨⟨_, rfl, _, _, rfl⟩, hb⟩
theorem atoiAll_big : ∀ (t : List UInt8) (v : Int), Lib.atoiAll t = .ok v → v ≤ 9223372036854775807
 | [], v, h => by cases h
 | c :: r, v, h => by
  unfold Lib.atoiAll at h
  dsimp only at h
  generalize Lib.parseMag (if c.toNat = 43 ∨ c.toNat = 45 then r else c :: r) = m at h
  cases m with
  | ok u =>
   dsimp only at h
   by_cases g1 : ¬ c.toNat = 45 ∧ 9223372036854775808 ≤ u
   ·rw [if_pos g1] at h; cases h
   ·rw [if_neg g1] at h
    by_cases g2 : c.toNat = 45 ∧ 9223372036854775808 < u
    ·rw [if_pos g2] at h; cases h
    ·rw [if_neg g2] at h
     have e := Lib.NumEnd.ok.inj h
     by_cases g3 : c.toNat = 45
     ·rw [if_pos g3] at e; omega
     ·rw [if_neg g3] at e; omega
  | range => cases h
  | _ => cases h
theorem atoiV_big {t : List UInt8} (h : isNum t = true) : atoiV t ≤ 9223372036854775807 := by
 unfold isNum at h
 cases h1 : Lib.atoiAll t with
 | ok v =>
  unfold atoiV
  rw [h1]
  exact atoiAll_big t v h1
 | range => rw [h1] at h; cases h
 | _ => rw [h1] at h; cases h
set_option maxHeartbeats 4000000 in
theorem rnum_any (t : List UInt8) (w : World) (ht : t.length ≤ 1000000000) (hv : VarsAt w) :
  Calls Tryz.prog 82 #[strV t] w fun e w' => e = .returned (.tuple #[.int .i64 (atoiV t), .bool (numOk t)]) ∧ Below w.heap.size w w' := by
 have HV := Lib.hid hv
 have hat := fun w hw => atoi_full t ht w hw
 have hbig := @atoiV_big t
 obtain ⟨z, hz⟩ : ∃ z, atoiV t = z := ⟨_, rfl⟩
 unfold numOk
 rw [hz] at hat hbig ⊢
 clear hv hz
 cases hn : isNum t
 ·rw [hn] at hat
  have HA := Lib.hid hat
  rw [Bool.false_and]
  clear hat hn hbig
  go_enter Tryz.func82, Tryz.ntmps82
  go_wp2_with fail
  refine (HA.out _ HV.out).mono ?_
  rintro e w1 ⟨⟨er, rfl, te, pe, rfl⟩, hb⟩
  have HB := Lib.hid hb
  clear hb
  go_wp2_with fail
  go_ret2
  exact ⟨rfl, HB.out⟩
 ·rw [hn] at hat
  have hzb := hbig hn
  have HA := Lib.hid hat
  rw [Bool.true_and]
  clear hat hn hbig
  by_cases h7 : t.length ≤ 7
  ·have d7 : decide ((t.length : Int) ≤ 7) = true := decide_eq_true (by omega)
   rw [decide_eq_true h7, Bool.true_and]
   by_cases h0 : 0 ≤ z
   ·have d0 : decide ((0 : Int) ≤ z) = true := decide_eq_true h0
    rw [d0, Bool.true_and]
    obtain ⟨n, rfl⟩ := Int.eq_ofNat_of_zero_le h0
    have hit := fun w hw => itoa_any n (by omega) w hw
    rw [Int.toNat_natCast]
    obtain ⟨y, hy⟩ : ∃ y, Lib.decDigits n = y := ⟨_, rfl⟩
    rw [hy] at hit ⊢
    have HI := Lib.hid hit
    clear hit hy h0 h7
    go_enter Tryz.func82, Tryz.ntmps82
    go_wp2_with fail
    refine (HA.out _ HV.out).mono ?_
    rintro e w1 ⟨⟨er, rfl, her⟩, hb⟩
    have her' : er = .nilIface := her
    subst her'
    have HB := Lib.hid hb
    clear hb her
    go_wp2_with fail
    refine (HI.out _ (HV.out.old HB.out)).mono ?_
    rintro e w2 ⟨rfl, hb⟩
    have HB2 := Lib.hid (HB.out.trans (hb.mono HB.out.size))
    clear hb
    go_wp2_with fail
    go_ret2
    exact ⟨rfl, HB2.out⟩
   ·have d0 : decide ((0 : Int) ≤ z) = false := decide_eq_false h0
    rw [d0, Bool.false_and]
    clear h0 h7
    go_enter Tryz.func82, Tryz.ntmps82
    go_wp2_with fail
    refine (HA.out _ HV.out).mono ?_
    rintro e w1 ⟨⟨er, rfl, her⟩, hb⟩
    have her' : er = .nilIface := her
    subst her'
    have HB := Lib.hid hb
    clear hb her
    go_wp2_with fail
    go_ret2
    exact ⟨rfl, HB.out⟩
  ·have d7 : decide ((t.length : Int) ≤ 7) = false := decide_eq_false (by omega)
   rw [decide_eq_false h7, Bool.false_and]
   clear h7
   go_enter Tryz.func82, Tryz.ntmps82
   go_wp2_with fail
   refine (HA.out _ HV.out).mono ?_
   rintro e w1 ⟨⟨er, rfl, her⟩, hb⟩
   have her' : er = .nilIface := her
   subst her'
   have HB := Lib.hid hb
   clear hb her
   go_wp2_with fail
   go_ret2
   exact ⟨rfl, HB.out⟩
end
section
set_option maxRecDepth 100000
open Go.RowKit
attribute [local go_sem] toList_mk mk_size
end
section
set_option maxRecDepth 100000
open Go.RowKit Cal
attribute [local go_sem] toList_mk mk_size str_append
end
section
set_option maxRecDepth 100000
open Go.RowKit Cal
attribute [local go_sem] toList_mk mk_size str_append
theorem splC_mem (c : UInt8) : ∀ (l p : List UInt8) (t : List UInt8), t ∈ splC c p l → t.length ≤ p.length + l.length
 | [], p, t, h => by simp [splC] at h; subst h; simp
 | x :: r, p, t, h => by
  rw [splC] at h
  split at h
  ·rcases List.mem_cons.1 h with rfl | h1
   ·simp
   ·have := splC_mem c r [] t h1; simp at this; simp; omega
  ·have := splC_mem c r (p ++ [x]) t h; simp at this; simp; omega
theorem splC_few (c : UInt8) : ∀ (l p : List UInt8), (splC c p l).length ≤ l.length + 1
 | [], p => by simp [splC]
 | x :: r, p => by
  rw [splC]
  split
  ·have := splC_few c r []; simp; omega
  ·have := splC_few c r (p ++ [x]); simp; omega
end
section
set_option maxRecDepth 100000
open Go.RowKit Cal
attribute [local go_sem] toList_mk mk_size str_append
theorem RecVal.none (w : World) (S : Nat → Prop) : RecVal w S (.agg #[.int .i64 0, .int .i64 0, .slice none 0 0]) noRec := ⟨_, rfl, Vec.nil _ _ _ _⟩
/-- the words behind the first two, in blocks of S -/
theorem RowB.from2S {w : World} {S : Nat → Prop} {A : Nat} {L : List (List UInt8)} (h : RowB w A L) (hS : S A) (h2 : 2 < L.length) (c : Nat) (hc : L.length - 2 ≤ c) : Vec w S 1 encS (.slice (some ⟨A, 2, none⟩) (L.length - 2) c) (L.drop 2) := by
 refine ⟨_, c, by rw [List.length_drop], by rw [List.length_drop]; exact hc, fun h0 => ⟨A, 2, rfl, hS, lt_of_blk h, fun j x hj i u hu => ?_⟩⟩
 have hi : i = 0 ∧ u = strV x := by
  cases i with
  | zero => exact ⟨rfl, by simpa [encS] using hu.symm⟩
  | succ i => simp [encS] at hu
 obtain ⟨rfl, rfl⟩ := hi
 rw [List.getElem?_drop] at hj
 have hlt : 2 + j < L.length := (List.getElem?_eq_some_iff.1 hj).1
 have := RowB.cell h (2 + j) hlt
 rw [show L.getD (2 + j) [] = x by simp [List.getD, hj]] at this
 rw [Nat.mul_one, Nat.add_zero]; exact this
def RecParsed (p : RecL × Int) (w : World) (e : Ending) (w' : World) : Prop := ∃ v, e = .returned (.tuple #[v, .int .i64 p.2]) ∧ RecVal w' (fun b => w.heap.size ≤ b) v p.1 ∧ Below w.heap.size w w'
theorem checkI_two (s : SchemaL) (r : RecL) : checkI s r = 0 ∨ checkI s r = 7 := by unfold checkI; split; exact .inl rfl; exact .inr rfl
theorem RecParsed.bad {w w6 : World} {er : Int} (hb : Below w.heap.size w w6) {z : Nat} (hz : w.heap.size ≤ z) : RecParsed (noRec, er) w (.returned (.tuple #[.agg #[.int .i64 0, .int .i64 0, .slice none 0 0], .int .i64 er])) (((w6.setCell ⟨z, 0, none⟩ (.int .i64 0)).setCell ⟨z, 1, none⟩ (.int .i64 0)).setCell ⟨z, 2, none⟩ (.slice none 0 0)) :=
 ⟨_, rfl, RecVal.none _ _, ((hb.setCell (p := ⟨z, 0, none⟩) hz _).setCell (p := ⟨z, 1, none⟩) hz _).setCell (p := ⟨z, 2, none⟩) hz _⟩
set_option maxHeartbeats 16000000 in
theorem precparse_any (S : Nat → Prop) (vf vt vn vs : Value) (s : SchemaL) (t : List UInt8) (w : World) (h : SchemaAt w S vf vt vn vs s) (hc : checkS s = 0) (hvr : VarsAt w) (ht : t.length ≤ 100000) :
  Calls Tryz.prog 45 #[.agg #[vf, vt, vn, vs], strV t] w (RecParsed (parseR s t) w) := by
 have hsz := fun x hx => splC_mem 9 t [] x hx
 have hfw := splC_few 9 t []
 have h5 := (check_fields hc).1.2
 have h15 := (check_fields hc).1.1
 obtain ⟨R, hR⟩ : ∃ R, parseR s t = R := ⟨_, rfl⟩
 obtain ⟨L, hL⟩ : ∃ L, splC 9 [] t = L := ⟨_, rfl⟩
 rw [hR]
 unfold parseR parseW at hR
 rw [hL] at hR hsz hfw
 obtain ⟨af, cf, rfl⟩ := h.1.slice
 obtain ⟨n, hn⟩ : ∃ n, L.length = n := ⟨_, rfl⟩
 obtain ⟨N, hN⟩ : ∃ N, s.fields.length = N := ⟨_, rfl⟩
 rw [hn] at hR hfw
 rw [hN] at hR h5 h15 h
 rw [hN]
 have Hn := Lib.hid hn; have HNN := Lib.hid hN
 clear hn hN
 have HSc := Lib.hid h; have HVr := Lib.hid hvr; have HL := Lib.hid hL; have HSz := Lib.hid hsz; have HR := Lib.hid hR
 clear hvr hL hsz hR h hc
 go_enter Tryz.func45, Tryz.ntmps45
 go_wp2_with fail
 refine wp_calls_world (fun W hW => ?_)
 have hb0 : Below w.heap.size w W := by rw [hW]; exact ((Below.refl w.heap.size w).alloc (Nat.le_refl _) _).alloc (by simp) _
 have hs0 : W.heap[w.heap.size]? = some (.cells #[.slice af N cf, vt, vn, vs] 33 (0, 0)) := by rw [hW]; exact blk_old (blk_new rfl)
 have hz0 : W.heap[w.heap.size + 1]? = some (.cells #[.int .i64 0, .int .i64 0, .slice none 0 0] 44 (0, 0)) := by rw [hW]; exact blk_new (by simp)
 clear hW
 refine (split_any 9 t W (HVr.out.old hb0).m (by omega)).mono ?_
 rw [HL.out, Hn.out]
 rintro e w1 ⟨rfl, hrow, hb⟩
 have hz1 := blk_below hb (lt_of_blk hz0) hz0; have hs1 := blk_below hb (lt_of_blk hs0) hs0
 have HB1 := Lib.hid (hb0.trans (hb.mono hb0.size)); have HZ1 := Lib.hid hz1; have HS1 := Lib.hid hs1; have HRow := Lib.hid hrow
 have zW := hb0.size; have zh := lt_of_blk hz0
 obtain ⟨s0, s1, s2, s3⟩ := cellsS hs1
 obtain ⟨z0, z1, z2⟩ := cells3 hz1
 have f0 := frozen_of_row _ _ 0 _ _ hz1; have f1 := frozen_of_row _ _ 1 _ _ hz1; have f2 := frozen_of_row _ _ 2 _ _ hz1
 have lz := lt_of_blk hz1
 clear hb hb0 hz0 hz1 hrow hs0 hs1
 have hwl : IntKind.i64.wrap ((N : Int) + 2) = (N : Int) + 2 := by rw [IntKind.wrap_i64]; omega
 by_cases hl : n = N + 2
 ·have d2 : ((n : Int) != (N : Int) + 2) = false := by simp; omega
  have hRn := HR.out
  rw [if_pos hl] at hRn
  have c0 := RowB.cell HRow.out 0 (by rw [Hn.out]; omega)
  have c1 := RowB.cell HRow.out 1 (by rw [Hn.out]; omega)
  obtain ⟨x, hx⟩ : ∃ x, L.getD 0 [] = x := ⟨_, rfl⟩
  obtain ⟨y, hy⟩ : ∃ y, L.getD 1 [] = y := ⟨_, rfl⟩
  have hxl : x.length ≤ 1000000000 := by have := HSz.out (L.getD 0 []) (by rw [getD_at _ _ (show 0 < L.length by rw [Hn.out]; omega)]; exact List.getElem_mem _); rw [hx] at this; simp at this; omega
  have hyl : y.length ≤ 1000000000 := by have := HSz.out (L.getD 1 []) (by rw [getD_at _ _ (show 1 < L.length by rw [Hn.out]; omega)]; exact List.getElem_mem _); rw [hy] at this; simp at this; omega
  have hrw : recW L = ⟨atoiV x, atoiV y, L.drop 2⟩ := by unfold recW; rw [hx, hy]
  rw [hx, hy, hrw] at hRn
  rw [hx] at c0; rw [hy] at c1
  have i0 : (0 : Int) < (n : Int) := by omega
  have i1 : (1 : Int) < (n : Int) := by omega
  have i2 : (2 : Int) ≤ (n : Int) := by omega
  have hv1 := HVr.out.old HB1.out
  have lrow := lt_of_blk HRow.out
  obtain ⟨bx, hbx⟩ : ∃ b, numOk x = b := ⟨_, rfl⟩
  obtain ⟨by_, hby⟩ : ∃ b, numOk y = b := ⟨_, rfl⟩
  have hn1 := fun w hw => rnum_any x w hxl hw
  have hn2 := fun w hw => rnum_any y w hyl hw
  rw [hbx] at hn1 hRn; rw [hby] at hn2 hRn
  have HN1 := Lib.hid hn1; have HN2 := Lib.hid hn2; have HRn := Lib.hid hRn; have HLl := Lib.hid hl
  have hl3 : 2 < n := by omega
  have hn7 : n ≤ 7 := by omega
  clear hx hy HR hn1 hn2 hbx hby hRn hrw hl
  go_wp2_with fail
  refine (HN1.out _ hv1).mono ?_
  rintro e w2 ⟨rfl, hb2⟩
  have c1' := (hb2.cell (p := ⟨W.heap.size, 1, none⟩) lrow).trans c1
  have HZ2 := Lib.hid (blk_below hb2 (lt_of_blk HZ1.out) HZ1.out); have HS2 := Lib.hid (blk_below hb2 (lt_of_blk HS1.out) HS1.out)
  have HRow2 := Lib.hid (show RowB w2 W.heap.size L from blk_below hb2 lrow HRow.out)
  have HB2 := Lib.hid (HB1.out.trans (hb2.mono HB1.out.size))
  have hv2 := HVr.out.old HB2.out
  have lrow2 := lt_of_blk HRow2.out
  clear hb2 hv1 c0 c1 HZ1 HRow HS1 s0 s1 s2 s3 z0 z1 z2 f0 f1 f2
  go_wp2_with fail
  refine (HN2.out _ hv2).mono ?_
  rintro e w3 ⟨rfl, hb3⟩
  have HZ3 := Lib.hid (blk_below hb3 (lt_of_blk HZ2.out) HZ2.out); have HS3 := Lib.hid (blk_below hb3 (lt_of_blk HS2.out) HS2.out)
  have HRow3 := Lib.hid (show RowB w3 W.heap.size L from blk_below hb3 lrow2 HRow2.out)
  have HB3 := Lib.hid (HB2.out.trans (hb3.mono HB2.out.size))
  have hz1 := HZ3.out
  obtain ⟨z0, z1, z2⟩ := cells3 hz1
  have f0 := frozen_of_row _ _ 0 _ _ hz1; have f1 := frozen_of_row _ _ 1 _ _ hz1; have f2 := frozen_of_row _ _ 2 _ _ hz1
  have lz3 := lt_of_blk hz1
  have hrow3 := lt_of_blk HRow3.out
  clear hb3 hv2 c1' HZ2 HRow2 HS2 hz1
  have hbad : ∀ b, b = false → (bx && by_) = b → R = (noRec, 14) := fun b h1 h2 => by
   have h3 := HRn.out
   rw [h2, h1] at h3
   simpa using h3.symm
  cases hbx : bx
  ·have HRe := Lib.hid (hbad false rfl (by rw [hbx]; rfl))
   subst hbx
   clear hbad HRn
   go_wp2_with fail
   rw [HRe.out]
   exact bodyPost_row2 rfl rfl (blk_set (i := 2) (v := .slice none 0 0) (blk_set (i := 1) (v := .int .i64 0) (blk_set (i := 0) (v := .int .i64 0) HZ3.out))) Tryz.underlying44 rfl (by kernel_rfl) (RecParsed.bad HB3.out (Nat.le_succ _))
  cases hby : by_
  ·have HRe := Lib.hid (hbad false rfl (by rw [hbx, hby]; rfl))
   subst hbx hby
   clear hbad HRn
   go_wp2_with fail
   rw [HRe.out]
   exact bodyPost_row2 rfl rfl (blk_set (i := 2) (v := .slice none 0 0) (blk_set (i := 1) (v := .int .i64 0) (blk_set (i := 0) (v := .int .i64 0) HZ3.out))) Tryz.underlying44 rfl (by kernel_rfl) (RecParsed.bad HB3.out (Nat.le_succ _))
  subst hbx hby
  have hRn := HRn.out
  rw [if_pos (by rfl)] at hRn
  obtain ⟨Z, hZ⟩ : ∃ Z : RecL, (⟨atoiV x, atoiV y, L.drop 2⟩ : RecL) = Z := ⟨_, rfl⟩
  rw [hZ] at hRn
  have HRf := Lib.hid hRn; have HZZ := Lib.hid hZ
  have hdl : ∀ u ∈ L.drop 2, u.length ≤ 1000000 := fun u hu => by have := HSz.out u (List.mem_of_mem_drop hu); simp at this; omega
  have hdn : (L.drop 2).length ≤ 5 := by rw [List.length_drop, Hn.out]; omega
  have HDl := Lib.hid hdl; have HDn := Lib.hid hdn
  clear hbad HRn hRn hZ hdl hdn
  have hs3 := HS3.out
  have hvec : Vec w3 (fun b => w.heap.size + 1 < b) 1 encS (.slice (some ⟨W.heap.size, 2, none⟩) (n - 2) (n - 2)) (L.drop 2) := by have := HRow3.out.from2S (S := fun b => w.heap.size + 1 < b) (by omega) (by rw [Hn.out]; omega) (L.length - 2) (Nat.le_refl _); rwa [Hn.out] at this
  have HVec := Lib.hid hvec
  obtain ⟨s0, s1, s2, s3⟩ := cellsS hs3
  have ls3 := lt_of_blk hs3
  have hb3' := HB3.out.size
  clear hvec hs3
  go_wp2_with fail
  refine wp_calls_world (fun W5 hW5 => ?_)
  have hb5 : Below w3.heap.size w3 W5 := by rw [hW5]; exact (Below.refl w3.heap.size w3).alloc (Nat.le_refl _) _
  have hx5 : W5.heap[w3.heap.size]? = some (.cells #[.int .i64 (atoiV x), .int .i64 (atoiV y), .slice (some ⟨W.heap.size, 2, none⟩) (n - 2) (n - 2)] 44 (0, 0)) := by rw [hW5]; exact blk_new rfl
  clear hW5
  have hck := rchk_any S (.slice af N cf) vt vn vs s Z (.slice (some ⟨W.heap.size, 2, none⟩) (n - 2) (n - 2)) W5 (HSc.out.below (HB3.out.trans (hb5.mono HB3.out.size))) (by rw [← HZZ.out]; exact (HVec.out.below hb5).any) (by rw [← HZZ.out]; exact HDl.out) (by rw [← HZZ.out]; show (L.drop 2).length ≤ _; have := HDn.out; omega)
  rw [← HZZ.out] at hck
  dsimp only at hck
  rw [HZZ.out] at hck
  refine hck.mono ?_
  rintro e w6 ⟨rfl, hb⟩
  have hx6 := blk_below hb (lt_of_blk hx5) hx5
  have hz5 := blk_below hb5 (lt_of_blk HZ3.out) HZ3.out
  have hz6 := blk_below hb (lt_of_blk hz5) hz5
  have HB6 := Lib.hid ((HB3.out.trans (hb5.mono HB3.out.size)).trans (hb.mono (Nat.le_trans HB3.out.size hb5.size)))
  have HV6 := Lib.hid ((HVec.out.below hb5).below hb)
  have HX6 := Lib.hid hx6; have HZ6 := Lib.hid hz6
  obtain ⟨x0, x1, x2⟩ := cells3 hx6
  obtain ⟨z0, z1, z2⟩ := cells3 hz6
  have f0 := frozen_of_row _ _ 0 _ _ hz6; have f1 := frozen_of_row _ _ 1 _ _ hz6; have f2 := frozen_of_row _ _ 2 _ _ hz6
  have lz6 := lt_of_blk hz6; have lx := lt_of_blk hx6
  clear hb hb5 hx5 hx6 hz5 hz6 hck s0 s1 s2 s3
  rcases checkI_two s Z with h0 | h7
  ·have hRf := HRf.out
   rw [if_pos h0] at hRf
   have HRe := Lib.hid hRf
   rw [h0]
   have d00 : ((0 : Int) != 0) = false := rfl
   clear h0 hRf HRf
   go_wp2_with fail
   rw [← HRe.out, ← HZZ.out]
   refine bodyPost_row2 rfl rfl (blk_set (i := 2) (v := .slice (some ⟨W.heap.size, 2, none⟩) (n - 2) (n - 2)) (blk_set (i := 1) (v := .int .i64 (atoiV y)) (blk_set (i := 0) (v := .int .i64 (atoiV x)) HZ6.out))) Tryz.underlying44 rfl (by kernel_rfl) ?_
   refine ⟨_, rfl, ⟨_, rfl, ?_⟩, ((HB6.out.setCell (p := ⟨w.heap.size + 1, 0, none⟩) (Nat.le_succ _) _).setCell (p := ⟨w.heap.size + 1, 1, none⟩) (Nat.le_succ _) _).setCell (p := ⟨w.heap.size + 1, 2, none⟩) (Nat.le_succ _) _⟩
   refine HV6.out.move (by simp [World.setCell]) fun b hb hs => ?_
   have hs' : w.heap.size + 1 < b := hs
   exact ⟨((heap_setCell_other _ _ _ _ (by show b ≠ w.heap.size + 1; omega)).trans (heap_setCell_other _ _ _ _ (by show b ≠ w.heap.size + 1; omega))).trans (heap_setCell_other _ _ _ _ (by show b ≠ w.heap.size + 1; omega)), by show w.heap.size ≤ b; omega⟩
  ·have hRf := HRf.out
   rw [if_neg (by rw [h7]; decide), h7] at hRf
   have HRe := Lib.hid hRf
   rw [h7]
   have d77 : ((7 : Int) != 0) = true := rfl
   clear h7 hRf HRf
   go_wp2_with fail
   rw [← HRe.out]
   exact bodyPost_row2 rfl rfl (blk_set (i := 2) (v := .slice none 0 0) (blk_set (i := 1) (v := .int .i64 0) (blk_set (i := 0) (v := .int .i64 0) HZ6.out))) Tryz.underlying44 rfl (by kernel_rfl) (RecParsed.bad HB6.out (Nat.le_succ _))
 ·have d2 : ((n : Int) != (N : Int) + 2) = true := by simp; omega
  have hRn := HR.out
  rw [if_neg hl] at hRn
  subst hRn
  clear hl
  go_wp2_with fail
  exact bodyPost_row2 rfl rfl (blk_set (i := 2) (v := .slice none 0 0) (blk_set (i := 1) (v := .int .i64 0) (blk_set (i := 0) (v := .int .i64 0) HZ1.out))) Tryz.underlying44 rfl (by kernel_rfl) (RecParsed.bad HB1.out (Nat.le_succ _))
end
section
set_option maxRecDepth 100000
open Go.RowKit Cal
attribute [local go_sem] toList_mk mk_size
set_option maxHeartbeats 4000000 in
theorem rLineV_yes (S : Nat → Prop) (vf vt vn vs : Value) (s : SchemaL) (r : RecL) (sv : Value) (w : World) (h : SchemaAt w S vf vt vn vs s) (hv : Vec w Any1 1 encS sv r.vals) (hc : checkN s r = 0) (hck : checkS s = 0) (hvr : VarsAt w) :
  Calls Tryz.prog 13 #[.agg #[vf, vt, vn, vs], .agg #[.int .i64 r.id, .int .i64 r.ver, sv]] w fun e w' => e = .returned (.tuple #[strV (lineR r), .int .i64 0]) ∧ Below w.heap.size w w' := by
 have hI : checkI s r = 0 := by unfold checkN at hc; rwa [if_pos hck] at hc
 obtain ⟨hid, hl, hvs⟩ := checkI_ok hI
 have h5 := (check_fields hck).1.2
 have hs : ∀ t ∈ r.vals, t.length ≤ 64 := fun t ht => (hvs t ht).1
 have hn : r.vals.length ≤ 5 := by omega
 obtain ⟨a, cap, rfl⟩ := hv.slice
 have HV := Lib.hid hv; have HS := Lib.hid h; have HC := Lib.hid hc; have HI := Lib.hid hid; have HSh := Lib.hid hs; have HVr := Lib.hid hvr
 have dz : ((0 : Int) != 0) = false := rfl
 obtain ⟨L, hL⟩ : ∃ L, lineR r = L := ⟨_, rfl⟩
 rw [hL]
 have HL := Lib.hid hL
 obtain ⟨id, ver, vals⟩ := r
 dsimp only at HV HI HSh hn ⊢
 clear hv h hc hid hs hvs hl hI hck hvr h5 hL
 go_enter Tryz.func13, Tryz.ntmps13
 go_wp2_with fail
 refine wp_calls_world (fun W hW => ?_)
 have hb0 : Below w.heap.size w W := by rw [hW]; exact ((Below.refl w.heap.size w).alloc (Nat.le_refl _) _).alloc (by simp) _
 have hr0 : W.heap[w.heap.size + 1]? = some (.cells #[.int .i64 id, .int .i64 ver, .slice a vals.length cap] 44 (0, 0)) := by rw [hW]; exact blk_new (by simp)
 clear hW
 refine (rcheck_all S _ _ _ _ s ⟨id, ver, vals⟩ _ W (HS.out.below hb0) (HV.out.below hb0) (fun t ht => by have := HSh.out t ht; omega) (by show vals.length ≤ 1000000; omega)).mono ?_
 rw [HC.out]
 rintro e w1 ⟨rfl, hb⟩
 have hr1 := blk_below hb (lt_of_blk hr0) hr0
 have HB1 := Lib.hid (hb0.trans (hb.mono hb0.size))
 obtain ⟨r0, r1, r2⟩ := cells3 hr1
 clear hb hb0 hr0 hr1
 go_wp2_with fail
 refine (rlineV_yes Any1 ⟨id, ver, vals⟩ _ w1 (HV.out.below HB1.out) (HVr.out.old HB1.out) HI.out HSh.out hn).mono ?_
 rw [HL.out]
 rintro e w2 ⟨rfl, hb⟩
 have HB2 := Lib.hid (HB1.out.trans (hb.mono HB1.out.size))
 clear hb
 go_wp2_with fail
 go_ret2
 exact ⟨rfl, HB2.out⟩
set_option maxHeartbeats 4000000 in
theorem rParse_any (S : Nat → Prop) (vf vt vn vs : Value) (s : SchemaL) (t : List UInt8) (w : World) (h : SchemaAt w S vf vt vn vs s) (hc : checkS s = 0) (hvr : VarsAt w) (ht : t.length ≤ 100000) :
  Calls Tryz.prog 14 #[.agg #[vf, vt, vn, vs], strV t] w (RecParsed (parseR s t) w) := by
 obtain ⟨⟨r, er⟩, hR⟩ : ∃ R, parseR s t = R := ⟨_, rfl⟩
 rw [hR]
 have HS := Lib.hid h; have HC := Lib.hid hc; have HVr := Lib.hid hvr; have HR := Lib.hid hR
 have dz : ((0 : Int) != 0) = false := rfl
 clear h hc hvr hR
 go_enter Tryz.func14, Tryz.ntmps14
 go_wp2_with fail
 refine wp_calls_world (fun W hW => ?_)
 have hb0 : Below w.heap.size w W := by rw [hW]; exact ((Below.refl w.heap.size w).alloc (Nat.le_refl _) _).alloc (by simp) _
 have hs0 : W.heap[w.heap.size]? = some (.cells #[vf, vt, vn, vs] 33 (0, 0)) := by rw [hW]; exact blk_old (blk_new rfl)
 have hz0 : W.heap[w.heap.size + 1]? = some (.cells #[.int .i64 0, .int .i64 0, .slice none 0 0] 44 (0, 0)) := by rw [hW]; exact blk_new (by simp)
 clear hW
 refine (scheck_any S vf vt vn vs s W (HS.out.below hb0)).mono ?_
 rw [HC.out]
 rintro e w1 ⟨rfl, hb⟩
 have hs1 := blk_below hb (lt_of_blk hs0) hs0
 have hz1 := blk_below hb (lt_of_blk hz0) hz0
 have HB1 := Lib.hid (hb0.trans (hb.mono hb0.size)); have HZ1 := Lib.hid hz1
 obtain ⟨p0, p1, p2, p3⟩ := cellsS hs1
 clear hb hb0 hs0 hs1 hz0 hz1
 go_wp2_with fail
 refine (precparse_any S vf vt vn vs s t w1 (HS.out.below HB1.out) HC.out (HVr.out.old HB1.out) ht).mono ?_
 rw [HR.out]
 rintro e w2 ⟨_, rfl, ⟨sv, rfl, hvv⟩, hb⟩
 obtain ⟨as', cs', rfl⟩ := hvv.slice
 have hz2 := blk_below hb (lt_of_blk HZ1.out) HZ1.out
 have f0 := frozen_of_row _ _ 0 _ _ hz2; have f1 := frozen_of_row _ _ 1 _ _ hz2; have f2 := frozen_of_row _ _ 2 _ _ hz2
 have lz := lt_of_blk HZ1.out
 obtain ⟨z0, z1, z2⟩ := cells3 hz2
 have HB2 := Lib.hid (HB1.out.trans (hb.mono HB1.out.size)); have HVV := Lib.hid hvv; have HB12 := Lib.hid hb; have HZ2 := Lib.hid hz2
 clear hb hvv hz2
 go_wp2_with fail
 refine bodyPost_row2 rfl rfl (blk_set (i := 2) (v := .slice as' r.vals.length cs') (blk_set (i := 1) (v := .int .i64 r.ver) (blk_set (i := 0) (v := .int .i64 r.id) HZ2.out))) Tryz.underlying44 rfl (by kernel_rfl) ?_
 refine ⟨_, rfl, ⟨_, rfl, ?_⟩, ((HB2.out.setCell (p := ⟨w.heap.size + 1, 0, none⟩) (Nat.le_succ _) _).setCell (p := ⟨w.heap.size + 1, 1, none⟩) (Nat.le_succ _) _).setCell (p := ⟨w.heap.size + 1, 2, none⟩) (Nat.le_succ _) _⟩
 have hz := lt_of_blk HZ1.out
 refine HVV.out.move (by simp [World.setCell]) fun b hb hs => ?_
 have hs' : w1.heap.size ≤ b := hs
 exact ⟨((heap_setCell_other _ _ _ _ (by show b ≠ w.heap.size + 1; omega)).trans (heap_setCell_other _ _ _ _ (by show b ≠ w.heap.size + 1; omega))).trans (heap_setCell_other _ _ _ _ (by show b ≠ w.heap.size + 1; omega)), by show w.heap.size ≤ b; omega⟩
end
section
open Go.RowKit
theorem digs_one (i : Nat) (h : i < 10) : Lib.decDigits i = [UInt8.ofNat (48 + i)] := by
 have : ∀ j : Fin 10, Lib.decDigits j = [UInt8.ofNat (48 + j.val)] := by decide +kernel
 exact this ⟨i, h⟩
end
section
set_option maxRecDepth 100000
open Go.RowKit
set_option maxHeartbeats 400000 in
theorem rrot13 (x : Int) (w : World) : Calls Tryz.prog 220 #[.int .u64 x, .int .i64 13] w fun e w' => e = .returned (.int .u64 (rotP 8192 2251799813685248 x)) ∧ Below w.heap.size w w' := by
 have hw : IntKind.i64.wrap 51 = 51 := by decide
 go_enter Tryz.func220, Tryz.ntmps220
 go_wp2_with fail
 refine wp_region_noPanic ?_
 refine wp_region_held_drew (S := (fun _ => True)) (by kernel_rfl) (trivial) (fun hHeld => ?_)
 refine tH 0 (h := ?_)
 refine tH 1 (h := ?_)
 refine tH 2 (h := ?_)
 refine tH 3 (h := ?_)
 refine tH 4 (h := ?_)
 refine tH 5 (h := ?_)
 refine tH 6 (h := ?_)
 refine tH 7 (h := ?_)
 refine tH 8 (h := ?_)
 refine wpAnyH_done (by kernel_rfl) ?_ _
 refine NoPanic.normal ?_
 go_wp2_with fail
 go_ret
 exact ⟨rfl, (Below.refl _ _).drew⟩
set_option maxHeartbeats 400000 in
theorem rrot32 (x : Int) (w : World) : Calls Tryz.prog 220 #[.int .u64 x, .int .i64 32] w fun e w' => e = .returned (.int .u64 (rotP 4294967296 4294967296 x)) ∧ Below w.heap.size w w' := by
 have hw : IntKind.i64.wrap 32 = 32 := by decide
 go_enter Tryz.func220, Tryz.ntmps220
 go_wp2_with fail
 refine wp_region_noPanic ?_
 refine wp_region_held_drew (S := (fun _ => True)) (by kernel_rfl) (trivial) (fun hHeld => ?_)
 refine tH 0 (h := ?_)
 refine tH 1 (h := ?_)
 refine tH 2 (h := ?_)
 refine tH 3 (h := ?_)
 refine tH 4 (h := ?_)
 refine tH 5 (h := ?_)
 refine tH 6 (h := ?_)
 refine tH 7 (h := ?_)
 refine tH 8 (h := ?_)
 refine wpAnyH_done (by kernel_rfl) ?_ _
 refine NoPanic.normal ?_
 go_wp2_with fail
 go_ret
 exact ⟨rfl, (Below.refl _ _).drew⟩
set_option maxHeartbeats 400000 in
theorem rrot16 (x : Int) (w : World) : Calls Tryz.prog 220 #[.int .u64 x, .int .i64 16] w fun e w' => e = .returned (.int .u64 (rotP 65536 281474976710656 x)) ∧ Below w.heap.size w w' := by
 have hw : IntKind.i64.wrap 48 = 48 := by decide
 go_enter Tryz.func220, Tryz.ntmps220
 go_wp2_with fail
 refine wp_region_noPanic ?_
 refine wp_region_held_drew (S := (fun _ => True)) (by kernel_rfl) (trivial) (fun hHeld => ?_)
 refine tH 0 (h := ?_)
 refine tH 1 (h := ?_)
 refine tH 2 (h := ?_)
 refine tH 3 (h := ?_)
 refine tH 4 (h := ?_)
 refine tH 5 (h := ?_)
 refine tH 6 (h := ?_)
 refine tH 7 (h := ?_)
 refine tH 8 (h := ?_)
 refine wpAnyH_done (by kernel_rfl) ?_ _
 refine NoPanic.normal ?_
 go_wp2_with fail
 go_ret
 exact ⟨rfl, (Below.refl _ _).drew⟩
set_option maxHeartbeats 400000 in
theorem rrot21 (x : Int) (w : World) : Calls Tryz.prog 220 #[.int .u64 x, .int .i64 21] w fun e w' => e = .returned (.int .u64 (rotP 2097152 8796093022208 x)) ∧ Below w.heap.size w w' := by
 have hw : IntKind.i64.wrap 43 = 43 := by decide
 go_enter Tryz.func220, Tryz.ntmps220
 go_wp2_with fail
 refine wp_region_noPanic ?_
 refine wp_region_held_drew (S := (fun _ => True)) (by kernel_rfl) (trivial) (fun hHeld => ?_)
 refine tH 0 (h := ?_)
 refine tH 1 (h := ?_)
 refine tH 2 (h := ?_)
 refine tH 3 (h := ?_)
 refine tH 4 (h := ?_)
 refine tH 5 (h := ?_)
 refine tH 6 (h := ?_)
 refine tH 7 (h := ?_)
 refine tH 8 (h := ?_)
 refine wpAnyH_done (by kernel_rfl) ?_ _
 refine NoPanic.normal ?_
 go_wp2_with fail
 go_ret
 exact ⟨rfl, (Below.refl _ _).drew⟩
set_option maxHeartbeats 400000 in
theorem rrot17 (x : Int) (w : World) : Calls Tryz.prog 220 #[.int .u64 x, .int .i64 17] w fun e w' => e = .returned (.int .u64 (rotP 131072 140737488355328 x)) ∧ Below w.heap.size w w' := by
 have hw : IntKind.i64.wrap 47 = 47 := by decide
 go_enter Tryz.func220, Tryz.ntmps220
 go_wp2_with fail
 refine wp_region_noPanic ?_
 refine wp_region_held_drew (S := (fun _ => True)) (by kernel_rfl) (trivial) (fun hHeld => ?_)
 refine tH 0 (h := ?_)
 refine tH 1 (h := ?_)
 refine tH 2 (h := ?_)
 refine tH 3 (h := ?_)
 refine tH 4 (h := ?_)
 refine tH 5 (h := ?_)
 refine tH 6 (h := ?_)
 refine tH 7 (h := ?_)
 refine tH 8 (h := ?_)
 refine wpAnyH_done (by kernel_rfl) ?_ _
 refine NoPanic.normal ?_
 go_wp2_with fail
 go_ret
 exact ⟨rfl, (Below.refl _ _).drew⟩
set_option maxHeartbeats 4000000 in
theorem rround_any (s : Sip) (w : World) : Calls Tryz.prog 183 #[.agg (sipC s)] w fun e w' => e = .returned (.agg (sipC (rndP s))) ∧ Below w.heap.size w w' := by
 obtain ⟨a, b, c, d⟩ := s
 go_enter Tryz.func183, Tryz.ntmps183
 go_wp2_with fail
 refine wp_world (fun W hW => ?_)
 have hb0 : Below w.heap.size w W := by rw [hW]; exact ((Below.refl _ _).alloc (Nat.le_refl _) _).alloc (by simp) _
 have hv0 : W.heap[w.heap.size]? = some (.cells (sipC ⟨a, b, c, d⟩) 183 (0, 0)) := by rw [hW]; exact blk_old (blk_new rfl)
 have hr0 : W.heap[w.heap.size + 1]? = some (.cells (sipC ⟨0, 0, 0, 0⟩) 183 (0, 0)) := by rw [hW]; exact blk_new (by simp)
 clear hW
 have HB0 := Lib.hid hb0; have HR0 := Lib.hid hr0
 obtain ⟨c0, c1, c2, c3⟩ := cellsS hv0
 clear hb0 hv0 hr0
 refine wp_region_noPanic ?_
 refine wp_region_held_drew (S := (fun w' => w'.cell? ⟨w.heap.size, 0, none⟩ = some (.int .u64 a) ∧ w'.cell? ⟨w.heap.size, 1, none⟩ = some (.int .u64 b) ∧ w'.cell? ⟨w.heap.size, 2, none⟩ = some (.int .u64 c) ∧ w'.cell? ⟨w.heap.size, 3, none⟩ = some (.int .u64 d))) (by kernel_rfl) (⟨c0, c1, c2, c3⟩) (fun hHeld => ?_)
 refine tH 0 (h := ?_)
 refine tH 1 (h := ?_)
 refine tH 2 (h := ?_)
 refine tH 3 (h := ?_)
 refine tH 4 (h := ?_)
 refine tH 5 (h := ?_)
 refine tH 6 (h := ?_)
 refine tH 7 (h := ?_)
 refine tH 8 (h := ?_)
 refine tH 9 (h := ?_)
 refine tH 10 (h := ?_)
 refine tH 11 (h := ?_)
 refine wpAnyH_done (by kernel_rfl) ?_ _
 refine NoPanic.normal ?_
 refine exitk_world (fun W1 hW1 => ?_)
 have hb1 : Below w.heap.size w W1 := by rw [hW1]; exact HB0.out.drew
 have hr1 : W1.heap[w.heap.size + 1]? = some (.cells (sipC ⟨0, 0, 0, 0⟩) 183 (0, 0)) := by rw [hW1]; exact HR0.out
 clear hW1 c0 c1 c2 c3 hHeld HB0 HR0
 have HB := Lib.hid hb1; have HR := Lib.hid hr1; clear hb1 hr1
 go_wp2_with fail
 refine (rrot13 _ _).mono ?_
 rintro e w1 ⟨rfl, hb⟩
 have hB := HB.out.trans (hb.mono HB.out.size); have hR := blk_below hb (lt_of_blk HR.out) HR.out
 clear HB HR hb; have HB := Lib.hid hB; have HR := Lib.hid hR; clear hB hR
 go_wp2_with fail
 refine (rrot32 _ _).mono ?_
 rintro e w2 ⟨rfl, hb⟩
 have hB := HB.out.trans (hb.mono HB.out.size); have hR := blk_below hb (lt_of_blk HR.out) HR.out
 clear HB HR hb; have HB := Lib.hid hB; have HR := Lib.hid hR; clear hB hR
 go_wp2_with fail
 refine (rrot16 _ _).mono ?_
 rintro e w3 ⟨rfl, hb⟩
 have hB := HB.out.trans (hb.mono HB.out.size); have hR := blk_below hb (lt_of_blk HR.out) HR.out
 clear HB HR hb; have HB := Lib.hid hB; have HR := Lib.hid hR; clear hB hR
 go_wp2_with fail
 refine (rrot21 _ _).mono ?_
 rintro e w4 ⟨rfl, hb⟩
 have hB := HB.out.trans (hb.mono HB.out.size); have hR := blk_below hb (lt_of_blk HR.out) HR.out
 clear HB HR hb; have HB := Lib.hid hB; have HR := Lib.hid hR; clear hB hR
 go_wp2_with fail
 refine (rrot17 _ _).mono ?_
 rintro e w5 ⟨rfl, hb⟩
 have hB := HB.out.trans (hb.mono HB.out.size); have hR := blk_below hb (lt_of_blk HR.out) HR.out
 clear HB HR hb; have HB := Lib.hid hB; have HR := Lib.hid hR; clear hB hR
 go_wp2_with fail
 refine (rrot32 _ _).mono ?_
 rintro e w6 ⟨rfl, hb⟩
 have hB := HB.out.trans (hb.mono HB.out.size); have hR := blk_below hb (lt_of_blk HR.out) HR.out
 clear HB HR hb; have HB := Lib.hid hB; have HR := Lib.hid hR; 
 obtain ⟨r0, r1, r2, r3⟩ := cellsS hR
 obtain ⟨f0, f1, f2, f3⟩ := freeS hR
 have lr := lt_of_blk hR
 clear hB hR
 go_wp2_with fail
 exact bodyPost_row1 rfl rfl (blk_set (i := 3) (blk_set (i := 2) (blk_set (i := 1) (blk_set (i := 0) HR.out)))) Tryz.underlying183 rfl (by kernel_rfl)
  ⟨rfl, (((HB.out.setCell (p := ⟨w.heap.size + 1, 0, none⟩) (Nat.le_succ _) _).setCell (p := ⟨w.heap.size + 1, 1, none⟩) (Nat.le_succ _) _).setCell (p := ⟨w.heap.size + 1, 2, none⟩) (Nat.le_succ _) _).setCell (p := ⟨w.heap.size + 1, 3, none⟩) (Nat.le_succ _) _⟩
end
section
set_option maxRecDepth 100000
open Go.RowKit
/-- s lies in block b; all but that block is as it was -/
def RipAt (w : World) (b : Nat) (s : Sip) (w' : World) : Prop := w'.heap[b]? = some (.cells (sipC s) 183 (0, 0)) ∧ w.grownBy w' (some b)
theorem RipAt.read {w w' : World} {b : Nat} {s : Sip} (h : RipAt w b s w') : (w'.cell? ⟨b, 0, none⟩ = some (.int .u64 s.a) ∧ w'.cell? ⟨b, 1, none⟩ = some (.int .u64 s.b) ∧ w'.cell? ⟨b, 2, none⟩ = some (.int .u64 s.c) ∧ w'.cell? ⟨b, 3, none⟩ = some (.int .u64 s.d)) ∧
  (w'.frozen? ⟨b, 0, none⟩ = false ∧ w'.frozen? ⟨b, 1, none⟩ = false ∧ w'.frozen? ⟨b, 2, none⟩ = false ∧ w'.frozen? ⟨b, 3, none⟩ = false) := ⟨cellsS h.1, freeS h.1⟩
theorem RipAt.set {w w' : World} {b i : Nat} {s s' : Sip} {v : Value} (h : RipAt w b s w') (e : (sipC s).setIfInBounds i v = sipC s') : RipAt w b s' (w'.setCell ⟨b, i, none⟩ v) :=
 ⟨by rw [← e]; exact blk_set h.1, grown_set h.2⟩
theorem RipAt.below {w w' w'' : World} {b : Nat} {s : Sip} (h : RipAt w b s w') (hb : Below w'.heap.size w' w'') : RipAt w b s w'' :=
 ⟨blk_below hb (lt_of_blk h.1) h.1, grown_trans h.2 (grown_below hb)⟩
theorem RipAt.all {w w' : World} {b : Nat} {s s' : Sip} (h : RipAt w b s w') : RipAt w b s' ((((w'.setCell ⟨b, 0, none⟩ (.int .u64 s'.a)).setCell ⟨b, 1, none⟩ (.int .u64 s'.b)).setCell ⟨b, 2, none⟩ (.int .u64 s'.c)).setCell ⟨b, 3, none⟩ (.int .u64 s'.d)) :=
 (((h.set (s' := ⟨s'.a, s.b, s.c, s.d⟩) rfl).set (s' := ⟨s'.a, s'.b, s.c, s.d⟩) rfl).set (s' := ⟨s'.a, s'.b, s'.c, s.d⟩) rfl).set rfl
theorem RipAt.base {w W w' : World} {b B : Nat} {s : Sip} (h : RipAt W b s w') (hb : Below B w W) (hB : B ≤ b) (hW : B ≤ W.heap.size) : Below B w w' :=
 hb.trans ⟨h.2.os, h.2.tape, h.2.output, h.2.size, fun k hk => h.2.block k (by omega) (by simp; omega)⟩
/-- the length's byte on top -/
theorem top_wrap (n : Nat) : (n : Int) % 256 * 72057594037927936 = IntKind.u64.wrap ((n : Int) * 72057594037927936) := by
 have h : ∀ x : Int, IntKind.u64.wrap x = x % 18446744073709551616 := fun x => rfl
 rw [h]; omega
set_option maxHeartbeats 8000000 in
theorem rsum_any (S : Nat → Prop) (ka kb : Int) (v : Value) (l : List UInt8) (w : World) (h : Vec w S 1 encB v l) (hl : l.length ≤ 1000000000) :
  Calls Tryz.prog 135 #[.agg #[.int .u64 ka, .int .u64 kb], v] w fun e w' => e = .returned (.int .u64 (sumP ka kb l)) ∧ Below w.heap.size w w' := by
 obtain ⟨a, cap, rfl⟩ := h.slice
 have hcap := h.len.2
 have HV := Lib.hid (h.any.move (S' := fun b => b < w.heap.size) (w' := w) (Nat.le_refl _) fun b hb _ => ⟨rfl, hb⟩); clear h
 go_enter Tryz.func135, Tryz.ntmps135
 go_wp2_with fail
 refine wp_world (fun W hW => ?_)
 have hb0 : Below w.heap.size w W := by rw [hW]; exact ((Below.refl _ _).alloc (Nat.le_refl _) _).alloc (by simp) _
 have hs0 : RipAt W (w.heap.size + 1) ⟨xr ka 8317987319222330741, xr kb 7237128888997146477, xr ka 7816392313619706465, xr kb 8387220255154660723⟩ W := by rw [hW]; exact ⟨blk_new (by simp), grown_refl _ _⟩
 have hv0 := HV.out.below hb0
 clear hW HV
 have HB0 := Lib.hid hb0; have HS0 := Lib.hid hs0; have HV0 := Lib.hid hv0
 clear hb0 hs0 hv0
 go_loopw [6] (fun at_ wr => ∃ (j : Nat) (s : Sip), at_ = .int .i64 ((8 * j : Nat) : Int) ∧ 8 * j ≤ l.length ∧ RipAt W (w.heap.size + 1) s wr ∧ Hid (eachP s (l.drop (8 * j)) ((l.drop (8 * j)).length / 8) = eachP ⟨xr ka 8317987319222330741, xr kb 7237128888997146477, xr ka 7816392313619706465, xr kb 8387220255154660723⟩ l (l.length / 8))) (fun at_ _ => l.length + 1 - (intOf at_).toNat)
 case atStart => exact ⟨0, _, rfl, by omega, HS0.out, Lib.hid rfl⟩
 case round =>
  obtain ⟨j, s, rfl, hj, hs, HE⟩ := hrel
  obtain ⟨J, hJ⟩ : ∃ J, 8 * j = J := ⟨_, rfl⟩
  rw [hJ] at hj HE ⊢
  obtain ⟨r, hr⟩ : ∃ r, l.drop J = r := ⟨_, rfl⟩
  have hrl : r.length = l.length - J := by rw [← hr, List.length_drop]
  rw [hr] at HE
  have HRD := Lib.hid hr; have HJ := Lib.hid hJ
  have HV := Lib.hid (HV0.out.grown (b := w.heap.size + 1) (fun x hx => by omega) hs.2)
  have HS := Lib.hid hs
  obtain ⟨⟨c0, c1, c2, c3⟩, f0, f1, f2, f3⟩ := hs.read
  have lb := lt_of_blk hs.1
  clear hs hr hJ
  by_cases hlt : 8 ≤ r.length
  ·have hmin : min (8 : Int) ((l.length : Int) - (J : Int)) = 8 := by omega
   have hq8 : decide ((8 : Int) < 8) = false := rfl
   have hend : eachP s r (r.length / 8) = eachP (wordP s (numP 0 0 (r.take 8))) (r.drop 8) ((r.drop 8).length / 8) := eachP_more s r hlt
   have HEnd := Lib.hid hend; clear hend
   go_wp2_with fail
   go_loopw [7, 9] (fun m i wx => wx = wr ∧ ∃ (k : Nat) (mm : Int), i = .int .i64 k ∧ k ≤ 8 ∧ m = .int .u64 mm ∧ Hid (numP k mm ((r.take 8).drop k) = numP 0 0 (r.take 8))) (fun _ i _ => 8 - (intOf i).toNat)
   case atStart => exact ⟨rfl, 0, 0, rfl, by omega, rfl, Lib.hid rfl⟩
   case round =>
    obtain ⟨rfl, k, mm, rfl, hk, rfl, HT⟩ := hrel
    by_cases hlk : k < 8
    ·have hq : decide ((k : Int) < 8) = true := by simp; omega
     obtain ⟨b, off, rfl, hb, hc⟩ := HV.out.get (J + k) (by omega)
     have c0 := hc 0 _ rfl
     rw [Nat.mul_one, Nat.add_zero] at c0
     unfold byteV at c0
     have hkr : k < (r.take 8).length := by rw [List.length_take]; omega
     have hg : (r.take 8)[k] = l[J + k] := by rw [List.getElem_take]; simp only [← HRD.out, List.getElem_drop]
     have ht := HT.out
     rw [List.drop_eq_getElem_cons hkr, hg] at ht
     have HT2 := Lib.hid ht
     clear ht hg HT hc
     go_wp2_with fail
     go_roundw
     case rel => exact ⟨trivial, k + 1, _, by go_num, by omega, rfl, Lib.hid (by rw [← HT2.out]; rfl)⟩
     case measure => simp [intOf]; omega
    ·have hq : decide ((k : Int) < 8) = false := by simp; omega
     have hd : (r.take 8).drop k = [] := List.drop_eq_nil_of_le (by rw [List.length_take]; omega)
     rw [hd] at HT
     obtain rfl : mm = numP 0 0 (r.take 8) := HT.out
     clear HT hd hq
     obtain ⟨m, hm⟩ : ∃ m, numP 0 0 (r.take 8) = m := ⟨_, rfl⟩
     rw [hm] at HEnd ⊢
     have HM := Lib.hid hm; clear hm
     go_wp2_with fail
     have hS := HS.out.set (i := 3) (v := .int .u64 (xr s.d m)) (s' := ⟨s.a, s.b, s.c, xr s.d m⟩) rfl
     clear HS; have HS := Lib.hid hS; clear hS
     clear c0 c1 c2 c3 f0 f1 f2 f3
     refine (rround_any ⟨s.a, s.b, s.c, xr s.d m⟩ _).mono ?_
     rintro e w1 ⟨rfl, hb⟩
     have hS := HS.out.below hb
     clear HS hb; have HS := Lib.hid hS; clear hS
     go_wp2_with fail
     refine (rround_any (rndP ⟨s.a, s.b, s.c, xr s.d m⟩) _).mono ?_
     rintro e w2 ⟨rfl, hb⟩
     have hS := HS.out.below hb
     clear HS hb
     obtain ⟨t, ht⟩ : ∃ t, rndP (rndP ⟨s.a, s.b, s.c, xr s.d m⟩) = t := ⟨_, rfl⟩
     rw [ht]
     have hw : wordP s m = ⟨xr t.a m, t.b, t.c, t.d⟩ := by rw [← ht]; rfl
     have HW := Lib.hid hw
     have HS := Lib.hid hS
     obtain ⟨⟨c0, c1, c2, c3⟩, f0, f1, f2, f3⟩ := hS.read
     have lb2 := lt_of_blk hS.1
     clear hS ht hw
     go_wp2_with fail
     exact ⟨⟨j + 1, ⟨xr t.a m, t.b, t.c, t.d⟩, congrArg (Value.int .i64) (by have := HJ.out; omega), by have := HJ.out; omega, (HS.out.all (s' := t)).set (i := 0) (v := .int .u64 (xr t.a m)) rfl, Lib.hid (by rw [← HE.out, HEnd.out, HW.out, show 8 * (j + 1) = J + 8 by have := HJ.out; omega, ← List.drop_drop, HRD.out])⟩, by simp [intOf]; omega⟩
  ·have hmin : min (8 : Int) ((l.length : Int) - (J : Int)) = (l.length : Int) - (J : Int) := by omega
   have hq8 : decide ((l.length : Int) - (J : Int) < 8) = true := by simp; omega
   have hr8 : r.take 8 = r := List.take_of_length_le (by omega)
   have hE := HE.out
   rw [eachP_end s r (by omega)] at hE
   have HE2 := Lib.hid hE.symm
   clear hE HE
   go_wp2_with fail
   go_loopw [7, 9] (fun m i wx => wx = wr ∧ ∃ (k : Nat) (mm : Int), i = .int .i64 k ∧ k ≤ r.length ∧ m = .int .u64 mm ∧ Hid (numP k mm ((r.take 8).drop k) = numP 0 0 (r.take 8))) (fun _ i _ => r.length - (intOf i).toNat)
   case atStart => exact ⟨rfl, 0, 0, rfl, by omega, rfl, Lib.hid rfl⟩
   case round =>
    obtain ⟨rfl, k, mm, rfl, hk, rfl, HT⟩ := hrel
    by_cases hlk : k < r.length
    ·have hq : decide ((k : Int) < (l.length : Int) - (J : Int)) = true := by simp; omega
     obtain ⟨b, off, rfl, hb, hc⟩ := HV.out.get (J + k) (by omega)
     have c0 := hc 0 _ rfl
     rw [Nat.mul_one, Nat.add_zero] at c0
     unfold byteV at c0
     have hkr : k < (r.take 8).length := by rw [List.length_take]; omega
     have hg : (r.take 8)[k] = l[J + k] := by rw [List.getElem_take]; simp only [← HRD.out, List.getElem_drop]
     have ht := HT.out
     rw [List.drop_eq_getElem_cons hkr, hg] at ht
     have HT2 := Lib.hid ht
     clear ht hg HT hc
     go_wp2_with fail
     go_roundw
     case rel => exact ⟨trivial, k + 1, _, by go_num, by omega, rfl, Lib.hid (by rw [← HT2.out]; rfl)⟩
     case measure => simp [intOf]; omega
    ·have hq : decide ((k : Int) < (l.length : Int) - (J : Int)) = false := by simp; omega
     have hd : (r.take 8).drop k = [] := List.drop_eq_nil_of_le (by rw [List.length_take]; omega)
     rw [hd] at HT
     obtain rfl : mm = numP 0 0 (r.take 8) := HT.out
     clear HT hd hq
     have htw := top_wrap l.length
     rw [hr8]
     obtain ⟨m, hm⟩ : ∃ m, bits .or .u64 (numP 0 0 r) (IntKind.u64.wrap ((l.length : Int) * 72057594037927936)) = m := ⟨_, rfl⟩
     have hm2 : bits .or .u64 (numP 0 0 r) ((l.length : Int) % 256 * 72057594037927936) = m := by rw [htw]; exact hm
     have HM := Lib.hid hm; clear hm htw
     go_wp2_with fail
     clear hm2
     have hS := HS.out.set (i := 3) (v := .int .u64 (xr s.d m)) (s' := ⟨s.a, s.b, s.c, xr s.d m⟩) rfl
     clear HS; have HS := Lib.hid hS; clear hS
     clear c0 c1 c2 c3 f0 f1 f2 f3
     refine (rround_any ⟨s.a, s.b, s.c, xr s.d m⟩ _).mono ?_
     rintro e w1 ⟨rfl, hb⟩
     have hS := HS.out.below hb
     clear HS hb; have HS := Lib.hid hS; clear hS
     go_wp2_with fail
     refine (rround_any (rndP ⟨s.a, s.b, s.c, xr s.d m⟩) _).mono ?_
     rintro e w2 ⟨rfl, hb⟩
     have hS := HS.out.below hb
     clear HS hb
     obtain ⟨t, ht⟩ : ∃ t, rndP (rndP ⟨s.a, s.b, s.c, xr s.d m⟩) = t := ⟨_, rfl⟩
     rw [ht]
     have hw : wordP s m = ⟨xr t.a m, t.b, t.c, t.d⟩ := by rw [← ht]; rfl
     have HW := Lib.hid hw
     have HS := Lib.hid hS
     obtain ⟨⟨c0, c1, c2, c3⟩, f0, f1, f2, f3⟩ := hS.read
     have lb2 := lt_of_blk hS.1
     clear hS ht hw
     go_upto_region 14 with fail
     refine wp_world (fun W1 hW1 => ?_)
     have hS : RipAt W (w.heap.size + 1) t W1 := by rw [hW1]; exact HS.out.all (s' := t)
     clear HS c0 c1 c2 c3 f0 f1 f2 f3 lb2 hW1; have HS := Lib.hid hS
     obtain ⟨⟨c0, c1, c2, c3⟩, f0, f1, f2, f3⟩ := hS.read
     have lb2 := lt_of_blk hS.1
     clear hS
     go_upto_region 16 with fail
     refine wp_world (fun W2 hW2 => ?_)
     have hS : RipAt W (w.heap.size + 1) ⟨xr t.a m, t.b, t.c, t.d⟩ W2 := by rw [hW2]; exact HS.out.set (i := 0) (v := .int .u64 (xr t.a m)) rfl
     clear HS c0 c1 c2 c3 f0 f1 f2 f3 lb2 hW2; have HS := Lib.hid hS
     obtain ⟨⟨c0, c1, c2, c3⟩, f0, f1, f2, f3⟩ := hS.read
     have lb2 := lt_of_blk hS.1
     clear hS
     go_wp2_with fail
     have hS := HS.out.set (i := 2) (v := .int .u64 (xr t.c 255)) (s' := ⟨xr t.a m, t.b, xr t.c 255, t.d⟩) rfl
     clear HS c0 c1 c2 c3 f0 f1 f2 f3; have HS := Lib.hid hS; clear hS
     obtain ⟨u, hu⟩ : ∃ u : Sip, (⟨xr t.a m, t.b, t.c, t.d⟩ : Sip) = u := ⟨_, rfl⟩
     refine (rround_any ⟨xr t.a m, t.b, xr t.c 255, t.d⟩ _).mono ?_
     rintro e w3 ⟨rfl, hb⟩
     have hS := HS.out.below hb
     clear HS hb; have HS := Lib.hid hS; clear hS
     go_wp2_with fail
     refine (rround_any (rndI 1 ⟨xr t.a m, t.b, xr t.c 255, t.d⟩) _).mono ?_
     rintro e w4 ⟨rfl, hb⟩
     have hS := HS.out.below hb
     clear HS hb; have HS := Lib.hid hS; clear hS
     go_wp2_with fail
     refine (rround_any (rndI 2 ⟨xr t.a m, t.b, xr t.c 255, t.d⟩) _).mono ?_
     rintro e w5 ⟨rfl, hb⟩
     have hS := HS.out.below hb
     clear HS hb; have HS := Lib.hid hS; clear hS
     go_wp2_with fail
     refine (rround_any (rndI 3 ⟨xr t.a m, t.b, xr t.c 255, t.d⟩) _).mono ?_
     rintro e w6 ⟨rfl, hb⟩
     have hS := HS.out.below hb
     clear HS hb
     obtain ⟨v, hv⟩ : ∃ v, rndI 4 ⟨xr t.a m, t.b, xr t.c 255, t.d⟩ = v := ⟨_, rfl⟩
     rw [show rndP (rndI 3 ⟨xr t.a m, t.b, xr t.c 255, t.d⟩) = v from hv]
     have HVv := Lib.hid hv
     have HS := Lib.hid hS
     obtain ⟨⟨c0, c1, c2, c3⟩, f0, f1, f2, f3⟩ := hS.read
     have lb2 := lt_of_blk hS.1
     clear hS hv hu
     go_upto_region 18 with fail
     refine wp_world (fun W3 hW3 => ?_)
     have hS : RipAt W (w.heap.size + 1) v W3 := by rw [hW3]; exact HS.out.all (s' := v)
     clear HS hW3 c0 c1 c2 c3 f0 f1 f2 f3; have HS := Lib.hid hS
     obtain ⟨⟨c0, c1, c2, c3⟩, f0, f1, f2, f3⟩ := hS.read
     have lb3 := lt_of_blk hS.1
     clear hS
     go_wp2_with fail
     go_ret
     refine ⟨?_, HS.out.base HB0.out (by omega) HB0.out.size⟩
     rw [← sumP_of ka kb l s r HE2.out ⟨xr t.a m, t.b, t.c, t.d⟩ (by rw [HM.out]; exact HW.out) v HVv.out]
     rfl
end
section
set_option maxRecDepth 100000
open Go.RowKit
set_option maxHeartbeats 4000000 in
theorem rsparts_any (S : Nat → Prop) (ka kb : Int) (v : Value) (L : List (List UInt8)) (w : World) (h : Vec w S 1 encS v L) (hl : ∀ t ∈ L, t.length ≤ 60000) (hn : L.length ≤ 1000) :
  Calls Tryz.prog 98 #[.agg #[.int .u64 ka, .int .u64 kb], v] w fun e w' => e = .returned (.int .u64 (partsP ka kb L)) ∧ Below w.heap.size w w' := by
 obtain ⟨a, cap, rfl⟩ := h.slice
 have HV := Lib.hid h.any; clear h
 have HL := Lib.hid hl; clear hl
 go_enter Tryz.func98, Tryz.ntmps98
 go_wp2_with fail
 refine wp_world (fun W hW => ?_)
 have hb0 : Below w.heap.size w W := by rw [hW]; exact (Below.refl _ _).alloc (Nat.le_refl _) _
 have hk : W.heap[w.heap.size]? = some (.cells #[.int .u64 ka, .int .u64 kb] 108 (0, 0)) := by rw [hW]; exact blk_new rfl
 have HV0 := Lib.hid (HV.out.below hb0)
 have HB0 := Lib.hid hb0; have HK := Lib.hid hk
 clear hW hb0 hk HV
 go_loopw [5, 6] (fun v i wr => ∃ k : Nat, i = .int .i64 k ∧ k ≤ L.length ∧ OwnV 5 1 encB W v ((L.take k).flatMap partP) wr) (fun _ i _ => L.length - (intOf i).toNat)
 case atStart => exact ⟨0, rfl, by omega, OwnV.start _ _ _ _⟩
 case round =>
  obtain ⟨k, rfl, hk, ho⟩ := hrel
  have HO := Lib.hid ho; clear ho
  by_cases hlt : k < L.length
  ·have hq : decide ((k : Int) < L.length) = true := by simp; omega
   obtain ⟨t, ht⟩ : ∃ t, L[k] = t := ⟨_, rfl⟩
   have htl : t.length ≤ 60000 := HL.out t (by rw [← ht]; exact List.getElem_mem _)
   obtain ⟨b, off, rfl, hb, hc⟩ := (HV0.out.below HO.out.2).get k hlt
   have c0 := hc 0 _ rfl
   rw [Nat.mul_one, Nat.add_zero, ht] at c0
   clear hc
   have hm : decide ((65535 : Int) < t.length) = false := by simp; omega
   have hx := extract_all t
   obtain ⟨x, ex⟩ : ∃ x, UInt8.ofNat (t.length / 256) = x := ⟨_, rfl⟩
   obtain ⟨y, ey⟩ : ∃ y, UInt8.ofNat t.length = y := ⟨_, rfl⟩
   have hxa : (t.length : Int) / 256 = (x.toNat : Int) := by rw [← ex, UInt8.toNat_ofNat']; omega
   have hya : (t.length : Int) % 256 = (y.toNat : Int) := by rw [← ey, UInt8.toNat_ofNat']; omega
   have hp := partP_short t htl
   rw [ex, ey] at hp
   have hts : L.take (k + 1) = L.take k ++ [t] := by rw [List.take_succ_eq_append_getElem hlt, ht]
   have htk := sparts_len (L.take k) fun u hu => HL.out u (List.mem_of_mem_take hu)
   rw [List.length_take] at htk
   have HP := Lib.hid hp; have HTs := Lib.hid hts
   clear hp hts ex ey
   obtain ⟨P, hP⟩ : ∃ P, (L.take k).flatMap partP = P := ⟨_, rfl⟩
   rw [hP] at HO htk
   have HPP := Lib.hid hP; clear hP
   have HO1 := Lib.hid (HO.out.below ((Below.refl _ _).alloc (Nat.le_refl _) (.cells #[.int .u8 (x.toNat : Int), .int .u8 (y.toNat : Int)] 5)))
   have HR1 := Lib.hid (reads_row (xs := [x, y].flatMap encB) (n := 2) (c := 2) (heap_alloc_new wr (.cells #[.int .u8 (x.toNat : Int), .int .u8 (y.toNat : Int)] 5)) rfl)
   have hz0 := HO.out.2.size
   have hlen : P.length + ([x, y] : List UInt8).length ≤ 1000000000 := by simp only [List.length_cons, List.length_nil]; omega
   have hlen2 : (P ++ [x, y]).length + t.length ≤ 1000000000 := by rw [List.length_append]; simp only [List.length_cons, List.length_nil]; omega
   go_wp2_with (at_builtin; first | (refine wpList_append_v rfl (.tmp 23) (.tmp 31) 69 rfl 5 (.int .u8 0) 1 1 encB (fun _ => rfl) one_encB Tryz.underlying69 infoBy rfl (by decide) (by decide) (w0 := W) (v := u5) (A := P) (B := [x, y]) rfl HO1.out rfl HR1.out hlen ?_; intro v2 w2 ho2 hk2 hz2) | (refine wpList_append_s rfl (.tmp 33) (.tmp 34) 69 9 rfl 5 Tryz.underlying69 Tryz.underlying9 infoBy (w0 := W) (v := v2) (A := P ++ [x, y]) t rfl ho2 rfl hlen2 ?_; intro v3 w3 ho3 hz3))
   go_roundw
   case rel => exact ⟨k + 1, by go_num, by omega, by rw [HTs.out, List.flatMap_append, HPP.out, List.flatMap_cons, List.flatMap_nil, List.append_nil, HP.out, ← List.append_assoc]; exact ho3⟩
   case measure => simp [intOf]; omega
  ·have hq : decide ((k : Int) < L.length) = false := by simp; omega
   have htk := sparts_len L fun u hu => HL.out u hu
   rw [List.take_of_length_le (by omega)] at HO
   have hz0 := HO.out.2.size
   have hk2 : wr.heap[w.heap.size]? = some (.cells #[.int .u64 ka, .int .u64 kb] 108 (0, 0)) := blk_below HO.out.2 (lt_of_blk HK.out) HK.out
   obtain ⟨k0, k1⟩ := cells2K hk2
   go_wp2_with fail
   refine (rsum_any _ ka kb _ (L.flatMap partP) _ (OwnV.vec (size := 1) (enc := encB) (fun _ => rfl) HO.out) (by omega)).mono ?_
   rintro e w2 ⟨rfl, hb2⟩
   go_wp2_with fail
   go_ret
   exact ⟨rfl, HB0.out.trans ((HO.out.2.mono HB0.out.size).trans (hb2.mono (by have := HB0.out.size; omega)))⟩
end
section
set_option maxRecDepth 100000
open Go.RowKit
attribute [local go_sem] toList_mk mk_size str_append
set_option maxHeartbeats 1000000 in
theorem rnumber_dig (n : Nat) (w : World) (hn : n < 10) : Calls Tryz.prog 60 #[.int .i64 n] w fun e w' => e = .returned (strV (Lib.decDigits n)) ∧ Below w.heap.size w w' := by
 obtain ⟨c, hc⟩ : ∃ c : UInt8, UInt8.ofNat (48 + n) = c := ⟨_, rfl⟩
 have hcv : 48 + (n : Int) = (c.toNat : Int) := by rw [← hc, UInt8.toNat_ofNat']; omega
 rw [digs_one n hn, hc]
 have d1 : decide ((n : Int) < 10) = true := by simp; omega
 have hm : max (n : Int) 0 = (n : Int) := by omega
 have hown := (own_new (w0 := w) (w := w.alloc (.cells #[.int .u8 (48 + (n : Int))] 5)) (enc := encB) (L := [c]) (size := 1) (n := 1) (e := 5) (g := w.heap.size) ((Below.refl _ _).alloc (Nat.le_refl _) _) (Nat.le_refl _) (by rw [hcv]; exact blk_new rfl) rfl (by simp) rfl).1
 have hconv := run_convert_owned (P := Tryz.prog) [c] hown Tryz.underlying69 Tryz.underlying5 Tryz.underlying9
 clear hown hc hcv
 go_enter Tryz.func60, Tryz.ntmps60
 go_wp2_with fail
 go_ret
 exact ⟨rfl, (Below.refl _ _).alloc (Nat.le_refl _) _⟩
theorem dec_cut {n : Nat} (h : ¬ n < 10) : Lib.decDigits n = Lib.decDigits (n / 10) ++ Lib.decDigits (n % 10) := by
 rw [Lib.decDigits, dif_neg h, Lib.decDigits_one (show n % 10 < 10 by omega)]
set_option maxHeartbeats 2000000 in
theorem rnum01_any : ∀ (k n : Nat) (w : World), n < 10 ^ k → n ≤ 1000000000000 → Calls Tryz.prog 60 #[.int .i64 n] w fun e w' => e = .returned (strV (Lib.decDigits n)) ∧ Below w.heap.size w w'
 | 0, n, w, h, _ => rnumber_dig n w (by omega)
 | k + 1, n, w, h, hm => by
  by_cases h10 : n < 10
  ·exact rnumber_dig n w h10
  ·obtain ⟨q, hq⟩ : ∃ q, n / 10 = q := ⟨_, rfl⟩
   obtain ⟨r, hr⟩ : ∃ r, n % 10 = r := ⟨_, rfl⟩
   have e1 : (n : Int).tdiv 10 = (q : Int) := by rw [← hq]; exact (Int.ofNat_tdiv n 10).symm
   have e2 : (n : Int).tmod 10 = (r : Int) := by rw [← hr]; exact (Int.ofNat_tmod n 10).symm
   have e3 : (n : Int) / 10 = (q : Int) := by omega
   have e4 : (n : Int) % 10 = (r : Int) := by omega
   have e5 : IntKind.i64.wrap (q : Int) = q := by rw [IntKind.wrap_i64]; omega
   have i1 := fun w => rnum01_any k q w (by rw [← hq]; rw [Nat.pow_succ] at h; omega) (by omega)
   have i2 := fun w => rnumber_dig r w (by omega)
   rw [dec_cut h10, hq, hr]
   have l1 : (Lib.decDigits q).length ≤ 13 := dec_most (k := 13) (by decide) (by omega)
   have l2 : (Lib.decDigits r).length ≤ 1 := dec_most (k := 1) (by decide) (by omega)
   obtain ⟨X, hX⟩ : ∃ X, Lib.decDigits q = X := ⟨_, rfl⟩
   obtain ⟨Y, hY⟩ : ∃ Y, Lib.decDigits r = Y := ⟨_, rfl⟩
   rw [hX] at i1 l1; rw [hY] at i2 l2; rw [hX, hY]
   have d1 : decide ((n : Int) < 10) = false := by simp; omega
   have I1 := Lib.hid i1; have I2 := Lib.hid i2
   have c1 : ¬ 9223372036854775807 < X.length + Y.length := by omega
   clear i1 i2 hX hY hq hr h h10
   go_enter Tryz.func60, Tryz.ntmps60
   go_wp2_with fail
   refine (I1.out _).mono ?_
   rintro e w1 ⟨rfl, hb⟩
   have HB1 := Lib.hid hb; clear hb
   go_wp2_with fail
   refine (I2.out _).mono ?_
   rintro e w2 ⟨rfl, hb⟩
   have HB2 := Lib.hid (HB1.out.trans (hb.mono HB1.out.size)); clear hb
   go_wp2_with fail
   go_ret
   exact ⟨rfl, HB2.out⟩
theorem hexT_ext (d : Nat) (h : d < 16) : (⟨#[48, 49, 50, 51, 52, 53, 54, 55, 56, 57, 97, 98, 99, 100, 101, 102]⟩ : ByteArray).extract d (d + 1) = ⟨[digH d].toArray⟩ := by
 have : ∀ k : Fin 16, (⟨#[48, 49, 50, 51, 52, 53, 54, 55, 56, 57, 97, 98, 99, 100, 101, 102]⟩ : ByteArray).extract k.val (k.val + 1) = ⟨[digH k.val].toArray⟩ := by decide
 exact this ⟨d, h⟩
set_option maxHeartbeats 4000000 in
theorem rword_hex (n : Nat) (w : World) (hn : n < 18446744073709551616) :
  Calls Tryz.prog 97 #[.int .u64 n] w fun e w' => e = .returned (strV (hexN 16 n)) ∧ Below w.heap.size w w' := by
 go_enter Tryz.func97, Tryz.ntmps97
 go_wp2_with fail
 go_loopw [3, 4] (fun v sh wr => ∃ k : Nat, k ≤ 16 ∧ sh = .int .i64 (60 - 4 * (k : Int)) ∧ v = strV ((hexN 16 n).take k) ∧ Below w.heap.size w wr) (fun _ sh _ => (intOf sh + 4).toNat)
 case atStart => exact ⟨0, by omega, rfl, by simp, Below.refl _ _⟩
 case round =>
  obtain ⟨k, hk, rfl, rfl, hbw⟩ := hrel
  have HBw := Lib.hid hbw; clear hbw
  by_cases hk16 : k < 16
  ·have hq1 : decide ((0 : Int) ≤ 60 - 4 * (k : Int)) = true := by simp only [decide_eq_true_eq]; omega
   obtain ⟨d, hd⟩ : ∃ d, n / 16 ^ (15 - k) % 16 = d := ⟨_, rfl⟩
   have hd16 : d < 16 := by rw [← hd]; exact Nat.mod_lt _ (by decide)
   have hnib : bits .and .u64 ((n : Int) / 2 ^ (60 - 4 * k)) 15 = (d : Int) := by rw [nib_at n k hn hk16, hd]
   have hmore := hexN_more (n := n) hk16
   rw [hd] at hmore
   have hl : ((hexN 16 n).take k).length ≤ 16 := by rw [List.length_take]; omega
   obtain ⟨X, hX⟩ : ∃ X, (hexN 16 n).take k = X := ⟨_, rfl⟩
   rw [hX] at hmore hl ⊢
   have hwr : IntKind.u64.wrap ((d : Int) + 1) = (d : Int) + 1 := by rw [IntKind.wrap_u64]; omega
   have hext := hexT_ext d hd16
   have hsz : ([digH d].length) = 1 := rfl
   have c1 : ¬ 9223372036854775807 < X.length + 1 := by omega
   have c2 : ¬ 9223372036854775807 < X.length + [digH d].length := by rw [hsz]; omega
   have HMr := Lib.hid hmore
   have i1 : (d : Int) ≤ 16 := by omega
   have i2 : (d : Int) + 1 ≤ 16 := by omega
   have i3 : d + 1 ≤ 16 := by omega
   clear hd hmore hX
   go_wp2_with fail
   go_roundw
   case rel => exact ⟨k + 1, by omega, by congr 1; omega, by rw [HMr.out], HBw.out⟩
   case measure => simp [intOf]; omega
  ·obtain rfl : k = 16 := by omega
   have hq1 : decide ((0 : Int) ≤ 60 - 4 * ((16 : Nat) : Int)) = false := by decide
   rw [List.take_of_length_le (by rw [hexN_len]; omega)]
   go_wp2_with fail
   go_ret
   exact ⟨rfl, HBw.out⟩
set_option maxHeartbeats 4000000 in
theorem rrsum_any (t : List UInt8) (w : World) (ht : t.length ≤ 60000) :
  Calls Tryz.prog 59 #[strV t] w fun e w' => e = .returned (strV (sumT t)) ∧ Below w.heap.size w w' := by
 obtain ⟨q, hq⟩ : ∃ q : Nat, partsP 0 0 [t] = q := Int.eq_ofNat_of_zero_le (partsP_range 0 0 [t]).1
 have hqr : q < 18446744073709551616 := by have := (partsP_range 0 0 [t]).2; omega
 have hs : sumT t = hexN 16 q := by unfold sumT; rw [hq]; rfl
 rw [hs]
 have HQ := Lib.hid hq
 clear hs hq
 go_enter Tryz.func59, Tryz.ntmps59
 go_wp2_with fail
 refine wp_calls_world (fun W hW => ?_)
 have hb0 : Below w.heap.size w W := by rw [hW]; exact (Below.refl w.heap.size w).alloc (Nat.le_refl _) _
 have gl : W.heap[w.heap.size]? = some (.cells (([t] : List (List UInt8)).flatMap encS).toArray 9 (0, 0)) := by rw [hW]; exact blk_new rfl
 have hv : Vec W Any1 1 encS (.slice (some ⟨w.heap.size, 0, none⟩) 1 1) [t] := blockVec (k := 1) (enc := encS) (L := [t]) (S := Any1) (A := w.heap.size) (fun _ => rfl) gl trivial 1 rfl
 clear hW gl
 refine (rsparts_any Any1 0 0 _ [t] W hv (by intro u hu; simp at hu; subst hu; exact ht) (by simp)).mono ?_
 rw [HQ.out]
 rintro e w1 ⟨rfl, hb⟩
 have HB1 := Lib.hid (hb0.trans (hb.mono hb0.size)); clear hb hb0 hv
 go_wp2_with fail
 refine (rword_hex q w1 hqr).mono ?_
 rintro e w2 ⟨rfl, hb⟩
 have HB2 := Lib.hid (HB1.out.trans (hb.mono HB1.out.size)); clear hb
 go_wp2_with fail
 go_ret
 exact ⟨rfl, HB2.out⟩
end
section
set_option maxRecDepth 100000
open Go.RowKit Cal
attribute [local go_sem] toList_mk mk_size str_append
def tabs (V : List (List UInt8)) : List UInt8 := V.flatMap fun t => 9 :: t
theorem tabs_snoc (V : List (List UInt8)) (t : List UInt8) : tabs (V ++ [t]) = tabs V ++ 9 :: t := by unfold tabs; simp
theorem joinC_tabs : ∀ (x : List UInt8) (L : List (List UInt8)), joinC 9 (x :: L) = x ++ tabs L
 | x, [] => by simp [joinC, tabs]
 | x, y :: L => by rw [joinC, joinC_tabs y L]; simp [tabs]
theorem tabs_len (m : Nat) : ∀ V : List (List UInt8), (∀ t ∈ V, t.length ≤ m) → (tabs V).length ≤ V.length * (m + 1)
 | [], _ => by simp [tabs]
 | t :: V, h => by
  have h1 := tabs_len m V fun u hu => h u (List.mem_cons_of_mem _ hu)
  have h2 := h t List.mem_cons_self
  show (tabs (t :: V)).length ≤ (V.length + 1) * (m + 1)
  have h3 : (tabs (t :: V)).length = t.length + 1 + (tabs V).length := by simp [tabs]; omega
  rw [h3, Nat.add_mul]; omega
set_option maxHeartbeats 4000000 in
theorem rrline_yes (S : Nat → Prop) (r : RecL) (sv : Value) (w : World) (hv : Vec w S 1 encS sv r.vals) (hi : 1 ≤ r.id ∧ r.id ≤ 1048576 ∧ 1 ≤ r.ver ∧ r.ver ≤ 1048576) (hs : ∀ t ∈ r.vals, t.length ≤ 64) (hn : r.vals.length ≤ 5) :
  Calls Tryz.prog 58 #[.agg #[.int .i64 r.id, .int .i64 r.ver, sv]] w fun e w' => e = .returned (strV (lineR r)) ∧ Below w.heap.size w w' := by
 obtain ⟨a, cap, rfl⟩ := hv.slice
 obtain ⟨id, ver, vals⟩ := r
 dsimp only at hv hi hs hn ⊢
 obtain ⟨i, rfl⟩ : ∃ i : Nat, id = i := Int.eq_ofNat_of_zero_le (by omega)
 obtain ⟨j, rfl⟩ : ∃ j : Nat, ver = j := Int.eq_ofNat_of_zero_le (by omega)
 have hx : (Lib.decDigits i).length ≤ 7 := dec_most (k := 7) (by decide) (by omega)
 have hy : (Lib.decDigits j).length ≤ 7 := dec_most (k := 7) (by decide) (by omega)
 have hit1 := fun w => rnum01_any 7 i w (by omega) (by omega)
 have hit2 := fun w => rnum01_any 7 j w (by omega) (by omega)
 have hln : lineR ⟨(i : Int), (j : Int), vals⟩ = joinC 9 (Lib.decDigits i :: Lib.decDigits j :: vals) := rfl
 rw [hln]
 obtain ⟨x, ex⟩ : ∃ x, Lib.decDigits i = x := ⟨_, rfl⟩
 obtain ⟨y, ey⟩ : ∃ y, Lib.decDigits j = y := ⟨_, rfl⟩
 rw [ex] at hx hit1 ⊢; rw [ey] at hy hit2 ⊢
 have htl : ∀ k, (tabs (vals.take k)).length ≤ 325 := fun k => by
  have h1 := tabs_len 64 (vals.take k) fun t ht => hs t (List.mem_of_mem_take ht)
  have h2 : (vals.take k).length ≤ 5 := by rw [List.length_take]; omega
  have h3 := Nat.mul_le_mul_right 65 h2
  omega
 have HLn := Lib.hid (show joinC 9 (x :: y :: vals) = x ++ ([9] ++ y ++ tabs vals) by rw [joinC_tabs]; simp [tabs])
 have HV := Lib.hid hv.any; have HX := Lib.hid hit1; have HY := Lib.hid hit2; have HT := Lib.hid htl; have HSh := Lib.hid hs
 clear hv hs hit1 hit2 ex ey hln hi htl
 go_enter Tryz.func58, Tryz.ntmps58
 go_wp2_with fail
 refine wp_world (fun W hW => ?_)
 have hb0 : Below w.heap.size w W := by rw [hW]; exact (Below.refl w.heap.size w).alloc (Nat.le_refl _) _
 have hr0 : W.heap[w.heap.size]? = some (.cells #[.int .i64 i, .int .i64 j, .slice a vals.length cap] 44 (0, 0)) := by rw [hW]; exact blk_new rfl
 clear hW
 obtain ⟨c0, c1, c2⟩ := cells3 hr0
 have lr := lt_of_blk hr0
 have HB0 := Lib.hid hb0; have HR0 := Lib.hid hr0
 clear hb0 hr0
 have bD : Below W.heap.size W W.drew := (Below.refl _ _).drew
 have n1 : ¬ 9223372036854775807 < x.length + 1 := by omega
 have n2 : ¬ 9223372036854775807 < x.length + 1 + y.length := by omega
 go_cut [3] (fun s3 wx => s3 = strV (x ++ 9 :: y) ∧ Below W.heap.size W wx)
 case first =>
  refine wp_region_noPanic ?_
  refine wp_region_held_drew (S := (fun w' => w'.cell? ⟨w.heap.size, 0, none⟩ = some (.int .i64 i) ∧ w'.cell? ⟨w.heap.size, 1, none⟩ = some (.int .i64 j))) (by kernel_rfl) (⟨c0, c1⟩) (fun hHeld => ?_)
  refine tH 0 (h := ?_)
  refine tH 1 (h := ?_)
  refine tH 4 (h := ?_)
  refine tH 5 (h := ?_)
  refine wpAnyH_ready (rs := [2]) (by kernel_rfl) (by simp) ?_
  refine AllReadyH.cons rfl (fun K hK => ?_) AllReadyH.nil
  go_simp
  refine (HX.out _).mono ?_; rintro e w1 ⟨rfl, hb⟩; have b1 := bD.trans (hb.mono bD.size); clear hb
  refine hK.out _ _ (⟨(b1.cell (p := ⟨w.heap.size, 0, none⟩) lr).trans c0, (b1.cell (p := ⟨w.heap.size, 1, none⟩) lr).trans c1⟩) (fun hHeld => ?_)
  clear hK K
  try simp only [List.getElem_toArray, List.getElem_cons_zero, List.getElem_cons_succ, Act.put, List.setIfInBounds_toArray, List.set_cons_zero, List.set_cons_succ]
  refine tH 3 (h := ?_)
  refine wpAnyH_ready (rs := [6]) (by kernel_rfl) (by simp) ?_
  refine AllReadyH.cons rfl (fun K hK => ?_) AllReadyH.nil
  go_simp
  refine (HY.out _).mono ?_; rintro e w2 ⟨rfl, hb⟩; have b2 := b1.trans (hb.mono b1.size); clear hb
  refine hK.out _ _ (⟨(b2.cell (p := ⟨w.heap.size, 0, none⟩) lr).trans c0, (b2.cell (p := ⟨w.heap.size, 1, none⟩) lr).trans c1⟩) (fun hHeld => ?_)
  clear hK K
  try simp only [List.getElem_toArray, List.getElem_cons_zero, List.getElem_cons_succ, Act.put, List.setIfInBounds_toArray, List.set_cons_zero, List.set_cons_succ]
  refine tH 7 (h := ?_)
  refine tH 8 (h := ?_)
  refine wpAnyH_done (by kernel_rfl) ?_ _
  refine NoPanic.normal ?_
  go_wp2_with fail
  go_meet
  exact ⟨rfl, b2⟩
 case rest =>
  obtain ⟨wq, hwq⟩ : ∃ u, u = wc := ⟨_, rfl⟩
  subst hwq
  obtain ⟨rfl, hbq⟩ := hcut
  have hrq := blk_below hbq lr HR0.out
  have HBq := Lib.hid (HB0.out.trans (hbq.mono HB0.out.size)); have HRq := Lib.hid hrq
  clear hbq hrq c0 c1 c2 bD HR0
  obtain ⟨z, hz⟩ : ∃ z, x ++ 9 :: y = z := ⟨_, rfl⟩
  have hzl : z.length ≤ 15 := by rw [← hz]; simp; omega
  have HZ := Lib.hid (show joinC 9 (x :: y :: vals) = z ++ tabs vals by rw [HLn.out, ← hz]; simp)
  rw [hz]
  clear hz n1 n2 HLn
  obtain ⟨c0, c1, c2⟩ := cells3 HRq.out
  have lq := lt_of_blk HRq.out
  go_wp2_with fail
  go_loopw [3, 4] (fun s t wr => ∃ k : Nat, k ≤ vals.length ∧ t = .int .i64 k ∧ s = strV (z ++ tabs (vals.take k)) ∧ wr = wq) (fun _ t _ => vals.length - (intOf t).toNat)
  case atStart => exact ⟨0, by omega, rfl, by simp [tabs], rfl⟩
  case round =>
   obtain ⟨k, hk, rfl, rfl, rfl⟩ := hrel
   by_cases hlt : k < vals.length
   ·have hq : decide ((k : Int) < vals.length) = true := by simp; omega
    have hki : (k : Int) < (vals.length : Int) := by omega
    obtain ⟨u, hu⟩ : ∃ u, vals[k] = u := ⟨_, rfl⟩
    have hul : u.length ≤ 64 := HSh.out u (by rw [← hu]; exact List.getElem_mem _)
    obtain ⟨b, off, rfl, hb, hc⟩ := (HV.out.below HBq.out).get k hlt
    have d0 := hc 0 _ rfl
    rw [Nat.mul_one, Nat.add_zero, hu] at d0
    obtain ⟨X, hX⟩ : ∃ X, z ++ tabs (vals.take k) = X := ⟨_, rfl⟩
    have hXl : X.length ≤ 340 := by rw [← hX]; have := HT.out k; simp; omega
    have HXn := Lib.hid (show z ++ tabs (vals.take (k + 1)) = X ++ ([9] ++ u) by rw [← hX, List.take_succ_eq_append_getElem hlt, hu, tabs_snoc]; simp)
    rw [hX]
    have n1 : ¬ 9223372036854775807 < 1 + u.length := by omega
    have n2 : ¬ 9223372036854775807 < X.length + (u.length + 1) := by omega
    have n3 : ¬ 9223372036854775807 < X.length + (1 + u.length) := by omega
    have n4 : ¬ 9223372036854775807 < u.length + 1 := by omega
    clear hc hu hX
    go_wp2_with fail
    go_roundw
    case rel => exact ⟨k + 1, by omega, by go_num, by rw [HXn.out]; simp, trivial⟩
    case measure => simp [intOf]; omega
   ·have hq : decide ((k : Int) < vals.length) = false := by simp; omega
    obtain rfl : k = vals.length := by omega
    rw [List.take_length, ← HZ.out]
    go_wp2_with fail
    go_ret
    exact ⟨rfl, HBq.out⟩
end
section
set_option maxRecDepth 100000
open Go.RowKit Cal
attribute [local go_sem] toList_mk mk_size
structure RcAt (b : Nat) (vf vt vn vs id ver sv : Value) (w : World) : Prop where
 s : w.heap[b]? = some (.cells #[vf, vt, vn, vs] 33 (0, 0))
 r : w.heap[b + 1]? = some (.cells #[id, ver, sv] 44 (0, 0))
theorem RcAt.below {b : Nat} {vf vt vn vs id ver sv : Value} {w w' : World} (h : RcAt b vf vt vn vs id ver sv w) (hb : Below w.heap.size w w') : RcAt b vf vt vn vs id ver sv w' :=
 ⟨blk_below hb (lt_of_blk h.s) h.s, blk_below hb (lt_of_blk h.r) h.r⟩
theorem checkI_no {s : SchemaL} {r : RecL} (h : ¬ (1 ≤ r.id ∧ r.id ≤ 1048576 ∧ 1 ≤ r.ver ∧ r.ver ≤ 1048576 ∧ r.vals.length = s.fields.length)) : checkI s r = 7 := by
 unfold checkI numberedB
 rw [if_neg]
 simp only [Bool.and_eq_true, decide_eq_true_eq, beq_iff_eq]
 intro hh
 exact h ⟨hh.1.1.1.1.1, hh.1.1.1.1.2, hh.1.1.1.2, hh.1.1.2, hh.1.2⟩
theorem checkI_norm {s : SchemaL} {r : RecL} (h : 1 ≤ r.id ∧ r.id ≤ 1048576 ∧ 1 ≤ r.ver ∧ r.ver ≤ 1048576 ∧ r.vals.length = s.fields.length) : checkI s r = if normA s 0 r.vals = true then 0 else 7 := by
 unfold checkI numberedB
 simp [h]
theorem normA_no {s : SchemaL} {L : List (List UInt8)} {k : Nat} (hk : k < L.length) (h : normalB s k L[k] = false) : normA s 0 L = false := by
 cases hh : normA s 0 L with
 | false => rfl
 | true =>
  have := normA_get s L 0 hh k hk
  rw [Nat.zero_add, show L.getD k [] = L[k] by simp [List.getD, hk], h] at this
  cases this
set_option maxHeartbeats 8000000 in
theorem rrcheck_any (S T : Nat → Prop) (vf vt vn vs : Value) (s : SchemaL) (r : RecL) (sv : Value) (w : World) (h : SchemaAt w S vf vt vn vs s) (hv : Vec w T 1 encS sv r.vals) (hs : ∀ x ∈ r.vals, x.length ≤ 1000000) (hn : r.vals.length ≤ 1000000) :
  Calls Tryz.prog 20 #[.agg #[vf, vt, vn, vs], .agg #[.int .i64 r.id, .int .i64 r.ver, sv]] w fun e w' => e = .returned (.int .i64 (checkN s r)) ∧ Below w.heap.size w w' := by
 obtain ⟨c, hc⟩ : ∃ c, checkN s r = c := ⟨_, rfl⟩
 obtain ⟨d, hd⟩ : ∃ d, checkS s = d := ⟨_, rfl⟩
 have hval := hc
 unfold checkN at hval
 rw [hd] at hval
 rw [hc]
 obtain ⟨af, cf, rfl⟩ := h.1.slice
 obtain ⟨a, cap, rfl⟩ := hv.slice
 obtain ⟨id, ver, vals⟩ := r
 dsimp only at hv hs hn ⊢
 have HV := Lib.hid hv.any; have HS := Lib.hid h.any; have HVal := Lib.hid hval; have HD := Lib.hid hd; have HSh := Lib.hid hs
 clear hv h hval hc hd hs
 go_enter Tryz.func20, Tryz.ntmps20
 go_wp2_with fail
 refine wp_calls_world (fun W hW => ?_)
 have hb0 : Below w.heap.size w W := by rw [hW]; exact ((Below.refl w.heap.size w).alloc (Nat.le_refl _) _).alloc (by simp) _
 have k0 : RcAt w.heap.size (.slice af s.fields.length cf) vt vn vs (.int .i64 id) (.int .i64 ver) (.slice a vals.length cap) W := by rw [hW]; exact ⟨blk_old (blk_new rfl), blk_new (by simp)⟩
 clear hW
 refine (rscheck_any Any1 _ _ _ _ s _ (HS.out.below hb0)).mono ?_
 rw [HD.out]
 rintro e w1 ⟨rfl, hb⟩
 have K1 := Lib.hid (k0.below hb); have HB1 := Lib.hid (hb0.trans (hb.mono hb0.size))
 clear hb hb0 k0
 obtain ⟨s0, s1, s2, s3⟩ := cellsS K1.out.s; obtain ⟨r0, r1, r2⟩ := cells3 K1.out.r
 have ls := lt_of_blk K1.out.s; have lr := lt_of_blk K1.out.r
 by_cases h0 : d = 0
 ·subst h0
  have HV2 := HVal.out
  rw [if_pos rfl] at HV2
  have HI := Lib.hid HV2
  have dz : ((0 : Int) != 0) = false := rfl
  clear HV2 HVal
  by_cases hin : 1 ≤ id ∧ id ≤ 1048576 ∧ 1 ≤ ver ∧ ver ≤ 1048576 ∧ vals.length = s.fields.length
  ·have hck := checkI_norm (r := ⟨id, ver, vals⟩) hin
   rw [HI.out] at hck
   have HCk := Lib.hid hck
   obtain ⟨i1, i2, i3, i4, i5⟩ := hin
   have e1 : decide (id < (1 : Int)) = false := by simp; omega
   have e2 : decide ((1048576 : Int) < id) = false := by simp; omega
   have e3 : decide (ver < (1 : Int)) = false := by simp; omega
   have e4 : decide ((1048576 : Int) < ver) = false := by simp; omega
   have e5 : ((vals.length : Int) != (s.fields.length : Int)) = false := by rw [i5]; simp
   clear i1 i2 i3 i4 i5 hck
   go_wp2_with fail
   clear s0 s1 s2 s3 r0 r1 r2 e1 e2 e3 e4 e5
   go_loopw [6] (fun t wr => ∃ k : Nat, k ≤ vals.length ∧ t = .int .i64 k ∧ Hid (∀ j (hj : j < k) (hl : j < vals.length), normalB s j vals[j] = true) ∧ Below w1.heap.size w1 wr) (fun t _ => vals.length - (intOf t).toNat)
   case atStart => exact ⟨0, by omega, rfl, Lib.hid fun j hj => by omega, Below.refl _ _⟩
   case round =>
    obtain ⟨k, hk, rfl, HN, hbw⟩ := hrel
    have Kw := Lib.hid (K1.out.below hbw); have HBw := Lib.hid (HB1.out.trans (hbw.mono HB1.out.size)); have Hbw := Lib.hid hbw
    clear hbw
    obtain ⟨s0, s1, s2, s3⟩ := cellsS Kw.out.s; obtain ⟨r0, r1, r2⟩ := cells3 Kw.out.r
    have ls := lt_of_blk Kw.out.s; have lr := lt_of_blk Kw.out.r
    by_cases hlt : k < vals.length
    ·have hq : decide ((k : Int) < vals.length) = true := by simp; omega
     have hki : (k : Int) < (vals.length : Int) := by omega
     obtain ⟨u, hu⟩ : ∃ u, vals[k] = u := ⟨_, rfl⟩
     have hul : u.length ≤ 1000000 := HSh.out u (by rw [← hu]; exact List.getElem_mem _)
     obtain ⟨b, off, rfl, hb, hcc⟩ := (HV.out.below HBw.out).get k hlt
     have d0 := hcc 0 _ rfl
     rw [Nat.mul_one, Nat.add_zero, hu] at d0
     have lb : b < wr.heap.size := hb
     have HU := Lib.hid hu
     obtain ⟨nb, hnb⟩ : ∃ nb, normalB s k u = nb := ⟨_, rfl⟩
     have HNb := Lib.hid hnb
     have bD : Below wr.heap.size wr wr.drew := (Below.refl _ _).drew
     clear hcc hu hnb hb
     go_wp2_with fail
     refine wp_region_noPanic ?_
     refine wp_region_held_drew (S := (fun w' => w'.cell? ⟨w.heap.size, 0, none⟩ = some (.slice af s.fields.length cf) ∧ w'.cell? ⟨w.heap.size, 1, none⟩ = some vt ∧ w'.cell? ⟨w.heap.size, 2, none⟩ = some vn ∧ w'.cell? ⟨w.heap.size, 3, none⟩ = some vs ∧ w'.cell? ⟨w.heap.size + 1, 2, none⟩ = some (.slice (some ⟨b, off, none⟩) vals.length cap) ∧ w'.cell? ⟨b, off + k, none⟩ = some (strV u))) (by kernel_rfl) (⟨s0, s1, s2, s3, r2, d0⟩) (fun hHeld => ?_)
     refine tH 0 (h := ?_)
     refine tH 1 (h := ?_)
     refine tH 2 (h := ?_)
     refine tH 3 (h := ?_)
     refine tH 4 (h := ?_)
     refine tH 5 (h := ?_)
     refine tH 6 (h := ?_)
     refine wpAnyH_ready (rs := [7]) (by kernel_rfl) (by simp) ?_
     refine AllReadyH.cons rfl (fun K hK => ?_) AllReadyH.nil
     go_simp
     refine (rsnormal_any Any1 _ vt vn vs s k ⟨u.toArray⟩ _ ((HS.out.below HBw.out).below bD) (by rw [mk_size]; omega)).mono ?_; rw [show (⟨u.toArray⟩ : ByteArray).data.toList = u by simp, HNb.out]; rintro e w2 ⟨rfl, hb2⟩; have b2 := bD.trans (hb2.mono bD.size); clear hb2
     refine hK.out _ _ (⟨(b2.cell (p := ⟨w.heap.size, 0, none⟩) ls).trans s0, (b2.cell (p := ⟨w.heap.size, 1, none⟩) ls).trans s1, (b2.cell (p := ⟨w.heap.size, 2, none⟩) ls).trans s2, (b2.cell (p := ⟨w.heap.size, 3, none⟩) ls).trans s3, (b2.cell (p := ⟨w.heap.size + 1, 2, none⟩) lr).trans r2, (b2.cell (p := ⟨b, off + k, none⟩) lb).trans d0⟩) (fun hHeld => ?_)
     clear hK K
     try simp only [List.getElem_toArray, List.getElem_cons_zero, List.getElem_cons_succ, Act.put, List.setIfInBounds_toArray, List.set_cons_zero, List.set_cons_succ]
     refine tH 8 (h := ?_)
     refine wpAnyH_done (by kernel_rfl) ?_ _
     refine NoPanic.normal ?_
     have HB2 := Lib.hid (Hbw.out.trans (b2.mono Hbw.out.size))
     have HBf := Lib.hid (HBw.out.trans (b2.mono HBw.out.size))
     clear hHeld s0 s1 s2 s3 r0 r1 r2 d0 b2
     cases nb with
     | true =>
      go_wp2_with fail
      go_roundw
      case rel =>
       refine ⟨k + 1, by omega, by go_num, Lib.hid fun j hj hl => ?_, HB2.out⟩
       by_cases hjk : j = k
       ·subst hjk; rw [HU.out]; exact HNb.out
       ·exact HN.out j (by omega) hl
      case measure => simp [intOf]; omega
     | false =>
      have hc7 : c = 7 := by rw [HCk.out, normA_no hlt (by rw [HU.out]; exact HNb.out)]; rfl
      subst hc7
      go_wp2_with fail
      go_ret
      exact ⟨rfl, HBf.out⟩
    ·have hq : decide ((k : Int) < vals.length) = false := by simp; omega
     obtain rfl : k = vals.length := by omega
     have hc0 : c = 0 := by
      rw [HCk.out, normA_of s vals 0 fun j hj => by rw [Nat.zero_add, show vals.getD j [] = vals[j] by simp [List.getD, hj]]; exact HN.out j hj hj]; rfl
     subst hc0
     go_wp2_with fail
     go_ret
     exact ⟨rfl, HBw.out⟩
  ·have hc7 : c = 7 := by rw [← HI.out]; exact checkI_no hin
   subst hc7
   clear HI
   by_cases i1 : id < 1
   ·have e1 : decide (id < (1 : Int)) = true := by simpa using i1
    go_wp2_with fail
    go_ret
    exact ⟨rfl, HB1.out⟩
   have e1 : decide (id < (1 : Int)) = false := by simpa using i1
   by_cases i2 : 1048576 < id
   ·have e2 : decide ((1048576 : Int) < id) = true := by simpa using i2
    go_wp2_with fail
    go_ret
    exact ⟨rfl, HB1.out⟩
   have e2 : decide ((1048576 : Int) < id) = false := by simpa using i2
   by_cases i3 : ver < 1
   ·have e3 : decide (ver < (1 : Int)) = true := by simpa using i3
    go_wp2_with fail
    go_ret
    exact ⟨rfl, HB1.out⟩
   have e3 : decide (ver < (1 : Int)) = false := by simpa using i3
   by_cases i4 : 1048576 < ver
   ·have e4 : decide ((1048576 : Int) < ver) = true := by simpa using i4
    go_wp2_with fail
    go_ret
    exact ⟨rfl, HB1.out⟩
   have e4 : decide ((1048576 : Int) < ver) = false := by simpa using i4
   have e5 : ((vals.length : Int) != (s.fields.length : Int)) = true := by simp; omega
   clear i1 i2 i3 i4 hin
   go_wp2_with fail
   go_ret
   exact ⟨rfl, HB1.out⟩
 ·have h1 : d = c := by have := HVal.out; rwa [if_neg h0] at this
  subst h1
  have hne : (d != 0) = true := by simpa using h0
  clear h0
  go_wp2_with fail
  go_ret
  exact ⟨rfl, HB1.out⟩
end
end Go.Proofs.YthnfmolkppbbpaaGreatDoor
