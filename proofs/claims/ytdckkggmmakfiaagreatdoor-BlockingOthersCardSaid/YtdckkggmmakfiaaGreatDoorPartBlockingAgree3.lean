/- Parts of one proof: SipC, BlkMap, TextE, TextF, NameA, NameB, NameC, NameD, NameE, NameF, AddrA, AddrB, AddrC, MakeS, MakeT, AddrD, AddrE, DateDig, MakeW. -/
import Derived.Test.YtdckkggmmakfiaaGreatDoorPartBlockingAgree2
import Derived.Deep.RegionHeld3
import Derived.MapKept
import Derived.WideMake
import Derived.WalkLawsBesides
import Derived.Shelf.SlicesQ.IndexFunc
import Derived.Lib.QuietBelow
import Derived.Maps.AppendAt
import Derived.Laws.OwnMore
import Derived.Laws.AppendOwnNone
section
/- siphash, the program's: Parts, Derive. -/
set_option linter.unusedSimpArgs false
set_option linter.unusedVariables false
set_option maxRecDepth 100000
namespace Go.Proofs.YtdckkggmmakfiaaGreatDoor
open Go.RowKit
theorem flatB (l : List UInt8) : l.flatMap encB = l.map byteV := by
  induction l with
  | nil => rfl
  | cons a l ih => simp only [List.flatMap_cons, List.map_cons, ih]; rfl
theorem strCells_mk (l : List UInt8) : Lib.strCells ⟨l.toArray⟩ = l.flatMap encB := by rw [flatB]; simp [Lib.strCells, byteV]
theorem partP_short (t : List UInt8) (h : t.length ≤ 60000) : partP t = [UInt8.ofNat (t.length / 256), UInt8.ofNat t.length] ++ t := by
  unfold partP
  rw [Nat.min_eq_left (by omega), List.take_of_length_le (by omega)]; rfl
theorem sparts_len (L : List (List UInt8)) (h : ∀ t ∈ L, t.length ≤ 60000) : (L.flatMap partP).length ≤ 60002 * L.length := by
  induction L with
  | nil => simp
  | cons a L ih =>
    have h1 := h a (by simp)
    have h2 := ih fun t ht => h t (by simp [ht])
    rw [List.flatMap_cons, List.length_append, partP_short a h1]
    simp only [List.length_append, List.length_cons, List.length_nil]; omega
theorem reads_row {w : World} {g : Nat} {t : TypeId} {fr : Nat × Nat} {c n : Nat} {xs : List Value} (h : w.heap[g]? = some (.cells xs.toArray t fr)) (hn : n = xs.length) : Reads w 1 (.slice (some ⟨g, 0, none⟩) n c) n xs := by
  subst hn
  exact ⟨_, c, rfl, by omega, fun _ => ⟨_, rfl, fun j u hj => by rw [add_plain, cell_of_row _ _ _ _ _ _ h, Nat.zero_add]; simpa using hj⟩⟩
theorem extract_all (t : List UInt8) : (⟨t.toArray⟩ : ByteArray).extract 0 t.length = ⟨t.toArray⟩ := by
  apply ByteArray.ext; simp [ByteArray.data_extract]
theorem one_encB : ∀ (x : UInt8), ∀ u ∈ encB x, u.oneCell' = true := by intro x u hu; simp [byteV] at hu; subst hu; rfl
theorem cells2K {w : World} {b : Nat} {x y : Value} {t : TypeId} {fr : Nat × Nat} (h : w.heap[b]? = some (.cells #[x, y] t fr)) : w.cell? ⟨b, 0, none⟩ = some x ∧ w.cell? ⟨b, 1, none⟩ = some y := by
  refine ⟨?_, ?_⟩ <;> (rw [cell_of_row _ _ _ _ _ _ h]; rfl)
section
variable {P : Program} {w : World} {ops : Array Oper} {rest : List Oper} {o : Oper} {a : Act} {Q : Exit → Act → World → Prop}
/-- append of a text to a row of bytes -/
theorem wpList_append_s (hgd : o.guard = none) (sl x : Operand) (t u : TypeId) (ho : o.op = .call { callee := .builtin .append, args := #[sl, x], argTypes := #[t, u] })
    (e : TypeId) (ht : P.underlying t = some (.slice e)) (hu : P.underlying u = some .string) (hinfo : (P.info? e).map (fun i => (i.zero, i.size, i.bytes)) = some (some (.int .u8 0), 1, 1)) {w0 : World} {v : Value} {A : List UInt8} (l : List UInt8) (hs : a.eval sl = v)
    (hown : OwnV e 1 encB w0 v A w) (hx : a.eval x = strV l) (hn : A.length + l.length ≤ 1000000000)
    (h : ∀ v' w', OwnV e 1 encB w0 v' (A ++ l) w' → w.heap.size ≤ w'.heap.size → wpList P ops Q rest (a.put o.dst v') w') : wpList P ops Q (o :: rest) a w := by
  obtain ⟨i, hi, hz, h2, h3⟩ := info_parts hinfo
  have hsz : (⟨l.toArray⟩ : ByteArray).size = l.length := by simp [ByteArray.size]
  refine Lib.wpList_append_own_string w hgd sl x t u ho w0.heap.size e i ht hu hi hz h2 h3 v A.length (A.flatMap encB) hs hown.1 ⟨l.toArray⟩ hx (by unfold maxLen; omega) (by omega) hown.2.size ?_
  intro v' w' ho' hg _
  rw [hsz, strCells_mk] at ho'
  refine h v' w' ⟨by rw [List.length_append, List.flatMap_append]; exact ho', hown.2.grown hg hown.2.size fun k hk => ?_⟩ hg.size
  rcases hown.1.2 with ⟨rfl, _⟩ | ⟨g, cap, cur, rfl, hg1, _⟩
  · simp [Value.ownBlock] at hk
  · have : g = k := by simpa [Value.ownBlock] using hk
    omega
end
set_option maxHeartbeats 4000000 in
theorem sparts_any (S : Nat → Prop) (ka kb : Int) (v : Value) (L : List (List UInt8)) (w : World) (h : Vec w S 1 encS v L) (hl : ∀ t ∈ L, t.length ≤ 60000) (hn : L.length ≤ 1000) :
    Calls Tryz.prog 48 #[.agg #[.int .u64 ka, .int .u64 kb], v] w fun e w' => e = .returned (.int .u64 (partsP ka kb L)) ∧ Below w.heap.size w w' := by
  obtain ⟨a, cap, rfl⟩ := h.slice
  have HV := Lib.hid h.any; clear h
  have HL := Lib.hid hl; clear hl
  go_enter Tryz.func48, Tryz.ntmps48
  go_wp2_with fail
  refine wp_world (fun W hW => ?_)
  have hb0 : Below w.heap.size w W := by rw [hW]; exact (Below.refl _ _).alloc (Nat.le_refl _) _
  have hk : W.heap[w.heap.size]? = some (.cells #[.int .u64 ka, .int .u64 kb] 39 (0, 0)) := by rw [hW]; exact blk_new rfl
  have HV0 := Lib.hid (HV.out.below hb0)
  have HB0 := Lib.hid hb0; have HK := Lib.hid hk
  clear hW hb0 hk HV
  go_loopw [5, 7, 10] (fun v _ i wr => ∃ k : Nat, i = .int .i64 k ∧ k ≤ L.length ∧ OwnV 5 1 encB W v ((L.take k).flatMap partP) wr) (fun _ _ i _ => L.length - (intOf i).toNat)
  case atStart => exact ⟨0, rfl, by omega, OwnV.start _ _ _ _⟩
  case round =>
    obtain ⟨k, rfl, hk, ho⟩ := hrel
    have HO := Lib.hid ho; clear ho
    by_cases hlt : k < L.length
    · have hq : decide ((k : Int) < L.length) = true := by simp; omega
      obtain ⟨t, ht⟩ : ∃ t, L[k] = t := ⟨_, rfl⟩
      have htl : t.length ≤ 60000 := HL.out t (by rw [← ht]; exact List.getElem_mem _)
      obtain ⟨b, off, rfl, hb, hc⟩ := (HV0.out.below HO.out.2).get k hlt
      have c0 := hc 0 _ rfl
      rw [Nat.mul_one, Nat.add_zero, ht] at c0
      clear hc
      have hm : min (t.length : Int) 65535 = (t.length : Int) := by omega
      have hx := extract_all t
      obtain ⟨x, ex⟩ : ∃ x, UInt8.ofNat (t.length / 256) = x := ⟨_, rfl⟩
      obtain ⟨y, ey⟩ : ∃ y, UInt8.ofNat t.length = y := ⟨_, rfl⟩
      have hxa : (t.length : Int) / 256 = (x.toNat : Int) := by rw [← ex, UInt8.toNat_ofNat']; omega
      have hya : (t.length : Int) % 256 = (y.toNat : Int) := by rw [← ey, UInt8.toNat_ofNat']; omega
      have hp := partP_short t htl
      rw [ex, ey] at hp
      have hts : L.take (k + 1) = L.take k ++ [t] := by rw [List.take_succ_eq_append_getElem hlt, ht]
      have htk := sparts_len (L.take k) fun u hu => HL.out u (List.mem_of_mem_take hu)
      rw [List.length_take] at htk
      have HP := Lib.hid hp; have HTs := Lib.hid hts
      clear hp hts ex ey
      obtain ⟨P, hP⟩ : ∃ P, (L.take k).flatMap partP = P := ⟨_, rfl⟩
      rw [hP] at HO htk
      have HPP := Lib.hid hP; clear hP
      have HO1 := Lib.hid (HO.out.below ((Below.refl _ _).alloc (Nat.le_refl _) (.cells #[.int .u8 (x.toNat : Int), .int .u8 (y.toNat : Int)] 5)))
      have HR1 := Lib.hid (reads_row (xs := [x, y].flatMap encB) (n := 2) (c := 2) (heap_alloc_new wr (.cells #[.int .u8 (x.toNat : Int), .int .u8 (y.toNat : Int)] 5)) rfl)
      have hz0 := HO.out.2.size
      have hlen : P.length + ([x, y] : List UInt8).length ≤ 1000000000 := by simp only [List.length_cons, List.length_nil]; omega
      have hlen2 : (P ++ [x, y]).length + t.length ≤ 1000000000 := by rw [List.length_append]; simp only [List.length_cons, List.length_nil]; omega
      go_wp2_with (at_builtin; first | (refine wpList_append_v rfl (.tmp 19) (.tmp 27) 84 rfl 5 (.int .u8 0) 1 1 encB (fun _ => rfl) one_encB Tryz.underlying84 infoBy rfl (by decide) (by decide) (w0 := W) (v := u5) (A := P) (B := [x, y]) rfl HO1.out rfl HR1.out hlen ?_; intro v2 w2 ho2 hk2 hz2) | (refine wpList_append_s rfl (.tmp 29) (.tmp 30) 84 9 rfl 5 Tryz.underlying84 Tryz.underlying9 infoBy (w0 := W) (v := v2) (A := P ++ [x, y]) t rfl ho2 rfl hlen2 ?_; intro v3 w3 ho3 hz3))
      go_roundw
      case rel => exact ⟨k + 1, by go_num, by omega, by rw [HTs.out, List.flatMap_append, HPP.out, List.flatMap_cons, List.flatMap_nil, List.append_nil, HP.out, ← List.append_assoc]; exact ho3⟩
      case measure => simp [intOf]; omega
    · have hq : decide ((k : Int) < L.length) = false := by simp; omega
      have htk := sparts_len L fun u hu => HL.out u hu
      rw [List.take_of_length_le (by omega)] at HO
      have hz0 := HO.out.2.size
      have hk2 : wr.heap[w.heap.size]? = some (.cells #[.int .u64 ka, .int .u64 kb] 39 (0, 0)) := blk_below HO.out.2 (lt_of_blk HK.out) HK.out
      obtain ⟨k0, k1⟩ := cells2K hk2
      go_wp2_with fail
      refine (ssum_any _ ka kb _ (L.flatMap partP) _ (OwnV.vec (size := 1) (enc := encB) (fun _ => rfl) HO.out) (by omega)).mono ?_
      rintro e w2 ⟨rfl, hb2⟩
      go_wp2_with fail
      go_ret
      exact ⟨rfl, HB0.out.trans ((HO.out.2.mono HB0.out.size).trans (hb2.mono (by have := HB0.out.size; omega)))⟩
theorem wpk_name {P : Program} {md : Region.Mode} {ops : Array Oper} {Q : Exit → Act → World → Prop} {S : World → Prop} {k fuel : Nat} {listed : Array Bool} {a : Act} {W : World} (h : ∀ w', w' = W → wpAnyK P md ops Q S k fuel listed a w') : wpAnyK P md ops Q S k fuel listed a W := h W rfl
/-- two texts that lie in one block -/
theorem sparts_two (ka kb : Int) (x y : List UInt8) (hx : x.length ≤ 60000) (hy : y.length ≤ 60000) (w : World) (g : Nat) (h : w.heap[g]? = some (.cells #[strV x, strV y] 9 (0, 0))) :
    Calls Tryz.prog 48 #[.agg #[.int .u64 ka, .int .u64 kb], .slice (some ⟨g, 0, none⟩) 2 2] w fun e w' => e = .returned (.int .u64 (partsP ka kb [x, y])) ∧ Below w.heap.size w w' := by
  refine sparts_any Any1 ka kb _ [x, y] w ⟨_, 2, rfl, by simp, fun _ => ⟨g, 0, rfl, trivial, lt_of_blk h, fun j z hj i u hu => ?_⟩⟩ (by intro t ht; simp at ht; rcases ht with rfl | rfl <;> omega) (by simp)
  rw [cell_of_row _ _ _ _ _ _ h]
  match j, i, hj, hu with
  | 0, 0, hj, hu => simp at hj; subst hj; simpa using hu
  | 1, 0, hj, hu => simp at hj; subst hj; simpa using hu
  | 0, i + 1, hj, hu => simp at hu
  | 1, i + 1, hj, hu => simp at hu
  | j + 2, _, hj, _ => simp at hj
set_option maxHeartbeats 4000000 in
theorem sderive_any (ka kb : Int) (l : List UInt8) (w : World) (hl : l.length ≤ 60000) :
    Calls Tryz.prog 49 #[.agg #[.int .u64 ka, .int .u64 kb], strV l] w fun e w' => e = .returned (.agg #[.int .u64 (deriveP ka kb l).1, .int .u64 (deriveP ka kb l).2]) ∧ Below w.heap.size w w' := by
  obtain ⟨p, hp⟩ : ∃ p, partsP ka kb [l, [97]] = p := ⟨_, rfl⟩
  obtain ⟨q, hq⟩ : ∃ q, partsP ka kb [l, [98]] = q := ⟨_, rfl⟩
  have hpq : deriveP ka kb l = (p, q) := by rw [← hp, ← hq]; rfl
  rw [hpq]
  have HP := Lib.hid hp; have HQ := Lib.hid hq
  clear hp hq hpq
  go_enter Tryz.func49, Tryz.ntmps49
  go_wp2_with fail
  refine wp_world (fun W hW => ?_)
  have hb0 : Below w.heap.size w W := by rw [hW]; exact ((Below.refl _ _).alloc (Nat.le_refl _) _).alloc (by simp) _
  have hk0 : W.heap[w.heap.size]? = some (.cells #[.int .u64 ka, .int .u64 kb] 39 (0, 0)) := by rw [hW]; exact blk_old (blk_new rfl)
  have hz0 : W.heap[w.heap.size + 1]? = some (.cells #[.int .u64 0, .int .u64 0] 39 (0, 0)) := by rw [hW]; exact blk_new (by simp)
  have hW0 := lt_of_blk hk0
  obtain ⟨k0, k1⟩ := cells2K hk0
  clear hW
  have bD : Below W.heap.size W W.drew := (Below.refl _ _).drew
  refine wp_region_noPanic ?_
  refine wp_region_k (by kernel_rfl) (fun w' => w'.cell? ⟨w.heap.size, 0, none⟩ = some (.int .u64 ka) ∧ w'.cell? ⟨w.heap.size, 1, none⟩ = some (.int .u64 kb)) 9 (⟨k0, k1⟩) (fun hHeld => ?_)
  refine wpAnyK_take (i := 0) (v := ?_) rfl (by kernel_rfl) (by kernel_rfl) (by kernel_rfl) (by kernel_rfl) (fun _ _ _ h => h) (Or.inl ⟨by rfl, ?_⟩) (by assumption) ?_
  rotate_left 1
  · (intro wS hSw; (try dsimp only at hSw); go_simp; try with_reducible rfl)
  try simp only [List.getElem_toArray, List.getElem_cons_zero, List.getElem_cons_succ, Act.put, List.setIfInBounds_toArray, List.set_cons_zero, List.set_cons_succ]
  refine wpAnyK_take (i := 1) (v := ?_) rfl (by kernel_rfl) (by kernel_rfl) (by kernel_rfl) (by kernel_rfl) (fun _ _ _ h => h) (Or.inl ⟨by rfl, ?_⟩) (by assumption) ?_
  rotate_left 1
  · (intro wS hSw; (try dsimp only at hSw); go_simp; try with_reducible rfl)
  try simp only [List.getElem_toArray, List.getElem_cons_zero, List.getElem_cons_succ, Act.put, List.setIfInBounds_toArray, List.set_cons_zero, List.set_cons_succ]
  refine wpAnyK_take (i := 4) (v := ?_) rfl (by kernel_rfl) (by kernel_rfl) (by kernel_rfl) (by kernel_rfl) (fun _ _ _ h => h) (Or.inl ⟨by rfl, ?_⟩) (by assumption) ?_
  rotate_left 1
  · (intro wS hSw; (try dsimp only at hSw); go_simp; try with_reducible rfl)
  try simp only [List.getElem_toArray, List.getElem_cons_zero, List.getElem_cons_succ, Act.put, List.setIfInBounds_toArray, List.set_cons_zero, List.set_cons_succ]
  refine wpAnyK_take (i := 5) (v := ?_) rfl (by kernel_rfl) (by kernel_rfl) (by kernel_rfl) (by kernel_rfl) (fun _ _ _ h => h) (Or.inl ⟨by rfl, ?_⟩) (by assumption) ?_
  rotate_left 1
  · (intro wS hSw; (try dsimp only at hSw); go_simp; try with_reducible rfl)
  try simp only [List.getElem_toArray, List.getElem_cons_zero, List.getElem_cons_succ, Act.put, List.setIfInBounds_toArray, List.set_cons_zero, List.set_cons_succ]
  refine wpAnyK_ready (rs := [2, 6]) (by kernel_rfl) (by simp) ?_
  refine AllReadyK.cons rfl (fun K hK => ?_) (AllReadyK.cons rfl (fun K hK => ?_) AllReadyK.nil)
  focus
    go_simp
    refine shutK hK (⟨((bD.alloc bD.size _).cell (p := ⟨w.heap.size, 0, none⟩) hW0).trans k0, ((bD.alloc bD.size _).cell (p := ⟨w.heap.size, 1, none⟩) hW0).trans k1⟩) (fun hHeld => ?_)
    clear hK K
    try simp only [List.getElem_toArray, List.getElem_cons_zero, List.getElem_cons_succ, Act.put, List.setIfInBounds_toArray, List.set_cons_zero, List.set_cons_succ]
    refine wpk_name (fun W1 hW1 => ?_)
    have b1 : Below W.heap.size W W1 := by rw [hW1]; exact bD.alloc bD.size (.cells #[strV l, strV [97]] 9)
    have g1 : W1.heap[W.heap.size]? = some (.cells #[strV l, strV [97]] 9 (0, 0)) := by rw [hW1]; exact blk_new rfl
    clear hW1
    refine wpAnyK_ready (rs := [3, 6]) (by kernel_rfl) (by simp) ?_
    refine AllReadyK.cons rfl (fun K hK => ?_) (AllReadyK.cons rfl (fun K hK => ?_) AllReadyK.nil)
    focus
      go_simp
      refine (sparts_two ka kb l [97] hl (by decide) _ _ g1).mono ?_
      rintro e w2 ⟨rfl, hb⟩
      have b2 := b1.trans (hb.mono b1.size)
      clear hb
      refine shutK hK (⟨(b2.cell (p := ⟨w.heap.size, 0, none⟩) hW0).trans k0, (b2.cell (p := ⟨w.heap.size, 1, none⟩) hW0).trans k1⟩) (fun hHeld => ?_)
      clear hK K
      try simp only [List.getElem_toArray, List.getElem_cons_zero, List.getElem_cons_succ, Act.put, List.setIfInBounds_toArray, List.set_cons_zero, List.set_cons_succ]
      refine wpAnyK_ready (rs := [6]) (by kernel_rfl) (by simp) ?_
      refine AllReadyK.cons rfl (fun K hK => ?_) AllReadyK.nil
      go_simp
      refine shutK hK (⟨((b2.alloc b2.size _).cell (p := ⟨w.heap.size, 0, none⟩) hW0).trans k0, ((b2.alloc b2.size _).cell (p := ⟨w.heap.size, 1, none⟩) hW0).trans k1⟩) (fun hHeld => ?_)
      clear hK K
      try simp only [List.getElem_toArray, List.getElem_cons_zero, List.getElem_cons_succ, Act.put, List.setIfInBounds_toArray, List.set_cons_zero, List.set_cons_succ]
      refine wpk_name (fun W3 hW3 => ?_)
      have b3 : Below W.heap.size W W3 := by rw [hW3]; exact b2.alloc b2.size (.cells #[strV l, strV [98]] 9)
      have g3 : W3.heap[w2.heap.size]? = some (.cells #[strV l, strV [98]] 9 (0, 0)) := by rw [hW3]; exact blk_new rfl
      clear hW3
    rotate_left 1
    focus
      go_simp
      refine shutK hK (⟨((b1.alloc b1.size _).cell (p := ⟨w.heap.size, 0, none⟩) hW0).trans k0, ((b1.alloc b1.size _).cell (p := ⟨w.heap.size, 1, none⟩) hW0).trans k1⟩) (fun hHeld => ?_)
      clear hK K
      try simp only [List.getElem_toArray, List.getElem_cons_zero, List.getElem_cons_succ, Act.put, List.setIfInBounds_toArray, List.set_cons_zero, List.set_cons_succ]
      refine wpk_name (fun W2 hW2 => ?_)
      have b2 : Below W.heap.size W W2 := by rw [hW2]; exact b1.alloc b1.size (.cells #[strV l, strV [98]] 9)
      have g3 : W2.heap[W1.heap.size]? = some (.cells #[strV l, strV [98]] 9 (0, 0)) := by rw [hW2]; exact blk_new rfl
      have g1' : W2.heap[W.heap.size]? = some (.cells #[strV l, strV [97]] 9 (0, 0)) := by rw [hW2]; exact blk_old g1
      clear hW2
      refine wpAnyK_ready (rs := [3]) (by kernel_rfl) (by simp) ?_
      refine AllReadyK.cons rfl (fun K hK => ?_) AllReadyK.nil
      go_simp
      refine (sparts_two ka kb l [97] hl (by decide) _ _ g1').mono ?_
      rintro e W3 ⟨rfl, hb⟩
      have b3 := b2.trans (hb.mono b2.size)
      have g3 := blk_below hb (lt_of_blk g3) g3
      clear hb
      refine shutK hK (⟨(b3.cell (p := ⟨w.heap.size, 0, none⟩) hW0).trans k0, (b3.cell (p := ⟨w.heap.size, 1, none⟩) hW0).trans k1⟩) (fun hHeld => ?_)
      clear hK K
      try simp only [List.getElem_toArray, List.getElem_cons_zero, List.getElem_cons_succ, Act.put, List.setIfInBounds_toArray, List.set_cons_zero, List.set_cons_succ]
  rotate_left 2
  focus
    go_simp
    refine shutK hK (⟨((bD.alloc bD.size _).cell (p := ⟨w.heap.size, 0, none⟩) hW0).trans k0, ((bD.alloc bD.size _).cell (p := ⟨w.heap.size, 1, none⟩) hW0).trans k1⟩) (fun hHeld => ?_)
    clear hK K
    try simp only [List.getElem_toArray, List.getElem_cons_zero, List.getElem_cons_succ, Act.put, List.setIfInBounds_toArray, List.set_cons_zero, List.set_cons_succ]
    refine wpk_name (fun W1 hW1 => ?_)
    have b1 : Below W.heap.size W W1 := by rw [hW1]; exact bD.alloc bD.size (.cells #[strV l, strV [98]] 9)
    have g3 : W1.heap[W.heap.size]? = some (.cells #[strV l, strV [98]] 9 (0, 0)) := by rw [hW1]; exact blk_new rfl
    clear hW1
    refine wpAnyK_ready (rs := [2]) (by kernel_rfl) (by simp) ?_
    refine AllReadyK.cons rfl (fun K hK => ?_) AllReadyK.nil
    go_simp
    refine shutK hK (⟨((b1.alloc b1.size _).cell (p := ⟨w.heap.size, 0, none⟩) hW0).trans k0, ((b1.alloc b1.size _).cell (p := ⟨w.heap.size, 1, none⟩) hW0).trans k1⟩) (fun hHeld => ?_)
    clear hK K
    try simp only [List.getElem_toArray, List.getElem_cons_zero, List.getElem_cons_succ, Act.put, List.setIfInBounds_toArray, List.set_cons_zero, List.set_cons_succ]
    refine wpk_name (fun W2 hW2 => ?_)
    have b2 : Below W.heap.size W W2 := by rw [hW2]; exact b1.alloc b1.size (.cells #[strV l, strV [97]] 9)
    have g1 : W2.heap[W1.heap.size]? = some (.cells #[strV l, strV [97]] 9 (0, 0)) := by rw [hW2]; exact blk_new rfl
    have g3' : W2.heap[W.heap.size]? = some (.cells #[strV l, strV [98]] 9 (0, 0)) := by rw [hW2]; exact blk_old g3
    clear hW2
    refine wpAnyK_ready (rs := [3]) (by kernel_rfl) (by simp) ?_
    refine AllReadyK.cons rfl (fun K hK => ?_) AllReadyK.nil
    go_simp
    refine (sparts_two ka kb l [97] hl (by decide) _ _ g1).mono ?_
    rintro e W3 ⟨rfl, hb⟩
    have b3 := b2.trans (hb.mono b2.size)
    have g3 := blk_below hb (lt_of_blk g3') g3'
    clear hb
    refine shutK hK (⟨(b3.cell (p := ⟨w.heap.size, 0, none⟩) hW0).trans k0, (b3.cell (p := ⟨w.heap.size, 1, none⟩) hW0).trans k1⟩) (fun hHeld => ?_)
    clear hK K
    try simp only [List.getElem_toArray, List.getElem_cons_zero, List.getElem_cons_succ, Act.put, List.setIfInBounds_toArray, List.set_cons_zero, List.set_cons_succ]
  all_goals
    refine wpAnyK_ready (rs := [7]) (by kernel_rfl) (by simp) ?_
    refine AllReadyK.cons rfl (fun K hK => ?_) AllReadyK.nil
    go_simp
    refine (sparts_two ka kb l [98] hl (by decide) _ _ g3).mono ?_; rintro e w4 ⟨rfl, hb⟩; have b4 := b3.trans (hb.mono b3.size); clear hb; rw [HP.out, HQ.out]
    refine shutK hK (⟨(b4.cell (p := ⟨w.heap.size, 0, none⟩) hW0).trans k0, (b4.cell (p := ⟨w.heap.size, 1, none⟩) hW0).trans k1⟩) (fun hHeld => ?_)
    clear hK K
    try simp only [List.getElem_toArray, List.getElem_cons_zero, List.getElem_cons_succ, Act.put, List.setIfInBounds_toArray, List.set_cons_zero, List.set_cons_succ]
    refine wpAnyK_take (i := 8) (v := ?_) rfl (by kernel_rfl) (by kernel_rfl) (by kernel_rfl) (by kernel_rfl) (fun _ _ _ h => h) (Or.inl ⟨by rfl, ?_⟩) (by assumption) ?_
    rotate_left 1
    · (intro wS hSw; (try dsimp only at hSw); go_simp; try with_reducible rfl)
    try simp only [List.getElem_toArray, List.getElem_cons_zero, List.getElem_cons_succ, Act.put, List.setIfInBounds_toArray, List.set_cons_zero, List.set_cons_succ]
    have hz4 := blk_below b4 (lt_of_blk hz0) hz0
    have hz5 := lt_of_blk hz4
    obtain ⟨z0, z1⟩ := cells2K hz4
    have y0 := frozen_of_row _ _ 0 _ _ hz4
    have y1 := frozen_of_row _ _ 1 _ _ hz4
    refine wpAnyK_ready (rs := [9]) (by kernel_rfl) (by simp) ?_
    refine AllReadyK.cons rfl (fun K hK => ?_) AllReadyK.nil
    go_simp
    refine shutK_off hK (by decide) ?_
    clear hK K
    try simp only [List.getElem_toArray, List.getElem_cons_zero, List.getElem_cons_succ, Act.put, List.setIfInBounds_toArray, List.set_cons_zero, List.set_cons_succ]
    refine wpAnyK_done (by kernel_rfl) ?_ _
    refine NoPanic.normal ?_
    go_wp2_with fail
    exact bodyPost_row1 rfl rfl (blk_set (i := 1) (v := .int .u64 q) (blk_set (i := 0) (v := .int .u64 p) hz4)) Tryz.underlying39 rfl (by kernel_rfl)
      ⟨rfl, ((hb0.trans (b4.mono hb0.size)).setCell (p := ⟨w.heap.size + 1, 0, none⟩) (Nat.le_succ _) _).setCell (p := ⟨w.heap.size + 1, 1, none⟩) (Nat.le_succ _) _⟩
end Go.Proofs.YtdckkggmmakfiaaGreatDoor
end
section
/- blocking, the program's: the map of the transforms; a look-up in it. -/
set_option linter.unusedSimpArgs false
set_option linter.unusedVariables false
set_option maxRecDepth 100000
namespace Go.Proofs.YtdckkggmmakfiaaGreatDoor
open Go.RowKit
theorem ins_int {P : Program} {w : World} {mty kt et : TypeId} {r : Nat} {es : Array MapEntry} {clock : Nat} (k : Int) (v : Value) (hm : P.underlying mty = some (.map kt et)) (hd : P.underlying kt = some (.int .i64)) (hb : w.heap[r]? = some (.map es clock)) (h1 : Instr.findNow (.int .i64) (.int .i64 k) es.toList 0 = some none) :
    ∃ w', (Instr.mapUpdate mty (.map (some r)) (.int .i64 k) v).run P w = .ok () w' ∧ w'.heap[r]? = some (.map (es.push { key := .int .i64 k, val := v, born := clock }) (clock + 1)) ∧ w.grownBy w' (some r) := by
  refine ⟨{ w with heap := w.heap.setIfInBounds r (.map (es.push { key := .int .i64 k, val := v, born := clock }) (clock + 1)) }, ?_, (MapKept.heap_set hb).1, ?_⟩
  · simp [Instr.mapUpdate, run_underlying hm, MapKept.run_getObj_map hb, MapKept.run_checkKey hd (k := .int .i64 k) (by simp [MapKept.IsKey]), MapKept.run_findKey hd h1, MapKept.run_setObj_map _ hb, Result.andThen]
  · exact ⟨rfl, rfl, rfl, by simp, fun i _ hi => (MapKept.heap_set hb).2 i (fun e => hi (by rw [e]))⟩
theorem look_int {P : Program} {w : World} {mty kt et : TypeId} {r i : Nat} {es : Array MapEntry} {clock : Nat} (k : Int) (v : Value) (hm : P.underlying mty = some (.map kt et)) (hd : P.underlying kt = some (.int .i64)) (hb : w.heap[r]? = some (.map es clock)) (h1 : Instr.findNow (.int .i64) (.int .i64 k) es.toList 0 = some (some (i, v))) :
    (Instr.lookup mty (.map (some r)) (.int .i64 k) false).run P w = .ok v w := by
  simp [Instr.lookup, run_underlying hm, MapKept.run_getObj_map hb, MapKept.run_checkKey hd (k := .int .i64 k) (by simp [MapKept.IsKey]), MapKept.run_findKey hd h1, Result.andThen]
def funV (f : FuncId) : Value := .func (.func f) #[] #[]
def transE : Array MapEntry := #[{ key := .int .i64 1, val := funV 72, born := 0 }, { key := .int .i64 2, val := funV 73, born := 1 }, { key := .int .i64 3, val := funV 74, born := 2 }, { key := .int .i64 4, val := funV 76, born := 3 }, { key := .int .i64 5, val := funV 77, born := 4 }]
def TransPost (w : World) (e : Ending) (w' : World) : Prop := ∃ b, e = .returned (.map (some b)) ∧ w'.heap[b]? = some (.map transE 5) ∧ w.heap.size ≤ b ∧ Below w.heap.size w w'
theorem trans_any (w : World) : Calls Tryz.prog 46 #[] w (TransPost w) := by
  go_enter Tryz.func46, Tryz.ntmps46
  go_wp2_with fail
  rw [run_makeMap_plain]
  go_wp2_with fail
  have g0 : (w.alloc (.map #[] 0)).heap[w.heap.size]? = some (.map #[] 0) := blk_new rfl
  have m0 : Below w.heap.size w (w.alloc (.map #[] 0)) := (Below.refl _ _).alloc (Nat.le_refl _) _
  obtain ⟨w1, e1, g1, r1⟩ := ins_int (P := Tryz.prog) 1 (.func (.func 72) #[] #[]) Tryz.underlying101 Tryz.underlying3 g0 rfl
  rw [e1]
  have m1 : Below w.heap.size w w1 := m0.grown r1 (by have := m0.size; exact this) (by intro x hx; cases hx; exact Nat.le_refl _)
  clear e1 r1
  go_wp2_with fail
  obtain ⟨w2, e2, g2, r2⟩ := ins_int (P := Tryz.prog) 2 (.func (.func 73) #[] #[]) Tryz.underlying101 Tryz.underlying3 g1 rfl
  rw [e2]
  have m2 : Below w.heap.size w w2 := m1.grown r2 (by have := m1.size; exact this) (by intro x hx; cases hx; exact Nat.le_refl _)
  clear e2 r2
  go_wp2_with fail
  obtain ⟨w3, e3, g3, r3⟩ := ins_int (P := Tryz.prog) 3 (.func (.func 74) #[] #[]) Tryz.underlying101 Tryz.underlying3 g2 rfl
  rw [e3]
  have m3 : Below w.heap.size w w3 := m2.grown r3 (by have := m2.size; exact this) (by intro x hx; cases hx; exact Nat.le_refl _)
  clear e3 r3
  go_wp2_with fail
  obtain ⟨w4, e4, g4, r4⟩ := ins_int (P := Tryz.prog) 4 (.func (.func 76) #[] #[]) Tryz.underlying101 Tryz.underlying3 g3 rfl
  rw [e4]
  have m4 : Below w.heap.size w w4 := m3.grown r4 (by have := m3.size; exact this) (by intro x hx; cases hx; exact Nat.le_refl _)
  clear e4 r4
  go_wp2_with fail
  obtain ⟨w5, e5, g5, r5⟩ := ins_int (P := Tryz.prog) 5 (.func (.func 77) #[] #[]) Tryz.underlying101 Tryz.underlying3 g4 rfl
  rw [e5]
  have m5 : Below w.heap.size w w5 := m4.grown r5 (by have := m4.size; exact this) (by intro x hx; cases hx; exact Nat.le_refl _)
  clear e5 r5
  go_wp2_with fail
  go_ret
  exact ⟨_, rfl, g5, Nat.le_refl _, m5⟩
end Go.Proofs.YtdckkggmmakfiaaGreatDoor
end
section
/- text: folding. -/
set_option linter.unusedSimpArgs false
set_option linter.unusedVariables false
set_option maxRecDepth 100000
namespace Go.Proofs.YtdckkggmmakfiaaGreatDoor
open Go.RowKit
/-- a byte of a folded text -/
def okB (b : UInt8) : Bool := isLow b || isDgt b || b == 32
theorem replT_ok : (replT.all fun x => x.all okB && decide (x.length ≤ 2)) = true := by decide
theorem replB_get (n : Nat) (h : n < 64) : replT[n]? = some (replT.getD n []) := by
  have : n < replT.length := h
  rw [List.getElem?_eq_getElem this]; simp [List.getD, List.getElem?_eq_getElem this]
theorem replB_ok (b : UInt8) : (∀ c ∈ replB b, okB c = true) ∧ (replB b).length ≤ 2 := by
  unfold replB
  by_cases h : b.toNat - 128 < replT.length
  · have hm : replT.getD (b.toNat - 128) [] ∈ replT := by
      simp only [List.getD, List.getElem?_eq_getElem h, Option.getD_some]; exact List.getElem_mem h
    have := List.all_eq_true.1 replT_ok _ hm
    rw [Bool.and_eq_true, List.all_eq_true, decide_eq_true_iff] at this
    exact this
  · have : replT.getD (b.toNat - 128) [] = [] := by simp [List.getD, List.getElem?_eq_none (Nat.le_of_not_lt h)]
    rw [this]; simp
theorem plainB_ok (b : UInt8) : (∀ c ∈ plainB b, okB c = true) ∧ (plainB b).length ≤ 1 := by
  unfold plainB
  split
  · rename_i h
    refine ⟨fun c hc => ?_, by simp⟩
    simp at hc; subst hc
    have : isLow (b + 32) = true := by
      rw [up_iff, decide_eq_true_iff] at h
      rw [low_iff, decide_eq_true_iff]
      have := b.toNat_lt
      have e : (b + 32).toNat = b.toNat + 32 := by rw [UInt8.toNat_add]; simp; omega
      rw [e]; omega
    simp [okB, this]
  · split
    · rename_i h
      refine ⟨fun c hc => ?_, by simp⟩
      simp at hc; subst hc
      simp at h; simp [okB, h]
    · split
      · simp
      · exact ⟨fun c hc => by simp at hc; subst hc; rfl, by simp⟩
theorem raw_ok (l : List UInt8) : (∀ c ∈ rawL l, okB c = true) ∧ (rawL l).length ≤ l.length := by
  induction l using rawL.induct with
  | case1 => simp [rawL]
  | case2 a => simp only [rawL]; exact ⟨(plainB_ok a).1, by simpa using (plainB_ok a).2⟩
  | case3 a b r h ih =>
    simp only [rawL, h, if_true]
    refine ⟨fun c hc => ?_, by have := (replB_ok b).2; simp; omega⟩
    rcases List.mem_append.1 hc with hc | hc
    · exact (replB_ok b).1 c hc
    · exact ih.1 c hc
  | case4 a b r h ih =>
    simp only [rawL, h]
    refine ⟨fun c hc => ?_, by have := (plainB_ok a).2; have := ih.2; simp at *; omega⟩
    simp only [Bool.false_eq_true, if_false] at hc
    rcases List.mem_append.1 hc with hc | hc
    · exact (plainB_ok a).1 c hc
    · exact ih.1 c hc
theorem okB_lt {b : UInt8} (h : okB b = true) : b.toNat < 128 := by
  unfold okB at h
  simp only [Bool.or_eq_true, low_iff, dig_iff, decide_eq_true_iff, beq_iff_eq] at h
  rcases h with (h | h) | h
  · omega
  · omega
  · subst h; decide
theorem raw_ascii (l : List UInt8) : ascii (rawL l) := fun b hb => okB_lt ((raw_ok l).1 b hb)
/-- the bytes of tokens are those of the text, less the spaces -/
theorem toksA_mem (l : List UInt8) : ∀ p, ∀ t ∈ toksA p l, ∀ b ∈ t, b ∈ p ∨ (b ∈ l ∧ b ≠ 32) := by
  induction l with
  | nil =>
    intro p t ht b hb
    simp only [toksA] at ht
    split at ht
    · simp at ht
    · simp at ht; subst ht; exact .inl hb
  | cons c l ih =>
    intro p t ht b hb
    by_cases hc : c = 32
    · subst hc
      by_cases hp : p = []
      · subst hp
        rw [toksA_sp0] at ht
        rcases ih [] t ht b hb with h | h
        · simp at h
        · exact .inr ⟨List.mem_cons_of_mem _ h.1, h.2⟩
      · rw [toksA_sp _ _ hp] at ht
        rcases List.mem_cons.1 ht with rfl | ht
        · exact .inl hb
        · rcases ih [] t ht b hb with h | h
          · simp at h
          · exact .inr ⟨List.mem_cons_of_mem _ h.1, h.2⟩
    · rw [toksA_ch _ _ _ hc] at ht
      rcases ih _ t ht b hb with h | h
      · rcases List.mem_append.1 h with h | h
        · exact .inl h
        · simp at h; subst h; exact .inr ⟨List.mem_cons_self, hc⟩
      · exact .inr ⟨List.mem_cons_of_mem _ h.1, h.2⟩
theorem join_cons_ne (t : List UInt8) (L : List (List UInt8)) (h : L ≠ []) : joinL (t :: L) = t ++ [32] ++ joinL L := by
  cases L with
  | nil => exact absurd rfl h
  | cons b r => rfl
theorem toksA_len (l : List UInt8) : ∀ p, (joinL (toksA p l)).length ≤ p.length + l.length ∧ (toksA p l).length ≤ l.length + 1 ∧ (p = [] → l.length = 0 → toksA p l = []) := by
  induction l with
  | nil =>
    intro p
    simp only [toksA]
    split <;> simp_all [joinL]
  | cons c l ih =>
    intro p
    by_cases hc : c = 32
    · subst hc
      by_cases hp : p = []
      · subst hp
        rw [toksA_sp0]
        have := ih []
        simp at *; omega
      · rw [toksA_sp _ _ hp]
        have := ih []
        by_cases hq : toksA [] l = []
        · rw [hq]; simp [joinL]; try omega
        · rw [join_cons_ne _ _ hq]; simp at *; omega
    · rw [toksA_ch _ _ _ hc]
      have := ih (p ++ [c])
      simp at *; omega
theorem fold_len (l : List UInt8) : (foldL l).length ≤ l.length := by
  have h1 := (toksA_len (rawL l) []).1
  have h2 := (raw_ok l).2
  unfold foldL toks
  simp at h1; omega
end Go.Proofs.YtdckkggmmakfiaaGreatDoor
end
section
/- text.Fold: what it returns, of every text. -/
set_option linter.unusedSimpArgs false
set_option linter.unusedVariables false
set_option maxRecDepth 100000
namespace Go.Proofs.YtdckkggmmakfiaaGreatDoor
open Go.RowKit
def foldRes (l : List UInt8) : Value := bif foldV l then .tuple #[strV (foldL l), .int .i64 0] else .tuple #[strV [], .int .i64 3]
theorem tbl_cell {w : World} {b : Nat} (h : w.heap[b]? = some (.cells tblV 183 (0, 0))) (c : UInt8) (n : Nat) (hn : c.toNat = 128 + n) (h64 : n < 64) : w.cell? ⟨b, n, none⟩ = some (strV (replB c)) := by
  rw [cell_of_row w b n tblV _ _ h]
  unfold tblV replB
  rw [hn, Nat.add_sub_cancel_left, List.getElem?_toArray, List.getElem?_map, replB_get n h64]
  rfl
theorem pairAt_snd (s : ByteArray) (i : Nat) (hi : i + 1 < s.size) (h : pairAt (s.data.toList.drop i) = true) : ∃ n : Nat, s[i + 1].toNat = 128 + n ∧ n < 64 := by
  rw [drop_two s i hi] at h
  simp only [pairAt, pair_iff, decide_eq_true_iff] at h
  exact ⟨s[i + 1].toNat - 128, by omega, by omega⟩
theorem mk_size (l : List UInt8) : (⟨l.toArray⟩ : ByteArray).size = l.length := by simp [ByteArray.size]
theorem put_len {acc x : List UInt8} {n : Nat} (h : acc.length ≤ n) (hn : n ≤ 1000000) (hx : x.length ≤ 2) : (Lib.byteCells acc).length + (⟨x.toArray⟩ : ByteArray).size ≤ 140737488355328 := by
  rw [Lib.byteCells_length, mk_size]; omega
/-- what the loop of Fold holds -/
def FoldAt (w w1 : World) (l : List UInt8) (k : Nat) (wr : World) : Prop := ∃ acc : List UInt8, acc ++ rawL (l.drop k) = rawL l ∧
  Lib.IsBuilder 187 5 (w1.heap.size + 1) (w1.heap.size + 1) (Lib.byteCells acc) wr ∧ wr.heap[w1.heap.size]? = some (.cells tblV 183 (0, 0)) ∧ Below w.heap.size w wr ∧ w1.heap.size + 1 ≤ wr.heap.size
theorem FoldAt.len {w w1 : World} {l : List UInt8} {k : Nat} {wr : World} {acc : List UInt8} (h : acc ++ rawL (l.drop k) = rawL l) : acc.length ≤ l.length := by
  have := congrArg List.length h
  have h2 := (raw_ok l).2
  simp at this; omega
theorem FoldAt.step {w w1 wr w2 : World} {l acc x : List UInt8} {k k' : Nat} (hacc : acc ++ rawL (l.drop k) = rawL l) (hx : rawL (l.drop k) = x ++ rawL (l.drop k')) (ht : wr.heap[w1.heap.size]? = some (.cells tblV 183 (0, 0))) (hbw : Below w.heap.size w wr) (hz : w1.heap.size + 1 ≤ wr.heap.size) (hz1 : w.heap.size ≤ w1.heap.size)
    (hB : Lib.BuilderAt 187 5 (w1.heap.size + 1) (w1.heap.size + 1) (.pointer (some ⟨w1.heap.size + 1, 0, none⟩)) (Lib.byteCells acc ++ Lib.strCells ⟨x.toArray⟩) w2) (hb2 : Below (w1.heap.size + 1) wr w2) : FoldAt w w1 l k' w2 := by
  refine ⟨acc ++ x, by rw [List.append_assoc, ← hx]; exact hacc, .inr ?_, (hb2.block _ (by omega)).trans ht, hbw.trans (hb2.mono (by omega)), Nat.le_trans hz hb2.size⟩
  rw [Lib.byteCells_append]
  exact hB
set_option maxHeartbeats 4000000 in
theorem fold_yes (s : ByteArray) (w : World) (hs : s.size ≤ 100000) (hv : foldV s.data.toList = true) :
    Calls Tryz.prog 161 #[.string s] w fun e w' => e = .returned (.tuple #[strV (foldL s.data.toList), .int .i64 0]) ∧ Below w.heap.size w w' := by
  have hl : s.data.toList.length = s.size := by simp
  have HL := Lib.hid hl; clear hl
  have HV := Lib.hid hv; clear hv
  go_enter Tryz.func161, Tryz.ntmps161
  go_wp2_with fail
  refine (tvalid_any s _ (by omega)).mono ?_; rw [HV.out]; rintro e w' ⟨rfl, rfl⟩
  go_wp2_with fail
  refine (repl_any _).mono ?_; rintro e w1 ⟨rfl, hb1⟩
  have HB1 := Lib.hid hb1; clear hb1
  go_wp2_with (refine wpList_store_row rfl 183 (.tmp 4) (.tmp 10) rfl w1.heap.size tblV rfl rfl 183 _ (heap_alloc_new w1 _) (by kernel_rfl) (by kernel_rfl) (by kernel_rfl) ?_; rw [World.setRow_alloc_new])
  have hbz : w.heap.size ≤ w1.heap.size := HB1.out.size
  go_loopw [6] (fun i wr => ∃ k : Nat, k ≤ s.size ∧ i = .int .i64 k ∧ FoldAt w w1 s.data.toList k wr) (fun i _ => s.size - (intOf i).toNat)
  case atStart =>
    refine ⟨0, by omega, rfl, [], rfl, .inl ⟨Nat.le_refl _, _, by rw [show w1.heap.size + 1 = (w1.alloc (.cells tblV 183)).heap.size by simp]; exact heap_alloc_new _ _, ⟨rfl, .inl ⟨rfl, rfl⟩⟩, by simp [Value.ownBlock]⟩, blk_old (blk_new rfl), (HB1.out.alloc hbz _).alloc (by simp; omega) _, by simp⟩
  case round =>
    obtain ⟨k, hk, rfl, HF⟩ := hrel
    have HF' := Lib.hid HF; clear HF
    by_cases hlt : k < s.size
    · have hq : decide ((k : Int) < s.size) = true := by simp; omega
      go_wp2_with fail
      refine (pair_any s k _ hlt (by omega)).mono ?_; rintro e w' ⟨rfl, rfl⟩
      cases hp : pairAt (s.data.toList.drop k)
      · have HR := Lib.hid (raw_one s k hlt hp)
        clear hp
        obtain ⟨acc, hacc, hB, ht, hbw, hz⟩ := HF'.out
        have hal := FoldAt.len (w := w) (w1 := w1) (wr := wr) hacc
        have HA := Lib.hid hacc; have HT := Lib.hid ht; have HW := Lib.hid hbw; have HB := Lib.hid hB
        clear hacc ht hbw hB HF'
        go_wp2_with fail
        refine (plain_any s[k] _).mono ?_; rintro e w' ⟨rfl, rfl⟩
        have hpl := (plainB_ok s[k]).2
        go_wp2_with fail
        refine (wstr_any (w1.heap.size + 1) (w1.heap.size + 1) (Lib.byteCells acc) ⟨(plainB s[k]).toArray⟩ _ HB.out (put_len hal (by rw [HL.out]; omega) (by omega)) hz).mono ?_
        rintro e w2 ⟨rfl, hB2, hb2⟩
        have HF2 := Lib.hid (FoldAt.step HA.out HR.out HT.out HW.out hz hbz hB2 hb2)
        clear hB2 hb2
        go_wp2_with fail
        go_roundw
        case rel => exact ⟨k + 1, by omega, by go_num, HF2.out⟩
        case measure => simp [intOf]; omega
      · have h2 := pairAt_lt s k hlt hp
        have HR := Lib.hid (raw_two s k h2 hp)
        obtain ⟨n, hn, hn64⟩ := pairAt_snd s k h2 hp
        clear hp
        obtain ⟨acc, hacc, hB, ht, hbw, hz⟩ := HF'.out
        have hal := FoldAt.len (w := w) (w1 := w1) (wr := wr) hacc
        have hcell := tbl_cell ht s[k + 1] n hn hn64
        have hn' : (s[k + 1].toNat : Int) = 128 + (n : Int) := by omega
        have HA := Lib.hid hacc; have HT := Lib.hid ht; have HW := Lib.hid hbw; have HB := Lib.hid hB
        clear hacc ht hbw hB HF' hn
        go_wp2_with fail
        have hpl := (replB_ok s[k + 1]).2
        refine (wstr_any (w1.heap.size + 1) (w1.heap.size + 1) (Lib.byteCells acc) ⟨(replB s[k + 1]).toArray⟩ _ HB.out (put_len hal (by rw [HL.out]; omega) hpl) hz).mono ?_
        rintro e w2 ⟨rfl, hB2, hb2⟩
        have HF2 := Lib.hid (FoldAt.step HA.out HR.out HT.out HW.out hz hbz hB2 hb2)
        clear hB2 hb2
        go_wp2_with fail
        go_roundw
        case rel => exact ⟨k + 2, by omega, by go_num, HF2.out⟩
        case measure => simp [intOf]; omega
    · have hq : decide ((k : Int) < s.size) = false := by simp; omega
      obtain ⟨acc, hacc, hB, ht, hbw, hz⟩ := HF'.out
      rw [List.drop_eq_nil_of_le (by rw [HL.out]; omega)] at hacc
      have hacc' : acc = rawL s.data.toList := by simpa [rawL] using hacc
      subst hacc'
      have HW := Lib.hid hbw; have HB := Lib.hid hB
      clear hacc ht hbw hB HF'
      go_wp2_with fail
      refine (bstr_any (w1.heap.size + 1) (w1.heap.size + 1) _ _ HB.out hz).mono ?_
      rintro e w2 ⟨rfl, hb2⟩
      have HW2 := Lib.hid (HW.out.trans (hb2.mono (by omega))); clear hb2
      go_wp2_with fail
      have hrl := (raw_ok s.data.toList).2
      refine (tokens_any (rawL s.data.toList) _ (raw_ascii _) (by rw [HL.out] at hrl; omega)).mono ?_
      rintro e w3 ⟨A, rfl, hA, ho, hb3⟩
      have hV := Lib.hid (Vec.owns (S := Any1) (k := 1) (enc := encS) (fun _ => rfl) ho (fun _ _ _ => trivial))
      have HW3 := Lib.hid (HW2.out.trans (hb3.mono HW2.out.size)); clear hb3 ho
      go_wp2_with fail
      refine (join_any Any1 _ (toks (rawL s.data.toList)) _ hV.out (by have := (toksA_len (rawL s.data.toList) []).2.1; unfold toks; rw [HL.out] at hrl; omega) (by have := fold_len s.data.toList; unfold foldL at this; rw [HL.out] at this; omega)).mono ?_
      rintro e w4 ⟨rfl, hb4⟩
      have HW4 := Lib.hid (HW3.out.trans (hb4.mono HW3.out.size)); clear hb4
      go_wp2_with fail
      go_ret2
      exact ⟨rfl, HW4.out⟩
set_option maxHeartbeats 400000 in
theorem fold_no (s : ByteArray) (w : World) (hs : s.size ≤ 9223372036854775000) (hv : foldV s.data.toList = false) :
    Calls Tryz.prog 161 #[.string s] w fun e w' => e = .returned (.tuple #[strV [], .int .i64 3]) ∧ Below w.heap.size w w' := by
  have HV := Lib.hid hv; clear hv
  go_enter Tryz.func161, Tryz.ntmps161
  go_wp2_with fail
  refine (tvalid_any s _ (by omega)).mono ?_; rw [HV.out]; rintro e w' ⟨rfl, rfl⟩
  go_wp2_with fail
  go_ret2
  exact ⟨rfl, Below.refl _ _⟩
theorem fold_any (s : ByteArray) (w : World) (hs : s.size ≤ 9223372036854775000) :
    Calls Tryz.prog 161 #[.string s] w fun e w' => e = .returned (foldRes s.data.toList) ∧ Below w.heap.size w w' := by
  unfold foldRes
  cases hv : foldV s.data.toList with
  | false => exact fold_no s w hs hv
  | true =>
    have h := hv
    unfold foldV at h
    simp only [Bool.and_eq_true, decide_eq_true_iff] at h
    exact fold_yes s w (by have : s.data.toList.length = s.size := by simp
                           omega) hv
end Go.Proofs.YtdckkggmmakfiaaGreatDoor
end
section
/- name: tokens, titles, the first rule, of all texts. -/
set_option linter.unusedSimpArgs false
set_option linter.unusedVariables false
set_option maxRecDepth 100000
namespace Go.Proofs.YtdckkggmmakfiaaGreatDoor
open Go.RowKit
@[local go_sem] theorem toList_mk (l : List UInt8) : (⟨l.toArray⟩ : ByteArray).toList = l := by
  rw [Lib.toList_data]
attribute [local go_sem] mk_size
def tokenB (l : List UInt8) : Bool := bif l.isEmpty then false else bif decide (l.length ≤ 64) then lettersL l == l else false
theorem dec_len (l : List UInt8) (n : Nat) : decide ((l.length : Int) ≤ (n : Int)) = decide (l.length ≤ n) := by
  rw [Bool.eq_iff_iff]; simp
set_option maxHeartbeats 400000 in
theorem token_any (l : List UInt8) (w : World) :
    Calls Tryz.prog 121 #[strV l] w fun e w' => e = .returned (.bool (tokenB l)) ∧ Below w.heap.size w w' := by
  unfold tokenB
  by_cases h0 : l = []
  · subst h0
    go_enter Tryz.func121, Tryz.ntmps121
    go_wp2
    go_ret
    exact ⟨rfl, Below.refl _ _⟩
  · have h1 : l.isEmpty = false := by simpa using h0
    have h2 : (l == []) = false := by simpa using h0
    rw [h1]
    by_cases h3 : l.length ≤ 64
    · have h4 : decide (l.length ≤ 64) = true := by simpa using h3
      have h5 : decide ((l.length : Int) ≤ 64) = true := by simp; omega
      rw [h4]
      clear h0 h4
      go_enter Tryz.func121, Tryz.ntmps121
      go_wp2_with fail
      refine (letters_any ⟨l.toArray⟩ _ (by rw [mk_size]; omega)).mono ?_
      rintro e w1 ⟨rfl, hb⟩
      go_wp2_with fail
      go_ret
      exact ⟨rfl, hb⟩
    · have h4 : decide (l.length ≤ 64) = false := by simpa using h3
      have h5 : decide ((l.length : Int) ≤ 64) = false := by simp; omega
      rw [h4]
      clear h0 h4
      go_enter Tryz.func121, Tryz.ntmps121
      go_wp2_with fail
      go_ret
      exact ⟨rfl, Below.refl _ _⟩
end Go.Proofs.YtdckkggmmakfiaaGreatDoor
end
section
/- name: the first rule for a token, the rules' tests. -/
set_option linter.unusedSimpArgs false
set_option linter.unusedVariables false
set_option maxRecDepth 100000
namespace Go.Proofs.YtdckkggmmakfiaaGreatDoor
open Go.RowKit
attribute [local go_sem] toList_mk mk_size
abbrev P2 := List UInt8 × List UInt8
/-- the two cells of a rule -/
def encP (x : P2) : List Value := [strV x.1, strV x.2]
theorem pred_find (s : List UInt8) (B : Nat) (w : World) (hB : B < w.heap.size) (hcell : w.cell? ⟨B, 0, none⟩ = some (strV s)) :
    PredBelow Tryz.prog 141 #[.pointer (some ⟨B, 0, none⟩)] (fun x => .agg (encP x).toArray) (fun x => x.1 == s) w := fun W x hb => by
  have hc : W.cell? ⟨B, 0, none⟩ = some (strV s) := (hb.cell (p := ⟨B, 0, none⟩) hB).trans hcell
  have hBW : B < W.heap.size := Nat.lt_of_lt_of_le hB hb.size
  have hne : B ≠ W.heap.size := by omega
  have HBb := Lib.hid hb; clear hb hcell
  show Calls Tryz.prog 141 #[.agg #[strV x.1, strV x.2], .pointer (some ⟨B, 0, none⟩)] W _
  go_enter Tryz.func141, Tryz.ntmps141
  go_wp2
  go_ret
  exact ⟨rfl, HBb.out.alloc HBb.out.size _⟩
set_option maxHeartbeats 400000 in
theorem idxP_nil (a : Option Addr) (c : Nat) (f : Value) (w : World) :
    Calls Tryz.prog 123 #[.slice a 0 c, f] w fun e w' => e = .returned (.int .i64 (-1)) ∧ w = w' := by
  go_enter Tryz.func123, Tryz.ntmps123
  go_wp2
  refine wp_loop_rounds 1 ?_; rw [rounds_succ]
  go_wp2
  go_ret
  exact ⟨rfl, rfl⟩
def findI (L : List P2) (s : List UInt8) : Int := Lib.idxBy (fun _ (y : P2) => y.1 == s) L default
set_option maxHeartbeats 1000000 in
theorem find_any (S : Nat → Prop) (v : Value) (L : List P2) (s : List UInt8) (w : World) (h : Vec w S 2 encP v L) (hn : L.length ≤ 1000000) :
    Calls Tryz.prog 122 #[v, strV s] w fun e w' => e = .returned (.int .i64 (findI L s)) ∧ Below w.heap.size w w' := by
  obtain ⟨a, cap, rfl, hcap, h0⟩ := h
  by_cases hz : L = []
  · subst hz
    clear h0
    go_enter Tryz.func122, Tryz.ntmps122
    go_wp2_with fail
    refine (idxP_nil a cap _ _).mono ?_
    rintro e w1 ⟨rfl, rfl⟩
    go_wp2_with fail
    go_ret
    exact ⟨rfl, (Below.refl _ _).alloc (Nat.le_refl _) _⟩
  · obtain ⟨b, off, rfl, _, hb, hc⟩ := h0 (List.length_pos_iff.2 hz)
    have eg : ∀ args w, (callFunc 141 args).run Tryz.prog w = .ok (.enter 141 args) w := enters_of Tryz.func141 (by kernel_rfl) rfl
    have hcon := AnyQ.slices_IndexFunc Tryz.laysIP 2 Tryz.isAgg92 Tryz.sizeOf92 encP (fun _ => rfl) (fun x => x.1 == s) 141 #[.pointer (some ⟨w.heap.size, 0, none⟩)] eg b off L.length cap L (w.alloc (.cells #[strV s] 9))
      (pred_find s w.heap.size _ (by simp) (by simp)) (Nat.le_refl _) (by omega) (by simp; omega) (fun j hj i u hi => by
        refine Lib.cell?_alloc_some _ ?_
        have e : L[j]? = some L[j]! := by rw [List.getElem?_eq_getElem hj, getElem!_pos L j hj]
        exact hc j _ e i u hi)
    rw [List.take_of_length_le (Nat.le_refl _)] at hcon
    have HC := Lib.hid hcon
    clear hcon hc h0
    go_enter Tryz.func122, Tryz.ntmps122
    go_wp2_with fail
    refine HC.out.mono ?_
    rintro e w1 ⟨rfl, hb1⟩
    go_wp2_with fail
    go_ret
    exact ⟨rfl, ((Below.refl _ w).alloc (Nat.le_refl _) _).trans (hb1.mono (by simp))⟩
end Go.Proofs.YtdckkggmmakfiaaGreatDoor
end
section
/- name: titles; pairs. -/
set_option linter.unusedSimpArgs false
set_option linter.unusedVariables false
set_option maxRecDepth 100000
namespace Go.Proofs.YtdckkggmmakfiaaGreatDoor
open Go.RowKit
attribute [local go_sem] toList_mk mk_size
def ltB (a b : List UInt8) : Bool := Op.bytesLess a b
/-- entry j is right, and greater than the one before -/
def titleAt (L : List (List UInt8)) (j : Nat) : Bool := tokenB (L.getD j []) && (decide (j = 0) || ltB (L.getD (j - 1) []) (L.getD j []))
def titlesB (L : List (List UInt8)) : Bool := (List.range L.length).all (titleAt L)
def pairAtB (L : List P2) (j : Nat) : Bool := tokenB (L.getD j default).1 && tokenB (L.getD j default).2 && (decide (j = 0) || ltB (L.getD (j - 1) default).1 (L.getD j default).1) && decide (findI L (L.getD j default).2 < 0)
def pairsB (L : List P2) : Bool := (List.range L.length).all (pairAtB L)
theorem all_false {n : Nat} {p : Nat → Bool} {k : Nat} (hk : k < n) (h : p k = false) : (List.range n).all p = false := by
  rw [List.all_eq_false]; exact ⟨k, List.mem_range.2 hk, by simp [h]⟩
theorem all_true {n : Nat} {p : Nat → Bool} (h : ∀ j, j < n → p j = true) : (List.range n).all p = true := by
  rw [List.all_eq_true]; intro j hj; exact h j (List.mem_range.1 hj)
theorem vec_cell1 {w : World} {S : Nat → Prop} {a : Option Addr} {n cap : Nat} {L : List (List UInt8)} (h : Vec w S 1 encS (.slice a n cap) L) (h0 : 0 < L.length) : ∃ b off, a = some ⟨b, off, none⟩ ∧ S b ∧ b < w.heap.size ∧ ∀ j, j < L.length → w.cell? ⟨b, off + j, none⟩ = some (strV (L.getD j [])) := by
  obtain ⟨a', cap', h1, h2, h3⟩ := h
  cases h1
  obtain ⟨b, off, h4, hS, h5, h6⟩ := h3 h0
  refine ⟨b, off, h4, hS, h5, fun j hj => ?_⟩
  have := h6 j L[j] (List.getElem?_eq_getElem hj) 0 _ rfl
  rw [List.getD, List.getElem?_eq_getElem hj]
  simpa using this
set_option maxHeartbeats 1000000 in
theorem titles_any (S : Nat → Prop) (v : Value) (L : List (List UInt8)) (w : World) (h : Vec w S 1 encS v L) (hn : L.length ≤ 1000000) :
    Calls Tryz.prog 87 #[v] w fun e w' => e = .returned (.bool (titlesB L)) ∧ Below w.heap.size w w' := by
  obtain ⟨a, cap, rfl⟩ := h.slice
  by_cases hz : L = []
  · subst hz
    clear h
    go_enter Tryz.func87, Tryz.ntmps87
    go_wp2
    refine wp_loop_rounds 1 ?_; rw [rounds_succ]
    go_wp2
    go_ret
    exact ⟨rfl, Below.refl _ _⟩
  · obtain ⟨b, off, rfl, _, hb, hc⟩ := vec_cell1 h (List.length_pos_iff.2 hz)
    have HC := Lib.hid hc; clear hc h hz
    go_enter Tryz.func87, Tryz.ntmps87
    go_wp2_with fail
    go_loopw [7] (fun i wr => ∃ k : Nat, k ≤ L.length ∧ i = .int .i64 k ∧ Below w.heap.size w wr ∧ ∀ j, j < k → titleAt L j = true) (fun i _ => L.length - (intOf i).toNat)
    case atStart => exact ⟨0, by omega, rfl, Below.refl _ _, fun j hj => by omega⟩
    case round =>
      obtain ⟨k, hk, rfl, hbw, ha⟩ := hrel
      have HA := Lib.hid ha; clear ha
      by_cases hlt : k < L.length
      · have hq : decide ((k : Int) < L.length) = true := by simp; omega
        have hi : (k : Int) < (L.length : Int) := by omega
        have c1 : wr.cell? ⟨b, off + k, none⟩ = some (strV (L.getD k [])) := (hbw.cell (p := ⟨b, off + k, none⟩) hb).trans (HC.out k hlt)
        have HW := Lib.hid hbw; clear hbw
        obtain ⟨x, hx⟩ : ∃ x, L.getD k [] = x := ⟨_, rfl⟩
        rw [hx] at c1
        have HX := Lib.hid hx; clear hx
        go_wp2_with fail
        refine (token_any x _).mono ?_
        rintro e w2 ⟨rfl, hb2⟩
        have HW2 := Lib.hid (HW.out.trans (hb2.mono HW.out.size)); clear hb2 HW c1
        cases ht : tokenB x
        · have HT := Lib.hid (show titleAt L k = false by simp only [titleAt]; rw [HX.out, ht]; rfl); clear ht
          go_wp2_with fail
          go_ret
          exact ⟨ret_bool (by rw [titlesB, all_false hlt HT.out]), HW2.out⟩
        · by_cases hk0 : k = 0
          · subst hk0
            have HT := Lib.hid (show titleAt L 0 = true by simp only [titleAt]; rw [HX.out, ht]; rfl)
            clear ht
            go_wp2_with fail
            go_roundw
            case rel => exact ⟨1, by omega, by go_num, HW2.out, fun j hj => by (obtain rfl : j = 0 := by omega); exact HT.out⟩
            case measure => simp [intOf]; omega
          · obtain ⟨m, rfl⟩ : ∃ m, k = m + 1 := ⟨k - 1, by omega⟩
            have c2 : w2.cell? ⟨b, off + m, none⟩ = some (strV (L.getD m [])) := (HW2.out.cell (p := ⟨b, off + m, none⟩) hb).trans (HC.out m (by omega))
            obtain ⟨y, hy⟩ : ∃ y, L.getD m [] = y := ⟨_, rfl⟩
            rw [hy] at c2
            have HT := Lib.hid (show titleAt L (m + 1) = Op.bytesLess y x by simp only [titleAt, Nat.add_sub_cancel]; rw [HX.out, hy, ht]; simp [ltB])
            clear ht hy hk0
            cases hl : Op.bytesLess y x
            · rw [hl] at HT
              go_wp2_with fail
              go_ret
              exact ⟨ret_bool (by rw [titlesB, all_false hlt HT.out]), HW2.out⟩
            · rw [hl] at HT
              go_wp2_with fail
              go_roundw
              case rel => exact ⟨m + 2, by omega, by go_num, HW2.out, fun j hj => by
                by_cases e : j = m + 1
                · subst e; exact HT.out
                · exact HA.out j (by omega)⟩
              case measure => simp [intOf]; omega
      · have hq : decide ((k : Int) < L.length) = false := by simp; omega
        have HW := Lib.hid hbw; clear hbw
        go_wp2_with fail
        go_ret
        exact ⟨ret_bool (by rw [titlesB, all_true fun j hj => HA.out j (by omega)]), HW.out⟩
theorem vec_cell2 {α : Type} [Inhabited α] {enc : α → List Value} {w : World} {S : Nat → Prop} {a : Option Addr} {n cap : Nat} {L : List α} (h : Vec w S 2 enc (.slice a n cap) L) (h0 : 0 < L.length) : ∃ b off, a = some ⟨b, off, none⟩ ∧ S b ∧ b < w.heap.size ∧ ∀ j, j < L.length → ∀ i u, (enc (L.getD j default))[i]? = some u → w.cell? ⟨b, off + j * 2 + i, none⟩ = some u := by
  obtain ⟨a', cap', h1, h2, h3⟩ := h
  cases h1
  obtain ⟨b, off, h4, hS, h5, h6⟩ := h3 h0
  refine ⟨b, off, h4, hS, h5, fun j hj i u hu => ?_⟩
  rw [List.getD, List.getElem?_eq_getElem hj] at hu
  exact h6 j L[j] (List.getElem?_eq_getElem hj) i u hu
/-- a contract that makes memory alone, in whatever world behind w -/
theorem in_regrown {P : Program} {f : FuncId} {args : Array Value} {v : Value} (w : World) (h : ∀ W, Below w.heap.size w W → Calls P f args W fun e w' => e = .returned v ∧ Below W.heap.size W w') :
    ∀ d os, Calls P f args (Sort.grow (redrawn w d) os) fun e w'' => e = .returned v ∧ ∃ p : Regrown, w'' = Sort.grow (redrawn w p.d) p.os := fun d os => Calls.regrown_of (h _ (below_regrown w d os))
theorem find_in (v : Value) (L : List P2) (s : List UInt8) (w : World) (h : Vec w Any1 2 encP v L) (hn : L.length ≤ 1000000) (W : World) (hb : Below w.heap.size w W) : Calls Tryz.prog 122 #[v, strV s] W fun e w' => e = .returned (.int .i64 (findI L s)) ∧ Below W.heap.size W w' :=
  find_any Any1 v L s W (h.below hb) hn
set_option maxHeartbeats 4000000 in
theorem pairs_any (S : Nat → Prop) (v : Value) (L : List P2) (w : World) (h : Vec w S 2 encP v L) (hn : L.length ≤ 1000000) :
    Calls Tryz.prog 88 #[v] w fun e w' => e = .returned (.bool (pairsB L)) ∧ Below w.heap.size w w' := by
  obtain ⟨a, cap, rfl⟩ := h.slice
  by_cases hz : L = []
  · subst hz
    clear h
    go_enter Tryz.func88, Tryz.ntmps88
    go_wp2
    refine wp_loop_rounds 1 ?_; rw [rounds_succ]
    go_wp2
    go_ret
    exact ⟨rfl, Below.refl _ _⟩
  · have HV := Lib.hid h.any
    obtain ⟨b, off, rfl, _, hb, hc⟩ := vec_cell2 h (List.length_pos_iff.2 hz)
    have HC := Lib.hid hc; clear hc h hz
    go_enter Tryz.func88, Tryz.ntmps88
    go_wp2_with fail
    go_loopw [7] (fun i wr => ∃ k : Nat, k ≤ L.length ∧ i = .int .i64 k ∧ Below w.heap.size w wr ∧ ∀ j, j < k → pairAtB L j = true) (fun i _ => L.length - (intOf i).toNat)
    case atStart => exact ⟨0, by omega, rfl, Below.refl _ _, fun j hj => by omega⟩
    case round =>
      obtain ⟨k, hk, rfl, hbw, ha⟩ := hrel
      have HA := Lib.hid ha; clear ha
      by_cases hlt : k < L.length
      · have hq : decide ((k : Int) < L.length) = true := by simp; omega
        have hi : (k : Int) < (L.length : Int) := by omega
        obtain ⟨x, hx⟩ : ∃ x, L.getD k default = x := ⟨_, rfl⟩
        have hc := HC.out k hlt
        rw [hx] at hc
        have c0 : wr.cell? ⟨b, off + k * 2, none⟩ = some (strV x.1) := (hbw.cell (p := ⟨b, off + k * 2, none⟩) hb).trans (hc 0 _ rfl)
        have c1 : wr.cell? ⟨b, off + k * 2 + 1, none⟩ = some (strV x.2) := (hbw.cell (p := ⟨b, off + k * 2 + 1, none⟩) hb).trans (hc 1 _ rfl)
        have HX := Lib.hid hx; clear hx hc
        have HW := Lib.hid hbw; clear hbw
        go_wp2_with fail
        refine wp_world (fun wS hS => ?_)
        obtain ⟨xf, xt⟩ := x
        have bS : Below wr.heap.size wr wS := by rw [hS]; exact (Below.refl _ _).alloc (Nat.le_refl _) _
        have k0 := cell_regrown (show wS.cell? ⟨wr.heap.size, 0, none⟩ = some (strV xf) by rw [hS]; simp)
        have k1 := cell_regrown (show wS.cell? ⟨wr.heap.size, 1, none⟩ = some (strV xt) by rw [hS]; simp)
        have HWS := Lib.hid (HW.out.trans (bS.mono HW.out.size))
        clear bS hS c0 c1 HW
        have cT1 := in_regrown wS (fun W _ => token_any xf W)
        have cT2 := in_regrown wS (fun W _ => token_any xt W)
        have cF := in_regrown wS (find_in _ L xt wS (HV.out.below HWS.out) hn)
        have hpa : pairAtB L k = (tokenB xf && tokenB xt && (decide (k = 0) || ltB (L.getD (k - 1) default).1 xf) && decide (findI L xt < 0)) := by simp only [pairAtB]; rw [HX.out]
        generalize findI L xt = n at *
        cases ht1 : tokenB xf
        · rw [ht1] at cT1 hpa
          have HF := Lib.hid (show pairAtB L k = false by rw [hpa]; rfl)
          clear ht1 hpa
          go_wp2_with fail
          refine wp_region_quiet_below (by kernel_rfl) (by kernel_rfl) ?_
          repeat (go_big_quiet_step (first | with_reducible exact cT1 _ _ | with_reducible exact cT2 _ _ | with_reducible exact cF _ _))
          refine wpQuiet_nil ?_
          intro _ hw'
          obtain ⟨⟨dq, osq⟩, hw''⟩ := hw'
          subst hw''
          have HW3 := Lib.hid (HWS.out.trans ((below_regrown wS dq osq).mono HWS.out.size))
          go_wp2_with fail
          go_ret
          exact ⟨ret_bool (by rw [pairsB, all_false hlt HF.out]), HW3.out⟩
        · rw [ht1] at cT1 hpa
          clear ht1
          cases ht2 : tokenB xt
          · rw [ht2] at cT2 hpa
            have HF := Lib.hid (show pairAtB L k = false by rw [hpa]; rfl)
            clear ht2 hpa
            go_wp2_with fail
            refine wp_region_quiet_below (by kernel_rfl) (by kernel_rfl) ?_
            repeat (go_big_quiet_step (first | with_reducible exact cT1 _ _ | with_reducible exact cT2 _ _ | with_reducible exact cF _ _))
            refine wpQuiet_nil ?_
            intro _ hw'
            obtain ⟨⟨dq, osq⟩, hw''⟩ := hw'
            subst hw''
            have HW3 := Lib.hid (HWS.out.trans ((below_regrown wS dq osq).mono HWS.out.size))
            go_wp2_with fail
            go_ret
            exact ⟨ret_bool (by rw [pairsB, all_false hlt HF.out]), HW3.out⟩
          · rw [ht2] at cT2 hpa
            clear ht2
            by_cases hk0 : k = 0
            · subst hk0
              by_cases hneg : n < 0
              · have HF := Lib.hid (show pairAtB L 0 = true by rw [hpa]; simp [hneg])
                clear hpa
                go_wp2_with fail
                refine wp_region_quiet_below (by kernel_rfl) (by kernel_rfl) ?_
                repeat (go_big_quiet_step (first | with_reducible exact cT1 _ _ | with_reducible exact cT2 _ _ | with_reducible exact cF _ _))
                refine wpQuiet_nil ?_
                intro _ hw'
                obtain ⟨⟨dq, osq⟩, hw''⟩ := hw'
                subst hw''
                have HW3 := Lib.hid (HWS.out.trans ((below_regrown wS dq osq).mono HWS.out.size))
                go_wp2_with fail
                go_roundw
                case rel => exact ⟨1, by omega, by go_num, HW3.out, fun j hj => by
                  by_cases e : j = 0
                  · subst e; exact HF.out
                  · exact HA.out j (by omega)⟩
                case measure => simp [intOf]; omega
              · have HF := Lib.hid (show pairAtB L 0 = false by rw [hpa]; simp [hneg])
                have hnn : 0 ≤ n := by omega
                clear hpa
                go_wp2_with fail
                refine wp_region_quiet_below (by kernel_rfl) (by kernel_rfl) ?_
                repeat (go_big_quiet_step (first | with_reducible exact cT1 _ _ | with_reducible exact cT2 _ _ | with_reducible exact cF _ _))
                refine wpQuiet_nil ?_
                intro _ hw'
                obtain ⟨⟨dq, osq⟩, hw''⟩ := hw'
                subst hw''
                have HW3 := Lib.hid (HWS.out.trans ((below_regrown wS dq osq).mono HWS.out.size))
                go_wp2_with fail
                go_ret
                exact ⟨ret_bool (by rw [pairsB, all_false hlt HF.out]), HW3.out⟩
            · obtain ⟨m, rfl⟩ : ∃ m, k = m + 1 := ⟨k - 1, by omega⟩
              obtain ⟨y, hy⟩ : ∃ y, L.getD m default = y := ⟨_, rfl⟩
              have hcy := HC.out m (by omega)
              rw [hy] at hcy
              have k2 := cell_regrown (show wS.cell? ⟨b, off + m * 2, none⟩ = some (strV y.1) from (HWS.out.cell (p := ⟨b, off + m * 2, none⟩) hb).trans (hcy 0 _ rfl))
              rw [Nat.add_sub_cancel, hy] at hpa
              clear hcy hy hk0
              obtain ⟨yf, yt⟩ := y
              dsimp only at k2 hpa
              unfold ltB at hpa
              cases hl : Op.bytesLess yf xf
              · rw [hl] at hpa
                have HF := Lib.hid (show pairAtB L (m + 1) = false by rw [hpa]; simp)
                clear hpa
                go_wp2_with fail
                refine wp_region_quiet_below (by kernel_rfl) (by kernel_rfl) ?_
                repeat (go_big_quiet_step (first | with_reducible exact cT1 _ _ | with_reducible exact cT2 _ _ | with_reducible exact cF _ _))
                refine wpQuiet_nil ?_
                intro _ hw'
                obtain ⟨⟨dq, osq⟩, hw''⟩ := hw'
                subst hw''
                have HW3 := Lib.hid (HWS.out.trans ((below_regrown wS dq osq).mono HWS.out.size))
                go_wp2_with fail
                go_ret
                exact ⟨ret_bool (by rw [pairsB, all_false hlt HF.out]), HW3.out⟩
              · rw [hl] at hpa
                by_cases hneg : n < 0
                · have HF := Lib.hid (show pairAtB L (m + 1) = true by rw [hpa]; simp [hneg])
                  clear hpa
                  go_wp2_with fail
                  refine wp_region_quiet_below (by kernel_rfl) (by kernel_rfl) ?_
                  repeat (go_big_quiet_step (first | with_reducible exact cT1 _ _ | with_reducible exact cT2 _ _ | with_reducible exact cF _ _))
                  refine wpQuiet_nil ?_
                  intro _ hw'
                  obtain ⟨⟨dq, osq⟩, hw''⟩ := hw'
                  subst hw''
                  have HW3 := Lib.hid (HWS.out.trans ((below_regrown wS dq osq).mono HWS.out.size))
                  go_wp2_with fail
                  go_roundw
                  case rel => exact ⟨m + 2, by omega, by go_num, HW3.out, fun j hj => by
                    by_cases e : j = m + 1
                    · subst e; exact HF.out
                    · exact HA.out j (by omega)⟩
                  case measure => simp [intOf]; omega
                · have HF := Lib.hid (show pairAtB L (m + 1) = false by rw [hpa]; simp [hneg])
                  have hnn : 0 ≤ n := by omega
                  clear hpa
                  go_wp2_with fail
                  refine wp_region_quiet_below (by kernel_rfl) (by kernel_rfl) ?_
                  repeat (go_big_quiet_step (first | with_reducible exact cT1 _ _ | with_reducible exact cT2 _ _ | with_reducible exact cF _ _))
                  refine wpQuiet_nil ?_
                  intro _ hw'
                  obtain ⟨⟨dq, osq⟩, hw''⟩ := hw'
                  subst hw''
                  have HW3 := Lib.hid (HWS.out.trans ((below_regrown wS dq osq).mono HWS.out.size))
                  go_wp2_with fail
                  go_ret
                  exact ⟨ret_bool (by rw [pairsB, all_false hlt HF.out]), HW3.out⟩
      · have hq : decide ((k : Int) < L.length) = false := by simp; omega
        have HW := Lib.hid hbw; clear hbw
        go_wp2_with fail
        go_ret
        exact ⟨ret_bool (by rw [pairsB, all_true fun j hj => HA.out j (by omega)]), HW.out⟩
end Go.Proofs.YtdckkggmmakfiaaGreatDoor
end
section
/- name: Dropped, Canonical, Check. -/
set_option linter.unusedSimpArgs false
set_option linter.unusedVariables false
set_option maxRecDepth 100000
namespace Go.Proofs.YtdckkggmmakfiaaGreatDoor
open Go.RowKit
attribute [local go_sem] toList_mk mk_size
structure RulesL where
  titles : List (List UInt8)
  nicks : List P2
  streets : List P2
def RulesAt (w : World) (S : Nat → Prop) (vt vn vs : Value) (r : RulesL) : Prop := Vec w S 1 encS vt r.titles ∧ Vec w S 2 encP vn r.nicks ∧ Vec w S 2 encP vs r.streets
theorem RulesAt.below {w w' : World} {S : Nat → Prop} {vt vn vs : Value} {r : RulesL} (h : RulesAt w S vt vn vs r) (hb : Below w.heap.size w w') : RulesAt w' S vt vn vs r := ⟨h.1.below hb, h.2.1.below hb, h.2.2.below hb⟩
theorem RulesAt.any {w : World} {S : Nat → Prop} {vt vn vs : Value} {r : RulesL} (h : RulesAt w S vt vn vs r) : RulesAt w Any1 vt vn vs r := ⟨h.1.any, h.2.1.any, h.2.2.any⟩
def hasB (L : List (List UInt8)) (s : List UInt8) : Bool := L.any fun x => x == s
theorem mkS_inj {a b : List UInt8} (h : mkS a = mkS b) : a = b := by
  have := congrArg (fun s : ByteArray => s.data.toList) h
  simpa [mkS] using this
theorem contains_has (L : List (List UInt8)) (s : List UInt8) : Lib.containsS (L.map mkS) (mkS s) = hasB L s := by
  rw [Bool.eq_iff_iff, Lib.containsS_iff]
  unfold hasB
  rw [List.any_eq_true]
  constructor
  · intro h
    obtain ⟨x, hx, he⟩ := List.mem_map.1 h
    have : x = s := mkS_inj he
    subst this
    exact ⟨x, hx, by simp⟩
  · rintro ⟨x, hx, he⟩
    have : x = s := by simpa using he
    subst this
    exact List.mem_map.2 ⟨x, hx, rfl⟩
theorem contains_any (S : Nat → Prop) (v : Value) (L : List (List UInt8)) (s : List UInt8) (w : World) (h : Vec w S 1 encS v L) (hn : L.length ≤ 1000000) :
    Calls Tryz.prog 47 #[v, strV s] w fun e w' => e = .returned (.bool (hasB L s)) ∧ w = w' := by
  obtain ⟨a, cap, rfl⟩ := h.slice
  by_cases hz : L = []
  · subst hz
    exact (Tryz.slices_Contains_string_empty a cap (mkS s) w).mono fun e w' ⟨he, hw⟩ => ⟨he, hw.symm⟩
  · obtain ⟨b, off, rfl, _, hb, hc⟩ := vec_cell1 h (List.length_pos_iff.2 hz)
    have := Tryz.slices_Contains_string b off L.length cap (L.map mkS) (mkS s) w (by simp) (by omega) (fun j hj => by
      have hj' : j < L.length := by simpa using hj
      rw [hc j hj', List.getD, List.getD, List.getElem?_map, List.getElem?_eq_getElem hj']; rfl)
    rw [List.take_of_length_le (by simp), contains_has] at this
    exact this.mono fun e w' ⟨he, hw⟩ => ⟨he, hw.symm⟩
set_option maxHeartbeats 400000 in
theorem dropped_any (S : Nat → Prop) (vt vn vs : Value) (L : List (List UInt8)) (s : List UInt8) (w : World) (h : Vec w S 1 encS vt L) (hn : L.length ≤ 1000000) :
    Calls Tryz.prog 91 #[.agg #[vt, vn, vs], strV s] w fun e w' => e = .returned (.bool (hasB L s)) ∧ Below w.heap.size w w' := by
  have HV := Lib.hid h; clear h
  go_enter Tryz.func91, Tryz.ntmps91
  go_wp2_with fail
  refine (contains_any S vt L s _ (HV.out.below ((Below.refl _ _).alloc (Nat.le_refl _) _)) hn).mono ?_
  rintro e w1 ⟨rfl, rfl⟩
  go_wp2_with fail
  go_ret
  exact ⟨rfl, (Below.refl _ _).alloc (Nat.le_refl _) _⟩
theorem pred_check (vt vn vs : Value) (L : List (List UInt8)) (B : Nat) (w : World) (hL : Vec w Any1 1 encS vt L) (hn : L.length ≤ 1000000) (hB : B < w.heap.size) (h0 : w.cell? ⟨B, 0, none⟩ = some vt) (h1 : w.cell? ⟨B, 1, none⟩ = some vn) (h2 : w.cell? ⟨B, 2, none⟩ = some vs) :
    PredBelow Tryz.prog 90 #[.pointer (some ⟨B, 0, none⟩)] (fun x => .agg (encP x).toArray) (fun x => hasB L x.2) w := fun W x hb => by
  have c0 : W.cell? ⟨B, 0, none⟩ = some vt := (hb.cell (p := ⟨B, 0, none⟩) hB).trans h0
  have c1 : W.cell? ⟨B, 1, none⟩ = some vn := (hb.cell (p := ⟨B, 1, none⟩) hB).trans h1
  have c2 : W.cell? ⟨B, 2, none⟩ = some vs := (hb.cell (p := ⟨B, 2, none⟩) hB).trans h2
  have hBW : B < W.heap.size := Nat.lt_of_lt_of_le hB hb.size
  have hne : B ≠ W.heap.size := by omega
  have HV := Lib.hid (hL.below hb)
  have HBb := Lib.hid hb; clear hb h0 h1 h2 hL
  obtain ⟨xf, xt⟩ := x
  show Calls Tryz.prog 90 #[.agg #[strV xf, strV xt], .pointer (some ⟨B, 0, none⟩)] W _
  go_enter Tryz.func90, Tryz.ntmps90
  go_wp2_with fail
  refine (dropped_any Any1 vt vn vs L xt _ (HV.out.below ((Below.refl _ _).alloc (Nat.le_refl _) _)) hn).mono ?_
  rintro e w1 ⟨rfl, hb1⟩
  go_wp2_with fail
  go_ret
  exact ⟨rfl, (HBb.out.alloc HBb.out.size _).trans (hb1.mono (by have := HBb.out.size; simp; omega))⟩
set_option maxHeartbeats 400000 in
theorem contP_nil (a : Option Addr) (c : Nat) (f : Value) (w : World) :
    Calls Tryz.prog 89 #[.slice a 0 c, f] w fun e w' => e = .returned (.bool false) ∧ w = w' := by
  go_enter Tryz.func89, Tryz.ntmps89
  go_wp2_with fail
  refine (idxP_nil a c _ _).mono ?_
  rintro e w1 ⟨rfl, rfl⟩
  go_wp2_with fail
  go_ret
  exact ⟨rfl, rfl⟩
theorem contP_any (p : P2 → Bool) (g : Nat) (lb : Array Value) (eg : ∀ args w, (callFunc g args).run Tryz.prog w = .ok (.enter g args) w) (S : Nat → Prop) (v : Value) (L : List P2) (w : World) (h : Vec w S 2 encP v L) (hn : L.length ≤ 1000000) (hp : PredBelow Tryz.prog g lb (fun x => .agg (encP x).toArray) p w) :
    Calls Tryz.prog 89 #[v, .func (.func g) #[] lb] w fun e w' => e = .returned (.bool (L.any p)) ∧ Below w.heap.size w w' := by
  obtain ⟨a, cap, rfl, hcap, h0⟩ := h
  by_cases hz : L = []
  · subst hz
    exact (contP_nil a cap _ w).mono fun e w' ⟨he, hw⟩ => ⟨he, by rw [← hw]; exact Below.refl _ _⟩
  · obtain ⟨b, off, rfl, _, hb, hc⟩ := h0 (List.length_pos_iff.2 hz)
    have hcon := AnyQ.slices_ContainsFunc Tryz.laysCP 2 Tryz.isAgg92 Tryz.sizeOf92 encP (fun _ => rfl) p g lb eg b off L.length cap L w hp (Nat.le_refl _) (by omega) hb (fun j hj i u hi => by
        have e : L[j]? = some L[j]! := by rw [List.getElem?_eq_getElem hj, getElem!_pos L j hj]
        exact hc j _ e i u hi)
    rw [List.take_of_length_le (Nat.le_refl _)] at hcon
    exact hcon
def checkR (r : RulesL) : Int :=
  if 32 < r.titles.length ∨ 32 < r.nicks.length ∨ 32 < r.streets.length then 1
  else if titlesB r.titles = true ∧ pairsB r.nicks = true ∧ pairsB r.streets = true then (if (r.nicks.any fun x => hasB r.titles x.2) = true then 5 else 0) else 5
set_option maxHeartbeats 2000000 in
theorem rcheck_any (S : Nat → Prop) (vt vn vs : Value) (r : RulesL) (w : World) (h : RulesAt w S vt vn vs r) :
    Calls Tryz.prog 59 #[.agg #[vt, vn, vs]] w fun e w' => e = .returned (.int .i64 (checkR r)) ∧ Below w.heap.size w w' := by
  obtain ⟨lt, ln, ls⟩ := r
  obtain ⟨h1, h2, h3⟩ := h
  dsimp only at h1 h2 h3
  obtain ⟨at1, ct, rfl⟩ := h1.slice
  obtain ⟨an, cn, rfl⟩ := h2.slice
  obtain ⟨as', cs, rfl⟩ := h3.slice
  have H1 := Lib.hid h1.any; have H2 := Lib.hid h2.any; have H3 := Lib.hid h3.any
  clear h1 h2 h3
  have hfin : ∀ n : Int, checkR ⟨lt, ln, ls⟩ = n → Ending.returned (.int .i64 n) = .returned (.int .i64 (checkR ⟨lt, ln, ls⟩)) := fun n h => by rw [h]
  have HF := Lib.hid hfin; clear hfin
  by_cases g1 : 32 < lt.length
  · have e1 : decide ((32 : Int) < lt.length) = true := by simp; omega
    go_enter Tryz.func59, Tryz.ntmps59
    go_wp2_with fail
    go_ret
    exact ⟨HF.out 1 (by unfold checkR; rw [if_pos (.inl g1)]), (Below.refl _ _).alloc (Nat.le_refl _) _⟩
  · have e1 : decide ((32 : Int) < lt.length) = false := by simp; omega
    by_cases g2 : 32 < ln.length
    · have e2 : decide ((32 : Int) < ln.length) = true := by simp; omega
      go_enter Tryz.func59, Tryz.ntmps59
      go_wp2_with fail
      go_ret
      exact ⟨HF.out 1 (by unfold checkR; rw [if_pos (.inr (.inl g2))]), (Below.refl _ _).alloc (Nat.le_refl _) _⟩
    · have e2 : decide ((32 : Int) < ln.length) = false := by simp; omega
      by_cases g3 : 32 < ls.length
      · have e3 : decide ((32 : Int) < ls.length) = true := by simp; omega
        go_enter Tryz.func59, Tryz.ntmps59
        go_wp2_with fail
        go_ret
        exact ⟨HF.out 1 (by unfold checkR; rw [if_pos (.inr (.inr g3))]), (Below.refl _ _).alloc (Nat.le_refl _) _⟩
      · have e3 : decide ((32 : Int) < ls.length) = false := by simp; omega
        go_enter Tryz.func59, Tryz.ntmps59
        go_wp2_with fail
        clear e1 e2 e3
        refine (titles_any Any1 _ lt _ (H1.out.below ((Below.refl _ _).alloc (Nat.le_refl _) _)) (by omega)).mono ?_
        rintro e w1 ⟨rfl, hb1⟩
        have X1 : w1.heap[w.heap.size]? = some (.cells #[.slice at1 lt.length ct, .slice an ln.length cn, .slice as' ls.length cs] 31 (0, 0)) := blk_below hb1 (by simp) (blk_new rfl)
        obtain ⟨p0, p1, p2⟩ := cells3 X1
        have z1 := lt_of_blk X1
        have HB1 := Lib.hid (((Below.refl w.heap.size w).alloc (Nat.le_refl _) _).trans (hb1.mono (by simp)))
        have HX1 := Lib.hid X1; clear X1 hb1
        cases ht : titlesB lt
        · have HT := Lib.hid ht; clear ht
          go_wp2_with fail
          go_ret
          exact ⟨HF.out 5 (by unfold checkR; rw [if_neg (show ¬ (32 < lt.length ∨ 32 < ln.length ∨ 32 < ls.length) by omega), HT.out]; simp), HB1.out⟩
        · have HT := Lib.hid ht; clear ht
          go_wp2_with fail
          refine (pairs_any Any1 _ ln _ (H2.out.below HB1.out) (by omega)).mono ?_
          rintro e w2 ⟨rfl, hb2⟩
          clear p0 p1 p2
          have X2 := blk_below hb2 z1 HX1.out
          obtain ⟨p0, p1, p2⟩ := cells3 X2
          have z2 := lt_of_blk X2
          have HB2 := Lib.hid (HB1.out.trans (hb2.mono HB1.out.size))
          have HX2 := Lib.hid X2; clear X2 hb2 HX1 HB1
          cases hp : pairsB ln
          · have HP := Lib.hid hp; clear hp
            go_wp2_with fail
            go_ret
            exact ⟨HF.out 5 (by unfold checkR; rw [if_neg (show ¬ (32 < lt.length ∨ 32 < ln.length ∨ 32 < ls.length) by omega), HP.out]; simp), HB2.out⟩
          · have HP := Lib.hid hp; clear hp
            go_wp2_with fail
            refine (pairs_any Any1 _ ls _ (H3.out.below HB2.out) (by omega)).mono ?_
            rintro e w3 ⟨rfl, hb3⟩
            clear p0 p1 p2
            have X3 := blk_below hb3 z2 HX2.out
            obtain ⟨p0, p1, p2⟩ := cells3 X3
            have z3 := lt_of_blk X3
            have HB3 := Lib.hid (HB2.out.trans (hb3.mono HB2.out.size))
            have HX3 := Lib.hid X3; clear X3 hb3 HX2 HB2
            cases hq : pairsB ls
            · have HQ := Lib.hid hq; clear hq
              go_wp2_with fail
              go_ret
              exact ⟨HF.out 5 (by unfold checkR; rw [if_neg (show ¬ (32 < lt.length ∨ 32 < ln.length ∨ 32 < ls.length) by omega), HQ.out]; simp), HB3.out⟩
            · have HQ := Lib.hid hq; clear hq
              go_wp2_with fail
              have eg : ∀ args w, (callFunc 90 args).run Tryz.prog w = .ok (.enter 90 args) w := enters_of Tryz.func90 (by kernel_rfl) rfl
              refine (contP_any (fun x => hasB lt x.2) 90 #[.pointer (some ⟨w.heap.size, 0, none⟩)] eg Any1 _ ln _ (H2.out.below HB3.out) (by omega) (pred_check _ _ _ lt w.heap.size _ (H1.out.below HB3.out) (by omega) z3 p0 p1 p2)).mono ?_
              rintro e w4 ⟨rfl, hb4⟩
              have HB4 := Lib.hid (HB3.out.trans (hb4.mono HB3.out.size))
              clear hb4 eg p0 p1 p2
              cases hr : ln.any fun x => hasB lt x.2
              · have HR := Lib.hid hr; clear hr
                go_wp2_with fail
                go_ret
                exact ⟨HF.out 0 (by unfold checkR; rw [if_neg (show ¬ (32 < lt.length ∨ 32 < ln.length ∨ 32 < ls.length) by omega), if_pos ⟨HT.out, HP.out, HQ.out⟩, if_neg (by rw [HR.out]; simp)]), HB4.out⟩
              · have HR := Lib.hid hr; clear hr
                go_wp2_with fail
                go_ret
                exact ⟨HF.out 5 (by unfold checkR; rw [if_neg (show ¬ (32 < lt.length ∨ 32 < ln.length ∨ 32 < ls.length) by omega), if_pos ⟨HT.out, HP.out, HQ.out⟩, if_pos HR.out]), HB4.out⟩
end Go.Proofs.YtdckkggmmakfiaaGreatDoor
end
section
/- name: Canonical, Normalise, Normal. -/
set_option linter.unusedSimpArgs false
set_option linter.unusedVariables false
set_option maxRecDepth 100000
namespace Go.Proofs.YtdckkggmmakfiaaGreatDoor
open Go.RowKit
attribute [local go_sem] toList_mk mk_size
/-- what a token becomes by rules -/
def canonL : List P2 → List UInt8 → List UInt8
  | [], s => s
  | p :: L, s => if p.1 == s then p.2 else canonL L s
theorem canon_from (s : List UInt8) : ∀ (L : List P2) (i : Nat), (Lib.idxByFrom (fun _ (y : P2) => y.1 == s) default L i < 0 ∧ canonL L s = s) ∨ (∃ k, k < L.length ∧ Lib.idxByFrom (fun _ (y : P2) => y.1 == s) default L i = ((i + k : Nat) : Int) ∧ (L.getD k default).2 = canonL L s) := by
  intro L
  induction L with
  | nil => intro i; left; simp [Lib.idxByFrom, canonL]
  | cons p L ih =>
    intro i
    cases h : p.1 == s
    · simp only [Lib.idxByFrom, canonL, h]
      rcases ih (i + 1) with ⟨h1, h2⟩ | ⟨k, h1, h2, h3⟩
      · left; exact ⟨by simpa using h1, by simpa using h2⟩
      · right
        refine ⟨k + 1, by simp; omega, ?_, by simpa using h3⟩
        simp only [Bool.false_eq_true, if_false]
        rw [h2]; congr 1; omega
    · right
      exact ⟨0, by simp, by simp [Lib.idxByFrom, h], by simp [canonL, h]⟩
theorem canon_find (L : List P2) (s : List UInt8) : (findI L s < 0 ∧ canonL L s = s) ∨ (∃ k, k < L.length ∧ findI L s = (k : Int) ∧ (L.getD k default).2 = canonL L s) := by
  have := canon_from s L 0
  simpa [findI, Lib.idxBy] using this
set_option maxHeartbeats 1000000 in
theorem canonical_any (S : Nat → Prop) (vt vn vs : Value) (L : List P2) (s : List UInt8) (w : World) (h : Vec w S 2 encP vn L) (hn : L.length ≤ 1000000) :
    Calls Tryz.prog 162 #[.agg #[vt, vn, vs], strV s] w fun e w' => e = .returned (strV (canonL L s)) ∧ Below w.heap.size w w' := by
  obtain ⟨an, cn, rfl⟩ := h.slice
  have HV := Lib.hid h; clear h
  have hcf := canon_find L s
  go_enter Tryz.func162, Tryz.ntmps162
  go_wp2_with fail
  refine (find_any S _ L s _ (HV.out.below ((Below.refl _ _).alloc (Nat.le_refl _) _)) hn).mono ?_
  rintro e w1 ⟨rfl, hb1⟩
  have X1 : w1.heap[w.heap.size]? = some (.cells #[vt, .slice an L.length cn, vs] 31 (0, 0)) := blk_below hb1 (by simp) (blk_new rfl)
  obtain ⟨p0, p1, p2⟩ := cells3 X1
  have HB1 := Lib.hid (((Below.refl w.heap.size w).alloc (Nat.le_refl _) _).trans (hb1.mono (by simp)))
  clear X1 hb1
  rcases hcf with ⟨h1, h2⟩ | ⟨k, hk, h1, h2⟩
  · have H2 := Lib.hid h2; clear h2
    generalize findI L s = n at *
    go_wp2_with fail
    go_ret
    exact ⟨by rw [H2.out]; rfl, HB1.out⟩
  · rw [h1]
    obtain ⟨b, off, rfl, _, hb, hc⟩ := vec_cell2 HV.out (by omega)
    have hc1 := hc k hk 1 _ rfl
    rw [h2] at hc1
    have c1 : w1.cell? ⟨b, off + k * 2 + 1, none⟩ = some (strV (canonL L s)) := (HB1.out.cell (p := ⟨b, off + k * 2 + 1, none⟩) hb).trans hc1
    clear hc hc1 h1 h2
    have hk' : (k : Int) < (L.length : Int) := by omega
    obtain ⟨y, hy⟩ : ∃ y, canonL L s = y := ⟨_, rfl⟩
    rw [hy] at c1
    have HY := Lib.hid hy; clear hy
    go_wp2_with fail
    go_ret
    exact ⟨by rw [HY.out]; rfl, HB1.out⟩
theorem infoS : (Tryz.prog.info? 9).map (fun i => (i.zero, i.size, i.bytes)) = some (some (.string ⟨#[]⟩), 1, 16) := by kernel_rfl
/-- what becomes of a token: nothing, or one -/
def normTok (r : RulesL) (t : List UInt8) : List (List UInt8) := if (lettersL t).isEmpty || hasB r.titles (lettersL t) then [] else [canonL r.nicks (lettersL t)]
def nameToks (r : RulesL) (L : List (List UInt8)) : List (List UInt8) := L.flatMap (normTok r)
/-- the normal form of a name, and the error -/
def nameN (r : RulesL) (l : List UInt8) : List UInt8 × Int :=
  if checkR r = 0 then (if foldV l = true then (if 6 < (nameToks r (toks (foldL l))).length ∨ 64 < (joinL (nameToks r (toks (foldL l)))).length then ([], 1) else (joinL (nameToks r (toks (foldL l))), 0)) else ([], 3)) else ([], checkR r)
def pairV (p : List UInt8 × Int) : Value := .tuple #[strV p.1, .int .i64 p.2]
theorem nameToks_snoc (r : RulesL) (L : List (List UInt8)) (t : List UInt8) : nameToks r (L ++ [t]) = nameToks r L ++ normTok r t := by simp [nameToks]
theorem normTok_len (r : RulesL) (t : List UInt8) : (normTok r t).length ≤ 1 := by unfold normTok; split <;> simp
theorem nameToks_len (r : RulesL) (L : List (List UInt8)) : (nameToks r L).length ≤ L.length := by
  induction L with
  | nil => simp [nameToks]
  | cons t L ih =>
    have := normTok_len r t
    simp only [nameToks, List.flatMap_cons, List.length_append, List.length_cons] at *
    omega
theorem check_zero {r : RulesL} (h : checkR r = 0) : (r.titles.length ≤ 32 ∧ r.nicks.length ≤ 32 ∧ r.streets.length ≤ 32) ∧ titlesB r.titles = true ∧ pairsB r.nicks = true ∧ pairsB r.streets = true ∧ (r.nicks.any fun x => hasB r.titles x.2) = false := by
  unfold checkR at h
  split at h
  · omega
  · split at h
    · rename_i h1 h2
      split at h
      · omega
      · rename_i h3
        exact ⟨by omega, h2.1, h2.2.1, h2.2.2, by simpa using h3⟩
    · omega
theorem pairs_at {L : List P2} (h : pairsB L = true) (j : Nat) (hj : j < L.length) : pairAtB L j = true := List.all_eq_true.1 h j (List.mem_range.2 hj)
theorem token_len {t : List UInt8} (h : tokenB t = true) : t.length ≤ 64 := by
  unfold tokenB at h
  cases h1 : t.isEmpty <;> simp [h1] at h
  exact h.1
theorem canon_len {L : List P2} (h : pairsB L = true) (s : List UInt8) (hs : s.length ≤ 64) : (canonL L s).length ≤ 64 := by
  rcases canon_find L s with ⟨_, h2⟩ | ⟨k, hk, _, h3⟩
  · rw [h2]; exact hs
  · rw [← h3]
    have := pairs_at h k hk
    unfold pairAtB at this
    simp only [Bool.and_eq_true] at this
    exact token_len this.1.1.2
theorem join_le {m : Nat} : ∀ (L : List (List UInt8)), (∀ t ∈ L, t.length ≤ m) → (joinL L).length ≤ L.length * (m + 1) := by
  intro L
  induction L with
  | nil => intro _; simp [joinL]
  | cons t L ih =>
    intro h
    have h1 := ih fun t ht => h t (List.mem_cons_of_mem _ ht)
    have h2 := h t List.mem_cons_self
    by_cases hL : L = []
    · subst hL; simp [joinL]; omega
    · rw [join_cons_ne _ _ hL]
      simp only [List.length_append, List.length_cons, List.length_nil, Nat.succ_mul] at *
      omega
theorem toks_le (l : List UInt8) : ∀ p, ∀ t ∈ toksA p l, t.length ≤ p.length + l.length := by
  induction l with
  | nil =>
    intro p t ht
    simp only [toksA] at ht
    split at ht
    · simp at ht
    · simp at ht; subst ht; simp
  | cons c l ih =>
    intro p t ht
    by_cases hc : c = 32
    · subst hc
      by_cases hp : p = []
      · subst hp
        rw [toksA_sp0] at ht
        have := ih [] t ht
        simp at *; omega
      · rw [toksA_sp _ _ hp] at ht
        rcases List.mem_cons.1 ht with rfl | ht
        · simp
        · have := ih [] t ht
          simp at *; omega
    · rw [toksA_ch _ _ _ hc] at ht
      have := ih _ t ht
      simp at *; omega
theorem nameToks_le {r : RulesL} (h : pairsB r.nicks = true) {L : List (List UInt8)} (hL : ∀ t ∈ L, t.length ≤ 64) : ∀ t ∈ nameToks r L, t.length ≤ 64 := by
  intro t ht
  obtain ⟨x, hx, ht⟩ := List.mem_flatMap.1 ht
  unfold normTok at ht
  split at ht
  · simp at ht
  · simp at ht; subst ht
    exact canon_len h _ (Nat.le_trans (letters_len x) (hL x hx))
end Go.Proofs.YtdckkggmmakfiaaGreatDoor
end
section
/- name.Normalise, Normal. -/
set_option linter.unusedSimpArgs false
set_option linter.unusedVariables false
set_option maxRecDepth 100000
namespace Go.Proofs.YtdckkggmmakfiaaGreatDoor
open Go.RowKit
attribute [local go_sem] toList_mk mk_size
theorem join_mem (L : List (List UInt8)) : ∀ b ∈ joinL L, b = 32 ∨ ∃ t ∈ L, b ∈ t := by
  induction L with
  | nil => intro b hb; simp [joinL] at hb
  | cons t L ih =>
    intro b hb
    by_cases hL : L = []
    · subst hL; exact .inr ⟨t, by simp, by simpa [joinL] using hb⟩
    · rw [join_cons_ne _ _ hL] at hb
      rcases List.mem_append.1 hb with hb | hb
      · rcases List.mem_append.1 hb with hb | hb
        · exact .inr ⟨t, by simp, hb⟩
        · simp at hb; exact .inl hb
      · rcases ih b hb with h | ⟨x, hx, h⟩
        · exact .inl h
        · exact .inr ⟨x, List.mem_cons_of_mem _ hx, h⟩
theorem fold_ok (l : List UInt8) : ∀ b ∈ foldL l, okB b = true := by
  intro b hb
  rcases join_mem _ b hb with h | ⟨t, ht, hbt⟩
  · subst h; rfl
  · rcases toksA_mem _ [] t ht b hbt with h | h
    · simp at h
    · exact (raw_ok l).1 b h.1
theorem fold_ascii (l : List UInt8) : ascii (foldL l) := fun b hb => okB_lt (fold_ok l b hb)
theorem foldV_len {l : List UInt8} (h : foldV l = true) : l.length ≤ 64 := by
  unfold foldV at h; simp at h; exact h.2
theorem own_below {w w' : World} {B e size n : Nat} {v : Value} {xs : List Value} (h : w.ownsRow B e size v n xs) (hb : Below w.heap.size w w') : w'.ownsRow B e size v n xs := by
  refine ⟨h.1, ?_⟩
  rcases h.2 with h0 | ⟨g, cap, cur, hv, hg, hh, rest⟩
  · exact .inl h0
  · exact .inr ⟨g, cap, cur, hv, hg, (hb.block g (lt_of_blk hh)).trans hh, rest⟩
theorem TL_get {T : List (List UInt8)} (h : ∀ t ∈ T, t.length ≤ 64) (k : Nat) (hk : k < T.length) : (T.getD k []).length ≤ 64 := by
  rw [List.getD, List.getElem?_eq_getElem hk]; exact h _ (List.getElem_mem hk)
/-- a row of texts that the call owns, beside what lay in w4 -/
def OwnAt (w4 : World) (v : Value) (L : List (List UInt8)) (wr : World) : Prop :=
  wr.ownsRow w4.heap.size 9 1 v L.length (L.flatMap encS) ∧ Below w4.heap.size w4 wr
theorem OwnAt.below {w4 wr w' : World} {v : Value} {L : List (List UInt8)} (h : OwnAt w4 v L wr) (hb : Below wr.heap.size wr w') : OwnAt w4 v L w' :=
  ⟨own_below h.1 hb, h.2.trans (hb.mono h.2.size)⟩
theorem OwnAt.start (w4 : World) : OwnAt w4 (.slice none 0 0) [] w4 := ⟨⟨rfl, .inl ⟨rfl, rfl⟩⟩, Below.refl _ _⟩
theorem flat_snoc (L : List (List UInt8)) (y : List UInt8) : (L ++ [y]).flatMap encS = L.flatMap encS ++ [strV y] := by simp
set_option maxHeartbeats 4000000 in
theorem norm_yes (S : Nat → Prop) (vt vn vs : Value) (r : RulesL) (s : ByteArray) (w : World) (h : RulesAt w S vt vn vs r) (hc : checkR r = 0) (hv : foldV s.data.toList = true) :
    Calls Tryz.prog 142 #[.agg #[vt, vn, vs], .string s] w fun e w' => e = .returned (pairV (nameN r s.data.toList)) ∧ Below w.heap.size w w' := by
  have hs : s.size ≤ 64 := by
    have := foldV_len hv
    have h2 : s.data.toList.length = s.size := by simp
    omega
  obtain ⟨⟨k1, k2, k3⟩, g1, g2, g3, g4⟩ := check_zero hc
  have G2 := Lib.hid g2
  have HR := Lib.hid h.any
  have HC := Lib.hid hc; have HV := Lib.hid hv
  clear h hc hv g1 g2 g3 g4
  have hfin : nameN r s.data.toList = (if 6 < (nameToks r (toks (foldL s.data.toList))).length ∨ 64 < (joinL (nameToks r (toks (foldL s.data.toList)))).length then ([], 1) else (joinL (nameToks r (toks (foldL s.data.toList))), 0)) := by
    unfold nameN; rw [if_pos HC.out, if_pos HV.out]
  have HF := Lib.hid hfin; clear hfin
  go_enter Tryz.func142, Tryz.ntmps142
  go_wp2_with fail
  refine (rcheck_any Any1 vt vn vs r _ (HR.out.below ((Below.refl _ _).alloc (Nat.le_refl _) _))).mono ?_
  rw [HC.out]
  rintro e w1 ⟨rfl, hb1⟩
  have X1 : w1.heap[w.heap.size]? = some (.cells #[vt, vn, vs] 31 (0, 0)) := blk_below hb1 (by simp) (blk_new rfl)
  have HX1 := Lib.hid X1
  have HB1 := Lib.hid (((Below.refl w.heap.size w).alloc (Nat.le_refl _) _).trans (hb1.mono (by simp)))
  clear X1 hb1
  go_wp2_with fail
  refine (fold_yes s _ (by omega) HV.out).mono ?_
  rintro e w2 ⟨rfl, hb2⟩
  have HX2 := Lib.hid (blk_below hb2 (lt_of_blk HX1.out) HX1.out)
  have HB2 := Lib.hid (HB1.out.trans (hb2.mono HB1.out.size))
  clear hb2 HX1 HB1
  go_wp2_with fail
  have hfl : (foldL s.data.toList).length ≤ 64 := by
    have := fold_len s.data.toList
    have h2 : s.data.toList.length = s.size := by simp
    omega
  obtain ⟨fl, hfl'⟩ : ∃ fl, foldL s.data.toList = fl := ⟨_, rfl⟩
  have hasc : ascii fl := hfl' ▸ fold_ascii _
  have HA := Lib.hid hasc
  rw [hfl'] at hfl HF ⊢
  clear hasc hfl'
  refine (tokens_any fl _ HA.out (by omega)).mono ?_
  rintro e w4 ⟨A, rfl, hA, ho, hb4⟩
  have HX4 := Lib.hid (blk_below hb4 (lt_of_blk HX2.out) HX2.out)
  have HB4 := Lib.hid (HB2.out.trans (hb4.mono HB2.out.size))
  have hV := Vec.owns (S := Any1) (k := 1) (enc := encS) (fun _ => rfl) ho (fun _ _ _ => trivial)
  have htl : ∀ t ∈ toks fl, t.length ≤ 64 := fun t ht => by have := toks_le fl [] t ht; simp at this; omega
  have htn : (toks fl).length ≤ 65 := by have := (toksA_len fl []).2.1; unfold toks; omega
  obtain ⟨T, hT⟩ : ∃ T, toks fl = T := ⟨_, rfl⟩
  rw [hT] at hV htl htn HF ⊢
  have HV4 := Lib.hid hV; have HTL := Lib.hid htl
  clear hb4 HX2 HB2 ho hV hT htl hA
  go_wp2_with fail
  go_loopw [9, 29] (fun v i wr => ∃ k : Nat, k ≤ T.length ∧ i = .int .i64 k ∧ OwnAt w4 v (nameToks r (T.take k)) wr) (fun _ i _ => T.length - (intOf i).toNat)
  case atStart => exact ⟨0, by omega, rfl, OwnAt.start w4⟩
  case round =>
    obtain ⟨k, hk, rfl, ho⟩ := hrel
    by_cases hlt : k < T.length
    · have hq : decide ((k : Int) < T.length) = true := by simp; omega
      have hi : (k : Int) < (T.length : Int) := by omega
      obtain ⟨b, off, e1, _, hb, hcx⟩ := vec_cell1 HV4.out (by omega)
      cases e1
      have htk : T.take (k + 1) = T.take k ++ [T.getD k []] := by
        rw [List.take_succ_eq_append_getElem hlt, List.getD, List.getElem?_eq_getElem hlt]; rfl
      have hxl : (T.getD k []).length ≤ 64 := TL_get HTL.out k hlt
      have hcx' := hcx k hlt
      obtain ⟨x, hx⟩ : ∃ x, T.getD k [] = x := ⟨_, rfl⟩
      rw [hx] at htk hxl hcx'
      have c1 : wr.cell? ⟨A, k, none⟩ = some (strV x) := by
        have := (ho.2.cell (p := ⟨A, 0 + k, none⟩) hb).trans hcx'
        simpa using this
      have HT := Lib.hid htk; have HO := Lib.hid ho
      have hnl := nameToks_len r (T.take k)
      have hnl2 : (nameToks r (T.take k)).length < 1099511627776 := by have := List.length_take_le k T; omega
      clear hx htk hcx hcx' ho hnl
      go_wp2_with fail
      refine (letters_any (mkS x) _ (by rw [show (mkS x).size = x.length from mk_size x]; omega)).mono ?_
      rw [show (mkS x).data.toList = x by simp [mkS]]
      rintro e w5 ⟨rfl, hb5⟩
      have HO5 := Lib.hid (HO.out.below hb5)
      have hX5 := blk_below (HO5.out.2) (lt_of_blk HX4.out) HX4.out
      clear HO hb5
      have HNT := Lib.hid (show normTok r x = if (lettersL x).isEmpty || hasB r.titles (lettersL x) then [] else [canonL r.nicks (lettersL x)] from rfl)
      have hyl := letters_len x
      obtain ⟨y, hy⟩ : ∃ y, lettersL x = y := ⟨_, rfl⟩
      rw [hy] at HNT hyl ⊢
      clear hy
      have HX5 := Lib.hid hX5
      obtain ⟨p0, p1, p2⟩ := cells3 hX5
      clear hX5
      by_cases hye : y = []
      · have e1 : (y == []) = true := by simpa using hye
        have e2 : y.isEmpty = true := by simpa using hye
        have HN := Lib.hid (show normTok r x = [] by rw [HNT.out, e2]; rfl)
        clear hye HNT
        go_wp2_with fail
        go_roundw
        case rel => exact ⟨k + 1, by omega, by go_num, by rw [HT.out, nameToks_snoc, HN.out, List.append_nil]; exact HO5.out⟩
        case measure => simp [intOf]; omega
      · have e1 : (y == []) = false := by simpa using hye
        have e2 : y.isEmpty = false := by simpa using hye
        rw [e2, Bool.false_or] at HNT
        clear hye
        go_wp2_with fail
        refine (dropped_any Any1 vt vn vs r.titles y _ (HR.out.1.below (HB4.out.trans (HO5.out.2.mono HB4.out.size))) (by omega)).mono ?_
        rintro e w6 ⟨rfl, hb6⟩
        have HO6 := Lib.hid (HO5.out.below hb6)
        have hX6 := blk_below hb6 (lt_of_blk HX5.out) HX5.out
        clear p0 p1 p2 HX5 hb6 HO5
        obtain ⟨p0, p1, p2⟩ := cells3 hX6
        have HX6 := Lib.hid hX6; clear hX6
        cases hd : hasB r.titles y
        · have HN := Lib.hid (show normTok r x = [canonL r.nicks y] by rw [HNT.out, hd]; rfl)
          clear hd HNT
          go_wp2_with fail
          refine (canonical_any Any1 vt vn vs r.nicks y _ (HR.out.2.1.below (HB4.out.trans (HO6.out.2.mono HB4.out.size))) (by omega)).mono ?_
          rintro e w7 ⟨rfl, hb7⟩
          have HO7 := Lib.hid (HO6.out.below hb7)
          clear p0 p1 p2 HX6 hb7 HO6
          obtain ⟨z, hz⟩ : ∃ z, canonL r.nicks y = z := ⟨_, rfl⟩
          rw [hz] at HN ⊢
          clear hz
          have hbz : w4.heap.size ≤ w7.heap.size := HO7.out.2.size
          go_wp2_with (at_builtin; refine wpList_append_new rfl _ _ 28 rfl w4.heap.size 9 1 16 (.string ⟨#[]⟩) Tryz.underlying28 infoS rfl (by decide) (by decide) _ _ _ rfl HO7.out.1 #[strV z] 1 rfl rfl (by simp [Value.oneCell']) hnl2 hbz ?_; intro v2 w8 ho8 hw8)
          go_roundw
          case rel => exact ⟨k + 1, by omega, by go_num, by rw [HT.out, nameToks_snoc, HN.out]; exact ⟨by rw [List.length_append, flat_snoc]; exact ho8, hw8 _ HO7.out.2⟩⟩
          case measure => simp [intOf]; omega
        · have HN := Lib.hid (show normTok r x = [] by rw [HNT.out, hd]; rfl)
          clear hd HNT
          go_wp2_with fail
          go_roundw
          case rel => exact ⟨k + 1, by omega, by go_num, by rw [HT.out, nameToks_snoc, HN.out, List.append_nil]; exact HO6.out⟩
          case measure => simp [intOf]; omega
    · have hq : decide ((k : Int) < T.length) = false := by simp; omega
      rw [List.take_of_length_le (by omega)] at ho
      have HV5 := Lib.hid (Vec.owns (S := Any1) (k := 1) (enc := encS) (fun _ => rfl) ho.1 (fun _ _ _ => trivial))
      have HW := Lib.hid (HB4.out.trans (ho.2.mono HB4.out.size))
      have hnl := nameToks_len r T
      have hjl := join_le (nameToks r T) (nameToks_le G2.out HTL.out)
      clear ho
      obtain ⟨N, hN⟩ : ∃ N, nameToks r T = N := ⟨_, rfl⟩
      rw [hN] at HV5 hnl hjl HF
      clear hN
      have hjb : (joinL N).length ≤ 1000000 := by
        have : N.length * 65 ≤ 65 * 65 := Nat.mul_le_mul_right 65 (by omega)
        omega
      clear hjl
      obtain ⟨av, cv, rfl⟩ := HV5.out.slice
      go_wp2_with fail
      refine (join_any Any1 _ N _ HV5.out (by omega) (by omega)).mono ?_
      rintro e w9 ⟨rfl, hb9⟩
      have HW9 := Lib.hid (HW.out.trans (hb9.mono HW.out.size)); clear hb9
      obtain ⟨J, hJ⟩ : ∃ J, joinL N = J := ⟨_, rfl⟩
      rw [hJ] at HF hjb ⊢
      clear hJ
      by_cases g1 : 6 < N.length
      · have d1 : decide ((6 : Int) < N.length) = true := by simp; omega
        rw [if_pos (.inl g1)] at HF
        go_wp2_with fail
        go_ret2
        exact ⟨by rw [HF.out]; rfl, HW9.out⟩
      · have d1 : decide ((6 : Int) < N.length) = false := by simp; omega
        by_cases g2 : 64 < J.length
        · have d2 : decide ((64 : Int) < J.length) = true := by simp; omega
          rw [if_pos (.inr g2)] at HF
          go_wp2_with fail
          go_ret2
          exact ⟨by rw [HF.out]; rfl, HW9.out⟩
        · have d2 : decide ((64 : Int) < J.length) = false := by simp; omega
          rw [if_neg (by omega)] at HF
          go_wp2_with fail
          go_ret2
          exact ⟨by rw [HF.out]; rfl, HW9.out⟩
set_option maxHeartbeats 1000000 in
theorem norm_no (S : Nat → Prop) (vt vn vs : Value) (r : RulesL) (s : ByteArray) (w : World) (h : RulesAt w S vt vn vs r) (hs : s.size ≤ 9223372036854775000) (hc : checkR r = 0) (hv : foldV s.data.toList = false) :
    Calls Tryz.prog 142 #[.agg #[vt, vn, vs], .string s] w fun e w' => e = .returned (pairV (nameN r s.data.toList)) ∧ Below w.heap.size w w' := by
  have HR := Lib.hid h.any
  have HC := Lib.hid hc; have HV := Lib.hid hv
  clear h hc hv
  have HF := Lib.hid (show nameN r s.data.toList = ([], 3) by unfold nameN; rw [if_pos HC.out, if_neg (by rw [HV.out]; simp)])
  go_enter Tryz.func142, Tryz.ntmps142
  go_wp2_with fail
  refine (rcheck_any Any1 vt vn vs r _ (HR.out.below ((Below.refl _ _).alloc (Nat.le_refl _) _))).mono ?_
  rw [HC.out]
  rintro e w1 ⟨rfl, hb1⟩
  have HB1 := Lib.hid (((Below.refl w.heap.size w).alloc (Nat.le_refl _) _).trans (hb1.mono (by simp)))
  clear hb1
  go_wp2_with fail
  refine (fold_no s _ hs HV.out).mono ?_
  rintro e w2 ⟨rfl, hb2⟩
  have HB2 := Lib.hid (HB1.out.trans (hb2.mono HB1.out.size))
  clear hb2 HB1
  go_wp2_with fail
  go_ret2
  exact ⟨by rw [HF.out]; rfl, HB2.out⟩
set_option maxHeartbeats 1000000 in
theorem norm_bad (S : Nat → Prop) (vt vn vs : Value) (r : RulesL) (s : ByteArray) (w : World) (h : RulesAt w S vt vn vs r) (hc : checkR r ≠ 0) :
    Calls Tryz.prog 142 #[.agg #[vt, vn, vs], .string s] w fun e w' => e = .returned (pairV (nameN r s.data.toList)) ∧ Below w.heap.size w w' := by
  have HR := Lib.hid h.any
  have HF := Lib.hid (show nameN r s.data.toList = ([], checkR r) by unfold nameN; rw [if_neg hc])
  have hne : (checkR r != 0) = true := by simpa using hc
  clear h hc
  go_enter Tryz.func142, Tryz.ntmps142
  go_wp2_with fail
  refine (rcheck_any Any1 vt vn vs r _ (HR.out.below ((Below.refl _ _).alloc (Nat.le_refl _) _))).mono ?_
  obtain ⟨c, hcc⟩ : ∃ c, checkR r = c := ⟨_, rfl⟩
  rw [hcc] at hne HF ⊢
  clear hcc
  rintro e w1 ⟨rfl, hb1⟩
  have HB1 := Lib.hid (((Below.refl w.heap.size w).alloc (Nat.le_refl _) _).trans (hb1.mono (by simp)))
  clear hb1
  go_wp2_with fail
  go_ret2
  exact ⟨by rw [HF.out]; rfl, HB1.out⟩
theorem norm_any (S : Nat → Prop) (vt vn vs : Value) (r : RulesL) (s : ByteArray) (w : World) (h : RulesAt w S vt vn vs r) (hs : s.size ≤ 9223372036854775000) :
    Calls Tryz.prog 142 #[.agg #[vt, vn, vs], .string s] w fun e w' => e = .returned (pairV (nameN r s.data.toList)) ∧ Below w.heap.size w w' := by
  by_cases hc : checkR r = 0
  · cases hv : foldV s.data.toList with
    | true => exact norm_yes S vt vn vs r s w h hc hv
    | false => exact norm_no S vt vn vs r s w h hs hc hv
  · exact norm_bad S vt vn vs r s w h hc
/-- is a text its own normal form -/
def isOwn (p : List UInt8 × Int) (l : List UInt8) : Bool := bif p.2 == 0 then p.1 == l else false
set_option maxHeartbeats 1000000 in
theorem normal_any (S : Nat → Prop) (vt vn vs : Value) (r : RulesL) (s : ByteArray) (w : World) (h : RulesAt w S vt vn vs r) (hs : s.size ≤ 9223372036854775000) :
    Calls Tryz.prog 143 #[.agg #[vt, vn, vs], .string s] w fun e w' => e = .returned (.bool (isOwn (nameN r s.data.toList) s.data.toList)) ∧ Below w.heap.size w w' := by
  have HR := Lib.hid h.any; clear h
  have HS := Lib.hid (Lib.toList_data s)
  go_enter Tryz.func143, Tryz.ntmps143
  go_wp2_with fail
  refine (norm_any Any1 vt vn vs r s _ (HR.out.below ((Below.refl _ _).alloc (Nat.le_refl _) _)) hs).mono ?_
  obtain ⟨p, hp⟩ : ∃ p, nameN r s.data.toList = p := ⟨_, rfl⟩
  rw [hp]
  have HP := Lib.hid hp; clear hp
  obtain ⟨pl, pe⟩ := p
  unfold pairV
  rintro e w1 ⟨rfl, hb1⟩
  have HB1 := Lib.hid (((Below.refl w.heap.size w).alloc (Nat.le_refl _) _).trans (hb1.mono (by simp)))
  clear hb1
  cases he : (pe == 0)
  all_goals
    go_wp2_with fail
    go_ret
    refine ⟨ret_bool ?_, HB1.out⟩
    rw [HP.out]
    simp [isOwn, he, HS.out]
end Go.Proofs.YtdckkggmmakfiaaGreatDoor
end
section
/- address: numerals, their normal form; the numbers and the other tokens. -/
set_option linter.unusedSimpArgs false
set_option linter.unusedVariables false
set_option maxRecDepth 100000
namespace Go.Proofs.YtdckkggmmakfiaaGreatDoor
open Go.RowKit
attribute [local go_sem] toList_mk mk_size
def numB : List UInt8 → Bool
  | c :: _ => isDgt c
  | [] => false
@[local go_sem] theorem get_zero (c : UInt8) (l : List UInt8) (h : 0 < (⟨(c :: l).toArray⟩ : ByteArray).size) : (⟨(c :: l).toArray⟩ : ByteArray)[0]'h = c := rfl
set_option maxHeartbeats 400000 in
theorem numeral_any (l : List UInt8) (w : World) :
    Calls Tryz.prog 114 #[strV l] w fun e w' => e = .returned (.bool (numB l)) ∧ w = w' := by
  cases l with
  | nil =>
    go_enter Tryz.func114, Tryz.ntmps114
    go_wp2
    go_ret
    exact ⟨rfl, rfl⟩
  | cons c l =>
    have HD := Lib.hid (dig_iff c)
    go_enter Tryz.func114, Tryz.ntmps114
    go_wp2
    all_goals
      go_ret
      exact ⟨ret_bool (by rw [show numB (c :: l) = isDgt c from rfl, HD.out]; simp; try omega), rfl⟩
/-- a number without the noughts ahead of it -/
def shortL (l : List UInt8) : List UInt8 := if numB (l.dropWhile (· == 48)) = true then l.dropWhile (· == 48) else 48 :: l.dropWhile (· == 48)
@[local go_sem] theorem nought_append (b : List UInt8) : (⟨#[48]⟩ : ByteArray) ++ ⟨b.toArray⟩ = ⟨(48 :: b).toArray⟩ := by
  apply ByteArray.ext; simp
theorem dropWhile_len (p : UInt8 → Bool) (l : List UInt8) : (l.dropWhile p).length ≤ l.length := by
  induction l with
  | nil => simp
  | cons c l ih => rw [List.dropWhile_cons]; split <;> simp; omega
theorem short_len (l : List UInt8) : (shortL l).length ≤ l.length + 1 := by
  have := dropWhile_len (· == 48) l
  unfold shortL; split <;> simp <;> omega
set_option maxHeartbeats 400000 in
theorem short_any (l : List UInt8) (w : World) (hl : l.length ≤ 1000000) :
    Calls Tryz.prog 170 #[strV l] w fun e w' => e = .returned (strV (shortL l)) ∧ w = w' := by
  have ht := Tryz.strings_TrimLeft_one (mkS l) 48 (by decide) w
  rw [show (mkS l).data.toList = l by simp [mkS]] at ht
  have HT := Lib.hid ht; clear ht
  have hfin : shortL l = if numB (Lib.trimLeftB l 48) = true then Lib.trimLeftB l 48 else 48 :: Lib.trimLeftB l 48 := rfl
  have hlen : (Lib.trimLeftB l 48).length ≤ l.length := dropWhile_len _ l
  obtain ⟨r, hr⟩ : ∃ r, Lib.trimLeftB l 48 = r := ⟨_, rfl⟩
  rw [hr] at HT hfin hlen
  have HF := Lib.hid hfin; clear hfin hr
  go_enter Tryz.func170, Tryz.ntmps170
  go_wp2_with fail
  refine HT.out.mono ?_
  rintro e w1 ⟨rfl, hw⟩
  subst hw
  go_wp2_with fail
  refine (numeral_any r _).mono ?_
  rintro e w1 ⟨rfl, rfl⟩
  cases hn : numB r
  · rw [if_neg (by rw [hn]; simp)] at HF
    have hsz : ¬ (9223372036854775807 : Int) < ((r.length + 1 : Nat) : Int) := by omega
    go_wp2_with fail
    go_ret
    exact ⟨by rw [HF.out]; rfl, rfl⟩
  · rw [if_pos hn] at HF
    go_wp2_with fail
    go_ret
    exact ⟨by rw [HF.out]; rfl, rfl⟩
end Go.Proofs.YtdckkggmmakfiaaGreatDoor
end
section
/- address: the numbers and the other tokens of a list. -/
set_option linter.unusedSimpArgs false
set_option linter.unusedVariables false
set_option maxRecDepth 100000
namespace Go.Proofs.YtdckkggmmakfiaaGreatDoor
open Go.RowKit
attribute [local go_sem] toList_mk mk_size
/-- append(s, x), with word of where the new slice lies -/
theorem wpList_append_newat {P : Program} {w : World} {ops : Array Oper} {rest : List Oper} {o : Oper} {a : Act} {Q : Exit → Act → World → Prop} (hgd : o.guard = none) (s x : Operand) (t : TypeId)
    (ho : o.op = .call { callee := .builtin .append, args := #[s, x], argTypes := #[t, t] })
    (base : Nat) (e : TypeId) (size bytes : Nat) (z : Value) (ht : P.underlying t = some (.slice e)) (hinfo : (P.info? e).map (fun i => (i.zero, i.size, i.bytes)) = some (some z, size, bytes))
    (hzs : z.cells.size = size) (hsz : 0 < size) (hby : bytes ≤ 128)
    (v : Value) (n : Nat) (xs : List Value) (hs : a.eval s = v) (hown : w.ownsRow base e size v n xs)
    (cs : Array Value) (c : Nat) (hx : a.eval x = .slice (some ⟨w.heap.size, 0, none⟩) 1 c) (hcs : cs.size = size) (h1 : ∀ u ∈ cs.toList, u.oneCell' = true)
    (hn : n < 1099511627776) (hbase : base ≤ w.heap.size)
    (h : ∀ v' w', w'.ownsRow base e size v' (n + 1) (xs ++ cs.toList) → (w.alloc (.cells cs e)).grownBy w' v.ownBlock → (v'.ownBlock = v.ownBlock ∨ v'.ownBlock = some (w.heap.size + 1)) → (∀ W, Below base W w → Below base W w') → wpList P ops Q rest (a.put o.dst v') w') :
    wpList P ops Q (o :: rest) a (w.alloc (.cells cs e)) := by
  obtain ⟨i, hi, hz, h2, h3⟩ := info_parts hinfo
  refine wpList_append_own_at _ hgd s x t ho base e i z size bytes ht hi hz h2 h3 hzs hsz v n xs hs (hown.alloc _) ⟨w.heap.size, 0, none⟩ 1 c cs.toList hx (by simp [hcs]) ?_ h1 (size_le_maxLen (by omega)) ?_ (by simp; omega) ?_
  · intro j u hu
    have : (⟨w.heap.size, 0, none⟩ : Addr).add j = ⟨w.heap.size, j, none⟩ := by unfold Addr.add; split <;> simp_all
    rw [this, cell_of_row _ _ _ _ _ _ (heap_alloc_new w _)]
    simpa using hu
  · exact Nat.le_trans (Nat.mul_le_mul (Nat.le_of_lt_succ (by omega : n + 1 < 1099511627776 + 1)) hby) (by decide)
  · intro v' w' ho' hg _ hat
    refine h v' w' ho' hg (by simpa using hat) fun W hW => (hW.alloc hbase _).grown hg (by simp; omega) ?_
    intro k hk
    exact (hown.lt k hk).1
/-- two rows of texts that the call owns, each by itself -/
def TwoAt (w : World) (u v : Value) (Y N : List (List UInt8)) (wr : World) : Prop :=
  wr.ownsRow w.heap.size 9 1 u Y.length (Y.flatMap encS) ∧ wr.ownsRow w.heap.size 9 1 v N.length (N.flatMap encS) ∧ (∀ g, u.ownBlock = some g → v.ownBlock ≠ some g) ∧ Below w.heap.size w wr
theorem TwoAt.below {w wr w' : World} {u v : Value} {Y N : List (List UInt8)} (h : TwoAt w u v Y N wr) (hb : Below wr.heap.size wr w') : TwoAt w u v Y N w' :=
  ⟨own_below h.1 hb, own_below h.2.1 hb, h.2.2.1, h.2.2.2.trans (hb.mono h.2.2.2.size)⟩
theorem TwoAt.swap {w wr : World} {u v : Value} {Y N : List (List UInt8)} (h : TwoAt w u v Y N wr) : TwoAt w v u N Y wr :=
  ⟨h.2.1, h.1, fun g hv hu => h.2.2.1 g hu hv, h.2.2.2⟩
theorem own_kept {w w' : World} {B e size n : Nat} {v : Value} {xs : List Value} {row : Option Nat} (h : w.ownsRow B e size v n xs) (hg : w.grownBy w' row) (hr : ∀ g, v.ownBlock = some g → row ≠ some g) : w'.ownsRow B e size v n xs := by
  refine ⟨h.1, ?_⟩
  rcases h.2 with h0 | ⟨g, cap, cur, hv, hg', hh, rest⟩
  · exact .inl h0
  · exact .inr ⟨g, cap, cur, hv, hg', (hg.block g (lt_of_blk hh) (fun e => hr g (by rw [hv]; rfl) e.symm)).trans hh, rest⟩
theorem TwoAt.put {w wr w2 : World} {u v u2 : Value} {Y N : List (List UInt8)} {y : List UInt8} (h : TwoAt w u v Y N wr) (ho : w2.ownsRow w.heap.size 9 1 u2 (Y.length + 1) (Y.flatMap encS ++ [strV y]))
    (hg : (wr.alloc (.cells #[strV y] 9)).grownBy w2 u.ownBlock) (hat : u2.ownBlock = u.ownBlock ∨ u2.ownBlock = some (wr.heap.size + 1)) (hw : ∀ W, Below w.heap.size W wr → Below w.heap.size W w2) : TwoAt w u2 v (Y ++ [y]) N w2 := by
  obtain ⟨h1, h2, h3, h4⟩ := h
  refine ⟨by rw [List.length_append, flat_snoc]; exact ho, own_kept (h2.alloc _) hg (fun g hv hu => h3 g hu hv), fun g hu hv => ?_, hw _ h4⟩
  rcases hat with hat | hat
  · exact h3 g (by rw [← hat]; exact hu) hv
  · rw [hat] at hu
    have := (h2.lt g hv).2
    injection hu with hu
    omega
theorem TwoAt.start (w : World) : TwoAt w (.slice none 0 0) (.slice none 0 0) [] [] w := ⟨⟨rfl, .inl ⟨rfl, rfl⟩⟩, ⟨rfl, .inl ⟨rfl, rfl⟩⟩, (fun g h => by simp [Value.ownBlock] at h), Below.refl _ _⟩
def PartPost (L : List (List UInt8)) (w : World) (e : Ending) (w' : World) : Prop := ∃ u v, e = .returned (.tuple #[u, v]) ∧ TwoAt w u v (L.filter numB) (L.filter fun x => !numB x) w'
theorem filter_snoc_yes {p : List UInt8 → Bool} (L : List (List UInt8)) (x : List UInt8) (h : p x = true) : (L ++ [x]).filter p = L.filter p ++ [x] := by simp [h]
theorem filter_snoc_no {p : List UInt8 → Bool} (L : List (List UInt8)) (x : List UInt8) (h : p x = false) : (L ++ [x]).filter p = L.filter p := by simp [h]
theorem take_snocT (T : List (List UInt8)) (k : Nat) (h : k < T.length) : T.take (k + 1) = T.take k ++ [T.getD k []] := by
  rw [List.take_succ_eq_append_getElem h, List.getD, List.getElem?_eq_getElem h]; rfl
set_option maxHeartbeats 2000000 in
theorem part_any (S : Nat → Prop) (v : Value) (L : List (List UInt8)) (w : World) (h : Vec w S 1 encS v L) (hn : L.length ≤ 1000000) :
    Calls Tryz.prog 113 #[v, .func (.func 114) #[] #[]] w (PartPost L w) := by
  obtain ⟨a, cap, rfl⟩ := h.slice
  have HV := Lib.hid h; clear h
  go_enter Tryz.func113, Tryz.ntmps113
  go_wp2_with fail
  go_loopw [4, 5, 10] (fun y n i wr => ∃ k : Nat, k ≤ L.length ∧ i = .int .i64 k ∧ TwoAt w y n ((L.take k).filter numB) ((L.take k).filter fun x => !numB x) wr) (fun _ _ i _ => L.length - (intOf i).toNat)
  case atStart => exact ⟨0, by omega, rfl, TwoAt.start w⟩
  case round =>
    obtain ⟨k, hk, rfl, ho⟩ := hrel
    have HO := Lib.hid ho; clear ho
    by_cases hlt : k < L.length
    · have hq : decide ((k : Int) < L.length) = true := by simp; omega
      have hi : (k : Int) < (L.length : Int) := by omega
      obtain ⟨b, off, rfl, _, hb, hcx⟩ := vec_cell1 HV.out (by omega)
      have htk := take_snocT L k hlt
      have hcx' := hcx k hlt
      obtain ⟨x, hx⟩ : ∃ x, L.getD k [] = x := ⟨_, rfl⟩
      rw [hx] at htk hcx'
      have c1 : wr.cell? ⟨b, off + k, none⟩ = some (strV x) := (HO.out.2.2.2.cell (p := ⟨b, off + k, none⟩) hb).trans hcx'
      have HT := Lib.hid htk
      have l1 : ((L.take k).filter numB).length < 1099511627776 := by have := List.length_filter_le numB (L.take k); have := List.length_take_le k L; omega
      have l2 : ((L.take k).filter fun x => !numB x).length < 1099511627776 := by have := List.length_filter_le (fun x => !numB x) (L.take k); have := List.length_take_le k L; omega
      have hbz : w.heap.size ≤ wr.heap.size := HO.out.2.2.2.size
      clear hx htk hcx hcx'
      go_wp2_with fail
      refine (numeral_any x _).mono ?_
      rintro e w1 ⟨rfl, rfl⟩
      cases hd : numB x
      · have F1 := Lib.hid (filter_snoc_no (p := numB) (L.take k) x hd)
        have F2 := Lib.hid (filter_snoc_yes (p := fun x => !numB x) (L.take k) x (by simp [hd]))
        clear hd
        go_wp2_with (at_builtin; refine wpList_append_newat rfl _ _ 28 rfl w.heap.size 9 1 16 (.string ⟨#[]⟩) Tryz.underlying28 infoS rfl (by decide) (by decide) _ _ _ rfl HO.out.2.1 #[strV x] 1 rfl rfl (by simp [Value.oneCell']) l2 hbz ?_; intro v2 w8 ho8 hg8 hat8 hw8)
        go_roundw
        case rel => exact ⟨k + 1, by omega, by go_num, by rw [HT.out, F1.out, F2.out]; exact (HO.out.swap.put ho8 hg8 hat8 hw8).swap⟩
        case measure => simp [intOf]; omega
      · have F1 := Lib.hid (filter_snoc_yes (p := numB) (L.take k) x hd)
        have F2 := Lib.hid (filter_snoc_no (p := fun x => !numB x) (L.take k) x (by simp [hd]))
        clear hd
        go_wp2_with (at_builtin; refine wpList_append_newat rfl _ _ 28 rfl w.heap.size 9 1 16 (.string ⟨#[]⟩) Tryz.underlying28 infoS rfl (by decide) (by decide) _ _ _ rfl HO.out.1 #[strV x] 1 rfl rfl (by simp [Value.oneCell']) l1 hbz ?_; intro v2 w8 ho8 hg8 hat8 hw8)
        go_roundw
        case rel => exact ⟨k + 1, by omega, by go_num, by rw [HT.out, F1.out, F2.out]; exact HO.out.put ho8 hg8 hat8 hw8⟩
        case measure => simp [intOf]; omega
    · have hq : decide ((k : Int) < L.length) = false := by simp; omega
      rw [List.take_of_length_le (by omega)] at HO
      go_wp2_with fail
      go_ret2
      exact ⟨_, _, rfl, HO.out⟩
end Go.Proofs.YtdckkggmmakfiaaGreatDoor
end
section
/- address.Normalise: the loop's parts. -/
set_option linter.unusedSimpArgs false
set_option linter.unusedVariables false
set_option maxRecDepth 100000
namespace Go.Proofs.YtdckkggmmakfiaaGreatDoor
open Go.RowKit
attribute [local go_sem] toList_mk mk_size
theorem idxP_any (p : P2 → Bool) (g : Nat) (lb : Array Value) (eg : ∀ args w, (callFunc g args).run Tryz.prog w = .ok (.enter g args) w) (S : Nat → Prop) (v : Value) (L : List P2) (w : World) (h : Vec w S 2 encP v L) (hn : L.length ≤ 1000000) (hp : PredBelow Tryz.prog g lb (fun x => .agg (encP x).toArray) p w) :
    Calls Tryz.prog 123 #[v, .func (.func g) #[] lb] w fun e w' => e = .returned (.int .i64 (Lib.idxBy (fun _ (y : P2) => p y) L default)) ∧ Below w.heap.size w w' := by
  obtain ⟨a, cap, rfl, hcap, h0⟩ := h
  by_cases hz : L = []
  · subst hz
    exact (idxP_nil a cap _ w).mono fun e w' ⟨he, hw⟩ => ⟨he, by rw [← hw]; exact Below.refl _ _⟩
  · obtain ⟨b, off, rfl, _, hb, hc⟩ := h0 (List.length_pos_iff.2 hz)
    have hcon := AnyQ.slices_IndexFunc Tryz.laysIP 2 Tryz.isAgg92 Tryz.sizeOf92 encP (fun _ => rfl) p g lb eg b off L.length cap L w hp (Nat.le_refl _) (by omega) hb (fun j hj i u hi => by
        have e : L[j]? = some L[j]! := by rw [List.getElem?_eq_getElem hj, getElem!_pos L j hj]
        exact hc j _ e i u hi)
    rw [List.take_of_length_le (Nat.le_refl _)] at hcon
    exact hcon
theorem pred_addr (s : List UInt8) (B : Nat) (w : World) (hB : B < w.heap.size) (hcell : w.cell? ⟨B, 0, none⟩ = some (strV s)) :
    PredBelow Tryz.prog 169 #[.pointer (some ⟨B, 0, none⟩)] (fun x => .agg (encP x).toArray) (fun x => x.1 == s) w := fun W x hb => by
  have hc : W.cell? ⟨B, 0, none⟩ = some (strV s) := (hb.cell (p := ⟨B, 0, none⟩) hB).trans hcell
  have hBW : B < W.heap.size := Nat.lt_of_lt_of_le hB hb.size
  have hne : B ≠ W.heap.size := by omega
  have HBb := Lib.hid hb; clear hb hcell
  show Calls Tryz.prog 169 #[.agg #[strV x.1, strV x.2], .pointer (some ⟨B, 0, none⟩)] W _
  go_enter Tryz.func169, Tryz.ntmps169
  go_wp2
  go_ret
  exact ⟨rfl, HBb.out.alloc HBb.out.size _⟩
/-- a block that holds just these texts -/
def RowB (w : World) (A : Nat) (L : List (List UInt8)) : Prop := w.heap[A]? = some (.cells (L.flatMap encS).toArray 9 (0, 0))
theorem own_block {w : World} {B A n : Nat} {L : List (List UInt8)} (h : w.ownsRow B 9 1 (.slice (some ⟨A, 0, none⟩) n n) n (L.flatMap encS)) : B ≤ A ∧ RowB w A L := by
  rcases h.2 with ⟨h0, _⟩ | ⟨g, cap, cur, hv, hg, hh, hn, hc, hsz, ht⟩
  · cases h0
  · cases hv
    refine ⟨hg, ?_⟩
    rw [List.take_of_length_le (by simp [hsz])] at ht
    unfold RowB
    rw [hh, ← ht]
theorem flat_len1 (L : List (List UInt8)) : (L.flatMap encS).length = L.length := by rw [flat_len (k := 1) (fun _ => rfl)]; omega
theorem flat_get1 (L : List (List UInt8)) (j : Nat) (hj : j < L.length) : (L.flatMap encS)[j]? = some (strV (L.getD j [])) := by
  have := flat_get (k := 1) (enc := encS) (fun _ => rfl) L j L[j] (List.getElem?_eq_getElem hj) 0 (by omega)
  rw [List.getD, List.getElem?_eq_getElem hj]
  simpa using this
theorem RowB.cell {w : World} {A : Nat} {L : List (List UInt8)} (h : RowB w A L) (j : Nat) (hj : j < L.length) : w.cell? ⟨A, j, none⟩ = some (strV (L.getD j [])) := by
  rw [cell_of_row _ _ _ _ _ _ h, List.getElem?_toArray]
  exact flat_get1 L j hj
theorem RowB.vec {w : World} {A : Nat} {L : List (List UInt8)} (h : RowB w A L) (cap : Nat) (hc : L.length ≤ cap) : Vec w Any1 1 encS (.slice (some ⟨A, 0, none⟩) L.length cap) L :=
  ⟨_, cap, rfl, hc, fun _ => ⟨A, 0, rfl, trivial, lt_of_blk h, fun j x hj i u hu => by
    have hj' : j < L.length := (List.getElem?_eq_some_iff.1 hj).1
    have hi : i = 0 := by
      cases i with
      | zero => rfl
      | succ i => simp [encS] at hu
    subst hi
    have := h.cell j hj'
    rw [List.getD, hj] at this
    simp [encS] at hu
    subst hu
    simpa using this⟩⟩
theorem flat_set (L : List (List UInt8)) (k : Nat) (y : List UInt8) : (L.set k y).flatMap encS = (L.flatMap encS).set k (strV y) := by
  induction L generalizing k with
  | nil => rfl
  | cons x L ih =>
    cases k with
    | zero => rfl
    | succ k => rw [List.set_cons_succ, List.flatMap_cons, List.flatMap_cons, ih]; rfl
theorem RowB.set {w : World} {A : Nat} {L : List (List UInt8)} (h : RowB w A L) (k : Nat) (y : List UInt8) : RowB (w.setCell ⟨A, k, none⟩ (strV y)) A (L.set k y) := by
  have := blk_set (i := k) (v := strV y) h
  unfold RowB
  rw [this, flat_set]
  simp
/-- what becomes of a token of an address -/
def addrTok (r : RulesL) (x : List UInt8) : List UInt8 := if numB x = true then shortL x else canonL r.streets x
def midL (f : List UInt8 → List UInt8) (T : List (List UInt8)) (k : Nat) : List (List UInt8) := (T.take k).map f ++ T.drop k
theorem mid_len (f : List UInt8 → List UInt8) (T : List (List UInt8)) (k : Nat) (hk : k ≤ T.length) : (midL f T k).length = T.length := by
  unfold midL; simp; omega
theorem mid_get (f : List UInt8 → List UInt8) (T : List (List UInt8)) (k : Nat) (hk : k < T.length) : (midL f T k).getD k [] = T.getD k [] := by
  unfold midL
  rw [List.getD, List.getElem?_append_right (by simp; omega), List.getElem?_drop, List.getD]
  congr 2
  simp; omega
theorem mid_set (f : List UInt8 → List UInt8) (T : List (List UInt8)) (k : Nat) (hk : k < T.length) (y : List UInt8) (hy : f (T.getD k []) = y) : (midL f T k).set k y = midL f T (k + 1) := by
  unfold midL
  have e : T.drop k = T.getD k [] :: T.drop (k + 1) := by
    rw [List.getD, List.getElem?_eq_getElem hk]; exact List.drop_eq_getElem_cons hk
  rw [take_snocT T k hk, e, List.set_append_right _ _ (by simp; omega)]
  have : k - ((T.take k).map f).length = 0 := by simp; omega
  rw [this, List.set_cons_zero, List.map_append, List.append_assoc, ← hy]
  rfl
theorem mid_same (f : List UInt8 → List UInt8) (T : List (List UInt8)) (k : Nat) (hk : k < T.length) (hy : f (T.getD k []) = T.getD k []) : midL f T k = midL f T (k + 1) := by
  unfold midL
  have e : T.drop k = T.getD k [] :: T.drop (k + 1) := by
    rw [List.getD, List.getElem?_eq_getElem hk]; exact List.drop_eq_getElem_cons hk
  rw [take_snocT T k hk, e, List.map_append, List.append_assoc, List.map_cons, List.map_nil, hy]
  rfl
end Go.Proofs.YtdckkggmmakfiaaGreatDoor
end
section
/- recordlinkmake: One, Pick, tokens: some text of bounded length. -/
set_option linter.unusedSimpArgs false
set_option linter.unusedVariables false
set_option maxRecDepth 100000
namespace Go.Proofs.YtdckkggmmakfiaaGreatDoor
open Go.RowKit
attribute [local go_sem] toList_mk mk_size
@[local go_sem] theorem str_append (a b : List UInt8) : (⟨a.toArray⟩ : ByteArray) ++ ⟨b.toArray⟩ = ⟨(a ++ b).toArray⟩ := by
  apply ByteArray.ext; simp
def SomeBool (D : Nat) (w : World) (e : Ending) (w' : World) : Prop := ∃ b : Bool, e = .returned (.bool b) ∧ Moved D w w'
def SomeText (D N : Nat) (w : World) (e : Ending) (w' : World) : Prop := ∃ l : List UInt8, e = .returned (strV l) ∧ l.length ≤ N ∧ Moved D w w'
set_option maxHeartbeats 400000 in
theorem one_any (D : Nat) (w : World) (k : Int) (h : DeckAt w D) (hk : 1 ≤ k) (hk2 : k ≤ 1000000000) :
    Calls Tryz.prog 25 #[.pointer (some ⟨D, 0, none⟩), .int .i64 k] w (SomeBool D w) := by
  go_enter Tryz.func25, Tryz.ntmps25
  go_wp2_with fail
  refine (next_any D _ k h hk hk2).mono ?_
  rintro e w1 ⟨r, rfl, h0, h1, h2⟩
  have H2 := Lib.hid h2; clear h2
  go_wp2_with fail
  go_ret
  exact ⟨_, rfl, H2.out⟩
theorem Vec.moved {α : Type} {D : Nat} {w w' : World} {k : Nat} {enc : α → List Value} {v : Value} {L : List α} (h : Vec w (fun b => b ≠ D) k enc v L) (m : Moved D w w') : Vec w' (fun b => b ≠ D) k enc v L :=
  h.move m.size fun b hb hD => ⟨m.grown.block b hb (by simp; omega), hD⟩
/-- one of some texts -/
def PickPost (D : Nat) (L : List (List UInt8)) (w : World) (e : Ending) (w' : World) : Prop := ∃ l : List UInt8, e = .returned (strV l) ∧ l ∈ L ∧ Moved D w w'
set_option maxHeartbeats 400000 in
theorem pick_any (D : Nat) (w : World) (v : Value) (L : List (List UInt8)) (h : DeckAt w D) (hV : Vec w (fun b => b ≠ D) 1 encS v L) (h1 : 1 ≤ L.length) (h2 : L.length ≤ 1000) :
    Calls Tryz.prog 40 #[.pointer (some ⟨D, 0, none⟩), v] w (PickPost D L w) := by
  obtain ⟨a, cap, rfl⟩ := hV.slice
  have HV := Lib.hid hV
  clear hV
  go_enter Tryz.func40, Tryz.ntmps40
  go_wp2_with fail
  refine (next_any D _ _ h (by omega) (by omega)).mono ?_
  rintro e w1 ⟨r, rfl, r0, r1, mv⟩
  have MV := Lib.hid mv; clear mv
  obtain ⟨r, rfl⟩ := Int.eq_ofNat_of_zero_le r0
  obtain ⟨b, off, rfl, _, hb, hc⟩ := vec_cell1 (HV.out.moved MV.out) (by omega)
  have hr : r < L.length := by omega
  have hc1 := hc r hr
  have hmem : L.getD r [] ∈ L := by rw [List.getD, List.getElem?_eq_getElem hr]; exact List.getElem_mem hr
  obtain ⟨x, hx⟩ : ∃ x, L.getD r [] = x := ⟨_, rfl⟩
  rw [hx] at hc1 hmem
  have HMem := Lib.hid hmem
  clear hc hmem hx
  go_wp2_with fail
  go_ret
  exact ⟨x, rfl, HMem.out, MV.out⟩
theorem pick_vec (D : Nat) (w : World) (v : Value) (L : List (List UInt8)) (h : DeckAt w D) (hV : Vec w (fun b => b ≠ D) 1 encS v L) (h1 : 1 ≤ L.length) (h2 : L.length ≤ 1000) (N : Nat) (hN : ∀ t ∈ L, t.length ≤ N) :
    Calls Tryz.prog 40 #[.pointer (some ⟨D, 0, none⟩), v] w (SomeText D N w) :=
  (pick_any D w v L h hV h1 h2).mono fun _ _ ⟨l, he, hl, hm⟩ => ⟨l, he, hN l hl, hm⟩
def givenL : List (List UInt8) := [[114, 111, 98, 101, 114, 116], [98, 111, 98], [97, 110, 110], [97, 110, 110, 97], [114, 117, 112, 101, 114, 116], [109, 97, 114, 105, 97], [112, 101, 116, 101, 114], [100, 114], [106, 111], [97, 115, 104, 99, 114, 97, 102, 116], [108, 105]]
def familyL : List (List UInt8) := [[115, 109, 105, 116, 104], [115, 99, 104, 109, 105, 100, 116], [109, 105, 108, 108, 101, 114], [111, 110, 101, 105, 108, 108], [115, 116, 114, 97, 117, 115, 115], [118, 97, 110], [109, 97, 105, 110], [115, 116], [115, 116, 114, 101, 101, 116], [114, 100], [112, 97, 114, 107]]
end Go.Proofs.YtdckkggmmakfiaaGreatDoor
end
section
/- recordlinkmake: Token: some word of at most 16 letters. -/
set_option linter.unusedSimpArgs false
set_option linter.unusedVariables false
set_option maxRecDepth 100000
namespace Go.Proofs.YtdckkggmmakfiaaGreatDoor
open Go.RowKit
attribute [local go_sem] toList_mk mk_size str_append
theorem one_byte (w : World) (a : UInt8) : (convert 84 9 (.slice (some ⟨w.heap.size, 0, none⟩) 1 1)).run Tryz.prog (w.alloc (.cells #[.int .u8 a.toNat] 5)) = .ok (strV [a]) (w.alloc (.cells #[.int .u8 a.toNat] 5)) := by
  have ho : (w.alloc (.cells (([a] : List UInt8).map byteV).toArray 5)).ownsRow 0 5 1 (.slice (some ⟨w.heap.size, 0, none⟩) 1 1) 1 (([a] : List UInt8).map byteV) :=
    ⟨by simp, .inr ⟨_, _, _, rfl, Nat.zero_le _, blk_new rfl, Nat.le_refl _, size_le_maxLen (by omega), by simp, by simp⟩⟩
  exact run_convert_owned [a] ho Tryz.underlying84 Tryz.underlying5 Tryz.underlying9
theorem moved_row {D A : Nat} {w w' : World} {L : List (List UInt8)} (h : RowB w A L) (hA : A ≠ D) (m : Moved D w w') : RowB w' A L := m.blk hA h
/-- a word: letters from a to z, at least one -/
def WordL (l : List UInt8) : Prop := l ≠ [] ∧ (∀ b ∈ l, isLow b = true) ∧ l.length ≤ 16
def wordD (l : List UInt8) : Bool := !l.isEmpty && l.all isLow && decide (l.length ≤ 16)
theorem wordD_is {l : List UInt8} (h : wordD l = true) : WordL l := by
  simp only [wordD, Bool.and_eq_true, Bool.not_eq_true', decide_eq_true_iff, List.all_eq_true] at h
  exact ⟨by intro e; subst e; simp at h, h.1.2, h.2⟩
def TokPost (D : Nat) (w : World) (e : Ending) (w' : World) : Prop := ∃ l : List UInt8, e = .returned (strV l) ∧ WordL l ∧ Moved D w w'
theorem low_deal (q : Nat) (h : q < 26) : isLow (UInt8.ofNat (97 + q)) = true := by
  rw [low_iff, decide_eq_true_iff, UInt8.toNat_ofNat']; omega
end Go.Proofs.YtdckkggmmakfiaaGreatDoor
end
section
/- address.Normalise. -/
set_option linter.unusedSimpArgs false
set_option linter.unusedVariables false
set_option maxRecDepth 100000
namespace Go.Proofs.YtdckkggmmakfiaaGreatDoor
open Go.RowKit
attribute [local go_sem] toList_mk mk_size
/-- numbers behind the other tokens -/
def order2 (T : List (List UInt8)) : List (List UInt8) := (T.filter fun x => !numB x) ++ T.filter numB
def addrN (r : RulesL) (l : List UInt8) : List UInt8 × Int :=
  if checkR r = 0 then (if foldV l = true then (if 6 < (toks (foldL l)).length ∨ 64 < (joinL (order2 ((toks (foldL l)).map (addrTok r)))).length then ([], 1) else (joinL (order2 ((toks (foldL l)).map (addrTok r))), 0)) else ([], 3)) else ([], checkR r)
theorem addrTok_len {r : RulesL} (h : pairsB r.streets = true) (x : List UInt8) (hx : x.length ≤ 64) : (addrTok r x).length ≤ 65 := by
  unfold addrTok
  split
  · have := short_len x; omega
  · have := canon_len h x hx; omega
theorem order2_len (T : List (List UInt8)) : (order2 T).length ≤ 2 * T.length := by
  unfold order2
  have h1 := List.length_filter_le numB T
  have h2 := List.length_filter_le (fun x => !numB x) T
  simp; omega
theorem order2_mem {T : List (List UInt8)} {t : List UInt8} (h : t ∈ order2 T) : t ∈ T := by
  unfold order2 at h
  rcases List.mem_append.1 h with h | h
  · exact (List.mem_filter.1 h).1
  · exact (List.mem_filter.1 h).1
/-- what the loop of Normalise holds -/
def AddrAt (w2 : World) (A : Nat) (M : List (List UInt8)) (wr : World) : Prop := RowB wr A M ∧ Below w2.heap.size w2 wr ∧ w2.heap.size ≤ A
theorem AddrAt.below {w2 wr w' : World} {A : Nat} {M : List (List UInt8)} (h : AddrAt w2 A M wr) (hb : Below wr.heap.size wr w') : AddrAt w2 A M w' :=
  ⟨blk_below hb (lt_of_blk h.1) h.1, h.2.1.trans (hb.mono h.2.1.size), h.2.2⟩
theorem AddrAt.set {w2 wr : World} {A : Nat} {M : List (List UInt8)} (h : AddrAt w2 A M wr) (k : Nat) (y : List UInt8) : AddrAt w2 A (M.set k y) (wr.setCell ⟨A, k, none⟩ (strV y)) :=
  ⟨h.1.set k y, h.2.1.setCell h.2.2 _, h.2.2⟩
set_option maxHeartbeats 4000000 in
theorem addr_yes (S : Nat → Prop) (vt vn vs : Value) (r : RulesL) (s : ByteArray) (w : World) (h : RulesAt w S vt vn vs r) (hc : checkR r = 0) (hv : foldV s.data.toList = true) :
    Calls Tryz.prog 154 #[.agg #[vt, vn, vs], .string s] w fun e w' => e = .returned (pairV (addrN r s.data.toList)) ∧ Below w.heap.size w w' := by
  have hs : s.size ≤ 64 := by
    have := foldV_len hv
    have h2 : s.data.toList.length = s.size := by simp
    omega
  obtain ⟨⟨k1, k2, k3⟩, g1, g2, g3, g4⟩ := check_zero hc
  have G3 := Lib.hid g3
  obtain ⟨avs, cvs, rfl⟩ := h.2.2.slice
  have HR := Lib.hid h.any
  have HC := Lib.hid hc; have HV := Lib.hid hv
  clear h hc hv g1 g2 g3 g4
  have hfin : addrN r s.data.toList = (if 6 < (toks (foldL s.data.toList)).length ∨ 64 < (joinL (order2 ((toks (foldL s.data.toList)).map (addrTok r)))).length then ([], 1) else (joinL (order2 ((toks (foldL s.data.toList)).map (addrTok r))), 0)) := by
    unfold addrN; rw [if_pos HC.out, if_pos HV.out]
  have HF := Lib.hid hfin; clear hfin
  go_enter Tryz.func154, Tryz.ntmps154
  go_wp2_with fail
  refine (rcheck_any Any1 vt vn _ r _ (HR.out.below ((Below.refl _ _).alloc (Nat.le_refl _) _))).mono ?_
  rw [HC.out]
  rintro e w1 ⟨rfl, hb1⟩
  have X1 : w1.heap[w.heap.size]? = some (.cells #[vt, vn, .slice avs r.streets.length cvs] 31 (0, 0)) := blk_below hb1 (by simp) (blk_new rfl)
  have HX1 := Lib.hid X1
  have HB1 := Lib.hid (((Below.refl w.heap.size w).alloc (Nat.le_refl _) _).trans (hb1.mono (by simp)))
  clear X1 hb1
  go_wp2_with fail
  refine (fold_yes s _ (by omega) HV.out).mono ?_
  rintro e w2 ⟨rfl, hb2⟩
  have HX2 := Lib.hid (blk_below hb2 (lt_of_blk HX1.out) HX1.out)
  have HB2 := Lib.hid (HB1.out.trans (hb2.mono HB1.out.size))
  clear hb2 HX1 HB1
  go_wp2_with fail
  have hfl : (foldL s.data.toList).length ≤ 64 := by
    have := fold_len s.data.toList
    have h2 : s.data.toList.length = s.size := by simp
    omega
  obtain ⟨fl, hfl'⟩ : ∃ fl, foldL s.data.toList = fl := ⟨_, rfl⟩
  have hasc : ascii fl := hfl' ▸ fold_ascii _
  have HA := Lib.hid hasc
  rw [hfl'] at hfl HF ⊢
  clear hasc hfl'
  refine (tokens_any fl _ HA.out (by omega)).mono ?_
  rintro e w4 ⟨A, rfl, hA, ho, hb4⟩
  have hrow := (own_block ho).2
  have htl : ∀ t ∈ toks fl, t.length ≤ 64 := fun t ht => by have := toks_le fl [] t ht; simp at this; omega
  have htn : (toks fl).length ≤ 65 := by have := (toksA_len fl []).2.1; unfold toks; omega
  obtain ⟨T, hT⟩ : ∃ T, toks fl = T := ⟨_, rfl⟩
  rw [hT] at hrow htl htn HF ⊢
  have HAt := Lib.hid (show AddrAt w2 A T w4 from ⟨hrow, hb4, hA⟩); have HTL := Lib.hid htl
  have zX2 := lt_of_blk HX2.out
  clear hb4 ho hrow hT htl hA
  go_wp2_with fail
  go_loopw [33] (fun i wr => ∃ k : Nat, k ≤ T.length ∧ i = .int .i64 k ∧ AddrAt w2 A (midL (addrTok r) T k) wr) (fun i _ => T.length - (intOf i).toNat)
  case atStart => exact ⟨0, by omega, rfl, by simpa [midL] using HAt.out⟩
  case round =>
    obtain ⟨k, hk, rfl, ho⟩ := hrel
    have HO := Lib.hid ho; clear ho
    by_cases hlt : k < T.length
    · have hq : decide ((k : Int) < T.length) = true := by simp; omega
      have hi : (k : Int) < (T.length : Int) := by omega
      have hml := mid_len (addrTok r) T k hk
      have c1 := HO.out.1.cell k (by omega)
      rw [mid_get _ _ _ hlt] at c1
      have hxl : (T.getD k []).length ≤ 64 := TL_get HTL.out k hlt
      have hset := mid_set (addrTok r) T k hlt
      have hsame := mid_same (addrTok r) T k hlt
      have hfx : addrTok r (T.getD k []) = if numB (T.getD k []) = true then shortL (T.getD k []) else canonL r.streets (T.getD k []) := rfl
      have hcf := canon_find r.streets (T.getD k [])
      obtain ⟨x, hx⟩ : ∃ x, T.getD k [] = x := ⟨_, rfl⟩
      rw [hx] at c1 hxl hset hsame hfx hcf
      have HSet := Lib.hid hset; have HSame := Lib.hid hsame; have HFx := Lib.hid hfx
      clear hx hset hsame hfx hml
      have hX := blk_below HO.out.2.1 zX2 HX2.out
      obtain ⟨p0, p1, p2⟩ := cells3 hX
      have zX := lt_of_blk hX
      have HX := Lib.hid hX; clear hX
      go_wp2_with fail
      have eg : ∀ args w, (callFunc 169 args).run Tryz.prog w = .ok (.enter 169 args) w := enters_of Tryz.func169 (by kernel_rfl) rfl
      have KI := idxP_any (fun y => y.1 == x) 169 #[.pointer (some ⟨wr.heap.size, 0, none⟩)] eg Any1 (.slice avs r.streets.length cvs) r.streets (wr.alloc (.cells #[strV x] 9)) (HR.out.2.2.below (HB2.out.trans (HO.out.2.1.mono HB2.out.size) |>.alloc (by have := HB2.out.size; have := HO.out.2.1.size; omega) _)) (by omega) (pred_addr x wr.heap.size _ (by simp) (by simp))
      change Calls _ _ _ _ fun e w' => e = .returned (.int .i64 (findI r.streets x)) ∧ Below (wr.alloc (.cells #[strV x] 9)).heap.size (wr.alloc (.cells #[strV x] 9)) w' at KI
      obtain ⟨n, hn⟩ : ∃ n, findI r.streets x = n := ⟨_, rfl⟩
      rw [hn] at KI hcf
      refine KI.mono ?_
      clear eg hn KI
      rintro e w5 ⟨rfl, hb5⟩
      have hal : Below wr.heap.size wr (wr.alloc (.cells #[strV x] 9)) := (Below.refl _ _).alloc (Nat.le_refl _) _
      have HO5 := Lib.hid ((HO.out.below hal).below hb5)
      have hX5 : w5.heap[w.heap.size]? = some (.cells #[vt, vn, .slice avs r.streets.length cvs] 31 (0, 0)) := blk_below hb5 (by simp; omega) (blk_old HX.out)
      have k0 : w5.cell? ⟨wr.heap.size, 0, none⟩ = some (strV x) := (hb5.cell (p := ⟨wr.heap.size, 0, none⟩) (by simp)).trans (by simp)
      clear p0 p1 p2 hal hb5 HO c1
      obtain ⟨p0, p1, p2⟩ := cells3 hX5
      have hAl := lt_of_blk HO5.out.1
      have hml := mid_len (addrTok r) T k hk
      have c5 : w5.cell? ⟨A, k, none⟩ = some (strV ((midL (addrTok r) T k).getD k [])) := HO5.out.1.cell k (by omega)
      have f5 : w5.frozen? ⟨A, k, none⟩ = false := frozen_of_row _ _ _ _ _ HO5.out.1
      generalize (midL (addrTok r) T k).getD k [] = old at c5
      clear hX5 HX hml
      go_wp2_with fail
      refine (numeral_any x _).mono ?_
      rintro e w6 ⟨rfl, rfl⟩
      cases hd : numB x
      · rw [hd, if_neg (by simp)] at HFx
        clear hd
        rcases hcf with ⟨h1, h2⟩ | ⟨j, hj, h1, h2⟩
        · rw [h2] at HFx
          have HS := Lib.hid (HSame.out HFx.out)
          clear h2 HSame HSet
          go_wp2_with fail
          go_roundw
          case rel => exact ⟨k + 1, by omega, by go_num, by rw [← HS.out]; exact HO5.out⟩
          case measure => simp [intOf]; omega
        · rw [← h2] at HFx
          have HS := Lib.hid (HSet.out _ HFx.out)
          subst h1
          obtain ⟨bs, offs, e1, _, hbs, hcs⟩ := vec_cell2 HR.out.2.2 (by omega)
          have hcs1 := hcs j hj 1 _ rfl
          subst e1
          have s1 : w5.cell? ⟨bs, offs + j * 2 + 1, none⟩ = some (strV (r.streets.getD j default).2) := ((HB2.out.trans (HO5.out.2.1.mono HB2.out.size)).cell (p := ⟨bs, offs + j * 2 + 1, none⟩) hbs).trans hcs1
          obtain ⟨y, hy⟩ : ∃ y, (r.streets.getD j default).2 = y := ⟨_, rfl⟩
          rw [hy] at s1 HS
          have hj' : (j : Int) < (r.streets.length : Int) := by omega
          clear hcs hcs1 hy h2 HSame HSet HFx
          go_wp2_with fail
          go_roundw
          case rel => exact ⟨k + 1, by omega, by go_num, by rw [← HS.out]; exact HO5.out.set k y⟩
          case measure => simp [intOf]; omega
      · rw [hd, if_pos rfl] at HFx
        have HS := Lib.hid (HSet.out _ HFx.out)
        clear hd HSame HSet hcf
        go_wp2_with fail
        refine (short_any x _ (by omega)).mono ?_
        rintro e w6 ⟨rfl, rfl⟩
        go_wp2_with fail
        go_roundw
        case rel => exact ⟨k + 1, by omega, by go_num, by rw [← HS.out]; exact HO5.out.set k _⟩
        case measure => simp [intOf]; omega
    · have hq : decide ((k : Int) < T.length) = false := by simp; omega
      obtain rfl : k = T.length := by omega
      have hm : midL (addrTok r) T T.length = T.map (addrTok r) := by unfold midL; simp
      rw [hm] at HO
      have hMl : (T.map (addrTok r)).length = T.length := by simp
      have hmem : ∀ t ∈ T.map (addrTok r), t.length ≤ 65 := by
        intro t ht
        obtain ⟨x, hx, rfl⟩ := List.mem_map.1 ht
        exact addrTok_len G3.out x (HTL.out x hx)
      obtain ⟨M, hM⟩ : ∃ M, T.map (addrTok r) = M := ⟨_, rfl⟩
      rw [hM] at HO hMl hmem HF
      have hjl := join_le (order2 M) (fun t ht => hmem t (order2_mem ht))
      have hol := order2_len M
      have HVM := Lib.hid (HO.out.1.vec T.length (by omega))
      rw [hMl] at HVM
      have HML := Lib.hid hMl
      have HWr := Lib.hid (HO.out.2.1.mono HB2.out.size)
      have HW := Lib.hid (HB2.out.trans (HO.out.2.1.mono HB2.out.size))
      have hjb : (joinL (order2 M)).length ≤ 1000000 := by
        have : (order2 M).length * 66 ≤ 130 * 66 := Nat.mul_le_mul_right 66 (by omega)
        omega
      have hol' : (order2 M).length ≤ 1000 := by omega
      have hM2 : M.length ≤ 100 := by omega
      clear hm hM hmem hjl hol hMl HO
      go_wp2_with fail
      refine (part_any Any1 _ M _ HVM.out (by omega)).mono ?_
      rintro e w6 ⟨u, v, rfl, h2⟩
      obtain ⟨o1, o2, o3, o4⟩ := h2
      obtain ⟨i0, hi0, hz0, hz1, hz2⟩ := info_parts infoS
      have hyl := List.length_filter_le numB M
      have hnl := List.length_filter_le (fun x => !numB x) M
      have hord : order2 M = (M.filter fun x => !numB x) ++ M.filter numB := rfl
      obtain ⟨Y, hY⟩ : ∃ Y, M.filter numB = Y := ⟨_, rfl⟩
      obtain ⟨N, hN⟩ : ∃ N, (M.filter fun x => !numB x) = N := ⟨_, rfl⟩
      rw [hY] at o1 hyl hord
      rw [hN] at o2 hnl hord
      have HW6 := Lib.hid (HW.out.trans (o4.mono HW.out.size))
      have hbz := o4.size
      have O2 := Lib.hid o2
      have HO4 := Lib.hid o4
      clear hY hN o3 o4 HW
      rcases o1 with ⟨o1l, ⟨rfl, h0⟩ | ⟨g, cap, cur, rfl, hg, hh, hn1, hc1, hsz, ht1⟩⟩
      · have hY0 : Y = [] := List.length_eq_zero_iff.1 h0
        subst hY0
        rw [List.append_nil] at hord
        have HV7 := Lib.hid (Vec.owns (S := Any1) (k := 1) (enc := encS) (fun _ => rfl) o2 (fun _ _ _ => trivial))
        clear o1l h0 o2
        rw [hord] at HF hjb hol'
        have HW7 := HW6
        go_wp2_with (at_builtin; refine wpList_append_own_none rfl _ _ 28 rfl _ 9 i0 1 Tryz.underlying28 hi0 _ _ _ rfl O2.out rfl ?_)
        refine (join_any Any1 _ N _ HV7.out (by omega) (by omega)).mono ?_
        rintro e w9 ⟨rfl, hb9⟩
        rw [← hord] at HF hjb ⊢
        clear hord hol'
        have HW9 := Lib.hid (HW7.out.trans (hb9.mono HW7.out.size)); clear hb9
        obtain ⟨J, hJ⟩ : ∃ J, joinL (order2 M) = J := ⟨_, rfl⟩
        rw [hJ] at HF hjb ⊢
        clear hJ
        by_cases g1 : 6 < T.length
        · have d1 : decide ((6 : Int) < T.length) = true := by simp; omega
          rw [if_pos (.inl g1)] at HF
          go_wp2_with fail
          go_ret2
          exact ⟨by rw [HF.out]; rfl, HW9.out⟩
        · have d1 : decide ((6 : Int) < T.length) = false := by simp; omega
          by_cases g2 : 64 < J.length
          · have d2 : decide ((64 : Int) < J.length) = true := by simp; omega
            rw [if_pos (.inr g2)] at HF
            go_wp2_with fail
            go_ret2
            exact ⟨by rw [HF.out]; rfl, HW9.out⟩
          · have d2 : decide ((64 : Int) < J.length) = false := by simp; omega
            rw [if_neg (by omega)] at HF
            go_wp2_with fail
            go_ret2
            exact ⟨by rw [HF.out]; rfl, HW9.out⟩
      · have hcells : ∀ j u, (Y.flatMap encS)[j]? = some u → w6.cell? ((⟨g, 0, none⟩ : Addr).add j) = some u := by
          intro j u hu
          have : (⟨g, 0, none⟩ : Addr).add j = ⟨g, j, none⟩ := by unfold Addr.add; split <;> simp_all
          rw [this, cell_of_row _ _ _ _ _ _ hh]
          rw [← ht1, List.getElem?_take] at hu
          split at hu
          · rw [← Array.getElem?_toList]; exact hu
          · cases hu
        have HCl := Lib.hid hcells
        have hone : ∀ u ∈ Y.flatMap encS, u.oneCell' = true := by
          intro u hu
          obtain ⟨y, _, hy⟩ := List.mem_flatMap.1 hu
          simp at hy; subst hy; rfl
        have HOne := Lib.hid hone
        have hYb : N.length + Y.length ≤ 1000 := by omega
        have hmx : N.length + Y.length ≤ maxLen := size_le_maxLen (by omega)
        have HMx := Lib.hid hmx
        clear o1l hg hh hn1 hc1 hsz ht1 hcells hone o2 hmx
        go_wp2_with (at_builtin; refine wpList_append_own _ rfl _ _ 28 rfl wr.heap.size 9 i0 (.string ⟨#[]⟩) 1 16 Tryz.underlying28 hi0 hz0 hz1 hz2 rfl (by decide) _ _ _ rfl O2.out ⟨g, 0, none⟩ Y.length cap (Y.flatMap encS) rfl (by rw [flat_len1]; omega) HCl.out HOne.out HMx.out (by omega) hbz ?_; intro v7 w7 ho7 hg7 _)
        rw [show N.length + Y.length = (N ++ Y).length by simp, ← List.flatMap_append, ← hord] at ho7
        have HV7 := Lib.hid (Vec.owns (S := Any1) (k := 1) (enc := encS) (fun _ => rfl) ho7 (fun _ _ _ => trivial))
        have hbw7 : Below wr.heap.size wr w7 := HO4.out.grown hg7 hbz (fun j hj => (O2.out.lt j hj).1)
        have HW7 := Lib.hid ((HB2.out.trans HWr.out).trans (hbw7.mono (HB2.out.trans HWr.out).size))
        clear ho7 hg7 hbw7 HCl HOne HMx
        refine (join_any Any1 _ (order2 M) _ HV7.out (by omega) (by omega)).mono ?_
        rintro e w9 ⟨rfl, hb9⟩
        clear hord hol'
        have HW9 := Lib.hid (HW7.out.trans (hb9.mono HW7.out.size)); clear hb9
        obtain ⟨J, hJ⟩ : ∃ J, joinL (order2 M) = J := ⟨_, rfl⟩
        rw [hJ] at HF hjb ⊢
        clear hJ
        by_cases g1 : 6 < T.length
        · have d1 : decide ((6 : Int) < T.length) = true := by simp; omega
          rw [if_pos (.inl g1)] at HF
          go_wp2_with fail
          go_ret2
          exact ⟨by rw [HF.out]; rfl, HW9.out⟩
        · have d1 : decide ((6 : Int) < T.length) = false := by simp; omega
          by_cases g2 : 64 < J.length
          · have d2 : decide ((64 : Int) < J.length) = true := by simp; omega
            rw [if_pos (.inr g2)] at HF
            go_wp2_with fail
            go_ret2
            exact ⟨by rw [HF.out]; rfl, HW9.out⟩
          · have d2 : decide ((64 : Int) < J.length) = false := by simp; omega
            rw [if_neg (by omega)] at HF
            go_wp2_with fail
            go_ret2
            exact ⟨by rw [HF.out]; rfl, HW9.out⟩
end Go.Proofs.YtdckkggmmakfiaaGreatDoor
end
section
/- address.Normalise, Normal, Code, Normed. -/
set_option linter.unusedSimpArgs false
set_option linter.unusedVariables false
set_option maxRecDepth 100000
namespace Go.Proofs.YtdckkggmmakfiaaGreatDoor
open Go.RowKit
attribute [local go_sem] toList_mk mk_size
set_option maxHeartbeats 1000000 in
theorem addr_no (S : Nat → Prop) (vt vn vs : Value) (r : RulesL) (s : ByteArray) (w : World) (h : RulesAt w S vt vn vs r) (hs : s.size ≤ 9223372036854775000) (hc : checkR r = 0) (hv : foldV s.data.toList = false) :
    Calls Tryz.prog 154 #[.agg #[vt, vn, vs], .string s] w fun e w' => e = .returned (pairV (addrN r s.data.toList)) ∧ Below w.heap.size w w' := by
  have HR := Lib.hid h.any
  have HC := Lib.hid hc; have HV := Lib.hid hv
  clear h hc hv
  have HF := Lib.hid (show addrN r s.data.toList = ([], 3) by unfold addrN; rw [if_pos HC.out, if_neg (by rw [HV.out]; simp)])
  go_enter Tryz.func154, Tryz.ntmps154
  go_wp2_with fail
  refine (rcheck_any Any1 vt vn vs r _ (HR.out.below ((Below.refl _ _).alloc (Nat.le_refl _) _))).mono ?_
  rw [HC.out]
  rintro e w1 ⟨rfl, hb1⟩
  have HB1 := Lib.hid (((Below.refl w.heap.size w).alloc (Nat.le_refl _) _).trans (hb1.mono (by simp)))
  clear hb1
  go_wp2_with fail
  refine (fold_no s _ hs HV.out).mono ?_
  rintro e w2 ⟨rfl, hb2⟩
  have HB2 := Lib.hid (HB1.out.trans (hb2.mono HB1.out.size))
  clear hb2 HB1
  go_wp2_with fail
  go_ret2
  exact ⟨by rw [HF.out]; rfl, HB2.out⟩
set_option maxHeartbeats 1000000 in
theorem addr_bad (S : Nat → Prop) (vt vn vs : Value) (r : RulesL) (s : ByteArray) (w : World) (h : RulesAt w S vt vn vs r) (hc : checkR r ≠ 0) :
    Calls Tryz.prog 154 #[.agg #[vt, vn, vs], .string s] w fun e w' => e = .returned (pairV (addrN r s.data.toList)) ∧ Below w.heap.size w w' := by
  have HR := Lib.hid h.any
  have HF := Lib.hid (show addrN r s.data.toList = ([], checkR r) by unfold addrN; rw [if_neg hc])
  have hne : (checkR r != 0) = true := by simpa using hc
  clear h hc
  go_enter Tryz.func154, Tryz.ntmps154
  go_wp2_with fail
  refine (rcheck_any Any1 vt vn vs r _ (HR.out.below ((Below.refl _ _).alloc (Nat.le_refl _) _))).mono ?_
  obtain ⟨c, hcc⟩ : ∃ c, checkR r = c := ⟨_, rfl⟩
  rw [hcc] at hne HF ⊢
  clear hcc
  rintro e w1 ⟨rfl, hb1⟩
  have HB1 := Lib.hid (((Below.refl w.heap.size w).alloc (Nat.le_refl _) _).trans (hb1.mono (by simp)))
  clear hb1
  go_wp2_with fail
  go_ret2
  exact ⟨by rw [HF.out]; rfl, HB1.out⟩
theorem addr_any (S : Nat → Prop) (vt vn vs : Value) (r : RulesL) (s : ByteArray) (w : World) (h : RulesAt w S vt vn vs r) (hs : s.size ≤ 9223372036854775000) :
    Calls Tryz.prog 154 #[.agg #[vt, vn, vs], .string s] w fun e w' => e = .returned (pairV (addrN r s.data.toList)) ∧ Below w.heap.size w w' := by
  by_cases hc : checkR r = 0
  · cases hv : foldV s.data.toList with
    | true => exact addr_yes S vt vn vs r s w h hc hv
    | false => exact addr_no S vt vn vs r s w h hs hc hv
  · exact addr_bad S vt vn vs r s w h hc
set_option maxHeartbeats 1000000 in
theorem anormal_any (S : Nat → Prop) (vt vn vs : Value) (r : RulesL) (s : ByteArray) (w : World) (h : RulesAt w S vt vn vs r) (hs : s.size ≤ 9223372036854775000) :
    Calls Tryz.prog 155 #[.agg #[vt, vn, vs], .string s] w fun e w' => e = .returned (.bool (isOwn (addrN r s.data.toList) s.data.toList)) ∧ Below w.heap.size w w' := by
  have HR := Lib.hid h.any; clear h
  have HS := Lib.hid (Lib.toList_data s)
  go_enter Tryz.func155, Tryz.ntmps155
  go_wp2_with fail
  refine (addr_any Any1 vt vn vs r s _ (HR.out.below ((Below.refl _ _).alloc (Nat.le_refl _) _)) hs).mono ?_
  obtain ⟨p, hp⟩ : ∃ p, addrN r s.data.toList = p := ⟨_, rfl⟩
  rw [hp]
  have HP := Lib.hid hp; clear hp
  obtain ⟨pl, pe⟩ := p
  unfold pairV
  rintro e w1 ⟨rfl, hb1⟩
  have HB1 := Lib.hid (((Below.refl w.heap.size w).alloc (Nat.le_refl _) _).trans (hb1.mono (by simp)))
  clear hb1
  cases he : (pe == 0)
  all_goals
    go_wp2_with fail
    go_ret
    refine ⟨ret_bool ?_, HB1.out⟩
    rw [HP.out]
    simp [isOwn, he, HS.out]
def codeN (l : List UInt8) : List UInt8 × Int :=
  if foldV l = true then (if 12 < (toks (foldL l)).flatten.length then ([], 1) else ((toks (foldL l)).flatten, 0)) else ([], 3)
theorem join_flat (L : List (List UInt8)) : Lib.join L [] = L.flatten := by
  induction L with
  | nil => rfl
  | cons a L ih =>
    rw [Lib.join_cons, List.flatten_cons]
    congr 1
    unfold Lib.joinTail
    simp
theorem flat_le (l : List UInt8) : ∀ p, (toksA p l).flatten.length ≤ p.length + l.length := by
  induction l with
  | nil => intro p; simp only [toksA]; split <;> simp
  | cons c l ih =>
    intro p
    by_cases hc : c = 32
    · subst hc
      by_cases hp : p = []
      · subst hp; rw [toksA_sp0]; have := ih []; simp at *; omega
      · rw [toksA_sp _ _ hp]; have := ih []; simp at *; omega
    · rw [toksA_ch _ _ _ hc]; have := ih (p ++ [c]); simp at *; omega
set_option maxHeartbeats 1000000 in
theorem code_any (s : ByteArray) (w : World) (hs : s.size ≤ 9223372036854775000) :
    Calls Tryz.prog 150 #[.string s] w fun e w' => e = .returned (pairV (codeN s.data.toList)) ∧ Below w.heap.size w w' := by
  cases hv : foldV s.data.toList
  · have HV := Lib.hid hv
    have HF := Lib.hid (show codeN s.data.toList = ([], 3) by unfold codeN; rw [if_neg (by rw [hv]; simp)])
    clear hv
    go_enter Tryz.func150, Tryz.ntmps150
    go_wp2_with fail
    refine (fold_no s _ hs HV.out).mono ?_
    rintro e w2 ⟨rfl, hb2⟩
    go_wp2_with fail
    go_ret2
    exact ⟨by rw [HF.out]; rfl, hb2⟩
  · have hs64 : s.size ≤ 64 := by
      have := foldV_len hv
      have h2 : s.data.toList.length = s.size := by simp
      omega
    have hfl : (foldL s.data.toList).length ≤ 64 := by
      have := fold_len s.data.toList
      have h2 : s.data.toList.length = s.size := by simp
      omega
    have HV := Lib.hid hv
    have hfin : codeN s.data.toList = (if 12 < (toks (foldL s.data.toList)).flatten.length then ([], 1) else ((toks (foldL s.data.toList)).flatten, 0)) := by
      unfold codeN; rw [if_pos hv]
    clear hv
    obtain ⟨fl, hfl'⟩ : ∃ fl, foldL s.data.toList = fl := ⟨_, rfl⟩
    have HA := Lib.hid (show ascii fl from hfl' ▸ fold_ascii _)
    rw [hfl'] at hfl hfin
    have HFl := Lib.hid hfl'
    have HF := Lib.hid hfin; clear hfin hfl'
    go_enter Tryz.func150, Tryz.ntmps150
    go_wp2_with fail
    refine (fold_yes s _ (by omega) HV.out).mono ?_
    rw [HFl.out]
    rintro e w2 ⟨rfl, hb2⟩
    have HB2 := Lib.hid hb2; clear hb2
    go_wp2_with fail
    refine (tokens_any fl _ HA.out (by omega)).mono ?_
    rintro e w4 ⟨A, rfl, hA, ho, hb4⟩
    have hrow := (own_block ho).2
    have HB4 := Lib.hid (HB2.out.trans (hb4.mono HB2.out.size))
    have htn : (toks fl).length ≤ 65 := by have := (toksA_len fl []).2.1; unfold toks; omega
    have hfle : (toks fl).flatten.length ≤ 64 := by have := flat_le fl []; simp at this; unfold toks; simp; omega
    obtain ⟨T, hT⟩ : ∃ T, toks fl = T := ⟨_, rfl⟩
    rw [hT] at hrow htn hfle HF ⊢
    have hjj : Lib.join ((T.map mkS).map (·.data.toList)) [] = T.flatten := by
      rw [List.map_map, ← join_flat]; congr 1; conv => rhs; rw [← List.map_id T]
      exact List.map_congr_left fun x _ => by simp [mkS]
    have hj := Tryz.strings_Join A 0 T.length (T.map mkS) ⟨#[]⟩ w4 (fun j x hx => by
        rw [List.getElem?_map] at hx
        obtain ⟨y, hy, rfl⟩ := Option.map_eq_some_iff.1 hx
        have hj' : j < T.length := (List.getElem?_eq_some_iff.1 hy).1
        have := hrow.cell j hj'
        rw [List.getD, hy] at this
        simpa [mkS] using this) (lt_of_blk hrow) (by simp; omega) (by simp) (by rw [show (⟨#[]⟩ : ByteArray).data.toList = [] from rfl, hjj]; omega)
    rw [show (⟨#[]⟩ : ByteArray).data.toList = [] from rfl, hjj, List.length_map] at hj
    have HJ := Lib.hid hj
    clear hb4 ho hrow hT hA hj hjj HB2
    go_wp2_with fail
    refine HJ.out.mono ?_
    obtain ⟨J, hJ⟩ : ∃ J, T.flatten = J := ⟨_, rfl⟩
    rw [hJ] at HF hfle ⊢
    clear hJ HJ
    rintro e w5 ⟨rfl, hb5⟩
    have HB5 := Lib.hid (HB4.out.trans (hb5.mono HB4.out.size)); clear hb5 HB4
    by_cases g1 : 12 < J.length
    · have d1 : decide ((12 : Int) < J.length) = true := by simp; omega
      rw [if_pos g1] at HF
      go_wp2_with fail
      go_ret2
      exact ⟨by rw [HF.out]; rfl, HB5.out⟩
    · have d1 : decide ((12 : Int) < J.length) = false := by simp; omega
      rw [if_neg g1] at HF
      go_wp2_with fail
      go_ret2
      exact ⟨by rw [HF.out]; rfl, HB5.out⟩
set_option maxHeartbeats 1000000 in
theorem normed_any (s : ByteArray) (w : World) (hs : s.size ≤ 9223372036854775000) :
    Calls Tryz.prog 152 #[.string s] w fun e w' => e = .returned (.bool (isOwn (codeN s.data.toList) s.data.toList)) ∧ Below w.heap.size w w' := by
  have HS := Lib.hid (Lib.toList_data s)
  go_enter Tryz.func152, Tryz.ntmps152
  go_wp2_with fail
  refine (code_any s _ hs).mono ?_
  obtain ⟨p, hp⟩ : ∃ p, codeN s.data.toList = p := ⟨_, rfl⟩
  rw [hp]
  have HP := Lib.hid hp; clear hp
  obtain ⟨pl, pe⟩ := p
  unfold pairV
  rintro e w1 ⟨rfl, hb1⟩
  have HB1 := Lib.hid hb1
  clear hb1
  cases he : (pe == 0)
  all_goals
    go_wp2_with fail
    go_ret
    refine ⟨ret_bool ?_, HB1.out⟩
    rw [HP.out]
    simp [isOwn, he, HS.out]
end Go.Proofs.YtdckkggmmakfiaaGreatDoor
end
section
/- Decimal digits: their value, their order as texts; the eight digits of a date. -/
set_option linter.unusedSimpArgs false
set_option linter.unusedVariables false
set_option maxRecDepth 100000
namespace Go.Proofs.YtdckkggmmakfiaaGreatDoor
open Go.RowKit Cal
def isDig (l : List UInt8) : Prop := ∀ c ∈ l, 48 ≤ c.toNat ∧ c.toNat ≤ 57
def valD : List UInt8 → Nat
  | [] => 0
  | c :: cs => (c.toNat - 48) * 10 ^ cs.length + valD cs
theorem valD_lt (l : List UInt8) (h : isDig l) : valD l < 10 ^ l.length := by
  induction l with
  | nil => simp [valD]
  | cons c cs ih =>
    have h1 := h c (by simp)
    have h2 := ih fun x hx => h x (by simp [hx])
    simp only [valD, List.length_cons, Nat.pow_succ]
    have : (c.toNat - 48) * 10 ^ cs.length ≤ 9 * 10 ^ cs.length := Nat.mul_le_mul_right _ (by omega)
    omega
theorem valD_append (l r : List UInt8) : valD (l ++ r) = valD l * 10 ^ r.length + valD r := by
  induction l with
  | nil => simp [valD]
  | cons c cs ih => simp only [List.cons_append, valD, ih, List.length_append, Nat.pow_add, Nat.add_mul]; rw [Nat.mul_assoc]; omega
theorem numFrom_dig (l : List UInt8) (h : isDig l) : ∀ n : Nat, numFrom (n : Int) l = some ((n * 10 ^ l.length + valD l : Nat) : Int) := by
  induction l with
  | nil => intro n; simp [numFrom, valD]
  | cons c cs ih =>
    intro n
    have h1 := h c (by simp)
    have h2 := ih fun x hx => h x (by simp [hx])
    have e : (10 * (n : Int) + ((c.toNat : Int) - 48)) = ((10 * n + (c.toNat - 48) : Nat) : Int) := by omega
    rw [numFrom, if_pos (by omega), e, h2]
    congr 2
    simp only [valD, List.length_cons, Nat.pow_succ, Nat.add_mul]
    have : 10 * n * 10 ^ cs.length = n * (10 ^ cs.length * 10) := by rw [Nat.mul_comm 10 n, Nat.mul_assoc, Nat.mul_comm 10]
    omega
theorem numI_dig (l : List UInt8) (h : isDig l) : numI l = valD l := by
  unfold numI
  have := numFrom_dig l h 0
  simp only [Int.natCast_zero] at this
  rw [show (0 : Int) = ((0 : Nat) : Int) from rfl, numFrom_dig l h 0]
  simp
theorem bytesLess_dig (l : List UInt8) : ∀ r : List UInt8, isDig l → isDig r → l.length = r.length → Op.bytesLess l r = decide (valD l < valD r) := by
  induction l with
  | nil =>
    intro r _ _ hl
    have : r = [] := List.length_eq_zero_iff.1 hl.symm
    subst this
    simp [Op.bytesLess, valD]
  | cons c cs ih =>
    intro r h1 h2 hl
    cases r with
    | nil => simp at hl
    | cons e es =>
      have hl' : cs.length = es.length := by simpa using hl
      have a1 := h1 c (by simp)
      have a2 := h2 e (by simp)
      have b1 := valD_lt cs fun x hx => h1 x (by simp [hx])
      have b2 := valD_lt es fun x hx => h2 x (by simp [hx])
      have hih := ih es (fun x hx => h1 x (by simp [hx])) (fun x hx => h2 x (by simp [hx])) hl'
      rw [hl'] at b1
      rw [Op.bytesLess, hih]
      simp only [valD, hl', UInt8.lt_iff_toNat_lt]
      rw [Bool.eq_iff_iff]
      simp only [decide_eq_true_eq, Bool.or_eq_true, Bool.and_eq_true, beq_iff_eq]
      generalize 10 ^ es.length = p at *
      rcases Nat.lt_trichotomy c.toNat e.toNat with hlt | heq | hgt
      · have : (c.toNat - 48 + 1) * p ≤ (e.toNat - 48) * p := Nat.mul_le_mul_right _ (by omega)
        rw [Nat.add_mul] at this
        simp [hlt]; omega
      · have hce : c = e := UInt8.toNat_inj.1 heq
        subst hce
        simp
      · have : (e.toNat - 48 + 1) * p ≤ (c.toNat - 48) * p := Nat.mul_le_mul_right _ (by omega)
        rw [Nat.add_mul] at this
        have hne : c ≠ e := fun h => by subst h; omega
        simp [hne, Nat.not_lt.2 (Nat.le_of_lt hgt)]; omega
theorem dg_len (k : Nat) : ∀ n, (dg n k).length = k := by
  induction k with
  | zero => intro n; rfl
  | succ k ih => intro n; simp [dg, ih]
theorem dg_dig (k : Nat) : ∀ n : Int, 0 ≤ n → isDig (dg n k) := by
  induction k with
  | zero => intro n _ c hc; simp [dg] at hc
  | succ k ih =>
    intro n hn c hc
    simp only [dg, List.mem_append, List.mem_singleton] at hc
    rcases hc with hc | rfl
    · exact ih (n / 10) (by omega) c hc
    · have : (UInt8.ofNat (48 + (n % 10).toNat)).toNat = 48 + (n % 10).toNat := by rw [UInt8.toNat_ofNat']; omega
      omega
theorem dg_val (k : Nat) : ∀ n : Int, 0 ≤ n → n < 10 ^ k → (valD (dg n k) : Int) = n := by
  induction k with
  | zero => intro n h0 h1; simp at h1; simp [dg, valD]; omega
  | succ k ih =>
    intro n hn h1
    have e : (UInt8.ofNat (48 + (n % 10).toNat)).toNat = 48 + (n % 10).toNat := by rw [UInt8.toNat_ofNat']; omega
    have h2 : n / 10 < 10 ^ k := by rw [Int.pow_succ] at h1; omega
    have := ih (n / 10) (by omega) h2
    simp only [dg, valD_append, valD, List.length_cons, List.length_nil, e]
    simp
    omega
theorem isDig_append {l r : List UInt8} (h : isDig l) (h' : isDig r) : isDig (l ++ r) := fun c hc => by
  rcases List.mem_append.1 hc with hc | hc
  · exact h c hc
  · exact h' c hc
theorem digits8_dig {y m d : Int} (h : vldB y m d = true) : isDig (digits8 y m d) := by
  have := vld_bd h
  exact isDig_append (isDig_append (dg_dig 4 y (by omega)) (dg_dig 2 m (by omega))) (dg_dig 2 d (by omega))
theorem digits8_len (y m d : Int) : (digits8 y m d).length = 8 := by simp [digits8, dg_len]
theorem digits8_val {y m d : Int} (h : vldB y m d = true) : (valD (digits8 y m d) : Int) = y * 10000 + m * 100 + d := by
  have b := vld_bd h
  have e1 := dg_val 4 y (by omega) (by omega)
  have e2 := dg_val 2 m (by omega) (by omega)
  have e3 := dg_val 2 d (by omega) (by omega)
  simp only [digits8, valD_append, dg_len]
  simp
  omega
theorem fmt_less {y m d y' m' d' : Int} (h : vldB y m d = true) (h' : vldB y' m' d' = true) :
    Op.bytesLess (digits8 y m d) (digits8 y' m' d') = decide (num y m d < num y' m' d') := by
  rw [bytesLess_dig _ _ (digits8_dig h) (digits8_dig h') (by rw [digits8_len, digits8_len])]
  have e1 := digits8_val h
  have e2 := digits8_val h'
  have b := vld_bd h
  have b' := vld_bd h'
  have c := num_lt _ _ _ _ _ _ h h'
  rw [Bool.eq_iff_iff]
  simp only [decide_eq_true_eq]
  rw [c]
  omega
end Go.Proofs.YtdckkggmmakfiaaGreatDoor
end
section
/- recordlinkmake: Mod, two and Written: a date written in one of three forms. -/
set_option linter.unusedSimpArgs false
set_option linter.unusedVariables false
set_option maxRecDepth 100000
namespace Go.Proofs.YtdckkggmmakfiaaGreatDoor
open Go.RowKit Cal
attribute [local go_sem] dg_len
@[local go_sem] theorem bytes_append (a b : List UInt8) : (⟨a.toArray⟩ : ByteArray) ++ ⟨b.toArray⟩ = ⟨(a ++ b).toArray⟩ := by
  apply ByteArray.ext; simp
theorem ret_str {a b : List UInt8} (h : a = b) : Ending.returned (.string ⟨a.toArray⟩) = .returned (.string ⟨b.toArray⟩) := by rw [h]
theorem dgb (n : Int) (h : 0 ≤ n) : byteV (UInt8.ofNat (48 + (n % 10).toNat)) = .int .u8 (48 + n % 10) := by
  have : (UInt8.ofNat (48 + (n % 10).toNat)).toNat = 48 + (n % 10).toNat := by rw [UInt8.toNat_ofNat']; omega
  unfold byteV; rw [this]; congr 1; omega
theorem owns_new {w : World} {B : Nat} {e : TypeId} (l : List UInt8) (hB : B ≤ w.heap.size) (hl : l.length ≤ 1000) :
    (w.alloc (.cells (l.map byteV).toArray e)).ownsRow B e 1 (.slice (some ⟨w.heap.size, 0, none⟩) l.length l.length) l.length (l.map byteV) :=
  ⟨by simp, .inr ⟨_, _, _, rfl, hB, blk_new rfl, Nat.le_refl _, size_le_maxLen (by omega), by simp, by rw [List.take_of_length_le (by simp)]⟩⟩
set_option maxHeartbeats 400000 in
theorem two_any (n : Int) (w : World) (h0 : 0 ≤ n) (h1 : n ≤ 99) :
    Calls Tryz.prog 61 #[.int .i64 n] w fun e w' => e = .returned (.string ⟨(dg n 2).toArray⟩) ∧ Below w.heap.size w w' := by
  have ha : 0 ≤ n / 10 % 10 ∧ n / 10 % 10 ≤ 9 := by omega
  have hb : 0 ≤ n % 10 ∧ n % 10 ≤ 9 := by omega
  obtain ⟨ha1, ha2⟩ := ha
  obtain ⟨hb1, hb2⟩ := hb
  have hcv : ∀ w : World, (convert 84 9 (.slice (some ⟨w.heap.size, 0, none⟩) 2 2)).run Tryz.prog (w.alloc (.cells #[.int .u8 (48 + n / 10 % 10), .int .u8 (48 + n % 10)] 5)) = .ok (.string ⟨(dg n 2).toArray⟩) (w.alloc (.cells #[.int .u8 (48 + n / 10 % 10), .int .u8 (48 + n % 10)] 5)) := by
    intro w
    have ho := owns_new (w := w) (B := 0) (e := 5) (dg n 2) (Nat.zero_le _) (by rw [dg_len]; omega)
    rw [dg_len] at ho
    have e1 : (dg n 2).map byteV = [.int .u8 (48 + n / 10 % 10), .int .u8 (48 + n % 10)] := by
      simp only [dg, List.nil_append, List.cons_append, List.map_cons, List.map_nil]
      rw [dgb _ (by omega), dgb _ h0]
    rw [e1] at ho
    exact run_convert_owned (dg n 2) (by rw [e1]; exact ho) Tryz.underlying84 Tryz.underlying5 Tryz.underlying9
  go_enter Tryz.func61, Tryz.ntmps61
  go_wp2
  go_ret
  exact ⟨rfl, (Below.refl _ _).alloc (Nat.le_refl _) _⟩

theorem dg_two (n : Int) : dg n 4 = dg (n / 100) 2 ++ dg n 2 := by
  simp only [dg, List.nil_append, List.append_assoc]
  have e1 : n / 10 / 10 = n / 100 := by omega
  rw [e1]
theorem dg_mod (n : Int) (h : 0 ≤ n) : dg (n % 100) 2 = dg n 2 := by
  simp only [dg, List.nil_append]
  have e1 : n % 100 / 10 % 10 = n / 10 % 10 := by omega
  have e2 : n % 100 % 10 = n % 10 := by omega
  rw [e1, e2]
/-- a date in one of three forms -/
def writtenL (y m d form : Int) : List UInt8 :=
  if form = 0 then dg y 4 ++ [45] ++ dg m 2 ++ [45] ++ dg d 2 else if form = 1 then dg d 2 ++ [46] ++ dg m 2 ++ [46] ++ dg y 4 else dg m 2 ++ [47] ++ dg d 2 ++ [47] ++ dg y 4
set_option maxHeartbeats 400000 in
theorem mod_any (x n : Int) (w : World) (hx : 0 ≤ x) (hx2 : x ≤ 1000000000000) (hn : 1 ≤ n) (hn2 : n ≤ 1000000000) :
    Calls Tryz.prog 62 #[.int .i64 x, .int .i64 n] w fun e w' => e = .returned (.int .i64 (x % n)) ∧ w = w' := by
  have h1 : 0 ≤ x % n := Int.emod_nonneg _ (by omega)
  have h2 : x % n < n := Int.emod_lt_of_pos _ (by omega)
  have h3 : 0 ≤ x % n + n := by omega
  have H4 := Lib.hid (show (x % n + n) % n = x % n by rw [Int.add_emod_right]; exact Int.emod_eq_of_lt h1 h2)
  go_enter Tryz.func62, Tryz.ntmps62
  go_wp2
  go_ret
  exact ⟨ret_int (by have := H4.out; simp [this]), rfl⟩
set_option maxHeartbeats 1000000 in
theorem written_any (y m d form : Int) (w : World) (hb : 1800 ≤ y ∧ y ≤ 2199 ∧ 0 ≤ m ∧ m ≤ 13 ∧ 1 ≤ d ∧ d ≤ 32) (hf : 0 ≤ form ∧ form ≤ 2) :
    Calls Tryz.prog 39 #[.agg #[.int .i64 y, .int .i64 m, .int .i64 d], .int .i64 form] w fun e w' => e = .returned (.string ⟨(writtenL y m d form).toArray⟩) ∧ Below w.heap.size w w' := by
  obtain ⟨b1, b2, b3, b4, b5, b6⟩ := hb
  obtain ⟨f1, f2⟩ := hf
  have q1 : 0 ≤ y / 100 ∧ y / 100 ≤ 99 := by omega
  have q2 : 0 ≤ y % 100 ∧ y % 100 ≤ 99 := by omega
  obtain ⟨q1, q1'⟩ := q1
  obtain ⟨q2, q2'⟩ := q2
  have HM := fun w => Lib.hid (mod_any form 3 w f1 (by omega) (by omega) (by omega))
  rw [show form % 3 = form by omega] at HM
  go_enter Tryz.func39, Tryz.ntmps39
  go_wp2_with fail
  have m99 : m ≤ 99 := by omega
  have d99 : d ≤ 99 := by omega
  have d0 : 0 ≤ d := by omega
  have e1 : IntKind.i64.wrap (y.tdiv 100) = y / 100 := by rw [Int.tdiv_eq_ediv_of_nonneg (by omega)]; exact IntWalk.i64_in _ ⟨by omega, by omega⟩
  have e2 : y.tmod 100 = y % 100 := Int.tmod_eq_emod_of_nonneg (by omega)
  refine wp_region_noPanic ?_
  refine wp_region_held_drew (S := (fun w' => w'.cell? ⟨w.heap.size, 0, none⟩ = some (.int .i64 y) ∧ w'.cell? ⟨w.heap.size, 1, none⟩ = some (.int .i64 m) ∧ w'.cell? ⟨w.heap.size, 2, none⟩ = some (.int .i64 d))) (by kernel_rfl) (⟨by simp, by simp, by simp⟩) (fun hHeld => ?_)
  refine wpAnyH_take (i := 0) (v := ?_) rfl (by kernel_rfl) (by kernel_rfl) (by kernel_rfl) (fun _ _ _ h => h) (Or.inl ⟨by rfl, ?_⟩) (by assumption) ?_
  rotate_left 1
  · (intro wS hSw; (try dsimp only at hSw); go_simp; try with_reducible rfl)
  try simp only [List.getElem_toArray, List.getElem_cons_zero, List.getElem_cons_succ, Act.put, List.setIfInBounds_toArray, List.set_cons_zero, List.set_cons_succ]
  refine wpAnyH_take (i := 1) (v := ?_) rfl (by kernel_rfl) (by kernel_rfl) (by kernel_rfl) (fun _ _ _ h => h) (Or.inl ⟨by rfl, ?_⟩) (by assumption) ?_
  rotate_left 1
  · (intro wS hSw; (try dsimp only at hSw); go_simp; try with_reducible rfl)
  try simp only [List.getElem_toArray, List.getElem_cons_zero, List.getElem_cons_succ, Act.put, List.setIfInBounds_toArray, List.set_cons_zero, List.set_cons_succ]
  refine wpAnyH_take (i := 2) (v := ?_) rfl (by kernel_rfl) (by kernel_rfl) (by kernel_rfl) (fun _ _ _ h => h) (Or.inl ⟨by rfl, ?_⟩) (by assumption) ?_
  rotate_left 1
  · (intro wS hSw; (try dsimp only at hSw); go_simp; try with_reducible rfl)
  try simp only [List.getElem_toArray, List.getElem_cons_zero, List.getElem_cons_succ, Act.put, List.setIfInBounds_toArray, List.set_cons_zero, List.set_cons_succ]
  refine wpAnyH_take (i := 4) (v := ?_) rfl (by kernel_rfl) (by kernel_rfl) (by kernel_rfl) (fun _ _ _ h => h) (Or.inl ⟨by rfl, ?_⟩) (by assumption) ?_
  rotate_left 1
  · (intro wS hSw; (try dsimp only at hSw); go_simp; try with_reducible rfl)
  try simp only [List.getElem_toArray, List.getElem_cons_zero, List.getElem_cons_succ, Act.put, List.setIfInBounds_toArray, List.set_cons_zero, List.set_cons_succ]
  refine wpAnyH_take (i := 5) (v := ?_) rfl (by kernel_rfl) (by kernel_rfl) (by kernel_rfl) (fun _ _ _ h => h) (Or.inl ⟨by rfl, ?_⟩) (by assumption) ?_
  rotate_left 1
  · (intro wS hSw; (try dsimp only at hSw); go_simp; try with_reducible rfl)
  try simp only [List.getElem_toArray, List.getElem_cons_zero, List.getElem_cons_succ, Act.put, List.setIfInBounds_toArray, List.set_cons_zero, List.set_cons_succ]
  refine wpAnyH_take (i := 6) (v := ?_) rfl (by kernel_rfl) (by kernel_rfl) (by kernel_rfl) (fun _ _ _ h => h) (Or.inl ⟨by rfl, ?_⟩) (by assumption) ?_
  rotate_left 1
  · (intro wS hSw; (try dsimp only at hSw); go_simp; try with_reducible rfl)
  try simp only [List.getElem_toArray, List.getElem_cons_zero, List.getElem_cons_succ, Act.put, List.setIfInBounds_toArray, List.set_cons_zero, List.set_cons_succ]
  refine wpAnyH_take (i := 9) (v := ?_) rfl (by kernel_rfl) (by kernel_rfl) (by kernel_rfl) (fun _ _ _ h => h) (Or.inl ⟨by rfl, ?_⟩) (by assumption) ?_
  rotate_left 1
  · (intro wS hSw; (try dsimp only at hSw); go_simp; try with_reducible rfl)
  try simp only [List.getElem_toArray, List.getElem_cons_zero, List.getElem_cons_succ, Act.put, List.setIfInBounds_toArray, List.set_cons_zero, List.set_cons_succ]
  refine wpAnyH_take (i := 10) (v := ?_) rfl (by kernel_rfl) (by kernel_rfl) (by kernel_rfl) (fun _ _ _ h => h) (Or.inl ⟨by rfl, ?_⟩) (by assumption) ?_
  rotate_left 1
  · (intro wS hSw; (try dsimp only at hSw); go_simp; try with_reducible rfl)
  try simp only [List.getElem_toArray, List.getElem_cons_zero, List.getElem_cons_succ, Act.put, List.setIfInBounds_toArray, List.set_cons_zero, List.set_cons_succ]
  refine wpAnyH_take (i := 12) (v := ?_) rfl (by kernel_rfl) (by kernel_rfl) (by kernel_rfl) (fun _ _ _ h => h) (Or.inl ⟨by rfl, ?_⟩) (by assumption) ?_
  rotate_left 1
  · (intro wS hSw; (try dsimp only at hSw); go_simp; try with_reducible rfl)
  try simp only [List.getElem_toArray, List.getElem_cons_zero, List.getElem_cons_succ, Act.put, List.setIfInBounds_toArray, List.set_cons_zero, List.set_cons_succ]
  refine wpAnyH_take (i := 13) (v := ?_) rfl (by kernel_rfl) (by kernel_rfl) (by kernel_rfl) (fun _ _ _ h => h) (Or.inl ⟨by rfl, ?_⟩) (by assumption) ?_
  rotate_left 1
  · (intro wS hSw; (try dsimp only at hSw); go_simp; try with_reducible rfl)
  try simp only [List.getElem_toArray, List.getElem_cons_zero, List.getElem_cons_succ, Act.put, List.setIfInBounds_toArray, List.set_cons_zero, List.set_cons_succ]
  refine wpAnyH_ready (rs := [3]) (by kernel_rfl) (by simp) ?_
  refine AllReadyH.cons rfl (fun K hK => ?_) AllReadyH.nil
  go_simp
  refine (two_any _ _ q1 q1').mono ?_; rintro e w1 ⟨rfl, hb1⟩; have z1 : w.heap.size < w1.heap.size := (by clear e1 e2; have := hb1.size; simp at this; omega); have HB1 := Lib.hid ((((Below.refl _ _).alloc (Nat.le_refl _) _).drew).trans (hb1.mono (by simp))); have c01 : w1.cell? ⟨w.heap.size, 0, none⟩ = some (.int .i64 y) := (hb1.cell (p := ⟨w.heap.size, 0, none⟩) (by simp)).trans (by simp); have c11 : w1.cell? ⟨w.heap.size, 1, none⟩ = some (.int .i64 m) := (hb1.cell (p := ⟨w.heap.size, 1, none⟩) (by simp)).trans (by simp); have c21 : w1.cell? ⟨w.heap.size, 2, none⟩ = some (.int .i64 d) := (hb1.cell (p := ⟨w.heap.size, 2, none⟩) (by simp)).trans (by simp); clear hb1
  refine hK.out _ _ (⟨c01, c11, c21⟩) (fun hHeld => ?_)
  clear hK K
  try simp only [List.getElem_toArray, List.getElem_cons_zero, List.getElem_cons_succ, Act.put, List.setIfInBounds_toArray, List.set_cons_zero, List.set_cons_succ]
  refine wpAnyH_ready (rs := [7]) (by kernel_rfl) (by simp) ?_
  refine AllReadyH.cons rfl (fun K hK => ?_) AllReadyH.nil
  go_simp
  refine (two_any _ _ q2 q2').mono ?_; rintro e w2 ⟨rfl, hb2⟩; have z2 : w.heap.size < w2.heap.size := (by clear e1 e2; have := hb2.size; omega); have HB2 := Lib.hid (HB1.out.trans (hb2.mono HB1.out.size)); have c02 := (hb2.cell (p := ⟨w.heap.size, 0, none⟩) z1).trans c01; have c12 := (hb2.cell (p := ⟨w.heap.size, 1, none⟩) z1).trans c11; have c22 := (hb2.cell (p := ⟨w.heap.size, 2, none⟩) z1).trans c21; clear hb2 c01 c11 c21
  refine hK.out _ _ (⟨c02, c12, c22⟩) (fun hHeld => ?_)
  clear hK K
  try simp only [List.getElem_toArray, List.getElem_cons_zero, List.getElem_cons_succ, Act.put, List.setIfInBounds_toArray, List.set_cons_zero, List.set_cons_succ]
  refine wpAnyH_take (i := 8) (v := ?_) rfl (by kernel_rfl) (by kernel_rfl) (by kernel_rfl) (fun _ _ _ h => h) (Or.inl ⟨by rfl, ?_⟩) (by assumption) ?_
  rotate_left 1
  · (intro wS hSw; (try dsimp only at hSw); go_simp; try with_reducible rfl)
  try simp only [List.getElem_toArray, List.getElem_cons_zero, List.getElem_cons_succ, Act.put, List.setIfInBounds_toArray, List.set_cons_zero, List.set_cons_succ]
  refine wpAnyH_ready (rs := [11]) (by kernel_rfl) (by simp) ?_
  refine AllReadyH.cons rfl (fun K hK => ?_) AllReadyH.nil
  go_simp
  refine (two_any _ _ b3 m99).mono ?_; rintro e w3 ⟨rfl, hb3⟩; have z3 : w.heap.size < w3.heap.size := (by clear e1 e2; have := hb3.size; omega); have HB3 := Lib.hid (HB2.out.trans (hb3.mono HB2.out.size)); have c03 := (hb3.cell (p := ⟨w.heap.size, 0, none⟩) z2).trans c02; have c13 := (hb3.cell (p := ⟨w.heap.size, 1, none⟩) z2).trans c12; have c23 := (hb3.cell (p := ⟨w.heap.size, 2, none⟩) z2).trans c22; clear hb3 c02 c12 c22
  refine hK.out _ _ (⟨c03, c13, c23⟩) (fun hHeld => ?_)
  clear hK K
  try simp only [List.getElem_toArray, List.getElem_cons_zero, List.getElem_cons_succ, Act.put, List.setIfInBounds_toArray, List.set_cons_zero, List.set_cons_succ]
  refine wpAnyH_ready (rs := [14]) (by kernel_rfl) (by simp) ?_
  refine AllReadyH.cons rfl (fun K hK => ?_) AllReadyH.nil
  go_simp
  refine (two_any _ _ d0 d99).mono ?_; rintro e w4 ⟨rfl, hb4⟩; have z4 : w.heap.size < w4.heap.size := (by clear e1 e2; have := hb4.size; omega); have HB4 := Lib.hid (HB3.out.trans (hb4.mono HB3.out.size)); have c04 := (hb4.cell (p := ⟨w.heap.size, 0, none⟩) z3).trans c03; have c14 := (hb4.cell (p := ⟨w.heap.size, 1, none⟩) z3).trans c13; have c24 := (hb4.cell (p := ⟨w.heap.size, 2, none⟩) z3).trans c23; clear hb4 c03 c13 c23
  refine hK.out _ _ (⟨c04, c14, c24⟩) (fun hHeld => ?_)
  clear hK K
  try simp only [List.getElem_toArray, List.getElem_cons_zero, List.getElem_cons_succ, Act.put, List.setIfInBounds_toArray, List.set_cons_zero, List.set_cons_succ]
  refine wpAnyH_take (i := 15) (v := ?_) rfl (by kernel_rfl) (by kernel_rfl) (by kernel_rfl) (fun _ _ _ h => h) (Or.inl ⟨by rfl, ?_⟩) (by assumption) ?_
  rotate_left 1
  · (intro wS hSw; (try dsimp only at hSw); go_simp; try with_reducible rfl)
  try simp only [List.getElem_toArray, List.getElem_cons_zero, List.getElem_cons_succ, Act.put, List.setIfInBounds_toArray, List.set_cons_zero, List.set_cons_succ]
  refine wpAnyH_take (i := 16) (v := ?_) rfl (by kernel_rfl) (by kernel_rfl) (by kernel_rfl) (fun _ _ _ h => h) (Or.inl ⟨by rfl, ?_⟩) (by assumption) ?_
  rotate_left 1
  · (intro wS hSw; (try dsimp only at hSw); go_simp; try with_reducible rfl)
  try simp only [List.getElem_toArray, List.getElem_cons_zero, List.getElem_cons_succ, Act.put, List.setIfInBounds_toArray, List.set_cons_zero, List.set_cons_succ]
  refine wpAnyH_take (i := 17) (v := ?_) rfl (by kernel_rfl) (by kernel_rfl) (by kernel_rfl) (fun _ _ _ h => h) (Or.inl ⟨by rfl, ?_⟩) (by assumption) ?_
  rotate_left 1
  · (intro wS hSw; (try dsimp only at hSw); go_simp; try with_reducible rfl)
  try simp only [List.getElem_toArray, List.getElem_cons_zero, List.getElem_cons_succ, Act.put, List.setIfInBounds_toArray, List.set_cons_zero, List.set_cons_succ]
  refine wpAnyH_done (by kernel_rfl) ?_ _
  refine NoPanic.normal ?_
  clear e1 e2
  go_wp2_with fail
  refine (HM _).out.mono ?_; rintro e w' ⟨rfl, rfl⟩
  go_wp2_with fail
  all_goals
    go_ret
    refine ⟨ret_str ?_, HB4.out⟩
    simp only [beq_iff_eq, beq_eq_false_iff_ne, ne_eq] at *
    simp [writtenL, dg_two y, dg_mod y (by omega), *]
end Go.Proofs.YtdckkggmmakfiaaGreatDoor
end
