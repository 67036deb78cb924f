/- Parts of one proof: EncC, EncD, EncF, RecA, EncE, EncG, EncLaw, EncAwake, DeckKey, RefTextA, RefTextB, FoldPlain, RefTextC, RefTextD, RefTextE. -/
import Derived.Test.YtoeplomdcannlaaGreatDoorPartEb5
set_option linter.unusedSimpArgs false
set_option linter.unusedVariables false
namespace Go.Proofs.YtoeplomdcannlaaGreatDoor
section
set_option maxRecDepth 100000
open Go.RowKit Cal
attribute [local go_sem] toList_mk mk_size str_append
/-- where the function stands that encoded hands on: what it has captured -/
structure CapAt (sb kb rb : Nat) (vf vt vn vs : Value) (s : SchemaL) (k : Int × Int) (id ver : Int) (sv : Value) (vals : List (List UInt8)) (w : World) : Prop where
  bs : w.heap[sb]? = some (.cells #[vf, vt, vn, vs] 33 (0, 0))
  bk : w.heap[kb]? = some (.cells #[.int .u64 k.1, .int .u64 k.2] 45 (0, 0))
  br : w.heap[rb]? = some (.cells #[.int .i64 id, .int .i64 ver, sv] 48 (0, 0))
  sch : SchemaAt w Any1 vf vt vn vs s
  val : Vec w Any1 1 encS sv vals
theorem CapAt.below {sb kb rb : Nat} {vf vt vn vs : Value} {s : SchemaL} {k : Int × Int} {id ver : Int} {sv : Value} {vals : List (List UInt8)} {w w' : World} (h : CapAt sb kb rb vf vt vn vs s k id ver sv vals w) (hb : Below w.heap.size w w') : CapAt sb kb rb vf vt vn vs s k id ver sv vals w' :=
  ⟨blk_below hb (lt_of_blk h.bs) h.bs, blk_below hb (lt_of_blk h.bk) h.bk, blk_below hb (lt_of_blk h.br) h.br, h.sch.below hb, h.val.below hb⟩
set_option maxHeartbeats 4000000 in
theorem clos_yes (sb kb rb : Nat) (vf vt vn vs : Value) (s : SchemaL) (p : ParL) (k : Int × Int) (id ver : Int) (sv : Value) (vals : List (List UInt8)) (i : Nat) (w : World) (h : CapAt sb kb rb vf vt vn vs s k id ver sv vals w) (hf : FieldIn s p vals i) :
    Calls Tryz.prog 95 #[.int .i64 i, .agg (parC p), .pointer (some ⟨sb, 0, none⟩), .pointer (some ⟨kb, 0, none⟩), .pointer (some ⟨rb, 0, none⟩)] w (FieldPost (fieldN s p k vals i) w) := by
  obtain ⟨a, cap, rfl⟩ := h.val.slice
  obtain ⟨B, hB⟩ : ∃ B, fieldN s p k vals i = B := ⟨_, rfl⟩
  rw [hB]
  have HBF := Lib.hid hB; have HC := Lib.hid h; have HFI := Lib.hid hf
  obtain ⟨s0, s1, s2, s3⟩ := cellsS h.bs; obtain ⟨k0, k1⟩ := cells2K h.bk; obtain ⟨r0, r1, r2⟩ := cells3 h.br
  have ls := lt_of_blk h.bs; have lk := lt_of_blk h.bk; have lr := lt_of_blk h.br
  clear h hf hB
  go_enter Tryz.func95, Tryz.ntmps95
  go_wp2_with fail
  refine wp_calls_world (fun W hW => ?_)
  have hb0 : Below w.heap.size w W := by rw [hW]; exact ((Below.refl _ _).alloc (Nat.le_refl _) _).alloc (by simp) _
  have hz0 : W.heap[w.heap.size + 1]? = some (.cells #[.int .i64 0, .slice none 0 0] 84 (0, 0)) := by rw [hW]; exact blk_new (by simp)
  clear hW
  have HB0 := Lib.hid hb0; have HZ0 := Lib.hid hz0
  clear hb0 hz0
  refine (field_yes Any1 Any1 vf vt vn vs s p k id ver _ vals i W (HC.out.sch.below HB0.out) (HC.out.val.below HB0.out) HFI.out).mono ?_
  rw [HBF.out]
  rintro e w1 ⟨_, rfl, ⟨sw, rfl, hvw⟩, hb1⟩
  have HVW := Lib.hid hvw
  obtain ⟨aw, cw, rfl⟩ := hvw.slice
  have hz1 := blk_below hb1 (lt_of_blk HZ0.out) HZ0.out
  have HB1 := Lib.hid (HB0.out.trans (hb1.mono HB0.out.size)); have HZ1 := Lib.hid hz1
  have hWz := HB0.out.size; have hWz2 := hb1.size; have hWz3 := lt_of_blk HZ0.out
  obtain ⟨z0, z1⟩ := cells2K hz1
  have f0 := frozen_of_row _ _ 0 _ _ hz1; have f1 := frozen_of_row _ _ 1 _ _ hz1
  have y1 := lt_of_blk hz1
  clear hvw hz1 hb1 s0 s1 s2 s3 k0 k1 r0 r1 r2
  go_wp2_with fail
  refine bodyPost_row2 rfl rfl (blk_set (i := 1) (v := .slice aw B.words.length cw) (blk_set (i := 0) (v := .int .i64 B.len) HZ1.out)) Tryz.underlying84 rfl (by kernel_rfl)
    ⟨_, rfl, ⟨_, rfl, ?_⟩, (HB1.out.setCell (p := ⟨w.heap.size + 1, 0, none⟩) (Nat.le_succ _) _).setCell (p := ⟨w.heap.size + 1, 1, none⟩) (Nat.le_succ _) _⟩
  refine Vec.move HVW.out (by simp [World.setCell]) fun b hb hs => ?_
  have hs' : W.heap.size ≤ b := hs
  exact ⟨(heap_setCell_other _ _ _ _ (by show b ≠ w.heap.size + 1; omega)).trans (heap_setCell_other _ _ _ _ (by show b ≠ w.heap.size + 1; omega)), by show w.heap.size ≤ b; omega⟩
/-- the cells of parameters; of an array -/
abbrev encPar (p : ParL) : List Value := [.int .i64 p.len, .int .i64 p.hashes, .int .i64 p.salt]
structure BV where
  len : Int
  a : Option Addr
  n : Nat
  c : Nat
abbrev encBV (x : BV) : List Value := [.int .i64 x.len, .slice x.a x.n x.c]
/-- arrays whose words lie in blocks of S -/
def BitsAll (w : World) (S : Nat → Prop) (C : List BV) (L : List BitsL) : Prop := C.length = L.length ∧ ∀ n (h1 : n < C.length) (h2 : n < L.length), BitsAt w S (.agg (encBV C[n]).toArray) L[n]
theorem BitsAt.below {w w' : World} {S : Nat → Prop} {v : Value} {b : BitsL} (h : BitsAt w S v b) (hb : Below w.heap.size w w') : BitsAt w' S v b := by
  obtain ⟨s, rfl, hv⟩ := h; exact ⟨s, rfl, hv.below hb⟩
theorem BitsAll.below {w w' : World} {S : Nat → Prop} {C : List BV} {L : List BitsL} (h : BitsAll w S C L) (hb : Below w.heap.size w w') : BitsAll w' S C L := ⟨h.1, fun n h1 h2 => (h.2 n h1 h2).below hb⟩
theorem BitsAll.snoc {w : World} {S : Nat → Prop} {C : List BV} {L : List BitsL} {c : BV} {b : BitsL} (h : BitsAll w S C L) (hc : BitsAt w S (.agg (encBV c).toArray) b) : BitsAll w S (C ++ [c]) (L ++ [b]) := by
  refine ⟨by simp [h.1], fun n h1 h2 => ?_⟩
  by_cases hn : n < C.length
  · rw [List.getElem_append_left hn, List.getElem_append_left (by rw [← h.1]; exact hn)]; exact h.2 n _ _
  · have : n = C.length := by simp at h1; omega
    subst this
    rw [List.getElem_append_right (Nat.le_refl _), List.getElem_append_right (by rw [h.1]; exact Nat.le_refl _)]
    simpa using hc
theorem infoBits : (Tryz.prog.info? 84).map (fun i => (i.zero, i.size, i.bytes)) = some (some (.agg #[.int .i64 0, .slice none 0 0]), 2, 32) := by kernel_rfl
theorem one_encBV : ∀ (x : BV), ∀ u ∈ encBV x, u.oneCell' = true := by
  intro x u hu; simp at hu; rcases hu with rfl | rfl <;> rfl
theorem BitsAt.form {w : World} {S : Nat → Prop} {v : Value} {b : BitsL} (h : BitsAt w S v b) : ∃ c : BV, v = .agg (encBV c).toArray ∧ BitsAt w S (.agg (encBV c).toArray) b := by
  obtain ⟨s, rfl, hv⟩ := h
  obtain ⟨a, cap, rfl⟩ := hv.slice
  exact ⟨⟨b.len, a, _, cap⟩, rfl, _, rfl, hv⟩
theorem BitsAt.weaken {w : World} {S T : Nat → Prop} {v : Value} {b : BitsL} (h : BitsAt w S v b) (hS : ∀ x, S x → T x) : BitsAt w T v b := by
  obtain ⟨s, rfl, hv⟩ := h
  exact ⟨s, rfl, hv.move (Nat.le_refl _) fun x _ hx => ⟨rfl, hS x hx⟩⟩
theorem BitsAt.move {w w' : World} {S : Nat → Prop} {v : Value} {b : BitsL} (h : BitsAt w S v b) (hz : w.heap.size ≤ w'.heap.size) (hS : ∀ x, x < w.heap.size → S x → w'.heap[x]? = w.heap[x]?) : BitsAt w' S v b := by
  obtain ⟨s, rfl, hv⟩ := h
  exact ⟨s, rfl, hv.move hz fun x h1 h2 => ⟨hS x h1 h2, h2⟩⟩
theorem BitsAll.weaken {w : World} {S T : Nat → Prop} {C : List BV} {L : List BitsL} (h : BitsAll w S C L) (hS : ∀ x, S x → T x) : BitsAll w T C L := ⟨h.1, fun n h1 h2 => (h.2 n h1 h2).weaken hS⟩
theorem BitsAll.move {w w' : World} {S T : Nat → Prop} {C : List BV} {L : List BitsL} (h : BitsAll w S C L) (hz : w.heap.size ≤ w'.heap.size) (hS : ∀ x, x < w.heap.size → S x → w'.heap[x]? = w.heap[x]? ∧ T x) : BitsAll w' T C L :=
  ⟨h.1, fun n h1 h2 => by obtain ⟨s, e, hv⟩ := h.2 n h1 h2; exact ⟨s, e, hv.move hz hS⟩⟩
/-- fields' arrays from field j on -/
def fieldsN (s : SchemaL) (P : List ParL) (k : Int × Int) (vals : List (List UInt8)) (n : Nat) : List BitsL := (List.range n).map fun i => fieldN s (P.getD i default) k vals i
theorem fieldsN_succ (s : SchemaL) (P : List ParL) (k : Int × Int) (vals : List (List UInt8)) (n : Nat) : fieldsN s P k vals (n + 1) = fieldsN s P k vals n ++ [fieldN s (P.getD n default) k vals n] := by
  unfold fieldsN; rw [List.range_succ, List.map_append]; rfl
/-- a slice of arrays -/
def BitsVec (w : World) (S : Nat → Prop) (v : Value) (L : List BitsL) : Prop := ∃ C, Vec w S 2 encBV v C ∧ BitsAll w S C L
def EachPost (L : List BitsL) (w : World) (e : Ending) (w' : World) : Prop := ∃ v, e = .returned (.tuple #[v, .int .i64 0]) ∧ BitsVec w' (fun x => w.heap.size ≤ x) v L ∧ Below w.heap.size w w'
set_option maxHeartbeats 8000000 in
theorem each_yes (S : Nat → Prop) (sb kb rb : Nat) (vf vt vn vs : Value) (s : SchemaL) (P : List ParL) (pv : Value) (k : Int × Int) (id ver : Int) (sv : Value) (vals : List (List UInt8)) (w : World) (h : CapAt sb kb rb vf vt vn vs s k id ver sv vals w)
    (hp : Vec w S 3 encPar pv P) (hf : ∀ i, i < P.length → FieldIn s (P.getD i default) vals i) (h5 : P.length ≤ 5) :
    Calls Tryz.prog 94 #[pv, .func (.func 95) #[] #[.pointer (some ⟨sb, 0, none⟩), .pointer (some ⟨kb, 0, none⟩), .pointer (some ⟨rb, 0, none⟩)]] w (EachPost (fieldsN s P k vals P.length) w) := by
  obtain ⟨a, cap, rfl⟩ := hp.slice
  have HC := Lib.hid h; have HP := Lib.hid hp.any; have HF := Lib.hid hf
  clear h hp hf
  go_enter Tryz.func94, Tryz.ntmps94
  go_wp2_with fail
  go_loopw [6, 7, 8, 9, 10, 13] (fun v _ _ _ _ i wr => ∃ (j : Nat) (C : List BV), i = .int .i64 j ∧ j ≤ P.length ∧ C.length = j ∧ OwnV 84 2 encBV w v C wr ∧ BitsAll wr (OffRow w.heap.size v) C (fieldsN s P k vals j)) (fun _ _ _ _ _ i _ => P.length - (intOf i).toNat)
  case atStart => exact ⟨0, [], rfl, by omega, rfl, OwnV.start _ _ _ _, rfl, fun n h1 _ => by simp at h1⟩
  case round =>
    obtain ⟨j, C, rfl, hj, hCl, ho, hba⟩ := hrel
    have HO := Lib.hid ho; have HBA := Lib.hid hba; have HCl := Lib.hid hCl
    clear ho hba hCl
    by_cases hlt : j < P.length
    · have hq : decide ((j : Int) < P.length) = true := by simp; omega
      have hfj := HF.out j hlt
      obtain ⟨p, hpj⟩ : ∃ p, P[j] = p := ⟨_, rfl⟩
      have hgd : P.getD j default = p := by rw [List.getD, List.getElem?_eq_getElem hlt]; exact hpj
      rw [hgd] at hfj
      have hsucc := fieldsN_succ s P k vals j
      rw [hgd] at hsucc
      obtain ⟨b, off, rfl, hb, hc⟩ := (HP.out.below HO.out.2).get j hlt
      rw [hpj] at hc
      have c0 := hc 0 _ rfl; have c1 := hc 1 _ rfl; have c2 := hc 2 _ rfl
      rw [Nat.add_zero] at c0
      have HFJ := Lib.hid hfj; have HSu := Lib.hid hsucc
      clear hc hfj hsucc hgd hpj
      go_wp2_with fail
      have hbA : Below w.heap.size w (wr.alloc (.cells (parC p) 81)) := HO.out.2.alloc HO.out.2.size _
      refine (clos_yes sb kb rb vf vt vn vs s p k id ver sv vals j _ (HC.out.below hbA) HFJ.out).mono ?_
      rintro e w1 ⟨vb, rfl, hvb, hb1⟩
      obtain ⟨c, rfl, hcb⟩ := hvb.form
      have hb2 : Below wr.heap.size wr w1 := ((Below.refl _ _).alloc (Nat.le_refl _) _).trans (hb1.mono (by simp))
      have hwz := HO.out.2.size
      have hb3 : Below wr.heap.size wr ((w1.alloc (.cells (encBV c).toArray 84)).alloc (.cells (encBV c).toArray 84)) := (hb2.alloc hb2.size _).alloc (by have := hb2.size; simp; omega) _
      have HO2 := Lib.hid (HO.out.below hb3)
      have HR2 := Lib.hid (show Reads ((w1.alloc (.cells (encBV c).toArray 84)).alloc (.cells (encBV c).toArray 84)) 2 (.slice (some ⟨w1.heap.size + 1, 0, none⟩) 1 1) [c].length ([c].flatMap encBV) from reads_block (xs := [c].flatMap encBV) (fr := (0, 0)) (t := 84) (blk_new (by simp)) rfl)
      have hown6 : ∀ x, wr.heap.size ≤ x → some x ≠ u6.ownBlock := by
        intro x hx
        rcases HO.out.1.2 with ⟨h0, _⟩ | ⟨g, cap, cur, h0, hg, hh, _⟩
        · rw [h0]; simp [Value.ownBlock]
        · rw [h0]; have := lt_of_blk hh; simp [Value.ownBlock]; omega
      have HCB := Lib.hid (BitsAt.weaken (T := fun x => some x ≠ u6.ownBlock ∧ w.heap.size ≤ x) hcb (fun x hx => by have hx' : (wr.alloc (.cells (parC p) 81)).heap.size ≤ x := hx; simp at hx'; exact ⟨hown6 x (by omega), by omega⟩))
      have HBA2 := Lib.hid (HBA.out.below hb2)
      have hcn : C.length + [c].length ≤ 1000000000 := by rw [HCl.out]; simp only [List.length_cons, List.length_nil]; omega
      have HB3 := Lib.hid hb3
      obtain ⟨cl, ca, cn, cc⟩ := c
      clear hvb hb1 hb2 hb3 hcb hbA c0 c1 c2
      go_wp2_with (at_builtin; refine wpList_append_at rfl (.tmp 28) (.tmp 30) 35 rfl 84 (.agg #[.int .i64 0, .slice none 0 0]) 2 32 encBV (fun _ => rfl) one_encBV Tryz.underlying35 infoBits rfl (by decide) (by decide) (w0 := w) (v := u6) (A := C) (B := [⟨cl, ca, cn, cc⟩]) rfl HO2.out rfl HR2.out hcn ?_; intro v2 w2 ho2 hk2 hz2 hat2)
      have hba : BitsAll w1 (fun x => some x ≠ u6.ownBlock ∧ w.heap.size ≤ x) (C ++ [⟨cl, ca, cn, cc⟩]) (fieldsN s P k vals (j + 1)) := by
        rw [HSu.out]
        exact (HBA2.out.weaken fun x hx => ⟨hx.2, hx.1⟩).snoc HCB.out
      go_roundw
      case rel =>
        refine ⟨j + 1, C ++ [⟨cl, ca, cn, cc⟩], by go_num, by omega, by rw [List.length_append, HCl.out]; rfl, ho2, hba.move ?_ ?_⟩
        · simp at hz2; omega
        · intro x hx hS
          obtain ⟨q1, q2⟩ := hS
          have hlt1 := hx
          refine ⟨?_, q2, ?_⟩
          · obtain ⟨ob, hob⟩ : ∃ ob, w1.heap[x]? = some ob := ⟨_, Array.getElem?_eq_getElem hx⟩
            rw [hob]
            exact hk2 x ob q1 (blk_old (blk_old hob))
          · rcases hat2 with h1 | h1 | h1
            · rw [h1]; simp
            · rw [← h1]; exact q1
            · rw [h1]; simp; omega
      case measure => simp [intOf]; omega
    · have hq : decide ((j : Int) < P.length) = false := by simp; omega
      obtain rfl : j = P.length := by omega
      go_wp2_with fail
      go_ret2
      exact ⟨_, rfl, ⟨C, (OwnV.vec (size := 2) (enc := encBV) (fun _ => rfl) HO.out), HBA.out.weaken fun x hx => hx.1⟩, HO.out.2⟩
end
section
set_option maxRecDepth 100000
open Go.RowKit Cal
attribute [local go_sem] toList_mk mk_size str_append
theorem BitsVec.slice {w : World} {S : Nat → Prop} {v : Value} {L : List BitsL} (h : BitsVec w S v L) : ∃ a cap, v = .slice a L.length cap := by
  obtain ⟨C, hv, hc⟩ := h
  obtain ⟨a, cap, rfl⟩ := hv.slice
  exact ⟨a, cap, by rw [hc.1]⟩
theorem BitsVec.below {w w' : World} {S : Nat → Prop} {v : Value} {L : List BitsL} (h : BitsVec w S v L) (hb : Below w.heap.size w w') : BitsVec w' S v L := by
  obtain ⟨C, hv, hc⟩ := h; exact ⟨C, hv.below hb, hc.below hb⟩
theorem BitsVec.move {w w' : World} {S T : Nat → Prop} {v : Value} {L : List BitsL} (h : BitsVec w S v L) (hz : w.heap.size ≤ w'.heap.size) (hS : ∀ x, x < w.heap.size → S x → w'.heap[x]? = w.heap[x]? ∧ T x) : BitsVec w' T v L := by
  obtain ⟨C, hv, hc⟩ := h; exact ⟨C, hv.move hz hS, hc.move hz hS⟩
/-- an encoded record in memory: its three cells -/
def EncVal (w : World) (S : Nat → Prop) (v : Value) (e : EncL) : Prop := ∃ s, v = .agg #[.int .i64 e.id, .int .i64 e.ver, s] ∧ BitsVec w S s e.fields
def EncPost (x : EncL) (w : World) (e : Ending) (w' : World) : Prop := ∃ v, e = .returned (.tuple #[v, .int .i64 0]) ∧ EncVal w' (fun b => w.heap.size ≤ b) v x ∧ Below w.heap.size w w'
/-- what encoding needs -/
structure EncIn (s : SchemaL) (P : List ParL) (vals : List (List UInt8)) : Prop where
  len : P.length = vals.length
  five : P.length ≤ 5
  fld : ∀ i, i < P.length → FieldIn s (P.getD i default) vals i
def encN (s : SchemaL) (P : List ParL) (k : Int × Int) (r : RecL) : EncL := ⟨r.id, r.ver, fieldsN s P k r.vals P.length⟩
set_option maxHeartbeats 4000000 in
theorem encoded_yes (S : Nat → Prop) (vf vt vn vs : Value) (s : SchemaL) (P : List ParL) (pv : Value) (k : Int × Int) (r : RecL) (sv : Value) (w : World) (h : SchemaAt w S vf vt vn vs s) (hp : Vec w Any1 3 encPar pv P) (hv : Vec w Any1 1 encS sv r.vals) (hf : EncIn s P r.vals) :
    Calls Tryz.prog 48 #[.agg #[vf, vt, vn, vs], pv, .agg #[.int .u64 k.1, .int .u64 k.2], .agg #[.int .i64 r.id, .int .i64 r.ver, sv]] w (EncPost (encN s P k r) w) := by
  obtain ⟨a, cap, rfl⟩ := hp.slice
  obtain ⟨rid, rver, vals⟩ := r
  dsimp only at hv hf ⊢
  obtain ⟨L, hL⟩ : ∃ L, fieldsN s P k vals P.length = L := ⟨_, rfl⟩
  have he : encN s P k ⟨rid, rver, vals⟩ = ⟨rid, rver, L⟩ := by unfold encN; rw [hL]
  rw [he]
  have HLL := Lib.hid hL; have HP := Lib.hid hp; have HV := Lib.hid hv; have HF := Lib.hid hf; have HS := Lib.hid h.any
  clear he hL hp hv hf h
  go_enter Tryz.func48, Tryz.ntmps48
  go_wp2_with fail
  refine wp_calls_world (fun W hW => ?_)
  have hb0 : Below w.heap.size w W := by rw [hW]; exact ((((Below.refl w.heap.size w).alloc (Nat.le_refl _) _).alloc (by simp) _).alloc (by simp; omega) _).alloc (by simp; omega) _
  have hs0 : W.heap[w.heap.size]? = some (.cells #[vf, vt, vn, vs] 33 (0, 0)) := by rw [hW]; exact blk_old (blk_old (blk_old (blk_new rfl)))
  have hk0 : W.heap[w.heap.size + 1]? = some (.cells #[.int .u64 k.1, .int .u64 k.2] 45 (0, 0)) := by rw [hW]; exact blk_old (blk_old (blk_new (by simp)))
  have hr0 : W.heap[w.heap.size + 2]? = some (.cells #[.int .i64 rid, .int .i64 rver, sv] 48 (0, 0)) := by rw [hW]; exact blk_old (blk_new (by simp))
  have hz0 : W.heap[w.heap.size + 3]? = some (.cells #[.int .i64 0, .int .i64 0, .slice none 0 0] 37 (0, 0)) := by rw [hW]; exact blk_new (by simp)
  clear hW
  have HC := Lib.hid (show CapAt w.heap.size (w.heap.size + 1) (w.heap.size + 2) vf vt vn vs s k rid rver sv vals W from ⟨hs0, hk0, hr0, HS.out.below hb0, HV.out.below hb0⟩)
  have HB0 := Lib.hid hb0; have HZ0 := Lib.hid hz0; have HR0 := Lib.hid hr0
  clear hs0 hk0 hr0 hz0 hb0
  refine (each_yes Any1 _ _ _ vf vt vn vs s P _ k rid rver sv vals W HC.out (HP.out.below HB0.out) HF.out.fld HF.out.five).mono ?_
  rw [HLL.out]
  rintro e w1 ⟨v1, rfl, hv1, hb1⟩
  have HV1 := Lib.hid hv1
  obtain ⟨a1, c1, rfl⟩ := hv1.slice
  have hz1 := blk_below hb1 (lt_of_blk HZ0.out) HZ0.out
  have hr1 := blk_below hb1 (lt_of_blk HR0.out) HR0.out
  have HB1 := Lib.hid (HB0.out.trans (hb1.mono HB0.out.size)); have HZ1 := Lib.hid hz1
  have hWz := HB0.out.size; have hWz2 := hb1.size; have hWz3 := lt_of_blk HZ0.out
  obtain ⟨z0, z1, z2⟩ := cells3 hz1
  obtain ⟨r0, r1, r2⟩ := cells3 hr1
  have f0 := frozen_of_row _ _ 0 _ _ hz1; have f1 := frozen_of_row _ _ 1 _ _ hz1; have f2 := frozen_of_row _ _ 2 _ _ hz1
  have y1 := lt_of_blk hz1; have y2 := lt_of_blk hr1
  clear hv1 hz1 hr1 hb1
  go_wp2_with fail
  refine bodyPost_row2 rfl rfl (blk_set (i := 2) (v := .slice a1 L.length c1) (blk_set (i := 1) (v := .int .i64 rver) (blk_set (i := 0) (v := .int .i64 rid) HZ1.out))) Tryz.underlying37 rfl (by kernel_rfl)
    ⟨_, rfl, ⟨_, rfl, ?_⟩, ((HB1.out.setCell (p := ⟨w.heap.size + 3, 0, none⟩) (by show w.heap.size ≤ w.heap.size + 3; omega) _).setCell (p := ⟨w.heap.size + 3, 1, none⟩) (by show w.heap.size ≤ w.heap.size + 3; omega) _).setCell (p := ⟨w.heap.size + 3, 2, none⟩) (by show w.heap.size ≤ w.heap.size + 3; omega) _⟩
  refine HV1.out.move (by simp [World.setCell]) fun b hb hs => ?_
  have hs' : W.heap.size ≤ b := hs
  exact ⟨((heap_setCell_other _ _ _ _ (by show b ≠ w.heap.size + 3; omega)).trans (heap_setCell_other _ _ _ _ (by show b ≠ w.heap.size + 3; omega))).trans (heap_setCell_other _ _ _ _ (by show b ≠ w.heap.size + 3; omega)), by show w.heap.size ≤ b; omega⟩
end
section
set_option maxRecDepth 100000
open Go.RowKit
def InI (n : Int) : Prop := -9223372036854775808 ≤ n ∧ n ≤ 9223372036854775807
set_option maxHeartbeats 1000000 in
theorem noneB_any (S : Nat → Prop) (v : Value) (b : BitsL) (w : World) (h : BitsAt w S v b) :
    Calls Tryz.prog 91 #[v] w fun e w' => e = .returned (.bool (noneB b)) ∧ Below w.heap.size w w' := by
  obtain ⟨s, rfl, hv⟩ := h
  obtain ⟨a, cap, rfl⟩ := hv.slice
  clear hv
  obtain ⟨n, ws⟩ := b
  unfold noneB
  dsimp only
  by_cases h1 : n = 0
  · subst h1
    have d1 : ((0 : Int) == 0) = true := rfl
    by_cases h2 : ws.length = 0
    · have d2 : ((ws.length : Int) == 0) = true := by simp; exact List.eq_nil_of_length_eq_zero h2
      rw [decide_eq_true h2]
      go_enter Tryz.func91, Tryz.ntmps91
      go_wp2_with fail
      go_ret
      exact ⟨rfl, (Below.refl _ _).alloc (Nat.le_refl _) _⟩
    · have d2 : ((ws.length : Int) == 0) = false := by simp; intro h; rw [h] at h2; exact h2 rfl
      rw [decide_eq_false h2]
      go_enter Tryz.func91, Tryz.ntmps91
      go_wp2_with fail
      go_ret
      exact ⟨rfl, (Below.refl _ _).alloc (Nat.le_refl _) _⟩
  · have d1 : (n == 0) = false := by simpa using h1
    rw [decide_eq_false h1]
    go_enter Tryz.func91, Tryz.ntmps91
    go_wp2_with fail
    go_ret
    exact ⟨rfl, (Below.refl _ _).alloc (Nat.le_refl _) _⟩
set_option maxHeartbeats 1000000 in
theorem bad_any (S : Nat → Prop) (v : Value) (b : BitsL) (w : World) (h : BitsAt w S v b) (hi : InI b.len) :
    Calls Tryz.prog 90 #[v] w fun e w' => e = .returned (.bool (badB b)) ∧ Below w.heap.size w w' := by
  obtain ⟨s, rfl, hv⟩ := h
  obtain ⟨a, cap, rfl⟩ := hv.slice
  have HV := Lib.hid hv; clear hv
  obtain ⟨bl, ws⟩ := b
  dsimp only at HV hi ⊢
  have hh : BitsAt w S (.agg #[.int .i64 bl, .slice a ws.length cap]) ⟨bl, ws⟩ := ⟨_, rfl, HV.out⟩
  have HH := Lib.hid hh; clear hh
  unfold badB
  cases h1 : noneB ⟨bl, ws⟩
  · have HN := Lib.hid h1; clear h1
    go_enter Tryz.func90, Tryz.ntmps90
    go_wp2_with fail
    have hb0 : Below w.heap.size w (w.alloc (.cells #[.int .i64 bl, .slice a ws.length cap] 84)) := (Below.refl _ _).alloc (Nat.le_refl _) _
    refine (noneB_any S _ ⟨bl, ws⟩ _ (HH.out.below hb0)).mono ?_
    rw [HN.out]
    rintro e w1 ⟨rfl, hb⟩
    have hx := blk_below (b := w.heap.size) (o := .cells #[.int .i64 bl, .slice a ws.length cap] 84 (0, 0)) hb (by simp) (blk_new rfl)
    have HB1 := Lib.hid (hb0.trans (hb.mono (by simp)))
    obtain ⟨x0, x1⟩ := cells2K hx
    clear hb hb0 hx
    go_wp2_with fail
    refine (bvalid_any S _ ⟨bl, ws⟩ _ (HH.out.below HB1.out) hi.1 hi.2).mono ?_
    rintro e w2 ⟨rfl, hb⟩
    go_wp2_with fail
    go_ret
    exact ⟨by simp, HB1.out.trans (hb.mono HB1.out.size)⟩
  · have HN := Lib.hid h1; clear h1
    go_enter Tryz.func90, Tryz.ntmps90
    go_wp2_with fail
    have hb0 : Below w.heap.size w (w.alloc (.cells #[.int .i64 bl, .slice a ws.length cap] 84)) := (Below.refl _ _).alloc (Nat.le_refl _) _
    refine (noneB_any S _ ⟨bl, ws⟩ _ (HH.out.below hb0)).mono ?_
    rw [HN.out]
    rintro e w1 ⟨rfl, hb⟩
    have HB1 := Lib.hid (hb0.trans (hb.mono (by simp)))
    clear hb hb0
    go_wp2_with fail
    go_ret
    exact ⟨by simp, HB1.out⟩
/-- the cells of one of some arrays -/
theorem BitsVec.at {w : World} {S : Nat → Prop} {a : Option Addr} {n cap : Nat} {L : List BitsL} (h : BitsVec w S (.slice a n cap) L) (j : Nat) (hj : j < L.length) :
    ∃ (b off : Nat) (c : BV), a = some ⟨b, off, none⟩ ∧ b < w.heap.size ∧ w.cell? ⟨b, off + j * 2, none⟩ = some (.int .i64 c.len) ∧ w.cell? ⟨b, off + j * 2 + 1, none⟩ = some (.slice c.a c.n c.c) ∧ BitsAt w S (.agg (encBV c).toArray) (L.getD j noBits) := by
  obtain ⟨C, hC, hA⟩ := h
  have hj2 : j < C.length := by rw [hA.1]; exact hj
  obtain ⟨b, off, e, hb, hc⟩ := hC.get j hj2
  refine ⟨b, off, C[j], e, hb, by have := hc 0 _ rfl; simpa using this, by have := hc 1 _ rfl; simpa using this, ?_⟩
  rw [getD_at _ _ hj]
  exact hA.2 j hj2 hj
theorem BitsVec.len {w : World} {S : Nat → Prop} {a : Option Addr} {n cap : Nat} {L : List BitsL} (h : BitsVec w S (.slice a n cap) L) : n = L.length ∧ n ≤ cap := by
  obtain ⟨C, hC, hA⟩ := h
  have := hC.len; have := hA.1; omega
/-- the first of a list that has a property; -1 -/
def idxB (p : BitsL → Bool) : Nat → List BitsL → Int
  | _, [] => -1
  | i, x :: l => bif p x then (i : Int) else idxB p (i + 1) l
theorem idxB_any (p : BitsL → Bool) (L : List BitsL) : ∀ i : Nat, decide (0 ≤ idxB p i L) = L.any p := by
  induction L with
  | nil => intro i; rfl
  | cons x l ih =>
    intro i
    unfold idxB
    rw [List.any_cons]
    cases p x
    · simpa using ih (i + 1)
    · simp
set_option maxHeartbeats 4000000 in
theorem bidx_any (S : Nat → Prop) (v : Value) (L : List BitsL) (w : World) (h : BitsVec w S v L) (hi : ∀ b ∈ L, InI b.len) (hn : L.length ≤ 1000000) :
    Calls Tryz.prog 137 #[v, .func (.func 90) #[] #[]] w fun e w' => e = .returned (.int .i64 (idxB badB 0 L)) ∧ Below w.heap.size w w' := by
  obtain ⟨a, cap, rfl⟩ := h.slice
  have HV := Lib.hid h; have HI := Lib.hid hi; clear h hi
  obtain ⟨r, hr⟩ : ∃ r, idxB badB 0 L = r := ⟨_, rfl⟩
  rw [hr]
  have HR := Lib.hid hr; clear hr
  go_enter Tryz.func137, Tryz.ntmps137
  go_wp2_with fail
  go_loopw [8] (fun i wr => ∃ k : Nat, i = .int .i64 k ∧ k ≤ L.length ∧ Hid (idxB badB k (L.drop k) = r) ∧ Below w.heap.size w wr) (fun i _ => L.length - (intOf i).toNat)
  case atStart => exact ⟨0, rfl, by omega, Lib.hid HR.out, Below.refl _ _⟩
  case round =>
    obtain ⟨k, rfl, hk, HT, hbw⟩ := hrel
    have HB := Lib.hid hbw; clear hbw
    by_cases hlt : k < L.length
    · have hq : decide ((k : Int) < L.length) = true := by simp; omega
      have hklen : (k : Int) < (L.length : Int) := by omega
      have HW := Lib.hid (HV.out.below HB.out)
      obtain ⟨b, off, c, rfl, lb, c0, c1, hat⟩ := HW.out.at k hlt
      have ht := HT.out
      rw [List.drop_eq_getElem_cons hlt] at ht
      have hin := HI.out _ (List.getElem_mem hlt)
      rw [getD_at _ _ hlt] at hat
      obtain ⟨x, hx⟩ : ∃ x, L[k] = x := ⟨_, rfl⟩
      rw [hx] at hat ht hin
      obtain ⟨cl, cA, cn, cc⟩ := c
      have HAt := Lib.hid hat; have HIn := Lib.hid hin
      dsimp only at c0 c1
      clear HT hx hat hin
      unfold idxB at ht
      cases hp : badB x
      · rw [hp] at ht
        have HT := Lib.hid (show idxB badB (k + 1) (L.drop (k + 1)) = r from ht)
        have HP := Lib.hid hp
        clear ht hp
        go_wp2_with fail
        refine (bad_any S _ x _ HAt.out HIn.out).mono ?_
        rw [HP.out]
        rintro e w1 ⟨rfl, hb⟩
        have HB1 := Lib.hid (HB.out.trans (hb.mono HB.out.size))
        clear hb
        go_wp2_with fail
        go_roundw
        case rel => exact ⟨k + 1, by go_num, by omega, HT, HB1.out⟩
        case measure => simp [intOf]; omega
      · rw [hp] at ht
        have HT2 := Lib.hid (show Ending.returned (.int .i64 (k : Int)) = Ending.returned (.int .i64 r) by rw [show (k : Int) = r from ht])
        have HP := Lib.hid hp
        clear ht hp
        go_wp2_with fail
        refine (bad_any S _ x _ HAt.out HIn.out).mono ?_
        rw [HP.out]
        rintro e w1 ⟨rfl, hb⟩
        have HB1 := Lib.hid (HB.out.trans (hb.mono HB.out.size))
        clear hb
        go_wp2_with fail
        go_ret
        exact ⟨HT2.out, HB1.out⟩
    · have hq : decide ((k : Int) < L.length) = false := by simp; omega
      have ht := HT.out
      rw [List.drop_eq_nil_of_le (by omega)] at ht
      have HT2 := Lib.hid (show Ending.returned (.int .i64 (-1 : Int)) = Ending.returned (.int .i64 r) by rw [show (-1 : Int) = r from ht])
      clear HT ht
      go_wp2_with fail
      go_ret
      exact ⟨HT2.out, HB.out⟩
set_option maxHeartbeats 1000000 in
theorem bcont_any (S : Nat → Prop) (v : Value) (L : List BitsL) (w : World) (h : BitsVec w S v L) (hi : ∀ b ∈ L, InI b.len) (hn : L.length ≤ 1000000) :
    Calls Tryz.prog 89 #[v, .func (.func 90) #[] #[]] w fun e w' => e = .returned (.bool (L.any badB)) ∧ Below w.heap.size w w' := by
  rw [← idxB_any badB L 0]
  obtain ⟨a, cap, rfl⟩ := h.slice
  have HV := Lib.hid h; have HI := Lib.hid hi; clear h hi
  go_enter Tryz.func89, Tryz.ntmps89
  go_wp2_with fail
  refine (bidx_any S _ L _ HV.out HI.out hn).mono ?_
  rintro e w1 ⟨rfl, hb⟩
  have HB := Lib.hid hb; clear hb
  go_wp2_with fail
  go_ret
  exact ⟨rfl, HB.out⟩
set_option maxHeartbeats 4000000 in
theorem evalid_any (S : Nat → Prop) (v : Value) (x : EncL) (w : World) (h : EncVal w S v x) (hi : ∀ b ∈ x.fields, InI b.len) (hn : x.fields.length ≤ 1000000) :
    Calls Tryz.prog 44 #[v] w fun e w' => e = .returned (.bool (evalidB x)) ∧ Below w.heap.size w w' := by
  obtain ⟨s, rfl, h⟩ := h
  obtain ⟨a, cap, rfl⟩ := h.slice
  obtain ⟨id, ver, F⟩ := x
  dsimp only at h hi hn ⊢
  have HV := Lib.hid h; have HI := Lib.hid hi; clear h hi
  obtain ⟨r, hr⟩ : ∃ r, evalidB ⟨id, ver, F⟩ = r := ⟨_, rfl⟩
  rw [hr]
  unfold evalidB at hr
  dsimp only at hr
  have t1 : decide ((1 : Int) ≤ (F.length : Int)) = decide (1 ≤ F.length) := by apply decide_eq_decide.2; omega
  have t2 : decide ((F.length : Int) ≤ 5) = decide (F.length ≤ 5) := by apply decide_eq_decide.2; omega
  cases e1 : decide ((1 : Int) ≤ id)
  · rw [e1] at hr
    have hr2 : false = r := by simpa using hr
    subst hr2; clear hr t1 t2
    go_enter Tryz.func44, Tryz.ntmps44
    go_wp2_with fail
    go_ret
    exact ⟨rfl, (Below.refl _ _).alloc (Nat.le_refl _) _⟩
  cases e2 : decide (id ≤ (1048576 : Int))
  · rw [e1, e2] at hr
    have hr2 : false = r := by simpa using hr
    subst hr2; clear hr t1 t2
    go_enter Tryz.func44, Tryz.ntmps44
    go_wp2_with fail
    go_ret
    exact ⟨rfl, (Below.refl _ _).alloc (Nat.le_refl _) _⟩
  cases e3 : decide ((1 : Int) ≤ ver)
  · rw [e1, e2, e3] at hr
    have hr2 : false = r := by simpa using hr
    subst hr2; clear hr t1 t2
    go_enter Tryz.func44, Tryz.ntmps44
    go_wp2_with fail
    go_ret
    exact ⟨rfl, (Below.refl _ _).alloc (Nat.le_refl _) _⟩
  cases e4 : decide (ver ≤ (1048576 : Int))
  · rw [e1, e2, e3, e4] at hr
    have hr2 : false = r := by simpa using hr
    subst hr2; clear hr t1 t2
    go_enter Tryz.func44, Tryz.ntmps44
    go_wp2_with fail
    go_ret
    exact ⟨rfl, (Below.refl _ _).alloc (Nat.le_refl _) _⟩
  cases e5 : decide (1 ≤ F.length)
  · rw [e1, e2, e3, e4, e5] at hr
    have hr2 : false = r := by simpa using hr
    rw [e5] at t1
    subst hr2; clear hr t2 e5
    go_enter Tryz.func44, Tryz.ntmps44
    go_wp2_with fail
    go_ret
    exact ⟨rfl, (Below.refl _ _).alloc (Nat.le_refl _) _⟩
  cases e6 : decide (F.length ≤ 5)
  · rw [e1, e2, e3, e4, e5, e6] at hr
    have hr2 : false = r := by simpa using hr
    rw [e5] at t1; rw [e6] at t2
    subst hr2; clear hr e5 e6
    go_enter Tryz.func44, Tryz.ntmps44
    go_wp2_with fail
    go_ret
    exact ⟨rfl, (Below.refl _ _).alloc (Nat.le_refl _) _⟩
  rw [e1, e2, e3, e4, e5, e6] at hr
  have hr2 : (!(F.any badB)) = r := by simpa using hr
  rw [e5] at t1; rw [e6] at t2
  have HR := Lib.hid (show Ending.returned (.bool (!(F.any badB))) = Ending.returned (.bool r) by rw [hr2])
  clear hr hr2 e5 e6
  go_enter Tryz.func44, Tryz.ntmps44
  go_wp2_with fail
  have hb0 : Below w.heap.size w (w.alloc (.cells #[.int .i64 id, .int .i64 ver, .slice a F.length cap] 37)) := (Below.refl _ _).alloc (Nat.le_refl _) _
  have HB0 := Lib.hid hb0
  refine (bcont_any S _ F _ (HV.out.below hb0) HI.out hn).mono ?_
  rintro e w1 ⟨rfl, hb⟩
  have HB1 := Lib.hid (HB0.out.trans (hb.mono HB0.out.size))
  clear hb hb0
  go_wp2_with fail
  go_ret
  exact ⟨HR.out, HB1.out⟩
set_option maxHeartbeats 1000000 in
theorem same1_any (S T : Nat → Prop) (u v : Value) (a b : BitsL) (w : World) (hu : BitsAt w S u a) (hv : BitsAt w T v b) (hn : a.words.length ≤ 1000000) :
    Calls Tryz.prog 59 #[u, v] w fun e w' => e = .returned (.bool (decide (cmpB a b = 0))) ∧ Below w.heap.size w w' := by
  obtain ⟨ca, rfl, hA⟩ := hu.form
  obtain ⟨cb, rfl, hB⟩ := hv.form
  have HA := Lib.hid hA; have HB := Lib.hid hB
  clear hu hv hA hB
  obtain ⟨al, aa, an, ac⟩ := ca
  obtain ⟨bl, ba, bn, bc⟩ := cb
  dsimp only [encBV] at HA HB ⊢
  obtain ⟨r, hr⟩ : ∃ r, cmpB a b = r := ⟨_, rfl⟩
  have hd : (r == (0 : Int)) = decide (r = 0) := rfl
  rw [hr]
  have HR := Lib.hid hr; clear hr
  go_enter Tryz.func59, Tryz.ntmps59
  go_wp2_with fail
  refine wp_calls_world (fun W hW => ?_)
  have hb0 : Below w.heap.size w W := by rw [hW]; exact ((Below.refl w.heap.size w).alloc (Nat.le_refl _) _).alloc (by simp) _
  clear hW
  refine (cmpB_any S T _ _ a b _ (HA.out.below hb0) (HB.out.below hb0) hn).mono ?_
  rw [HR.out]
  rintro e w1 ⟨rfl, hb⟩
  have HB1 := Lib.hid (hb0.trans (hb.mono hb0.size))
  clear hb hb0
  go_wp2_with fail
  go_ret
  exact ⟨rfl, HB1.out⟩
set_option maxHeartbeats 4000000 in
theorem beqf_any (S T : Nat → Prop) (u v : Value) (A B : List BitsL) (w : World) (hu : BitsVec w S u A) (hv : BitsVec w T v B) (hn : A.length ≤ 1000000) (hww : ∀ b ∈ A, b.words.length ≤ 1000000) :
    Calls Tryz.prog 58 #[u, v, .func (.func 59) #[] #[]] w fun e w' => e = .returned (.bool (sameF A B)) ∧ Below w.heap.size w w' := by
  obtain ⟨aa, ca, rfl⟩ := hu.slice
  obtain ⟨ab, cb, rfl⟩ := hv.slice
  have HU := Lib.hid hu; have HV := Lib.hid hv; have HWW := Lib.hid hww; clear hu hv hww
  by_cases hl : A.length = B.length
  · have hne : ((A.length : Int) != (B.length : Int)) = false := by rw [hl]; simp
    have HL := Lib.hid hl; clear hl
    have hfin : ∀ n : Bool, sameF A B = n → Ending.returned (.bool n) = .returned (.bool (sameF A B)) := fun n h => by rw [h]
    have HF := Lib.hid hfin; clear hfin
    go_enter Tryz.func58, Tryz.ntmps58
    go_wp2_with fail
    go_loopw [17] (fun i wr => ∃ k : Nat, i = .int .i64 k ∧ k ≤ A.length ∧ Hid (∀ j, j < k → sameAt A B j = true) ∧ Below w.heap.size w wr) (fun i _ => A.length - (intOf i).toNat)
    case atStart => exact ⟨0, rfl, by omega, Lib.hid (fun j hj => by omega), Below.refl _ _⟩
    case round =>
      obtain ⟨k, rfl, hk, HT, hbw⟩ := hrel
      have HB := Lib.hid hbw; clear hbw
      by_cases hlt : k < A.length
      · have hq : decide ((k : Int) < A.length) = true := by simp; omega
        have hklen : (k : Int) < (A.length : Int) := by omega
        have hklen2 : (k : Int) < (B.length : Int) := by rw [← HL.out]; omega
        have HWu := Lib.hid (HU.out.below HB.out); have HWv := Lib.hid (HV.out.below HB.out)
        obtain ⟨b1, o1, x, rfl, lx, x0, x1, hx⟩ := HWu.out.at k hlt
        obtain ⟨b2, o2, y, rfl, ly, y0, y1, hy⟩ := HWv.out.at k (by rw [← HL.out]; exact hlt)
        obtain ⟨xl, xa, xn, xc⟩ := x
        obtain ⟨yl, ya, yn, yc⟩ := y
        have HX := Lib.hid hx; have HY := Lib.hid hy
        dsimp only at x0 x1 y0 y1
        clear hx hy
        obtain ⟨c, hc⟩ : ∃ c, sameAt A B k = c := ⟨_, rfl⟩
        have hcd : decide (cmpB (A.getD k noBits) (B.getD k noBits) = 0) = c := hc
        have HC := Lib.hid hcd; have HC2 := Lib.hid hc
        clear hc hcd
        go_wp2_with fail
        refine wp_calls_world (fun W hW => ?_)
        have hb1 : Below wr.heap.size wr W := by rw [hW]; exact ((Below.refl wr.heap.size wr).alloc (Nat.le_refl _) _).alloc (by simp) _
        clear hW
        refine (same1_any S T _ _ _ _ _ (HX.out.below hb1) (HY.out.below hb1) (by rw [getD_at _ _ hlt]; exact HWW.out _ (List.getElem_mem hlt))).mono ?_
        rw [HC.out]
        rintro e w1 ⟨rfl, hb⟩
        have HB1 := Lib.hid (HB.out.trans ((hb1.trans (hb.mono hb1.size)).mono HB.out.size))
        clear hb hb1
        cases c
        · go_wp2_with fail
          go_ret
          refine ⟨HF.out false ?_, HB1.out⟩
          unfold sameF
          have : ((List.range A.length).all (sameAt A B)) = false := by
            rw [List.all_eq_false]
            exact ⟨k, List.mem_range.2 hlt, by rw [HC2.out]; simp⟩
          rw [this, Bool.and_false]
        · have HT1 := Lib.hid (show ∀ j, j < k + 1 → sameAt A B j = true from fun j hj => by
            rcases Nat.lt_or_ge j k with h | h
            · exact HT.out j h
            · have : j = k := by omega
              rw [this]; exact HC2.out)
          go_wp2_with fail
          go_roundw
          case rel => exact ⟨k + 1, by go_num, by omega, HT1, HB1.out⟩
          case measure => simp [intOf]; omega
      · have hq : decide ((k : Int) < A.length) = false := by simp; omega
        have hkk : k = A.length := by omega
        have HKK := Lib.hid hkk; clear hkk
        go_wp2_with fail
        go_ret
        refine ⟨HF.out true ?_, HB.out⟩
        unfold sameF
        rw [decide_eq_true HL.out, Bool.true_and, List.all_eq_true]
        intro j hj
        exact HT.out j (by rw [HKK.out]; exact List.mem_range.1 hj)
  · have hne : ((A.length : Int) != (B.length : Int)) = true := by simp; omega
    have hs : sameF A B = false := by unfold sameF; rw [decide_eq_false hl, Bool.false_and]
    rw [hs]
    clear hl hs
    go_enter Tryz.func58, Tryz.ntmps58
    go_wp2_with fail
    go_ret
    exact ⟨rfl, Below.refl _ _⟩
set_option maxHeartbeats 4000000 in
theorem esame_any (S T : Nat → Prop) (u v : Value) (a b : EncL) (w : World) (hu : EncVal w S u a) (hv : EncVal w T v b) (hn : a.fields.length ≤ 1000000) (hww : ∀ b ∈ a.fields, b.words.length ≤ 1000000) :
    Calls Tryz.prog 19 #[u, v] w fun e w' => e = .returned (.bool (sameE a b)) ∧ Below w.heap.size w w' := by
  obtain ⟨s, rfl, hu⟩ := hu
  obtain ⟨t, rfl, hv⟩ := hv
  obtain ⟨aa, ca, rfl⟩ := hu.slice
  obtain ⟨ab, cb, rfl⟩ := hv.slice
  obtain ⟨i, n, F⟩ := a
  obtain ⟨j, m, G⟩ := b
  dsimp only at hu hv hn hww ⊢
  have HU := Lib.hid hu; have HV := Lib.hid hv; have HWW := Lib.hid hww; clear hu hv hww
  unfold sameE
  dsimp only
  by_cases h1 : i = j
  · have d1 : (i == j) = true := by simpa using h1
    by_cases h2 : n = m
    · have d2 : (n == m) = true := by simpa using h2
      rw [decide_eq_true h1, decide_eq_true h2, Bool.true_and, Bool.true_and]
      clear h1 h2
      go_enter Tryz.func19, Tryz.ntmps19
      go_wp2_with fail
      refine wp_calls_world (fun W hW => ?_)
      have hb0 : Below w.heap.size w W := by rw [hW]; exact ((Below.refl w.heap.size w).alloc (Nat.le_refl _) _).alloc (by simp) _
      clear hW
      refine (beqf_any S T _ _ F G _ (HU.out.below hb0) (HV.out.below hb0) hn HWW.out).mono ?_
      rintro e w1 ⟨rfl, hb⟩
      have HB1 := Lib.hid (hb0.trans (hb.mono hb0.size))
      clear hb hb0
      go_wp2_with fail
      go_ret
      exact ⟨rfl, HB1.out⟩
    · have d2 : (n == m) = false := by simpa using h2
      rw [decide_eq_false h2, Bool.false_and, Bool.and_false]
      clear h2
      go_enter Tryz.func19, Tryz.ntmps19
      go_wp2_with fail
      go_ret
      exact ⟨rfl, ((Below.refl w.heap.size w).alloc (Nat.le_refl _) _).alloc (by simp) _⟩
  · have d1 : (i == j) = false := by simpa using h1
    rw [decide_eq_false h1, Bool.false_and]
    clear h1
    go_enter Tryz.func19, Tryz.ntmps19
    go_wp2_with fail
    go_ret
    exact ⟨rfl, ((Below.refl w.heap.size w).alloc (Nat.le_refl _) _).alloc (by simp) _⟩
end
section
set_option maxRecDepth 100000
open Go.RowKit Cal
attribute [local go_sem] toList_mk mk_size str_append
set_option maxHeartbeats 1000000 in
theorem numbered_any (i v : Int) (w : World) :
    Calls Tryz.prog 82 #[.int .i64 i, .int .i64 v] w fun e w' => e = .returned (.bool (numberedB i v)) ∧ w = w' := by
  unfold numberedB
  cases e1 : decide ((1 : Int) ≤ i)
  · go_enter Tryz.func82, Tryz.ntmps82
    go_wp2_with fail
    go_ret
    exact ⟨rfl, rfl⟩
  · cases e2 : decide (i ≤ (1048576 : Int))
    · go_enter Tryz.func82, Tryz.ntmps82
      go_wp2_with fail
      go_ret
      exact ⟨rfl, rfl⟩
    · cases e3 : decide ((1 : Int) ≤ v)
      · go_enter Tryz.func82, Tryz.ntmps82
        go_wp2_with fail
        go_ret
        exact ⟨rfl, rfl⟩
      · go_enter Tryz.func82, Tryz.ntmps82
        go_wp2_with fail
        go_ret
        exact ⟨rfl, rfl⟩
set_option maxHeartbeats 4000000 in
theorem rchk_any (S : Nat → Prop) (vf vt vn vs : Value) (s : SchemaL) (r : RecL) (sv : Value) (w : World) (h : SchemaAt w S vf vt vn vs s) (hv : Vec w Any1 1 encS sv r.vals) (hs : ∀ x ∈ r.vals, x.length ≤ 1000000) (hn : r.vals.length ≤ 1000000) :
    Calls Tryz.prog 76 #[.agg #[vf, vt, vn, vs], .agg #[.int .i64 r.id, .int .i64 r.ver, sv]] w fun e w' => e = .returned (.int .i64 (checkI s r)) ∧ Below w.heap.size w w' := by
  obtain ⟨a, cap, rfl⟩ := hv.slice
  obtain ⟨af, cf, rfl⟩ := h.1.slice
  obtain ⟨id, ver, vals⟩ := r
  dsimp only at hv hs hn ⊢
  have hval : checkI s ⟨id, ver, vals⟩ = if (numberedB id ver && (vals.length == s.fields.length) && normA s 0 vals) = true then 0 else 7 := rfl
  obtain ⟨c, hc⟩ : ∃ c, checkI s ⟨id, ver, vals⟩ = c := ⟨_, rfl⟩
  rw [hc] at hval ⊢
  have HV := Lib.hid hv; have HSh := Lib.hid hs; have HS := Lib.hid h.any; have HVal := Lib.hid hval
  clear hv hs h hval hc
  cases hnum : numberedB id ver
  · have h7 : c = 7 := by rw [HVal.out, hnum]; rfl
    subst h7
    have HN := Lib.hid hnum; clear hnum HVal
    go_enter Tryz.func76, Tryz.ntmps76
    go_wp2_with fail
    refine (numbered_any _ _ _).mono ?_
    rw [HN.out]
    rintro e w1 ⟨rfl, rfl⟩
    go_wp2_with fail
    go_ret
    exact ⟨rfl, ((Below.refl w.heap.size w).alloc (Nat.le_refl _) _).alloc (by simp) _⟩
  · have HN := Lib.hid hnum
    by_cases hlen : vals.length = s.fields.length
    · have HVal2 := Lib.hid (show c = if normA s 0 vals = true then 0 else 7 by rw [HVal.out, hnum, hlen]; simp)
      have hne : ((vals.length : Int) != (s.fields.length : Int)) = false := by rw [hlen]; simp
      have HL := Lib.hid hlen
      clear hnum HVal hlen
      go_enter Tryz.func76, Tryz.ntmps76
      go_wp2_with fail
      refine (numbered_any _ _ _).mono ?_
      rw [HN.out]
      rintro e w1 ⟨rfl, rfl⟩
      go_wp2_with fail
      refine wp_world (fun W hW => ?_)
      have hb0 : Below w.heap.size w W := by rw [hW]; exact ((Below.refl w.heap.size w).alloc (Nat.le_refl _) _).alloc (by simp) _
      have hs0 : W.heap[w.heap.size]? = some (.cells #[.slice af s.fields.length cf, vt, vn, vs] 33 (0, 0)) := by rw [hW]; exact blk_old (blk_new rfl)
      clear hW
      have HB0 := Lib.hid hb0; have HS0 := Lib.hid hs0; clear hb0 hs0
      go_loopw [5, 6, 25] (fun _ _ i wr => ∃ j : Nat, i = .int .i64 j ∧ j ≤ vals.length ∧ Hid (normA s j (vals.drop j) = normA s 0 vals) ∧ Below W.heap.size W wr) (fun _ _ i _ => vals.length - (intOf i).toNat)
      case atStart => exact ⟨0, rfl, by omega, Lib.hid rfl, Below.refl _ _⟩
      case round =>
        obtain ⟨j, rfl, hj, HT, hb⟩ := hrel
        have HBr := Lib.hid hb; clear hb
        by_cases hlt : j < vals.length
        · have hq : decide ((j : Int) < vals.length) = true := by simp; omega
          obtain ⟨x, hx⟩ : ∃ x, vals[j] = x := ⟨_, rfl⟩
          have hxl : x.length ≤ 1000000 := HSh.out x (by rw [← hx]; exact List.getElem_mem _)
          have hT := HT.out
          rw [List.drop_eq_getElem_cons hlt, hx, normA] at hT
          obtain ⟨b, off, rfl, hb, hc⟩ := (HV.out.below (HB0.out.trans (HBr.out.mono HB0.out.size))).get j hlt
          have c0 := hc 0 _ rfl
          rw [Nat.mul_one, Nat.add_zero, hx] at c0
          have hsr := blk_below HBr.out (lt_of_blk HS0.out) HS0.out
          obtain ⟨s0, s1, s2, s3⟩ := cellsS hsr
          have HT2 := Lib.hid hT
          clear hc hT hx hsr HT
          go_wp2_with fail
          refine (normal_s Any1 _ vt vn vs s j ⟨x.toArray⟩ _ (HS.out.below (HB0.out.trans (HBr.out.mono HB0.out.size))) (by rw [mk_size]; omega)).mono ?_
          rw [show (⟨x.toArray⟩ : ByteArray).data.toList = x by simp]
          obtain ⟨nb, hnb⟩ : ∃ nb, normalB s j x = nb := ⟨_, rfl⟩
          rw [hnb] at HT2 ⊢
          rintro e w2 ⟨rfl, hb2⟩
          have HB2 := Lib.hid (HBr.out.trans (hb2.mono HBr.out.size))
          clear hb2 hnb s0 s1 s2 s3 c0
          cases nb
          · have h7 : c = 7 := by rw [HVal2.out, ← HT2.out]; rfl
            subst h7
            go_wp2_with fail
            go_ret
            exact ⟨rfl, HB0.out.trans (HB2.out.mono HB0.out.size)⟩
          · go_wp2_with fail
            go_roundw
            case rel => exact ⟨j + 1, by go_num, by omega, Lib.hid (by rw [← HT2.out, Bool.true_and]), HB2.out⟩
            case measure => simp [intOf]; omega
        · have hq : decide ((j : Int) < vals.length) = false := by simp; omega
          obtain rfl : j = vals.length := by omega
          have h0 : c = 0 := by rw [HVal2.out, ← HT.out, List.drop_length]; rfl
          subst h0
          go_wp2_with fail
          go_ret
          exact ⟨rfl, HB0.out.trans (HBr.out.mono HB0.out.size)⟩
    · have h7 : c = 7 := by rw [HVal.out, hnum]; simp [hlen]
      have hne : ((vals.length : Int) != (s.fields.length : Int)) = true := by simp; omega
      subst h7
      clear hnum HVal hlen
      go_enter Tryz.func76, Tryz.ntmps76
      go_wp2_with fail
      refine (numbered_any _ _ _).mono ?_
      rw [HN.out]
      rintro e w1 ⟨rfl, rfl⟩
      go_wp2_with fail
      go_ret
      exact ⟨rfl, ((Below.refl w.heap.size w).alloc (Nat.le_refl _) _).alloc (by simp) _⟩
set_option maxHeartbeats 4000000 in
theorem rcheck_all (S : Nat → Prop) (vf vt vn vs : Value) (s : SchemaL) (r : RecL) (sv : Value) (w : World) (h : SchemaAt w S vf vt vn vs s) (hv : Vec w Any1 1 encS sv r.vals) (hs : ∀ x ∈ r.vals, x.length ≤ 1000000) (hn : r.vals.length ≤ 1000000) :
    Calls Tryz.prog 32 #[.agg #[vf, vt, vn, vs], .agg #[.int .i64 r.id, .int .i64 r.ver, sv]] w fun e w' => e = .returned (.int .i64 (checkN s r)) ∧ Below w.heap.size w w' := by
  have hval : checkN s r = if checkS s = 0 then checkI s r else checkS s := rfl
  obtain ⟨c, hc⟩ : ∃ c, checkN s r = c := ⟨_, rfl⟩
  obtain ⟨d, hd⟩ : ∃ d, checkS s = d := ⟨_, rfl⟩
  rw [hc, hd] at hval
  rw [hc]
  have HV := Lib.hid hv; have HS := Lib.hid h.any; have HVal := Lib.hid hval; have HD := Lib.hid hd; have HSh := Lib.hid hs
  clear hv h hval hc hd hs
  have LV : Vec w Any1 1 encS sv r.vals := HV.out
  obtain ⟨a, cap, rfl⟩ := LV.slice
  clear LV
  by_cases h0 : d = 0
  · subst h0
    have HV2 := Lib.hid (show checkI s r = c by rw [HVal.out, if_pos rfl])
    go_enter Tryz.func32, Tryz.ntmps32
    go_wp2_with fail
    refine wp_calls_world (fun W hW => ?_)
    have hb0 : Below w.heap.size w W := by rw [hW]; exact ((Below.refl w.heap.size w).alloc (Nat.le_refl _) _).alloc (by simp) _
    have hs0 : W.heap[w.heap.size]? = some (.cells #[vf, vt, vn, vs] 33 (0, 0)) := by rw [hW]; exact blk_old (blk_new rfl)
    have hr0 : W.heap[w.heap.size + 1]? = some (.cells #[.int .i64 r.id, .int .i64 r.ver, .slice a r.vals.length cap] 48 (0, 0)) := by rw [hW]; exact blk_new (by simp)
    clear hW
    refine (scheck_any Any1 _ _ _ _ s _ (HS.out.below hb0)).mono ?_
    rw [HD.out]
    rintro e w1 ⟨rfl, hb⟩
    have hs1 := blk_below hb (lt_of_blk hs0) hs0; have hr1 := blk_below hb (lt_of_blk hr0) hr0
    have HB1 := Lib.hid (hb0.trans (hb.mono hb0.size))
    obtain ⟨s0, s1, s2, s3⟩ := cellsS hs1; obtain ⟨r0, r1, r2⟩ := cells3 hr1
    clear hb hb0 hs0 hr0 hs1 hr1
    go_wp2_with fail
    refine (rchk_any Any1 _ _ _ _ s r _ _ (HS.out.below HB1.out) (HV.out.below HB1.out) HSh.out hn).mono ?_
    rw [HV2.out]
    rintro e w2 ⟨rfl, hb⟩
    have HB2 := Lib.hid (HB1.out.trans (hb.mono HB1.out.size))
    clear hb s0 s1 s2 s3 r0 r1 r2
    go_wp2_with fail
    go_ret
    exact ⟨rfl, HB2.out⟩
  · have h1 : c = d := by rw [HVal.out, if_neg h0]
    subst h1
    have hne : (c != 0) = true := by simpa using h0
    clear h0
    go_enter Tryz.func32, Tryz.ntmps32
    go_wp2_with fail
    refine (scheck_any Any1 _ _ _ _ s _ (HS.out.below (((Below.refl w.heap.size w).alloc (Nat.le_refl _) _).alloc (by simp) _))).mono ?_
    rw [HD.out]
    rintro e w1 ⟨rfl, hb⟩
    have HB1 := Lib.hid ((((Below.refl w.heap.size w).alloc (Nat.le_refl _) (.cells #[vf, vt, vn, vs] 33)).alloc (by simp) (.cells #[.int .i64 r.id, .int .i64 r.ver, .slice a r.vals.length cap] 48)).trans (hb.mono (by simp; omega)))
    clear hb
    go_wp2_with fail
    go_ret
    exact ⟨rfl, HB1.out⟩
end
section
set_option maxRecDepth 100000
open Go.RowKit Cal
attribute [local go_sem] toList_mk mk_size str_append
/-- parameters that are valid for a number of fields -/
structure ParsOk (P : List ParL) : Prop where
  par : ∀ i, i < P.length → ParOk (P.getD i default)
  salt : ∀ i, i < P.length → (P.getD i default).salt < P.length ∧ (P.getD i default).salt ≠ i
set_option maxHeartbeats 4000000 in
theorem echeck_yes (S : Nat → Prop) (vf vt vn vs : Value) (s : SchemaL) (P : List ParL) (pv : Value) (w : World) (h : SchemaAt w S vf vt vn vs s) (hp : Vec w Any1 3 encPar pv P) (hc : checkS s = 0) (hl : P.length = s.fields.length) (hP : ParsOk P) (h5 : P.length ≤ 5) :
    Calls Tryz.prog 47 #[.agg #[vf, vt, vn, vs], pv] w fun e w' => e = .returned (.int .i64 0) ∧ Below w.heap.size w w' := by
  obtain ⟨a, cap, rfl⟩ := hp.slice
  obtain ⟨af, cf, rfl⟩ := h.1.slice
  have HP := Lib.hid hp; have HS := Lib.hid h.any; have HC := Lib.hid hc; have HO := Lib.hid hP
  have hne : ((P.length : Int) != (s.fields.length : Int)) = false := by rw [hl]; simp
  have HL := Lib.hid hl
  clear hp h hc hP hl
  go_enter Tryz.func47, Tryz.ntmps47
  go_wp2_with fail
  refine wp_calls_world (fun W hW => ?_)
  have hb0 : Below w.heap.size w W := by rw [hW]; exact (Below.refl w.heap.size w).alloc (Nat.le_refl _) _
  have hs0 : W.heap[w.heap.size]? = some (.cells #[.slice af s.fields.length cf, vt, vn, vs] 33 (0, 0)) := by rw [hW]; exact blk_new rfl
  clear hW
  refine (scheck_any Any1 _ _ _ _ s _ (HS.out.below hb0)).mono ?_
  rw [HC.out]
  rintro e w1 ⟨rfl, hb⟩
  have hs1 := blk_below hb (lt_of_blk hs0) hs0
  have HB1 := Lib.hid (hb0.trans (hb.mono hb0.size))
  obtain ⟨s0, s1, s2, s3⟩ := cellsS hs1
  clear hb hb0 hs0 hs1
  go_wp2_with fail
  clear s0 s1 s2 s3
  go_loopw [6, 7, 21] (fun _ _ i wr => ∃ j : Nat, i = .int .i64 j ∧ j ≤ P.length ∧ Below w1.heap.size w1 wr) (fun _ _ i _ => P.length - (intOf i).toNat)
  case atStart => exact ⟨0, rfl, by omega, Below.refl _ _⟩
  case round =>
    obtain ⟨j, rfl, hj, hb⟩ := hrel
    have HBr := Lib.hid hb; clear hb
    by_cases hlt : j < P.length
    · have hq : decide ((j : Int) < P.length) = true := by simp; omega
      have hbw := HB1.out.trans (HBr.out.mono HB1.out.size)
      have hpo := HO.out.par j hlt
      obtain ⟨hs1, hs2⟩ := HO.out.salt j hlt
      obtain ⟨p, hpj⟩ : ∃ p, P[j] = p := ⟨_, rfl⟩
      have hgd : P.getD j default = p := by rw [List.getD, List.getElem?_eq_getElem hlt]; exact hpj
      rw [hgd] at hpo hs1 hs2
      obtain ⟨b, off, rfl, hb, hc⟩ := (HP.out.below hbw).get j hlt
      rw [hpj] at hc
      have c0 := hc 0 _ rfl; have c1 := hc 1 _ rfl; have c2 := hc 2 _ rfl
      rw [Nat.add_zero] at c0
      have e1 : decide ((P.length : Int) ≤ p.salt) = false := by simp; omega
      have e2 : (p.salt == (j : Int)) = false := by simpa using hs2
      have HPO := Lib.hid hpo
      clear hc hpo hgd hpj hs1 hs2 hbw
      go_wp2_with fail
      refine (bcheck_yes p _ HPO.out).mono ?_
      rintro e w2 ⟨rfl, hb2⟩
      have hx := blk_below (b := wr.heap.size) (o := .cells (encPar p).toArray 81 (0, 0)) hb2 (by simp) (blk_new rfl)
      have HB2 := Lib.hid ((HBr.out.alloc HBr.out.size (.cells (encPar p).toArray 81)).trans (hb2.mono (by have := HBr.out.size; simp; omega)))
      obtain ⟨x0, x1, x2⟩ := cells3 hx
      have hxl := lt_of_blk hx
      clear hb2 hx c0 c1 c2
      go_wp2_with fail
      go_roundw
      case rel => exact ⟨j + 1, by go_num, by omega, HB2.out⟩
      case measure => simp [intOf]; omega
    · have hq : decide ((j : Int) < P.length) = false := by simp; omega
      go_wp2_with fail
      go_ret
      exact ⟨rfl, HB1.out.trans (HBr.out.mono HB1.out.size)⟩
/-- what a record and parameters must be for encode.Record to succeed -/
structure RecIn (s : SchemaL) (P : List ParL) (r : RecL) : Prop where
  chk : checkS s = 0
  rec_ : checkN s r = 0
  len : P.length = s.fields.length
  pars : ParsOk P
  short : ∀ v ∈ r.vals, v.length ≤ 64
theorem RecIn.enc {s : SchemaL} {P : List ParL} {r : RecL} (h : RecIn s P r) : EncIn s P r.vals := by
  obtain ⟨_, hnum, hl, hno⟩ := checkN_ok h.rec_
  have h5 := (check_fields h.chk).1.2
  have hl2 := h.len
  refine ⟨by omega, by omega, fun i hi => ⟨h.pars.par i hi, by have := (h.pars.salt i hi).1; omega, by omega, by omega, ?_, ?_, h.short⟩⟩
  · rw [findN_in h.chk (by omega)]
  · have := normA_get s r.vals 0 hno i (by omega)
    rwa [Nat.zero_add] at this
set_option maxHeartbeats 4000000 in
theorem erecord_yes (S : Nat → Prop) (vf vt vn vs : Value) (s : SchemaL) (P : List ParL) (pv : Value) (k : Int × Int) (r : RecL) (sv : Value) (w : World) (h : SchemaAt w S vf vt vn vs s) (hp : Vec w Any1 3 encPar pv P) (hv : Vec w Any1 1 encS sv r.vals) (hr : RecIn s P r) :
    Calls Tryz.prog 12 #[.agg #[vf, vt, vn, vs], pv, .agg #[.int .u64 k.1, .int .u64 k.2], .agg #[.int .i64 r.id, .int .i64 r.ver, sv]] w (EncPost (encN s P k r) w) := by
  obtain ⟨a, cap, rfl⟩ := hp.slice
  obtain ⟨av, cv, rfl⟩ := hv.slice
  have hsh := hr.short; have hl5 := (check_fields hr.chk).1.2; have hrl := hr.len; have hvl := (checkN_ok hr.rec_).2.2.1
  obtain ⟨X, hX⟩ : ∃ X, encN s P k r = X := ⟨_, rfl⟩
  obtain ⟨rid, rver, vals⟩ := r
  dsimp only at hv hsh hvl ⊢
  rw [hX]
  have hP5 : P.length ≤ 5 := by omega
  have hv5 : vals.length ≤ 5 := by omega
  clear hrl hvl hl5
  have HX := Lib.hid hX; have HP := Lib.hid hp; have HV := Lib.hid hv; have HR := Lib.hid hr; have HS := Lib.hid h.any; have HSh := Lib.hid hsh
  clear hX hp hv hr h hsh
  go_enter Tryz.func12, Tryz.ntmps12
  go_wp2_with fail
  refine wp_calls_world (fun W hW => ?_)
  have hb0 : Below w.heap.size w W := by rw [hW]; exact ((((Below.refl w.heap.size w).alloc (Nat.le_refl _) _).alloc (by simp) _).alloc (by simp; omega) _).alloc (by simp; omega) _
  have hs0 : W.heap[w.heap.size]? = some (.cells #[vf, vt, vn, vs] 33 (0, 0)) := by rw [hW]; exact blk_old (blk_old (blk_old (blk_new rfl)))
  have hk0 : W.heap[w.heap.size + 1]? = some (.cells #[.int .u64 k.1, .int .u64 k.2] 45 (0, 0)) := by rw [hW]; exact blk_old (blk_old (blk_new (by simp)))
  have hr0 : W.heap[w.heap.size + 2]? = some (.cells #[.int .i64 rid, .int .i64 rver, .slice av vals.length cv] 48 (0, 0)) := by rw [hW]; exact blk_old (blk_new (by simp))
  have hz0 : W.heap[w.heap.size + 3]? = some (.cells #[.int .i64 0, .int .i64 0, .slice none 0 0] 37 (0, 0)) := by rw [hW]; exact blk_new (by simp)
  clear hW
  refine (echeck_yes Any1 _ _ _ _ s P _ _ (HS.out.below hb0) (HP.out.below hb0) HR.out.chk HR.out.len HR.out.pars (by omega)).mono ?_
  rintro e w1 ⟨rfl, hb⟩
  have hs1 := blk_below hb (lt_of_blk hs0) hs0; have hk1 := blk_below hb (lt_of_blk hk0) hk0; have hr1 := blk_below hb (lt_of_blk hr0) hr0; have hz1 := blk_below hb (lt_of_blk hz0) hz0
  have hb1 := hb0.trans (hb.mono hb0.size)
  clear hb hb0 hs0 hk0 hr0 hz0
  have HB1 := Lib.hid hb1; have HS1 := Lib.hid hs1; have HK1 := Lib.hid hk1; have HR1 := Lib.hid hr1; have HZ1 := Lib.hid hz1
  obtain ⟨s0, s1, s2, s3⟩ := cellsS hs1; obtain ⟨r0, r1, r2⟩ := cells3 hr1
  clear hb1 hs1 hk1 hr1 hz1
  go_wp2_with fail
  refine (rcheck_all Any1 _ _ _ _ s ⟨rid, rver, vals⟩ _ _ (HS.out.below HB1.out) (HV.out.below HB1.out) (fun x hx => by have := HSh.out x hx; omega) (by show vals.length ≤ _; omega)).mono ?_
  rw [HR.out.rec_]
  rintro e w2 ⟨rfl, hb⟩
  have hs2 := blk_below hb (lt_of_blk HS1.out) HS1.out; have hk2 := blk_below hb (lt_of_blk HK1.out) HK1.out; have hr2 := blk_below hb (lt_of_blk HR1.out) HR1.out; have hz2 := blk_below hb (lt_of_blk HZ1.out) HZ1.out
  have hb2 := HB1.out.trans (hb.mono HB1.out.size)
  clear hb s0 s1 s2 s3 r0 r1 r2 HB1 HS1 HK1 HR1 HZ1
  have HB2 := Lib.hid hb2; have HZ2 := Lib.hid hz2
  obtain ⟨s0, s1, s2, s3⟩ := cellsS hs2; obtain ⟨r0, r1, r2⟩ := cells3 hr2; obtain ⟨k0, k1⟩ := cells2K hk2
  clear hb2 hs2 hk2 hr2 hz2
  go_wp2_with fail
  refine (encoded_yes Any1 _ _ _ _ s P _ k ⟨rid, rver, vals⟩ _ _ (HS.out.below HB2.out) (HP.out.below HB2.out) (HV.out.below HB2.out) HR.out.enc).mono ?_
  rw [HX.out]
  rintro e w3 ⟨v3, rfl, ⟨sf, rfl, hbv⟩, hb⟩
  have HBV := Lib.hid hbv
  obtain ⟨a3, c3, rfl⟩ := hbv.slice
  have hz3 := blk_below hb (lt_of_blk HZ2.out) HZ2.out
  have HZ3 := Lib.hid hz3
  have HB3 := Lib.hid (HB2.out.trans (hb.mono HB2.out.size))
  have hzl := lt_of_blk HZ2.out; have hzz := HB2.out.size
  obtain ⟨z0, z1, z2⟩ := cells3 hz3
  have f0 := frozen_of_row _ _ 0 _ _ hz3; have f1 := frozen_of_row _ _ 1 _ _ hz3; have f2 := frozen_of_row _ _ 2 _ _ hz3
  have y1 := lt_of_blk hz3
  clear hbv hb hz3 s0 s1 s2 s3 r0 r1 r2 k0 k1
  go_wp2_with fail
  refine bodyPost_row2 rfl rfl (blk_set (i := 2) (v := .slice a3 X.fields.length c3) (blk_set (i := 1) (v := .int .i64 X.ver) (blk_set (i := 0) (v := .int .i64 X.id) HZ3.out))) Tryz.underlying37 rfl (by kernel_rfl)
    ⟨_, rfl, ⟨_, rfl, ?_⟩, ((HB3.out.setCell (p := ⟨w.heap.size + 3, 0, none⟩) (by show w.heap.size ≤ w.heap.size + 3; omega) _).setCell (p := ⟨w.heap.size + 3, 1, none⟩) (by show w.heap.size ≤ w.heap.size + 3; omega) _).setCell (p := ⟨w.heap.size + 3, 2, none⟩) (by show w.heap.size ≤ w.heap.size + 3; omega) _⟩
  refine HBV.out.move (by simp [World.setCell]) fun b hb hs => ?_
  have hs' : w2.heap.size ≤ b := hs
  exact ⟨((heap_setCell_other _ _ _ _ (by show b ≠ w.heap.size + 3; omega)).trans (heap_setCell_other _ _ _ _ (by show b ≠ w.heap.size + 3; omega))).trans (heap_setCell_other _ _ _ _ (by show b ≠ w.heap.size + 3; omega)), by show w.heap.size ≤ b; omega⟩
end
section
set_option maxRecDepth 100000
open Go.RowKit
attribute [local go_sem] toList_mk mk_size str_append
theorem sjoin_any (S : Nat → Prop) (v : Value) (L : List (List UInt8)) (w : World) (h : Vec w S 1 encS v L) (hn : L.length ≤ 1000000) (hj : (joinL L).length ≤ 1000000000) :
    Calls Tryz.prog 52 #[v, .string ⟨#[32]⟩] w fun e w' => e = .returned (strV (joinL L)) ∧ Below w.heap.size w w' := by
  obtain ⟨a, cap, rfl, hcap, h0⟩ := h
  have hjj : Lib.join ((L.map mkS).map (·.data.toList)) [32] = joinL L := by
    rw [List.map_map, ← join_toks]; congr 1; conv => rhs; rw [← List.map_id L]
    exact List.map_congr_left fun x _ => by simp [mkS]
  by_cases hz : L = []
  · subst hz
    exact (Tryz.strings_Join_none a cap ⟨#[32]⟩ w).mono fun e w' ⟨he, hw⟩ => ⟨he, by rw [hw]; exact Below.refl _ _⟩
  · obtain ⟨b, off, rfl, _, hb, hc⟩ := h0 (List.length_pos_iff.2 hz)
    have := Tryz.strings_Join b off cap (L.map mkS) ⟨#[32]⟩ w (fun j x hx => by
      rw [List.getElem?_map] at hx
      obtain ⟨y, hy, rfl⟩ := Option.map_eq_some_iff.1 hx
      have := hc j y hy 0 _ rfl
      simpa [mkS] using this) hb (by simp; omega) (by simpa using hcap) (by rw [show (⟨#[32]⟩ : ByteArray).data.toList = [32] from rfl, hjj]; omega)
    rw [show (⟨#[32]⟩ : ByteArray).data.toList = [32] from rfl, hjj, List.length_map] at this
    exact this
theorem EncVal.below {w w' : World} {S : Nat → Prop} {v : Value} {e : EncL} (h : EncVal w S v e) (hb : Below w.heap.size w w') : EncVal w' S v e := by
  obtain ⟨s, rfl, h⟩ := h; exact ⟨s, rfl, h.below hb⟩
/-- a row that lies in a block of its own -/
theorem own_new {α : Type} {w0 w : World} {e : TypeId} {enc : α → List Value} {L : List α} {g size n : Nat} (hb : Below w0.heap.size w0 w) (hg : w0.heap.size ≤ g) (h : w.heap[g]? = some (.cells (L.flatMap enc).toArray e (0, 0))) (hl : (L.flatMap enc).length = L.length * size) (hm : L.length ≤ 1000000) (hn : n = L.length) :
    OwnV e size enc w0 (.slice (some ⟨g, 0, none⟩) n n) L w := by
  subst hn
  exact ⟨⟨hl, .inr ⟨g, L.length, _, rfl, hg, h, Nat.le_refl _, by unfold maxLen; omega, by simpa using hl, by rw [← hl]; show List.take _ (L.flatMap enc) = _; exact List.take_length⟩⟩, hb⟩
set_option maxHeartbeats 1000000 in
theorem hex_no (S : Nat → Prop) (v : Value) (b : BitsL) (w : World) (h : BitsAt w S v b) (hi : InI b.len) (hv : validB b = false) :
    Calls Tryz.prog 51 #[v] w fun e w' => e = .returned (.tuple #[strV [], .int .i64 8]) ∧ Below w.heap.size w w' := by
  obtain ⟨c, rfl, hA⟩ := h.form
  have HA := Lib.hid hA; have HV := Lib.hid hv
  clear h hA hv
  obtain ⟨bl, ba, bn, bc⟩ := c
  dsimp only [encBV] at HA ⊢
  go_enter Tryz.func51, Tryz.ntmps51
  go_wp2_with fail
  refine wp_calls_world (fun W hW => ?_)
  have hb0 : Below w.heap.size w W := by rw [hW]; exact (Below.refl w.heap.size w).alloc (Nat.le_refl _) _
  clear hW
  refine (bvalid_any S _ b _ (HA.out.below hb0) hi.1 hi.2).mono ?_
  rw [HV.out]
  rintro e w1 ⟨rfl, hb⟩
  have HB1 := Lib.hid (hb0.trans (hb.mono hb0.size))
  clear hb hb0
  go_wp2_with fail
  go_ret2
  exact ⟨rfl, HB1.out⟩
theorem oneG : ∀ x : List UInt8, ∀ u ∈ encS x, u.oneCell' = true := by intro x u hu; simp [encS] at hu; subst hu; rfl
theorem joinDash (x y : List UInt8) : joinL [x, y, [45]] = x ++ [32] ++ y ++ [32, 45] := by simp [joinL]
set_option maxHeartbeats 4000000 in
/-- the line of a record whose one array is missing -/
theorem eline_none (S : Nat → Prop) (v : Value) (i j : Nat) (w : World) (h : EncVal w S v ⟨i, j, [noBits]⟩) (hi1 : 1 ≤ i) (hj1 : 1 ≤ j) (hi : i < 100) (hj : j < 100) :
    Calls Tryz.prog 17 #[v] w fun e w' => e = .returned (.tuple #[strV (Lib.decDigits i ++ [32] ++ Lib.decDigits j ++ [32, 45]), .int .i64 0]) ∧ Below w.heap.size w w' := by
  obtain ⟨s, rfl, hF⟩ := h
  dsimp only at hF
  obtain ⟨a, cap, rfl⟩ := hF.slice
  have hit1 := fun w => Tryz.strconv_Itoa_small i hi w
  have hit2 := fun w => Tryz.strconv_Itoa_small j hj w
  have d1 := digs_len i hi; have d2 := digs_len j hj
  obtain ⟨x, hx⟩ : ∃ x, Lib.decDigits i = x := ⟨_, rfl⟩
  obtain ⟨y, hy⟩ : ∃ y, Lib.decDigits j = y := ⟨_, rfl⟩
  rw [hx] at hit1 d1 ⊢; rw [hy] at hit2 d2 ⊢
  obtain ⟨z, hz⟩ : ∃ z, x ++ [32] ++ y ++ [32, 45] = z := ⟨_, rfl⟩
  have hzl : z.length ≤ 10 := by rw [← hz]; simp; omega
  have hjn := joinDash x y
  rw [hz] at hjn ⊢
  have HJ := Lib.hid hjn
  clear hz hjn
  have hev : evalidB ⟨i, j, [noBits]⟩ = true := by
    simp [evalidB, badB, noneB, noBits]; omega
  have HF := Lib.hid hF; have HI1 := Lib.hid hit1; have HI2 := Lib.hid hit2; have HEv := Lib.hid hev
  clear hF hit1 hit2 hx hy hev
  have e1 : ([noBits] : List BitsL).length = 1 := rfl
  rw [e1] at HF ⊢
  go_enter Tryz.func17, Tryz.ntmps17
  go_wp2_with fail
  refine wp_calls_world (fun W hW => ?_)
  have hb0 : Below w.heap.size w W := by rw [hW]; exact (Below.refl w.heap.size w).alloc (Nat.le_refl _) _
  have hx0 : W.heap[w.heap.size]? = some (.cells #[.int .i64 i, .int .i64 j, .slice a 1 cap] 37 (0, 0)) := by rw [hW]; exact blk_new rfl
  clear hW
  refine (evalid_any S _ ⟨i, j, [noBits]⟩ _ ⟨_, rfl, HF.out.below hb0⟩ (by intro b hb; simp at hb; subst hb; exact ⟨by decide, by decide⟩) (by simp)).mono ?_
  rw [HEv.out]
  rintro e w1 ⟨rfl, hb⟩
  have hx1 := blk_below hb (lt_of_blk hx0) hx0
  have HB1 := Lib.hid (hb0.trans (hb.mono hb0.size)); have HX1 := Lib.hid hx1
  obtain ⟨x0, x1, x2⟩ := cells3 hx1
  have lx := lt_of_blk hx1
  clear hb hb0 hx0 hx1
  go_wp2_with fail
  have bD : Below w1.heap.size w1 w1.drew := (Below.refl _ _).drew
  refine wp_region_noPanic ?_
  refine wp_region_held_drew (S := (fun w' => w'.cell? ⟨w.heap.size, 0, none⟩ = some (.int .i64 i) ∧ w'.cell? ⟨w.heap.size, 1, none⟩ = some (.int .i64 j))) (by kernel_rfl) (⟨x0, x1⟩) (fun hHeld => ?_)
  refine tH 0 (h := ?_)
  try simp only [List.getElem_toArray, List.getElem_cons_zero, List.getElem_cons_succ, Act.put, List.setIfInBounds_toArray, List.set_cons_zero, List.set_cons_succ]
  refine tH 1 (h := ?_)
  try simp only [List.getElem_toArray, List.getElem_cons_zero, List.getElem_cons_succ, Act.put, List.setIfInBounds_toArray, List.set_cons_zero, List.set_cons_succ]
  refine tH 3 (h := ?_)
  try simp only [List.getElem_toArray, List.getElem_cons_zero, List.getElem_cons_succ, Act.put, List.setIfInBounds_toArray, List.set_cons_zero, List.set_cons_succ]
  refine tH 4 (h := ?_)
  try simp only [List.getElem_toArray, List.getElem_cons_zero, List.getElem_cons_succ, Act.put, List.setIfInBounds_toArray, List.set_cons_zero, List.set_cons_succ]
  refine wpAnyH_ready (rs := [2]) (by kernel_rfl) (by simp) ?_
  refine AllReadyH.cons rfl (fun K hK => ?_) AllReadyH.nil
  go_simp
  refine (HI1.out _).mono ?_; rintro e wq ⟨rfl, rfl⟩
  refine hK.out _ _ (⟨x0, x1⟩) (fun hHeld => ?_)
  clear hK K
  try simp only [List.getElem_toArray, List.getElem_cons_zero, List.getElem_cons_succ, Act.put, List.setIfInBounds_toArray, List.set_cons_zero, List.set_cons_succ]
  refine wpAnyH_ready (rs := [5]) (by kernel_rfl) (by simp) ?_
  refine AllReadyH.cons rfl (fun K hK => ?_) AllReadyH.nil
  go_simp
  refine (HI2.out _).mono ?_; rintro e wq ⟨rfl, rfl⟩
  refine hK.out _ _ (⟨x0, x1⟩) (fun hHeld => ?_)
  clear hK K
  try simp only [List.getElem_toArray, List.getElem_cons_zero, List.getElem_cons_succ, Act.put, List.setIfInBounds_toArray, List.set_cons_zero, List.set_cons_succ]
  refine wpAnyH_ready (rs := [6]) (by kernel_rfl) (by simp) ?_
  refine AllReadyH.cons rfl (fun K hK => ?_) AllReadyH.nil
  go_simp
  refine hK.out _ _ (⟨((bD.alloc bD.size _).cell (p := ⟨w.heap.size, 0, none⟩) lx).trans x0, ((bD.alloc bD.size _).cell (p := ⟨w.heap.size, 1, none⟩) lx).trans x1⟩) (fun hHeld => ?_)
  clear hK K
  try simp only [List.getElem_toArray, List.getElem_cons_zero, List.getElem_cons_succ, Act.put, List.setIfInBounds_toArray, List.set_cons_zero, List.set_cons_succ]
  refine tH 7 (h := ?_)
  try simp only [List.getElem_toArray, List.getElem_cons_zero, List.getElem_cons_succ, Act.put, List.setIfInBounds_toArray, List.set_cons_zero, List.set_cons_succ]
  refine wpAnyH_done (by kernel_rfl) ?_ _
  refine NoPanic.normal ?_
  refine exitk_world (fun W2 hW2 => ?_)
  have hb2 : Below w1.heap.size w1 W2 := by rw [hW2]; exact bD.alloc bD.size _
  have hg2 : W2.heap[w1.heap.size]? = some (.cells ([x, y].flatMap encS).toArray 9 (0, 0)) := by rw [hW2]; exact blk_new rfl
  clear hW2 hHeld
  have ho2 : OwnV 9 1 encS w (.slice (some ⟨w1.heap.size, 0, none⟩) 2 2) [x, y] W2 := own_new (HB1.out.trans (hb2.mono HB1.out.size)) HB1.out.size hg2 rfl (by simp) rfl
  have hx2 := blk_below hb2 lx HX1.out
  obtain ⟨x0', x1', x2'⟩ := cells3 hx2
  have lx2 := lt_of_blk hx2
  have HO2 := Lib.hid ho2
  clear hg2 ho2 hx2 x0 x1 x2
  go_wp2_with fail
  go_loopw [4, 22] (fun v k wr => (k = .int .i64 0 ∧ v = .slice (some ⟨w1.heap.size, 0, none⟩) 2 2 ∧ wr = W2) ∨ (k = .int .i64 1 ∧ OwnV 9 1 encS w v [x, y, [45]] wr)) (fun _ k _ => 1 - (intOf k).toNat)
  case atStart => exact .inl ⟨rfl, rfl, rfl⟩
  case round =>
    rcases hrel with ⟨rfl, rfl, rfl⟩ | ⟨rfl, ho⟩
    · have HW := Lib.hid (HF.out.below (HB1.out.trans (hb2.mono HB1.out.size)))
      obtain ⟨b, off, c, rfl, lb, c0, c1, hat⟩ := HW.out.at 0 (by simp)
      rw [Nat.zero_mul, Nat.add_zero] at c0 c1
      obtain ⟨cl, cA, cn, cc⟩ := c
      dsimp only at c0 c1
      have HAt := Lib.hid (show BitsAt wr S (.agg #[.int .i64 cl, .slice cA cn cc]) noBits from hat)
      clear hat
      go_wp2_with fail
      refine wp_calls_world (fun W3 hW3 => ?_)
      have hb3 : Below wr.heap.size wr W3 := by rw [hW3]; exact (Below.refl wr.heap.size wr).alloc (Nat.le_refl _) _
      clear hW3
      refine (hex_no S _ noBits _ (HAt.out.below hb3) ⟨by decide, by decide⟩ rfl).mono ?_
      rintro e w4 ⟨rfl, hb⟩
      have hb4 : Below wr.heap.size wr w4 := hb3.trans (hb.mono hb3.size)
      have HO1 := Lib.hid ((HO2.out.below hb4).below ((Below.refl w4.heap.size w4).alloc (Nat.le_refl _) (.cells #[strV [45]] 9)))
      have HR1 := Lib.hid (show Reads (w4.alloc (.cells #[strV [45]] 9)) 1 (.slice (some ⟨w4.heap.size, 0, none⟩) 1 1) ([[45]] : List (List UInt8)).length (([[45]] : List (List UInt8)).flatMap encS) from reads_block (t := 9) (fr := (0, 0)) (blk_new rfl) rfl)
      have hcn : [x, y].length + ([[45]] : List (List UInt8)).length ≤ 1000000000 := by simp
      clear hb hb3 c0 c1
      have d8 : ((8 : Int) != 0) = true := rfl
      go_wp2_with (at_builtin; refine wpList_append_v rfl (.tmp 33) (.tmp 35) 28 rfl 9 (.string ⟨#[]⟩) 1 16 encS (fun _ => rfl) oneG Tryz.underlying28 infoS rfl (by decide) (by decide) (w0 := w) (v := .slice (some ⟨w1.heap.size, 0, none⟩) 2 2) (A := [x, y]) (B := [[45]]) rfl HO1.out rfl HR1.out hcn ?_; intro v5 w5 ho5 hk5 hz5)
      go_roundw
      case rel => exact .inr ⟨by go_num, ho5⟩
      case measure => simp [intOf]
    · have HO := Lib.hid ho
      have HV := Lib.hid (OwnV.vec (size := 1) (enc := encS) (fun _ => rfl) ho)
      obtain ⟨av, cv, rfl⟩ := HV.out.slice
      clear ho
      go_wp2_with fail
      refine (sjoin_any _ _ [x, y, [45]] _ HV.out (by simp) (by rw [HJ.out]; omega)).mono ?_
      rw [HJ.out]
      rintro e w5 ⟨rfl, hb⟩
      go_wp2_with fail
      go_ret2
      exact ⟨rfl, HO.out.2.trans (hb.mono HO.out.2.size)⟩
end
section
open Go.RowKit
theorem fieldsN_len (s : SchemaL) (P : List ParL) (k : Int × Int) (A : List (List UInt8)) (n : Nat) : (fieldsN s P k A n).length = n := by simp [fieldsN]
end
section
set_option maxRecDepth 100000
open Go.RowKit Cal
attribute [local go_sem] toList_mk mk_size
def awG : SchemaL := ⟨[([103, 105, 118, 101, 110], 1)], [], [], []⟩
def awP : List ParL := [⟨64, 2, -1⟩]
theorem awG_check : checkS awG = 0 := by kernel_rfl
theorem awG_pars : ParsOk awP := ⟨fun i hi => by
    have : i = 0 := by simpa [awP] using hi
    subst this
    exact ⟨by decide, by decide, by decide, by decide, by decide, by decide, by decide⟩, fun i hi => by
    have : i = 0 := by simpa [awP] using hi
    subst this
    exact ⟨by decide, by decide⟩⟩
theorem awG_rec1 : RecIn awG awP ⟨3, 1, [[]]⟩ := ⟨awG_check, by kernel_rfl, rfl, awG_pars, by simp⟩
theorem awG_rec2 : RecIn awG awP ⟨3, 1, [[97, 110, 110]]⟩ := ⟨awG_check, by kernel_rfl, rfl, awG_pars, by simp⟩
theorem awG_enc1 (k : Int × Int) : encN awG awP k ⟨3, 1, [[]]⟩ = ⟨3, 1, [noBits]⟩ := rfl
theorem awG_enc2 (k : Int × Int) : ∃ B : BitsL, encN awG awP k ⟨3, 1, [[97, 110, 110]]⟩ = ⟨3, 1, [B]⟩ ∧ B.len = 64 := by
  refine ⟨fieldN awG ⟨64, 2, -1⟩ k [[97, 110, 110]] 0, rfl, ?_⟩
  have h := awG_rec2.enc
  unfold fieldN
  rw [if_neg (by decide)]
  unfold bloomN
  rw [if_pos (show bloomOk ⟨64, 2, -1⟩ = true from rfl), if_pos (grams_fit (s := awG) (i := ((0 : Nat) : Int)) (l := [[97, 110, 110]].getD 0 []) (by kernel_rfl) (by kernel_rfl)).2.1]
theorem awG_same {B : BitsL} (h : B.len = 64) : sameE ⟨3, 1, [noBits]⟩ ⟨3, 1, [B]⟩ = false := by
  cases hs : sameE ⟨3, 1, [noBits]⟩ ⟨3, 1, [B]⟩
  · rfl
  · exfalso
    simp only [sameE, sameF, Bool.and_eq_true, List.all_eq_true, decide_eq_true_iff] at hs
    have h0 := hs.2.2.2 0 (List.mem_range.2 (by simp))
    have h1 : cmpB noBits B = 0 := by simpa [sameAt] using h0
    have h2 := cmpB_eq h1
    rw [← h2] at h
    simp [noBits] at h
set_option maxHeartbeats 8000000 in
theorem awake_e (w : World) : Calls Tryz.prog 8 #[] w fun e w' => e = .returned (.bool true) ∧ Below w.heap.size w w' := by
  go_enter Tryz.func8, Tryz.ntmps8
  go_wp2_with fail
  refine wp_calls_world (fun W hW => ?_)
  have hb0 : Below w.heap.size w W := by rw [hW]; exact ((((Below.refl w.heap.size w).alloc (Nat.le_refl _) _).alloc (by simp) _).alloc (by simp; omega) _).alloc (by simp; omega) _
  have hf0 : W.heap[w.heap.size]? = some (.cells #[strV [103, 105, 118, 101, 110], .int .i64 1] 79 (0, 0)) := by rw [hW]; exact blk_old (blk_old (blk_old (blk_new rfl)))
  have hs0 : W.heap[w.heap.size + 1]? = some (.cells #[.slice (some ⟨w.heap.size, 0, none⟩) 1 1, .slice none 0 0, .slice none 0 0, .slice none 0 0] 33 (0, 0)) := by rw [hW]; exact blk_old (blk_old (blk_new (by simp)))
  have hp0 : W.heap[w.heap.size + 2]? = some (.cells (awP.flatMap encPar).toArray 81 (0, 0)) := by rw [hW]; exact blk_old (blk_new (by simp))
  have hv0 : W.heap[w.heap.size + 3]? = some (.cells (([[]] : List (List UInt8)).flatMap encS).toArray 9 (0, 0)) := by rw [hW]; exact blk_new (by simp)
  have hSA : SchemaAt W Any1 (.slice (some ⟨w.heap.size, 0, none⟩) 1 1) (.slice none 0 0) (.slice none 0 0) (.slice none 0 0) awG := ⟨vecF_one hf0, Vec.nil _ _ _ _, Vec.nil _ _ _ _, Vec.nil _ _ _ _⟩
  have hPA : Vec W Any1 3 encPar (.slice (some ⟨w.heap.size + 2, 0, none⟩) 1 1) awP := blockVec (k := 3) (enc := encPar) (L := awP) (S := Any1) (fun _ => rfl) hp0 trivial 1 rfl
  have hVA : Vec W Any1 1 encS (.slice (some ⟨w.heap.size + 3, 0, none⟩) 1 1) [[]] := blockVec (k := 1) (enc := encS) (L := [[]]) (S := Any1) (fun _ => rfl) hv0 trivial 1 rfl
  clear hW hf0 hp0 hv0
  refine (erecord_yes Any1 _ _ _ _ awG awP _ (0, 0) ⟨3, 1, [[]]⟩ _ W hSA hPA hVA awG_rec1).mono ?_
  rw [awG_enc1]
  rintro e w1 ⟨_, rfl, ⟨sx, rfl, hX⟩, hb⟩
  dsimp only at hX
  obtain ⟨ax, cx, rfl⟩ := hX.slice
  have hs1 := blk_below hb (lt_of_blk hs0) hs0
  have HS1 := Lib.hid hs1; have HB1 := Lib.hid (hb0.trans (hb.mono hb0.size)); have HSA := Lib.hid (hSA.below hb); have HPA := Lib.hid (hPA.below hb)
  have HX := Lib.hid (show EncVal w1 (fun b => W.heap.size ≤ b) (.agg #[.int .i64 3, .int .i64 1, .slice ax ([noBits] : List BitsL).length cx]) ⟨3, 1, [noBits]⟩ from ⟨_, rfl, hX⟩)
  obtain ⟨s0, s1, s2, s3⟩ := cellsS hs1
  have ls := lt_of_blk hs1
  have e1 : ([noBits] : List BitsL).length = 1 := rfl
  rw [e1] at HX ⊢
  clear hX hb hb0 hs0 hSA hPA hVA hs1
  go_wp2_with fail
  refine wp_calls_world (fun W2 hW2 => ?_)
  have hb2 : Below w1.heap.size w1 W2 := by rw [hW2]; exact ((Below.refl w1.heap.size w1).alloc (Nat.le_refl _) _).alloc (by simp) _
  have hx2 : W2.heap[w1.heap.size]? = some (.cells #[.int .i64 3, .int .i64 1, .slice ax 1 cx] 37 (0, 0)) := by rw [hW2]; exact blk_old (blk_new rfl)
  have hv2 : W2.heap[w1.heap.size + 1]? = some (.cells (([[97, 110, 110]] : List (List UInt8)).flatMap encS).toArray 9 (0, 0)) := by rw [hW2]; exact blk_new (by simp)
  have hVA : Vec W2 Any1 1 encS (.slice (some ⟨w1.heap.size + 1, 0, none⟩) 1 1) [[97, 110, 110]] := blockVec (k := 1) (enc := encS) (L := [[97, 110, 110]]) (S := Any1) (fun _ => rfl) hv2 trivial 1 rfl
  clear hW2 hv2
  obtain ⟨B, hBe, hBl⟩ := awG_enc2 (0, 0)
  refine (erecord_yes Any1 _ _ _ _ awG awP _ (0, 0) ⟨3, 1, [[97, 110, 110]]⟩ _ W2 (HSA.out.below hb2) (HPA.out.below hb2) hVA awG_rec2).mono ?_
  rw [hBe]
  rintro e w2 ⟨_, rfl, ⟨sy, rfl, hY⟩, hb⟩
  dsimp only at hY
  obtain ⟨ay, cy, rfl⟩ := hY.slice
  have hx3 := blk_below hb (lt_of_blk hx2) hx2
  have HB2 := Lib.hid (HB1.out.trans ((hb2.trans (hb.mono hb2.size)).mono HB1.out.size))
  have HX2 := Lib.hid ((HX.out.below hb2).below hb)
  have HXb := Lib.hid hx3
  have HY := Lib.hid (show EncVal w2 (fun b => W2.heap.size ≤ b) (.agg #[.int .i64 3, .int .i64 1, .slice ay ([B] : List BitsL).length cy]) ⟨3, 1, [B]⟩ from ⟨_, rfl, hY⟩)
  obtain ⟨by_, oy, cb, rfl, ly, y0, y1, hat⟩ := hY.at 0 (by simp)
  have HAt := Lib.hid hat; clear hat
  rw [Nat.zero_mul, Nat.add_zero] at y0 y1
  have e2 : ([B] : List BitsL).length = 1 := rfl
  rw [e2] at HY ⊢
  obtain ⟨x0, x1, x2⟩ := cells3 hx3
  have lx := lt_of_blk hx3
  clear hY hb hb2 hx2 hVA hx3 HX s0 s1 s2 s3 ls HSA HPA HS1 hBe
  go_wp2_with fail
  refine wp_calls_world (fun W3 hW3 => ?_)
  have hb3 : Below w2.heap.size w2 W3 := by rw [hW3]; exact (Below.refl w2.heap.size w2).alloc (Nat.le_refl _) _
  have hy3 : W3.heap[w2.heap.size]? = some (.cells #[.int .i64 3, .int .i64 1, .slice (some ⟨by_, oy, none⟩) 1 cy] 37 (0, 0)) := by rw [hW3]; exact blk_new rfl
  clear hW3
  refine (eline_none _ _ 3 1 W3 (HX2.out.below hb3) (by decide) (by decide) (by decide) (by decide)).mono ?_
  rw [show Lib.decDigits 3 ++ [32] ++ Lib.decDigits 1 ++ [32, 45] = [51, 32, 49, 32, 45] from by decide +kernel]
  rintro e w4 ⟨rfl, hb⟩
  have hb4 := hb3.trans (hb.mono hb3.size)
  have hx4 := blk_below hb4 lx HXb.out
  have hy4 := blk_below hb (lt_of_blk hy3) hy3
  have HB4 := Lib.hid (HB2.out.trans (hb4.mono HB2.out.size))
  have HX4 := Lib.hid (HX2.out.below hb4); have HY4 := Lib.hid (HY.out.below hb4)
  have y0' := (hb4.cell (p := ⟨by_, oy, none⟩) ly).trans y0
  have y1' := (hb4.cell (p := ⟨by_, oy + 1, none⟩) ly).trans y1
  have hcb : cb.len = 64 := by
    obtain ⟨s, e, _⟩ := HAt.out
    have e0 := congrArg (fun v => match v with | Value.agg cs => cs.getD 0 undef | _ => undef) e
    have e1 : Value.int .i64 cb.len = Value.int .i64 B.len := e0
    have e2 : cb.len = B.len := by injection e1
    rw [e2, hBl]
  rw [hcb] at y0'
  obtain ⟨z0, z1, z2⟩ := cells3 hx4
  obtain ⟨v0, v1, v2⟩ := cells3 hy4
  have lx4 := lt_of_blk hx4; have ly4 := lt_of_blk hy4
  clear hb hb3 hb4 hx4 hy4 hy3 x0 x1 x2 y0 y1 HX2 HY HXb HB2 lx hcb
  go_wp2_with fail
  refine (evalid_any _ _ ⟨3, 1, [noBits]⟩ _ HX4.out (by intro b hb; simp at hb; subst hb; exact ⟨by decide, by decide⟩) (by simp)).mono ?_
  rw [show evalidB ⟨3, 1, [noBits]⟩ = true from rfl]
  rintro e w5 ⟨rfl, hb⟩
  have z0' := (hb.cell (p := ⟨w1.heap.size, 0, none⟩) lx4).trans z0
  have z1' := (hb.cell (p := ⟨w1.heap.size, 1, none⟩) lx4).trans z1
  have z2' := (hb.cell (p := ⟨w1.heap.size, 2, none⟩) lx4).trans z2
  have v0' := (hb.cell (p := ⟨w2.heap.size, 0, none⟩) ly4).trans v0
  have v1' := (hb.cell (p := ⟨w2.heap.size, 1, none⟩) ly4).trans v1
  have v2' := (hb.cell (p := ⟨w2.heap.size, 2, none⟩) ly4).trans v2
  have HB5 := Lib.hid (HB4.out.trans (hb.mono HB4.out.size))
  have HX5 := Lib.hid (HX4.out.below hb); have HY5 := Lib.hid (HY4.out.below hb)
  clear hb z0 z1 z2 v0 v1 v2 y0' y1'
  go_wp2_with fail
  refine (esame_any _ _ _ _ ⟨3, 1, [noBits]⟩ ⟨3, 1, [B]⟩ _ HX5.out HY5.out (by simp) (by intro b hb; simp at hb; subst hb; simp [noBits])).mono ?_
  rw [awG_same hBl]
  rintro e w6 ⟨rfl, hb⟩
  go_wp2_with fail
  go_ret
  exact ⟨rfl, HB5.out.trans (hb.mono HB5.out.size)⟩
end
section
set_option maxRecDepth 100000
open Go.RowKit
def KeyPost (D : Nat) (w : World) (e : Ending) (w' : World) : Prop := ∃ k : Int × Int, e = .returned (.agg #[.int .u64 k.1, .int .u64 k.2]) ∧ Moved D w w'
set_option maxHeartbeats 1000000 in
theorem key_deal (D : Nat) (w : World) (h : DeckAt w D) :
    Calls Tryz.prog 14 #[.pointer (some ⟨D, 0, none⟩)] w (KeyPost D w) := by
  have zD := h.lt
  have M0 := Lib.hid (Moved.start h); clear h
  go_enter Tryz.func14, Tryz.ntmps14
  go_wp2_with fail
  refine (word_any D _ (M0.out.alloc _).deck).mono ?_
  rintro e w1 ⟨a, rfl, a0, a1, mv⟩
  have M1 := Lib.hid ((M0.out.alloc _).trans mv)
  have HZ1 := Lib.hid (mv.blk (k := w.heap.size) (by omega) (blk_new rfl))
  clear mv
  go_wp2_with fail
  refine (word_any D _ M1.out.deck).mono ?_
  rintro e w2 ⟨b, rfl, b0, b1, mv⟩
  have M2 := Lib.hid (M1.out.trans mv)
  have hz2 := mv.blk (k := w.heap.size) (by omega) HZ1.out
  have HZ2 := Lib.hid hz2
  obtain ⟨z0, z1⟩ := cells2K hz2
  have f0 := frozen_of_row _ _ 0 _ _ hz2; have f1 := frozen_of_row _ _ 1 _ _ hz2
  have y1 := lt_of_blk hz2
  clear mv hz2 HZ1 M1
  go_wp2_with fail
  exact bodyPost_row1 rfl rfl (blk_set (i := 1) (v := .int .u64 b) (blk_set (i := 0) (v := .int .u64 a) HZ2.out)) Tryz.underlying45 rfl (by kernel_rfl)
    ⟨(a, b), rfl, (M2.out.set (a := ⟨w.heap.size, 0, none⟩) (Nat.le_refl _) _).set (a := ⟨w.heap.size, 1, none⟩) (Nat.le_refl _) _⟩
theorem infoPar : (Tryz.prog.info? 81).map (fun i => (i.zero, i.size, i.bytes)) = some (some (.agg #[.int .i64 0, .int .i64 0, .int .i64 0]), 3, 24) := by kernel_rfl
theorem one_encPar : ∀ (x : ParL), ∀ u ∈ encPar x, u.oneCell' = true := by
  intro x u hu; simp at hu; rcases hu with rfl | rfl | rfl <;> rfl
/-- parameters that are dealt for n fields, the first j of them -/
structure ParsD (n j : Nat) (P : List ParL) : Prop where
  len : P.length = j
  par : ∀ i, i < j → ParOk (P.getD i default) ∧ (P.getD i default).salt < n ∧ (P.getD i default).salt ≠ i
theorem ParsD.nil (n : Nat) : ParsD n 0 [] := ⟨rfl, fun i hi => by omega⟩
theorem ParsD.snoc {n j : Nat} {P : List ParL} {p : ParL} (h : ParsD n j P) (hp : ParOk p) (h1 : p.salt < n) (h2 : p.salt ≠ j) : ParsD n (j + 1) (P ++ [p]) := by
  refine ⟨by simp [h.len], fun i hi => ?_⟩
  by_cases hij : i < j
  · have e : (P ++ [p]).getD i default = P.getD i default := by rw [List.getD, List.getD, List.getElem?_append_left (by rw [h.len]; exact hij)]
    rw [e]; exact h.par i hij
  · have hij' : i = j := by omega
    subst hij'
    have e : (P ++ [p]).getD i default = p := by rw [List.getD, List.getElem?_append_right (by rw [h.len]; exact Nat.le_refl _), h.len, Nat.sub_self]; rfl
    rw [e]; exact ⟨hp, h1, h2⟩
theorem ParsD.ok {n : Nat} {P : List ParL} (h : ParsD n n P) : ParsOk P := ⟨fun i hi => (h.par i (by rw [← h.len]; exact hi)).1, fun i hi => by have := (h.par i (by rw [← h.len]; exact hi)).2; rw [h.len]; exact this⟩
def ParsPost (D n : Nat) (w : World) (e : Ending) (w' : World) : Prop := ∃ v P, e = .returned v ∧ Vec w' (fun b => w.heap.size ≤ b) 3 encPar v P ∧ ParsD n n P ∧ Moved D w w'
theorem OwnM.set2 {α : Type} {D e size : Nat} {enc : α → List Value} {wA w : World} {u : Value} {L : List α} (h : OwnM D e size enc wA u L w) {a : Addr} {v : Value} (ha : wA.heap.size ≤ a.block) (hn : ∀ g cap, u = .slice (some ⟨g, 0, none⟩) L.length cap → g < a.block) : OwnM D e size enc wA u L (w.setCell a v) := by
  refine ⟨⟨h.1.1, ?_⟩, h.2.set ha v⟩
  rcases h.1.2 with h0 | ⟨g, cap, cur, hv, hg, hh, rest⟩
  · exact .inl h0
  · exact .inr ⟨g, cap, cur, hv, hg, blk_far hh (by have := hn g cap hv; omega), rest⟩
set_option maxHeartbeats 8000000 in
theorem pars_deal (D n : Nat) (w : World) (h : DeckAt w D) (hn : n ≤ 5) :
    Calls Tryz.prog 13 #[.pointer (some ⟨D, 0, none⟩), .int .i64 n] w (ParsPost D n w) := by
  have zD := h.lt
  have M0 := Lib.hid (Moved.start h); clear h
  go_enter Tryz.func13, Tryz.ntmps13
  go_wp2_with fail
  go_loopw [5, 6, 7] (fun v i _ wr => ∃ (j : Nat) (P : List ParL), i = .int .i64 j ∧ j ≤ n ∧ OwnM D 81 3 encPar w v P wr ∧ ParsD n j P) (fun _ i _ _ => n - (intOf i).toNat)
  case atStart => exact ⟨0, [], rfl, by omega, ⟨⟨by simp, .inl ⟨rfl, rfl⟩⟩, M0.out⟩, ParsD.nil n⟩
  case round =>
    obtain ⟨j, P, rfl, hj, ho, hp⟩ := hrel
    have HO := Lib.hid ho; have HPD := Lib.hid hp; clear ho hp
    by_cases hlt : j < n
    · have hq : decide ((j : Int) < n) = true := by simp; omega
      go_wp2_with fail
      refine (next_any D _ 3 HO.out.2.deck (by omega) (by omega)).mono ?_
      rintro e w1 ⟨x, rfl, x0, x1, mv⟩
      have HO1 := Lib.hid (HO.out.moved mv); clear mv HO
      go_wp2_with fail
      refine (next_any D _ 6 HO1.out.2.deck (by omega) (by omega)).mono ?_
      rintro e w2 ⟨y, rfl, y0, y1, mv⟩
      have HO2 := Lib.hid (HO1.out.moved mv); clear mv HO1
      by_cases hn1 : 1 < n
      · have hq1 : decide ((1 : Int) < n) = true := by simp; omega
        go_wp2_with fail
        refine (one_any D _ 3 (HO2.out.2.alloc _).deck (by omega) (by omega)).mono ?_
        rintro e w3 ⟨u, rfl, mv⟩
        have hbx := mv.blk (k := w2.heap.size) (by have := HO2.out.2.size; omega) (blk_new rfl)
        have HO3a := Lib.hid (HO2.out.moved (((Moved.start HO2.out.2.deck).alloc (.cells #[.int .i64 (64 * (1 + x)), .int .i64 (1 + y), .int .i64 (-1)] 81)).trans mv))
        have hz2 := HO2.out.2.size; have hz3 := lt_of_blk hbx; have hz4 := mv.size
        clear mv
        obtain ⟨x0', x1', x2'⟩ := cells3 hbx
        have f2 := frozen_of_row _ _ 2 _ _ hbx
        have hz5 : ∀ g cap, u5 = .slice (some ⟨g, 0, none⟩) P.length cap → g < w2.heap.size := by
          intro g cap e
          rcases HO2.out.1.2 with ⟨h0, _⟩ | ⟨g', cap', cur, h0, hg, hh, _⟩
          · rw [h0] at e; cases e
          · rw [h0] at e; cases e; exact lt_of_blk hh
        cases u
        · clear f2 hbx HO2
          have hpar : ParOk ⟨64 * (1 + x), 1 + y, -1⟩ := ⟨by dsimp only; omega, by dsimp only; omega, by dsimp only; omega, by dsimp only; omega, by dsimp only; omega, by dsimp only; omega, by dsimp only; omega⟩
          have hpd := HPD.out.snoc (p := ⟨64 * (1 + x), 1 + y, -1⟩) hpar (by dsimp only; omega) (by dsimp only; omega)
          have HPD2 := Lib.hid hpd
          have HO3 := Lib.hid (HO3a.out.moved ((Moved.start HO3a.out.2.deck).alloc (.cells #[.int .i64 (64 * (1 + x)), .int .i64 (1 + y), .int .i64 (-1)] 81)))
          have hpl := HPD.out.len
          have hcn : P.length + [(⟨64 * (1 + x), 1 + y, -1⟩ : ParL)].length ≤ 1000000000 := by simp only [List.length_cons, List.length_nil]; omega
          clear hpl hpd hpar
          have HR3 := Lib.hid (show Reads _ 3 (.slice (some ⟨w3.heap.size, 0, none⟩) 1 1) [(⟨64 * (1 + x), 1 + y, -1⟩ : ParL)].length ([(⟨64 * (1 + x), 1 + y, -1⟩ : ParL)].flatMap encPar) from reads_block (w := w3.alloc (.cells #[.int .i64 (64 * (1 + x)), .int .i64 (1 + y), .int .i64 (-1)] 81)) (t := 81) (fr := (0, 0)) (blk_new rfl) rfl)
          go_wp2_with (at_builtin; refine wpList_append_m rfl (.tmp 32) (.tmp 34) 41 rfl D 81 (.agg #[.int .i64 0, .int .i64 0, .int .i64 0]) 3 24 encPar (fun _ => rfl) one_encPar Tryz.underlying41 infoPar rfl (by decide) (by decide) (wA := w) (v := u5) (A := P) (B := [⟨64 * (1 + x), 1 + y, -1⟩]) rfl HO3.out rfl HR3.out hcn ?_; intro v4 w4 ho4 hk4)
          go_roundw
          case rel => exact ⟨j + 1, P ++ [⟨64 * (1 + x), 1 + y, -1⟩], by go_num, by omega, ho4, HPD2.out⟩
          case measure => simp [intOf]; omega
        · obtain ⟨q, hmod, hqn, hqj⟩ : ∃ q : Nat, ((j : Int) + 1) % (n : Int) = q ∧ q < n ∧ q ≠ j := by
            by_cases hjn : j + 1 = n
            · exact ⟨0, by rw [show (j : Int) + 1 = (n : Int) by omega, Int.emod_self]; rfl, by omega, by omega⟩
            · exact ⟨j + 1, by rw [Int.emod_eq_of_lt (by omega) (by omega)]; rfl, by omega, by omega⟩
          have hn0 : (n : Int) ≠ 0 := by omega
          have hset := blk_set (i := 2) (v := .int .i64 q) hbx
          have HBX := Lib.hid hset
          clear hset hbx HO2
          have hpar : ParOk ⟨64 * (1 + x), 1 + y, q⟩ := ⟨by dsimp only; omega, by dsimp only; omega, by dsimp only; omega, by dsimp only; omega, by dsimp only; omega, by dsimp only; omega, by dsimp only; omega⟩
          have hpd := HPD.out.snoc (p := ⟨64 * (1 + x), 1 + y, q⟩) hpar (by dsimp only; omega) (by dsimp only; omega)
          have HPD2 := Lib.hid hpd
          have HO3 := Lib.hid (OwnM.set2 HO3a.out (a := ⟨w2.heap.size, 2, none⟩) (v := .int .i64 q) hz2 hz5)
          have hpl := HPD.out.len
          have hcn : P.length + [(⟨64 * (1 + x), 1 + y, q⟩ : ParL)].length ≤ 1000000000 := by simp only [List.length_cons, List.length_nil]; omega
          clear hpl hpd hpar
          have HO4 := Lib.hid (HO3.out.moved ((Moved.start HO3.out.2.deck).alloc (.cells #[.int .i64 (64 * (1 + x)), .int .i64 (1 + y), .int .i64 (q : Int)] 81)))
          have HR3 := Lib.hid (show Reads _ 3 (.slice (some ⟨w3.heap.size, 0, none⟩) 1 1) [(⟨64 * (1 + x), 1 + y, q⟩ : ParL)].length ([(⟨64 * (1 + x), 1 + y, q⟩ : ParL)].flatMap encPar) from reads_block (w := (w3.setCell ⟨w2.heap.size, 2, none⟩ (.int .i64 q)).alloc (.cells #[.int .i64 (64 * (1 + x)), .int .i64 (1 + y), .int .i64 (q : Int)] 81)) (t := 81) (fr := (0, 0)) (blk_new (by simp [World.setCell])) rfl)
          go_wp2_with (at_builtin; refine wpList_append_m rfl (.tmp 32) (.tmp 34) 41 rfl D 81 (.agg #[.int .i64 0, .int .i64 0, .int .i64 0]) 3 24 encPar (fun _ => rfl) one_encPar Tryz.underlying41 infoPar rfl (by decide) (by decide) (wA := w) (v := u5) (A := P) (B := [⟨64 * (1 + x), 1 + y, q⟩]) rfl HO4.out rfl HR3.out hcn ?_; intro v4 w4 ho4 hk4)
          go_roundw
          case rel => exact ⟨j + 1, P ++ [⟨64 * (1 + x), 1 + y, q⟩], by go_num, by omega, ho4, HPD2.out⟩
          case measure => simp [intOf]; omega
      · have hq1 : decide ((1 : Int) < n) = false := by simp; omega
        have hz2 := HO2.out.2.size
        have hpar : ParOk ⟨64 * (1 + x), 1 + y, -1⟩ := ⟨by dsimp only; omega, by dsimp only; omega, by dsimp only; omega, by dsimp only; omega, by dsimp only; omega, by dsimp only; omega, by dsimp only; omega⟩
        have hpd := HPD.out.snoc (p := ⟨64 * (1 + x), 1 + y, -1⟩) hpar (by dsimp only; omega) (by dsimp only; omega)
        have HPD2 := Lib.hid hpd
        have HO3 := Lib.hid (HO2.out.moved (((Moved.start HO2.out.2.deck).alloc (.cells #[.int .i64 (64 * (1 + x)), .int .i64 (1 + y), .int .i64 (-1)] 81)).alloc (.cells #[.int .i64 (64 * (1 + x)), .int .i64 (1 + y), .int .i64 (-1)] 81)))
        have hpl := HPD.out.len
        have hcn : P.length + [(⟨64 * (1 + x), 1 + y, -1⟩ : ParL)].length ≤ 1000000000 := by simp only [List.length_cons, List.length_nil]; omega
        clear hpl hpd hpar
        have HR3 := Lib.hid (show Reads _ 3 (.slice (some ⟨w2.heap.size + 1, 0, none⟩) 1 1) [(⟨64 * (1 + x), 1 + y, -1⟩ : ParL)].length ([(⟨64 * (1 + x), 1 + y, -1⟩ : ParL)].flatMap encPar) from reads_block (w := (w2.alloc (.cells #[.int .i64 (64 * (1 + x)), .int .i64 (1 + y), .int .i64 (-1)] 81)).alloc (.cells #[.int .i64 (64 * (1 + x)), .int .i64 (1 + y), .int .i64 (-1)] 81)) (t := 81) (fr := (0, 0)) (blk_new (by simp)) rfl)
        go_wp2_with (at_builtin; refine wpList_append_m rfl (.tmp 32) (.tmp 34) 41 rfl D 81 (.agg #[.int .i64 0, .int .i64 0, .int .i64 0]) 3 24 encPar (fun _ => rfl) one_encPar Tryz.underlying41 infoPar rfl (by decide) (by decide) (wA := w) (v := u5) (A := P) (B := [⟨64 * (1 + x), 1 + y, -1⟩]) rfl HO3.out rfl HR3.out hcn ?_; intro v4 w4 ho4 hk4)
        go_roundw
        case rel => exact ⟨j + 1, P ++ [⟨64 * (1 + x), 1 + y, -1⟩], by go_num, by omega, ho4, HPD2.out⟩
        case measure => simp [intOf]; omega
    · have hq : decide ((j : Int) < n) = false := by simp; omega
      obtain rfl : j = n := by omega
      go_wp2_with fail
      go_ret
      exact ⟨_, P, rfl, Vec.owns (k := 3) (enc := encPar) (fun _ => rfl) HO.out.1 (fun b hb _ => hb), HPD.out, HO.out.2⟩
end
section
set_option maxRecDepth 100000
open Go.RowKit
attribute [local go_sem] toList_mk mk_size bytes_append
theorem ext_one (s : ByteArray) (k : Nat) (h : k < s.size) : s.extract k (k + 1) = ⟨[s[k]].toArray⟩ := by
  have hl : s.data.toList.length = s.size := by simp
  have := ext_mk s.data.toList k (k + 1) (by omega)
  unfold mkS at this
  have e : (⟨s.data.toList.toArray⟩ : ByteArray) = s := by simp
  rw [e] at this
  rw [this]
  congr 2
  rw [take_snoc' s k h, List.drop_append_of_le_length (by rw [List.length_take]; omega), List.drop_eq_nil_of_le (by rw [List.length_take]; omega), List.nil_append]
set_option maxHeartbeats 1000000 in
theorem rletters_any (s : ByteArray) (w : World) (hs : s.size ≤ 1000000) :
    Calls Tryz.prog 165 #[.string s] w fun e w' => e = .returned (strV (lettersL s.data.toList)) ∧ w = w' := by
  have hl : s.data.toList.length = s.size := by simp
  have HL := Lib.hid hl; clear hl
  go_enter Tryz.func165, Tryz.ntmps165
  go_wp2_with fail
  go_loop [3, 4] (fun o i => ∃ k : Nat, k ≤ s.size ∧ i = .int .i64 k ∧ o = strV (lettersL (s.data.toList.take k))) (fun _ i => s.size - (intOf i).toNat)
  case atStart => exact ⟨0, by omega, rfl, rfl⟩
  case round =>
    obtain ⟨k, hk, rfl, rfl⟩ := hrel
    by_cases hlt : k < s.size
    · have hq : decide ((k : Int) < s.size) = true := by simp; omega
      have ht := Lib.hid (take_snoc' s k hlt)
      have hb := s[k].toNat_lt
      have hlen : (lettersL (s.data.toList.take k)).length ≤ 1000000 := by have := letters_len (s.data.toList.take k); have := List.length_take_le k s.data.toList; omega
      have hext := ext_one s k hlt
      cases hlo : isLow s[k]
      · have HN := Lib.hid (letters_no (s.data.toList.take k) s[k] hlo)
        have hc := hlo
        rw [low_iff, decide_eq_false_iff_not] at hc
        have hc' : (97 ≤ (s[k].toNat : Int) ∧ 122 < (s[k].toNat : Int)) ∨ (s[k].toNat : Int) < 97 := by omega
        clear hc hlo hext
        rcases hc' with ⟨g1, g2⟩ | g1
        all_goals
          go_wp2_with fail
          go_round
          case rel => exact ⟨k + 1, by omega, by go_num, by rw [ht.out, HN.out]⟩
          case measure => simp [intOf]; omega
      · have HY := Lib.hid (letters_yes (s.data.toList.take k) s[k] hlo)
        have hc := hlo
        rw [low_iff, decide_eq_true_iff] at hc
        obtain ⟨g1, g2⟩ := hc
        clear hlo
        go_wp2_with fail
        go_round
        case rel => exact ⟨k + 1, by omega, by go_num, by rw [ht.out, HY.out]⟩
        case measure => simp [intOf]; omega
    · obtain rfl : k = s.size := by omega
      have hq : decide ((s.size : Int) < s.size) = false := by simp
      have HF := Lib.hid (List.take_of_length_le (by rw [HL.out]; exact Nat.le_refl _) : s.data.toList.take s.size = s.data.toList)
      go_wp2_with fail
      go_ret
      exact ⟨by show Ending.returned (strV (lettersL (s.data.toList.take s.size))) = _; rw [HF.out], rfl⟩
theorem join_snoc (T : List (List UInt8)) (x : List UInt8) : joinL (T ++ [x]) = if T = [] then x else joinL T ++ [32] ++ x := by
  induction T with
  | nil => rfl
  | cons t T ih =>
    rw [if_neg (by simp)]
    by_cases hT : T = []
    · subst hT; simp [joinL]
    · rw [if_neg hT] at ih
      rw [List.cons_append, join_cons_ne _ _ (by simp), ih, join_cons_ne _ _ hT]; simp
theorem join_take_len (L : List (List UInt8)) : ∀ k, (joinL (L.take k)).length ≤ (joinL L).length := by
  induction L with
  | nil => intro k; simp
  | cons a L ih =>
    intro k
    cases k with
    | zero => simp [joinL]
    | succ k =>
      rw [List.take_succ_cons]
      by_cases hk : L.take k = []
      · rw [hk]
        by_cases hL : L = []
        · subst hL; simp [joinL]
        · rw [join_cons_ne _ _ hL]; simp [joinL]
      · have hL : L ≠ [] := by intro e; subst e; simp at hk
        rw [join_cons_ne _ _ hk, join_cons_ne _ _ hL]
        have := ih k; simp; omega
set_option maxHeartbeats 1000000 in
theorem rjoin_any (S : Nat → Prop) (v : Value) (L : List (List UInt8)) (w : World) (h : Vec w S 1 encS v L) (hn : L.length ≤ 1000000) (hj : (joinL L).length ≤ 1000000000) :
    Calls Tryz.prog 181 #[v] w fun e w' => e = .returned (strV (joinL L)) ∧ w = w' := by
  obtain ⟨a, cap, rfl⟩ := h.slice
  have HV := Lib.hid h; clear h
  go_enter Tryz.func181, Tryz.ntmps181
  go_wp2_with fail
  go_loop [3, 4] (fun o i => ∃ k : Nat, k ≤ L.length ∧ i = .int .i64 k ∧ o = strV (joinL (L.take k))) (fun _ i => L.length - (intOf i).toNat)
  case atStart => exact ⟨0, by omega, rfl, rfl⟩
  case round =>
    obtain ⟨k, hk, rfl, rfl⟩ := hrel
    have hlen := join_take_len L k
    by_cases hlt : k < L.length
    · have hq : decide ((k : Int) < L.length) = true := by simp; omega
      obtain ⟨b, off, rfl, _, hb, hc⟩ := vec_cell1 HV.out (by omega)
      have c1 := hc k hlt
      have htk := take_snocA L k hlt
      rw [show (default : List UInt8) = [] from rfl] at htk
      have hxl := join_take_len L (k + 1)
      have hsn := join_snoc (L.take k) (L.getD k [])
      rw [← htk] at hsn
      obtain ⟨x, hx⟩ : ∃ x, L.getD k [] = x := ⟨_, rfl⟩
      rw [hx] at c1 htk hsn
      have hx1 : x.length ≤ 1000000000 := by
        rw [hsn] at hxl
        split at hxl
        · omega
        · simp at hxl; omega
      have HSn := Lib.hid hsn
      clear hc htk hsn hx hxl
      by_cases hk0 : k = 0
      · subst hk0
        have e0 : joinL ([] : List (List UInt8)) = [] := rfl
        rw [Nat.add_zero] at c1
        go_wp2_with fail
        go_round
        case rel => exact ⟨1, by omega, by go_num, by rw [HSn.out, if_pos (by simp)]⟩
        case measure => simp [intOf]; omega
      · have hq0 : decide ((0 : Int) < k) = true := by simp; omega
        have hk1 : 0 < k := by omega
        have hne : L.take k ≠ [] := by intro e; have := congrArg List.length e; rw [List.length_take, List.length_nil] at this; omega
        have HNe := Lib.hid hne
        clear hk0 hne
        go_wp2_with fail
        go_round
        case rel => exact ⟨k + 1, by omega, by go_num, by rw [HSn.out, if_neg HNe.out]; simp⟩
        case measure => simp [intOf]; omega
    · obtain rfl : k = L.length := by omega
      have hq : decide ((L.length : Int) < L.length) = false := by simp
      have HF := Lib.hid (List.take_of_length_le (Nat.le_refl _) : L.take L.length = L)
      go_wp2_with fail
      go_ret
      exact ⟨rfl, rfl⟩
end
section
set_option maxRecDepth 100000
open Go.RowKit
attribute [local go_sem] toList_mk mk_size bytes_append
set_option maxHeartbeats 2000000 in
theorem rtokens_any (s : ByteArray) (w : World) (hs : s.size ≤ 1000000) :
    Calls Tryz.prog 178 #[.string s] w fun e w' => ∃ v, e = .returned v ∧ OwnAt w v (toks s.data.toList) w' := by
  have hl : s.data.toList.length = s.size := by simp
  have HL := Lib.hid hl; clear hl
  obtain ⟨l, hl⟩ : ∃ l, s.data.toList = l := ⟨_, rfl⟩
  rw [hl] at HL
  have HLs := Lib.hid hl
  rw [hl]
  clear hl
  go_enter Tryz.func178, Tryz.ntmps178
  go_wp2_with fail
  go_loopw [3, 4, 5] (fun v t i wr => ∃ (k : Nat) (C : List (List UInt8)) (p : List UInt8), k ≤ s.size + 1 ∧ i = .int .i64 k ∧ t = strV p ∧ OwnAt w v C wr ∧ p.length ≤ k ∧ C.length ≤ k ∧ (k = s.size + 1 → p = []) ∧ Hid (toks l = C ++ toksA p (l.drop k))) (fun _ _ i _ => s.size + 1 - (intOf i).toNat)
  case atStart => exact ⟨0, [], [], by omega, rfl, rfl, OwnAt.start w, by simp, by simp, by omega, Lib.hid rfl⟩
  case round =>
    obtain ⟨k, C, p, hk, rfl, rfl, ho, hp, hC, hpe, HT⟩ := hrel
    have HO := Lib.hid ho; have HPe := Lib.hid hpe
    clear ho hpe
    by_cases hlt : k < s.size
    · have hq : decide ((k : Int) ≤ s.size) = true := by simp; omega
      have hq2 : decide ((k : Int) < s.size) = true := by simp; omega
      have hdr := drop_one s k hlt
      rw [HLs.out] at hdr
      by_cases hsp : s[k] = 32
      · have e1 : ((s[k].toNat : Int) != 32) = false := by rw [hsp]; rfl
        rw [hsp] at hdr
        have HD := Lib.hid hdr
        clear hsp hdr
        by_cases hp0 : p = []
        · subst hp0
          go_wp2_with fail
          go_roundw
          case rel => exact ⟨k + 1, C, [], by omega, by go_num, rfl, HO.out, by simp, by omega, fun _ => rfl, Lib.hid (by rw [HT.out, HD.out, toksA_sp0])⟩
          case measure => simp [intOf]; try omega
        · have f1 : (p == []) = false := by simpa using hp0
          have f2 : p.isEmpty = false := by simpa using hp0
          have f3 : (p != []) = true := by simpa using hp0
          have HP0 := Lib.hid hp0; clear hp0
          have hone : ∀ u ∈ (#[strV p] : Array Value).toList, u.oneCell' = true := by intro u hu; simp at hu; subst hu; rfl
          go_wp2_with (at_builtin; refine wpList_append_new rfl _ _ 28 rfl w.heap.size 9 1 16 (.string ⟨#[]⟩) Tryz.underlying28 infoS rfl (by decide) (by decide) _ _ _ rfl HO.out.1 #[strV p] 1 rfl rfl hone (by omega) HO.out.2.size ?_; intro v2 w8 ho8 hw8)
          go_roundw
          case rel => exact ⟨k + 1, C ++ [p], [], by omega, by go_num, rfl, ⟨by rw [List.length_append, flat_snoc]; exact ho8, hw8 _ HO.out.2⟩, by simp, by rw [List.length_append, List.length_singleton]; omega, fun _ => rfl, Lib.hid (by rw [HT.out, HD.out, toksA_sp _ _ HP0.out]; simp)⟩
          case measure => simp [intOf]; try omega
      · have e1 : ((s[k].toNat : Int) != 32) = true := by
          simp only [bne_iff_ne, ne_eq]; intro e; apply hsp; rw [← UInt8.toNat_inj]; simp; omega
        have hext := ext_one s k hlt
        have HD := Lib.hid hdr; have HSp := Lib.hid hsp
        clear hsp hdr
        go_wp2_with fail
        go_roundw
        case rel => exact ⟨k + 1, C, p ++ [s[k]], by omega, by go_num, rfl, HO.out, by simp; omega, by omega, fun h => by omega, Lib.hid (by rw [HT.out, HD.out, toksA_ch _ _ _ HSp.out])⟩
        case measure => simp [intOf]; omega
    · by_cases hke : k = s.size
      · subst hke
        have hq : decide ((s.size : Int) ≤ s.size) = true := by simp
        have hq2 : decide ((s.size : Int) < s.size) = false := by simp
        have hdr : l.drop s.size = [] := List.drop_eq_nil_of_le (by rw [HL.out]; exact Nat.le_refl _)
        have hdr2 : l.drop (s.size + 1) = [] := List.drop_eq_nil_of_le (by rw [HL.out]; omega)
        have HD := Lib.hid hdr; have HD2 := Lib.hid hdr2
        clear hdr hdr2
        by_cases hp0 : p = []
        · subst hp0
          go_wp2_with fail
          go_roundw
          case rel => exact ⟨s.size + 1, C, [], by omega, by go_num, rfl, HO.out, by simp, by omega, fun _ => rfl, Lib.hid (by rw [HT.out, HD.out, HD2.out])⟩
          case measure => simp [intOf]; try omega
        · have f1 : (p == []) = false := by simpa using hp0
          have f2 : p.isEmpty = false := by simpa using hp0
          have f3 : (p != []) = true := by simpa using hp0
          have HP0 := Lib.hid hp0; clear hp0
          have hone : ∀ u ∈ (#[strV p] : Array Value).toList, u.oneCell' = true := by intro u hu; simp at hu; subst hu; rfl
          go_wp2_with (at_builtin; refine wpList_append_new rfl _ _ 28 rfl w.heap.size 9 1 16 (.string ⟨#[]⟩) Tryz.underlying28 infoS rfl (by decide) (by decide) _ _ _ rfl HO.out.1 #[strV p] 1 rfl rfl hone (by omega) HO.out.2.size ?_; intro v2 w8 ho8 hw8)
          go_roundw
          case rel => exact ⟨s.size + 1, C ++ [p], [], by omega, by go_num, rfl, ⟨by rw [List.length_append, flat_snoc]; exact ho8, hw8 _ HO.out.2⟩, by simp, by rw [List.length_append, List.length_singleton]; omega, fun _ => rfl, Lib.hid (by rw [HT.out, HD.out, HD2.out, toksA_end _ HP0.out]; simp [toksA])⟩
          case measure => simp [intOf]; try omega
      · have hq : decide ((k : Int) ≤ s.size) = false := by simp; omega
        obtain rfl : k = s.size + 1 := by omega
        obtain rfl : p = [] := HPe.out rfl
        have hdr2 : l.drop (s.size + 1) = [] := List.drop_eq_nil_of_le (by rw [HL.out]; omega)
        have hT := HT.out
        rw [hdr2] at hT
        have hT' : toks l = C := by rw [hT]; simp [toksA]
        rw [← hT'] at HO
        clear hT hT' hdr2 hke
        go_wp2_with fail
        go_ret
        exact ⟨_, rfl, HO.out⟩
end
section
set_option maxRecDepth 100000
open Go.RowKit
/-- does a text end with a space -/
def endsSp : List UInt8 → Bool
  | [] => false
  | [c] => c == 32
  | _ :: d :: r => endsSp (d :: r)
theorem ends_cons (c : UInt8) {R : List UInt8} (h : R ≠ []) : endsSp (c :: R) = endsSp R := by
  cases R with
  | nil => exact absurd rfl h
  | cons d r => rfl
theorem ends_snoc (R : List UInt8) (c : UInt8) : endsSp (R ++ [c]) = (c == 32) := by
  induction R with
  | nil => rfl
  | cons d R ih => rw [List.cons_append, ends_cons _ (by simp), ih]
theorem ends_app (R : List UInt8) {x : List UInt8} (h : x ≠ []) (h2 : ∀ b ∈ x, b ≠ 32) : endsSp (R ++ x) = false := by
  obtain ⟨y, c, rfl⟩ : ∃ y c, x = y ++ [c] := ⟨_, _, (List.dropLast_concat_getLast h).symm⟩
  rw [← List.append_assoc, ends_snoc]
  simpa using h2 c (by simp)
theorem toksA_only (x : List UInt8) (h2 : ∀ b ∈ x, b ≠ 32) : ∀ p, p ++ x ≠ [] → toksA p x = [p ++ x] := by
  induction x with
  | nil => intro p h; rw [List.append_nil] at h; rw [toksA_end _ h, List.append_nil]
  | cons c x ih =>
    intro p _
    rw [toksA_ch _ _ _ (h2 c List.mem_cons_self), ih (fun b hb => h2 b (List.mem_cons_of_mem _ hb)) _ (by simp)]
    simp
theorem join_nil {T : List (List UInt8)} (h : ∀ t ∈ T, t ≠ []) (e : joinL T = []) : T = [] := by
  cases T with
  | nil => rfl
  | cons t T =>
    exfalso
    by_cases hT : T = []
    · subst hT; exact h t List.mem_cons_self (by simpa [joinL] using e)
    · rw [join_cons_ne _ _ hT] at e; simp at e
theorem spaces_end (R : List UInt8) : toksA [] R = [] → endsSp (32 :: R) = true := by
  induction R with
  | nil => intro _; rfl
  | cons c R ih =>
    intro h
    rw [ends_cons _ (by simp)]
    by_cases hc : c = 32
    · subst hc
      rw [toksA_sp0] at h
      exact ih h
    · exfalso
      rw [toksA_ch _ _ _ hc] at h
      have := (toksA_len R ([] ++ [c])).2
      have h3 : ∀ (R : List UInt8) p, p ≠ [] → toksA p R ≠ [] := by
        intro R
        induction R with
        | nil => intro p hp; rw [toksA_end _ hp]; simp
        | cons d R ih2 =>
          intro p hp
          by_cases hd : d = 32
          · subst hd; rw [toksA_sp _ _ hp]; simp
          · rw [toksA_ch _ _ _ hd]; exact ih2 _ (by simp)
      exact h3 R _ (by simp) h
theorem toksA_more (R : List UInt8) {x : List UInt8} (h : x ≠ []) (h2 : ∀ b ∈ x, b ≠ 32) : ∀ p, toksA p (R ++ x) ≠ [] := by
  induction R with
  | nil => intro p; rw [List.nil_append, toksA_only x h2 p (by simp [h])]; simp
  | cons c R ih =>
    intro p
    rw [List.cons_append]
    by_cases hc : c = 32
    · subst hc
      by_cases hp : p = []
      · subst hp; rw [toksA_sp0]; exact ih []
      · rw [toksA_sp _ _ hp]; simp
    · rw [toksA_ch _ _ _ hc]; exact ih _
/-- a text goes on with bytes that are no spaces -/
theorem join_more {x : List UInt8} (h : x ≠ []) (h2 : ∀ b ∈ x, b ≠ 32) (R : List UInt8) : ∀ p, joinL (toksA p (R ++ x)) = joinL (toksA p R) ++ (if endsSp R = true ∧ joinL (toksA p R) ≠ [] then [32] else []) ++ x := by
  induction R with
  | nil =>
    intro p
    rw [List.nil_append, toksA_only x h2 p (by simp [h]), if_neg (by simp [endsSp])]
    by_cases hp : p = []
    · subst hp; simp [toksA, joinL]
    · rw [toksA_end _ hp]; simp [joinL]
  | cons c R ih =>
    intro p
    rw [List.cons_append]
    by_cases hc : c = 32
    · subst hc
      by_cases hp : p = []
      · subst hp
        rw [toksA_sp0, toksA_sp0, ih []]
        by_cases hR : R = []
        · subst hR; simp [endsSp, toksA, joinL]
        · rw [ends_cons _ hR]
      · rw [toksA_sp _ _ hp, toksA_sp _ _ hp, join_cons_ne _ _ (toksA_more R h h2 []), ih []]
        by_cases hT : toksA [] R = []
        · rw [hT]
          have he := spaces_end R hT
          rw [if_neg (by simp [joinL]), if_pos ⟨he, by simpa [joinL] using hp⟩]
          simp [joinL]
        · have hR : R ≠ [] := by intro e; subst e; exact hT rfl
          have hj : joinL (toksA [] R) ≠ [] := fun e => hT (join_nil (toksA_ne R []) e)
          rw [join_cons_ne _ _ hT, ends_cons _ hR]
          by_cases he : endsSp R = true
          · rw [if_pos ⟨he, hj⟩, if_pos ⟨he, by simp⟩]; simp
          · rw [if_neg (fun h => he h.1), if_neg (fun h => he h.1)]; simp
    · rw [toksA_ch _ _ _ hc, toksA_ch _ _ _ hc, ih]
      by_cases hR : R = []
      · subst hR
        rw [if_neg (by simp [endsSp]), if_neg (by simp [endsSp, hc])]
      · rw [ends_cons _ hR]
theorem fold_more {x : List UInt8} (h : x ≠ []) (h2 : ∀ b ∈ x, b ≠ 32) (R : List UInt8) : joinL (toks (R ++ x)) = joinL (toks R) ++ (if endsSp R = true ∧ joinL (toks R) ≠ [] then [32] else []) ++ x := join_more h h2 R []
theorem fold_space (R : List UInt8) : toks (R ++ [32]) = toks R := toksA_last R []
end
section
set_option maxRecDepth 100000
open Go.RowKit
attribute [local go_sem] toList_mk mk_size bytes_append
theorem ok_not_pair (s : ByteArray) (k : Nat) (hk : k < s.size) (h : okByte s[k] = true) : pairAt (s.data.toList.drop k) = false := by
  by_cases h2 : k + 1 < s.size
  · rw [drop_two s k h2]; exact byte_pair h
  · rw [drop_last s k (by omega)]; rfl
theorem pair_facts2 (s : ByteArray) (k : Nat) (h2 : k + 1 < s.size) (h : pairAt (s.data.toList.drop k) = true) : s[k] = 195 ∧ 128 ≤ (s[k + 1].toNat : Int) ∧ (s[k + 1].toNat : Int) ≤ 191 := by
  rw [drop_two s k h2] at h
  have h' : isPair s[k] s[k + 1] = true := h
  rw [pair_iff, decide_eq_true_iff] at h'
  exact ⟨by rw [← UInt8.toNat_inj]; simp; omega, h'.2⟩
set_option maxHeartbeats 2000000 in
theorem rvalid_text (s : ByteArray) (w : World) (hs : s.size ≤ 9223372036854775000) :
    Calls Tryz.prog 235 #[.string s] w fun e w' => e = .returned (.bool (foldV s.data.toList)) ∧ w = w' := by
  have hl : s.data.toList.length = s.size := by simp
  have HL := Lib.hid hl; clear hl
  unfold foldV
  by_cases h64 : s.size ≤ 64
  · have d1 : decide ((64 : Int) < s.size) = false := by simp; omega
    go_enter Tryz.func235, Tryz.ntmps235
    go_wp2_with fail
    clear d1
    go_loop [3] (fun i => ∃ k : Nat, k ≤ s.size ∧ i = .int .i64 k ∧ Hid (validL s.data.toList = validL (s.data.toList.drop k))) (fun i => s.size - (intOf i).toNat)
    case atStart => exact ⟨0, by omega, rfl, Lib.hid rfl⟩
    case round =>
      obtain ⟨k, hk, rfl, HV⟩ := hrel
      by_cases hlt : k < s.size
      · have hq : decide ((k : Int) < s.size) = true := by simp; omega
        have hb := s[k].toNat_lt
        cases hok : okByte s[k]
        · cases hp : pairAt (s.data.toList.drop k)
          · have hv := Lib.hid (valid_one s k hlt hp)
            have HOk := Lib.hid hok
            rw [ok_iff, decide_eq_false_iff_not] at hok
            have hc : (s[k].toNat : Int) < 32 ∨ (32 ≤ (s[k].toNat : Int) ∧ 126 < (s[k].toNat : Int)) := by omega
            clear hok
            have hfalse : validL s.data.toList = false := by rw [HV.out, hv.out, HOk.out]; rfl
            have HF := Lib.hid hfalse
            clear hfalse
            by_cases h195 : s[k] = 195
            · have e1 : ((s[k].toNat : Int) != 195) = false := by rw [h195]; rfl
              by_cases h2 : k + 1 < s.size
              · have e2 : ((k : Int) + 1 == (s.size : Int)) = false := by simp only [beq_eq_false_iff_ne, ne_eq]; omega
                rw [drop_two s k h2] at hp
                have hp' : isPair s[k] s[k + 1] = false := hp
                rw [pair_iff, decide_eq_false_iff_not] at hp'
                have h195' : (s[k].toNat : Int) = 195 := by rw [h195]; rfl
                have hc2 : (s[k + 1].toNat : Int) < 128 ∨ (128 ≤ (s[k + 1].toNat : Int) ∧ 191 < (s[k + 1].toNat : Int)) := by omega
                clear hp hp' h195 h195'
                rcases hc with g1 | ⟨g1, g2⟩ <;> rcases hc2 with g3 | ⟨g3, g4⟩
                all_goals
                  go_wp2_with fail
                  go_ret
                  exact ⟨ret_bool (by rw [HF.out]; try rfl), rfl⟩
              · have e2 : ((k : Int) + 1 == (s.size : Int)) = true := by simp only [beq_iff_eq]; omega
                clear hp h195
                rcases hc with g1 | ⟨g1, g2⟩
                all_goals
                  go_wp2_with fail
                  go_ret
                  exact ⟨ret_bool (by rw [HF.out]; try rfl), rfl⟩
            · have e1 : ((s[k].toNat : Int) != 195) = true := by
                simp only [bne_iff_ne, ne_eq]; intro e; apply h195; rw [← UInt8.toNat_inj]; simp; omega
              clear hp h195
              rcases hc with g1 | ⟨g1, g2⟩
              all_goals
                go_wp2_with fail
                go_ret
                exact ⟨ret_bool (by rw [HF.out]; try rfl), rfl⟩
          · have h2 := pairAt_lt s k hlt hp
            have hv := Lib.hid (valid_two s k hlt hp)
            obtain ⟨g0, g3, g4⟩ := pair_facts2 s k h2 hp
            have e1 : ((s[k].toNat : Int) != 195) = false := by rw [g0]; rfl
            have e2 : ((k : Int) + 1 == (s.size : Int)) = false := by simp only [beq_eq_false_iff_ne, ne_eq]; omega
            have g1 : 32 ≤ (s[k].toNat : Int) := by rw [g0]; decide
            have g2 : 126 < (s[k].toNat : Int) := by rw [g0]; decide
            clear hok hp g0
            go_wp2_with fail
            go_round
            case rel => exact ⟨k + 2, by omega, by go_num, Lib.hid (HV.out.trans hv.out)⟩
            case measure => simp [intOf]; omega
        · have hp := ok_not_pair s k hlt hok
          have hv := Lib.hid (valid_one s k hlt hp)
          have HOk := Lib.hid hok
          rw [ok_iff, decide_eq_true_iff] at hok
          obtain ⟨g1, g2⟩ := hok
          clear hp
          go_wp2_with fail
          go_round
          case rel => exact ⟨k + 1, by omega, by go_num, Lib.hid (HV.out.trans (by rw [hv.out, HOk.out]; rfl))⟩
          case measure => simp [intOf]; omega
      · have hq : decide ((k : Int) < s.size) = false := by simp; omega
        have hd : s.data.toList.drop k = [] := List.drop_eq_nil_of_le (by rw [HL.out]; omega)
        have HD := Lib.hid hd; clear hd
        go_wp2_with fail
        go_ret
        refine ⟨ret_bool ?_, rfl⟩
        rw [HV.out, HD.out]
        first | rfl | (rw [HL.out, decide_eq_true (by omega)]; rfl)
  · have d1 : decide ((64 : Int) < s.size) = true := by simp; omega
    go_enter Tryz.func235, Tryz.ntmps235
    go_wp2_with fail
    go_ret
    exact ⟨ret_bool (by rw [HL.out, decide_eq_false (by omega)]; simp), rfl⟩
end
section
set_option maxRecDepth 100000
open Go.RowKit
attribute [local go_sem] toList_mk mk_size bytes_append
def tabR : List UInt8 := [97, 97, 97, 97, 97, 97, 63, 63, 101, 101, 101, 101, 105, 105, 105, 105, 100, 110, 111, 111, 111, 111, 111, 63, 111, 117, 117, 117, 117, 121, 63, 63]
def replR (n : Nat) : List UInt8 := if n % 32 = 6 then [97, 101] else if n % 32 = 7 then [99] else if n % 32 = 23 then [] else if n % 32 = 30 then [116, 104] else if n = 31 then [115, 115] else if n = 63 then [121] else [tabR.getD (n % 32) 0]
theorem replB_is : ∀ n : Fin 64, replB (UInt8.ofNat (128 + n)) = replR n := by decide
theorem and_31 : ((List.range 64).all fun n => bits .and .u8 ((128 + n : Nat) : Int) 31 == ((n % 32 : Nat) : Int)) = true := by kernel_rfl
theorem tab_ext (r : Nat) (h : r < 32) : (⟨#[97, 97, 97, 97, 97, 97, 63, 63, 101, 101, 101, 101, 105, 105, 105, 105, 100, 110, 111, 111, 111, 111, 111, 63, 111, 117, 117, 117, 117, 121, 63, 63]⟩ : ByteArray).extract r (r + 1) = ⟨[tabR.getD r 0].toArray⟩ := by
  have h' : r < (⟨tabR.toArray⟩ : ByteArray).size := h
  have := ext_one ⟨tabR.toArray⟩ r h'
  refine this.trans ?_
  congr 3
  rw [List.getD, List.getElem?_eq_getElem (show r < tabR.length from h)]; rfl
set_option maxHeartbeats 2000000 in
theorem rrepl_any (x : UInt8) (w : World) (h1 : 128 ≤ (x.toNat : Int)) (h2 : (x.toNat : Int) ≤ 191) :
    Calls Tryz.prog 236 #[.int .u8 x.toNat] w fun e w' => e = .returned (strV (replB x)) ∧ w = w' := by
  obtain ⟨n, hn⟩ : ∃ n : Nat, x.toNat = 128 + n := ⟨x.toNat - 128, by omega⟩
  have hn64 : n < 64 := by omega
  have hx : x = UInt8.ofNat (128 + n) := by rw [← hn]; simp
  have hR : replB x = replR n := by rw [hx]; exact replB_is ⟨n, hn64⟩
  have hand : bits .and .u8 (x.toNat : Int) 31 = ((n % 32 : Nat) : Int) := by
    have := List.all_eq_true.1 and_31 n (List.mem_range.2 hn64)
    rw [hn]; simpa using this
  obtain ⟨r, hr⟩ : ∃ r, n % 32 = r := ⟨_, rfl⟩
  have hr32 : r < 32 := by omega
  have hRr : replR n = if r = 6 then [97, 101] else if r = 7 then [99] else if r = 23 then [] else if r = 30 then [116, 104] else if n = 31 then [115, 115] else if n = 63 then [121] else [tabR.getD r 0] := by unfold replR; rw [hr]
  rw [hR, hRr]
  rw [hr] at hand
  have hn1 : (x.toNat : Int) = 128 + (n : Int) := by omega
  have hb := x.toNat_lt
  have HR := Lib.hid hr; have HN := Lib.hid hn1
  clear hx hR hRr hr hn hn1
  by_cases c6 : r = 6
  · subst c6
    go_enter Tryz.func236, Tryz.ntmps236
    go_wp2_with fail
    go_ret
    exact ⟨rfl, rfl⟩
  · have e6 : ((r : Int) == 6) = false := by simp only [beq_eq_false_iff_ne, ne_eq]; omega
    rw [if_neg c6]
    by_cases c7 : r = 7
    · subst c7
      clear c6
      go_enter Tryz.func236, Tryz.ntmps236
      go_wp2_with fail
      go_ret
      exact ⟨rfl, rfl⟩
    · have e7 : ((r : Int) == 7) = false := by simp only [beq_eq_false_iff_ne, ne_eq]; omega
      rw [if_neg c7]
      by_cases c23 : r = 23
      · subst c23
        clear c6 c7
        go_enter Tryz.func236, Tryz.ntmps236
        go_wp2_with fail
        go_ret
        exact ⟨rfl, rfl⟩
      · have e23 : ((r : Int) == 23) = false := by simp only [beq_eq_false_iff_ne, ne_eq]; omega
        rw [if_neg c23]
        by_cases c30 : r = 30
        · subst c30
          clear c6 c7 c23
          go_enter Tryz.func236, Tryz.ntmps236
          go_wp2_with fail
          go_ret
          exact ⟨rfl, rfl⟩
        · have e30 : ((r : Int) == 30) = false := by simp only [beq_eq_false_iff_ne, ne_eq]; omega
          rw [if_neg c30]
          by_cases n31 : n = 31
          · have e31 : ((x.toNat : Int) == 159) = true := by simp only [beq_iff_eq]; rw [HN.out]; omega
            rw [if_pos n31]
            clear c6 c7 c23 c30 n31
            go_enter Tryz.func236, Tryz.ntmps236
            go_wp2_with fail
            go_ret
            exact ⟨rfl, rfl⟩
          · have e31 : ((x.toNat : Int) == 159) = false := by simp only [beq_eq_false_iff_ne, ne_eq]; rw [HN.out]; omega
            rw [if_neg n31]
            by_cases n63 : n = 63
            · have e63 : ((x.toNat : Int) == 191) = true := by simp only [beq_iff_eq]; rw [HN.out]; omega
              rw [if_pos n63]
              clear c6 c7 c23 c30 n31 n63
              go_enter Tryz.func236, Tryz.ntmps236
              go_wp2_with fail
              go_ret
              exact ⟨rfl, rfl⟩
            · have e63 : ((x.toNat : Int) == 191) = false := by simp only [beq_eq_false_iff_ne, ne_eq]; rw [HN.out]; omega
              rw [if_neg n63]
              have hext := tab_ext r hr32
              clear c6 c7 c23 c30 n31 n63
              go_enter Tryz.func236, Tryz.ntmps236
              go_wp2_with fail
              go_ret
              exact ⟨rfl, rfl⟩
end
section
set_option maxRecDepth 100000
open Go.RowKit
attribute [local go_sem] toList_mk mk_size bytes_append
/-- what one step of Fold does at place k: place k', what is added, what the raw text has there, is a separator due -/
structure FoldSt (s : ByteArray) (k : Nat) (b : Bool) (k' : Nat) (b' : Bool) (x y : List UInt8) : Prop where
  raw : rawL (s.data.toList.drop k) = y ++ rawL (s.data.toList.drop (k' + 1))
  val : validL (s.data.toList.drop (k' + 1)) = true
  lo : k ≤ k'
  hi : k' < s.size
  len : x.length ≤ 2
  way : (x = y ∧ b' = b ∧ ∀ c ∈ x, c ≠ 32) ∨ (x = [] ∧ y = [32] ∧ b' = true)
theorem replB_sp : ∀ n : Fin 64, ((replB (UInt8.ofNat (128 + n))).all fun c => c != 32) = true := by decide
theorem FoldSt.pair {s : ByteArray} {k : Nat} {b : Bool} (h2 : k + 1 < s.size) (hp : pairAt (s.data.toList.drop k) = true) (hv : validL (s.data.toList.drop k) = true) : FoldSt s k b (k + 1) b (replB s[k + 1]) (replB s[k + 1]) := by
  obtain ⟨_, g1, g2⟩ := pair_facts2 s k h2 hp
  refine ⟨raw_two s k h2 hp, by rw [← valid_two s k (by omega) hp]; exact hv, by omega, h2, (replB_ok _).2, .inl ⟨rfl, rfl, fun c hc => ?_⟩⟩
  obtain ⟨n, hn⟩ : ∃ n : Nat, s[k + 1].toNat = 128 + n := ⟨s[k + 1].toNat - 128, by omega⟩
  have hx : s[k + 1] = UInt8.ofNat (128 + n) := by rw [← hn]; simp
  have := replB_sp ⟨n, by omega⟩
  rw [hx] at hc
  simpa using List.all_eq_true.1 this c hc
theorem FoldSt.one {s : ByteArray} {k : Nat} {b : Bool} (hk : k < s.size) (hp : pairAt (s.data.toList.drop k) = false) (hv : validL (s.data.toList.drop k) = true) {x : List UInt8} (hx : plainB s[k] = x) (h32 : ∀ c ∈ x, c ≠ 32) : FoldSt s k b k b x x := by
  have h1 := valid_one s k hk hp
  rw [h1, Bool.and_eq_true] at hv
  exact ⟨by rw [raw_one s k hk hp, hx], hv.2, Nat.le_refl _, hk, by rw [← hx]; have := (plainB_ok s[k]).2; omega, .inl ⟨rfl, rfl, h32⟩⟩
theorem FoldSt.sep {s : ByteArray} {k : Nat} {b : Bool} (hk : k < s.size) (hp : pairAt (s.data.toList.drop k) = false) (hv : validL (s.data.toList.drop k) = true) (hx : plainB s[k] = [32]) : FoldSt s k b k true [] [32] := by
  have h1 := valid_one s k hk hp
  rw [h1, Bool.and_eq_true] at hv
  exact ⟨by rw [raw_one s k hk hp, hx], hv.2, Nat.le_refl _, hk, by simp, .inr ⟨rfl, rfl, rfl⟩⟩
theorem plain_no32 {c : UInt8} (h : isUp c = true ∨ isLow c = true ∨ isDgt c = true) : ∀ d ∈ plainB c, d ≠ 32 := by
  intro d hd
  unfold plainB at hd
  split at hd
  · rename_i hu
    simp at hd; subst hd
    rw [up_iff, decide_eq_true_iff] at hu
    intro e
    have : (c + 32).toNat = 32 := by rw [e]; rfl
    rw [UInt8.toNat_add] at this
    simp at this; omega
  · split at hd
    · rename_i h1 h2
      simp at hd; subst hd
      simp only [Bool.or_eq_true] at h2
      intro e; subst e
      rcases h2 with h2 | h2
      · rw [low_iff] at h2; simp at h2
      · rw [dig_iff] at h2; simp at h2
    · rename_i h1 h2
      exfalso
      rcases h with h | h | h
      · exact h1 h
      · exact h2 (by simp [h])
      · exact h2 (by simp [h])
/-- what the loop of Fold holds -/
structure FoldIn (s : ByteArray) (w : World) (k : Nat) (R : List UInt8) (b : Bool) (wr : World) : Prop where
  raw : R ++ rawL (s.data.toList.drop k) = rawL s.data.toList
  sep : b = endsSp R
  val : validL (s.data.toList.drop k) = true
  bel : Below w.heap.size w wr
theorem FoldIn.len {s : ByteArray} {w : World} {k : Nat} {R : List UInt8} {b : Bool} {wr : World} (h : FoldIn s w k R b wr) (hs : s.size ≤ 64) : (joinL (toks R)).length ≤ 64 := by
  have h1 := congrArg List.length h.raw
  have h2 := (raw_ok s.data.toList).2
  have h3 := (toksA_len R []).1
  have hl : s.data.toList.length = s.size := by simp
  unfold toks
  simp at h1 h3; omega
set_option maxHeartbeats 8000000 in
theorem rfold_yes (s : ByteArray) (w : World) (hv : foldV s.data.toList = true) :
    Calls Tryz.prog 177 #[.string s] w fun e w' => e = .returned (.tuple #[strV (foldL s.data.toList), .int .i64 0]) ∧ Below w.heap.size w w' := by
  have hl : s.data.toList.length = s.size := by simp
  have hv' := hv
  unfold foldV at hv'
  rw [Bool.and_eq_true, decide_eq_true_iff, hl] at hv'
  obtain ⟨hval, hs⟩ := hv'
  have HL := Lib.hid hl; have HV := Lib.hid hv
  have K0 := Lib.hid (show FoldIn s w 0 [] false w from ⟨rfl, rfl, hval, Below.refl _ _⟩)
  clear hl hv hval
  go_enter Tryz.func177, Tryz.ntmps177
  go_wp2_with fail
  refine (rvalid_text s _ (by omega)).mono ?_
  rw [HV.out]
  rintro e w' ⟨rfl, rfl⟩
  go_wp2_with fail
  go_loopw [4, 5, 6] (fun o t i wr => ∃ (k : Nat) (R : List UInt8) (b : Bool), k ≤ s.size ∧ o = strV (joinL (toks R)) ∧ t = .bool b ∧ i = .int .i64 k ∧ FoldIn s w k R b wr) (fun _ _ i _ => s.size - (intOf i).toNat)
  case atStart => exact ⟨0, [], false, by omega, rfl, rfl, rfl, K0.out⟩
  case round =>
    obtain ⟨k, R, b, hk, rfl, rfl, rfl, hin⟩ := hrel
    have hO := hin.len hs
    have HI := Lib.hid hin
    clear hin K0
    obtain ⟨O, hOe⟩ : ∃ O, joinL (toks R) = O := ⟨_, rfl⟩
    have HOe := Lib.hid hOe
    rw [hOe] at hO ⊢
    clear hOe
    by_cases hlt : k < s.size
    · have hq : decide ((k : Int) < s.size) = true := by simp; omega
      have hb := s[k].toNat_lt
      go_upto_block 2 with (fail)
      go_cut [5, 6, 8] (fun s5 s6 s8 wx => ∃ (k' : Nat) (b' : Bool) (x y : List UInt8), s5 = .bool b' ∧ s6 = .int .i64 k' ∧ s8 = strV x ∧ FoldSt s k b k' b' x y ∧ Below w.heap.size w wx)
      case first =>
        cases hp : pairAt (s.data.toList.drop k)
        · have hval := HI.out.val
          have hval2 := hval
          rw [valid_one s k hlt hp, Bool.and_eq_true] at hval2
          have hok := hval2.1
          rw [ok_iff, decide_eq_true_iff] at hok
          have e195 : ((s[k].toNat : Int) == 195) = false := by simp only [beq_eq_false_iff_ne, ne_eq]; omega
          have HP := Lib.hid hp; have HVl := Lib.hid hval
          clear hp hval hval2
          cases hu : isUp s[k]
          · have hu' := hu
            rw [up_iff, decide_eq_false_iff_not] at hu'
            have hcu : (65 ≤ (s[k].toNat : Int) ∧ 90 < (s[k].toNat : Int)) ∨ (s[k].toNat : Int) < 65 := by omega
            cases hlo : isLow s[k]
            · have hlo' := hlo
              rw [low_iff, decide_eq_false_iff_not] at hlo'
              have hcl : (97 ≤ (s[k].toNat : Int) ∧ 122 < (s[k].toNat : Int)) ∨ (s[k].toNat : Int) < 97 := by omega
              cases hdi : isDgt s[k]
              · have hdi' := hdi
                rw [dig_iff, decide_eq_false_iff_not] at hdi'
                have hcd : (48 ≤ (s[k].toNat : Int) ∧ 57 < (s[k].toNat : Int)) ∨ (s[k].toNat : Int) < 48 := by omega
                cases ha : ((s[k].toNat : Int) == 39)
                · have this : (s[k] == 39) = false := by simp at ha ⊢; intro h; rw [h] at ha; simp at ha
                  have hpl : plainB s[k] = [32] := by simp [plainB, hu, hlo, hdi, this]
                  have ha2 : ((s[k].toNat : Int) != 39) = true := by simpa using ha
                  have HS := Lib.hid (FoldSt.sep (b := b) hlt HP.out HVl.out hpl)
                  clear hu hu' hlo hlo' hdi hdi' this hpl hok
                  rcases hcu with ⟨g1, g2⟩ | g1 <;> rcases hcl with ⟨g3, g4⟩ | g3 <;> rcases hcd with ⟨g5, g6⟩ | g5
                  all_goals first
                    | (exfalso; omega)
                    | (go_wp2_with fail; go_meet; exact ⟨k, true, [], [32], rfl, rfl, rfl, HS.out, HI.out.bel⟩)
                · have this : (s[k] == 39) = true := by simp [← UInt8.toNat_inj] at ha ⊢; omega
                  have hpl : plainB s[k] = [] := by simp [plainB, hu, hlo, hdi, this]
                  have ha2 : ((s[k].toNat : Int) != 39) = false := by simpa using ha
                  have HS := Lib.hid (FoldSt.one (b := b) hlt HP.out HVl.out hpl (by simp))
                  clear hu hu' hlo hlo' hdi hdi' this hpl hok
                  rcases hcu with ⟨g1, g2⟩ | g1 <;> rcases hcl with ⟨g3, g4⟩ | g3 <;> rcases hcd with ⟨g5, g6⟩ | g5
                  all_goals first
                    | (exfalso; simp at ha; omega)
                    | (go_wp2_with fail; go_meet; exact ⟨k, b, [], [], rfl, rfl, rfl, HS.out, HI.out.bel⟩)
              · have hdi' := hdi
                rw [dig_iff, decide_eq_true_iff] at hdi'
                obtain ⟨g5, g6⟩ := hdi'
                have hpl : plainB s[k] = [s[k]] := by simp [plainB, hu, hlo, hdi]
                have HS := Lib.hid (FoldSt.one (b := b) hlt HP.out HVl.out hpl (by rw [← hpl]; exact plain_no32 (.inr (.inr hdi))))
                have hcv := one_byte wr s[k]
                have g1 : (s[k].toNat : Int) < 65 := by omega
                have g3 : (s[k].toNat : Int) < 97 := by omega
                clear hu hu' hlo hlo' hdi hpl hok hcu hcl
                go_wp2_with fail
                go_meet
                exact ⟨k, b, [s[k]], [s[k]], rfl, rfl, rfl, HS.out, HI.out.bel.alloc HI.out.bel.size _⟩
            · have hlo' := hlo
              rw [low_iff, decide_eq_true_iff] at hlo'
              obtain ⟨g3, g4⟩ := hlo'
              have hpl : plainB s[k] = [s[k]] := by simp [plainB, hu, hlo]
              have HS := Lib.hid (FoldSt.one (b := b) hlt HP.out HVl.out hpl (by rw [← hpl]; exact plain_no32 (.inr (.inl hlo))))
              have hcv := one_byte wr s[k]
              have g1 : 65 ≤ (s[k].toNat : Int) := by omega
              have g2 : 90 < (s[k].toNat : Int) := by omega
              clear hu hu' hlo hpl hok hcu
              go_wp2_with fail
              go_meet
              exact ⟨k, b, [s[k]], [s[k]], rfl, rfl, rfl, HS.out, HI.out.bel.alloc HI.out.bel.size _⟩
          · have hu' := hu
            rw [up_iff, decide_eq_true_iff] at hu'
            obtain ⟨g1, g2⟩ := hu'
            have hpl : plainB s[k] = [s[k] + 32] := by simp [plainB, hu]
            have HS := Lib.hid (FoldSt.one (b := b) hlt HP.out HVl.out hpl (by rw [← hpl]; exact plain_no32 (.inl hu)))
            have hcv := one_byte wr (s[k] + 32)
            have e2 : ((s[k] + 32).toNat : Int) = (s[k].toNat : Int) + 32 := by rw [UInt8.toNat_add]; simp; omega
            rw [e2] at hcv
            clear hu hpl hok e2
            go_wp2_with fail
            go_meet
            exact ⟨k, b, [s[k] + 32], [s[k] + 32], rfl, rfl, rfl, HS.out, HI.out.bel.alloc HI.out.bel.size _⟩
        · have h2 := pairAt_lt s k hlt hp
          obtain ⟨g0, g1, g2⟩ := pair_facts2 s k h2 hp
          have HS := Lib.hid (FoldSt.pair (b := b) h2 hp HI.out.val)
          have e195 : ((s[k].toNat : Int) == 195) = true := by rw [g0]; rfl
          clear hp g0
          go_wp2_with fail
          refine (rrepl_any s[k + 1] _ g1 g2).mono ?_
          rintro e w' ⟨rfl, rfl⟩
          go_wp2_with fail
          go_meet
          exact ⟨k + 1, b, replB s[k + 1], replB s[k + 1], rfl, by go_num, rfl, HS.out, HI.out.bel⟩
      case rest =>
        obtain ⟨k', b', x, y, rfl, rfl, rfl, hst, hbl⟩ := hcut
        have HS := Lib.hid hst; have HB := Lib.hid hbl
        have hk1 := hst.lo
        have hk2 := hst.hi
        have hxl := hst.len
        clear hst hbl
        by_cases hx : x = []
        · subst hx
          have KN : ∃ R', FoldIn s w (k' + 1) R' b' wc ∧ joinL (toks R') = O := by
            have hi := HI.out
            have hst := HS.out
            rcases hst.way with ⟨h1, h2, _⟩ | ⟨_, h1, h2⟩
            · subst h1; subst h2
              exact ⟨R, ⟨by have := hst.raw; simp only [List.nil_append] at this; rw [← this]; exact hi.raw, hi.sep, hst.val, HB.out⟩, HOe.out⟩
            · subst h1; subst h2
              exact ⟨R ++ [32], ⟨by rw [List.append_assoc, ← hst.raw]; exact hi.raw, (ends_snoc R 32).symm, hst.val, HB.out⟩, by rw [fold_space, HOe.out]⟩
          obtain ⟨R', hR1, hR2⟩ := KN
          have HR1 := Lib.hid hR1; have HR2 := Lib.hid hR2
          clear hR1 hR2
          go_wp2_with fail
          go_roundw
          case rel => exact ⟨k' + 1, R', b', by omega, by rw [HR2.out], rfl, by go_num, HR1.out⟩
          case measure => simp [intOf]; omega
        · have f1 : (x == []) = false := by simpa using hx
          have f2 : x.isEmpty = false := by simpa using hx
          have hst := HS.out
          obtain ⟨h1, h2, h3⟩ := hst.way.resolve_right (fun h => hx h.1)
          subst h1 h2
          have hmore := fold_more hx h3 R
          have hends := ends_app R hx h3
          have KN := Lib.hid (show FoldIn s w (k' + 1) (R ++ x) false wc from ⟨by rw [List.append_assoc, ← hst.raw]; exact HI.out.raw, hends.symm, hst.val, HB.out⟩)
          rw [← HI.out.sep, HOe.out] at hmore
          have HMore := Lib.hid hmore
          clear hst hmore hends h3 hx
          cases b'
          · go_wp2_with fail
            go_roundw
            case rel => exact ⟨k' + 1, R ++ x, false, by omega, by rw [HMore.out]; simp, rfl, by go_num, KN.out⟩
            case measure => simp [intOf]; omega
          · by_cases hO0 : O = []
            · have f3 : (O == []) = true := by rw [hO0]; rfl
              have f4 : (O != []) = false := by rw [hO0]; rfl
              have HO0 := Lib.hid hO0
              clear hO0
              go_wp2_with fail
              go_roundw
              case rel => exact ⟨k' + 1, R ++ x, false, by omega, by rw [HMore.out, HO0.out]; simp, rfl, by go_num, KN.out⟩
              case measure => simp [intOf]; omega
            · have f3 : (O == []) = false := by simpa using hO0
              have f4 : (O != []) = true := by simpa using hO0
              have f5 : O.isEmpty = false := by simpa using hO0
              have HO0 := Lib.hid hO0
              clear hO0
              go_wp2_with fail
              go_roundw
              case rel => exact ⟨k' + 1, R ++ x, false, by omega, by rw [HMore.out, if_pos ⟨rfl, HO0.out⟩]; simp, rfl, by go_num, KN.out⟩
              case measure => simp [intOf]; omega
    · have hq : decide ((k : Int) < s.size) = false := by simp; omega
      have hfin : foldL s.data.toList = O := by
        have hi := HI.out
        have hd : s.data.toList.drop k = [] := List.drop_eq_nil_of_le (by rw [HL.out]; omega)
        have hr := hi.raw
        rw [hd, show rawL [] = [] from rfl, List.append_nil] at hr
        unfold foldL
        rw [← hr]; exact HOe.out
      have HF := Lib.hid hfin
      clear hfin
      go_wp2_with fail
      go_ret2
      exact ⟨by show Ending.returned (.tuple #[strV O, .int .i64 0]) = _; rw [HF.out], HI.out.bel⟩
set_option maxHeartbeats 400000 in
theorem rfold_no (s : ByteArray) (w : World) (hs : s.size ≤ 9223372036854775000) (hv : foldV s.data.toList = false) :
    Calls Tryz.prog 177 #[.string s] w fun e w' => e = .returned (.tuple #[strV [], .int .i64 3]) ∧ Below w.heap.size w w' := by
  have HV := Lib.hid hv; clear hv
  go_enter Tryz.func177, Tryz.ntmps177
  go_wp2_with fail
  refine (rvalid_text s _ hs).mono ?_; rw [HV.out]; rintro e w' ⟨rfl, rfl⟩
  go_wp2_with fail
  go_ret2
  exact ⟨rfl, Below.refl _ _⟩
end
end Go.Proofs.YtoeplomdcannlaaGreatDoor
